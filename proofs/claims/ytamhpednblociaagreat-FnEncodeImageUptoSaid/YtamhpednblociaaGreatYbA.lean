/-
  A part of the proofs of several laws (see the last file): no condition.
-/
import Derived.OrdersHeld
import Derived.Below
import Derived.KernelRfl
import Derived.Laws.AppendOwn
import Derived.Laws.MakeOwn
import Derived.IntWalk
import Derived.Lib.AppendZeros
set_option linter.all false
set_option linter.unusedVariables false
set_option linter.unusedSimpArgs false
set_option linter.unusedSectionVars false
set_option maxRecDepth 10000
set_option maxHeartbeats 4000000
namespace Go.Abs
abbrev LI:=List Int
theorem ob {p:Prop} (h:p:=by first|assumption|omega|rfl|(simp<;>omega)):p:=h
theorem kr {p:Prop} (h:p:=by kernel_rfl):p:=h
theorem om {p:Prop} (h:p:=by omega):p:=h
def Za:=@if_neg
def Ze:=@beq_iff_eq
def Zk:=@if_pos
def ZX:=@List.length_append
def Y3:=@List.mem_of_getElem?
def Yg:=@Bool.eq_iff_iff
def Yl:=@congrArg
def Yo:=@List.length_cons
def Yp:=@bne_iff_ne
def YC:=@List.length_nil
def YN:=@List.mem_cons
def X0:=@Nat.le_refl
def Xa:=@List.mem_cons_self
def Xb:=@Bool.and_eq_true
def Xh:=@List.getElem?_eq_some_iff
def Xj:=@List.mem_cons_of_mem
def Xl:=@List.mem_append
def Xy:=@List.mem_singleton
def XH:=@List.mem_map
def XW:=@List.append_assoc
def Wi:=@List.length_take
def Wj:=@Nat.zero_add
def Wp:=@Option.some.injEq
def WI:=@List.take_of_length_le
def V6:=@Nat.le_trans
def Vb:=@Nat.le_of_ble_eq_true
def Vg:=@List.pairwise_cons
def VP:=@Classical.not_not
def VQ:=@List.length_set
def Ub:=@List.take_length
def Uc:=@Nat.min_eq_left
def UP:=@Array.getElem?_eq_some_iff
def UY:=@Array.toArray_toList
def UZ:=@Int.toNat_natCast
def T0:=@List.append_nil
def T1:=@Nat.eq_of_beq_eq_true
def Tk:=@List.map_cons
def TA:=@List.take_append_drop
def TI:=@List.Perm.refl
def TJ:=@Nat.add_mul
def Q8:=@Bool.eq_false_iff
def Q9:=@Nat.zero_le
def Qt:=@List.getElem?_take
def QP:=@List.mem_of_mem_take
def Kk:=@List.drop_zero
def Kl:=@List.getElem?_eq_none
def Km:=@List.length_map
def Jl:=@List.getElem?_map
def Jm:=@List.nil_append
def Jn:=@List.take_left
def Jo:=@Nat.mul_le_mul_right
def JT:=@Array.length_toList
def JU:=@List.all_eq_true
def JV:=@List.getElem?_append_left
def AA:=@List.cons_append
def AB:=@List.take_succ_cons
def AC:=@Nat.add_assoc
def AE:=@Nat.mul_one
def Bk:=@List.length_singleton
def Bl:=@List.pairwise_append
def C7:=@Classical.byContradiction
def C8:=@List.flatMap_cons
def C9:=@List.length_pos_iff
def Ca:=@List.sublist_cons_self
def Cb:=@Nat.add_zero
def D8:=@List.getElem?_append_right
def D9:=@List.getElem?_eq_getElem
def Da:=@Option.some.inj
def Ej:=@List.pairwise_singleton
def Ek:=@List.replicate_succ
def FL:=@List.length_drop
def FM:=@List.map_nil
def FP:=@List.map_toArray
def FQ:=@List.size_toArray
def FT:=@List.toList_toArray
def FU:=@Nat.lt_or_ge
def FV:=@Option.map_some
def I7:=@Array.getElem?_toList
def I8:=@Array.toList_append
def I9:=@List.set_eq_take_append_cons_drop
def Ia:=@Nat.eq_of_mul_eq_mul_right
def MY:=@List.drop_eq_getElem_cons
def MZ:=@List.drop_eq_nil_of_le
def N0:=@Nat.lt_of_lt_of_le
end Go.Abs
namespace Go.Abs
inductive AV where
 | any
 | val (v:Value)
 | sl (es:List AV) (hv:Option Value)
 | agg (ls:List AV)
 | rp (ls:List AV)
 | tup (vs:List AV)
abbrev Ym:=Nat->Nat->Prop
def AV.leaves:AV->List AV
 | .agg ls=>ls
 | x=>[x]
mutual
inductive RV (w:World) (G:Ym):AV->Value->Prop
 | any {v}:RV w G .any v
 | val {v}:RV w G (.val v) v
 | nil {hv a cap} (h:∀x,hv=some x->x=.slice a 0 cap):RV w G (.sl [] hv) (.slice a 0 cap)
 | sl {es hv b o k cap} (h:∀x,hv=some x->x=.slice (some ⟨b,o,none⟩) es.length cap) (hc:es.length<=cap) (hm:Vh w G k b o es) :
   RV w G (.sl es hv) (.slice (some ⟨b,o,none⟩) es.length cap)
 | agg {ls cs} (h:YT w G ls cs):RV w G (.agg ls) (.agg cs.toArray)
 | rp {ls b o} (h:Wv w G b o ls):RV w G (.rp ls) (.pointer (some ⟨b,o,none⟩))
 | tup {vs cs} (h:YT w G vs cs):RV w G (.tup vs) (.tuple cs.toArray)
inductive YT (w:World) (G:Ym):List AV->List Value->Prop
 | nil:YT w G [] []
 | cons {x v xs vs} (h:RV w G x v) (t:YT w G xs vs):YT w G (x::xs) (v::vs)
inductive Wv (w:World) (G:Ym):Nat->Nat->List AV->Prop
 | nil {b o}:Wv w G b o []
 | cons {b o x c xs} (hc:w.cell? ⟨b,o,none⟩=some c) (hg:G b o) (h:RV w G x c) (t:Wv w G b (o+1) xs):Wv w G b o (x::xs)
inductive Vh (w:World) (G:Ym):Nat->Nat->Nat->List AV->Prop
 | nil {k b o}:Vh w G k b o []
 | cons {k b o x xs} (hl:x.leaves.length=k) (h:Wv w G b o x.leaves) (t:Vh w G k b (o+k) xs):Vh w G k b o (x::xs)
end
structure VY (G:Ym) (w w':World) (G':Ym):Prop where
 cell:∀b o,G b o->w'.cell? ⟨b,o,none⟩=w.cell? ⟨b,o,none⟩
 sub:∀b o,G b o->G' b o
section mono
variable {w w':World} {G G':Ym}
mutual
theorem RV.mono {x:AV} {v:Value} (hA:VY G w w' G'):RV w G x v->RV w' G' x v
 | .any=>.any
 | .val=>.val
 | .nil h=>.nil h
 | .sl h hc hm=>.sl h hc (hm.mono hA)
 | .agg h=>.agg (h.mono hA)
 | .rp h=>.rp (h.mono hA)
 | .tup h=>.tup (h.mono hA)
theorem YT.mono {xs:List AV} {vs:List Value} (hA:VY G w w' G'):YT w G xs vs->YT w' G' xs vs
 | .nil=>.nil
 | .cons h t=>.cons (h.mono hA) (t.mono hA)
theorem Wv.mono {b o:Nat} {xs:List AV} (hA:VY G w w' G'):Wv w G b o xs->Wv w' G' b o xs
 | .nil=>.nil
 | .cons hc hg h t=>.cons ((hA.cell _ _ hg).trans hc) (hA.sub _ _ hg) (h.mono hA) (t.mono hA)
theorem Vh.mono {k b o:Nat} {xs:List AV} (hA:VY G w w' G'):Vh w G k b o xs->Vh w' G' k b o xs
 | .nil=>.nil
 | .cons hl h t=>.cons hl (h.mono hA) (t.mono hA)
end
end mono
theorem YT.length {w:World} {G:Ym}:∀{xs:List AV} {vs:List Value},YT w G xs vs->vs.length=xs.length
 | _,_,.nil=>rfl
 | _,_,.cons _ t=>by simp [t.length]
theorem YT.get {w:World} {G:Ym}:∀{xs:List AV} {vs:List Value},YT w G xs vs->∀(i:Nat) (x:AV),xs[i]? = some x->∃v,vs[i]? = some v/\RV w G x v
 | _,_,.nil,i,x,h=>by simp at h
 | _,_,.cons h t,0,x,hx=>by simp at hx;subst hx;exact ⟨_,rfl,h⟩
 | _,_,.cons h t,i+1,x,hx=>by simpa using t.get i x (by simpa using hx)
theorem YT.append {w:World} {G:Ym}:∀{xs ys:List AV} {vs us:List Value},YT w G xs vs->YT w G ys us->YT w G (xs++ys) (vs++us)
 | _,_,_,_,.nil,h=>h
 | _,_,_,_,.cons h t,h2=>.cons h (t.append h2)
theorem YT.take {w:World} {G:Ym}:∀{xs:List AV} {vs:List Value} (n:Nat),YT w G xs vs->YT w G (xs.take n) (vs.take n)
 | _,_,0,_=>by simp;exact .nil
 | _,_,n+1,.nil=>by simp;exact .nil
 | _,_,n+1,.cons h t=>by simp;exact .cons h (t.take n)
theorem YT.drop {w:World} {G:Ym}:∀{xs:List AV} {vs:List Value} (n:Nat),YT w G xs vs->YT w G (xs.drop n) (vs.drop n)
 | _,_,0,h=>by simpa using h
 | _,_,n+1,.nil=>by simp;exact .nil
 | _,_,n+1,.cons h t=>by simpa using t.drop n
theorem YT.set {w:World} {G:Ym}:∀{xs:List AV} {vs:List Value} (n:Nat) {x:AV} {v:Value},YT w G xs vs->RV w G x v->YT w G (xs.set n x) (vs.set n v)
 | _,_,_,_,_,.nil,_=>by simp;exact .nil
 | _,_,0,_,_,.cons h t,hx=>by simp;exact .cons hx t
 | _,_,n+1,_,_,.cons h t,hx=>by simp;exact .cons h (t.set n hx)
theorem Wv.drop {w:World} {G:Ym}:∀(n:Nat) {b o:Nat} {xs:List AV},Wv w G b o xs->Wv w G b (o+n) (xs.drop n)
 | 0,_,_,_,h=>by simpa using h
 | n+1,_,_,_,.nil=>by simp;exact .nil
 | n+1,_,_,_,.cons hc hg h t=>by
  have:=t.drop n
  simp only [List.drop_succ_cons]
  rw [show ∀o:Nat,o+(n+1)=o+1+n from fun o=>by omega]
  exact this
theorem Wv.take {w:World} {G:Ym}:∀(n:Nat) {b o:Nat} {xs:List AV},Wv w G b o xs->Wv w G b o (xs.take n)
 | 0,_,_,_,h=>by simp;exact .nil
 | n+1,_,_,_,.nil=>by simp;exact .nil
 | n+1,_,_,_,.cons hc hg h t=>by simp;exact .cons hc hg h (t.take n)
theorem Wv.append {w:World} {G:Ym}:∀{b o:Nat} {xs ys:List AV},Wv w G b o xs->Wv w G b (o+xs.length) ys->Wv w G b o (xs++ys)
 | _,_,_,_,.nil,h=>by simpa using h
 | _,_,_,_,.cons hc hg h t,h2=>.cons hc hg h (t.append (by
   simp only [Yo] at h2
   rw [show ∀(o:Nat) (l:Nat),o+1+l=o+(l+1) from fun o l=>by omega];exact h2))
theorem Wv.cells {w:World} {G:Ym}:∀{b o:Nat} {xs:List AV},Wv w G b o xs ->
  ∃cs,YT w G xs cs/\(∀j v,cs[j]? = some v->w.cell? ⟨b,o+j,none⟩=some v/\G b (o+j))
 | _,_,_,.nil=>⟨[],.nil,by simp⟩
 | _,o,_,.cons (c:=c) hc hg h t=>by
  obtain ⟨cs,h1,h2⟩:=t.cells
  refine ⟨c::cs,.cons h h1,fun j v hj=>?_⟩
  cases j with
  | zero=>simp at hj;subst hj;exact ⟨hc,hg⟩
  | succ j=>
   have:=h2 j v (by simpa using hj)
   rw [show o+1+j=o+(j+1) from by omega] at this
   exact this
theorem Wv.of_cells {w:World} {G:Ym} {b:Nat}:∀{o:Nat} {xs:List AV} {cs:List Value},YT w G xs cs ->
  (∀j v,cs[j]? = some v->w.cell? ⟨b,o+j,none⟩=some v/\G b (o+j))->Wv w G b o xs
 | _,_,_,.nil,_=>.nil
 | o,_,_,.cons (v:=c) h t,hc=>by
  have h0:=hc 0 c (by simp)
  refine .cons h0.1 h0.2 h (Wv.of_cells t fun j v hj=>?_)
  have:=hc (j+1) v (by simpa using hj)
  rw [show o+(j+1)=o+1+j from by omega] at this
  exact this
def Zg (es:List AV):List AV:=es.flatMap AV.leaves
theorem Vh.flat_mem {w:World} {G:Ym} {k:Nat}:∀{b o:Nat} {xs:List AV},Vh w G k b o xs->Wv w G b o (Zg xs)
 | _,_,_,.nil=>.nil
 | _,_,_,.cons hl h t=>by
  simp only [Zg,C8]
  exact h.append (by rw [hl];exact t.flat_mem)
theorem Vh.of_flat {w:World} {G:Ym} {k:Nat} {b:Nat}:∀{o:Nat} (xs:List AV),(∀x∈xs,x.leaves.length=k)->Wv w G b o (Zg xs)->Vh w G k b o xs
 | _,[],_,_=>.nil
 | o,x::xs,hk,h=>by
  have hx:=hk x (by simp)
  simp only [Zg,C8] at h
  have h1:=h.take x.leaves.length
  have h2:=h.drop x.leaves.length
  simp only [List.take_left',List.drop_left'] at h1 h2
  rw [hx] at h2
  exact .cons hx h1 (Vh.of_flat xs (fun y hy=>hk y (by simp [hy])) h2)
theorem Vh.len {w:World} {G:Ym} {k:Nat}:∀{b o:Nat} {xs:List AV},Vh w G k b o xs->∀x∈xs,x.leaves.length=k
 | _,_,_,.nil,x,h=>by simp at h
 | _,_,_,.cons hl _ t,x,h=>by
  rcases YN.1 h with rfl|h
  ·exact hl
  ·exact t.len x h
theorem TE {k:Nat}:∀(xs:List AV),(∀x∈xs,x.leaves.length=k)->(Zg xs).length=xs.length*k
 | [],_=>by simp [Zg]
 | x::xs,h=>by
  have:=TE xs (fun y hy=>h y (by simp [hy]))
  simp only [Zg,C8,ZX,Yo] at this ⊢
  rw [this,h x (by simp),TJ];omega
theorem Vh.get {w:World} {G:Ym} {k:Nat}:∀{b o:Nat} {xs:List AV},Vh w G k b o xs->∀(i:Nat) (x:AV),xs[i]? = some x->Wv w G b (o+i*k) x.leaves
 | _,_,_,.nil,i,x,h=>by simp at h
 | _,_,_,.cons hl h t,0,x,hx=>by simp at hx;subst hx;simpa using h
 | _,o,_,.cons hl h t,i+1,x,hx=>by
  have:=t.get i x (by simpa using hx)
  rw [show o+(i+1)*k=o+k+i*k from by rw [TJ];omega]
  exact this
theorem Vh.drop {w:World} {G:Ym} {k:Nat}:∀(n:Nat) {b o:Nat} {xs:List AV},Vh w G k b o xs->Vh w G k b (o+n*k) (xs.drop n)
 | 0,_,_,_,h=>by simpa using h
 | n+1,_,_,_,.nil=>by simp;exact .nil
 | n+1,_,o,_,.cons hl h t=>by
  have:=t.drop n
  simp only [List.drop_succ_cons]
  rw [show o+(n+1)*k=o+k+n*k from by rw [TJ];omega]
  exact this
theorem Vh.take {w:World} {G:Ym} {k:Nat}:∀(n:Nat) {b o:Nat} {xs:List AV},Vh w G k b o xs->Vh w G k b o (xs.take n)
 | 0,_,_,_,h=>by simp;exact .nil
 | n+1,_,_,_,.nil=>by simp;exact .nil
 | n+1,_,_,_,.cons hl h t=>by simp;exact .cons hl h (t.take n)
inductive Res where
 | obj (b:Nat) (ls:List AV)
 | tail (v:Value) (k:Nat)
 | ge (s:Nat)
 | vec (v:Value) (ls:List AV)
 | many (ts:List (Value × Nat))
 | own (B:List Nat) (m:Nat->Nat->Option Value)
 | row (v:Value) (k:Nat) (ls:List AV)
def ML:Value->Nat->Ym
 | .slice (some a) len _,k,b',o=>b'=a.block/\len*k<=o
 | _,_,_,_=>False
def Res.fp:Res->Ym
 | .obj b _,b',_=>b'=b
 | .tail (.slice (some a) len _) k,b',o=>b'=a.block/\len*k<=o
 | .tail _ _,_,_=>False
 | .ge _,_,_=>False
 | .vec (.slice (some a) _ _) _,b',_=>b'=a.block
 | .vec _ _,_,_=>False
 | .many ts,b',o=>∃p∈ts,ML p.1 p.2 b' o
 | .own B _,b',_=>b'∈B
 | .row (.slice (some a) _ _) _ _,b',_=>b'=a.block
 | .row _ _ _,_,_=>False
def Ij (w:World) (v:Value) (k:Nat):Prop:=
 v=.slice none 0 0∨∃g len cap cur e,v=.slice (some ⟨g,0,none⟩) len cap/\w.heap[g]? = some (.cells cur e (0,0))/\len<=cap/\cur.size=cap*k
def Cf (w:World) (G:Ym) (v:Value) (ls:List AV):Prop:=
 (v=.slice none 0 0/\ls=[])∨∃g cap cur e,v=.slice (some ⟨g,0,none⟩) ls.length cap/\w.heap[g]? = some (.cells cur e (0,0))/\ls.length<=cap/\cur.size=cap /\
  YT w G ls (cur.toList.take ls.length)
def JX (w:World) (G:Ym) (v:Value) (k:Nat) (ls:List AV):Prop:=
 (v=.slice none 0 0/\ls=[])∨∃g len cap cur e,v=.slice (some ⟨g,0,none⟩) len cap/\w.heap[g]? = some (.cells cur e (0,0))/\len<=cap/\cur.size=cap*k/\ls.length=len*k /\
  YT w G ls (cur.toList.take (len*k))
def QQ (w:World) (G:Ym):Res->Prop
 | .obj b ls=>∃cs e,w.heap[b]? = some (.cells cs e (0,0))/\YT w G ls cs.toList
 | .tail v k=>Ij w v k
 | .ge s=>s<=w.heap.size
 | .vec v ls=>Cf w G v ls
 | .many ts=>(∀p∈ts,Ij w p.1 p.2)/\ts.Pairwise (fun p q=>∀b o,ML p.1 p.2 b o->ML q.1 q.2 b o->False)
 | .own B m=>∀b∈B,∃cs e,w.heap[b]? = some (.cells cs e (0,0))/\∀o,cs[o]? = m b o
 | .row v k ls=>JX w G v k ls
def Vu (h:List Res):Ym:=fun b o=>∃r∈h,r.fp b o
def Bn (r r':Res):Prop:=∀b o,r.fp b o->r'.fp b o->False
structure YK (w:World) (G:Ym) (h:List Res):Prop where
 ok:∀r∈h,QQ w G r
 apart:h.Pairwise Bn
 prot:∀r∈h,∀b o,r.fp b o->G b o->False
 lt:∀b o,G b o->b<w.heap.size
theorem QQ.lt {w:World} {G:Ym} {r:Res} (h:QQ w G r):∀b o,r.fp b o->b<w.heap.size:=by
 intro b o hf
 cases r with
 | obj b' ls=>obtain ⟨cs,e,h1,_⟩:=h;cases hf;exact (UP.1 h1).1
 | tail v k=>
  rcases h with rfl|⟨g,len,cap,cur,e,rfl,h1,_⟩
  ·exact hf.elim
  ·obtain ⟨rfl,_⟩:=hf;exact (UP.1 h1).1
 | ge s=>exact hf.elim
 | vec v ls=>
  rcases h with ⟨rfl,_⟩|⟨g,cap,cur,e,rfl,h1,_⟩
  ·exact hf.elim
  ·have hf:b=g:=hf
   subst hf
   exact (UP.1 h1).1
 | many ts=>
  obtain ⟨p,hp,hf⟩:=hf
  rcases h.1 p hp with h0|⟨g,len,cap,cur,e,h0,h1,_⟩
  ·rw [h0] at hf;exact hf.elim
  ·rw [h0] at hf;obtain ⟨rfl,_⟩:=hf;exact (UP.1 h1).1
 | own B m=>obtain ⟨cs,e,h1,_⟩:=h b hf;exact (UP.1 h1).1
 | row v k ls=>
  rcases h with ⟨rfl,_⟩|⟨g,len,cap,cur,e,rfl,h1,_⟩
  ·exact hf.elim
  ·have hf:b=g:=hf
   subst hf
   exact (UP.1 h1).1
def KS (O:Ym) (b:Nat) (w w':World):Prop:=
 w'.heap[b]? = w.heap[b]?∨∃cs cs' e fr,w.heap[b]? = some (.cells cs e fr)/\w'.heap[b]? = some (.cells cs' e fr)/\cs'.size=cs.size/\∀o,¬O b o->cs'[o]? = cs[o]?
theorem KS.eq {O:Ym} {b:Nat} {w w':World} (h:KS O b w w') (hn:∀o,¬O b o):w'.heap[b]? = w.heap[b]?:=by
 rcases h with h|⟨cs,cs',e,fr,h1,h2,hs,hc⟩
 ·exact h
 ·have:cs'=cs:=by
   apply Array.ext hs
   intro i h1 h2
   have:=hc i (hn i)
   simpa [h1,h2] using this
  rw [h1,h2,this]
theorem KS.cell {O:Ym} {b:Nat} {w w':World} (h:KS O b w w') {o:Nat} (hn:¬O b o):w'.cell? ⟨b,o,none⟩=w.cell? ⟨b,o,none⟩:=by
 rcases h with h|⟨cs,cs',e,fr,h1,h2,hs,hc⟩
 ·simp [World.cell?,h]
 ·simp [World.cell?,h1,h2,hc o hn]
theorem KS.mono {O O':Ym} {b:Nat} {w w':World} (h:KS O b w w') (hO:∀o,O b o->O' b o):KS O' b w w':=by
 rcases h with h|⟨cs,cs',e,fr,h1,h2,hs,hc⟩
 ·exact .inl h
 ·exact .inr ⟨cs,cs',e,fr,h1,h2,hs,fun o hn=>hc o fun h=>hn (hO o h)⟩
theorem KS.trans {O:Ym} {b:Nat} {w w' w'':World} (h:KS O b w w') (k:KS O b w' w''):KS O b w w'':=by
 rcases h with h|⟨cs,cs',e,fr,h1,h2,hs,hc⟩
 ·rcases k with k|⟨cs,cs',e,fr,h1,h2,hs,hc⟩
  ·exact .inl (k.trans h)
  ·exact .inr ⟨cs,cs',e,fr,h▸h1,h2,hs,hc⟩
 ·rcases k with k|⟨ds,ds',e',fr',k1,k2,ks,kc⟩
  ·exact .inr ⟨cs,cs',e,fr,h1,k▸h2,hs,hc⟩
  ·rw [h2] at k1
   cases k1
   exact .inr ⟨cs,ds',e,fr,h1,k2,ks.trans hs,fun o hn=>(kc o hn).trans (hc o hn)⟩
structure X5 (w:World) (G:Ym) (h:List Res) (w':World) (G':Ym) (h':List Res):Prop where
 os:w'.os=w.os
 tape:w'.tape=w.tape
 output:w'.output=w.output
 size:w.heap.size<=w'.heap.size
 sub:∀b o,G b o->G' b o
 same:∀b,b<w.heap.size->KS (Vu h) b w w'
 newG:∀b o,b<w.heap.size->G' b o->G b o∨Vu h b o
 newfp:∀b o,b<w.heap.size->Vu h' b o->Vu h b o
theorem X5.refl (w:World) (G:Ym) (h:List Res):X5 w G h w G h:=
 ⟨rfl,rfl,rfl,X0 _,fun _ _ h=>h,fun _ _=>.inl rfl,fun _ _ _ h=>.inl h,fun _ _ _ h=>h⟩
theorem X5.trans {w w' w'':World} {G G' G'':Ym} {h h' h'':List Res} (a:X5 w G h w' G' h') (b:X5 w' G' h' w'' G'' h''):X5 w G h w'' G'' h'' where
 os:=b.os.trans a.os
 tape:=b.tape.trans a.tape
 output:=b.output.trans a.output
 size:=V6 a.size b.size
 sub:=fun x o hg=>b.sub x o (a.sub x o hg)
 same:=fun x hx=>(a.same x hx).trans ((b.same x (N0 hx a.size)).mono fun o ho=>a.newfp x o hx ho)
 newG:=fun x o hx hg=>by
  rcases b.newG x o (N0 hx a.size) hg with h1|h1
  ·exact a.newG x o hx h1
  ·exact .inr (a.newfp x o hx h1)
 newfp:=fun x o hx ho=>a.newfp x o hx (b.newfp x o (N0 hx a.size) ho)
theorem X5.agree {w w':World} {G G':Ym} {h h':List Res} (e:X5 w G h w' G' h') (hk:YK w G h):VY G w w' G' where
 cell:=fun b o hg=>(e.same b (hk.lt b o hg)).cell fun ⟨r,hr,hf⟩=>hk.prot r hr b o hf hg
 sub:=e.sub
theorem BF {h k:List Res} {b o:Nat}:Vu (h++k) b o↔Vu h b o∨Vu k b o:=by
 unfold Vu
 constructor
 ·rintro ⟨r,hr,hf⟩
  rcases Xl.1 hr with hr|hr
  ·exact .inl ⟨r,hr,hf⟩
  ·exact .inr ⟨r,hr,hf⟩
 ·rintro (⟨r,hr,hf⟩|⟨r,hr,hf⟩)
  ·exact ⟨r,Xl.2 (.inl hr),hf⟩
  ·exact ⟨r,Xl.2 (.inr hr),hf⟩
theorem YK.left {w:World} {G:Ym} {h k:List Res} (H:YK w G (h++k)):YK w G h:=
 ⟨fun r hr=>H.ok r (Xl.2 (.inl hr)),(Bl.1 H.apart).1,fun r hr=>H.prot r (Xl.2 (.inl hr)),H.lt⟩
theorem YK.cross {w:World} {G:Ym} {h k:List Res} (H:YK w G (h++k)) {b o:Nat} (h1:Vu h b o) (h2:Vu k b o):False:=by
 obtain ⟨r,hr,hf⟩:=h1
 obtain ⟨r',hr',hf'⟩:=h2
 exact (Bl.1 H.apart).2.2 r hr r' hr' b o hf hf'
theorem YK.frame {w w':World} {G G':Ym} {h h' k:List Res} (H:YK w G (h++k)) (e:X5 w G h w' G' h') (H':YK w' G' h') :
  YK w' G' (h'++k)/\X5 w G (h++k) w' G' (h'++k):=by
 have hA:=e.agree H.left
 have hkok:∀r∈k,QQ w G r:=fun r hr=>H.ok r (Xl.2 (.inr hr))
 have hklt:∀b o,Vu k b o->b<w.heap.size:=fun b o ⟨r,hr,hf⟩=>(hkok r hr).lt b o hf
 refine ⟨⟨?_,?_,?_,H'.lt⟩,⟨e.os,e.tape,e.output,e.size,e.sub,?_,?_,?_⟩⟩
 ·intro r hr
  rcases Xl.1 hr with hr|hr
  ·exact H'.ok r hr
  ·have h0:=hkok r hr
   cases r with
   | obj b ls=>
    obtain ⟨cs,el,h1,h2⟩:=h0
    have hb:=(UP.1 h1).1
    refine ⟨cs,el,?_,h2.mono hA⟩
    rw [(e.same b hb).eq fun _ ho=>H.cross ho ⟨_,hr,rfl⟩]
    exact h1
   | tail v kk=>
    rcases h0 with rfl|⟨g,len,cap,cur,el,rfl,h1,h2,h3⟩
    ·exact .inl rfl
    ·have hb:=(UP.1 h1).1
     rcases e.same g hb with hs|⟨cs,cs',e',fr,k1,k2,k3,_⟩
     ·exact .inr ⟨g,len,cap,cur,el,rfl,hs.trans h1,h2,h3⟩
     ·rw [h1] at k1
      cases k1
      exact .inr ⟨g,len,cap,cs',el,rfl,k2,h2,k3.trans h3⟩
   | ge s=>exact V6 h0 e.size
   | vec v ls=>
    rcases h0 with ⟨rfl,h0⟩|⟨g,cap,cur,el,rfl,h1,h2,h3,h4⟩
    ·exact .inl ⟨rfl,h0⟩
    ·have hb:=(UP.1 h1).1
     refine .inr ⟨g,cap,cur,el,rfl,?_,h2,h3,h4.mono hA⟩
     rw [(e.same g hb).eq fun o ho=>H.cross ho ⟨_,hr,rfl⟩]
     exact h1
   | many ts=>
    refine ⟨fun p hp=>?_,h0.2⟩
    rcases h0.1 p hp with q|⟨g,len,cap,cur,el,q,h1,h2,h3⟩
    ·exact .inl q
    ·have hb:=(UP.1 h1).1
     rcases e.same g hb with hs|⟨cs,cs',e',fr,k1,k2,k3,_⟩
     ·exact .inr ⟨g,len,cap,cur,el,q,hs.trans h1,h2,h3⟩
     ·rw [h1] at k1
      cases k1
      exact .inr ⟨g,len,cap,cs',el,q,k2,h2,k3.trans h3⟩
   | own B m=>
    intro b hB
    obtain ⟨cs,el,h1,h2⟩:=h0 b hB
    have hb:=(UP.1 h1).1
    refine ⟨cs,el,?_,h2⟩
    rw [(e.same b hb).eq fun o ho=>H.cross ho ⟨_,hr,hB⟩]
    exact h1
   | row v k ls=>
    rcases h0 with ⟨rfl,h0⟩|⟨g,len,cap,cur,el,rfl,h1,h2,h3,h4,h5⟩
    ·exact .inl ⟨rfl,h0⟩
    ·have hb:=(UP.1 h1).1
     refine .inr ⟨g,len,cap,cur,el,rfl,?_,h2,h3,h4,h5.mono hA⟩
     rw [(e.same g hb).eq fun o ho=>H.cross ho ⟨_,hr,rfl⟩]
     exact h1
 ·refine Bl.2 ⟨H'.apart,(Bl.1 H.apart).2.1,fun r hr r' hr' b o hf hf'=>?_⟩
  have hb:=hklt b o ⟨r',hr',hf'⟩
  exact H.cross (e.newfp b o hb ⟨r,hr,hf⟩) ⟨r',hr',hf'⟩
 ·intro r hr b o hf hg
  rcases Xl.1 hr with hr|hr
  ·exact H'.prot r hr b o hf hg
  ·have hb:=hklt b o ⟨r,hr,hf⟩
   rcases e.newG b o hb hg with h1|h1
   ·exact H.prot r (Xl.2 (.inr hr)) b o hf h1
   ·exact H.cross h1 ⟨r,hr,hf⟩
 ·exact fun b hb=>(e.same b hb).mono fun _ ho=>BF.2 (.inl ho)
 ·intro b o hb hg
  exact (e.newG b o hb hg).imp id fun h=>BF.2 (.inl h)
 ·intro b o hb hf
  rcases BF.1 hf with h1|h1
  ·exact BF.2 (.inl (e.newfp b o hb h1))
  ·exact BF.2 (.inr h1)
theorem Bn.symm {r r':Res} (h:Bn r r'):Bn r' r:=fun b o h1 h2=>h b o h2 h1
theorem Cz {h k:List Res} (p:h.Perm k) {b o:Nat}:Vu h b o↔Vu k b o:=
 ⟨fun ⟨r,hr,hf⟩=>⟨r,p.mem_iff.1 hr,hf⟩,fun ⟨r,hr,hf⟩=>⟨r,p.mem_iff.2 hr,hf⟩⟩
theorem YK.perm {w:World} {G:Ym} {h k:List Res} (H:YK w G h) (p:h.Perm k):YK w G k:=
 ⟨fun r hr=>H.ok r (p.mem_iff.2 hr),(p.pairwise_iff (fun h=>Bn.symm h)).1 H.apart,fun r hr=>H.prot r (p.mem_iff.2 hr),H.lt⟩
theorem X5.perm {w w':World} {G G':Ym} {h h' k k':List Res} (e:X5 w G h w' G' h') (p:h.Perm k) (p':h'.Perm k'):X5 w G k w' G' k':=
 ⟨e.os,e.tape,e.output,e.size,e.sub,fun b hb=>(e.same b hb).mono fun _ ho=>(Cz p).1 ho,
  fun b o hb hg=>(e.newG b o hb hg).imp id (Cz p).1,fun b o hb hf=>(Cz p).1 (e.newfp b o hb ((Cz p').2 hf))⟩
abbrev Fr:=List (Nat × AV)
def Fr.get:Fr->Nat->AV
 | [],_=>.any
 | (s,x)::r,t=>match Nat.beq s t with | true=>x | false=>Fr.get r t
def AV.ofVal:Value->AV
 | .slice none 0 0=>.sl [] (some (.slice none 0 0))
 | v=>.val v
theorem RV.ofVal {w:World} {G:Ym} (v:Value):RV w G (AV.ofVal v) v:=by
 unfold AV.ofVal
 split
 ·exact .nil (by simp)
 ·exact .val
def Fr.ev (F:Fr):Operand->AV
 | .tmp t=>F.get t
 | .const v=>AV.ofVal v
 | .global g=>.val (.pointer (some ⟨g,0,none⟩))
 | .func f=>.val (.func (.func f) #[] #[])
def Fr.put (F:Fr) (d:Option Tmp) (x:AV):Fr:=
 match d with
 | some d=>(d,x)::F
 | none=>F
structure FR (w:World) (G:Ym) (n:Nat) (F:Fr) (a:Act):Prop where
 defers:a.defers=[]
 size:a.tmps.size=n
 get:∀t,RV w G (F.get t) (a.tmps.getD t undef)
section
variable {w w':World} {G G':Ym} {n:Nat} {F:Fr} {a:Act}
theorem FR.mono (h:FR w G n F a) (hA:VY G w w' G'):FR w' G' n F a:=⟨h.defers,h.size,fun t=>(h.get t).mono hA⟩
theorem FR.ev (h:FR w G n F a) (x:Operand):RV w G (F.ev x) (a.eval x):=by
 cases x with
 | tmp t=>exact h.get t
 | const v=>exact RV.ofVal v
 | global g=>exact .val
 | func f=>exact .val
theorem FR.put (h:FR w G n F a) {d:Option Tmp} {x:AV} {v:Value} (hd:∀t,d=some t->t<n) (hx:RV w G x v):FR w G n (F.put d x) (a.put d v):=by
 cases d with
 | none=>exact h
 | some d=>
  have hlt:=hd d rfl
  refine ⟨h.defers,by simp [Act.put,h.size],fun t=>?_⟩
  show RV w G (match Nat.beq d t with|true=>x|false=>Fr.get F t) ((a.tmps.setIfInBounds d v).getD t undef)
  by_cases e:d=t
  ·subst e
   have:Nat.beq d d=true:=Nat.beq_refl d
   rw [this]
   simp [h.size,hlt,hx]
  ·have hb:Nat.beq d t=false:=by
    cases hh:Nat.beq d t
    ·rfl
    ·exact absurd (T1 hh) e
   rw [hb]
   have:=h.get t
   simpa [Array.getElem?_setIfInBounds_ne e] using this
end
def Fr.Le (F F':Fr):Prop:=∀w G v t,RV w G (F.get t) v->RV w G (F'.get t) v
theorem FR.le {w:World} {G:Ym} {n:Nat} {F F':Fr} {a:Act} (h:FR w G n F a) (hle:F.Le F'):FR w G n F' a:=
 ⟨h.defers,h.size,fun t=>hle _ _ _ _ (h.get t)⟩
abbrev WW:=Exit->Fr->List Res->Prop
def AH (n:Nat) (A:WW) (w:World) (G:Ym) (h:List Res) (e:Exit) (a':Act) (w':World):Prop:=
 ∃F' h' G',A e F' h'/\FR w' G' n F' a'/\YK w' G' h'/\X5 w G h w' G' h'
theorem AH.trans {n:Nat} {A:WW} {w w' w'':World} {G G':Ym} {h h':List Res} {e:Exit} {a:Act} (x:X5 w G h w' G' h') (c:AH n A w' G' h' e a w'') :
  AH n A w G h e a w'':=by
 obtain ⟨F,k,G'',h1,h2,h3,h4⟩:=c
 exact ⟨F,k,G'',h1,h2,h3,x.trans h4⟩
theorem AH.mono {n:Nat} {A B:WW} {w w':World} {G:Ym} {h:List Res} {e:Exit} {a:Act} (hAB:∀e F h,A e F h->B e F h) (c:AH n A w G h e a w') :
  AH n B w G h e a w':=by
 obtain ⟨F,k,G'',h1,h2,h3,h4⟩:=c
 exact ⟨F,k,G'',hAB _ _ _ h1,h2,h3,h4⟩
def Yz (P:Program) (n:Nat) (c:Code) (A:WW) (F:Fr) (h:List Res):Prop:=
 ∀w G a,FR w G n F a->YK w G h->c.wp P (AH n A w G h) a w
def WZ (P:Program) (f:FuncId) (args:List AV) (h:List Res) (R:AV->List Res->Prop):Prop:=
 ∀w G vs,YT w G args vs->YK w G h ->
  Calls P f vs.toArray w fun e w'=>∃v r h' G',e=.returned v/\R r h'/\RV w' G' r v/\YK w' G' h'/\X5 w G h w' G' h'
theorem WZ.mono {P:Program} {f:FuncId} {args:List AV} {h:List Res} {R R':AV->List Res->Prop} (H:WZ P f args h R) (hR:∀r h',R r h'->R' r h') :
  WZ P f args h R':=fun w G vs ha hh=>(H w G vs ha hh).mono fun _ _ ⟨v,r,h',G',h1,h2,h3⟩=>⟨v,r,h',G',h1,hR _ _ h2,h3⟩
def WO (P:Program) (n:Nat) (o:Oper) (F:Fr) (h:List Res) (K:Fr->List Res->Prop):Prop:=
 ∀(Q:Exit->Act->World->Prop) w G a,FR w G n F a->YK w G h ->
  o.wp P a w (fun a' w'=>∃F' h' G',K F' h'/\FR w' G' n F' a'/\YK w' G' h'/\X5 w G h w' G' h') Q
def VS (n:Nat) (o:Oper):Bool:=match o.dst with|some d=>Nat.blt d n|none=>true
theorem TQ {n:Nat} {o:Oper} (h:VS n o=true):∀t,o.dst=some t->t<n:=by
 intro t ht
 simp [VS,ht] at h
 exact h
def XY (P:Program) (o:Oper) (F:Fr) (h:List Res) (ks:List Nat) (x:AV):Prop:=
 ∀n w G a,FR w G n F a->YK w G h->∃v,RV w G x v /\
  ∀w',(∀b o,G b o->w'.cell? ⟨b,o,none⟩=w.cell? ⟨b,o,none⟩)->(∀b∈ks,w'.heap[b]? = w.heap[b]?)->(execOp a.eval o).run P w'=.ok (.value v) w'
theorem XY.op {P:Program} {n:Nat} {o:Oper} {F:Fr} {h:List Res} {ks:List Nat} {x:AV} {K:Fr->List Res->Prop} (hs:XY P o F h ks x) (hd:VS n o=true)
  (hK:K (F.put o.dst x) h):WO P n o F h K:=by
 intro Q w G a hF hh
 obtain ⟨v,hv,hr⟩:=hs n w G a hF hh
 unfold Oper.wp
 rw [hr w (fun _ _ _=>rfl) (fun _ _=>rfl)]
 exact ⟨_,h,G,hK,hF.put (TQ hd) hv,hh,X5.refl _ _ _⟩
def EH (op:BinOp) (k:IntKind) (a b:Int):Option Value:=
 match op with
 | .add=>some (.int k (k.wrap (a+b)))
 | .sub=>some (.int k (k.wrap (a-b)))
 | .mul=>some (.int k (k.wrap (a*b)))
 | .eql=>some (.bool (a==b))
 | .neq=>some (.bool (a != b))
 | .lss=>some (.bool (decide (a<b)))
 | .leq=>some (.bool (decide (a<=b)))
 | .gtr=>some (.bool (decide (a>b)))
 | .geq=>some (.bool (decide (a>=b)))
 | _=>none
def FB:IntKind->IntKind->Bool
 | .i8,.i8 | .i16,.i16 | .i32,.i32 | .i64,.i64 | .u8,.u8 | .u16,.u16 | .u32,.u32 | .u64,.u64=>true
 | _,_=>false
theorem Zf0 {a b:IntKind} (h:FB a b=true):a=b:=by cases a<;>cases b<;>first|rfl|(simp [FB] at h)
def CH (P:Program) (t:TypeId):Option (Array Field):=
 match P.underlying t with
 | some (.struct fs)=>some fs
 | _=>none
def DH (P:Program) (t:TypeId):Option Bool:=
 match P.underlying t with
 | some (.struct _) | some (.array _ _)=>some true
 | some _=>some false
 | none=>none
def EI (P:Program) (t:TypeId) (f:Nat):Option Nat:=
 match CH P t with
 | some fs=>match fs[f]? with
  | some fd=>match (P.info? fd.type) with
   | some i=>match Nat.beq i.size 0 with | true=>none | false=>some fd.offset
   | none=>none
  | none=>none
 | none=>none
def Ba (P:Program) (t:TypeId) (ls:List AV):Option AV:=
 match DH P t,P.info? t with
 | some true,some i=>match Nat.ble i.size ls.length with | true=>some (.agg (ls.take i.size)) | false=>none
 | some false,some _=>ls.head?
 | _,_=>none
def AV.one:AV->Bool
 | .val v=>v.oneCell'
 | .sl _ _=>true
 | .rp _=>true
 | _=>false
def AV.fit:AV->Bool
 | .agg _=>true
 | x=>x.one
def AZ (place:Nat->Option (Nat × Nat)) (ls:List AV):List (Nat × AV)->Option (List AV)
 | []=>some ls
 | (i,x)::rest=>
  match place i with
  | none=>none
  | some (off,size)=>match x.fit&&(Nat.beq x.leaves.length size&&Nat.ble (off+size) ls.length) with
   | true=>AZ place (ls.take off++x.leaves++ls.drop (off+size)) rest
   | false=>none
def Ei (P:Program) (t:TypeId):Option (List AV):=
 match P.info? t with
 | some i=>match i.zero with
  | some z=>some (z.cells.toList.map AV.ofVal)
  | none=>none
 | none=>none
def Fg (P:Program) (fs:Array Field) (i:Nat):Option (Nat × Nat):=
 match fs[i]? with
 | some f=>match P.info? f.type with
  | some j=>some (f.offset,j.size)
  | none=>none
 | none=>none
def OI (P:Program) (fs:Array Field):Bool:=fs.toList.all fun f=>(P.info? f.type).isSome
def Ji:List AV->Option (List Value)
 | []=>some []
 | .val v::r=>match Ji r with | some vs=>some (v::vs) | none=>none
 | _::_=>none
def Qf (P:Program) (o:Oper) (F:Fr) (h:List Res) (hint:Nat):Option (AV × List (Nat × Nat)):=
 match o.op with
 | .move x | .assign x=>some (F.ev x,[])
 | .pick c a b=>match F.ev c with
  | .val (.bool true)=>some (F.ev a,[])
  | .val (.bool false)=>some (F.ev b,[])
  | _=>none
 | .binOp op _ x y _=>match F.ev x,F.ev y with
  | .val (.int k a),.val (.int k' b)=>match FB k k' with
   | true=>match EH op k a b with
    | some v=>some (.val v,[])
    | none=>none
   | false=>none
  | _,_=>none
 | .unOp op _ x=>match op,F.ev x with
  | .not,.val (.bool b)=>some (.val (.bool (!b)),[])
  | _,_=>none
 | .nilCheck x=>match F.ev x with
  | .val (.pointer (some a))=>some (.val (.pointer (some a)),[])
  | .rp ls=>some (.rp ls,[])
  | .val (.func (.func f) p c)=>some (.val (.func (.func f) p c),[])
  | _=>none
 | .fieldAddr s x f=>match EI P s f with
  | some off=>match F.ev x with
   | .rp ls=>some (.rp (ls.drop off),[])
   | .val (.pointer (some ⟨b,o,none⟩))=>some (.val (.pointer (some ⟨b,o+off,none⟩)),[])
   | _=>none
  | none=>none
 | .field s x f=>match EI P s f,CH P s with
  | some off,some fs=>match fs[f]? with
   | some fd=>match F.ev x with
    | .agg ls=>match Ba P fd.type (ls.drop off) with
     | some v=>some (v,[])
     | none=>none
    | _=>none
   | none=>none
  | _,_=>none
 | .load t x=>match F.ev x with
  | .rp ls=>match Ba P t ls with
   | some v=>some (v,[])
   | none=>none
  | .val (.pointer (some ⟨b,o,none⟩))=>match h[hint]? with
   | some (.obj b' ls)=>match Ba P t (ls.drop o) with
    | some v=>some (v,[(b,b')])
    | none=>none
   | _=>none
  | _=>none
 | .extract x i=>match F.ev x with
  | .tup vs=>match vs[i]? with
   | some v=>some (v,[])
   | none=>none
  | _=>none
 | .build t parts=>match CH P t,Ei P t with
  | some fs,some z=>match OI P fs with
   | true=>match AZ (Fg P fs) z (parts.toList.map fun p=>(p.1,F.ev p.2)) with
    | some ls=>some (.agg ls,[])
    | none=>none
   | false=>none
  | _,_=>none
 | .makeFunc fn first captured=>match Ji (first.toList.map F.ev),Ji (captured.toList.map F.ev) with
  | some vs,some us=>some (.val (.func fn vs.toArray us.toArray),[])
  | _,_=>none
 | .call c=>match c.callee,c.args.toList,c.argTypes.toList with
  | .builtin .len,[x],[t]=>match P.underlying t with
   | some (.slice _)=>match F.ev x with
    | .sl es _=>some (.val (.int .i64 (es.length:Int)),[])
    | .val (.slice _ len _)=>some (.val (.int .i64 (len:Int)),[])
    | _=>none
   | _=>none
  | _,_,_=>none
 | _=>none
theorem Uq {P:Program} {t:TypeId} {d:TypeDesc} (h:P.underlying t=some d) (w:World):(underlying t).run P w=.ok d w:=by
 simp [underlying,h]
theorem FA {P:Program} {t:TypeId} {i:TypeInfo} (h:P.info? t=some i) (w:World):(typeInfo t).run P w=.ok i w:=by
 simp [typeInfo,h]
theorem Qq {P:Program} {t:TypeId} {i:TypeInfo} (h:P.info? t=some i) (w:World):(sizeOf t).run P w=.ok i.size w:=by
 simp [sizeOf,FA h]
theorem LL {P:Program} {t:TypeId} {fs:Array Field} (h:CH P t=some fs):P.underlying t=some (.struct fs):=by
 unfold CH at h
 split at h
 ·simp_all
 ·cases h
theorem Fy {P:Program} {t:TypeId} {b:Bool} (h:DH P t=some b) (w:World):(isAgg t).run P w=.ok b w:=by
 unfold DH at h
 split at h
 ·rename_i h';cases h;simp [isAgg,Uq h']
 ·rename_i h';cases h;simp [isAgg,Uq h']
 ·rename_i d hd1 hd2 h'
  cases h
  simp [isAgg,Uq h']
 ·cases h
theorem OH {P:Program} {s:TypeId} {f off:Nat} (h:EI P s f=some off) :
  ∃fs fd i,P.underlying s=some (.struct fs)/\fs[f]? = some fd/\P.info? fd.type=some i/\i.size≠0/\fd.offset=off:=by
 unfold EI at h
 cases h1:CH P s with
 | none=>simp [h1] at h
 | some fs=>
  cases h2:fs[f]? with
  | none=>simp [h1,h2] at h
  | some fd=>
   cases h3:P.info? fd.type with
   | none=>simp [h1,h2,h3] at h
   | some i=>
    cases h4:Nat.beq i.size 0 with
    | true=>simp [h1,h2,h3,h4] at h
    | false=>
     simp [h1,h2,h3,h4] at h
     refine ⟨fs,fd,i,LL h1,h2,h3,fun h0=>?_,h⟩
     rw [h0] at h4
     cases h4
theorem Jq (b o n:Nat):(⟨b,o,none⟩:Addr).add n=⟨b,o+n,none⟩:=by
 unfold Addr.add;split<;>simp_all
theorem SU {P:Program} {s:TypeId} {f off b o:Nat} (h:EI P s f=some off) (w:World) :
  (Instr.fieldAt s (.pointer (some ⟨b,o,none⟩)) f).run P w=.ok (.pointer (some ⟨b,o+off,none⟩)) w:=by
 obtain ⟨fs,fd,i,h1,h2,h3,h4,rfl⟩:=OH h
 simp [Instr.fieldAt,Uq h1,h2,Instr.sureAddr,fieldPlace,Qq h3,h4,Jq]
theorem HE {P:Program} {t:TypeId} {ls:List AV} {x:AV} {w0:World} {G:Ym} {b o:Nat} {cs:List Value} (hx:Ba P t ls=some x) (hcs:YT w0 G ls cs) :
  ∃v,RV w0 G x v/\∀w',(∀j u,cs[j]? = some u->w'.cell? ⟨b,o+j,none⟩=some u)->(loadVar t ⟨b,o,none⟩).run P w'=.ok v w':=by
 unfold Ba at hx
 cases hb:DH P t with
 | none=>simp [hb] at hx
 | some g=>
  cases hi:P.info? t with
  | none=>cases g<;>simp [hb,hi] at hx
  | some i=>
   cases g with
   | true=>
    simp only [hb,hi] at hx
    cases hle:Nat.ble i.size ls.length with
    | false=>simp [hle] at hx
    | true=>
     simp only [hle,Wp] at hx
     subst hx
     have hlen:i.size<=ls.length:=Vb hle
     refine ⟨_,.agg (hcs.take i.size),fun w' hc=>?_⟩
     have XO:(cs.take i.size).length=i.size:=by simp [hcs.length,hlen]
     have:=run_loadCells_list (P:=P) (w:=w') ⟨b,o,none⟩ (cs.take i.size) (fun j v hj=>by
      rw [Jq]
      rw [Qt] at hj
      split at hj
      ·exact hc j v hj
      ·cases hj)
     rw [XO] at this
     simp [loadVar,Fy hb,Qq hi,this]
   | false=>
    simp only [hb,hi] at hx
    cases hcs with
    | nil=>simp at hx
    | cons h1 h2=>
     rename_i c vs xs
     simp at hx
     subst hx
     refine ⟨_,h1,fun w' hc=>?_⟩
     have:=hc 0 c (by simp)
     simp only [Cb] at this
     simp only [loadVar,Sem.run_bind,Fy hb,Result.andThen_ok]
     simp [load,Sem.run,this]
theorem VF {P:Program} {x:Sem Value} {w w':World} {v:Value} (h:x.run P w=.ok v w') :
  (do pure (Next.value (<-x)):Sem Next).run P w=.ok (.value v) w':=by
 simp [h]
theorem MT {w:World} {G:Ym} {a:Act} {n:Nat} {F:Fr} (hF:FR w G n F a):∀{xs:List Operand} {vs:List Value},Ji (xs.map F.ev)=some vs->xs.map a.eval=vs
 | [],vs,h=>by simp [Ji] at h;simp [h]
 | x::xs,vs,h=>by
  simp only [Tk] at h ⊢
  have hx:=hF.ev x
  cases he:F.ev x with
  | val v=>
   simp only [he,Ji] at h
   cases h2:Ji (xs.map F.ev) with
   | none=>simp [h2] at h
   | some us=>
    simp [h2] at h
    rw [he] at hx
    cases hx
    rw [MT hF h2,h]
  | any=>simp [he,Ji] at h
  | sl es hv=>simp [he,Ji] at h
  | agg ls=>simp [he,Ji] at h
  | rp ls=>simp [he,Ji] at h
  | tup vs=>simp [he,Ji] at h
theorem Z60 {P:Program} {op:BinOp} {k:IntKind} {a b:Int} {v:Value} (h:EH op k a b=some v) (xt:TypeId) (x y:Operand) (w:World) :
  (do eqGuard op xt x y (.int k a) (.int k b);binOp op xt (.int k a) (.int k b)).run P w=.ok v w:=by
 cases op<;>simp [EH] at h<;>subst h<;>simp [eqGuard,binOp,Op.intArith,Op.intCmp]
theorem RV.val_inv {w:World} {G:Ym} {v u:Value} (h:RV w G (.val v) u):u=v:=by cases h;rfl
theorem RV.one_cell {w:World} {G:Ym} {x:AV} {v:Value} (h:RV w G x v) (hx:x.one=true):v.oneCell'=true:=by
 cases h with
 | val=>exact hx
 | nil=>rfl
 | sl=>rfl
 | rp=>rfl
 | any=>simp [AV.one] at hx
 | agg=>simp [AV.one] at hx
 | tup=>simp [AV.one] at hx
theorem Iy {v:Value} (h:v.oneCell'=true):v.cells.toList=[v]:=by
 cases v<;>first|rfl|(simp [Value.oneCell'] at h)
theorem RV.cells {w:World} {G:Ym} {x:AV} {v:Value} (h:RV w G x v) (hx:x.fit=true):YT w G x.leaves v.cells.toList:=by
 cases x with
 | agg ls=>cases h with | agg hh=>simpa [AV.leaves,Value.cells] using hh
 | any=>simp [AV.fit,AV.one] at hx
 | tup vs=>simp [AV.fit,AV.one] at hx
 | val u=>rw [Iy (h.one_cell hx)];exact .cons h .nil
 | sl es hv=>rw [Iy (h.one_cell rfl)];exact .cons h .nil
 | rp ls=>rw [Iy (h.one_cell rfl)];exact .cons h .nil
theorem YT.one_cells {w:World} {G:Ym}:∀{xs:List AV} {vs:List Value},YT w G xs vs->xs.all AV.one=true->∀v∈vs,v.oneCell'=true
 | _,_,.nil,_,v,hv=>by simp at hv
 | _,_,.cons h t,hx,v,hv=>by
  simp only [List.all_cons,Xb] at hx
  rcases YN.1 hv with rfl|hv
  ·exact h.one_cell hx.1
  ·exact t.one_cells hx.2 v hv
theorem Z03 (off:Nat):∀(vs:List Value) (i:Nat) (cs:Array Value),off+i+vs.length<=cs.size ->
  ((vs.zipIdx i).foldl (fun (cs:Array Value) (p:Value × Nat)=>cs.setIfInBounds (off+p.2) p.1) cs).toList=cs.toList.take (off+i)++vs++cs.toList.drop (off+i+vs.length)
 | [],i,cs,h=>by simp
 | v::vs,i,cs,h=>by
  simp only [List.zipIdx_cons,List.foldl_cons]
  rw [Z03 off vs (i+1) _ (by simp at h ⊢;omega)]
  have e:=list_seg_step cs.toList (off+i) v vs (by simp at h ⊢;omega)
  simpa [Array.toList_setIfInBounds,AC] using e
theorem Lg {w:World} {G:Ym} {place:Nat->Option (Nat × Nat)}:∀{parts:List (Nat × AV)} {vps:List (Nat × Value)} {ls out:List AV} {cs:Array Value},
  AZ place ls parts=some out->parts.map (·.1)=vps.map (·.1)->YT w G (parts.map (·.2)) (vps.map (·.2))->YT w G ls cs.toList ->
  ∃cs',Instr.fill place cs vps=some cs'/\YT w G out cs'.toList
 | [],vps,ls,out,cs,h,h1,h2,h3=>by
  cases vps with
  | nil=>simp [AZ] at h;subst h;exact ⟨cs,rfl,h3⟩
  | cons p r=>simp at h1
 | (i,x)::rest,vps,ls,out,cs,h,h1,h2,h3=>by
  cases vps with
  | nil=>simp at h1
  | cons p r=>
   obtain ⟨j,v⟩:=p
   simp only [Tk,List.cons.injEq] at h1 h2
   obtain ⟨rfl,h1⟩:=h1
   cases h2 with
   | cons hx ht=>
    simp only [AZ] at h
    cases hp:place i with
    | none=>simp [hp] at h
    | some os=>
     obtain ⟨off,size⟩:=os
     simp only [hp] at h
     cases hc:(x.fit&&(Nat.beq x.leaves.length size&&Nat.ble (off+size) ls.length)) with
     | false=>simp [hc] at h
     | true=>
      simp only [hc] at h
      simp only [Xb] at hc
      have e1:x.leaves.length=size:=T1 hc.2.1
      have e2:off+size<=ls.length:=Vb hc.2.2
      have hl:=h3.length
      have hxc:=hx.cells hc.1
      have hvl:v.cells.size=size:=by have:=hxc.length;simpa [e1] using this
      have hcl:cs.size=ls.length:=by simpa using hl
      have key:YT w G (ls.take off++x.leaves++ls.drop (off+size))
        (v.cells.zipIdx.foldl (fun (cs:Array Value) (p:Value × Nat)=>cs.setIfInBounds (off+p.2) p.1) cs).toList:=by
       have:=Z03 off v.cells.toList 0 cs (by simp [hvl,hcl];omega)
       rw [<-Array.foldl_toList,Array.toList_zipIdx,this]
       simp only [Cb,JT,hvl]
       exact ((h3.take off).append hxc).append (h3.drop (off+size))
      obtain ⟨cs',k1,k2⟩:=Lg h h1 ht key
      refine ⟨cs',?_,k2⟩
      simp only [Instr.fill,hp]
      rw [Za (by simp [hvl,hcl];omega)]
      exact k1
theorem Z20 {P:Program} {t:TypeId} {ls:List AV} (h:Ei P t=some ls) :
  ∃i z,P.info? t=some i/\i.zero=some z/\ls=z.cells.toList.map AV.ofVal:=by
 unfold Ei at h
 cases hi:P.info? t with
 | none=>simp [hi] at h
 | some i=>
  cases hz:i.zero with
  | none=>simp [hi,hz] at h
  | some z=>simp [hi,hz] at h;exact ⟨i,z,rfl,hz,h.symm⟩
theorem YT.ofVals {w:World} {G:Ym}:∀(vs:List Value),YT w G (vs.map AV.ofVal) vs
 | []=>.nil
 | v::vs=>.cons (RV.ofVal v) (YT.ofVals vs)
theorem YT.map {w:World} {G:Ym} {α:Type} (f:α->AV) (g:α->Value):∀(xs:List α),(∀x∈xs,RV w G (f x) (g x))->YT w G (xs.map f) (xs.map g)
 | [],_=>.nil
 | x::xs,h=>.cons (h x (by simp)) (YT.map f g xs fun y hy=>h y (by simp [hy]))
theorem SW {P:Program} (w:World):∀(l:List Field),(l.all fun f=>(P.info? f.type).isSome)=true ->
  (List.mapM (m:=Sem) (fun f=>Functor.map (Prod.mk f.offset) (sizeOf f.type)) l).run P w=.ok (l.map fun f=>(f.offset,((P.info? f.type).map (·.size)).getD 0)) w
 | [],_=>by simp
 | f::l,h=>by
  simp only [List.all_cons,Xb] at h
  cases hfi:P.info? f.type with
  | none=>simp [hfi] at h
  | some j=>simp [Qq hfi,SW w l h.2,hfi]
theorem Zev {P:Program} {t:TypeId} {fs:Array Field} {z ls:List AV} {w:World} {G:Ym} {n:Nat} {F:Fr} {a:Act} (hF:FR w G n F a) (parts:Array (Nat × Operand))
  (h1:CH P t=some fs) (h2:Ei P t=some z) (h4:OI P fs=true) (h3:AZ (Fg P fs) z (parts.toList.map fun p=>(p.1,F.ev p.2))=some ls) :
  ∃v,RV w G (.agg ls) v/\∀w',(Instr.build t (parts.map fun (i,x)=>(i,a.eval x))).run P w'=.ok v w':=by
 obtain ⟨i,zv,hi,hz,rfl⟩:=Z20 h2
 have hu:=LL h1
 have hpl:∀k,((fs.toList.map fun f=>(f.offset,((P.info? f.type).map (·.size)).getD 0)).toArray)[k]? = Fg P fs k:=by
  intro k
  unfold Fg
  simp only [List.getElem?_toArray,Jl,I7]
  cases hk:fs[k]? with
  | none=>rfl
  | some f=>
   have hf:(P.info? f.type).isSome=true:=by
    have:=JU.1 h4 f (by rw [Array.mem_toList_iff];exact Array.mem_of_getElem? hk)
    exact this
   cases hfi:P.info? f.type with
   | none=>simp [hfi] at hf
   | some j=>simp [hfi]
 obtain ⟨cs',k1,k2⟩:=Lg (w:=w) (G:=G) (vps:=parts.toList.map fun p=>(p.1,a.eval p.2)) h3 (by simp [List.map_map,Function.comp_def])
  (by simpa [List.map_map,Function.comp_def] using YT.map (fun p:Nat × Operand=>F.ev p.2) (fun p=>a.eval p.2) parts.toList fun p _=>hF.ev p.2)
  (cs:=zv.cells) (YT.ofVals _)
 refine ⟨_,.agg (cs:=cs'.toList) k2,fun w'=>?_⟩
 have hz':(zeroValue t).run P w'=.ok zv w':=by simp [zeroValue,FA hi,hz]
 have hm:=SW (P:=P) w' fs.toList h4
 have hfun:(fun k=>((fs.toList.map fun f=>(f.offset,((P.info? f.type).map (·.size)).getD 0)).toArray)[k]?)=Fg P fs:=funext hpl
 simp only [Instr.build,Sem.run_bind,hz',Result.andThen_ok,Uq hu,Array.mapM_eq_mapM_toList]
 simp [hm,hpl,k1,Array.toList_map]
theorem Dw {P:Program} {o:Oper} {F:Fr} {h:List Res} {hint:Nat} {x:AV} {eqs:List (Nat × Nat)} (he:Qf P o F h hint=some (x,eqs))
  (heq:∀p∈eqs,p.1=p.2):XY P o F h (eqs.map (·.1)) x:=by
 intro n w G a hF hh
 obtain ⟨dst,op,type,pos,after,guard⟩:=o
 cases op<;>simp only [Qf] at he
 case move y=>
  cases he
  exact ⟨_,hF.ev y,fun w' _ _=>by simp [execOp]⟩
 case assign y=>
  cases he
  exact ⟨_,hF.ev y,fun w' _ _=>by simp [execOp]⟩
 case pick c y z=>
  have hc:=hF.ev c
  split at he
  ·rename_i hb
   cases he
   rw [hb] at hc
   have hc:=hc.val_inv
   exact ⟨_,hF.ev y,fun w' _ _=>by simp [execOp,hc,asBool]⟩
  ·rename_i hb
   cases he
   rw [hb] at hc
   have hc:=hc.val_inv
   exact ⟨_,hF.ev z,fun w' _ _=>by simp [execOp,hc,asBool]⟩
  ·cases he
 case binOp bop xt y z yt=>
  have hy:=hF.ev y
  have hz:=hF.ev z
  split at he
  ·rename_i k p k' q h1 h2
   rw [h1] at hy
   rw [h2] at hz
   have hy:=hy.val_inv
   have hz:=hz.val_inv
   split at he
   ·rename_i hk
    have hk:=Zf0 hk
    subst hk
    split at he
    ·rename_i v hv
     cases he
     refine ⟨v,.val,fun w' _ _=>?_⟩
     have:=Z60 (P:=P) hv xt y z w'
     simp only [execOp,hy,hz]
     exact VF this
    ·cases he
   ·cases he
  ·cases he
 case unOp uop xt y=>
  have hy:=hF.ev y
  split at he
  ·rename_i b hb
   cases he
   rw [hb] at hy
   have hy:=hy.val_inv
   exact ⟨_,.val,fun w' _ _=>by simp [execOp,hy,Op.unary]⟩
  ·cases he
 case nilCheck y=>
  have hy:=hF.ev y
  generalize hv:a.eval y=u at hy
  split at he
  ·rename_i ad hb
   cases he
   rw [hb] at hy
   have hy:=hy.val_inv
   exact ⟨_,.val,fun w' _ _=>by simp [execOp,hv,hy]⟩
  ·rename_i ls hb
   cases he
   rw [hb] at hy
   cases hy with
   | rp hm=>exact ⟨_,.rp hm,fun w' _ _=>by simp [execOp,hv]⟩
  ·rename_i f p c hb
   cases he
   rw [hb] at hy
   have hy:=hy.val_inv
   exact ⟨_,.val,fun w' _ _=>by simp [execOp,hv,hy]⟩
  ·cases he
 case fieldAddr s y f=>
  have hy:=hF.ev y
  generalize hv:a.eval y=u at hy
  split at he
  ·rename_i off hoff
   split at he
   ·rename_i ls hb
    cases he
    rw [hb] at hy
    cases hy with
    | rp hm=>
     refine ⟨_,.rp (hm.drop off),fun w' _ _=>?_⟩
     simp only [execOp,hv]
     exact VF (SU hoff w')
   ·rename_i b o' hb
    cases he
    rw [hb] at hy
    have hy:=hy.val_inv
    subst hy
    refine ⟨_,.val,fun w' _ _=>?_⟩
    simp only [execOp,hv]
    exact VF (SU hoff w')
   ·cases he
  ·cases he
 case field s y f=>
  have hy:=hF.ev y
  generalize hv:a.eval y=u at hy
  split at he
  ·rename_i off fs hoff hfs
   split at he
   ·rename_i fd hfd
    split at he
    ·rename_i ls hb
     split at he
     ·rename_i v hl
      cases he
      rw [hb] at hy
      cases hy with
      | agg hc=>
       rename_i cs
       obtain ⟨fs',fd',i,k1,k2,k3,k4,rfl⟩:=OH hoff
       have k0:=LL hfs
       rw [k0] at k1
       cases k1
       rw [hfd] at k2
       cases k2
       have hd:=hc.drop fd.offset
       unfold Ba at hl
       cases hg:DH P fd.type with
       | none=>simp [hg] at hl
       | some g=>
        cases g with
        | true=>
         simp only [hg,k3] at hl
         cases hle:Nat.ble i.size (ls.drop fd.offset).length with
         | false=>rw [hle] at hl;cases hl
         | true=>
          rw [hle] at hl
          simp only [Wp] at hl
          subst hl
          refine ⟨_,.agg (hd.take i.size),fun w' _ _=>?_⟩
          simp only [execOp,hv]
          refine VF ?_
          simp only [Instr.field,Sem.run_bind,Uq k0,Result.andThen_ok,hfd]
          simp [asAgg,part,Fy hg,Qq k3]
        | false=>
         simp only [hg,k3] at hl
         generalize hls:ls.drop fd.offset=ls' at hl hd
         generalize hcs:cs.drop fd.offset=cs' at hd
         cases hd with
         | nil=>simp at hl
         | cons h1 h2=>
          rename_i c vs xs
          simp at hl
          subst hl
          refine ⟨_,h1,fun w' _ _=>?_⟩
          simp only [execOp,hv]
          refine VF ?_
          have hget:cs[fd.offset]? = some c:=by
           have:=Yl (fun l=>l[0]?) hcs
           simpa using this
          simp only [Instr.field,Sem.run_bind,Uq k0,Result.andThen_ok,hfd]
          simp [asAgg,part,Fy hg,hget]
     ·cases he
    ·cases he
   ·cases he
  ·cases he
 case load t y=>
  have hy:=hF.ev y
  generalize hv:a.eval y=u at hy
  split at he
  ·rename_i ls hb
   split at he
   ·rename_i v hl
    cases he
    rw [hb] at hy
    cases hy with
    | rp hm=>
     rename_i b o'
     obtain ⟨cs,Z9,Zj⟩:=hm.cells
     obtain ⟨v',h1,h2⟩:=HE (b:=b) (o:=o') hl Z9
     refine ⟨v',h1,fun w' hw _=>?_⟩
     simp only [execOp,hv]
     refine VF ?_
     simp only [Instr.loadAt,Instr.sureAddr,Sem.run_bind,Sem.run_pure,Result.andThen_ok]
     exact h2 w' fun j u hj=>(hw _ _ (Zj j u hj).2).trans (Zj j u hj).1
   ·cases he
  ·rename_i b o' hb
   split at he
   ·rename_i b' ls hh'
    split at he
    ·rename_i v hl
     cases he
     rw [hb] at hy
     have hy:=hy.val_inv
     subst hy
     have hbb:b=b':=heq (b,b') (by simp)
     subst hbb
     obtain ⟨cs,e,k1,k2⟩:=hh.ok _ (Y3 hh')
     obtain ⟨v',h1,h2⟩:=HE (b:=b) (o:=o') hl (k2.drop o')
     refine ⟨v',h1,fun w' _ hw=>?_⟩
     simp only [execOp,hv]
     refine VF ?_
     simp only [Instr.loadAt,Instr.sureAddr,Sem.run_bind,Sem.run_pure,Result.andThen_ok]
     refine h2 w' fun j u hj=>?_
     have:=hw b (by simp)
     rw [k1] at this
     rw [cell_of_row w' b (o'+j) cs e (0,0) this]
     simpa using hj
    ·cases he
   ·cases he
  ·cases he
 case extract y i=>
  have hy:=hF.ev y
  generalize hv:a.eval y=u at hy
  split at he
  ·rename_i vs hb
   split at he
   ·rename_i v hl
    cases he
    rw [hb] at hy
    cases hy with
    | tup hc=>
     rename_i cs
     obtain ⟨c,h1,h2⟩:=hc.get i _ hl
     exact ⟨c,h2,fun w' _ _=>by simp [execOp,hv,Instr.extract,h1]⟩
   ·cases he
  ·cases he
 case build t parts=>
  split at he
  ·rename_i fs z h1 h2
   split at he
   ·rename_i h4
    split at he
    ·rename_i ls h3
     cases he
     obtain ⟨v,hv1,hv2⟩:=Zev hF parts h1 h2 h4 h3
     exact ⟨v,hv1,fun w' _ _=>by simp only [execOp];exact VF (hv2 w')⟩
    ·cases he
   ·cases he
  ·cases he
 case makeFunc fn first captured=>
  split at he
  ·rename_i vs us h1 h2
   cases he
   have e1:=MT hF h1
   have e2:=MT hF h2
   refine ⟨_,.val,fun w' _ _=>?_⟩
   have e1':first.map a.eval=vs.toArray:=by rw [<-e1,<-Array.toList_map,UY]
   have e2':captured.map a.eval=us.toArray:=by rw [<-e2,<-Array.toList_map,UY]
   simp only [execOp]
   exact VF (by simp only [Instr.makeFunc,e1',e2'];simp)
  ·cases he
 case call c=>
  obtain ⟨callee,args,argTypes⟩:=c
  simp only at he
  split at he
  ·rename_i y t hargs htys
   split at he
   ·rename_i el hu
    have hy:=hF.ev y
    generalize hv:a.eval y=u at hy
    have ha:args=#[y]:=by rw [<-UY (xs:=args),hargs]
    have ht:argTypes=#[t]:=by rw [<-UY (xs:=argTypes),htys]
    subst ha;subst ht
    split at he
    ·rename_i es hv' hb
     cases he
     rw [hb] at hy
     refine ⟨.int .i64 es.length,.val,fun w' _ _=>?_⟩
     cases hy with
     | nil hx=>simp [execOp,resolve,invoke,builtin,hv,Builtin.len_,Uq hu,goInt]
     | sl hx hc hm=>simp [execOp,resolve,invoke,builtin,hv,Builtin.len_,Uq hu,goInt]
    ·rename_i ad len cap hb
     cases he
     rw [hb] at hy
     have hy:=hy.val_inv
     subst hy
     exact ⟨.int .i64 len,.val,fun w' _ _=>by simp [execOp,resolve,invoke,builtin,hv,Builtin.len_,Uq hu,goInt]⟩
    ·cases he
   ·cases he
  ·cases he
 all_goals (cases he)
def Bo (h:List Res) (b:Nat):Prop:=∀s,Res.ge s∈h->s<=b
theorem Lv {w:World} {G:Ym} {h:List Res} (hh:YK w G h):Bo h w.heap.size:=fun _ hs=>hh.ok _ hs
theorem GN (w:World) (o:Obj):(w.alloc o).heap[w.heap.size]? = some o:=heap_alloc_new w o
theorem BI (w:World) (o:Obj) {b:Nat} (hb:b<w.heap.size):(w.alloc o).heap[b]? = w.heap[b]?:=heap_alloc_old w o b hb
theorem Ey (w:World) (o:Obj) {b j:Nat} (hb:b<w.heap.size):(w.alloc o).cell? ⟨b,j,none⟩=w.cell? ⟨b,j,none⟩:=by
 simp [World.cell?,BI w o hb]
theorem YK.alloc {w:World} {G:Ym} {h:List Res} (hh:YK w G h) (o:Obj) {G':Ym} {h':List Res}
  (hsub:∀b o,G b o->G' b o) (hG:∀b o,G' b o->G b o∨b=w.heap.size) (hnew:∀r∈h',QQ (w.alloc o) G' r)
  (hfp:∀r∈h',∀b o,r.fp b o->b=w.heap.size) (hap:h'.Pairwise Bn) (hpr:∀r∈h',∀b o,r.fp b o->G' b o->False) :
  YK (w.alloc o) G' (h'++h)/\X5 w G h (w.alloc o) G' (h'++h):=by
 have hA:VY G w (w.alloc o) G':=⟨fun b j hg=>Ey w o (hh.lt b j hg),hsub⟩
 have XO:(w.alloc o).heap.size=w.heap.size+1:=by simp
 refine ⟨⟨?_,?_,?_,?_⟩,⟨rfl,rfl,rfl,by omega,hsub,fun b hb=>.inl (BI w o hb),?_,?_⟩⟩
 ·intro r hr
  rcases Xl.1 hr with hr|hr
  ·exact hnew r hr
  ·have h0:=hh.ok r hr
   cases r with
   | obj b ls=>
    obtain ⟨cs,el,h1,h2⟩:=h0
    exact ⟨cs,el,(BI w o (UP.1 h1).1).trans h1,h2.mono hA⟩
   | tail v k=>
    rcases h0 with rfl|⟨g,len,cap,cur,el,rfl,h1,h2,h3⟩
    ·exact .inl rfl
    ·exact .inr ⟨g,len,cap,cur,el,rfl,(BI w o (UP.1 h1).1).trans h1,h2,h3⟩
   | ge s=>exact V6 h0 om
   | vec v ls=>
    rcases h0 with ⟨rfl,h0⟩|⟨g,cap,cur,el,rfl,h1,h2,h3,h4⟩
    ·exact .inl ⟨rfl,h0⟩
    ·exact .inr ⟨g,cap,cur,el,rfl,(BI w o (UP.1 h1).1).trans h1,h2,h3,h4.mono hA⟩
   | many ts=>
    refine ⟨fun p hp=>?_,h0.2⟩
    rcases h0.1 p hp with q|⟨g,len,cap,cur,el,q,h1,h2,h3⟩
    ·exact .inl q
    ·exact .inr ⟨g,len,cap,cur,el,q,(BI w o (UP.1 h1).1).trans h1,h2,h3⟩
   | own B m=>
    intro b hB
    obtain ⟨cs,el,h1,h2⟩:=h0 b hB
    exact ⟨cs,el,(BI w o (UP.1 h1).1).trans h1,h2⟩
   | row v k ls=>
    rcases h0 with ⟨rfl,h0⟩|⟨g,len,cap,cur,el,rfl,h1,h2,h3,h4,h5⟩
    ·exact .inl ⟨rfl,h0⟩
    ·exact .inr ⟨g,len,cap,cur,el,rfl,(BI w o (UP.1 h1).1).trans h1,h2,h3,h4,h5.mono hA⟩
 ·refine Bl.2 ⟨hap,hh.apart,fun r hr r' hr' b j hf hf'=>?_⟩
  have e:=hfp r hr b j hf
  have:=(hh.ok r' hr').lt b j hf'
  omega
 ·intro r hr b j hf hg
  rcases Xl.1 hr with hr|hr
  ·exact hpr r hr b j hf hg
  ·rcases hG b j hg with h1|h1
   ·exact hh.prot r hr b j hf h1
   ·have:=(hh.ok r hr).lt b j hf
    omega
 ·intro b j hg
  rcases hG b j hg with h1|h1
  ·have:=hh.lt b j h1;omega
  ·omega
 ·intro b j hb hg
  rcases hG b j hg with h1|h1
  ·exact .inl h1
  ·omega
 ·intro b j hb hf
  rcases BF.1 hf with ⟨r,hr,h1⟩|h1
  ·have:=hfp r hr b j h1;omega
  ·exact h1
theorem YK.alloc_obj {w:World} {G:Ym} {h:List Res} (hh:YK w G h) (cs:Array Value) (t:TypeId) {ls:List AV} (hls:YT w G ls cs.toList) :
  YK (w.alloc (.cells cs t)) G (.obj w.heap.size ls::h)/\X5 w G h (w.alloc (.cells cs t)) G (.obj w.heap.size ls::h):=by
 have hA:VY G w (w.alloc (.cells cs t)) G:=⟨fun b j hg=>Ey w _ (hh.lt b j hg),fun _ _ h=>h⟩
 refine hh.alloc (.cells cs t) (h':=[.obj w.heap.size ls]) (fun _ _ h=>h) (fun _ _ h=>.inl h) ?_ ?_ (Ej _ _) ?_
 ·intro r hr
  rw [Xy.1 hr]
  exact ⟨cs,t,GN w _,hls.mono hA⟩
 ·intro r hr b j hf
  rw [Xy.1 hr] at hf
  exact hf
 ·intro r hr b j hf hg
  rw [Xy.1 hr] at hf
  have:=hh.lt b j hg
  have:b=w.heap.size:=hf
  omega
section
variable {P:Program} {n:Nat} {o:Oper} {F:Fr} {h:List Res} {K:Fr->List Res->Prop}
theorem Zch (t:TypeId) {ls:List AV} (ho:o.op=.alloc t) (hz:Ei P t=some ls) (hd:VS n o=true)
  (hK:∀b,Bo h b->K (F.put o.dst (.val (.pointer (some ⟨b,0,none⟩)))) (.obj b ls::h)):WO P n o F h K:=by
 intro Q w G a hF hh
 obtain ⟨i,z,hi,hzz,rfl⟩:=Z20 hz
 have hr:(execOp a.eval o).run P w=.ok (.value (.pointer (some ⟨w.heap.size,0,none⟩))) (w.alloc (.cells z.cells t)):=by
  simp only [execOp,ho]
  simp [Instr.alloc,zeroValue,FA hi,hzz,newVar,newRow]
 unfold Oper.wp
 rw [hr]
 have hls:YT w G (z.cells.toList.map AV.ofVal) z.cells.toList:=YT.ofVals _
 obtain ⟨h1,h2⟩:=hh.alloc_obj z.cells t hls
 exact ⟨_,_,G,hK _ (Lv hh),(hF.mono (h2.agree hh)).put (TQ hd) .val,h1,h2⟩
theorem Zcj (t:TypeId) (x:Operand) {X:AV} (ho:o.op=.box t x) (hx:F.ev x=X) (hfit:X.fit=true) (hd:VS n o=true)
  (hK:∀b,Bo h b->K (F.put o.dst (.val (.pointer (some ⟨b,0,none⟩)))) (.obj b X.leaves::h)):WO P n o F h K:=by
 intro Q w G a hF hh
 have hv:=hF.ev x
 rw [hx] at hv
 have hr:(execOp a.eval o).run P w=.ok (.value (.pointer (some ⟨w.heap.size,0,none⟩))) (w.alloc (.cells (a.eval x).cells t)):=by
  simp only [execOp,ho]
  simp [Instr.box,newVar,newRow]
 unfold Oper.wp
 rw [hr]
 obtain ⟨h1,h2⟩:=hh.alloc_obj (a.eval x).cells t (hv.cells hfit)
 exact ⟨_,_,G,hK _ (Lv hh),(hF.mono (h2.agree hh)).put (TQ hd) .val,h1,h2⟩
end
theorem VO (w:World) (g b:Nat) (cs:Array Value) (hb:b≠g):(w.setRow g cs).heap[b]? = w.heap[b]?:=setRow_other w g b cs hb
theorem YK.write {w:World} {G:Ym} {h1 h2:List Res} {b:Nat} {ls ls':List AV} (hh:YK w G (h1++.obj b ls::h2)) {cs cs':Array Value} {e:TypeId}
  (hb:w.heap[b]? = some (.cells cs e (0,0))) (XO:cs'.size=cs.size) (hls:YT w G ls' cs'.toList) :
  YK (w.setRow b cs') G (h1++.obj b ls'::h2)/\X5 w G (h1++.obj b ls::h2) (w.setRow b cs') G (h1++.obj b ls'::h2):=by
 have hmem:Res.obj b ls∈h1++.obj b ls::h2:=by simp
 have hA:VY G w (w.setRow b cs') G:=⟨fun c j hg=>by
  have hne:c≠b:=fun he=>hh.prot _ hmem c j he hg
  simp [World.cell?,VO w b c cs' hne],fun _ _ h=>h⟩
 have hfpe:∀c j,Vu (h1++.obj b ls'::h2) c j↔Vu (h1++.obj b ls::h2) c j:=by
  intro c j
  simp only [Vu,Xl,YN]
  constructor
  ·rintro ⟨r,hr|rfl|hr,hf⟩
   ·exact ⟨r,.inl hr,hf⟩
   ·exact ⟨_,.inr (.inl rfl),hf⟩
   ·exact ⟨r,.inr (.inr hr),hf⟩
  ·rintro ⟨r,hr|rfl|hr,hf⟩
   ·exact ⟨r,.inl hr,hf⟩
   ·exact ⟨_,.inr (.inl rfl),hf⟩
   ·exact ⟨r,.inr (.inr hr),hf⟩
 have hpw:=Bl.1 hh.apart
 have hpw2:=Vg.1 hpw.2.1
 have hother:∀r,(r∈h1∨r∈h2)->∀c j,r.fp c j->c≠b:=by
  intro r hr c j hf hc
  subst hc
  rcases hr with hr|hr
  ·exact hpw.2.2 r hr (.obj c ls) (by simp) c j hf rfl
  ·exact hpw2.1 r hr c j rfl hf
 have hkeep:∀r,(r∈h1∨r∈h2)->QQ w G r->QQ (w.setRow b cs') G r:=by
  intro r hr h0
  cases r with
  | obj c ks=>
   obtain ⟨ds,el,k1,k2⟩:=h0
   have hne:c≠b:=hother _ hr c 0 rfl
   exact ⟨ds,el,(VO w b c cs' hne).trans k1,k2.mono hA⟩
  | tail v k=>
   rcases h0 with rfl|⟨g,len,cap,cur,el,rfl,k1,k2,k3⟩
   ·exact .inl rfl
   ·have hne:g≠b:=hother _ hr g (len*k) ⟨rfl,X0 _⟩
    exact .inr ⟨g,len,cap,cur,el,rfl,(VO w b g cs' hne).trans k1,k2,k3⟩
  | ge s=>exact V6 h0 (by simp [World.setRow])
  | vec v ks=>
   rcases h0 with ⟨rfl,h0⟩|⟨g,cap,cur,el,rfl,k1,k2,k3,k4⟩
   ·exact .inl ⟨rfl,h0⟩
   ·have hne:g≠b:=hother _ hr g 0 rfl
    exact .inr ⟨g,cap,cur,el,rfl,(VO w b g cs' hne).trans k1,k2,k3,k4.mono hA⟩
  | many ts=>
   refine ⟨fun p hp=>?_,h0.2⟩
   rcases h0.1 p hp with q|⟨g,len,cap,cur,el,q,k1,k2,k3⟩
   ·exact .inl q
   ·have hne:g≠b:=hother _ hr g (len*p.2) ⟨p,hp,by rw [q];exact ⟨rfl,X0 _⟩⟩
    exact .inr ⟨g,len,cap,cur,el,q,(VO w b g cs' hne).trans k1,k2,k3⟩
  | own B m=>
   intro c hc
   obtain ⟨ds,el,k1,k2⟩:=h0 c hc
   have hne:c≠b:=hother _ hr c 0 hc
   exact ⟨ds,el,(VO w b c cs' hne).trans k1,k2⟩
  | row v k ks=>
   rcases h0 with ⟨rfl,h0⟩|⟨g,len,cap,cur,el,rfl,k1,k2,k3,k4,k5⟩
   ·exact .inl ⟨rfl,h0⟩
   ·have hne:g≠b:=hother _ hr g 0 rfl
    exact .inr ⟨g,len,cap,cur,el,rfl,(VO w b g cs' hne).trans k1,k2,k3,k4,k5.mono hA⟩
 refine ⟨⟨?_,?_,?_,?_⟩,⟨rfl,rfl,rfl,by simp [World.setRow],fun _ _ h=>h,?_,fun _ _ _ h=>.inl h,fun c j _ hf=>(hfpe c j).1 hf⟩⟩
 ·intro r hr
  rcases Xl.1 hr with hr|hr
  ·exact hkeep r (.inl hr) (hh.ok r (by simp [hr]))
  ·rcases YN.1 hr with rfl|hr
   ·exact ⟨cs',e,setRow_heap w b cs cs' e (0,0) hb,hls.mono hA⟩
   ·exact hkeep r (.inr hr) (hh.ok r (by simp [hr]))
 ·refine Bl.2 ⟨hpw.1,Vg.2 ⟨hpw2.1,hpw2.2⟩,fun r hr r' hr'=>?_⟩
  rcases YN.1 hr' with rfl|hr'
  ·exact hpw.2.2 r hr (.obj b ls) (by simp)
  ·exact hpw.2.2 r hr r' (by simp [hr'])
 ·intro r hr c j hf hg
  rcases Xl.1 hr with hr|hr
  ·exact hh.prot r (by simp [hr]) c j hf hg
  ·rcases YN.1 hr with rfl|hr
   ·exact hh.prot _ hmem c j hf hg
   ·exact hh.prot r (by simp [hr]) c j hf hg
 ·intro c j hg
  have:=hh.lt c j hg
  simpa [World.setRow] using this
 ·intro c hc
  by_cases hcb:c=b
  ·subst hcb
   exact .inr ⟨cs,cs',e,(0,0),hb,setRow_heap w c cs cs' e (0,0) hb,XO,fun j hj=>absurd ⟨_,hmem,rfl⟩ hj⟩
  ·exact .inl (VO w b c cs' hcb)
section
variable {P:Program} {n:Nat} {o:Oper} {F:Fr} {h1 h2:List Res} {K:Fr->List Res->Prop}
theorem Zcr (t:TypeId) (x y:Operand) {b off:Nat} {ls:List AV} {X:AV} (ho:o.op=.store t x y) (hdst:o.dst=none)
  (hx:F.ev x=.val (.pointer (some ⟨b,off,none⟩))) (hy:F.ev y=X) (hX:(X.fit&&X.leaves.all AV.one)=true)
  (XO:(P.info? t).map (·.size)=some X.leaves.length) (hle:Nat.ble (off+X.leaves.length) ls.length=true)
  (hK:K F (h1++.obj b (ls.take off++X.leaves++ls.drop (off+X.leaves.length))::h2)):WO P n o F (h1++.obj b ls::h2) K:=by
 intro Q w G a hF hh
 have hvx:=hF.ev x
 rw [hx] at hvx
 have hvx:=hvx.val_inv
 have hvy:=hF.ev y
 rw [hy] at hvy
 simp only [Xb] at hX
 have hcs:=hvy.cells hX.1
 have hone:=hcs.one_cells hX.2
 have hlen:=hcs.length
 obtain ⟨cs,e,k1,k2⟩:=hh.ok (.obj b ls) (by simp)
 have hle:=Vb hle
 have hcl:=k2.length
 simp only [JT] at hlen hcl
 cases hi:P.info? t with
 | none=>simp [hi] at XO
 | some i=>
  have XO:i.size=X.leaves.length:=by simpa [hi] using XO
  have hst:=run_storeCells_at P b off e (a.eval y).cells.toList 0 cs w k1 (by simp [hlen,hcl];omega) hone
  simp only [Cb,JT] at hst
  have hr:(execOp a.eval o).run P w=.ok .skip (w.setRow b (cs.toList.take off++(a.eval y).cells.toList++cs.toList.drop (off+(a.eval y).cells.size)).toArray):=by
   simp only [execOp,ho,hvx]
   simp [Instr.storeAt,Instr.sureAddr,storeVar,Qq hi,hlen,XO,hst]
  unfold Oper.wp
  rw [hr]
  obtain ⟨j1,j2⟩:=hh.write (ls':=ls.take off++X.leaves++ls.drop (off+X.leaves.length)) (cs':=(cs.toList.take off++(a.eval y).cells.toList++cs.toList.drop (off+(a.eval y).cells.size)).toArray)
   k1 (by simp [hlen,hcl];omega) (by rw [FT,hlen];exact ((k2.take off).append hcs).append (k2.drop _))
  refine ⟨F,_,G,hK,?_,j1,j2⟩
  have:=hF.mono (j2.agree hh)
  simpa [Act.put,hdst] using this
end
theorem Z7h {h h':List Res} (s:∀r∈h',r∈h) {b o:Nat} (hf:Vu h' b o):Vu h b o:=
 let ⟨r,hr,h⟩:=hf;⟨r,s r hr,h⟩
theorem YK.sub {w:World} {G:Ym} {h h':List Res} (hh:YK w G h) (s:h'.Sublist h):YK w G h':=
 ⟨fun r hr=>hh.ok r (s.subset hr),hh.apart.sublist s,fun r hr=>hh.prot r (s.subset hr),hh.lt⟩
theorem X5.sub' {w w':World} {G G':Ym} {h h' h'':List Res} (e:X5 w G h w' G' h') (s:h''.Sublist h'):X5 w G h w' G' h'':=
 ⟨e.os,e.tape,e.output,e.size,e.sub,e.same,e.newG,fun b o hb hf=>e.newfp b o hb (Z7h (fun _ hr=>s.subset hr) hf)⟩
theorem Br (w:World) (G:Ym):VY G w w.drew G:=⟨fun _ _ _=>rfl,fun _ _ h=>h⟩
theorem YK.drew {w:World} {G:Ym} {h:List Res} (hh:YK w G h):YK w.drew G h where
 ok:=fun r hr=>by
  have h0:=hh.ok r hr
  cases r with
  | obj b ls=>obtain ⟨cs,e,h1,h2⟩:=h0;exact ⟨cs,e,h1,h2.mono (Br w G)⟩
  | tail v k=>exact h0
  | ge s=>exact h0
  | vec v ls=>
   rcases h0 with ⟨rfl,h0⟩|⟨g,cap,cur,el,rfl,h1,h2,h3,h4⟩
   ·exact .inl ⟨rfl,h0⟩
   ·exact .inr ⟨g,cap,cur,el,rfl,h1,h2,h3,h4.mono (Br w G)⟩
  | many ts=>exact h0
  | own B m=>exact h0
  | row v k ls=>
   rcases h0 with ⟨rfl,h0⟩|⟨g,len,cap,cur,el,rfl,h1,h2,h3,h4,h5⟩
   ·exact .inl ⟨rfl,h0⟩
   ·exact .inr ⟨g,len,cap,cur,el,rfl,h1,h2,h3,h4,h5.mono (Br w G)⟩
 apart:=hh.apart
 prot:=hh.prot
 lt:=hh.lt
theorem X5.drew (w:World) (G:Ym) (h:List Res):X5 w G h w.drew G h:=
 ⟨rfl,rfl,rfl,X0 _,fun _ _ h=>h,fun _ _=>.inl rfl,fun _ _ _ h=>.inl h,fun _ _ _ h=>h⟩
theorem YK.alloc_row {w:World} {G:Ym} {h:List Res} (hh:YK w G h) (cs:Array Value) (t:TypeId) {es:List AV} {k cap:Nat}
  (hk:∀x∈es,x.leaves.length=k) (hcap:es.length<=cap) (XO:cs.size=cap*k) (hls:YT w G (Zg es) (cs.toList.take (es.length*k))) :
  ∃G',YK (w.alloc (.cells cs t)) G' (.tail (.slice (some ⟨w.heap.size,0,none⟩) es.length cap) k::h) /\
   X5 w G h (w.alloc (.cells cs t)) G' (.tail (.slice (some ⟨w.heap.size,0,none⟩) es.length cap) k::h) /\
   RV (w.alloc (.cells cs t)) G' (.sl es (some (.slice (some ⟨w.heap.size,0,none⟩) es.length cap))) (.slice (some ⟨w.heap.size,0,none⟩) es.length cap):=by
 let G':Ym:=fun b o=>G b o∨(b=w.heap.size/\o<es.length*k)
 have hA:VY G w (w.alloc (.cells cs t)) G':=⟨fun b j hg=>Ey w _ (hh.lt b j hg),fun _ _ h=>.inl h⟩
 have hrow:(w.alloc (.cells cs t)).heap[w.heap.size]? = some (.cells cs t (0,0)):=GN w _
 obtain ⟨h1,h2⟩:=hh.alloc (.cells cs t) (G':=G') (h':=[.tail (.slice (some ⟨w.heap.size,0,none⟩) es.length cap) k]) (fun _ _ h=>.inl h)
  (fun _ _ h=>h.imp id (·.1))
  (fun r hr=>by rw [Xy.1 hr];exact .inr ⟨_,_,_,cs,t,rfl,hrow,hcap,XO⟩)
  (fun r hr b j hf=>by rw [Xy.1 hr] at hf;exact hf.1)
  (Ej _ _)
  (fun r hr b j hf hg=>by
   rw [Xy.1 hr] at hf
   obtain ⟨rfl,hf2⟩:=hf
   rcases hg with hg|hg
   ·exact Nat.lt_irrefl _ (hh.lt _ _ hg)
   ·exact absurd hg.2 om)
 refine ⟨G',h1,h2,.sl (fun x hx=>by cases hx;rfl) hcap (Vh.of_flat es hk (Wv.of_cells (hls.mono hA) fun j v hj=>?_))⟩
 have hj2:=hj
 rw [Qt] at hj2
 split at hj2
 ·rename_i hlt
  refine ⟨?_,.inr ⟨rfl,by omega⟩⟩
  rw [Wj,cell_of_row _ _ j cs t (0,0) hrow]
  simpa using hj2
 ·cases hj2
theorem Se {w:World} {G:Ym}:∀(vs:List Value),YT w G (List.replicate vs.length AV.any) vs
 | []=>.nil
 | v::vs=>by simp only [Yo,Ek];exact .cons .any (Se vs)
def AL (es:List AV) (k:Nat):Bool:=es.all fun x=>Nat.beq x.leaves.length k
theorem Z2u {es:List AV} {k:Nat} (h:AL es k=true):∀x∈es,x.leaves.length=k:=fun x hx=>
 T1 (JU.1 h x hx)
section
variable {P:Program} {n:Nat} {o:Oper} {F:Fr} {h:List Res} {K:Fr->List Res->Prop}
theorem HD {w:World} {G:Ym} {a:Act} (hF:FR w G n F a) {t len:Nat} (parts:Array (Nat × Operand)) {e size:Nat} {i:TypeInfo} {ls:List AV}
  (ht:P.underlying t=some (.slice e)) (hi:P.info? e=some i) (hs:i.size=size) (hz:i.zero.isSome=true) (hle:Nat.ble (len*size) (2 ^ 24)=true)
  (hfill:AZ (fun i=>some (i*size,size)) (List.replicate (len*size) .any) (parts.toList.map fun p=>(p.1,F.ev p.2))=some ls) :
  ∃cs:Array Value,YT w G ls cs.toList /\
   (Instr.buildSlice t len (parts.map fun (i,x)=>(i,a.eval x))).run P w=.ok (.slice (some ⟨w.heap.size,0,none⟩) len len) (w.alloc (.cells cs e)):=by
 subst hs
 have hle:=Vb hle
 cases hzz:i.zero with
 | none=>simp [hzz] at hz
 | some z=>
  let zero:Array Value:=if len*i.size=0 then #[] else z.cells
  have hzlen:((Array.range (len*i.size)).map (zero[· % zero.size]!)).toList.length=len*i.size:=by simp
  obtain ⟨cs',k1,k2⟩:=Lg (w:=w) (G:=G) (vps:=parts.toList.map fun p=>(p.1,a.eval p.2)) hfill (by simp [List.map_map,Function.comp_def])
   (by simpa [List.map_map,Function.comp_def] using YT.map (fun p:Nat × Operand=>F.ev p.2) (fun p=>a.eval p.2) parts.toList fun p _=>hF.ev p.2)
   (cs:=(Array.range (len*i.size)).map (zero[· % zero.size]!)) (by have:=Se (w:=w) (G:=G) ((Array.range (len*i.size)).map (zero[· % zero.size]!)).toList;rwa [hzlen] at this)
  refine ⟨cs',k2,?_⟩
  have hnot:¬(len*i.size>2 ^ 24):=by omega
  have hzv:(zeroValue e).run P w=.ok z w:=by simp [zeroValue,FA hi,hzz]
  have hmap:(parts.map fun (x:Nat × Operand)=>(x.1,a.eval x.2)).toList=parts.toList.map fun p=>(p.1,a.eval p.2):=by simp
  simp only [Instr.buildSlice,Sem.run_bind,Uq ht,Result.andThen_ok,Qq hi,hnot,if_false]
  by_cases h0:len*i.size=0
  ·have hz0:zero=#[]:=Zk h0
   rw [hz0] at k1
   rw [Zk h0]
   simp only [Sem.run_bind,Sem.run_pure,Result.andThen_ok,hmap,k1]
   simp [newRow]
  ·have hz0:zero=z.cells:=Za h0
   rw [hz0] at k1
   rw [Za h0]
   simp only [Sem.run_bind,Sem.run_pure,Result.andThen_ok,hzv,hmap,k1]
   simp [newRow]
theorem Zcm (t len:Nat) (parts:Array (Nat × Operand)) {e size:Nat} {i:TypeInfo} {es:List AV} (ho:o.op=.buildSlice t len parts)
  (ht:P.underlying t=some (.slice e)) (hi:P.info? e=some i) (hs:i.size=size) (hz:i.zero.isSome=true) (hle:Nat.ble (len*size) (2 ^ 24)=true)
  (hfill:AZ (fun i=>some (i*size,size)) (List.replicate (len*size) .any) (parts.toList.map fun p=>(p.1,F.ev p.2))=some (Zg es))
  (hlen:es.length=len) (hall:AL es size=true) (hd:VS n o=true)
  (hK:∀b,Bo h b->K (F.put o.dst (.sl es (some (.slice (some ⟨b,0,none⟩) len len)))) (.tail (.slice (some ⟨b,0,none⟩) len len) size::h)):WO P n o F h K:=by
 intro Q w G a hF hh
 obtain ⟨cs,h1,h2⟩:=HD hF parts ht hi hs hz hle hfill
 have hr:(execOp a.eval o).run P w=.ok (.value (.slice (some ⟨w.heap.size,0,none⟩) len len)) (w.alloc (.cells cs e)):=by
  simp only [execOp,ho]
  exact VF h2
 unfold Oper.wp
 rw [hr]
 subst hlen
 have hk:=Z2u hall
 have hcs:cs.size=es.length*size:=by have:=h1.length;rw [TE es hk] at this;simpa using this
 obtain ⟨G',j1,j2,j3⟩:=hh.alloc_row cs e hk (X0 _) hcs (by rw [<-hcs];simpa [WI] using h1)
 exact ⟨_,_,G',hK _ (Lv hh),(hF.mono (j2.agree hh)).put (TQ hd) j3,j1,j2⟩
end
structure FW (w:World) (G:Ym) (h1 h2:List Res) (k:Nat) (v:Value) (es:List AV) (v':Value) (w':World) (G':Ym):Prop where
 ok:YK w' G' (h1++.tail v' k::h2)
 ext:X5 w G (h1++.tail v k::h2) w' G' (h1++.tail v' k::h2)
 rv:RV w' G' (.sl es (some v')) v'
 own:v'.ownBlock=v.ownBlock∨∃b,v'.ownBlock=some b/\w.heap.size<=b
theorem Z32 {w:World} {G:Ym} {h1 h2:List Res} {k:Nat} {v:Value} (hh:YK w G (h1++.tail v k::h2)) (cs:Array Value) (t:TypeId) {es:List AV} {cap:Nat}
  (hk:∀x∈es,x.leaves.length=k) (hcap:es.length<=cap) (XO:cs.size=cap*k) (hls:YT w G (Zg es) (cs.toList.take (es.length*k))) :
  ∃G',FW w G h1 h2 k v es (.slice (some ⟨w.heap.size,0,none⟩) es.length cap) (w.drew.alloc (.cells cs t)) G':=by
 obtain ⟨G',j1,j2,j3⟩:=hh.drew.alloc_row cs t hk hcap XO (hls.mono (Br w G))
 have hsub:(h1++.tail (.slice (some ⟨w.heap.size,0,none⟩) es.length cap) k::h2).Perm (.tail (.slice (some ⟨w.heap.size,0,none⟩) es.length cap) k::(h1++h2)):=List.perm_middle
 have hs2:(Res.tail (.slice (some ⟨w.heap.size,0,none⟩) es.length cap) k::(h1++h2)).Sublist (.tail (.slice (some ⟨w.heap.size,0,none⟩) es.length cap) k::(h1++.tail v k::h2)):=
  List.Sublist.cons_cons _ (List.Sublist.append (List.Sublist.refl _) (Ca _ _))
 refine ⟨G',(j1.sub hs2).perm hsub.symm,?_,j3,.inr ⟨_,rfl,X0 _⟩⟩
 exact (X5.drew w G _).trans ((j2.sub' hs2).perm (TI _) hsub.symm)
theorem E4 {P:Program} {t ty e:TypeId} {i:TypeInfo} (ht:P.underlying t=some (.slice e)) (hi:P.info? e=some i) {ad:Option Addr} {len cap:Nat} {a:Option Addr} {c:Nat}
  (hle:len<=cap) (w:World):(Builtin.append_ #[t,t] ty #[.slice ad len cap,.slice a 0 c]).run P w=.ok (.slice ad len cap) w:=by
 cases ad with
 | none=>cases a<;>simp [Builtin.append_,Uq ht,Qq hi,Builtin.lenOf,hle,Builtin.firstCells,loadCells,loadCellsFrom]
 | some ad=>cases a<;>simp [Builtin.append_,Uq ht,Qq hi,Builtin.lenOf,hle,Builtin.firstCells,loadCells,loadCellsFrom,storeCells]
theorem Z33 {w:World} {G:Ym} {h1 h2:List Res} {k g cap:Nat} {es xs:List AV} {cur:Array Value} {e:TypeId} {news:List Value}
  (hh:YK w G (h1++.tail (.slice (some ⟨g,0,none⟩) es.length cap) k::h2)) (hrow:w.heap[g]? = some (.cells cur e (0,0))) (hcur:cur.size=cap*k)
  (hm:Wv w G g 0 (Zg es)) (hes:∀y∈es,y.leaves.length=k) (hxs:∀y∈xs,y.leaves.length=k) (hn:YT w G (Zg xs) news)
  (hroom:es.length+xs.length<=cap) :
  ∃G',FW w G h1 h2 k (.slice (some ⟨g,0,none⟩) es.length cap) (es++xs) (.slice (some ⟨g,0,none⟩) (es.length+xs.length) cap)
   (w.setRow g (cur.toList.take (es.length*k)++news++cur.toList.drop (es.length*k+news.length)).toArray) G':=by
 have hnl:news.length=xs.length*k:=by rw [hn.length,TE xs hxs]
 have hfit:es.length*k+news.length<=cur.size:=by rw [hnl,hcur,<-TJ];exact Jo _ hroom
 generalize hcs':(cur.toList.take (es.length*k)++news++cur.toList.drop (es.length*k+news.length)).toArray=cs'
 have hlist:cs'.toList=cur.toList.take (es.length*k)++news++cur.toList.drop (es.length*k+news.length):=by rw [<-hcs']
 have XO:cs'.size=cur.size:=by
  have:=Yl List.length hlist
  simp only [JT,ZX,Wi,FL] at this
  omega
 have hlow:∀j,j<es.length*k->cs'[j]? = cur[j]?:=by
  intro j hj
  have h1:(cur.toList.take (es.length*k)).length=es.length*k:=by simp;omega
  rw [<-I7,hlist,XW,JV om,Qt,Zk hj,I7]
 have hmid:∀j u,news[j]? = some u->cs'[es.length*k+j]? = some u:=by
  intro j u hj
  have h1:(cur.toList.take (es.length*k)).length=es.length*k:=by simp;omega
  have hjl:j<news.length:=(Xh.1 hj).1
  rw [<-I7,hlist,XW,D8 om,h1,Nat.add_sub_cancel_left,JV hjl,hj]
 have hmem:Res.tail (.slice (some ⟨g,0,none⟩) es.length cap) k∈h1++.tail (.slice (some ⟨g,0,none⟩) es.length cap) k::h2:=by simp
 let G':Ym:=fun b o=>G b o∨(b=g/\es.length*k<=o/\o<(es.length+xs.length)*k)
 have hA:VY G w (w.setRow g cs') G':=⟨fun b j hg=>by
  by_cases hbg:b=g
  ·subst hbg
   have hj:j<es.length*k:=by
    rcases FU j (es.length*k) with h|h
    ·exact h
    ·exact (hh.prot _ hmem b j ⟨rfl,h⟩ hg).elim
   rw [cell_of_row _ b j cs' e (0,0) (setRow_heap w b cur cs' e (0,0) hrow),cell_of_row w b j cur e (0,0) hrow,hlow j hj]
  ·simp [World.cell?,VO w g b cs' hbg],fun _ _ h=>.inl h⟩
 have hpw:=Bl.1 hh.apart
 have hpw2:=Vg.1 hpw.2.1
 have hbig:∀j,es.length*k<=j->Res.fp (.tail (.slice (some ⟨g,0,none⟩) es.length cap) k) g j:=fun j hj=>⟨rfl,hj⟩
 have hother:∀r,(r∈h1∨r∈h2)->∀c j,r.fp c j->c=g->j<es.length*k:=by
  intro r hr c j hf hc
  subst hc
  rcases FU j (es.length*k) with h|h
  ·exact h
  ·rcases hr with hr|hr
   ·exact (hpw.2.2 r hr _ (Xa ..) c j hf (hbig j h)).elim
   ·exact (hpw2.1 r hr c j (hbig j h) hf).elim
 have hkeep:∀r,(r∈h1∨r∈h2)->QQ w G r->QQ (w.setRow g cs') G' r:=by
  intro r hr h0
  cases r with
  | obj c ks=>
   obtain ⟨ds,el,k1,k2⟩:=h0
   have hne:c≠g:=fun hc=>by have:=hother _ hr c (es.length*k) rfl hc;omega
   exact ⟨ds,el,(VO w g c cs' hne).trans k1,k2.mono hA⟩
  | tail v kk=>
   rcases h0 with rfl|⟨g2,len,cap2,cur2,el,rfl,k1,k2,k3⟩
   ·exact .inl rfl
   ·have hne:g2≠g:=fun hc=>by have:=hother _ hr g2 (len*kk+es.length*k) ⟨rfl,by omega⟩ hc;omega
    exact .inr ⟨g2,len,cap2,cur2,el,rfl,(VO w g g2 cs' hne).trans k1,k2,k3⟩
  | ge s=>exact V6 h0 (by simp [World.setRow])
  | vec v ks=>
   rcases h0 with ⟨rfl,h0⟩|⟨g2,cap2,cur2,el,rfl,k1,k2,k3,k4⟩
   ·exact .inl ⟨rfl,h0⟩
   ·have hne:g2≠g:=fun hc=>by have:=hother _ hr g2 (es.length*k) rfl hc;omega
    exact .inr ⟨g2,cap2,cur2,el,rfl,(VO w g g2 cs' hne).trans k1,k2,k3,k4.mono hA⟩
  | many ts=>
   refine ⟨fun p hp=>?_,h0.2⟩
   rcases h0.1 p hp with q|⟨g2,len,cap2,cur2,el,q,k1,k2,k3⟩
   ·exact .inl q
   ·have hne:g2≠g:=fun hc=>by have:=hother _ hr g2 (len*p.2+es.length*k) ⟨p,hp,by rw [q];exact ⟨rfl,by omega⟩⟩ hc;omega
    exact .inr ⟨g2,len,cap2,cur2,el,q,(VO w g g2 cs' hne).trans k1,k2,k3⟩
  | own B m=>
   intro c hc
   obtain ⟨ds,el,k1,k2⟩:=h0 c hc
   have hne:c≠g:=fun hq=>by have:=hother _ hr c (es.length*k) hc hq;omega
   exact ⟨ds,el,(VO w g c cs' hne).trans k1,k2⟩
  | row v kk ks=>
   rcases h0 with ⟨rfl,h0⟩|⟨g2,len2,cap2,cur2,el,rfl,k1,k2,k3,k4,k5⟩
   ·exact .inl ⟨rfl,h0⟩
   ·have hne:g2≠g:=fun hc=>by have:=hother _ hr g2 (es.length*k) rfl hc;omega
    exact .inr ⟨g2,len2,cap2,cur2,el,rfl,(VO w g g2 cs' hne).trans k1,k2,k3,k4,k5.mono hA⟩
 have hle:es.length*k<=(es.length+xs.length)*k:=Jo _ om
 have hfpe:∀r,r∈h1++.tail (.slice (some ⟨g,0,none⟩) (es.length+xs.length) cap) k::h2->∀b o,r.fp b o ->
   Vu (h1++.tail (.slice (some ⟨g,0,none⟩) es.length cap) k::h2) b o:=by
  intro r hr b o hf
  rcases Xl.1 hr with hr|hr
  ·exact ⟨r,by simp [hr],hf⟩
  ·rcases YN.1 hr with rfl|hr
   ·obtain ⟨rfl,hf2⟩:=hf
    exact ⟨_,hmem,rfl,V6 hle hf2⟩
   ·exact ⟨r,by simp [hr],hf⟩
 refine ⟨G',⟨?_,?_,?_,?_⟩,⟨rfl,rfl,rfl,by simp [World.setRow],fun _ _ h=>.inl h,?_,?_,fun b o _ ⟨r,hr,hf⟩=>hfpe r hr b o hf⟩,?_,.inl rfl⟩
 ·intro r hr
  rcases Xl.1 hr with hr|hr
  ·exact hkeep r (.inl hr) (hh.ok r (by simp [hr]))
  ·rcases YN.1 hr with rfl|hr
   ·exact .inr ⟨g,_,cap,cs',e,rfl,setRow_heap w g cur cs' e (0,0) hrow,hroom,XO.trans hcur⟩
   ·exact hkeep r (.inr hr) (hh.ok r (by simp [hr]))
 ·have htt:∀r,Bn r (.tail (.slice (some ⟨g,0,none⟩) es.length cap) k)->Bn r (.tail (.slice (some ⟨g,0,none⟩) (es.length+xs.length) cap) k):=
   fun r hd b o hf ⟨e1,e2⟩=>hd b o hf ⟨e1,V6 hle e2⟩
  refine Bl.2 ⟨hpw.1,Vg.2 ⟨fun r hr=>(htt r (hpw2.1 r hr).symm).symm,hpw2.2⟩,fun r hr r' hr'=>?_⟩
  rcases YN.1 hr' with rfl|hr'
  ·exact htt r (hpw.2.2 r hr _ (Xa ..))
  ·exact hpw.2.2 r hr r' (by simp [hr'])
 ·intro r hr b o hf hg
  obtain ⟨r0,hr0,hf0⟩:=hfpe r hr b o hf
  rcases hg with hg|⟨rfl,hg1,hg2⟩
  ·exact hh.prot r0 hr0 b o hf0 hg
  ·rcases Xl.1 hr with hr|hr
   ·have:=hother r (.inl hr) b o hf rfl;omega
   ·rcases YN.1 hr with rfl|hr
    ·have:=hf.2;omega
    ·have:=hother r (.inr hr) b o hf rfl;omega
 ·intro b o hg
  have hs:(w.setRow g cs').heap.size=w.heap.size:=by simp [World.setRow]
  rw [hs]
  rcases hg with hg|⟨rfl,_,_⟩
  ·exact hh.lt b o hg
  ·exact (UP.1 hrow).1
 ·intro b hb
  by_cases hbg:b=g
  ·subst hbg
   refine .inr ⟨cur,cs',e,(0,0),hrow,setRow_heap w b cur cs' e (0,0) hrow,XO,fun o ho=>hlow o ?_⟩
   rcases FU o (es.length*k) with h|h
   ·exact h
   ·exact absurd ⟨_,hmem,rfl,h⟩ ho
  ·exact .inl (VO w g b cs' hbg)
 ·intro b o hb hg
  rcases hg with hg|⟨rfl,hg1,hg2⟩
  ·exact .inl hg
  ·exact .inr ⟨_,hmem,rfl,hg1⟩
 ·rw [<-ZX]
  refine .sl (k:=k) (fun x hx=>by cases hx;rfl) (by simpa using hroom) (Vh.of_flat _ (fun y hy=>?_) ?_)
  ·rcases Xl.1 hy with hy|hy
   ·exact hes y hy
   ·exact hxs y hy
  ·have e1:Zg (es++xs)=Zg es++Zg xs:=by simp [Zg]
   rw [e1]
   refine (hm.mono hA).append ?_
   rw [TE es hes,Wj]
   refine Wv.of_cells (hn.mono hA) fun j u hj=>⟨?_,.inr ⟨rfl,by omega,?_⟩⟩
   ·rw [cell_of_row _ g _ cs' e (0,0) (setRow_heap w g cur cs' e (0,0) hrow),hmid j u hj]
   ·have hjl:j<news.length:=(Xh.1 hj).1
    rw [TJ]
    omega
theorem Ms {P:Program} (w:World) (t ty e el:TypeId) (i:TypeInfo) (ht:P.underlying t=some (.slice e)) (hi:P.info? e=some i)
  (g sLen sCap:Nat) (cur:Array Value) (hg:w.heap[g]? = some (.cells cur el (0,0)))
  (a:Addr) (m c:Nat) (news:List Value) (hl:news.length=m*i.size) (hnews:∀j u,news[j]? = some u->w.cell? (a.add j)=some u) (h1:∀u∈news,u.oneCell'=true)
  (hroom:sLen+m<=sCap) (hfit:sLen*i.size+news.length<=cur.size) :
  (Builtin.append_ #[t,t] ty #[.slice (some ⟨g,0,none⟩) sLen sCap,.slice (some a) m c]).run P w =
   .ok (.slice (some ⟨g,0,none⟩) (sLen+m) sCap) (w.setRow g (cur.toList.take (sLen*i.size)++news++cur.toList.drop (sLen*i.size+news.length)).toArray):=by
 have hf:=run_firstCells_some (P:=P) w i.size m a m c news hl hnews
 have hst:=run_storeCells_at P g (sLen*i.size) el news 0 cur w hg (by simpa using hfit) h1
 simp only [Cb] at hst
 simp [Builtin.append_,run_underlying ht,sizeOf,typeInfo,hi,Builtin.lenOf,hroom,hf,Addr.add_lit,hst]
theorem Z31 {P:Program} {w:World} {G:Ym} {h1 h2:List Res} {t ty e k:Nat} {i:TypeInfo} {v x:Value} {es xs:List AV}
  (ht:P.underlying t=some (.slice e)) (hi:P.info? e=some i) (hk:i.size=k) (hzs:(i.zero.map (·.cells.size))=some k) (hb:Nat.ble i.bytes 32768=true)
  (hh:YK w G (h1++.tail v k::h2)) (hv:RV w G (.sl es (some v)) v) (hx:RV w G (.sl xs none) x)
  (hes:∀y∈es,y.leaves.length=k) (hxs:∀y∈xs,y.leaves.length=k) (hone:(Zg xs).all AV.one=true) (hbound:es.length+xs.length<=4294967296) :
  ∃v' w' G',(Builtin.append_ #[t,t] ty #[v,x]).run P w=.ok v' w'/\FW w G h1 h2 k v (es++xs) v' w' G':=by
 have htail:Ij w v k:=hh.ok (.tail v k) (by simp)
 have hb:=Vb hb
 cases hz:i.zero with
 | none=>simp [hz] at hzs
 | some z=>
  have hzs:z.cells.size=k:=by simpa [hz] using hzs
  have hlen:v=.slice none 0 0->es=[]:=by
   intro he
   subst he
   cases hv with
   | nil=>rfl
  have grown:∀(olds news:List Value) (old:Nat),YT w G (Zg es) olds->YT w G (Zg xs) news ->
    ∃G',FW w G h1 h2 k v (es++xs) (.slice (some ⟨w.heap.size,0,none⟩) (es.length+xs.length) (grownCap w (es.length+xs.length) old e))
     (w.drew.alloc (.cells (olds.toArray++news.toArray++Builtin.zeroCells z.cells (grownCap w (es.length+xs.length) old e-(es.length+xs.length))) e)) G':=by
   intro olds news old ho hn
   have Xk:=grownCap_ge w (es.length+xs.length) old e
   have hall:∀y∈es++xs,y.leaves.length=k:=fun y hy=>by
    rcases Xl.1 hy with hy|hy
    ·exact hes y hy
    ·exact hxs y hy
   have e1:Zg (es++xs)=Zg es++Zg xs:=by simp [Zg]
   have hol:olds.length=es.length*k:=by rw [ho.length,TE es hes]
   have hnl:news.length=xs.length*k:=by rw [hn.length,TE xs hxs]
   have:=Z32 hh (olds.toArray++news.toArray++Builtin.zeroCells z.cells (grownCap w (es.length+xs.length) old e-(es.length+xs.length))) e
    (es:=es++xs) (cap:=grownCap w (es.length+xs.length) old e) hall (by simpa using Xk)
    (by
     simp only [Array.size_append,FQ,size_zeroCells,hzs,hol,hnl,<-TJ]
     congr 1
     omega)
    (by
     rw [e1]
     have:(olds.toArray++news.toArray++Builtin.zeroCells z.cells (grownCap w (es.length+xs.length) old e-(es.length+xs.length))).toList.take ((es++xs).length*k)=olds++news:=by
      simp only [I8,XW,ZX]
      rw [<-XW,TJ,<-hol,<-hnl,<-ZX]
      exact Jn
     rw [this]
     exact ho.append hn)
   simpa using this
  by_cases hxe:xs=[]
  ·subst hxe
   cases hx with
   | nil _=>
    refine ⟨v,w,G,?_,by simpa using hh,X5.refl _ _ _,by simpa using hv,.inl rfl⟩
    rcases htail with rfl|⟨g,len,cap,cur,el,rfl,_,hle,_⟩
    ·exact E4 ht hi (X0 _) w
    ·exact E4 ht hi hle w
   | sl _ _ _=>
    refine ⟨v,w,G,?_,by simpa using hh,X5.refl _ _ _,by simpa using hv,.inl rfl⟩
    rcases htail with rfl|⟨g,len,cap,cur,el,rfl,_,hle,_⟩
    ·exact E4 ht hi (X0 _) w
    ·exact E4 ht hi hle w
  ·cases hx with
   | nil _=>exact absurd rfl hxe
   | sl hq hcc hm=>
    rename_i b o' k' c
    have hpos:0<xs.length:=C9.2 hxe
    obtain ⟨news,hn,hnc⟩:=hm.flat_mem.cells
    have hnl:news.length=xs.length*i.size:=by rw [hn.length,hk,TE xs hxs]
    have hone':=hn.one_cells hone
    have hnews:∀j u,news[j]? = some u->w.cell? ((⟨b,o',none⟩:Addr).add j)=some u:=fun j u hj=>by rw [Jq];exact (hnc j u hj).1
    have hby:(es.length+xs.length)*i.bytes<=140737488355328:=by
     have:=Nat.mul_le_mul hbound hb
     omega
    rcases htail with rfl|⟨g,len,cap,cur,el,rfl,hrow,hlc,hcur⟩
    ·have he:=hlen rfl
     subst he
     have hr:=run_append_nil (P:=P) w t ty e i z ht hi hz ⟨b,o',none⟩ xs.length c news hnl hnews hpos (by simp at hbound;omega) (by simp at hby;omega)
     obtain ⟨G',hG'⟩:=grown [] news 0 .nil hn
     simp only [YC,Wj,Array.empty_append] at hG'
     exact ⟨_,_,G',hr,by simpa using hG'⟩
    ·have hle:len=es.length:=by cases hv<;>rfl
     subst hle
     have hmem:Wv w G g 0 (Zg es):=by
      cases hv with
      | nil=>exact .nil
      | sl _ _ hm=>exact hm.flat_mem
     obtain ⟨olds,ho,hoc⟩:=hmem.cells
     by_cases hroom:es.length+xs.length<=cap
     ·have hfit:es.length*i.size+news.length<=cur.size:=by rw [hnl,hcur,hk,<-TJ];exact Jo _ hroom
      have hr:=Ms (P:=P) w t ty e el i ht hi g es.length cap cur hrow ⟨b,o',none⟩ xs.length c news hnl hnews hone' hroom hfit
      obtain ⟨G',hG'⟩:=Z33 (h1:=h1) (h2:=h2) hh hrow hcur hmem hes hxs hn hroom
      rw [hk] at hr
      exact ⟨_,_,G',hr,hG'⟩
     ·have hol:olds.length=es.length*i.size:=by rw [ho.length,hk,TE es hes]
      have hr:=run_append_grow (P:=P) w t ty e i z ht hi hz ⟨g,0,none⟩ es.length cap olds hol (fun j u hj=>by rw [Jq];simpa using (hoc j u hj).1) ⟨b,o',none⟩ xs.length c news hnl hnews
       om om (growslice_fits om hby)
      obtain ⟨G',hG'⟩:=grown olds news cap ho hn
      exact ⟨_,_,G',hr,hG'⟩
section
variable {P:Program} {n:Nat} {o:Oper} {F:Fr} {h h1 h2:List Res} {K:Fr->List Res->Prop}
theorem RV.forget {w:World} {G:Ym} {es:List AV} {hv:Option Value} {v:Value} (h:RV w G (.sl es hv) v):RV w G (.sl es none) v:=by
 cases h with
 | nil _=>exact .nil (by simp)
 | sl _ hc hm=>exact .sl (by simp) hc hm
theorem RV.header {w:World} {G:Ym} {es:List AV} {x v:Value} (h:RV w G (.sl es (some x)) v):v=x:=by
 cases h with
 | nil hq=>exact (hq x rfl).symm
 | sl hq _ _=>exact (hq x rfl).symm
theorem Zci (s x:Operand) (t:TypeId) {e k:Nat} {i:TypeInfo} {hv:Value} {hx:Option Value} {es xs:List AV}
  (ho:o.op=.call { callee:=.builtin .append,args:=#[s,x],argTypes:=#[t,t] })
  (ht:P.underlying t=some (.slice e)) (hi:P.info? e=some i) (hk:i.size=k) (hzs:(i.zero.map (·.cells.size))=some k) (hb:Nat.ble i.bytes 32768=true)
  (hs:F.ev s=.sl es (some hv)) (hx:F.ev x=.sl xs hx) (hd:VS n o=true)
  (hes:∀y∈es,y.leaves.length=k) (hxs:∀y∈xs,y.leaves.length=k) (hone:(Zg xs).all AV.one=true) (hbound:es.length+xs.length<=4294967296)
  (hK:∀v',(v'.ownBlock=hv.ownBlock∨∃b,v'.ownBlock=some b/\Bo (h1++.tail hv k::h2) b) ->
   K (F.put o.dst (.sl (es++xs) (some v'))) (h1++.tail v' k::h2)):WO P n o F (h1++.tail hv k::h2) K:=by
 intro Q w G a hF hh
 have v1:=hF.ev s
 have v2:=hF.ev x
 rw [hs] at v1
 rw [hx] at v2
 have e1:=v1.header
 rw [e1] at v1
 obtain ⟨v',w',G',hr,hA⟩:=Z31 (P:=P) (ty:=o.type) ht hi hk hzs hb hh v1 v2.forget hes hxs hone hbound
 have hrun:(execOp a.eval o).run P w=.ok (.value v') w':=by
  simp only [execOp,ho,resolve,invoke,builtin,Sem.run_bind,Sem.run_pure,Result.andThen_ok,FP,Tk,FM,e1,hr]
 unfold Oper.wp
 rw [hrun]
 refine ⟨_,_,G',hK v' ?_,(hF.mono (hA.ext.agree hh)).put (TQ hd) hA.rv,hA.ok,hA.ext⟩
 rcases hA.own with h|⟨b,h,hle⟩
 ·exact .inl h
 ·exact .inr ⟨b,h,fun s hs=>V6 (hh.ok _ hs) hle⟩
theorem SV {t e k:Nat} {i:TypeInfo} {b off len cap:Nat} {ik:IntKind} {j:Int} (ht:P.underlying t=some (.slice e)) (hi:P.info? e=some i) (hk:i.size=k)
  (h0:0<=j) (hlt:j<len) (w:World) :
  (Instr.indexAt t (.slice (some ⟨b,off,none⟩) len cap) (.int ik j)).run P w=.ok (.pointer (some ⟨b,off+j.toNat * k,none⟩)) w:=by
 subst hk
 have hu:=Uq ht w
 simp only [Instr.indexAt,asIntOf,Sem.run_bind,Sem.run_pure,Result.andThen_ok,hu]
 simp [h0,hlt,Qq hi,Jq]
theorem Zh2 (t:TypeId) (x ix:Operand) {e k:Nat} {i:TypeInfo} {es:List AV} {hv:Option Value} {ik:IntKind} {j:Int} {y:AV}
  (ho:o.op=.indexAddr t x ix) (ht:P.underlying t=some (.slice e)) (hi:P.info? e=some i) (hk:i.size=k) (hx:F.ev x=.sl es hv) (hix:F.ev ix=.val (.int ik j))
  (h0:0<=j) (hget:es[j.toNat]? = some y) (hy:y.leaves.length=k):XY P o F h [] (.rp y.leaves):=by
 intro n w G a hF hh
 have v1:=hF.ev x
 have v2:=hF.ev ix
 rw [hx] at v1
 rw [hix] at v2
 have v2:=v2.val_inv
 generalize hv1:a.eval x=u at v1
 cases v1 with
 | nil _=>simp at hget
 | sl hq hc hm=>
  rename_i b off kk cap
  have hlt:j.toNat<es.length:=(Xh.1 hget).1
  have hkk:kk=k:=by
   have:=hm.len y (Y3 hget)
   omega
  subst hkk
  refine ⟨_,.rp (hm.get _ _ hget),fun w' _ _=>?_⟩
  simp only [execOp,ho,hv1,v2]
  exact VF (SV ht hi hk h0 om w')
theorem Zh3 (t:TypeId) (x ix:Operand) {e k:Nat} {i:TypeInfo} {b off len cap:Nat} {ik:IntKind} {j:Int}
  (ho:o.op=.indexAddr t x ix) (ht:P.underlying t=some (.slice e)) (hi:P.info? e=some i) (hk:i.size=k) (hx:F.ev x=.val (.slice (some ⟨b,off,none⟩) len cap)) (hix:F.ev ix=.val (.int ik j))
  (h0:0<=j) (hlt:j<len):XY P o F h [] (.val (.pointer (some ⟨b,off+j.toNat * k,none⟩))):=by
 intro n w G a hF hh
 have v1:=hF.ev x
 have v2:=hF.ev ix
 rw [hx] at v1
 rw [hix] at v2
 have v1:=v1.val_inv
 have v2:=v2.val_inv
 refine ⟨_,.val,fun w' _ _=>?_⟩
 simp only [execOp,ho,v1,v2]
 exact VF (SV ht hi hk h0 hlt w')
def BS (F:Fr) (o:Option Operand) (d:Int):Option Int:=
 match o with
 | none=>some d
 | some x=>match F.ev x with
  | .val (.int _ j)=>some j
  | _=>none
theorem Fz {v:Value} {ik:IntKind} {j:Int} {y:Nat} {c:BoundsCode} (hv:v=.int ik j) (h0:0<=j) (h1:j<=y) (w:World):(Instr.sliceBound v y c).run P w=.ok j.toNat w:=by
 subst hv
 simp [Instr.sliceBound,asIntOf,h0,h1]
theorem Zh8 (t:TypeId) (x:Operand) (lo hi:Option Operand) {e k:Nat} {i:TypeInfo} {es:List AV} {hv:Option Value} {l m:Int}
  (ho:o.op=.slice t x lo hi none) (ht:P.underlying t=some (.slice e)) (hi':P.info? e=some i) (hk:i.size=k) (hx:F.ev x=.sl es hv)
  (hlo:BS F lo 0=some l) (hhi:BS F hi es.length=some m) (h0:0<=l) (h1:l<=m) (h2:m<=es.length) (hes:∀y∈es,y.leaves.length=k) :
  XY P o F h [] (.sl ((es.take m.toNat).drop l.toNat) none):=by
 intro n w G a hF hh
 have v1:=hF.ev x
 rw [hx] at v1
 generalize hv1:a.eval x=u at v1
 have hlo':lo.map a.eval=none/\l=0∨∃ik,lo.map a.eval=some (.int ik l):=by
  cases lo with
  | none=>simp [BS] at hlo;exact .inl ⟨rfl,hlo.symm⟩
  | some y=>
   simp only [BS] at hlo
   split at hlo
   ·rename_i k j hj
    cases hlo
    have:=hF.ev y
    rw [hj] at this
    exact .inr ⟨k,by simp [this.val_inv]⟩
   ·cases hlo
 have hhi':hi.map a.eval=none/\m=es.length∨∃ik,hi.map a.eval=some (.int ik m):=by
  cases hi with
  | none=>simp [BS] at hhi;exact .inl ⟨rfl,hhi.symm⟩
  | some y=>
   simp only [BS] at hhi
   split at hhi
   ·rename_i k j hj
    cases hhi
    have:=hF.ev y
    rw [hj] at this
    exact .inr ⟨k,by simp [this.val_inv]⟩
   ·cases hhi
 have hrun:∀(ad:Option Addr) (cap:Nat),m<=cap->∀w':World,(Instr.sliceAt t (.slice ad es.length cap) (lo.map a.eval) (hi.map a.eval) none).run P w' =
   .ok (.slice (if cap=l.toNat then ad else ad.map (·.add (l.toNat * k))) (m.toNat-l.toNat) (cap-l.toNat)) w':=by
  intro ad cap hcap w'
  subst hk
  have hmm:(Instr.sliceBounds true es.length cap (lo.map a.eval) (hi.map a.eval) none).run P w'=.ok (l.toNat,m.toNat,cap) w':=by
   rcases hhi' with ⟨e1,rfl⟩|⟨ik,e1⟩
   ·rcases hlo' with ⟨e2,rfl⟩|⟨ik2,e2⟩
    ·simp [Instr.sliceBounds,e1,e2]
    ·simp [Instr.sliceBounds,e1,e2,Fz (P:=P) (v:=.int ik2 l) rfl h0 (by omega:l<=(es.length:Int))]
   ·have Zc:=fun c=>Fz (P:=P) (c:=c) (v:=.int ik m) (y:=cap) rfl om hcap w'
    rcases hlo' with ⟨e2,rfl⟩|⟨ik2,e2⟩
    ·simp [Instr.sliceBounds,e1,e2,Zc]
    ·have ZC:=fun c=>Fz (P:=P) (c:=c) (v:=.int ik2 l) (y:=m.toNat) rfl h0 om w'
     simp [Instr.sliceBounds,e1,e2,Zc,ZC]
  simp only [Instr.sliceAt,Sem.run_bind,Uq ht,Result.andThen_ok,Instr.slice,hmm]
  simp [Qq hi']
 cases v1 with
 | nil hq=>
  rename_i ad cap
  simp only [YC,Int.natCast_zero] at h2
  have hl:l=0:=by omega
  have hm:m=0:=by omega
  subst hl
  subst hm
  have hr:=hrun ad cap om
  refine ⟨_,?_,fun w' _ _=>by simp only [execOp,ho,hv1,Option.map_none];exact VF (hr w')⟩
  exact .nil (by simp)
 | sl hq hc hm=>
  rename_i b off kk cap
  by_cases hemp:m.toNat<=l.toNat
  ·refine ⟨_,?_,fun w' _ _=>by simp only [execOp,ho,hv1,Option.map_none];exact VF (hrun _ cap om w')⟩
   have e1:(es.take m.toNat).drop l.toNat=[]:=MZ (by simp;omega)
   have e2:m.toNat-l.toNat=0:=by omega
   rw [e1,e2]
   exact .nil (by simp)
  ·have hne:0<es.length:=by omega
   have hkk:kk=k:=by
    have hy:=hm.len es[0] (List.getElem_mem hne)
    have:=hes es[0] (List.getElem_mem hne)
    omega
   subst hkk
   refine ⟨_,?_,fun w' _ _=>by simp only [execOp,ho,hv1,Option.map_none];exact VF (hrun _ cap om w')⟩
   rw [Za om]
   have hlen:((es.take m.toNat).drop l.toNat).length=m.toNat-l.toNat:=by simp;omega
   rw [<-hlen]
   simp only [FV,Jq]
   exact .sl (k:=kk) (by simp) om ((hm.take m.toNat).drop l.toNat)
theorem Zck (f:FuncId) (args:Array Operand) (tys:Array TypeId) {fn:Func} {h1 h2:List Res} {xs:List AV} {R:AV->List Res->Prop}
  (ho:o.op=.call { callee:=.value (.func f),args:=args,argTypes:=tys }) (hf:P.funcs[f]? = some fn) (hb:fn.body.isSome=true) (hn:(fn.name== "runtime.NumGoroutine")=false)
  (hargs:args.toList.map F.ev=xs) (hd:VS n o=true) (hp:h.Perm (h1++h2)) (hc:WZ P f xs h1 R)
  (hK:∀r h',R r h'->K (F.put o.dst r) (h'++h2)):WO P n o F h K:=by
 intro Q w G a hF hh
 have hh':=hh.perm hp
 have hvs:YT w G xs (args.toList.map a.eval):=by rw [<-hargs];exact YT.map F.ev a.eval args.toList fun x _=>hF.ev x
 have hcl:=hc w G _ hvs hh'.left
 have hbn:¬fn.body=none:=by intro hq;simp [hq] at hb
 have hn':¬fn.name= "runtime.NumGoroutine":=by simpa using hn
 have hrun:(execOp a.eval o).run P w=.ok (.enter f (args.map a.eval)) w:=by
  simp only [execOp,ho,resolve,Act.eval,Deferred.ofValue,Sem.run_bind,Sem.run_pure,Result.andThen_ok,invoke,callFunc]
  simp [program,Sem.run,hf,hn',hbn]
 unfold Oper.wp
 rw [hrun]
 show Calls P f (args.map a.eval) w _
 have hav:args.map a.eval=(args.toList.map a.eval).toArray:=by rw [<-Array.toList_map,UY]
 rw [hav]
 refine hcl.mono fun e w' ⟨v,r,h',G',he,hR,hv,hh2,hx⟩=>?_
 subst he
 obtain ⟨j1,j2⟩:=hh'.frame hx hh2
 have j3:=j2.perm hp.symm (TI _)
 exact ⟨_,_,G',hK r h' hR,(hF.mono (j3.agree hh)).put (TQ hd) hv,j1,j3⟩
theorem Zcl (t:Operand) (args:Array Operand) (tys:Array TypeId) {f:FuncId} {caps:Array Value} {fn:Func} {h1 h2:List Res} {xs:List AV} {R:AV->List Res->Prop}
  (ho:o.op=.call { callee:=.value t,args:=args,argTypes:=tys }) (ht:F.ev t=.val (.func (.func f) #[] caps)) (hf:P.funcs[f]? = some fn) (hb:fn.body.isSome=true)
  (hn:(fn.name== "runtime.NumGoroutine")=false)
  (hargs:args.toList.map F.ev++caps.toList.map AV.val=xs) (hd:VS n o=true) (hp:h.Perm (h1++h2)) (hc:WZ P f xs h1 R)
  (hK:∀r h',R r h'->K (F.put o.dst r) (h'++h2)):WO P n o F h K:=by
 intro Q w G a hF hh
 have hh':=hh.perm hp
 have htv:=hF.ev t
 rw [ht] at htv
 have htv:=htv.val_inv
 have hcv:∀(l:List Value),YT w G (l.map AV.val) l:=fun l=>by
  induction l with
  | nil=>exact .nil
  | cons v l ih=>exact .cons .val ih
 have hvs:YT w G xs (args.toList.map a.eval++caps.toList):=by
  rw [<-hargs];exact (YT.map F.ev a.eval args.toList fun x _=>hF.ev x).append (hcv _)
 have hcl:=hc w G _ hvs hh'.left
 have hbn:¬fn.body=none:=by intro hq;simp [hq] at hb
 have hn':¬fn.name= "runtime.NumGoroutine":=by simpa using hn
 have hrun:(execOp a.eval o).run P w=.ok (.enter f (args.map a.eval++caps)) w:=by
  simp only [execOp,ho,resolve,htv,Deferred.ofValue,Sem.run_bind,Sem.run_pure,Result.andThen_ok,invoke,callFunc]
  simp [program,Sem.run,hf,hn',hbn]
 unfold Oper.wp
 rw [hrun]
 show Calls P f (args.map a.eval++caps) w _
 have hav:args.map a.eval++caps=(args.toList.map a.eval++caps.toList).toArray:=by
  apply Array.ext'
  simp
 rw [hav]
 refine hcl.mono fun e w' ⟨v,r,h',G',he,hR,hv,hh2,hx⟩=>?_
 subst he
 obtain ⟨j1,j2⟩:=hh'.frame hx hh2
 have j3:=j2.perm hp.symm (TI _)
 exact ⟨_,_,G',hK r h' hR,(hF.mono (j3.agree hh)).put (TQ hd) hv,j1,j3⟩
end
def YQ:Code->Code
 | .seq a _=>a
 | .cond _ a _=>a
 | .block _ a=>a
 | .loop a=>a
 | .scope a=>a
 | c=>c
def U3:Code->Code
 | .seq _ b=>b
 | .cond _ _ b=>b
 | c=>c
def Xe:Code->Nat
 | .skip=>0
 | .region _ _ false=>1
 | .region _ _ true=>2
 | .seq _ _=>3
 | .cond _ _ _=>4
 | .block _ _=>5
 | .loop _=>6
 | .exit _=>7
 | .ret=>8
 | _=>9
def Kr:Code->Nat
 | .region id _ _=>id
 | .block id _=>id
 | .exit id=>id
 | _=>0
def XJ:Code->Array Oper
 | .region _ ops _=>ops
 | _=>#[]
def AN:Code->Operand
 | .cond x _ _=>x
 | _=>.tmp 0
def Ge (fn:Func):Code:=fn.body.getD .skip
theorem Z3m {c:Code} (h:Xe c=0):c=.skip:=by unfold Xe at h;split at h<;>first|rfl|cases h
theorem Z3n {c:Code} (h:Xe c=1):c=.region (Kr c) (XJ c) false:=by unfold Xe at h;split at h<;>first|rfl|cases h
theorem Z3o {c:Code} (h:Xe c=2):c=.region (Kr c) (XJ c) true:=by unfold Xe at h;split at h<;>first|rfl|cases h
theorem Z3p {c:Code} (h:Xe c=3):c=.seq (YQ c) (U3 c):=by unfold Xe at h;split at h<;>first|rfl|cases h
theorem Z3q {c:Code} (h:Xe c=4):c=.cond (AN c) (YQ c) (U3 c):=by unfold Xe at h;split at h<;>first|rfl|cases h
theorem Z3r {c:Code} (h:Xe c=5):c=.block (Kr c) (YQ c):=by unfold Xe at h;split at h<;>first|rfl|cases h
theorem Z3s {c:Code} (h:Xe c=6):c=.loop (YQ c):=by unfold Xe at h;split at h<;>first|rfl|cases h
theorem Z3t {c:Code} (h:Xe c=7):c=.exit (Kr c):=by unfold Xe at h;split at h<;>first|rfl|cases h
theorem Z3u {c:Code} (h:Xe c=8):c=.ret:=by unfold Xe at h;split at h<;>first|rfl|cases h
def Kn (P:Program) (n:Nat) (ops:Array Oper) (B:Fr->List Res->Prop) (l:List Oper) (F:Fr) (h:List Res):Prop:=
 ∀(Q:Exit->Act->World->Prop) w G a,FR w G n F a->YK w G h ->
  (∀F' h' G' a' w',B F' h'->FR w' G' n F' a'->YK w' G' h'->X5 w G h w' G' h'->Q .normal a' w')->wpList P ops Q l a w
section
variable {P:Program} {n:Nat} {ops:Array Oper} {B:Fr->List Res->Prop} {l:List Oper} {F:Fr} {h:List Res} {A:WW} {c:Code}
theorem Zey (hB:B F h):Kn P n ops B [] F h:=fun _ w G a hF hh hk=>hk F h G a w hB hF hh (X5.refl _ _ _)
def J1 (ops:Array Oper) (F:Fr) (o:Oper):Option Bool:=
 match o.guard with
 | none=>some true
 | some (j,want)=>match (ops[j]?).bind (·.dst) with
  | none=>none
  | some t=>match F.get t with
   | .val (.bool b)=>some (b==want)
   | .tup []=>some false
   | _=>none
theorem DC {w:World} {G:Ym} {a:Act} {o:Oper} {b:Bool} (hF:FR w G n F a) (hlt:(match o.guard with|none=>true|some (j,_)=>match (ops[j]?).bind (·.dst) with|some t=>Nat.blt t n|none=>true)=true)
  (hg:J1 ops F o=some b):Region.wanted o (yielded ops a.tmps)=b:=by
 unfold J1 at hg
 unfold Region.wanted
 cases hq:o.guard with
 | none=>simp [hq] at hg;simp [hg]
 | some jw=>
  obtain ⟨j,want⟩:=jw
  simp only [hq] at hg hlt ⊢
  cases ht:(ops[j]?).bind (·.dst) with
  | none=>simp [ht] at hg
  | some t=>
   simp only [ht] at hg hlt
   have hlt':t<n:=by simpa using hlt
   have hv:=hF.get t
   have hget:a.tmps[t]? = some (a.tmps.getD t undef):=by
    have:t<a.tmps.size:=by rw [hF.size];exact hlt'
    simp [Array.getD,this]
   unfold yielded
   simp only [ht,Option.bind_some,hget]
   split at hg
   ·rename_i b' hb
    rw [hb] at hv
    have hv:=hv.val_inv
    cases hg
    rw [hv]
    cases b'<;>cases want<;>rfl
   ·rename_i hb
    rw [hb] at hv
    cases hg
    generalize a.tmps.getD t undef=u at hv
    cases hv with
    | tup hc=>cases hc;cases want<;>rfl
   ·cases hg
def B4 (n:Nat) (ops:Array Oper) (o:Oper):Bool:=
 match o.guard with|none=>true|some (j,_)=>match (ops[j]?).bind (·.dst) with|some t=>Nat.blt t n|none=>true
def QJ (P:Program) (n:Nat) (ops:Array Oper) (h:List Res):Nat->List Oper->Fr->List Nat->Option (List Oper × Fr × List (Nat × Nat))
 | 0,l,F,_=>some (l,F,[])
 | _+1,[],_,_=>none
 | k+1,o::l,F,hints=>
  match VS n o&&B4 n ops o with
  | false=>none
  | true=>match J1 ops F o with
   | none=>none
   | some false=>QJ P n ops h k l (F.put o.dst (.tup [])) hints
   | some true=>match Qf P o F h (hints.headD 0) with
    | none=>none
    | some (x,eqs)=>match QJ P n ops h k l (F.put o.dst x) (match eqs with | []=>hints | _=>hints.tail) with
     | none=>none
     | some (l',F',es)=>some (l',F',eqs++es)
theorem Zik {o:Oper} {Q:Exit->Act->World->Prop} {a:Act} {w:World} (hw:Region.wanted o (yielded ops a.tmps)=false)
  (hk:wpList P ops Q l (a.put o.dst undef) w):wpList P ops Q (o::l) a w:=by
 unfold wpList
 rw [Za (by simp [hw])]
 exact hk
theorem Mu:∀(k:Nat) {l:List Oper} {F:Fr} {hints:List Nat} {l':List Oper} {F':Fr} {eqs:List (Nat × Nat)},QJ P n ops h k l F hints=some (l',F',eqs) ->
  (∀p∈eqs,p.1=p.2)->Kn P n ops B l' F' h->Kn P n ops B l F h
 | 0,l,F,hints,l',F',eqs,he,_,hs=>by
  simp only [QJ,Wp,Prod.mk.injEq] at he
  obtain ⟨rfl,rfl,rfl⟩:=he
  exact hs
 | k+1,[],F,hints,l',F',eqs,he,_,hs=>by simp [QJ] at he
 | k+1,o::l,F,hints,l',F',eqs,he,heq,hs=>by
  simp only [QJ] at he
  cases hd:VS n o&&B4 n ops o with
  | false=>rw [hd] at he;cases he
  | true=>
   rw [hd] at he
   simp only [Xb] at hd
   simp only at he
   cases hg:J1 ops F o with
   | none=>rw [hg] at he;cases he
   | some b=>
    rw [hg] at he
    cases b with
    | false=>
     simp only at he
     have ih:=Mu k he heq hs
     intro Q w G a hF hh hk
     have hw:=DC hF hd.2 hg
     exact Zik hw (ih Q w G _ (hF.put (TQ hd.1) (.tup (cs:=[]) .nil)) hh hk)
    | true=>
     simp only at he
     cases hev:Qf P o F h (hints.headD 0) with
     | none=>rw [hev] at he;cases he
     | some xe=>
      obtain ⟨x,es⟩:=xe
      rw [hev] at he
      simp only at he
      generalize hhint:(match es with|[]=>hints|_=>hints.tail)=hints' at he
      cases hr:QJ P n ops h k l (F.put o.dst x) hints' with
      | none=>rw [hr] at he;cases he
      | some y=>
       obtain ⟨l2,F2,es2⟩:=y
       rw [hr] at he
       simp only [Wp,Prod.mk.injEq] at he
       obtain ⟨rfl,rfl,rfl⟩:=he
       have ih:=Mu k hr (fun p hp=>heq p (Xl.2 (.inr hp))) hs
       have hst:=Dw hev (fun p hp=>heq p (Xl.2 (.inl hp)))
       intro Q w G a hF hh hk
       have hw:=DC hF hd.2 hg
       obtain ⟨v,hv,hrun⟩:=hst n w G a hF hh
       unfold wpList
       rw [Zk hw]
       refine .inl ?_
       unfold Oper.wp
       rw [hrun w (fun _ _ _=>rfl) (fun _ _=>rfl)]
       exact ih Q w G _ (hF.put (TQ hd.1) hv) hh hk
theorem Zez {o:Oper} (hg:J1 ops F o=some true) (hlt:B4 n ops o=true) (ho:WO P n o F h fun F' h'=>Kn P n ops B l F' h'):Kn P n ops B (o::l) F h:=by
 intro Q w G a hF hh hk
 have hw:=DC hF hlt hg
 unfold wpList
 rw [Zk hw]
 refine .inl (Oper.wp_mono ?_ (ho Q w G a hF hh))
 intro a' w' ⟨F',h',G',h1,h2,h3,h4⟩
 exact h1 Q w' G' a' h2 h3 fun F2 h2' G2 a2 w2 b1 b2 b3 b4=>hk F2 h2' G2 a2 w2 b1 b2 b3 (h4.trans b4)
theorem Fr.Le.refl (F:Fr):F.Le F:=fun _ _ _ _ h=>h
def Zd (x y:AV):Prop:=∀w G v,RV w G x v->RV w G y v
theorem Zd.refl (x:AV):Zd x x:=fun _ _ _ h=>h
theorem Zd.any (x:AV):Zd x .any:=fun _ _ _ _=>.any
theorem Zd.forget (es:List AV) (hv:Option Value):Zd (.sl es hv) (.sl es none):=fun _ _ _ h=>h.forget
theorem Z7e (F:Fr):F.Le []:=fun _ _ _ _ _=>.any
theorem Dz {F F':Fr} {t:Nat} {x y:AV} (hx:F.get t=x) (hxy:Zd x y) (hr:F.Le F'):F.Le ((t,y)::F'):=by
 intro w G v s hv
 show RV w G (match Nat.beq t s with|true=>y|false=>Fr.get F' s) v
 cases hb:Nat.beq t s with
 | true=>
  have:=T1 hb
  subst this
  rw [hx] at hv
  exact hxy _ _ _ hv
 | false=>exact hr w G v s hv
theorem Zd.sl {es es':List AV} (hv:Option Value) (h:es=es'):Zd (.sl es hv) (.sl es' none):=h▸Zd.forget es hv
theorem Zd.slh {es es':List AV} (hv:Option Value) (h:es=es'):Zd (.sl es hv) (.sl es' hv):=h▸Zd.refl _
theorem Zd.i {a b:Int} (h:a=b):Zd (.val (.int .i64 a)) (.val (.int .i64 b)):=h▸Zd.refl _
theorem Zd.b {a b:Bool} (h:a=b):Zd (.val (.bool a)) (.val (.bool b)):=h▸Zd.refl _
inductive Vx:List AV->List AV->Prop
 | nil:Vx [] []
 | cons {x y:AV} {xs ys:List AV} (h:Zd x y) (t:Vx xs ys):Vx (x::xs) (y::ys)
theorem Vx.refl:∀(xs:List AV),Vx xs xs
 | []=>.nil
 | x::xs=>.cons (Zd.refl x) (Vx.refl xs)
theorem Vx.cs {w:World} {G:Ym}:∀{xs ys:List AV} {vs:List Value},Vx xs ys->YT w G xs vs->YT w G ys vs
 | _,_,_,.nil,.nil=>.nil
 | _,_,_,.cons h t,.cons a b=>.cons (h _ _ _ a) (t.cs b)
theorem Vx.mem {w:World} {G:Ym}:∀{xs ys:List AV} {b o:Nat},Vx xs ys->Wv w G b o xs->Wv w G b o ys
 | _,_,_,_,.nil,.nil=>.nil
 | _,_,_,_,.cons h t,.cons a1 a2 a3 a4=>.cons a1 a2 (h _ _ _ a3) (t.mem a4)
theorem Zd.agg {xs ys:List AV} (h:Vx xs ys):Zd (.agg xs) (.agg ys):=fun _ _ _ hv=>by
 cases hv with
 | agg hc=>exact .agg (h.cs hc)
theorem Zd.tup {xs ys:List AV} (h:Vx xs ys):Zd (.tup xs) (.tup ys):=fun _ _ _ hv=>by
 cases hv with
 | tup hc=>exact .tup (h.cs hc)
theorem Zd.rp {xs ys:List AV} (h:Vx xs ys):Zd (.rp xs) (.rp ys):=fun _ _ _ hv=>by
 cases hv with
 | rp hc=>exact .rp (h.mem hc)
mutual
def AV.like:AV->AV->AV
 | .sl es hv,y=>match y with | .sl _ none=>.sl es none | _=>.sl es hv
 | .agg ls,y=>match y with | .agg ms=>.agg (BM ls ms) | _=>.agg ls
 | .rp ls,y=>match y with | .rp ms=>.rp (BM ls ms) | _=>.rp ls
 | .tup ls,y=>match y with | .tup ms=>.tup (BM ls ms) | _=>.tup ls
 | .any,_=>.any
 | .val v,y=>match y with | .any=>.any | _=>.val v
def BM:List AV->List AV->List AV
 | [],_=>[]
 | x::xs,ys=>match ys with | y::ys=>x.like y::BM xs ys | []=>x::xs
end
mutual
theorem AV.like_le:∀(x y:AV),Zd x (x.like y)
 | .sl es hv,y=>by
  cases y with
  | sl es' hv'=>cases hv'<;>simp only [AV.like]<;>first | exact Zd.forget es hv | exact Zd.refl _
  | _=>simp only [AV.like];exact Zd.refl _
 | .agg ls,y=>by
  cases y with
  | agg ms=>simp only [AV.like];exact Zd.agg (H9 ls ms)
  | _=>simp only [AV.like];exact Zd.refl _
 | .rp ls,y=>by
  cases y with
  | rp ms=>simp only [AV.like];exact Zd.rp (H9 ls ms)
  | _=>simp only [AV.like];exact Zd.refl _
 | .tup ls,y=>by
  cases y with
  | tup ms=>simp only [AV.like];exact Zd.tup (H9 ls ms)
  | _=>simp only [AV.like];exact Zd.refl _
 | .any,y=>by simp only [AV.like];exact Zd.refl _
 | .val v,y=>by
  cases y with
  | any=>simp only [AV.like];exact Zd.any _
  | _=>simp only [AV.like];exact Zd.refl _
theorem H9:∀(xs ys:List AV),Vx xs (BM xs ys)
 | [],ys=>by simp only [BM];exact .nil
 | x::xs,ys=>by
  cases ys with
  | nil=>simp only [BM];exact Vx.refl _
  | cons y ys=>simp only [BM];exact .cons (AV.like_le x y) (H9 xs ys)
end
theorem OZ {F F':Fr} (h:F'.map (fun p=>(F.get p.1).like p.2)=F'.map (·.2)):F.Le F':=by
 induction F' with
 | nil=>exact Z7e F
 | cons p r ih=>
  simp only [Tk,List.cons.injEq] at h
  refine Dz rfl ?_ (ih h.2)
  have:=AV.like_le (F.get p.1) p.2
  rwa [h.1] at this
structure Tn (F:Fr) (h:List Res) (F':Fr) (h':List Res):Prop where
 fr:F.Le F'
 res:∃d,h.Perm (h'++d)
theorem YK.weak {w:World} {G:Ym} {h':List Res} (hh:YK w G h) (hw:∃d,h.Perm (h'++d)):YK w G h':=by
 obtain ⟨d,hp⟩:=hw
 exact (hh.perm hp).left
theorem X5.weak_left {w w':World} {G G':Ym} {h' k:List Res} (hw:∃d,h.Perm (h'++d)) (e:X5 w G h' w' G' k):X5 w G h w' G' k:=by
 obtain ⟨d,hp⟩:=hw
 have hs:∀b o,Vu h' b o->Vu h b o:=fun b o hf=>(Cz hp).2 (BF.2 (.inl hf))
 exact ⟨e.os,e.tape,e.output,e.size,e.sub,fun b hb=>(e.same b hb).mono fun _ ho=>hs _ _ ho,fun b o hb hg=>(e.newG b o hb hg).imp id (hs b o),fun b o hb hf=>hs b o (e.newfp b o hb hf)⟩
theorem Dd {F':Fr} {h':List Res} (hw:Tn F h F' h') (ha:Yz P n c A F' h'):Yz P n c A F h:=by
 intro w G a hF hh
 refine wp_mono (ha w G a (hF.le hw.fr) (hh.weak hw.res)) ?_
 intro e a' w' ⟨F2,h2,G2,b1,b2,b3,b4⟩
 exact ⟨F2,h2,G2,b1,b2,b3,b4.weak_left hw.res⟩
theorem HF {F':Fr} {h':List Res} (hw:Tn F h F' h') (ha:Kn P n ops B l F' h'):Kn P n ops B l F h:=by
 intro Q w G a hF hh hk
 exact ha Q w G a (hF.le hw.fr) (hh.weak hw.res) fun F2 h2 G2 a2 w2 b1 b2 b3 b4=>hk F2 h2 G2 a2 w2 b1 b2 b3 (b4.weak_left hw.res)
theorem N7 {A':WW} (hA:∀e F h,A e F h->A' e F h) (ha:Yz P n c A F h):Yz P n c A' F h:=by
 intro w G a hF hh
 exact wp_mono (ha w G a hF hh) fun e a' w' hc=>hc.mono hA
@[reducible] def C5 (P:Program) (n:Nat) (y:Code) (A:WW):WW:=fun e F h=>
 match e with
 | .normal=>Yz P n y A F h
 | e=>A e F h
@[reducible] def G7 (id:Nat) (A:WW):WW:=fun e F h=>
 match e with
 | .exit i=>match Nat.beq i id with
  | true=>A .normal F h
  | false=>A (.exit i) F h
 | e=>A e F h
@[reducible] def M6 (Inv:Nat->Fr->List Res->Prop) (m:Nat) (A:WW):WW:=fun e F h=>
 match e with
 | .normal=>∃m' F' h',m'<m/\Inv m' F' h'/\Tn F h F' h'
 | e=>A e F h
theorem Im (hk:Xe c=3) (ha:Yz P n (YQ c) (C5 P n (U3 c) A) F h):Yz P n c A F h:=by
 rw [Z3p hk]
 intro w G a hF hh
 refine wp_seq (wp_mono (ha w G a hF hh) ?_)
 intro e a' w' ⟨F',h',G',h1,h2,h3,h4⟩
 cases e with
 | normal=>exact wp_mono (h1 w' G' a' h2 h3) fun e a2 w2 hc=>hc.trans h4
 | exit id=>exact ⟨F',h',G',h1,h2,h3,h4⟩
 | goto l=>exact ⟨F',h',G',h1,h2,h3,h4⟩
 | ret=>exact ⟨F',h',G',h1,h2,h3,h4⟩
 | panic ch=>exact ⟨F',h',G',h1,h2,h3,h4⟩
 | outgrown=>exact ⟨F',h',G',h1,h2,h3,h4⟩
theorem N8 (hk:Xe c=1) (hs:Kn P n (XJ c) (A .normal) (XJ c).toList F h):Yz P n c A F h:=by
 rw [Z3n hk]
 intro w G a hF hh
 exact wp_region_list (hs _ w G a hF hh fun F' h' G' a' w' b1 b2 b3 b4=>⟨F',h',G',b1,b2,b3,b4⟩)
theorem Z2f (hk:Xe c=3) (hk1:Xe (YQ c)=1) (hs:Kn P n (XJ (YQ c)) (fun F h=>Yz P n (U3 c) A F h) (XJ (YQ c)).toList F h):Yz P n c A F h:=
 Im hk (N8 hk1 hs)
theorem Z2k (hk:Xe c=0) (h0:A .normal F h):Yz P n c A F h:=by
 rw [Z3m hk]
 intro w G a hF hh
 exact wp_skip ⟨F,h,G,h0,hF,hh,X5.refl _ _ _⟩
theorem Z2d (id:Nat) (hk:Xe c=7) (hi:Kr c=id) (h0:A (.exit id) F h):Yz P n c A F h:=by
 subst hi
 rw [Z3t hk]
 intro w G a hF hh
 exact wp_exit ⟨F,h,G,h0,hF,hh,X5.refl _ _ _⟩
theorem Z2h (hk:Xe c=8) (h0:A .ret F h):Yz P n c A F h:=by
 rw [Z3u hk]
 intro w G a hF hh
 exact wp_ret ⟨F,h,G,h0,hF,hh,X5.refl _ _ _⟩
theorem Il {b:Bool} {p:Prop} (hk:Xe c=4) (hc:F.ev (AN c)=.val (.bool b)) (hp:b=true↔p) (h1:p->Yz P n (YQ c) A F h) (h2:¬p->Yz P n (U3 c) A F h) :
  Yz P n c A F h:=by
 rw [Z3q hk]
 intro w G a hF hh
 have hv:=hF.ev (AN c)
 rw [hc] at hv
 exact wp_cond_split hv.val_inv (fun e=>h1 (hp.1 e) w G a hF hh) fun e=>h2 (fun q=>by have:=hp.2 q;rw [e] at this;cases this) w G a hF hh
theorem Z2a (id:Nat) (hk:Xe c=5) (hi:Kr c=id) (ha:Yz P n (YQ c) (G7 id A) F h):Yz P n c A F h:=by
 subst hi
 rw [Z3r hk]
 intro w G a hF hh
 refine wp_block (wp_mono (ha w G a hF hh) ?_)
 intro e a' w' ⟨F',h',G',h1,h2,h3,h4⟩
 cases e with
 | normal=>exact ⟨F',h',G',h1,h2,h3,h4⟩
 | exit id=>
  simp only [Exit.inBlock]
  by_cases hid:id=Kr c
  ·subst hid
   rw [Zk rfl]
   have hb:Nat.beq (Kr c) (Kr c)=true:=Nat.beq_refl _
   simp only [G7,hb] at h1
   exact ⟨F',h',G',h1,h2,h3,h4⟩
  ·rw [Za hid]
   have hb:Nat.beq id (Kr c)=false:=by
    cases hq:Nat.beq id (Kr c)
    ·rfl
    ·exact absurd (T1 hq) hid
   simp only [G7,hb] at h1
   exact ⟨F',h',G',h1,h2,h3,h4⟩
 | goto l=>exact ⟨F',h',G',h1,h2,h3,h4⟩
 | ret=>exact ⟨F',h',G',h1,h2,h3,h4⟩
 | panic ch=>exact ⟨F',h',G',h1,h2,h3,h4⟩
 | outgrown=>exact ⟨F',h',G',h1,h2,h3,h4⟩
theorem F5 (p:Nat->Prop) (h:∃n,p n):∃n,p n/\∀m,p m->n<=m:=by
 obtain ⟨k,hk⟩:=h
 induction k using Nat.strongRecOn with
 | _ k ih=>
  by_cases hx:∃m,m<k/\p m
  ·obtain ⟨m,h1,h2⟩:=hx
   exact ih m h1 h2
  ·refine ⟨k,hk,fun m hm=>?_⟩
   rcases FU m k with h|h
   ·exact absurd ⟨m,h,hm⟩ hx
   ·exact h
open Classical in
theorem Z2e (Inv:Nat->Fr->List Res->Prop) {m0:Nat} {F0:Fr} {h0:List Res} (hk:Xe c=6) (hi:Inv m0 F0 h0) (hw:Tn F h F0 h0)
  (hr:∀m F h,Inv m F h->Yz P n (YQ c) (M6 Inv m A) F h):Yz P n c A F h:=by
 refine Dd hw ?_
 rw [Z3s hk]
 intro w G a hF hh
 let J:Nat->Act->World->Prop:=fun m a' w'=>∃F' h' G',Inv m F' h'/\FR w' G' n F' a'/\YK w' G' h'/\X5 w G h0 w' G' h'
 let mu:Act->World->Nat:=fun a' w'=>if hx:∃m,J m a' w' then Classical.choose (F5 (fun m=>J m a' w') hx) else 0
 refine wp_loop (fun a' w'=>∃m,J m a' w') mu ⟨m0,F0,h0,G,hi,hF,hh,X5.refl _ _ _⟩ ?_
 intro a1 w1 hx
 have hsp:=Classical.choose_spec (F5 (fun m=>J m a1 w1) hx)
 have hmu:mu a1 w1=Classical.choose (F5 (fun m=>J m a1 w1) hx):=dif_pos hx
 rw [<-hmu] at hsp
 obtain ⟨⟨F1,h1,G1,i1,i2,i3,i4⟩,_⟩:=hsp
 refine wp_mono (hr _ F1 h1 i1 w1 G1 a1 i2 i3) ?_
 intro e a' w' ⟨F',h',G',k1,k2,k3,k4⟩
 have keep:∀{e},A e F' h'->AH n A w G h0 e a' w':=fun hA=>⟨F',h',G',hA,k2,k3,i4.trans k4⟩
 cases e with
 | normal=>
  obtain ⟨m',F2,h2,j1,j2,j3⟩:=k1
  have hj:J m' a' w':=by
   refine ⟨F2,h2,G',j2,k2.le j3.fr,k3.weak j3.res,i4.trans ?_⟩
   obtain ⟨d,hp⟩:=j3.res
   have hsub:∀b o,Vu h2 b o->Vu h' b o:=fun b o hf=>(Cz hp).2 (BF.2 (.inl hf))
   exact ⟨k4.os,k4.tape,k4.output,k4.size,k4.sub,k4.same,k4.newG,fun b o hb hf=>k4.newfp b o hb (hsub b o hf)⟩
  have hx':∃m,J m a' w':=⟨m',hj⟩
  refine ⟨hx',?_⟩
  show mu a' w'<mu a1 w1
  have hsp':=Classical.choose_spec (F5 (fun m=>J m a' w') hx')
  rw [show mu a' w'=Classical.choose (F5 (fun m=>J m a' w') hx') from dif_pos hx']
  exact Nat.lt_of_le_of_lt (hsp'.2 m' hj) j1
 | exit id=>exact keep k1
 | goto l=>exact keep k1
 | ret=>exact keep k1
 | panic ch=>exact keep k1
 | outgrown=>exact keep k1
end
def Ch:Nat->List AV->Fr
 | _,[]=>[]
 | i,x::xs=>(i,x)::Ch (i+1) xs
theorem Ng {w:World} {G:Ym}:∀{xs:List AV} {vs:List Value} (i t:Nat) (tl:List Value),YT w G xs vs->RV w G ((Ch i xs).get (i+t)) ((vs++tl).getD t undef)
 | _,_,i,t,tl,.nil=>.any
 | _,_,i,0,tl,.cons (x:=x) (xs:=xs) h hr=>by
  show RV w G (match Nat.beq i (i+0) with|true=>x|false=>Fr.get (Ch (i+1) xs) (i+0)) _
  have:Nat.beq i (i+0)=true:=Nat.beq_refl i
  rw [this]
  simpa using h
 | _,_,i,t+1,tl,.cons (x:=x) (xs:=xs) h hr=>by
  show RV w G (match Nat.beq i (i+(t+1)) with|true=>x|false=>Fr.get (Ch (i+1) xs) (i+(t+1))) _
  have hb:Nat.beq i (i+(t+1))=false:=by
   cases hq:Nat.beq i (i+(t+1))
   ·rfl
   ·have:=T1 hq;omega
  rw [hb]
  have:=Ng (i+1) t tl hr
  rw [show i+1+t=i+(t+1) from by omega] at this
  simpa using this
def Kd (P:Program) (F:Fr) (h:List Res):List ResultVar->List Nat->Option (List AV × List (Nat × Nat))
 | [],_=>some ([],[])
 | .tmp t::r,hints=>match Kd P F h r hints with
  | some (xs,es)=>some (F.get t::xs,es)
  | none=>none
 | .cell t ty::r,hints=>match F.get t with
  | .val (.pointer (some ⟨b,o,none⟩))=>match h[hints.headD 0]? with
   | some (.obj b' ls)=>match Ba P ty (ls.drop o) with
    | some x=>match Kd P F h r hints.tail with
     | some (xs,es)=>some (x::xs,(b,b')::es)
     | none=>none
    | none=>none
   | _=>none
  | _=>none
def Bd:List AV->AV
 | [x]=>x
 | xs=>.tup xs
theorem Z3c (a:Addr):asAddr (.pointer (some a))=pure a:=rfl
theorem Mj {P:Program} {w:World} {G:Ym} {n:Nat} {F:Fr} {h:List Res} {a:Act} (hF:FR w G n F a) (hh:YK w G h) :
  ∀{rs:List ResultVar} {hints:List Nat} {xs:List AV} {es:List (Nat × Nat)},Kd P F h rs hints=some (xs,es)->(∀p∈es,p.1=p.2) ->
  ∃vs,YT w G xs vs/\(List.mapM (m:=Sem) (fun r=>match r with|.tmp t=>pure (a.tmps.getD t undef)|.cell b t=>do loadVar t (<-asAddr (a.tmps.getD b undef))) rs).run P w=.ok vs w
 | [],hints,xs,es,he,_=>by
  simp only [Kd,Wp,Prod.mk.injEq] at he
  obtain ⟨rfl,rfl⟩:=he
  exact ⟨[],.nil,by simp⟩
 | .tmp t::r,hints,xs,es,he,heq=>by
  simp only [Kd] at he
  cases hr:Kd P F h r hints with
  | none=>rw [hr] at he;cases he
  | some y=>
   obtain ⟨ys,es2⟩:=y
   rw [hr] at he
   simp only [Wp,Prod.mk.injEq] at he
   obtain ⟨rfl,rfl⟩:=he
   obtain ⟨vs,h1,h2⟩:=Mj hF hh hr heq
   refine ⟨a.tmps.getD t undef::vs,.cons (hF.get t) h1,?_⟩
   simp only [List.mapM_cons,Sem.run_bind,Sem.run_pure,Result.andThen_ok,h2]
 | .cell t ty::r,hints,xs,es,he,heq=>by
  simp only [Kd] at he
  split at he
  ·rename_i b off hg
   split at he
   ·rename_i b' ls hl
    split at he
    ·rename_i x hx
     split at he
     ·rename_i ys es2 hr
      simp only [Wp,Prod.mk.injEq] at he
      obtain ⟨rfl,rfl⟩:=he
      have hbb:b=b':=heq (b,b') (by simp)
      subst hbb
      obtain ⟨vs,h1,h2⟩:=Mj hF hh hr fun p hp=>heq p (by simp [hp])
      have hv:=hF.get t
      rw [hg] at hv
      have hv:=hv.val_inv
      obtain ⟨cs,e,k1,k2⟩:=hh.ok _ (Y3 hl)
      obtain ⟨v,j1,j2⟩:=HE (P:=P) (b:=b) (o:=off) hx (k2.drop off)
      have j3:=j2 w fun j u hj=>by
       rw [cell_of_row w b (off+j) cs e (0,0) k1]
       simpa using hj
      refine ⟨v::vs,.cons j1 h1,?_⟩
      simp only [List.mapM_cons,Sem.run_bind,Sem.run_pure,Result.andThen_ok,hv,Z3c,j3,h2]
     ·cases he
    ·cases he
   ·cases he
  ·cases he
def Bp (P:Program) (fn:Func) (R:AV->List Res->Prop):WW:=fun e F h=>
 (e=.normal∨e=.ret)/\∃hints xs es h' r,Kd P F h fn.results.toList hints=some (xs,es)/\(∀p∈es,p.1=p.2)/\(∃d,h.Perm (h'++d))/\Zd (Bd xs) r/\R r h'
theorem Me {P:Program} {fn:Func} {R:AV->List Res->Prop} {F:Fr} {h h':List Res} {e:Exit} (he:(match e with|.normal|.ret=>true|_=>false)=true) (hints:List Nat) {xs:List AV}
  {es:List (Nat × Nat)} {r:AV} (hr:Kd P F h fn.results.toList hints=some (xs,es)) (heq:∀p∈es,p.1=p.2) (hw:∃d,h.Perm (h'++d)) (hle:Zd (Bd xs) r) (hR:R r h'):Bp P fn R e F h:=
 ⟨by cases e<;>first|exact .inl rfl|exact .inr rfl|(cases he),hints,xs,es,h',r,hr,heq,hw,hle,hR⟩
theorem Ze3 {P:Program} {fn:Func} {tmps:Array Value} {w:World} {vs:List Value}
  (h:(List.mapM (m:=Sem) (fun r=>match r with|.tmp t=>pure (tmps.getD t undef)|.cell b t=>do loadVar t (<-asAddr (tmps.getD b undef))) fn.results.toList).run P w=.ok vs w) :
  (results fn tmps).run P w=.ok (if h:vs.toArray.size=1 then vs.toArray[0] else .tuple vs.toArray) w:=by
 unfold results
 rw [Array.mapM_eq_mapM_toList]
 simp only [Sem.run_bind,Sem.run_map,Sem.run_pure]
 exact Yl (fun r=>(Result.andThen (Result.andThen r fun a w'=>Result.ok a.toArray w') fun a w'=>Result.ok (if h:a.size=1 then a[0] else Value.tuple a) w')) h
theorem enter {P:Program} {f:FuncId} {fn:Func} {xs:List AV} {h:List Res} {R:AV->List Res->Prop} {n:Nat} (hf:P.funcs[f]? = some fn) (hb:fn.body.isSome=true) (hn:fn.ntmps=n)
  (hle:Nat.ble xs.length n=true) (ha:Yz P n (Ge fn) (Bp P fn R) (Ch 0 xs) h):WZ P f xs h R:=by
 intro w G vs hvs hh
 have hbody:fn.body=some (Ge fn):=by
  unfold Ge
  cases hq:fn.body with
  | none=>simp [hq] at hb
  | some c=>rfl
 have hlen:=hvs.length
 have hle:=Vb hle
 refine calls_of_wp hf hbody ?_
 have hF:FR w G n (Ch 0 xs) { tmps:=vs.toArray++Array.replicate (fn.ntmps-vs.toArray.size) undef,defers:=[] }:=by
  refine ⟨rfl,by simp [hn,hlen];omega,fun t=>?_⟩
  have:=Ng (w:=w) (G:=G) 0 t (List.replicate (fn.ntmps-vs.toArray.size) undef) hvs
  rw [Wj] at this
  have e:(vs.toArray++Array.replicate (fn.ntmps-vs.toArray.size) undef).getD t undef=(vs++List.replicate (fn.ntmps-vs.toArray.size) undef).getD t undef:=by
   simp [Array.getElem?_append,List.getElem?_append,List.getElem?_replicate,Array.getElem?_replicate]
  rw [e]
  exact this
 refine wp_mono (ha w G _ hF hh) ?_
 intro e a w' ⟨F',h',G',hA,k1,k2,k3⟩
 obtain ⟨he,hints,ys,es,h2,r,hr,heq,hwk,hle,hR⟩:=hA
 obtain ⟨us,u1,u2⟩:=Mj k1 k2 hr heq
 have hres:=Ze3 u2
 have hval:RV w' G' (Bd ys) (if h:us.toArray.size=1 then us.toArray[0] else .tuple us.toArray):=by
  cases u1 with
  | nil=>simp [Bd];exact .tup (cs:=[]) .nil
  | cons a1 a2=>
   cases a2 with
   | nil=>simpa [Bd] using a1
   | cons b1 b2=>simpa [Bd] using RV.tup (.cons a1 (.cons b1 b2))
 obtain ⟨d,hp⟩:=hwk
 have k2':=(k2.perm hp).left
 have k3':X5 w G h w' G' h2:=(k3.perm (TI _) hp).sub' (List.sublist_append_left _ _)
 rcases he with rfl|rfl
 ·exact ⟨k1.defers,_,hres,_,_,h2,G',rfl,hR,hle _ _ _ hval,k2',k3'⟩
 ·exact ⟨k1.defers,_,hres,_,_,h2,G',rfl,hR,hle _ _ _ hval,k2',k3'⟩
def AW (ops:Array Oper) (j i:Nat):Bool:=
 match ops[j]? with
 | some o=>o.after.any fun e=>Region.binds .any e&&e.on==i
 | none=>false
inductive KP (ops:Array Oper):Nat->Nat->Prop
 | one {j i} (h:AW ops j i=true):KP ops j i
 | more {j m i} (h:AW ops j m=true) (t:KP ops m i):KP ops j i
def Hw (ops:Array Oper):Nat->Nat->Nat->Bool
 | 0,j,i=>AW ops j i
 | f+1,j,i=>match ops[j]? with
  | some o=>o.after.any fun e=>Region.binds .any e&&(e.on==i||(Nat.ble i e.on&&Hw ops f e.on i))
  | none=>false
def Vs (ops:Array Oper) (j i:Nat):Bool:=Hw ops 9 j i
theorem O7 {ops:Array Oper} {j:Nat} {o:Oper} {e:Edge} (ho:ops[j]? = some o) (he:e∈o.after) (hb:Region.binds .any e=true):AW ops j e.on=true:=by
 unfold AW
 rw [ho]
 simp only [Array.any_eq_true',Xb,Ze]
 exact ⟨e,he,hb,rfl⟩
theorem Si {ops:Array Oper}:∀{f j i:Nat},Hw ops f j i=true->KP ops j i
 | 0,j,i,h=>.one h
 | f+1,j,i,h=>by
  rw [Hw] at h
  split at h
  ·rename_i o ho
   simp only [Array.any_eq_true',Xb,Bool.or_eq_true,Ze] at h
   obtain ⟨e,he,hb,h1|⟨_,h1⟩⟩:=h
   ·exact .one (h1▸O7 ho he hb)
   ·exact .more (O7 ho he hb) (Si h1)
  ·cases h
theorem Z3i {ops:Array Oper} {j i:Nat} (h:Vs ops j i=true):KP ops j i:=Si h
def AG (ops:Array Oper) (listed:Array Bool):Prop:=∀m i,listed.getD m false=true->AW ops m i=true->listed.getD i false=true
theorem AG.bef {ops:Array Oper} {listed:Array Bool} (hc:AG ops listed) {j i:Nat} (hb:KP ops j i):listed.getD j false=true->listed.getD i false=true:=by
 induction hb with
 | one h=>exact fun hj=>hc _ _ hj h
 | more h _ ih=>exact fun hj=>ih (hc _ _ hj h)
theorem L6 {ops:Array Oper} {listed:Array Bool} {j i:Nat} (hj:j∈Region.ready .any ops listed) (h:AW ops j i=true):listed.getD i false=true:=by
 obtain ⟨_,o,ho,hall⟩:=mem_ready.1 hj
 simp only [AW,ho] at h
 obtain ⟨e,he,hb⟩:=Array.any_eq_true'.1 h
 simp only [Xb,Ze] at hb
 exact hb.2▸hall e he hb.1
theorem Zc3 {ops:Array Oper} {listed:Array Bool} {j i:Nat} (hc:AG ops listed) (hj:j∈Region.ready .any ops listed) (hi:listed.getD i true=false):¬KP ops j i:=by
 intro hb
 have hi':listed.getD i false=false:=by
  cases hq:listed.getD i false
  ·rfl
  ·rcases FU i listed.size with h|h
   ·simp [h] at hi hq;rw [hi] at hq;cases hq
   ·simp [Array.getElem?_eq_none h] at hi
 have hl:listed.getD i false=true:=by
  cases hb with
  | one h=>exact L6 hj h
  | more h t=>exact hc.bef t (L6 hj h)
 rw [hi'] at hl
 cases hl
theorem AG.add {ops:Array Oper} {listed:Array Bool} {j:Nat} (hc:AG ops listed) (hj:j∈Region.ready .any ops listed):AG ops (listed.setIfInBounds j true):=by
 intro m i hm he
 by_cases hmj:m=j
 ·subst hmj
  exact getD_set_true (L6 hj he)
 ·rw [getD_set_ne false (Ne.symm hmj)] at hm
  exact getD_set_true (hc m i hm he)
abbrev Em:=Nat × (World->Prop)->Prop
def D6 (P:Program) (ops:Array Oper) (Q:Exit->Act->World->Prop):Nat->Em->Array Bool->Act->World->Prop
 | 0,_,listed,a,w=>Region.ready .any ops listed=[]/\Q .normal a w
 | fuel+1,T,listed,a,w=>
  (Region.ready .any ops listed=[]->Q .normal a w) /\
  ∀i∈Region.ready .any ops listed,wpOp P ops Q i (fun a' w'=>(∀p,T p->¬KP ops i p.1->p.2 w') /\
   D6 P ops Q fuel (fun p=>T p/\¬KP ops i p.1) (listed.setIfInBounds i true) a' w') a w
section
variable {P:Program} {ops:Array Oper} {Q:Exit->Act->World->Prop} {S:World->Prop}
theorem Z1y:∀(fuel:Nat) (T:Em) (listed:Array Bool) (a:Act) (w:World),D6 P ops Q fuel T listed a w->wpAny P .any ops Q fuel listed a w
 | 0,_,_,_,_,h=>h
 | fuel+1,_,_,_,_,h=>⟨h.1,fun i hi=>wpOp_mono (fun _ _ h'=>Z1y fuel _ _ _ _ h'.2) (h.2 i hi)⟩
theorem MW:∀(fuel:Nat) {T T':Em} (listed:Array Bool) (a:Act) (w:World),(∀p,T' p->T p)->D6 P ops Q fuel T listed a w->D6 P ops Q fuel T' listed a w
 | 0,_,_,_,_,_,_,h=>h
 | fuel+1,_,_,_,_,_,hT,h=>⟨h.1,fun i hi=>wpOp_mono (fun _ _ h'=>⟨fun p hp=>h'.1 p (hT p hp),MW fuel _ _ _ (fun p hp=>⟨hT p hp.1,hp.2⟩) h'.2⟩) (h.2 i hi)⟩
theorem Zij {i:Nat} {oi:Oper} {v:Value} (hi:ops[i]? = some oi) (hsel:∀(j:Nat) (o:Oper) cs b,ops[j]? = some o->o.op≠.select cs b)
  (hQ:∀c a w,¬Q (.panic c) a w) :
  ∀(fuel:Nat) (T:Em) (listed:Array Bool) (a:Act) (w:World),AG ops listed ->
   (∀j oj,ops[j]? = some oj->j≠i->listed.getD j true=false->(∀e∈oj.after,Region.binds .any e=true->e.on≠i)->oi.apart ops oj=true) ->
   i∈Region.ready .any ops listed->YieldsIf P ops S oi v a->S w->(∀p,T p->p.2 w) ->
   D6 P ops Q fuel (fun p=>T p∨p=(i,S)) (listed.setIfInBounds i true) (a.put oi.dst v) w->D6 P ops Q (fuel+1) T listed a w:=by
 intro fuel
 have hQ':∀c a w,Q (.panic c) (a.put oi.dst v) w->Q (.panic c) a w:=fun c a w h=>(hQ c _ w h).elim
 induction fuel with
 | zero=>
  intro T listed a w _ hfree hr hy hS hT H
  refine ⟨fun h=>(by rw [h] at hr;cases hr),fun j hj=>?_⟩
  by_cases hji:j=i
  ·subst hji
   exact hy.wpOp hi hS ⟨fun p hp _=>hT p hp,H⟩
  ·have:=ready_mono hj hji
   rw [H.1] at this
   cases this
 | succ fuel ih=>
  intro T listed a w hcl hfree hr hy hS hT H
  refine ⟨fun h=>(by rw [h] at hr;cases hr),fun j hj=>?_⟩
  by_cases hji:j=i
  ·subst hji
   exact hy.wpOp hi hS ⟨fun p hp _=>hT p hp,MW (fuel+1) _ _ _ (fun p hp=>.inl hp.1) H⟩
  ·have h1:=H.2 j (ready_mono hj hji)
   obtain ⟨hjun,oj,hoj,hall⟩:=mem_ready.1 hj
   have hiun:=(mem_ready.1 hr).1
   have hnb:¬KP ops j i:=Zc3 hcl hj hiun
   have hnot:∀e∈oj.after,Region.binds .any e=true->e.on≠i:=fun e he hb heq=>
    hnb (.one (by simp only [AW,hoj];exact Array.any_eq_true'.2 ⟨e,he,by simp [hb,heq]⟩))
   have h2:=wpOp_putIf hoj (hfree j oj hoj hji hjun hnot) (fun cs b=>hsel i oi cs b hi) (fun cs b=>hsel j oj cs b hoj) hQ' hy h1
   have hfree':∀k ok,ops[k]? = some ok->k≠i->(listed.setIfInBounds j true).getD k true=false ->
     (∀e∈ok.after,Region.binds .any e=true->e.on≠i)->oi.apart ops ok=true:=fun k ok hk hki hun LA=>by
    refine hfree k ok hk hki ?_ LA
    by_cases hjk:j=k
    ·subst hjk;exact hjun
    ·rw [getD_set_ne true hjk] at hun;exact hun
   refine wpOp_mono (fun a' w' h3=>?_) h2
   obtain ⟨hy',hT',hrest⟩:=h3
   have hTp:∀p,T p/\¬KP ops j p.1->p.2 w':=fun p hp=>hT' p (.inl hp.1) hp.2
   refine ⟨fun p hp hb=>hTp p ⟨hp,hb⟩,ih _ (listed.setIfInBounds j true) a' w' (hcl.add hj) hfree' (ready_mono hr (Ne.symm hji)) hy' (hT' (i,S) (.inr rfl) hnb) hTp ?_⟩
   rw [Array.setIfInBounds_comm _ _ hji]
   refine MW fuel _ _ _ (fun p hp=>?_) hrest
   rcases hp with hp|rfl
   ·exact ⟨.inl hp.1,hp.2⟩
   ·exact ⟨.inr rfl,hnb⟩
end
def WS (ops:Array Oper) (done:List Nat):Array Bool:=done.foldl (fun l i=>l.setIfInBounds i true) (Array.replicate ops.size false)
theorem Hb (ops:Array Oper) (done:List Nat) (i:Nat):WS ops (done++[i])=(WS ops done).setIfInBounds i true:=by simp [WS]
theorem Z41 (ops:Array Oper):AG ops (WS ops []):=by
 intro m i hm _
 simp only [WS,List.foldl_nil] at hm
 by_cases h:m<ops.size
 ·simp [h] at hm
 ·simp [h] at hm
def X7 (P:Program) (n:Nat) (ops:Array Oper) (B:Fr->List Res->Prop) (T:List (Nat × List Nat)) (fuel:Nat) (done:List Nat) (F:Fr) (h:List Res):Prop:=
 ∀(Q:Exit->Act->World->Prop) w G a (SL:Em),FR w G n F a->YK w G h->(∀c a w,¬Q (.panic c) a w)->AG ops (WS ops done) ->
  (∀p,SL p->∃t∈T,t.1=p.1/\∀w',(∀b o,G b o->w'.cell? ⟨b,o,none⟩=w.cell? ⟨b,o,none⟩)->(∀b∈t.2,w'.heap[b]? = w.heap[b]?)->p.2 w') ->
  (∀F' h' G' a' w',B F' h'->FR w' G' n F' a'->YK w' G' h'->X5 w G h w' G' h'->Q .normal a' w')->D6 P ops Q fuel SL (WS ops done) a w
section
variable {P:Program} {n:Nat} {ops:Array Oper} {B:Fr->List Res->Prop} {T:List (Nat × List Nat)} {fuel:Nat} {done:List Nat} {F:Fr} {h:List Res}
theorem Z4t (hr:Region.ready .any ops (WS ops done)=[]) (hB:B F h):X7 P n ops B T fuel done F h:=by
 intro Q w G a SL hF hh _ _ _ hk
 have hq:=hk F h G a w hB hF hh (X5.refl _ _ _)
 cases fuel with
 | zero=>exact ⟨hr,hq⟩
 | succ f=>exact ⟨fun _=>hq,by rw [hr];simp⟩
def Jb (P:Program) (n:Nat) (ops:Array Oper) (h:List Res):List Nat->List Nat->Fr->List Nat->Option (Fr × List (Nat × List (Nat × Nat)))
 | [],_,F,_=>some (F,[])
 | i::is,done,F,hints=>
  match ops[i]? with
  | none=>none
  | some o=>
   match VS n o&&(B4 n ops o&&(Region.free .any ops (WS ops done) i&&(Region.ready .any ops (WS ops done)).contains i)) with
   | false=>none
   | true=>match J1 ops F o with
    | none=>none
    | some false=>match Jb P n ops h is (done++[i]) (F.put o.dst (.tup [])) hints with
     | none=>none
     | some (F',es)=>some (F',(i,[])::es)
    | some true=>match Qf P o F h (hints.headD 0) with
     | none=>none
     | some (x,eqs)=>match Jb P n ops h is (done++[i]) (F.put o.dst x) (match eqs with | []=>hints | _=>hints.tail) with
      | none=>none
      | some (F',es)=>some (F',(i,eqs)::es)
def Fb (es:List (Nat × List (Nat × Nat))):List (Nat × List Nat):=es.map fun e=>(e.1,e.2.map (·.1))
theorem IF {i:Nat} {o:Oper} {ks:List Nat} {x:AV} (hs:Region.noSelect ops=true) (hi:ops[i]? = some o) (hd:VS n o=true) (hgl:B4 n ops o=true)
  (hf:Region.free .any ops (WS ops done) i=true) (hr:(Region.ready .any ops (WS ops done)).contains i=true)
  (hx:(J1 ops F o=some false/\x=.tup []/\ks=[])∨(J1 ops F o=some true/\XY P o F h ks x))
  (H:X7 P n ops B ((i,ks)::T) fuel (done++[i]) (F.put o.dst x) h):X7 P n ops B T (fuel+1) done F h:=by
 intro Q w G a SL hF hh hQ hcl hcov hk
 have hready:i∈Region.ready .any ops (WS ops done):=by simpa using hr
 let S:World->Prop:=fun w'=>(∀b o,G b o->w'.cell? ⟨b,o,none⟩=w.cell? ⟨b,o,none⟩)/\(∀b∈ks,w'.heap[b]? = w.heap[b]?)
 have hSL:∀p,SL p->p.2 w:=fun p hp=>by
  obtain ⟨t,_,_,h3⟩:=hcov p hp
  exact h3 w (fun _ _ _=>rfl) fun _ _=>rfl
 have key:∃v,RV w G x v/\YieldsIf P ops S o v a:=by
  rcases hx with ⟨hg,rfl,rfl⟩|⟨hg,hst⟩
  ·exact ⟨undef,.tup (cs:=[]) .nil,.inr ⟨DC hF hgl hg,rfl⟩⟩
  ·obtain ⟨v,h1,h2⟩:=hst n w G a hF hh
   exact ⟨v,h1,.inl ⟨DC hF hgl hg,fun w' hw'=>h2 w' hw'.1 hw'.2⟩⟩
 obtain ⟨v,hv,hy⟩:=key
 refine Zij hi (Region.noSelect_spec hs) hQ fuel SL _ a w hcl (Region.free_spec hi hf) hready hy ⟨fun _ _ _=>rfl,fun _ _=>rfl⟩ hSL ?_
 rw [<-Hb]
 refine H Q w G _ _ (hF.put (TQ hd) hv) hh hQ (by rw [Hb];exact hcl.add hready) ?_ hk
 rintro p (hp|rfl)
 ·obtain ⟨t,h1,h2,h3⟩:=hcov p hp
  exact ⟨t,Xj _ h1,h2,h3⟩
 ·exact ⟨(i,ks),Xa ..,rfl,fun w' h1 h2=>⟨h1,h2⟩⟩
theorem IE:∀(is:List Nat) {T:List (Nat × List Nat)} {done:List Nat} {F F':Fr} {hints:List Nat} {es:List (Nat × List (Nat × Nat))} {fuel':Nat},Region.noSelect ops=true ->
  Jb P n ops h is done F hints=some (F',es)->(∀e∈es,∀p∈e.2,p.1=p.2)->fuel'=fuel+is.length ->
  X7 P n ops B ((Fb es).reverse++T) fuel (done++is) F' h->X7 P n ops B T fuel' done F h
 | [],T,done,F,F',hints,es,fuel',_,he,_,hf,H=>by
  simp only [Jb,Wp,Prod.mk.injEq] at he
  obtain ⟨rfl,rfl⟩:=he
  subst hf
  simpa [Fb] using H
 | i::is,T,done,F,F',hints,es,fuel',hs,he,heq,hf,H=>by
  simp only [Jb] at he
  cases ho:ops[i]? with
  | none=>rw [ho] at he;cases he
  | some o=>
   rw [ho] at he
   simp only at he
   cases hc:VS n o&&(B4 n ops o&&(Region.free .any ops (WS ops done) i&&(Region.ready .any ops (WS ops done)).contains i)) with
   | false=>rw [hc] at he;cases he
   | true=>
    rw [hc] at he
    simp only [Xb] at hc
    obtain ⟨c1,c2,c3,c4⟩:=hc
    simp only at he
    have hfuel:fuel'=fuel+is.length+1:=by simp at hf;omega
    subst hfuel
    cases hg:J1 ops F o with
    | none=>rw [hg] at he;cases he
    | some b=>
     rw [hg] at he
     cases b with
     | false=>
      simp only at he
      cases hr:Jb P n ops h is (done++[i]) (F.put o.dst (.tup [])) hints with
      | none=>rw [hr] at he;cases he
      | some y=>
       obtain ⟨F2,es2⟩:=y
       rw [hr] at he
       simp only [Wp,Prod.mk.injEq] at he
       obtain ⟨rfl,rfl⟩:=he
       refine IF hs ho c1 c2 c3 c4 (.inl ⟨hg,rfl,rfl⟩) (IE is hs hr (fun e he=>heq e (Xj _ he)) rfl ?_)
       simpa [Fb] using H
     | true=>
      simp only at he
      cases hev:Qf P o F h (hints.headD 0) with
      | none=>rw [hev] at he;cases he
      | some xe=>
       obtain ⟨x,eqs⟩:=xe
       rw [hev] at he
       simp only at he
       generalize (match eqs with|[]=>hints|_=>hints.tail)=hints' at he
       cases hr:Jb P n ops h is (done++[i]) (F.put o.dst x) hints' with
       | none=>rw [hr] at he;cases he
       | some y=>
        obtain ⟨F2,es2⟩:=y
        rw [hr] at he
        simp only [Wp,Prod.mk.injEq] at he
        obtain ⟨rfl,rfl⟩:=he
        have hst:=Dw hev (heq (i,eqs) (Xa ..))
        refine IF hs ho c1 c2 c3 c4 (.inr ⟨hg,hst⟩) (IE is hs hr (fun e he=>heq e (Xj _ he)) rfl ?_)
        simpa [Fb] using H
def V2:List Res->List Nat
 | []=>[]
 | .obj b _::r=>b::V2 r
 | .row (.slice (some a) _ _) _ _::r=>a.block::V2 r
 | _::r=>V2 r
theorem Rv {b:Nat}:∀{h:List Res},b∈V2 h->∃r∈h,∀o,r.fp b o
 | [],hb=>by simp [V2] at hb
 | x::r,hb=>by
  have up:b∈V2 r->∃q∈x::r,∀o,q.fp b o:=fun hb=>by obtain ⟨l,hl,hf⟩:=Rv (h:=r) hb;exact ⟨l,Xj _ hl,hf⟩
  unfold V2 at hb
  split at hb
  ·rename_i he;cases he
  ·rename_i he
   cases he
   rcases YN.1 hb with rfl|hb
   ·exact ⟨_,Xa ..,fun _=>rfl⟩
   ·exact up hb
  ·rename_i he
   cases he
   rcases YN.1 hb with rfl|hb
   ·exact ⟨_,Xa ..,fun _=>rfl⟩
   ·exact up hb
  ·rename_i he
   cases he
   exact up hb
def VZ (P:Program) (n:Nat) (ops:Array Oper) (B:Fr->List Res->Prop) (T:List (Nat × List Nat)) (fuel:Nat) (done:List Nat) (F:Fr) (h:List Res) (i:Nat):Prop:=
 ∃o h1 h2,ops[i]? = some o/\J1 ops F o=some true/\B4 n ops o=true/\h.Perm (h1++h2) /\
  (∀t∈T,Vs ops i t.1=true∨∀b∈t.2,b∈V2 h2) /\
  WO P n o F h1 fun F' h1'=>X7 P n ops B (T.filter fun t=>!Vs ops i t.1) fuel (done++[i]) F' (h1'++h2)
theorem NR {is:List Nat} (hr:Region.ready .any ops (WS ops done)=is) (hne:is.isEmpty=false) (H:∀i∈is,VZ P n ops B T fuel done F h i):X7 P n ops B T (fuel+1) done F h:=by
 intro Q w G a SL hF hh hQ hcl hcov hk
 refine ⟨fun h0=>(by rw [hr] at h0;subst h0;simp at hne),fun i hi=>?_⟩
 obtain ⟨o,h1,h2,ho,hg,hgl,hp,hT,hop⟩:=H i (hr▸hi)
 have hh':=hh.perm hp
 have hw:=DC hF hgl hg
 unfold wpOp
 simp only [ho,hw,if_true]
 refine .inl (Oper.wp_mono ?_ (hop Q w G a hF hh'.left))
 intro a' w' ⟨F',h1',G',b1,b2,b3,b4⟩
 obtain ⟨j1,j2⟩:=hh'.frame b4 b3
 have hA:=b4.agree hh'.left
 have hsame:∀b∈V2 h2,w'.heap[b]? = w.heap[b]?:=fun b hb=>by
  obtain ⟨r,hl,hr⟩:=Rv hb
  exact (b4.same b ((hh'.ok r (Xl.2 (.inr hl))).lt b 0 (hr 0))).eq fun o hf=>hh'.cross hf ⟨_,hl,hr o⟩
 have hcov':∀p,SL p/\¬KP ops i p.1->∃t∈T.filter fun t=>!Vs ops i t.1,t.1=p.1 /\
   ∀w'',(∀b o,G' b o->w''.cell? ⟨b,o,none⟩=w'.cell? ⟨b,o,none⟩)->(∀b∈t.2,w''.heap[b]? = w'.heap[b]?)->p.2 w'':=by
  rintro p ⟨hp,hb⟩
  obtain ⟨t,t1,t2,t3⟩:=hcov p hp
  have hbb:Vs ops i t.1=false:=by
   cases hq:Vs ops i t.1
   ·rfl
   ·exact absurd (t2▸Z3i hq) hb
  refine ⟨t,List.mem_filter.2 ⟨t1,by simp [hbb]⟩,t2,fun w'' c1 c2=>t3 w'' (fun b o hg=>(c1 b o (hA.sub b o hg)).trans (hA.cell b o hg)) fun b hb'=>?_⟩
  rcases hT t t1 with h|h
  ·rw [hbb] at h;cases h
  ·exact (c2 b hb').trans (hsame b (h b hb'))
 refine ⟨fun p hp hb=>?_,?_⟩
 ·obtain ⟨t,_,_,t3⟩:=hcov' p ⟨hp,hb⟩
  exact t3 w' (fun _ _ _=>rfl) fun _ _=>rfl
 ·rw [<-Hb]
  exact b1 Q w' G' a' _ b2 j1 hQ (by rw [Hb];exact hcl.add hi) hcov' fun F2 h2' G2 a2 w2 c1 c2 c3 c4=>hk F2 h2' G2 a2 w2 c1 c2 c3 ((j2.perm hp.symm (TI _)).trans c4)
theorem Z4w {i:Nat} (hr:Region.ready .any ops (WS ops done)=[i]) (H:VZ P n ops B T fuel done F h i):X7 P n ops B T (fuel+1) done F h:=
 NR hr rfl fun j hj=>by rw [Xy.1 hj];exact H
theorem IH {F':Fr} (hw:F.Le F') (H:X7 P n ops B T fuel done F' h):X7 P n ops B T fuel done F h:=by
 intro Q w G a SL hF hh hQ hcl hcov hk
 exact H Q w G a SL (hF.le hw) hh hQ hcl hcov hk
end
theorem N9 {P:Program} {n:Nat} {c:Code} {A:WW} {F:Fr} {h:List Res} (hk:Xe c=2) (hm:P.follows .mixedOrders=true) {k:Nat} (XO:(XJ c).size=k)
  (hs:X7 P n (XJ c) (A .normal) [] k [] F h):Yz P n c A F h:=by
 rw [Z3o hk]
 intro w G a hF hh
 subst XO
 let Q:Exit->Act->World->Prop:=fun e a' w'=>match e with
  | .normal=>AH n A w G h .normal a' w'
  | _=>False
 have hx:=hs Q w.drew G a (fun _=>False) (hF.mono (Br w G)) hh.drew (fun _ _ _ hq=>hq) (Z41 _) (fun p hp=>hp.elim)
  fun F' h' G' a' w' b1 b2 b3 b4=>⟨F',h',G',b1,b2,b3,(X5.drew w G h).trans b4⟩
 refine wp_mono (wp_region_any (Q:=Q) hm (Z1y _ _ _ _ _ hx)) ?_
 intro e a' w' hq
 cases e with
 | normal=>exact hq
 | _=>exact hq.elim
theorem Z2g {P:Program} {n:Nat} {c:Code} {A:WW} {F:Fr} {h:List Res} (hk:Xe c=3) (hk2:Xe (YQ c)=2) (hm:P.follows .mixedOrders=true) {k:Nat}
  (XO:(XJ (YQ c)).size=k) (hs:X7 P n (XJ (YQ c)) (fun F h=>Yz P n (U3 c) A F h) [] k [] F h):Yz P n c A F h:=
 Im hk (N9 hk2 hm XO hs)
abbrev AV.i (n:Int):AV:=.val (.int .i64 n)
abbrev AV.b (b:Bool):AV:=.val (.bool b)
abbrev AV.p (b:Nat) (o:Nat):AV:=.val (.pointer (some ⟨b,o,none⟩))
abbrev AV.ms (b off len cap:Nat):AV:=.val (.slice (some ⟨b,off,none⟩) len cap)
def ZV (ops:Array Oper) (k:Nat):Oper:=ops.toList.getD k default
def Xo (n:Nat) (ops:Array Oper) (F:Fr) (k:Nat):Bool:=
 Nat.blt k ops.size&&(VS n (ZV ops k)&&(B4 n ops (ZV ops k)&&(match J1 ops F (ZV ops k) with|some true=>true|_=>false)))
abbrev SI (P:Program) (n:Nat) (ops:Array Oper) (B:Fr->List Res->Prop) (k:Nat) (F:Fr) (h:List Res):Prop:=Kn P n ops B (ops.toList.drop k) F h
theorem Z56 {ops:Array Oper} {k:Nat} (h:k<ops.size):ops.toList.drop k=ZV ops k::ops.toList.drop (k+1):=by
 have this:k<ops.toList.length:=by simpa using h
 rw [MY this]
 simp [ZV,List.getD,h]
section
variable {P:Program} {n:Nat} {ops:Array Oper} {B:Fr->List Res->Prop} {k:Nat} {F:Fr} {h:List Res}
theorem UJ (hk:Xo n ops F k=true):k<ops.size/\VS n (ZV ops k)=true/\B4 n ops (ZV ops k)=true/\J1 ops F (ZV ops k)=some true:=by
 simp only [Xo,Xb] at hk
 obtain ⟨h1,h2,h3,h4⟩:=hk
 refine ⟨by simpa using h1,h2,h3,?_⟩
 split at h4
 ·assumption
 ·cases h4
theorem QC (hk:Xo n ops F k=true) (ho:WO P n (ZV ops k) F h fun F' h'=>SI P n ops B (k+1) F' h'):SI P n ops B k F h:=by
 obtain ⟨h1,h2,h3,h4⟩:=UJ hk
 show Kn P n ops B (ops.toList.drop k) F h
 rw [Z56 h1]
 exact Zez h4 h3 ho
theorem ET {ks:List Nat} {x:AV} (hk:Xo n ops F k=true) (hs:XY P (ZV ops k) F h ks x) (H:SI P n ops B (k+1) (F.put (ZV ops k).dst x) h):SI P n ops B k F h:=
 QC hk (hs.op (UJ hk).2.1 H)
theorem Mr:∀(m:Nat) {l:List Oper} {F:Fr} {hints:List Nat} {l':List Oper} {F':Fr} {es:List (Nat × Nat)},QJ P n ops h m l F hints=some (l',F',es)->l'=l.drop m
 | 0,l,F,hints,l',F',es,he=>by
  simp only [QJ,Wp,Prod.mk.injEq] at he
  simp [he.1]
 | m+1,[],F,hints,l',F',es,he=>by simp [QJ] at he
 | m+1,o::l,F,hints,l',F',es,he=>by
  simp only [QJ] at he
  split at he
  ·cases he
  ·split at he
   ·cases he
   ·simpa using Mr m he
   ·split at he
    ·cases he
    ·split at he
     ·cases he
     ·rename_i hr
      simp only [Wp,Prod.mk.injEq] at he
      obtain ⟨rfl,_,_⟩:=he
      simpa using Mr m hr
theorem Md:∀{es:List (Nat × Nat)},es.map (·.1)=es.map (·.2)->∀p∈es,p.1=p.2
 | [],_,p,hp=>by simp at hp
 | e::es,h,p,hp=>by
  simp only [Tk,List.cons.injEq] at h
  rcases YN.1 hp with rfl|hp
  ·exact h.1
  ·exact Md h.2 p hp
theorem Z9v (x':AV) {x:AV} (hk:Xo n ops F k=true) (he:Qf P (ZV ops k) F h 0=some (x,[])) (hx:Zd x x') (H:SI P n ops B (k+1) (F.put (ZV ops k).dst x') h):SI P n ops B k F h:=by
 refine ET (ks:=[]) hk ?_ H
 have hs:=Dw he (by simp)
 intro n w G a hF hh
 obtain ⟨v,h1,h2⟩:=hs n w G a hF hh
 exact ⟨v,hx _ _ _ h1,by simpa using h2⟩
theorem Pz (hk:Nat.ble ops.size k=true) (hB:B F h):SI P n ops B k F h:=by
 have:ops.toList.drop k=[]:=MZ (by simpa using Vb hk)
 show Kn P n ops B (ops.toList.drop k) F h
 rw [this]
 exact Zey hB
theorem PA (H:SI P n ops B 0 F h):Kn P n ops B ops.toList F h:=H
theorem Z9r (F':Fr) (h':List Res) (H:SI P n ops (fun F h=>Tn F h F' h') k F h) (hB:B F' h') (hB':∀F h,Tn F h F' h'->B F' h'->B F h):SI P n ops B k F h:=by
 intro Q w G a hF hh hk
 exact H Q w G a hF hh fun F2 h2 G2 a2 w2 b1 b2 b3 b4=>hk F2 h2 G2 a2 w2 (hB' _ _ b1 hB) b2 b3 b4
theorem Z9s {c:Code} {A:WW} (F':Fr) (h':List Res) (H:SI P n ops (fun F h=>Tn F h F' h') k F h) (hB:Yz P n c A F' h'):SI P n ops (fun F h=>Yz P n c A F h) k F h:=
 Z9r F' h' H hB fun _ _ hw ha=>Dd hw ha
theorem Z9w {b:Bool} (t:Nat) (hF:F.get t=.val (.bool b)) (h1:b=true->SI P n ops B k ((t,.val (.bool true))::F) h)
  (h2:b=false->SI P n ops B k ((t,.val (.bool false))::F) h):SI P n ops B k F h:=by
 cases b with
 | true=>exact HF ⟨Dz hF (Zd.refl _) (Fr.Le.refl F),[],by simp⟩ (h1 rfl)
 | false=>exact HF ⟨Dz hF (Zd.refl _) (Fr.Le.refl F),[],by simp⟩ (h2 rfl)
theorem Y7 {b:Bool} {p:Prop} (h:b=true↔p) (hb:b=false):¬p:=fun q=>by have:=h.2 q;rw [hb] at this;cases this
theorem B1 {α:Type} {xs:List α} {j:Nat} (h:j<xs.length):∃x,xs[j]? = some x:=⟨_,D9 h⟩
theorem Yu {a b:Bool} {p q:Prop} (h1:a=true↔p) (h2:b=true↔q):(a&&b)=true↔p/\q:=by rw [Xb,h1,h2]
theorem ZO {a b:Bool} {p q:Prop} (h1:a=true↔p) (h2:b=true↔q):(a||b)=true↔p∨q:=by rw [Bool.or_eq_true,h1,h2]
theorem Yh {a:Bool} {p:Prop} (h1:a=true↔p):(!a)=true↔¬p:=by rw [<-h1];cases a<;>simp
def A0 (ops:Array Oper) (F:Fr) (k:Nat):Option Int:=
 match (ZV ops k).op with
 | .binOp op _ x y _=>match F.ev x,F.ev y with
  | .val (.int .i64 a),.val (.int .i64 b)=>match op with
   | .add=>some (a+b)
   | .sub=>some (a-b)
   | .mul=>some (a*b)
   | _=>none
  | _,_=>none
 | _=>none
theorem Z16 {r s:Int} (ha:A0 ops F k=some s) (hs:s=r) (hb:-9223372036854775808<=r/\r<=9223372036854775807) :
  XY P (ZV ops k) F h [] (.val (.int .i64 r)):=by
 subst hs
 unfold A0 at ha
 generalize hoo:ZV ops k=o at ha
 obtain ⟨dst,op,type,pos,after,guard⟩:=o
 cases op<;>simp only at ha<;>try (cases ha)
 rename_i bop xt x y yt
 split at ha
 ·rename_i a b h1 h2
  have key:∀v,EH bop .i64 a b=some (.int .i64 (IntKind.i64.wrap v))->v=s->XY P { dst:=dst,op:=.binOp bop xt x y yt,type:=type,pos:=pos,after:=after,guard:=guard } F h [] (.val (.int .i64 s)):=by
   intro v hv hvs
   have he:Qf P { dst:=dst,op:=.binOp bop xt x y yt,type:=type,pos:=pos,after:=after,guard:=guard } F h 0=some (.val (.int .i64 (IntKind.i64.wrap v)),[]):=by
    simp only [Qf,h1,h2,FB,hv]
   have:=Dw he (by simp)
   rw [hvs,IntWalk.i64_in s hb] at this
   simpa using this
  split at ha
  ·cases ha;exact key (a+b) rfl rfl
  ·cases ha;exact key (a-b) rfl rfl
  ·cases ha;exact key (a*b) rfl rfl
  ·cases ha
 ·cases ha
theorem Z9p (r:Int) {s:Int} (hk:Xo n ops F k=true) (ha:A0 ops F k=some s) (hs:s=r) (hb:-9223372036854775808<=r/\r<=9223372036854775807)
  (H:SI P n ops B (k+1) (F.put (ZV ops k).dst (.val (.int .i64 r))) h):SI P n ops B k F h:=
 ET (ks:=[]) hk (Z16 ha hs hb) H
def UK:List Nat->List Res->Option (List Res × List Res)
 | [],l=>some ([],l)
 | i::is,l=>match l[i]? with
  | some r=>match UK is (l.eraseIdx i) with
   | some (a,b)=>some (r::a,b)
   | none=>none
  | none=>none
theorem Ov:∀{l:List Res} {i:Nat} {r:Res},l[i]? = some r->l.Perm (r::l.eraseIdx i)
 | [],i,r,h=>by simp at h
 | x::l,0,r,h=>by simp at h;subst h;simp
 | x::l,i+1,r,h=>by
  have:=Ov (l:=l) (i:=i) (r:=r) (by simpa using h)
  simp only [List.eraseIdx_cons_succ]
  exact (List.Perm.cons x this).trans (List.Perm.swap r x _)
theorem Uo:∀{is:List Nat} {l a b:List Res},UK is l=some (a,b)->l.Perm (a++b)
 | [],l,a,b,h=>by
  simp only [UK,Wp,Prod.mk.injEq] at h
  obtain ⟨rfl,rfl⟩:=h
  simp
 | i::is,l,a,b,h=>by
  simp only [UK] at h
  split at h
  ·rename_i r hr
   split at h
   ·rename_i a' b' hp
    simp only [Wp,Prod.mk.injEq] at h
    obtain ⟨rfl,rfl⟩:=h
    exact (Ov hr).trans (List.Perm.cons r (Uo hp))
   ·cases h
  ·cases h
theorem Zii {F':Fr} {h' d:List Res} (is:List Nat) (hF:F.Le F') (hp:UK is h=some (h',d)):Tn F h F' h':=⟨hF,d,Uo hp⟩
def A8 (P:Program) (ops:Array Oper) (F:Fr) (k:Nat):Option (FuncId × List AV):=
 match (ZV ops k).op with
 | .call c=>match c.callee with
  | .value (.func f)=>match P.funcs[f]? with
   | some fn=>match fn.body.isSome&&!(fn.name== "runtime.NumGoroutine") with
    | true=>some (f,c.args.toList.map F.ev)
    | false=>none
   | none=>none
  | .value t=>match F.ev t with
   | .val (.func (.func f) vs caps)=>match vs.toList,P.funcs[f]? with
    | [],some fn=>match fn.body.isSome&&!(fn.name== "runtime.NumGoroutine") with
     | true=>some (f,c.args.toList.map F.ev++caps.toList.map AV.val)
     | false=>none
    | _,_=>none
   | _=>none
  | _=>none
 | _=>none
theorem Ma {K:Fr->List Res->Prop} {f:FuncId} {xs:List AV} {h1 h2:List Res} {R:AV->List Res->Prop} (hd:VS n (ZV ops k)=true) (hc:A8 P ops F k=some (f,xs))
  (hp:h.Perm (h1++h2)) (H:WZ P f xs h1 R) (hK:∀r h',R r h'->K (F.put (ZV ops k).dst r) (h'++h2)):WO P n (ZV ops k) F h K:=by
 unfold A8 at hc
 generalize hoo:ZV ops k=o at hc hd hK
 obtain ⟨dst,op,type,pos,after,guard⟩:=o
 cases op<;>simp only at hc<;>try (cases hc)
 rename_i c
 obtain ⟨callee,args,tys⟩:=c
 cases callee with
 | builtin b=>cases hc
 | invoke r m=>cases hc
 | value t=>
  simp only at hc
  split at hc
  ·rename_i g hg
   cases hg
   split at hc
   ·rename_i fn hf
    split at hc
    ·rename_i hb
     simp only [Xb,Bool.not_eq_true'] at hb
     simp only [Wp,Prod.mk.injEq] at hc
     obtain ⟨rfl,rfl⟩:=hc
     exact Zck _ args tys rfl hf hb.1 hb.2 rfl hd hp H hK
    ·cases hc
   ·cases hc
  ·rename_i t' hnf ht'
   cases ht'
   split at hc
   ·rename_i g vs caps hv
    split at hc
    ·rename_i fn hvs hf
     split at hc
     ·rename_i hb
      simp only [Xb,Bool.not_eq_true'] at hb
      simp only [Wp,Prod.mk.injEq] at hc
      obtain ⟨rfl,rfl⟩:=hc
      have:vs=#[]:=by rw [<-UY (xs:=vs),hvs]
      subst this
      exact Zcl t args tys rfl hv hf hb.1 hb.2 rfl hd hp H hK
     ·cases hc
    ·cases hc
   ·cases hc
  ·cases hc
theorem Z9q (f:FuncId) (xs:List AV) (is:List Nat) {h1 h2:List Res} {R:AV->List Res->Prop} (hk:Xo n ops F k=true) (hc:A8 P ops F k=some (f,xs))
  (hp:UK is h=some (h1,h2)) (H:WZ P f xs h1 R) (hK:∀r h',R r h'->SI P n ops B (k+1) (F.put (ZV ops k).dst r) (h'++h2)):SI P n ops B k F h:=
 QC hk (Ma (UJ hk).2.1 hc (Uo hp) H hK)
def BJ (P:Program) (ops:Array Oper) (F:Fr) (k:Nat):Option (AV × Int × Nat):=
 match (ZV ops k).op with
 | .indexAddr t x ix=>match P.underlying t with
  | some (.slice e)=>match P.info? e with
   | some i=>match F.ev ix with
    | .val (.int _ j)=>some (F.ev x,j,i.size)
    | _=>none
   | none=>none
  | _=>none
 | _=>none
theorem Ea {es:List AV} {hv:Option Value} {j:Int} {sz:Nat} {y:AV} (hi:BJ P ops F k=some (.sl es hv,j,sz)) (h0:0<=j) (hget:es[j.toNat]? = some y)
  (hy:y.leaves.length=sz):XY P (ZV ops k) F h [] (.rp y.leaves):=by
 unfold BJ at hi
 generalize hoo:ZV ops k=o at hi
 obtain ⟨dst,op,type,pos,after,guard⟩:=o
 cases op<;>simp only at hi<;>try (cases hi)
 rename_i t x ix
 split at hi
 ·rename_i e ht
  split at hi
  ·rename_i i hinfo
   split at hi
   ·rename_i ik j' hix
    simp only [Wp,Prod.mk.injEq] at hi
    obtain ⟨h1,rfl,rfl⟩:=hi
    exact Zh2 t x ix rfl ht hinfo rfl h1 hix h0 hget hy
   ·cases hi
  ·cases hi
 ·cases hi
theorem Z17 {b off len cap:Nat} {j:Int} {sz:Nat} (hi:BJ P ops F k=some (.val (.slice (some ⟨b,off,none⟩) len cap),j,sz)) (h0:0<=j) (hlt:j<len) :
  XY P (ZV ops k) F h [] (.val (.pointer (some ⟨b,off+j.toNat * sz,none⟩))):=by
 unfold BJ at hi
 generalize hoo:ZV ops k=o at hi
 obtain ⟨dst,op,type,pos,after,guard⟩:=o
 cases op<;>simp only at hi<;>try (cases hi)
 rename_i t x ix
 split at hi
 ·rename_i e ht
  split at hi
  ·rename_i i hinfo
   split at hi
   ·rename_i ik j' hix
    simp only [Wp,Prod.mk.injEq] at hi
    obtain ⟨h1,rfl,rfl⟩:=hi
    exact Zh3 t x ix rfl ht hinfo rfl h1 hix h0 hlt
   ·cases hi
  ·cases hi
 ·cases hi
def Mz (P:Program) (ops:Array Oper) (F:Fr) (k:Nat) (len:Int):Option (AV × Int × Int × Nat):=
 match (ZV ops k).op with
 | .slice t x lo hi none=>match P.underlying t with
  | some (.slice e)=>match P.info? e with
   | some i=>match BS F lo 0,BS F hi len with
    | some l,some m=>some (F.ev x,l,m,i.size)
    | _,_=>none
   | none=>none
  | _=>none
 | _=>none
theorem Zh9 {es:List AV} {hv:Option Value} {l m:Int} {sz:Nat} (hi:Mz P ops F k es.length=some (.sl es hv,l,m,sz)) (h0:0<=l) (h1:l<=m) (h2:m<=es.length)
  (hes:∀y∈es,y.leaves.length=sz):XY P (ZV ops k) F h [] (.sl ((es.take m.toNat).drop l.toNat) none):=by
 unfold Mz at hi
 generalize hoo:ZV ops k=o at hi
 obtain ⟨dst,op,type,pos,after,guard⟩:=o
 cases op<;>simp only at hi<;>try (cases hi)
 rename_i t x lo hi' mx
 cases mx with
 | some _=>simp at hi
 | none=>
  simp only at hi
  split at hi
  ·rename_i e ht
   split at hi
   ·rename_i i hinfo
    split at hi
    ·rename_i l' m' hl hm
     simp only [Wp,Prod.mk.injEq] at hi
     obtain ⟨hx,rfl,rfl,rfl⟩:=hi
     exact Zh8 t x lo hi' rfl ht hinfo rfl hx hl hm h0 h1 h2 hes
    ·cases hi
   ·cases hi
  ·cases hi
theorem Ax {es es':List AV} {hv:Option Value} {l m:Int} {sz:Nat} (hi:Mz P ops F k es.length=some (.sl es hv,l,m,sz)) (h0:0<=l) (h1:l<=m) (h2:m<=es.length)
  (hes:∀y∈es,y.leaves.length=sz) (he:(es.take m.toNat).drop l.toNat=es'):XY P (ZV ops k) F h [] (.sl es' none):=he▸Zh9 hi h0 h1 h2 hes
def TO (P:Program) (ops:Array Oper) (F:Fr) (k:Nat):Option (AV × AV × Nat):=
 match (ZV ops k).op with
 | .call c=>match c.callee,c.args.toList,c.argTypes.toList with
  | .builtin .append,[s,x],[t,t']=>match Nat.beq t t',P.underlying t with
   | true,some (.slice e)=>match P.info? e with
    | some i=>match i.zero with
     | some z=>match Nat.beq z.cells.size i.size&&Nat.ble i.bytes 32768 with
      | true=>some (F.ev s,F.ev x,i.size)
      | false=>none
     | none=>none
    | none=>none
   | _,_=>none
  | _,_,_=>none
 | _=>none
theorem RA {K:Fr->List Res->Prop} {es xs:List AV} {hv:Value} {hx:Option Value} {sz:Nat} {h1 h2:List Res} (hd:VS n (ZV ops k)=true)
  (ha:TO P ops F k=some (.sl es (some hv),.sl xs hx,sz)) (hes:∀y∈es,y.leaves.length=sz) (hxs:∀y∈xs,y.leaves.length=sz) (hone:(Zg xs).all AV.one=true)
  (hbound:es.length+xs.length<=4294967296)
  (hK:∀v',(v'.ownBlock=hv.ownBlock∨∃b,v'.ownBlock=some b/\Bo (h1++.tail hv sz::h2) b)->K (F.put (ZV ops k).dst (.sl (es++xs) (some v'))) (h1++.tail v' sz::h2)) :
  WO P n (ZV ops k) F (h1++.tail hv sz::h2) K:=by
 unfold TO at ha
 generalize hoo:ZV ops k=o at ha hd hK
 obtain ⟨dst,op,type,pos,after,guard⟩:=o
 cases op<;>simp only at ha<;>try (cases ha)
 rename_i c
 obtain ⟨callee,args,tys⟩:=c
 simp only at ha
 split at ha
 ·rename_i s x t t' hargs htys
  split at ha
  ·rename_i e htt ht
   have:=T1 htt
   subst this
   split at ha
   ·rename_i i hinfo
    split at ha
    ·rename_i z hz
     split at ha
     ·rename_i hb
      simp only [Xb] at hb
      simp only [Wp,Prod.mk.injEq] at ha
      obtain ⟨h3,h4,rfl⟩:=ha
      have e1:args=#[s,x]:=by rw [<-UY (xs:=args),hargs]
      have e2:tys=#[t,t]:=by rw [<-UY (xs:=tys),htys]
      subst e1;subst e2
      exact Zci s x t rfl ht hinfo rfl (by rw [hz];simp [T1 hb.1]) hb.2 h3 h4 hd hes hxs hone hbound hK
     ·cases ha
    ·cases ha
   ·cases ha
  ·cases ha
 ·cases ha
theorem WO.perm {K:Fr->List Res->Prop} {o:Oper} {h':List Res} (hp:h.Perm h') (H:WO P n o F h' K):WO P n o F h K:=by
 intro Q w G a hF hh
 refine Oper.wp_mono ?_ (H Q w G a hF (hh.perm hp))
 intro a' w' ⟨F',h2,G',b1,b2,b3,b4⟩
 exact ⟨F',h2,G',b1,b2,b3,b4.perm hp.symm (TI _)⟩
theorem Z9o (j:Nat) (es':List AV) {es xs:List AV} {hv:Value} {hx:Option Value} {sz:Nat} {h2:List Res} (hk:Xo n ops F k=true)
  (ha:TO P ops F k=some (.sl es (some hv),.sl xs hx,sz)) (hp:UK [j] h=some ([.tail hv sz],h2)) (hes:∀y∈es,y.leaves.length=sz) (hxs:∀y∈xs,y.leaves.length=sz)
  (hone:(Zg xs).all AV.one=true) (hbound:es.length+xs.length<=4294967296) (he:es++xs=es')
  (hK:∀v',SI P n ops B (k+1) (F.put (ZV ops k).dst (.sl es' (some v'))) (.tail v' sz::h2)):SI P n ops B k F h:=
 QC hk (WO.perm (Uo hp) (RA (h1:=[]) (UJ hk).2.1 ha hes hxs hone hbound fun v' _=>by rw [he];exact hK v'))
theorem HT {w:World} {G:Ym} {sz:Nat} (hh:YK w G h):YK w G (.tail (.slice none 0 0) sz::h)/\X5 w G h w G (.tail (.slice none 0 0) sz::h):=
 ⟨⟨fun r hr=>by
   rcases YN.1 hr with rfl|hr
   ·exact .inl rfl
   ·exact hh.ok r hr,Vg.2 ⟨fun _ _ _ _ hf=>hf.elim,hh.apart⟩,fun r hr b o hf hg=>by
   rcases YN.1 hr with rfl|hr
   ·exact hf.elim
   ·exact hh.prot r hr b o hf hg,hh.lt⟩,
  ⟨rfl,rfl,rfl,X0 _,fun _ _ h=>h,fun _ _=>.inl rfl,fun _ _ _ h=>.inl h,fun b o _ ⟨r,hr,hf⟩=>by
   rcases YN.1 hr with rfl|hr
   ·exact hf.elim
   ·exact ⟨r,hr,hf⟩⟩⟩
theorem Z9y (sz:Nat) (H:SI P n ops B k F (.tail (.slice none 0 0) sz::h)):SI P n ops B k F h:=by
 intro Q w G a hF hh hk
 obtain ⟨h1,h2⟩:=HT (sz:=sz) hh
 exact H Q w G a hF h1 fun F2 h2' G2 a2 w2 b1 b2 b3 b4=>hk F2 h2' G2 a2 w2 b1 b2 b3 (h2.trans b4)
theorem Dc {c:Code} {A:WW} (sz:Nat) (H:Yz P n c A F (.tail (.slice none 0 0) sz::h)):Yz P n c A F h:=by
 intro w G a hF hh
 obtain ⟨h1,h2⟩:=HT (sz:=sz) hh
 exact wp_mono (H w G a hF h1) fun e a' w' hc=>hc.trans h2
end
section
variable {P:Program} {n:Nat} {ops:Array Oper} {B:Fr->List Res->Prop} {k:Nat} {F:Fr} {h:List Res}
def De (P:Program) (ops:Array Oper) (F:Fr) (k:Nat):Option (List AV):=
 match (ZV ops k).op with
 | .alloc t=>Ei P t
 | .box _ x=>match (F.ev x).fit with
  | true=>some (F.ev x).leaves
  | false=>none
 | _=>none
theorem Rz {K:Fr->List Res->Prop} {ls:List AV} (hd:VS n (ZV ops k)=true) (ha:De P ops F k=some ls)
  (hK:∀b,Bo h b->K (F.put (ZV ops k).dst (.val (.pointer (some ⟨b,0,none⟩)))) (.obj b ls::h)):WO P n (ZV ops k) F h K:=by
 unfold De at ha
 generalize hoo:ZV ops k=o at ha hd hK
 obtain ⟨dst,op,type,pos,after,guard⟩:=o
 cases op<;>simp only at ha<;>try (cases ha)
 case alloc t=>exact Zch t rfl ha hd hK
 case box t x=>
  split at ha
  ·rename_i hf
   cases ha
   exact Zcj t x rfl rfl hf hd hK
  ·cases ha
def storeAt (P:Program) (ops:Array Oper) (F:Fr) (k:Nat):Option (Nat × Nat × List AV):=
 match (ZV ops k).op with
 | .store t x y=>match F.ev x,(ZV ops k).dst,P.info? t with
  | .val (.pointer (some ⟨b,o,none⟩)),none,some i=>match Nat.beq i.size (F.ev y).leaves.length&&((F.ev y).fit&&(F.ev y).leaves.all AV.one) with
   | true=>some (b,o,(F.ev y).leaves)
   | false=>none
  | _,_,_=>none
 | _=>none
theorem RJ {K:Fr->List Res->Prop} {b o:Nat} {xs ls:List AV} {h2:List Res} (hs:storeAt P ops F k=some (b,o,xs)) (hle:Nat.ble (o+xs.length) ls.length=true)
  (hK:K F (.obj b (ls.take o++xs++ls.drop (o+xs.length))::h2)):WO P n (ZV ops k) F (.obj b ls::h2) K:=by
 unfold storeAt at hs
 generalize hoo:ZV ops k=q at hs
 obtain ⟨dst,op,type,pos,after,guard⟩:=q
 cases op<;>simp only at hs<;>try (cases hs)
 rename_i t x y
 split at hs
 ·rename_i b' o' i hx hi
  split at hs
  ·rename_i hc
   simp only [Xb] at hc
   simp only [Wp,Prod.mk.injEq] at hs
   obtain ⟨rfl,rfl,rfl⟩:=hs
   exact Zcr (h1:=[]) t x y rfl rfl hx rfl (by simp only [Xb];exact hc.2) (by rw [hi];simp [T1 hc.1]) hle hK
  ·cases hs
 ·cases hs
def Ts (P:Program) (ops:Array Oper) (F:Fr) (k:Nat):Option (List AV × Nat × Nat):=
 match (ZV ops k).op with
 | .buildSlice t len parts=>match P.underlying t with
  | some (.slice e)=>match P.info? e with
   | some i=>match i.zero.isSome&&Nat.ble (len*i.size) (2 ^ 24) with
    | true=>match AZ (fun j=>some (j*i.size,i.size)) (List.replicate (len*i.size) .any) (parts.toList.map fun p=>(p.1,F.ev p.2)) with
     | some ls=>some (ls,len,i.size)
     | none=>none
    | false=>none
   | none=>none
  | _=>none
 | _=>none
theorem RC {K:Fr->List Res->Prop} {es:List AV} {len sz:Nat} (hd:VS n (ZV ops k)=true) (ha:Ts P ops F k=some (Zg es,len,sz)) (hlen:es.length=len) (hall:AL es sz=true)
  (hK:∀b,Bo h b->K (F.put (ZV ops k).dst (.sl es (some (.slice (some ⟨b,0,none⟩) len len)))) (.tail (.slice (some ⟨b,0,none⟩) len len) sz::h)):WO P n (ZV ops k) F h K:=by
 unfold Ts at ha
 generalize hoo:ZV ops k=q at ha hd hK
 obtain ⟨dst,op,type,pos,after,guard⟩:=q
 cases op<;>simp only at ha<;>try (cases ha)
 rename_i t ln parts
 split at ha
 ·rename_i e ht
  split at ha
  ·rename_i i hi
   split at ha
   ·rename_i hc
    simp only [Xb] at hc
    split at ha
    ·rename_i ls hf
     simp only [Wp,Prod.mk.injEq] at ha
     obtain ⟨rfl,rfl,rfl⟩:=ha
     exact Zcm t _ parts rfl ht hi rfl hc.1 hc.2 hf hlen hall hd hK
    ·cases ha
   ·cases ha
  ·cases ha
 ·cases ha
theorem Z9n (ls:List AV) (hk:Xo n ops F k=true) (ha:De P ops F k=some ls)
  (hK:∀b,SI P n ops B (k+1) (F.put (ZV ops k).dst (.val (.pointer (some ⟨b,0,none⟩)))) (.obj b ls::h)):SI P n ops B k F h:=
 QC hk (Rz (UJ hk).2.1 ha fun b _=>hK b)
theorem Z9x (j:Nat) {b o:Nat} {xs ls:List AV} {h2:List Res} (ls':List AV) (hk:Xo n ops F k=true) (hs:storeAt P ops F k=some (b,o,xs)) (hp:UK [j] h=some ([.obj b ls],h2))
  (hle:Nat.ble (o+xs.length) ls.length=true) (he:ls.take o++xs++ls.drop (o+xs.length)=ls') (H:SI P n ops B (k+1) F (.obj b ls'::h2)):SI P n ops B k F h:=
 QC hk (WO.perm (Uo hp) (RJ hs hle (by rw [he];exact H)))
theorem Z9t (es:List AV) {len sz:Nat} (hk:Xo n ops F k=true) (ha:Ts P ops F k=some (Zg es,len,sz)) (hlen:es.length=len) (hall:AL es sz=true)
  (hK:∀v,SI P n ops B (k+1) (F.put (ZV ops k).dst (.sl es (some v))) (.tail v sz::h)):SI P n ops B k F h:=
 QC hk (RC (UJ hk).2.1 ha hlen hall fun _ _=>hK _)
variable {T:List (Nat × List Nat)} {fuel fuel':Nat} {done:List Nat}
def Fa (P:Program) (n:Nat) (ops:Array Oper) (h:List Res) (is done:List Nat) (F:Fr) (hints:List Nat):List (Nat × List Nat):=
 match Jb P n ops h is done F hints with
 | some (_,es)=>Fb es
 | none=>[]
theorem RS:∀{es:List (Nat × List (Nat × Nat))},es.flatMap (fun e=>e.2.map (·.1))=es.flatMap (fun e=>e.2.map (·.2))->∀e∈es,∀p∈e.2,p.1=p.2
 | [],_,e,he=>by simp at he
 | x::es,hq,e,he=>by
  simp only [C8] at hq
  have h1:=List.append_inj hq (by simp)
  rcases YN.1 he with rfl|he
  ·exact Md h1.1
  ·exact RS h1.2 e he
def UI (ops:Array Oper) (i:Nat) (T:List (Nat × List Nat)):List Nat:=(T.filter fun t=>!Vs ops i t.1).flatMap (·.2)
theorem Zcc {i:Nat} {h2:List Res} (js bs:List Nat) (h1:UI ops i T=bs) (h3:js.map (fun j=>(V2 h2)[j]?)=bs.map some) :
  ∀t∈T,Vs ops i t.1=true∨∀b∈t.2,b∈V2 h2:=by
 have hall:∀(js bs:List Nat),js.map (fun j=>(V2 h2)[j]?)=bs.map some->∀b∈bs,b∈V2 h2:=by
  intro js
  induction js with
  | nil=>intro bs hb b hm;cases bs with
   | nil=>simp at hm
   | cons _ _=>simp at hb
  | cons j js ih=>intro bs hb b hm;cases bs with
   | nil=>simp at hm
   | cons c bs=>
    simp only [Tk,List.cons.injEq] at hb
    rcases YN.1 hm with rfl|hm
    ·exact Y3 hb.1
    ·exact ih bs hb.2 b hm
 intro t ht
 cases hq:Vs ops i t.1 with
 | true=>exact .inl rfl
 | false=>
  refine .inr fun b hb=>hall js bs h3 b ?_
  rw [<-h1]
  exact List.mem_flatMap.2 ⟨t,List.mem_filter.2 ⟨ht,by simp [hq]⟩,hb⟩
theorem Rx {i:Nat} (hi:i<ops.size):ops[i]? = some (ZV ops i):=by
 simp [ZV,List.getD,hi]
theorem Ad {i:Nat} (is js bs:List Nat) {h1 h2:List Res} (hk:Xo n ops F i=true) (hp:UK is h=some (h1,h2)) (ho:UI ops i T=bs) (hj:js.map (fun j=>(V2 h2)[j]?)=bs.map some)
  (H:WO P n (ZV ops i) F h1 fun F' h1'=>X7 P n ops B (T.filter fun t=>!Vs ops i t.1) fuel (done++[i]) F' (h1'++h2)):VZ P n ops B T fuel done F h i:=by
 obtain ⟨q1,_,q3,q4⟩:=UJ hk
 exact ⟨_,h1,h2,Rx q1,q4,q3,Uo hp,Zcc js bs ho hj,H⟩
theorem Z4q (i:Nat) (f:FuncId) (xs:List AV) (is js bs:List Nat) {h1 h2:List Res} {R:AV->List Res->Prop} (hk:Xo n ops F i=true) (hc:A8 P ops F i=some (f,xs))
  (hp:UK is h=some (h1,h2)) (ho:UI ops i T=bs) (hj:js.map (fun j=>(V2 h2)[j]?)=bs.map some) (H:WZ P f xs h1 R)
  (hK:∀r h',R r h'->X7 P n ops B (T.filter fun t=>!Vs ops i t.1) fuel (done++[i]) (F.put (ZV ops i).dst r) (h'++h2)):VZ P n ops B T fuel done F h i:=
 Ad is js bs hk hp ho hj (Ma (h2:=[]) (UJ hk).2.1 hc (by simp) H fun r h' hr=>by simpa using hK r h' hr)
theorem Z4n (i:Nat) (js bs:List Nat) (ls:List AV) (hk:Xo n ops F i=true) (ha:De P ops F i=some ls) (ho:UI ops i T=bs) (hj:js.map (fun j=>(V2 h)[j]?)=bs.map some)
  (hK:∀b,X7 P n ops B (T.filter fun t=>!Vs ops i t.1) fuel (done++[i]) (F.put (ZV ops i).dst (.val (.pointer (some ⟨b,0,none⟩)))) (.obj b ls::h)):VZ P n ops B T fuel done F h i:=
 Ad (h1:=[]) (h2:=h) [] js bs hk rfl ho hj (Rz (UJ hk).2.1 ha fun b _=>hK b)
theorem Z4u (i:Nat) (js bs:List Nat) (es:List AV) {len sz:Nat} (hk:Xo n ops F i=true) (ha:Ts P ops F i=some (Zg es,len,sz)) (hlen:es.length=len) (hall:AL es sz=true)
  (ho:UI ops i T=bs) (hj:js.map (fun j=>(V2 h)[j]?)=bs.map some)
  (hK:∀v,X7 P n ops B (T.filter fun t=>!Vs ops i t.1) fuel (done++[i]) (F.put (ZV ops i).dst (.sl es (some v))) (.tail v sz::h)):VZ P n ops B T fuel done F h i:=
 Ad (h1:=[]) (h2:=h) [] js bs hk rfl ho hj (RC (UJ hk).2.1 ha hlen hall fun _ _=>hK _)
theorem Z4o (i j:Nat) (js bs:List Nat) (es':List AV) {es xs:List AV} {hv:Value} {hx:Option Value} {sz:Nat} {h2:List Res} (hk:Xo n ops F i=true)
  (ha:TO P ops F i=some (.sl es (some hv),.sl xs hx,sz)) (hp:UK [j] h=some ([.tail hv sz],h2)) (hes:∀y∈es,y.leaves.length=sz) (hxs:∀y∈xs,y.leaves.length=sz)
  (hone:(Zg xs).all AV.one=true) (hbound:es.length+xs.length<=4294967296) (he:es++xs=es') (ho:UI ops i T=bs) (hj:js.map (fun j=>(V2 h2)[j]?)=bs.map some)
  (hK:∀v',X7 P n ops B (T.filter fun t=>!Vs ops i t.1) fuel (done++[i]) (F.put (ZV ops i).dst (.sl es' (some v'))) (.tail v' sz::h2)):VZ P n ops B T fuel done F h i:=
 Ad [j] js bs hk hp ho hj (RA (h1:=[]) (h2:=[]) (UJ hk).2.1 ha hes hxs hone hbound fun v' _=>by rw [he];exact hK v')
theorem Z4y (i j:Nat) (js bs:List Nat) {b o:Nat} {xs ls:List AV} {h2:List Res} (ls':List AV) (hk:Xo n ops F i=true) (hs:storeAt P ops F i=some (b,o,xs))
  (hp:UK [j] h=some ([.obj b ls],h2)) (hle:Nat.ble (o+xs.length) ls.length=true) (he:ls.take o++xs++ls.drop (o+xs.length)=ls') (ho:UI ops i T=bs)
  (hj:js.map (fun j=>(V2 h2)[j]?)=bs.map some) (H:X7 P n ops B (T.filter fun t=>!Vs ops i t.1) fuel (done++[i]) F (.obj b ls'::h2)):VZ P n ops B T fuel done F h i:=
 Ad [j] js bs hk hp ho hj (RJ (h2:=[]) hs hle (by rw [he];exact H))
theorem Gj (i:Nat) {ks:List Nat} {x:AV} (hs:Region.noSelect ops=true) (hk:Xo n ops F i=true)
  (hf:Region.free .any ops (WS ops done) i=true) (hr:(Region.ready .any ops (WS ops done)).contains i=true) (hx:XY P (ZV ops i) F h ks x)
  (H:X7 P n ops B ((i,ks)::T) fuel (done++[i]) (F.put (ZV ops i).dst x) h):X7 P n ops B T (fuel+1) done F h:=by
 obtain ⟨q1,q2,q3,q4⟩:=UJ hk
 exact IF hs (Rx q1) q2 q3 hf hr (.inr ⟨q4,hx⟩) H
theorem Z4v (i:Nat) (x':AV) {x:AV} (hs:Region.noSelect ops=true) (hk:Xo n ops F i=true)
  (hf:Region.free .any ops (WS ops done) i=true) (hr:(Region.ready .any ops (WS ops done)).contains i=true) (he:Qf P (ZV ops i) F h 0=some (x,[])) (hx:Zd x x')
  (H:X7 P n ops B ((i,[])::T) fuel (done++[i]) (F.put (ZV ops i).dst x') h):X7 P n ops B T (fuel+1) done F h:=by
 refine Gj i (ks:=[]) hs hk hf hr ?_ H
 have hst:=Dw he (by simp)
 intro n w G a hF hh
 obtain ⟨v,h1,h2⟩:=hst n w G a hF hh
 exact ⟨v,hx _ _ _ h1,by simpa using h2⟩
theorem Z4p (i:Nat) (r:Int) {s:Int} (hns:Region.noSelect ops=true) (hk:Xo n ops F i=true)
  (hf:Region.free .any ops (WS ops done) i=true) (hr:(Region.ready .any ops (WS ops done)).contains i=true) (ha:A0 ops F i=some s) (hs:s=r)
  (hb:-9223372036854775808<=r/\r<=9223372036854775807)
  (H:X7 P n ops B ((i,[])::T) fuel (done++[i]) (F.put (ZV ops i).dst (.val (.int .i64 r))) h):X7 P n ops B T (fuel+1) done F h:=
 Gj i (ks:=[]) hns hk hf hr (Z16 ha hs hb) H
theorem Z4x {b:Bool} (t:Nat) (hF:F.get t=.val (.bool b)) (h1:b=true->X7 P n ops B T fuel done ((t,.val (.bool true))::F) h)
  (h2:b=false->X7 P n ops B T fuel done ((t,.val (.bool false))::F) h):X7 P n ops B T fuel done F h:=by
 cases b with
 | true=>exact IH (Dz hF (Zd.refl _) (Fr.Le.refl F)) (h1 rfl)
 | false=>exact IH (Dz hF (Zd.refl _) (Fr.Le.refl F)) (h2 rfl)
theorem Z4s {c:Code} {A:WW} (F':Fr) (h':List Res) (H:X7 P n ops (fun F h=>Tn F h F' h') T fuel done F h) (hB:Yz P n c A F' h'):X7 P n ops (fun F h=>Yz P n c A F h) T fuel done F h:=by
 intro Q w G a SL hF hh hQ hcl hcov hk
 exact H Q w G a SL hF hh hQ hcl hcov fun F2 h2 G2 a2 w2 b1 b2 b3 b4=>hk F2 h2 G2 a2 w2 (Dd b1 hB) b2 b3 b4
end
end Go.Abs
section
namespace Go.Abs
structure Yd where
 fields:LI
structure Zb where
 frm:Int
 to_:Int
 cons:List Yd
mutual
inductive Z5 where
 | mk (op num into:Int) (args:LI) (kids:List Z8)
inductive Z8 where
 | mk (steps:List Z5) (result:Int)
end
namespace Z5
def op:Z5->Int|.mk a _ _ _ _=>a
def num:Z5->Int|.mk _ a _ _ _=>a
def into:Z5->Int|.mk _ _ a _ _=>a
def args:Z5->LI|.mk _ _ _ a _=>a
def kids:Z5->List Z8|.mk _ _ _ _ a=>a
end Z5
namespace Z8
def steps:Z8->List Z5|.mk a _=>a
def result:Z8->Int|.mk _ a=>a
end Z8
structure YE where
 params:LI
 lent:LI
 result:Int
 body:Z8
structure ZG where
 decls:List Zb
 routines:List YE
def Z6 (xs:LI):List AV:=xs.map AV.i
def Vk (xs:List LI):List AV:=xs.map fun l=>.sl (Z6 l) none
abbrev Db (c:Yd):AV:=.agg [.sl (Z6 c.fields) none]
def XU (cs:List Yd):List AV:=cs.map Db
abbrev En (d:Zb):AV:=.agg [.i d.frm,.i d.to_,.sl (XU d.cons) none]
def YS (ds:List Zb):List AV:=ds.map En
mutual
def L0:Z5->AV
 | .mk op num into args kids=>.agg [.i op,.i num,.i into,.sl (Z6 args) none,.sl (XP kids) none]
def IL:Z8->AV
 | .mk steps result=>.agg [.sl (ZU steps) none,.i result]
def ZU:List Z5->List AV
 | []=>[]
 | s::ss=>L0 s::ZU ss
def XP:List Z8->List AV
 | []=>[]
 | b::bs=>IL b::XP bs
end
abbrev X4 (s:Z5):AV:=.agg [.i s.op,.i s.num,.i s.into,.sl (Z6 s.args) none,.sl (XP s.kids) none]
abbrev Yq (b:Z8):AV:=.agg [.sl (ZU b.steps) none,.i b.result]
abbrev JY (r:YE):AV:=.agg [.sl (Z6 r.params) none,.sl (Z6 r.lent) none,.i r.result,.sl (ZU r.body.steps) none,.i r.body.result]
def X9 (rs:List YE):List AV:=rs.map JY
abbrev YF (n:ZG):AV:=.agg [.sl (YS n.decls) none,.sl (X9 n.routines) none]
theorem Z5i (s:Z5):L0 s=X4 s:=by cases s;rw [L0];rfl
theorem Z59 (b:Z8):IL b=Yq b:=by cases b;rw [IL];rfl
theorem U5:∀xs:List Z5,ZU xs=xs.map X4
 | []=>by rw [ZU];rfl
 | s::ss=>by rw [ZU,U5 ss,Z5i];rfl
theorem QW:∀xs:List Z8,XP xs=xs.map Yq
 | []=>by rw [XP];rfl
 | b::bs=>by rw [XP,QW bs,Z59];rfl
section
theorem Y8 {xs:LI} {j:Nat} {x:Int} (h:xs[j]? = some x):(Z6 xs)[j]? = some (.i x):=by simp [Z6,h]
theorem Z5f {xs:List LI} {j:Nat} {x:LI} (h:xs[j]? = some x):(Vk xs)[j]? = some (.sl (Z6 x) none):=by simp [Vk,h]
theorem Jv {xs:List Yd} {j:Nat} {x:Yd} (h:xs[j]? = some x):(XU xs)[j]? = some (Db x):=by simp [XU,h]
theorem Wg {xs:List Zb} {j:Nat} {x:Zb} (h:xs[j]? = some x):(YS xs)[j]? = some (En x):=by simp [YS,h]
theorem V8 {xs:List Z5} {j:Nat} {x:Z5} (h:xs[j]? = some x):(ZU xs)[j]? = some (X4 x):=by simp [U5,h]
theorem US {xs:List Z8} {j:Nat} {x:Z8} (h:xs[j]? = some x):(XP xs)[j]? = some (Yq x):=by simp [QW,h]
theorem VJ {xs:List YE} {j:Nat} {x:YE} (h:xs[j]? = some x):(X9 xs)[j]? = some (JY x):=by simp [X9,h]
@[simp] theorem Yc (xs:LI):(Z6 xs).length=xs.length:=by simp [Z6]
@[simp] theorem Zir (xs:List LI):(Vk xs).length=xs.length:=by simp [Vk]
@[simp] theorem VT (xs:List Yd):(XU xs).length=xs.length:=by simp [XU]
@[simp] theorem VB (xs:List Zb):(YS xs).length=xs.length:=by simp [YS]
@[simp] theorem UB (xs:List Z5):(ZU xs).length=xs.length:=by simp [U5]
@[simp] theorem Kt (xs:List Z8):(XP xs).length=xs.length:=by simp [QW]
@[simp] theorem TS (xs:List YE):(X9 xs).length=xs.length:=by simp [X9]
theorem W1 (xs ys:LI):Z6 (xs++ys)=Z6 xs++Z6 ys:=by simp [Z6]
theorem IV (xs ys:List LI):Vk (xs++ys)=Vk xs++Vk ys:=by simp [Vk]
theorem Z5b (xs ys:List Yd):XU (xs++ys)=XU xs++XU ys:=by simp [XU]
theorem NX (xs ys:List Zb):YS (xs++ys)=YS xs++YS ys:=by simp [YS]
theorem Vt (xs ys:List Z5):ZU (xs++ys)=ZU xs++ZU ys:=by simp [U5]
theorem Cs (xs ys:List Z8):XP (xs++ys)=XP xs++XP ys:=by simp [QW]
theorem Dt (xs ys:List YE):X9 (xs++ys)=X9 xs++X9 ys:=by simp [X9]
theorem Ag (xs:LI) (n:Nat):(Z6 xs).take n=Z6 (xs.take n):=by simp [Z6]
theorem AS (xs:LI) (n:Nat):(Z6 xs).drop n=Z6 (xs.drop n):=by simp [Z6]
theorem IS (xs:List Yd) (n:Nat):(XU xs).take n=XU (xs.take n):=by simp [XU]
theorem IQ (xs:List Yd) (n:Nat):(XU xs).drop n=XU (xs.drop n):=by simp [XU]
theorem Dp (xs:List Zb) (n:Nat):(YS xs).take n=YS (xs.take n):=by simp [YS]
theorem Dn (xs:List Zb) (n:Nat):(YS xs).drop n=YS (xs.drop n):=by simp [YS]
theorem AU (xs:List Z5) (n:Nat):(ZU xs).take n=ZU (xs.take n):=by simp [U5]
theorem AT (xs:List Z5) (n:Nat):(ZU xs).drop n=ZU (xs.drop n):=by simp [U5]
theorem YD (xs:LI):∀y∈Z6 xs,y.leaves.length=1:=by intro y hy;simp only [Z6,XH] at hy;obtain ⟨x,_,rfl⟩:=hy;rfl
theorem Ds (xs:List LI):∀y∈Vk xs,y.leaves.length=1:=by intro y hy;simp only [Vk,XH] at hy;obtain ⟨x,_,rfl⟩:=hy;rfl
theorem Cu (xs:List Yd):∀y∈XU xs,y.leaves.length=1:=by intro y hy;simp only [XU,XH] at hy;obtain ⟨x,_,rfl⟩:=hy;rfl
theorem Qv (xs:List Zb):∀y∈YS xs,y.leaves.length=3:=by intro y hy;simp only [YS,XH] at hy;obtain ⟨x,_,rfl⟩:=hy;rfl
theorem XE (xs:List Z5):∀y∈ZU xs,y.leaves.length=5:=by intro y hy;simp only [U5,XH] at hy;obtain ⟨x,_,rfl⟩:=hy;rfl
theorem KX (xs:List Z8):∀y∈XP xs,y.leaves.length=2:=by intro y hy;simp only [QW,XH] at hy;obtain ⟨x,_,rfl⟩:=hy;rfl
theorem T9 (xs:List YE):∀y∈X9 xs,y.leaves.length=5:=by intro y hy;simp only [X9,XH] at hy;obtain ⟨x,_,rfl⟩:=hy;rfl
theorem J0 {es:List AV} (h:∀y∈es,y.leaves.all AV.one=true):(Zg es).all AV.one=true:=by
 simp only [Zg,List.all_flatMap,JU]
 intro y hy
 exact JU.1 (h y hy)
theorem W2 (xs:LI):(Zg (Z6 xs)).all AV.one=true:=J0 fun y hy=>by simp only [Z6,XH] at hy;obtain ⟨x,_,rfl⟩:=hy;rfl
theorem IW (xs:List LI):(Zg (Vk xs)).all AV.one=true:=J0 fun y hy=>by simp only [Vk,XH] at hy;obtain ⟨x,_,rfl⟩:=hy;rfl
theorem IR (xs:List Yd):(Zg (XU xs)).all AV.one=true:=J0 fun y hy=>by simp only [XU,XH] at hy;obtain ⟨x,_,rfl⟩:=hy;rfl
theorem Do (xs:List Zb):(Zg (YS xs)).all AV.one=true:=J0 fun y hy=>by simp only [YS,XH] at hy;obtain ⟨x,_,rfl⟩:=hy;rfl
theorem Uk (xs:List Z5):(Zg (ZU xs)).all AV.one=true:=J0 fun y hy=>by simp only [U5,XH] at hy;obtain ⟨x,_,rfl⟩:=hy;rfl
theorem Gk (xs:List Z8):(Zg (XP xs)).all AV.one=true:=J0 fun y hy=>by simp only [QW,XH] at hy;obtain ⟨x,_,rfl⟩:=hy;rfl
theorem BA (xs:List YE):(Zg (X9 xs)).all AV.one=true:=J0 fun y hy=>by simp only [X9,XH] at hy;obtain ⟨x,_,rfl⟩:=hy;rfl
end
end Go.Abs
end
namespace Go.Abs
def QN (v:Value):Nat:=v.ownBlock.getD 0
def Az (v:Value) (m:Nat):Value:=
 match v with
 | .slice a _ cap=>.slice a m cap
 | v=>v
theorem Z06 {α:Type} (l:List α) (n:Nat) (x:α) (h:n<l.length):l.take n++[x]++l.drop (n+1)=l.set n x:=by
 rw [I9,Zk h];simp
theorem YK.vwrite {w:World} {G:Ym} {h2:List Res} {g cap n':Nat} {ls ls':List AV} (hh:YK w G (.vec (.slice (some ⟨g,0,none⟩) ls.length cap) ls::h2)) {cs cs':Array Value} {e:TypeId}
  (hb:w.heap[g]? = some (.cells cs e (0,0))) (XO:cs'.size=cs.size) (hn:n'=ls'.length) (hle:ls'.length<=cap) (hcap:cs.size=cap) (hls:YT w G ls' (cs'.toList.take ls'.length)) :
  YK (w.setRow g cs') G (.vec (.slice (some ⟨g,0,none⟩) n' cap) ls'::h2) /\
   X5 w G (.vec (.slice (some ⟨g,0,none⟩) ls.length cap) ls::h2) (w.setRow g cs') G (.vec (.slice (some ⟨g,0,none⟩) n' cap) ls'::h2):=by
 subst hn
 have hmem:Res.vec (.slice (some ⟨g,0,none⟩) ls.length cap) ls∈Res.vec (.slice (some ⟨g,0,none⟩) ls.length cap) ls::h2:=Xa ..
 have hA:VY G w (w.setRow g cs') G:=⟨fun c j hg=>by
  have hne:c≠g:=fun he=>hh.prot _ hmem c j he hg
  simp [World.cell?,VO w g c cs' hne],fun _ _ h=>h⟩
 have hpw:=Vg.1 hh.apart
 have hother:∀r∈h2,∀c j,r.fp c j->c≠g:=fun r hr c j hf hc=>hpw.1 r hr c j hc hf
 refine ⟨⟨?_,Vg.2 ⟨fun r hr=>hpw.1 r hr,hpw.2⟩,?_,?_⟩,⟨rfl,rfl,rfl,by simp [World.setRow],fun _ _ h=>h,?_,fun _ _ _ h=>.inl h,?_⟩⟩
 ·intro r hr
  rcases YN.1 hr with rfl|hr
  ·exact .inr ⟨g,cap,cs',e,rfl,setRow_heap w g cs cs' e (0,0) hb,hle,XO.trans hcap,hls.mono hA⟩
  ·have h0:=hh.ok r (Xj _ hr)
   cases r with
   | obj c ks=>
    obtain ⟨ds,el,k1,k2⟩:=h0
    exact ⟨ds,el,(VO w g c cs' (hother _ hr c 0 rfl)).trans k1,k2.mono hA⟩
   | tail v k=>
    rcases h0 with rfl|⟨g2,len,cap2,cur,el,rfl,k1,k2,k3⟩
    ·exact .inl rfl
    ·exact .inr ⟨g2,len,cap2,cur,el,rfl,(VO w g g2 cs' (hother _ hr g2 (len*k) ⟨rfl,X0 _⟩)).trans k1,k2,k3⟩
   | ge s=>exact V6 h0 (by simp [World.setRow])
   | vec v ks=>
    rcases h0 with ⟨rfl,h0⟩|⟨g2,cap2,cur2,el,rfl,k1,k2,k3,k4⟩
    ·exact .inl ⟨rfl,h0⟩
    ·exact .inr ⟨g2,cap2,cur2,el,rfl,(VO w g g2 cs' (hother _ hr g2 0 rfl)).trans k1,k2,k3,k4.mono hA⟩
   | many ts=>
    refine ⟨fun p hp=>?_,h0.2⟩
    rcases h0.1 p hp with q|⟨g2,len,cap2,cur,el,q,k1,k2,k3⟩
    ·exact .inl q
    ·exact .inr ⟨g2,len,cap2,cur,el,q,(VO w g g2 cs' (hother _ hr g2 (len*p.2) ⟨p,hp,by rw [q];exact ⟨rfl,X0 _⟩⟩)).trans k1,k2,k3⟩
   | own B m=>
    intro c hc
    obtain ⟨ds,el,k1,k2⟩:=h0 c hc
    exact ⟨ds,el,(VO w g c cs' (hother _ hr c 0 hc)).trans k1,k2⟩
   | row v k ks=>
    rcases h0 with ⟨rfl,h0⟩|⟨g2,len2,cap2,cur2,el,rfl,k1,k2,k3,k4,k5⟩
    ·exact .inl ⟨rfl,h0⟩
    ·exact .inr ⟨g2,len2,cap2,cur2,el,rfl,(VO w g g2 cs' (hother _ hr g2 0 rfl)).trans k1,k2,k3,k4,k5.mono hA⟩
 ·intro r hr c j hf hg
  rcases YN.1 hr with rfl|hr
  ·exact hh.prot _ hmem c j hf hg
  ·exact hh.prot r (Xj _ hr) c j hf hg
 ·intro c j hg
  have:=hh.lt c j hg
  simpa [World.setRow] using this
 ·intro c hc
  by_cases hcb:c=g
  ·subst hcb
   exact .inr ⟨cs,cs',e,(0,0),hb,setRow_heap w c cs cs' e (0,0) hb,XO,fun j hj=>absurd ⟨_,hmem,rfl⟩ hj⟩
  ·exact .inl (VO w g c cs' hcb)
 ·rintro c j _ ⟨r,hr,hf⟩
  rcases YN.1 hr with rfl|hr
  ·exact ⟨_,hmem,hf⟩
  ·exact ⟨r,Xj _ hr,hf⟩
theorem YK.alloc_vec {w:World} {G:Ym} {h:List Res} (hh:YK w G h) (cs:Array Value) (t:TypeId) {ls:List AV} {cap:Nat} (hcap:ls.length<=cap) (XO:cs.size=cap)
  (hls:YT w G ls (cs.toList.take ls.length)) :
  YK (w.alloc (.cells cs t)) G (.vec (.slice (some ⟨w.heap.size,0,none⟩) ls.length cap) ls::h)/\X5 w G h (w.alloc (.cells cs t)) G (.vec (.slice (some ⟨w.heap.size,0,none⟩) ls.length cap) ls::h):=by
 have hA:VY G w (w.alloc (.cells cs t)) G:=⟨fun b j hg=>Ey w _ (hh.lt b j hg),fun _ _ h=>h⟩
 refine hh.alloc (.cells cs t) (h':=[.vec (.slice (some ⟨w.heap.size,0,none⟩) ls.length cap) ls]) (fun _ _ h=>h) (fun _ _ h=>.inl h) ?_ ?_ (Ej _ _) ?_
 ·intro r hr
  rw [Xy.1 hr]
  exact .inr ⟨_,cap,cs,t,rfl,GN w _,hcap,XO,hls.mono hA⟩
 ·intro r hr b j hf
  rw [Xy.1 hr] at hf
  exact hf
 ·intro r hr b j hf hg
  rw [Xy.1 hr] at hf
  have:=hh.lt b j hg
  have:b=w.heap.size:=hf
  omega
theorem Zi6 {w:World} {G:Ym} {h:List Res} (hh:YK w G h):YK w G (.vec (.slice none 0 0) []::h)/\X5 w G h w G (.vec (.slice none 0 0) []::h):=
 ⟨⟨fun r hr=>by
   rcases YN.1 hr with rfl|hr
   ·exact .inl ⟨rfl,rfl⟩
   ·exact hh.ok r hr,Vg.2 ⟨fun _ _ _ _ hf=>hf.elim,hh.apart⟩,fun r hr b o hf hg=>by
   rcases YN.1 hr with rfl|hr
   ·exact hf.elim
   ·exact hh.prot r hr b o hf hg,hh.lt⟩,
  ⟨rfl,rfl,rfl,X0 _,fun _ _ h=>h,fun _ _=>.inl rfl,fun _ _ _ h=>.inl h,fun b o _ ⟨r,hr,hf⟩=>by
   rcases YN.1 hr with rfl|hr
   ·exact hf.elim
   ·exact ⟨r,hr,hf⟩⟩⟩
section
variable {P:Program} {n:Nat} {ops:Array Oper} {B:Fr->List Res->Prop} {k:Nat} {F:Fr} {h h2:List Res}
def DJ (P:Program) (ops:Array Oper) (F:Fr) (k:Nat):Option AV:=
 match (ZV ops k).op with
 | .call c=>match c.callee,c.args.toList,c.argTypes.toList with
  | .builtin .len,[x],[t]=>match P.underlying t with
   | some (.slice _)=>some (F.ev x)
   | _=>none
  | _,_,_=>none
 | _=>none
theorem Cf.form {w:World} {G:Ym} {v:Value} {ls:List AV} (h:Cf w G v ls):∃a cap,v=.slice a ls.length cap:=by
 rcases h with ⟨rfl,rfl⟩|⟨g,cap,cur,e,rfl,_⟩
 ·exact ⟨none,0,rfl⟩
 ·exact ⟨_,cap,rfl⟩
theorem Zhb (j:Nat) {v:Value} {ls:List AV} (hl:DJ P ops F k=some (.val v)) (hj:h[j]? = some (.vec v ls)):XY P (ZV ops k) F h [] (.val (.int .i64 ls.length)):=by
 unfold DJ at hl
 generalize hoo:ZV ops k=o at hl
 obtain ⟨dst,op,type,pos,after,guard⟩:=o
 cases op<;>simp only at hl<;>try (cases hl)
 rename_i c
 obtain ⟨callee,args,tys⟩:=c
 simp only at hl
 split at hl
 ·rename_i x t hargs htys
  split at hl
  ·rename_i el hu
   simp only [Wp] at hl
   intro n w G a hF hh
   have hv:=hF.ev x
   rw [hl] at hv
   have hv:=hv.val_inv
   obtain ⟨ad,cap,rfl⟩:=Cf.form (hh.ok _ (Y3 hj))
   have e1:args=#[x]:=by rw [<-UY (xs:=args),hargs]
   have e2:tys=#[t]:=by rw [<-UY (xs:=tys),htys]
   subst e1;subst e2
   exact ⟨_,.val,fun w' _ _=>by simp [execOp,resolve,invoke,builtin,hv,Builtin.len_,Uq hu,goInt]⟩
  ·cases hl
 ·cases hl
theorem Zha (j:Nat) {v:Value} {ls:List AV} {i:Int} (hi:BJ P ops F k=some (.val v,i,1)) (hj:h[j]? = some (.vec v ls)) (h0:0<=i) (hlt:i<ls.length) :
  XY P (ZV ops k) F h [] (.val (.pointer (some ⟨QN v,i.toNat,none⟩))):=by
 intro n w G a hF hh
 rcases hh.ok _ (Y3 hj) with ⟨rfl,rfl⟩|⟨g,cap,cur,e,rfl,_⟩
 ·simp at hlt;omega
 ·have:=Z17 (P:=P) (F:=F) (h:=h) hi h0 hlt n w G a hF hh
  simpa [QN,Value.ownBlock] using this
def M4 (P:Program) (ops:Array Oper) (F:Fr) (k:Nat):Option AV:=
 match (ZV ops k).op with
 | .load t x=>match DH P t with
  | some false=>some (F.ev x)
  | _=>none
 | _=>none
theorem Zhc (j:Nat) {v:Value} {ls:List AV} {i:Nat} {y:AV} (hl:M4 P ops F k=some (.val (.pointer (some ⟨QN v,i,none⟩)))) (hj:h[j]? = some (.vec v ls)) (hy:ls[i]? = some y) :
  XY P (ZV ops k) F h [QN v] y:=by
 unfold M4 at hl
 generalize hoo:ZV ops k=o at hl
 obtain ⟨dst,op,type,pos,after,guard⟩:=o
 cases op<;>simp only at hl<;>try (cases hl)
 rename_i t x
 split at hl
 ·rename_i hagg
  simp only [Wp] at hl
  intro n w G a hF hh
  have hv:=hF.ev x
  rw [hl] at hv
  have hv:=hv.val_inv
  have hlt:i<ls.length:=(Xh.1 hy).1
  rcases hh.ok _ (Y3 hj) with ⟨rfl,rfl⟩|⟨g,cap,cur,e,rfl,h1,h2,h3,h4⟩
  ·simp at hlt
  ·obtain ⟨c,c1,c2⟩:=h4.get i y hy
   refine ⟨c,c2,fun w' _ hw=>?_⟩
   have hrow:=hw (QN (.slice (some ⟨g,0,none⟩) ls.length cap)) (by simp)
   simp only [QN,Value.ownBlock,Option.getD_some] at hrow hv
   rw [h1] at hrow
   have hc:cur[i]? = some c:=by
    rw [Qt,Zk hlt] at c1
    simpa using c1
   simp only [execOp,hv]
   refine VF ?_
   simp only [Instr.loadAt,Instr.sureAddr,Sem.run_bind,Sem.run_pure,Result.andThen_ok,loadVar,Fy hagg]
   have:=cell_of_row w' g i cur e (0,0) hrow
   rw [hc] at this
   simp [load,Sem.run,this]
 ·cases hl
theorem RK {K:Fr->List Res->Prop} {v:Value} {ls:List AV} {i:Nat} {y:AV} (hs:storeAt P ops F k=some (QN v,i,[y])) (hlt:i<ls.length)
  (hK:K F (.vec v (ls.set i y)::h2)):WO P n (ZV ops k) F (.vec v ls::h2) K:=by
 unfold storeAt at hs
 generalize hoo:ZV ops k=q at hs
 obtain ⟨dst,op,type,pos,after,guard⟩:=q
 cases op<;>simp only at hs<;>try (cases hs)
 rename_i t x z
 split at hs
 ·rename_i b' o' inf hx hi
  split at hs
  ·rename_i hc
   simp only [Xb] at hc
   simp only [Wp,Prod.mk.injEq] at hs
   obtain ⟨rfl,rfl,hz⟩:=hs
   intro Q w G a hF hh
   have hvx:=hF.ev x
   rw [hx] at hvx
   have hvx:=hvx.val_inv
   have hvy:=hF.ev z
   have hcs:=hvy.cells hc.2.1
   rw [hz] at hcs hc
   have hone:=hcs.one_cells hc.2.2
   have XO:inf.size=1:=T1 hc.1
   have hlen:(a.eval z).cells.size=1:=by have:=hcs.length;simpa using this
   rcases hh.ok (.vec v ls) (Xa ..) with ⟨rfl,rfl⟩|⟨g,cap,cur,e,rfl,h1,h3,h4,h5⟩
   ·simp at hlt
   ·simp only [QN,Value.ownBlock,Option.getD_some] at hvx
    have hst:=run_storeCells_at P g o' e (a.eval z).cells.toList 0 cur w h1 (by simp [hlen];omega) hone
    simp only [Cb,JT] at hst
    have hr:(execOp a.eval { dst:=none,op:=.store t x z,type:=type,pos:=pos,after:=after,guard:=guard }).run P w =
      .ok .skip (w.setRow g (cur.toList.take o'++(a.eval z).cells.toList++cur.toList.drop (o'+(a.eval z).cells.size)).toArray):=by
     simp only [execOp,hvx]
     simp [Instr.storeAt,Instr.sureAddr,storeVar,Qq hi,hlen,XO,hst]
    unfold Oper.wp
    rw [hr]
    have hset:ls.set o' y=ls.take o'++[y]++ls.drop (o'+1):=(Z06 ls o' y hlt).symm
    obtain ⟨j1,j2⟩:=hh.vwrite (ls':=ls.set o' y) (n':=ls.length) (cs':=(cur.toList.take o'++(a.eval z).cells.toList++cur.toList.drop (o'+(a.eval z).cells.size)).toArray) h1
     (by simp [hlen];omega) (by simp) (by simpa using h3) h4 (by
      obtain ⟨c,Z9⟩:∃c,(a.eval z).cells.toList=[c]:=by
       have:=hcs.length
       cases hq:(a.eval z).cells.toList with
       | nil=>rw [hq] at this;simp at this
       | cons c r=>cases r with
        | nil=>exact ⟨c,rfl⟩
        | cons _ _=>rw [hq] at this;simp at this
      rw [Z9] at hcs
      have hlt':o'<cur.toList.length:=by simp [h4];omega
      rw [FT,Z9,hlen,Z06 cur.toList o' c hlt',VQ,List.take_set]
      cases hcs with
      | cons hcc _=>exact h5.set o' hcc)
    refine ⟨F,_,G,hK,?_,j1,j2⟩
    have:=hF.mono (j2.agree hh)
    simpa [Act.put] using this
  ·cases hs
 ·cases hs
theorem Zcs {K:Fr->List Res->Prop} {v:Value} {ls xs:List AV} {hx:Option Value} (hd:VS n (ZV ops k)=true) (ha:TO P ops F k=some (.val v,.sl xs hx,1))
  (hxs:∀y∈xs,y.leaves=[y]) (hone:xs.all AV.one=true) (hbound:ls.length+xs.length<=4294967296)
  (hK:∀v',K (F.put (ZV ops k).dst (.val v')) (.vec v' (ls++xs)::h2)):WO P n (ZV ops k) F (.vec v ls::h2) K:=by
 unfold TO at ha
 generalize hoo:ZV ops k=o at ha hd hK
 obtain ⟨dst,op,type,pos,after,guard⟩:=o
 cases op<;>simp only at ha<;>try (cases ha)
 rename_i c
 obtain ⟨callee,args,tys⟩:=c
 simp only at ha
 split at ha
 case h_2=>cases ha
 rename_i s x t t' hargs htys
 split at ha
 case h_2=>cases ha
 rename_i e htt ht
 have:=T1 htt
 subst this
 split at ha
 case h_2=>cases ha
 rename_i i hinfo
 split at ha
 case h_2=>cases ha
 rename_i z hz
 split at ha
 case h_2=>cases ha
 rename_i hb
 simp only [Xb] at hb
 simp only [Wp,Prod.mk.injEq] at ha
 obtain ⟨h3,h4,hk1⟩:=ha
 have e1:args=#[s,x]:=by rw [<-UY (xs:=args),hargs]
 have e2:tys=#[t,t]:=by rw [<-UY (xs:=tys),htys]
 subst e1;subst e2
 have hzs:z.cells.size=1:=by rw [T1 hb.1,hk1]
 have hby:=Vb hb.2
 have hflat:Zg xs=xs:=by
  clear hone hbound hK h4
  induction xs with
  | nil=>rfl
  | cons y r ih=>simp only [Zg,C8,hxs y (by simp),List.singleton_append];rw [show r.flatMap AV.leaves=Zg r from rfl,ih fun q hq=>hxs q (by simp [hq])]
 have hlen1:∀y∈xs,y.leaves.length=1:=fun y hy=>by rw [hxs y hy];rfl
 intro Q w G a hF hh
 have v1:=hF.ev s
 have v2:=hF.ev x
 rw [h3] at v1
 rw [h4] at v2
 have v1:=v1.val_inv
 have v2:=v2.forget
 have finish:∀v' w',(Builtin.append_ #[t,t] type #[v,a.eval x]).run P w=.ok v' w'->YK w' G (.vec v' (ls++xs)::h2)->X5 w G (.vec v ls::h2) w' G (.vec v' (ls++xs)::h2) ->
   ({ dst:=dst,op:=.call { callee:=.builtin .append,args:=#[s,x],argTypes:=#[t,t] },type:=type,pos:=pos,after:=after,guard:=guard }:Oper).wp P a w
    (fun a' w'=>∃F' h' G',K F' h'/\FR w' G' n F' a'/\YK w' G' h'/\X5 w G (.vec v ls::h2) w' G' h') Q:=by
  intro v' w' hr j1 j2
  have hrun:(execOp a.eval { dst:=dst,op:=.call { callee:=.builtin .append,args:=#[s,x],argTypes:=#[t,t] },type:=type,pos:=pos,after:=after,guard:=guard }).run P w=.ok (.value v') w':=by
   simp only [execOp,resolve,invoke,builtin,Sem.run_bind,Sem.run_pure,Result.andThen_ok,FP,Tk,FM,v1,hr]
  unfold Oper.wp
  rw [hrun]
  exact ⟨_,_,G,hK v',(hF.mono (j2.agree hh)).put (TQ hd) .val,j1,j2⟩
 have hvec:=hh.ok (.vec v ls) (Xa ..)
 have hsub2:∀r:Res,List.Sublist (r::h2) (r::.vec v ls::h2):=fun r=>List.Sublist.cons_cons _ (Ca _ _)
 have grown:∀(olds news:List Value) (old:Nat),YT w G ls olds->YT w G xs news ->
   YK (w.drew.alloc (.cells (olds.toArray++news.toArray++Builtin.zeroCells z.cells (grownCap w (ls.length+xs.length) old e-(ls.length+xs.length))) e)) G
    (.vec (.slice (some ⟨w.heap.size,0,none⟩) (ls.length+xs.length) (grownCap w (ls.length+xs.length) old e)) (ls++xs)::h2) /\
   X5 w G (.vec v ls::h2) (w.drew.alloc (.cells (olds.toArray++news.toArray++Builtin.zeroCells z.cells (grownCap w (ls.length+xs.length) old e-(ls.length+xs.length))) e)) G
    (.vec (.slice (some ⟨w.heap.size,0,none⟩) (ls.length+xs.length) (grownCap w (ls.length+xs.length) old e)) (ls++xs)::h2):=by
  intro olds news old ho hn
  have Xk:=grownCap_ge w (ls.length+xs.length) old e
  have hol:=ho.length
  have hnl:=hn.length
  obtain ⟨j1,j2⟩:=hh.drew.alloc_vec (olds.toArray++news.toArray++Builtin.zeroCells z.cells (grownCap w (ls.length+xs.length) old e-(ls.length+xs.length))) e
   (ls:=ls++xs) (cap:=grownCap w (ls.length+xs.length) old e) (by simpa using Xk)
   (by simp only [Array.size_append,FQ,size_zeroCells,hzs,hol,hnl,AE];omega)
   (by
    have:(olds.toArray++news.toArray++Builtin.zeroCells z.cells (grownCap w (ls.length+xs.length) old e-(ls.length+xs.length))).toList.take (ls++xs).length=olds++news:=by
     simp only [I8,ZX]
     rw [<-hol,<-hnl,<-ZX]
     exact Jn
    rw [this]
    exact (ho.append hn).mono (Br w G))
  rw [ZX] at j1 j2
  exact ⟨j1.sub (hsub2 _),(X5.drew w G _).trans (j2.sub' (hsub2 _))⟩
 by_cases hxe:xs=[]
 ·subst hxe
  obtain ⟨ad,cap,hform⟩:=Cf.form hvec
  have hle:ls.length<=cap:=by
   rcases hvec with ⟨rfl,rfl⟩|⟨g,cap',cur,el,rfl,_,hc,_⟩
   ·simp
   ·cases hform;exact hc
  subst hform
  cases v2q:a.eval x with
  | slice ad' l' c'=>
   rw [v2q] at v2
   cases v2<;>exact finish _ _ (by rw [v2q];exact E4 ht hinfo hle w) (by simpa using hh) (by simpa using X5.refl w G _)
  | _=>rw [v2q] at v2;cases v2
 ·generalize hax:a.eval x=ax at v2 finish
  cases v2 with
  | nil _=>exact absurd rfl hxe
  | sl hq hcc hm=>
   rename_i b o' k' c
   have hpos:0<xs.length:=C9.2 hxe
   have hfm:=hm.flat_mem
   rw [hflat] at hfm
   obtain ⟨news,hn,hnc⟩:=hfm.cells
   have hnl:news.length=xs.length*i.size:=by rw [hn.length,hk1,AE]
   have hone':=hn.one_cells hone
   have hnews:∀j u,news[j]? = some u->w.cell? ((⟨b,o',none⟩:Addr).add j)=some u:=fun j u hj=>by rw [Jq];exact (hnc j u hj).1
   have hbb:(ls.length+xs.length)*i.bytes<=140737488355328:=by
    have:=Nat.mul_le_mul hbound hby
    omega
   rcases hvec with ⟨rfl,rfl⟩|⟨g,cap,cur,el,rfl,hrow,hlc,hcur,hcells⟩
   ·have hr:=run_append_nil (P:=P) w t type e i z ht hinfo hz ⟨b,o',none⟩ xs.length c news hnl hnews hpos (by simp at hbound;omega) (by simp at hbb;omega)
    obtain ⟨j1,j2⟩:=grown [] news 0 .nil hn
    simp only [YC,Wj,Array.empty_append,Jm] at j1 j2
    exact finish _ _ hr (by simpa using j1) (by simpa using j2)
   ·by_cases hroom:ls.length+xs.length<=cap
    ·have hfit:ls.length*i.size+news.length<=cur.size:=by rw [hnl,hcur,hk1];omega
     have hr:=Ms (P:=P) w t type e el i ht hinfo g ls.length cap cur hrow ⟨b,o',none⟩ xs.length c news hnl hnews hone' hroom hfit
     rw [hk1,AE] at hr
     have hnl':news.length=xs.length:=by rw [hnl,hk1,AE]
     obtain ⟨j1,j2⟩:=hh.vwrite (ls':=ls++xs) (n':=ls.length+xs.length) (cs':=(cur.toList.take ls.length++news++cur.toList.drop (ls.length+news.length)).toArray) hrow
      (by simp [hnl',hcur];omega) (by simp) (by simpa using hroom) hcur (by
       have h1:(cur.toList.take ls.length).length=ls.length:=by simp [hcur];omega
       have:(cur.toList.take ls.length++news++cur.toList.drop (ls.length+news.length)).toArray.toList.take (ls++xs).length=cur.toList.take ls.length++news:=by
        rw [FT,ZX,<-hnl']
        conv=>lhs;arg 1;rw [show ls.length+news.length=(cur.toList.take ls.length++news).length from by rw [ZX,h1]]
        exact Jn
       rw [this]
       exact hcells.append hn)
     exact finish _ _ hr j1 j2
    ·have hr:=run_append_grow (P:=P) w t type e i z ht hinfo hz ⟨g,0,none⟩ ls.length cap (cur.toList.take ls.length) (by rw [hk1];simp [hcur];omega) (fun j u hj=>by
      rw [Jq,cell_of_row w g _ cur el (0,0) hrow]
      rw [Qt] at hj
      split at hj
      ·simpa using hj
      ·cases hj) ⟨b,o',none⟩ xs.length c news hnl hnews om om (growslice_fits om hbb)
     obtain ⟨j1,j2⟩:=grown (cur.toList.take ls.length) news cap hcells hn
     exact finish _ _ hr j1 j2
end
inductive KQ (h:List Res):AV->Prop
 | val {v}:KQ h (.val v)
 | any:KQ h .any
 | nil {hv}:KQ h (.sl [] hv)
 | own {es:List AV} {v:Value} {k:Nat} (he:∀y∈es,∃u,y=.val u) (ht:Res.tail v k∈h):KQ h (.sl es (some v))
 | tup {vs:List AV} (hv:∀y∈vs,KQ h y):KQ h (.tup vs)
 | agg {vs:List AV} (hv:∀y∈vs,KQ h y):KQ h (.agg vs)
def FX:Res->Prop
 | .obj _ ls=>∀y∈ls,∃u,y=.val u
 | .vec _ ls=>∀y∈ls,∃u,y=.val u
 | .row _ _ ls=>∀y∈ls,∃u,y=.val u
 | _=>True
theorem YT.vals {w w':World} {G G':Ym}:∀{xs:List AV} {vs:List Value},(∀y∈xs,∃u,y=.val u)->YT w G xs vs->YT w' G' xs vs
 | _,_,_,.nil=>.nil
 | x::_,_::_,hv,.cons h t=>by
  obtain ⟨u,rfl⟩:=hv x (Xa ..)
  have:=h.val_inv
  subst this
  exact .cons .val (t.vals fun y hy=>hv y (Xj _ hy))
theorem Rl {w:World} {G G':Ym} {b:Nat} (hG:∀o,G b o->G' b o):∀{o:Nat} {xs:List AV},(∀y∈xs,∃u,y=.val u)->Wv w G b o xs->Wv w G' b o xs
 | _,_,_,.nil=>.nil
 | _,x::_,hv,.cons hc hg h t=>by
  obtain ⟨u,rfl⟩:=hv x (Xa ..)
  have:=h.val_inv
  subst this
  exact .cons hc (hG _ hg) .val (Rl hG (fun y hy=>hv y (Xj _ hy)) t)
theorem O8 {w:World} {G G':Ym} {b k:Nat} (hG:∀o,G b o->G' b o):∀{o:Nat} {xs:List AV},(∀y∈xs,∃u,y=.val u)->Vh w G k b o xs->Vh w G' k b o xs
 | _,_,_,.nil=>.nil
 | _,x::_,hv,.cons hl h t=>by
  obtain ⟨u,rfl⟩:=hv x (Xa ..)
  refine .cons hl (Rl hG (fun y hy=>?_) h) (O8 hG (fun y hy=>hv y (Xj _ hy)) t)
  simp [AV.leaves] at hy
  exact ⟨u,hy⟩
theorem YT.clean {w:World} {G G':Ym} (P:AV->Prop) (hP:∀x v,P x->RV w G x v->RV w G' x v):∀{xs:List AV} {vs:List Value},(∀y∈xs,P y)->YT w G xs vs->YT w G' xs vs
 | _,_,_,.nil=>.nil
 | x::_,_::_,hv,.cons h t=>.cons (hP _ _ (hv x (Xa ..)) h) (t.clean P hP fun y hy=>hv y (Xj _ hy))
theorem RV.clean {w:World} {G G':Ym} {h:List Res} (hG:∀v k g,Res.tail v k∈h->v.ownBlock=some g->∀o,G g o->G' g o) {r:AV} (hc:KQ h r):∀{v:Value},RV w G r v->RV w G' r v:=by
 induction hc with
 | val=>intro v hv;cases hv;exact .val
 | any=>intro v hv;exact .any
 | nil=>
  intro v hv
  cases hv with
  | nil hq=>exact .nil hq
  | sl hq hc hm=>exact .sl (k:=0) hq hc .nil
 | own he ht=>
  intro v hv
  cases hv with
  | nil hq=>exact .nil hq
  | sl hq hc hm=>
   have e:=hq _ rfl
   exact .sl hq hc (O8 (fun o hg=>hG _ _ _ ht (by rw [e];rfl) o hg) he hm)
 | tup hv ih=>
  intro v hvv
  cases hvv with
  | tup hc=>exact .tup (hc.clean (fun x=>∀{v:Value},RV w G x v->RV w G' x v) (fun x v hp hx=>hp hx) ih)
 | agg hv ih=>
  intro v hvv
  cases hvv with
  | agg hc=>exact .agg (hc.clean (fun x=>∀{v:Value},RV w G x v->RV w G' x v) (fun x v hp hx=>hp hx) ih)
theorem YK.lend {w:World} {G:Ym}:∀{bs h:List Res},(∀r∈bs,∃v ls,r=.vec v ls/\∀y∈ls,∃u,y=.val u)->YK w G (h++bs) ->
  ∃Gb:Ym,(∀b o,G b o->Gb b o)/\(∀b o,Gb b o->G b o∨Vu bs b o)/\YK w Gb h /\
   (∀v ls,Res.vec v ls∈bs->∀m,m<=ls.length->RV w Gb (.sl (ls.take m) none) (Az v m)/\RV w Gb (.sl ls none) v):=by
 intro bs h hb hh
 let Gb:Ym:=fun b o=>G b o∨∃v ls,Res.vec v ls∈bs/\v.ownBlock=some b/\o<ls.length
 have hsub:∀b o,G b o->Gb b o:=fun _ _ h=>.inl h
 have hfp:∀b o,Gb b o->G b o∨Vu bs b o:=fun b o hg=>hg.imp id fun ⟨v,ls,hm,ho,_⟩=>⟨_,hm,by
  cases v with
  | slice a l c=>cases a with
   | none=>simp [Value.ownBlock] at ho
   | some a=>simp only [Value.ownBlock,Wp] at ho;exact ho.symm
  | _=>simp [Value.ownBlock] at ho⟩
 have hA:VY G w w Gb:=⟨fun _ _ _=>rfl,hsub⟩
 refine ⟨Gb,hsub,hfp,⟨fun r hr=>?_,hh.left.apart,fun r hr b o hf hg=>?_,fun b o hg=>?_⟩,fun v ls hm m hmle=>?_⟩
 ·have h0:=hh.ok r (Xl.2 (.inl hr))
  cases r with
  | obj b ls=>obtain ⟨cs,e,h1,h2⟩:=h0;exact ⟨cs,e,h1,h2.mono hA⟩
  | tail v k=>exact h0
  | ge s=>exact h0
  | vec v ls=>
   rcases h0 with ⟨rfl,h0⟩|⟨g,cap,cur,el,rfl,h1,h2,h3,h4⟩
   ·exact .inl ⟨rfl,h0⟩
   ·exact .inr ⟨g,cap,cur,el,rfl,h1,h2,h3,h4.mono hA⟩
  | many ts=>exact h0
  | own B m=>exact h0
  | row v k ls=>
   rcases h0 with ⟨rfl,h0⟩|⟨g,len,cap,cur,el,rfl,h1,h2,h3,h4,h5⟩
   ·exact .inl ⟨rfl,h0⟩
   ·exact .inr ⟨g,len,cap,cur,el,rfl,h1,h2,h3,h4,h5.mono hA⟩
 ·rcases hfp b o hg with h1|h1
  ·exact hh.prot r (Xl.2 (.inl hr)) b o hf h1
  ·exact hh.cross ⟨r,hr,hf⟩ h1
 ·rcases hfp b o hg with h1|⟨r,hr,hf⟩
  ·exact hh.lt b o h1
  ·exact (hh.ok r (Xl.2 (.inr hr))).lt b o hf
 ·have h0:=hh.ok _ (Xl.2 (.inr hm))
  obtain ⟨v',ls',e,hval⟩:=hb _ hm
  cases e
  rcases h0 with ⟨rfl,rfl⟩|⟨g,cap,cur,el,rfl,h1,h2,h3,h4⟩
  ·have:m=0:=by simpa using hmle
   subst this
   exact ⟨.nil (by simp),.nil (by simp)⟩
  ·have hmem:Wv w Gb g 0 ls:=by
    refine Wv.of_cells (h4.mono hA) fun j u hj=>?_
    have hjl:j<ls.length:=by
     have:=(Xh.1 hj).1
     have h5:=h4.length
     omega
    rw [Qt,Zk hjl] at hj
    refine ⟨?_,.inr ⟨_,_,hm,rfl,by omega⟩⟩
    rw [Wj,cell_of_row w g j cur el (0,0) h1]
    simpa using hj
   have hels:∀(l:List AV),(∀y∈l,∃u,y=.val u)->Zg l=l:=by
    intro l
    induction l with
    | nil=>intro _;rfl
    | cons y r ih=>
     intro hy
     obtain ⟨u,rfl⟩:=hy y (Xa ..)
     simp only [Zg,C8,AV.leaves,List.singleton_append]
     rw [show r.flatMap AV.leaves=Zg r from rfl,ih fun z hz=>hy z (Xj _ hz)]
   have hE:Vh w Gb 1 g 0 ls:=Vh.of_flat ls (fun y hy=>by obtain ⟨u,rfl⟩:=hval y hy;rfl) (by rw [hels ls hval];exact hmem)
   refine ⟨?_,.sl (by simp) h2 hE⟩
   have hl:(ls.take m).length=m:=by simp [hmle]
   show RV w Gb (.sl (ls.take m) none) (.slice (some ⟨g,0,none⟩) m cap)
   conv=>arg 4;rw [<-hl]
   exact .sl (by simp) om (hE.take m)
inductive TK (bs:List Res):List AV->List AV->Prop
 | nil:TK bs [] []
 | same {x as1 xs} (t:TK bs as1 xs):TK bs (x::as1) (x::xs)
 | lent {v ls as1 xs} (h:Res.vec v ls∈bs) (t:TK bs as1 xs):TK bs (.val v::as1) (.sl ls none::xs)
 | cut {v ls m as1 xs} (h:Res.vec v ls∈bs) (hm:m<=ls.length) (t:TK bs as1 xs):TK bs (.val (Az v m)::as1) (.sl (ls.take m) none::xs)
theorem TK.rcs {w:World} {G Gb:Ym} {bs:List Res} (hA:VY G w w Gb)
  (hb:∀v ls,Res.vec v ls∈bs->∀m,m<=ls.length->RV w Gb (.sl (ls.take m) none) (Az v m)/\RV w Gb (.sl ls none) v) :
  ∀{as1 xs:List AV} {vs:List Value},TK bs as1 xs->YT w G as1 vs->YT w Gb xs vs
 | _,_,_,.nil,.nil=>.nil
 | _,_,_,.same t,.cons h r=>.cons (h.mono hA) (t.rcs hA hb r)
 | _,_,_,.lent hm t,.cons h r=>by
  have:=h.val_inv
  subst this
  exact .cons (hb _ _ hm 0 (Q9 _)).2 (t.rcs hA hb r)
 | _,_,_,.cut hm hle t,.cons h r=>by
  have:=h.val_inv
  subst this
  exact .cons (hb _ _ hm _ hle).1 (t.rcs hA hb r)
theorem WZ.lend {P:Program} {f:FuncId} {as1 xs:List AV} {h1:List Res} (bs:List Res) {R:AV->List Res->Prop} (H:WZ P f xs h1 R) (hargs:TK bs as1 xs)
  (hb:∀r∈bs,∃v ls,r=.vec v ls/\∀y∈ls,∃u,y=.val u) (hclean:∀r h',R r h'->KQ h' r/\∀q∈h',FX q) :
  WZ P f as1 (h1++bs) (fun r h'=>∃h1',R r h1'/\h'=h1'++bs):=by
 intro w G vs hvs hh
 obtain ⟨Gb,g1,g2,g3,g4⟩:=YK.lend hb hh
 have hA:VY G w w Gb:=⟨fun _ _ _=>rfl,g1⟩
 refine (H w Gb vs (hargs.rcs hA g4 hvs) g3).mono ?_
 rintro e w' ⟨v,r,h',G',rfl,hR,hv,hh',hx⟩
 obtain ⟨c1,c2⟩:=hclean r h' hR
 let G2:Ym:=fun b o=>G' b o/\¬(Vu bs b o)
 have hbslt:∀b o,Vu bs b o->b<w.heap.size:=fun b o ⟨q,hq,hf⟩=>(hh.ok q (Xl.2 (.inr hq))).lt b o hf
 have hwhole:∀b o o',Vu bs b o->Vu bs b o':=fun b o o' ⟨q,hq,hf⟩=>⟨q,hq,by
  obtain ⟨v,ls,rfl,_⟩:=hb q hq
  cases v with
  | slice a l c=>cases a with
   | none=>exact hf.elim
   | some a=>exact hf
  | _=>exact hf.elim⟩
 have hGkeep:∀b o,G b o->G2 b o:=fun b o hg=>⟨hx.sub b o (g1 b o hg),fun ⟨q,hq,hf⟩=>hh.prot q (Xl.2 (.inr hq)) b o hf hg⟩
 have hnew:∀v k g,Res.tail v k∈h'->v.ownBlock=some g->∀o,G' g o->G2 g o:=by
  intro v k g hm hg o hgo
  refine ⟨hgo,fun hf=>?_⟩
  have hlt:=hbslt _ _ hf
  rcases hh'.ok _ hm with rfl|⟨g',len,cap,cur,el,rfl,t1,t2,t3⟩
  ·simp [Value.ownBlock] at hg
  ·simp only [Value.ownBlock,Wp] at hg
   subst hg
   have hfp:Vu h' g' (len*k):=⟨_,hm,rfl,X0 _⟩
   exact hh.cross (hx.newfp g' (len*k) hlt hfp) (hwhole _ _ _ hf)
 have e1:X5 w G h1 w' G2 h':=⟨hx.os,hx.tape,hx.output,hx.size,hGkeep,hx.same,fun b o hb' hg=>by
  rcases hx.newG b o hb' hg.1 with h|h
  ·rcases g2 b o h with h|h
   ·exact .inl h
   ·exact absurd h hg.2
  ·exact .inr h,hx.newfp⟩
 have e2:YK w' G2 h':=⟨fun q hq=>by
   have h0:=hh'.ok q hq
   have hcq:=c2 q hq
   cases q with
   | obj b ls=>obtain ⟨cs,el,k1,k2⟩:=h0;exact ⟨cs,el,k1,k2.vals hcq⟩
   | tail v k=>exact h0
   | ge s=>exact h0
   | vec v ls=>
    rcases h0 with ⟨rfl,h0⟩|⟨g,cap,cur,el,rfl,k1,k2,k3,k4⟩
    ·exact .inl ⟨rfl,h0⟩
    ·exact .inr ⟨g,cap,cur,el,rfl,k1,k2,k3,k4.vals hcq⟩
   | many ts=>exact h0
   | own B m=>exact h0
   | row v k ls=>
    rcases h0 with ⟨rfl,h0⟩|⟨g,len,cap,cur,el,rfl,k1,k2,k3,k4,k5⟩
    ·exact .inl ⟨rfl,h0⟩
    ·exact .inr ⟨g,len,cap,cur,el,rfl,k1,k2,k3,k4,k5.vals hcq⟩,hh'.apart,fun q hq b o hf hg=>hh'.prot q hq b o hf hg.1,fun b o hg=>hh'.lt b o hg.1⟩
 obtain ⟨f1,f2⟩:=hh.frame e1 e2
 exact ⟨v,r,h'++bs,G2,rfl,⟨h',hR,rfl⟩,RV.clean hnew c1 hv,f1,f2⟩
section
variable {P:Program} {n:Nat} {ops:Array Oper} {B:Fr->List Res->Prop} {k:Nat} {F:Fr} {h h2:List Res}
def E6 (P:Program) (ops:Array Oper) (F:Fr) (k:Nat):Option (AV × Int):=
 match (ZV ops k).op with
 | .slice t x none (some hi) none=>match P.underlying t with
  | some (.slice e)=>match P.info? e with
   | some _=>match F.ev hi with
    | .val (.int _ m)=>some (F.ev x,m)
    | _=>none
   | none=>none
  | _=>none
 | _=>none
theorem Zhd (j:Nat) {v:Value} {ls:List AV} {m:Nat} (hi:E6 P ops F k=some (.val v,(m:Int))) (hj:h[j]? = some (.vec v ls)) (hle:m<=ls.length) :
  XY P (ZV ops k) F h [] (.val (Az v m)):=by
 unfold E6 at hi
 generalize hoo:ZV ops k=o at hi
 obtain ⟨dst,op,type,pos,after,guard⟩:=o
 cases op<;>simp only at hi<;>try (cases hi)
 rename_i t x lo hi' mx
 cases lo with
 | some _=>simp at hi
 | none=>
  cases hi' with
  | none=>simp at hi
  | some y=>
   cases mx with
   | some _=>simp at hi
   | none=>
    simp only at hi
    split at hi
    ·rename_i e ht
     split at hi
     ·rename_i inf hinf
      split at hi
      ·rename_i ik m' hm
       simp only [Wp,Prod.mk.injEq] at hi
       obtain ⟨hx,rfl⟩:=hi
       intro n w G a hF hh
       have v1:=hF.ev x
       rw [hx] at v1
       have v1:=v1.val_inv
       have v2:=hF.ev y
       rw [hm] at v2
       have v2:=v2.val_inv
       have hvec:=hh.ok _ (Y3 hj)
       obtain ⟨ad,cap,hform⟩:=Cf.form hvec
       have hcap:ls.length<=cap:=by
        rcases hvec with ⟨rfl,rfl⟩|⟨g,cap',cur,el,rfl,_,hc,_⟩
        ·simp
        ·cases hform;exact hc
       subst hform
       refine ⟨_,.val,fun w' _ _=>?_⟩
       have Zc:=fun c=>Fz (P:=P) (c:=c) (v:=.int ik (m:Int)) (y:=cap) rfl om om w'
       simp only [execOp,v1,v2,FV,Option.map_none]
       refine VF ?_
       simp only [Instr.sliceAt,Sem.run_bind,Uq ht,Result.andThen_ok,Instr.slice]
       have hmm:(Instr.sliceBounds true ls.length cap none (some (.int ik (m:Int))) none).run P w'=.ok (0,m,cap) w':=by simp [Instr.sliceBounds,Zc]
       rw [hmm]
       have hz:∀a:Addr,a.add 0=a:=fun a=>by simp [Addr.add]
       simp only [Result.andThen_ok,Qq hinf,Nat.zero_mul,hz,Az]
       simp
      ·cases hi
     ·cases hi
    ·cases hi
theorem Zi8 {w:World} {G:Ym} {v:Value} {ls:List AV} {m:Nat} (hh:YK w G (.vec v ls::h2)) (hle:m<=ls.length) :
  YK w G (.vec (Az v m) (ls.take m)::h2)/\X5 w G (.vec v ls::h2) w G (.vec (Az v m) (ls.take m)::h2):=by
 have hpw:=Vg.1 hh.apart
 have hfp:∀b o,Res.fp (.vec (Az v m) (ls.take m)) b o->Res.fp (.vec v ls) b o:=by
  intro b o hf
  cases v with
  | slice a l c=>cases a with
   | none=>exact hf.elim
   | some a=>exact hf
  | _=>exact hf
 refine ⟨⟨fun r hr=>?_,Vg.2 ⟨fun r hr b o h1 h2=>hpw.1 r hr b o (hfp b o h1) h2,hpw.2⟩,fun r hr b o hf hg=>?_,hh.lt⟩,⟨rfl,rfl,rfl,X0 _,fun _ _ h=>h,fun _ _=>.inl rfl,fun _ _ _ h=>.inl h,?_⟩⟩
 ·rcases YN.1 hr with rfl|hr
  ·rcases hh.ok _ (Xa ..) with ⟨rfl,rfl⟩|⟨g,cap,cur,e,rfl,h1,h3,h4,h5⟩
   ·have:m=0:=by simpa using hle
    subst this
    exact .inl ⟨rfl,rfl⟩
   ·refine .inr ⟨g,cap,cur,e,by simp [Az,hle],h1,by simp;omega,h4,?_⟩
    have:=h5.take m
    rw [List.take_take,Uc hle] at this
    simpa [hle] using this
  ·exact hh.ok r (Xj _ hr)
 ·rcases YN.1 hr with rfl|hr
  ·exact hh.prot _ (Xa ..) b o (hfp b o hf) hg
  ·exact hh.prot r (Xj _ hr) b o hf hg
 ·rintro b o _ ⟨r,hr,hf⟩
  rcases YN.1 hr with rfl|hr
  ·exact ⟨_,Xa ..,hfp b o hf⟩
  ·exact ⟨r,Xj _ hr,hf⟩
theorem Zi5 {w:World} {G:Ym} {v:Value} {ls:List AV} (hh:YK w G (.vec v ls::h2)) (hls:∀y∈ls,y.leaves=[y]) :
  ∃G',YK w G' (.tail v 1::h2)/\X5 w G (.vec v ls::h2) w G' (.tail v 1::h2)/\RV w G' (.sl ls (some v)) v:=by
 have hpw:=Vg.1 hh.apart
 rcases hh.ok _ (Xa ..) with ⟨rfl,rfl⟩|⟨g,cap,cur,e,rfl,h1,h3,h4,h5⟩
 ·obtain ⟨k1,k2⟩:=HT (sz:=1) (hh.sub (Ca _ _))
  refine ⟨G,k1,⟨rfl,rfl,rfl,X0 _,fun _ _ h=>h,fun _ _=>.inl rfl,fun _ _ _ h=>.inl h,?_⟩,.nil (by simp)⟩
  rintro b o _ ⟨r,hr,hf⟩
  rcases YN.1 hr with rfl|hr
  ·exact hf.elim
  ·exact ⟨r,Xj _ hr,hf⟩
 ·let G':Ym:=fun b o=>G b o∨(b=g/\o<ls.length)
  have hA:VY G w w G':=⟨fun _ _ _=>rfl,fun _ _ h=>.inl h⟩
  have hmem:Res.vec (.slice (some ⟨g,0,none⟩) ls.length cap) ls∈Res.vec (.slice (some ⟨g,0,none⟩) ls.length cap) ls::h2:=Xa ..
  refine ⟨G',⟨fun r hr=>?_,Vg.2 ⟨fun r hr b o f1 f2=>hpw.1 r hr b o f1.1 f2,hpw.2⟩,fun r hr b o hf hg=>?_,fun b o hg=>?_⟩,
   ⟨rfl,rfl,rfl,X0 _,fun _ _ h=>.inl h,fun _ _=>.inl rfl,fun b o _ hg=>hg.imp id fun ⟨e1,_⟩=>⟨_,hmem,e1⟩,?_⟩,?_⟩
  ·rcases YN.1 hr with rfl|hr
   ·exact .inr ⟨g,ls.length,cap,cur,e,rfl,h1,h3,by rw [h4,AE]⟩
   ·have h0:=hh.ok r (Xj _ hr)
    cases r with
    | obj b ks=>obtain ⟨cs,el,k1,k2⟩:=h0;exact ⟨cs,el,k1,k2.mono hA⟩
    | tail v k=>exact h0
    | ge s=>exact h0
    | vec v ks=>
     rcases h0 with ⟨rfl,h0⟩|⟨g2,cap2,cur2,el,rfl,k1,k2,k3,k4⟩
     ·exact .inl ⟨rfl,h0⟩
     ·exact .inr ⟨g2,cap2,cur2,el,rfl,k1,k2,k3,k4.mono hA⟩
    | many ts=>exact h0
    | own B m=>exact h0
    | row v k ks=>
     rcases h0 with ⟨rfl,h0⟩|⟨g2,len2,cap2,cur2,el,rfl,k1,k2,k3,k4,k5⟩
     ·exact .inl ⟨rfl,h0⟩
     ·exact .inr ⟨g2,len2,cap2,cur2,el,rfl,k1,k2,k3,k4,k5.mono hA⟩
  ·rcases YN.1 hr with rfl|hr2
   ·obtain ⟨hbg,hf2⟩:=hf
    rcases hg with hg|⟨_,hg⟩
    ·exact hh.prot _ hmem b o hbg hg
    ·rw [AE] at hf2;omega
   ·rcases hg with hg|⟨hbg,_⟩
    ·exact hh.prot r (Xj _ hr2) b o hf hg
    ·exact hpw.1 r hr2 b o hbg hf
  ·rcases hg with hg|⟨rfl,_⟩
   ·exact hh.lt b o hg
   ·exact (UP.1 h1).1
  ·rintro b o _ ⟨r,hr,hf⟩
   rcases YN.1 hr with rfl|hr
   ·exact ⟨_,hmem,hf.1⟩
   ·exact ⟨r,Xj _ hr,hf⟩
  ·have hflat:Zg ls=ls:=by
    clear h5 h3 hh hpw hmem hA h4
    induction ls with
    | nil=>rfl
    | cons y r ih=>
     simp only [Zg,C8,hls y (Xa ..),List.singleton_append]
     rw [show r.flatMap AV.leaves=Zg r from rfl,ih fun q hq=>hls q (Xj _ hq)]
   refine .sl (k:=1) (fun x hx=>by cases hx;rfl) h3 (Vh.of_flat ls (fun y hy=>by rw [hls y hy];rfl) ?_)
   rw [hflat]
   refine Wv.of_cells (h5.mono hA) fun j u hj=>?_
   have hjl:j<ls.length:=by
    have:=(Xh.1 hj).1
    have h6:=h5.length
    omega
   rw [Qt,Zk hjl] at hj
   refine ⟨?_,.inr ⟨rfl,by omega⟩⟩
   rw [Wj,cell_of_row w g j cur e (0,0) h1]
   simpa using hj
end
section
variable {P:Program} {n:Nat} {ops:Array Oper} {B:Fr->List Res->Prop} {k:Nat} {F:Fr} {h h2:List Res}
variable {T:List (Nat × List Nat)} {fuel fuel':Nat} {done:List Nat}
theorem Zcn {K:Fr->List Res->Prop} {ls:List AV} {len:Nat} (hd:VS n (ZV ops k)=true) (ha:Ts P ops F k=some (ls,len,1)) (hlen:ls.length=len)
  (hK:∀v,K (F.put (ZV ops k).dst (.val v)) (.vec v ls::h)):WO P n (ZV ops k) F h K:=by
 unfold Ts at ha
 generalize hoo:ZV ops k=q at ha hd hK
 obtain ⟨dst,op,type,pos,after,guard⟩:=q
 cases op<;>simp only at ha<;>try (cases ha)
 rename_i t ln parts
 split at ha
 case h_2=>cases ha
 rename_i e ht
 split at ha
 case h_2=>cases ha
 rename_i i hi
 split at ha
 case h_2=>cases ha
 rename_i hc
 simp only [Xb] at hc
 split at ha
 case h_2=>cases ha
 rename_i ls' hf
 simp only [Wp,Prod.mk.injEq] at ha
 obtain ⟨rfl,rfl,XO⟩:=ha
 subst hlen
 intro Q w G a hF hh
 obtain ⟨cs,h1,h2⟩:=HD hF parts ht hi rfl hc.1 hc.2 hf
 have hr:(execOp a.eval { dst:=dst,op:=.buildSlice t ls'.length parts,type:=type,pos:=pos,after:=after,guard:=guard }).run P w =
   .ok (.value (.slice (some ⟨w.heap.size,0,none⟩) ls'.length ls'.length)) (w.alloc (.cells cs e)):=by
  simp only [execOp]
  exact VF h2
 unfold Oper.wp
 rw [hr]
 have hlc:=h1.length
 simp only [JT] at hlc
 obtain ⟨j1,j2⟩:=hh.alloc_vec cs e (ls:=ls') (cap:=ls'.length) (X0 _) hlc (by rw [<-hlc];simpa [WI] using h1)
 exact ⟨_,_,G,hK _,(hF.mono (j2.agree hh)).put (TQ hd) .val,j1,j2⟩
theorem Z9u (ls:List AV) {len:Nat} (hk:Xo n ops F k=true) (ha:Ts P ops F k=some (ls,len,1)) (hlen:ls.length=len)
  (hK:∀v,SI P n ops B (k+1) (F.put (ZV ops k).dst (.val v)) (.vec v ls::h)):SI P n ops B k F h:=
 QC hk (Zcn (UJ hk).2.1 ha hlen hK)
theorem Za0 (j:Nat) {v:Value} {ls:List AV} {i:Nat} {y:AV} (ls':List AV) (hk:Xo n ops F k=true) (hs:storeAt P ops F k=some (QN v,i,[y])) (hp:UK [j] h=some ([.vec v ls],h2))
  (hlt:i<ls.length) (he:ls.set i y=ls') (H:SI P n ops B (k+1) F (.vec v ls'::h2)):SI P n ops B k F h:=
 QC hk (WO.perm (Uo hp) (RK hs hlt (by rw [he];exact H)))
theorem Z4z (i j:Nat) (js bs:List Nat) {v:Value} {ls:List AV} {q:Nat} {y:AV} (ls':List AV) (hk:Xo n ops F i=true) (hs:storeAt P ops F i=some (QN v,q,[y]))
  (hp:UK [j] h=some ([.vec v ls],h2)) (hlt:q<ls.length) (he:ls.set q y=ls') (ho:UI ops i T=bs) (hj:js.map (fun j=>(V2 h2)[j]?)=bs.map some)
  (H:X7 P n ops B (T.filter fun t=>!Vs ops i t.1) fuel (done++[i]) F (.vec v ls'::h2)):VZ P n ops B T fuel done F h i:=
 Ad [j] js bs hk hp ho hj (RK (h2:=[]) hs hlt (by rw [he];exact H))
theorem Z9z (j:Nat) (ls':List AV) {v:Value} {ls xs:List AV} {hx:Option Value} (hk:Xo n ops F k=true) (ha:TO P ops F k=some (.val v,.sl xs hx,1)) (hp:UK [j] h=some ([.vec v ls],h2))
  (hxs:∀y∈xs,y.leaves=[y]) (hone:xs.all AV.one=true) (hbound:ls.length+xs.length<=4294967296) (he:ls++xs=ls')
  (hK:∀v',SI P n ops B (k+1) (F.put (ZV ops k).dst (.val v')) (.vec v' ls'::h2)):SI P n ops B k F h:=
 QC hk (WO.perm (Uo hp) (Zcs (UJ hk).2.1 ha hxs hone hbound fun v'=>by rw [he];exact hK v'))
theorem Z4r (i:Nat) (f:FuncId) (as1 xs:List AV) (is js ks:List Nat) {h1:List Res} (bs:List Res) {R:AV->List Res->Prop} (hk:Xo n ops F i=true) (hc:A8 P ops F i=some (f,as1))
  (hp:UK is h=some (h1++bs,h2)) (ho:UI ops i T=ks) (hj:js.map (fun j=>(V2 h2)[j]?)=ks.map some)
  (H:WZ P f xs h1 R) (hargs:TK bs as1 xs) (hb:∀r∈bs,∃v ls,r=.vec v ls/\∀y∈ls,∃u,y=.val u)
  (hclean:∀r h',R r h'->KQ h' r/\∀q∈h',FX q)
  (hK:∀r h',R r h'->X7 P n ops B (T.filter fun t=>!Vs ops i t.1) fuel (done++[i]) (F.put (ZV ops i).dst r) (h'++bs++h2)):VZ P n ops B T fuel done F h i:=
 Ad is js ks hk hp ho hj (Ma (h2:=[]) (UJ hk).2.1 hc (by simp) (H.lend bs hargs hb hclean) fun r h' ⟨h1',hr,he⟩=>by rw [he];simpa using hK r h1' hr)
def Vi (h h':List Res):Prop:=∀w G,YK w G h->∃G',YK w G' h'/\X5 w G h w G' h'
theorem Xn {h':List Res} (ht:Vi h h') (H:SI P n ops B k F h'):SI P n ops B k F h:=by
 intro Q w G a hF hh hk
 obtain ⟨G',h1,h2⟩:=ht w G hh
 exact H Q w G' a (hF.mono (h2.agree hh)) h1 fun F2 h2' G2 a2 w2 b1 b2 b3 b4=>hk F2 h2' G2 a2 w2 b1 b2 b3 (h2.trans b4)
theorem Z2l {c:Code} {A:WW} {h':List Res} (ht:Vi h h') (H:Yz P n c A F h'):Yz P n c A F h:=by
 intro w G a hF hh
 obtain ⟨G',h1,h2⟩:=ht w G hh
 exact wp_mono (H w G' a (hF.mono (h2.agree hh)) h1) fun e a' w' hc=>hc.trans h2
theorem Zhq:Vi h (.vec (.slice none 0 0) []::h):=fun _ _ hh=>let ⟨a,b⟩:=Zi6 hh;⟨_,a,b⟩
theorem Zhr (j m:Nat) {v:Value} {ls:List AV} (hp:UK [j] h=some ([.vec v ls],h2)) (hle:m<=ls.length):Vi h (.vec (Az v m) (ls.take m)::h2):=by
 intro w G hh
 have hp':=Uo hp
 obtain ⟨a,b⟩:=Zi8 (hh.perm hp') hle
 exact ⟨G,a,b.perm hp'.symm (TI _)⟩
theorem Z1l (is:List Nat) {h' d:List Res} (hp:UK is h=some (h',d)):Vi h h':=by
 intro w G hh
 have hp':=Uo hp
 refine ⟨G,(hh.perm hp').left,?_⟩
 exact ((X5.refl w G h).perm (TI _) hp').sub' (List.sublist_append_left _ _)
end
theorem Z1t (xs:LI):∀y∈Z6 xs,∃u,y=AV.val u:=by intro y hy;simp only [Z6,XH] at hy;obtain ⟨x,_,rfl⟩:=hy;exact ⟨_,rfl⟩
theorem R3 (xs:LI):∀y∈Z6 xs,y.leaves=[y]:=by intro y hy;simp only [Z6,XH] at hy;obtain ⟨x,_,rfl⟩:=hy;rfl
theorem Zcg (xs:LI):(Z6 xs).all AV.one=true:=by rw [JU];intro y hy;simp only [Z6,XH] at hy;obtain ⟨x,_,rfl⟩:=hy;rfl
theorem Z05 (xs:LI) (i:Nat) (x:Int):(Z6 xs).set i (.i x)=Z6 (xs.set i x):=by simp [Z6,List.map_set]
theorem An:∀r∈([]:List Res),∃v ls,r=Res.vec v ls/\∀y∈ls,∃u,y=AV.val u:=by simp
theorem J7 {v:Value} {xs:LI} {bs:List Res} (h:∀r∈bs,∃v ls,r=Res.vec v ls/\∀y∈ls,∃u,y=AV.val u) :
  ∀r∈Res.vec v (Z6 xs)::bs,∃v ls,r=Res.vec v ls/\∀y∈ls,∃u,y=AV.val u:=by
 intro r hr
 rcases YN.1 hr with rfl|hr
 ·exact ⟨_,_,rfl,Z1t xs⟩
 ·exact h r hr
section
variable {P:Program} {n:Nat} {c:Code} {A:WW} {F:Fr} {h:List Res}
@[reducible] def Gi (K:Fr->List Res->Prop) (A:WW):WW:=fun e F h=>
 match e with
 | .normal=>∃F' h',K F' h'/\Tn F h F' h'
 | e=>A e F h
theorem Z2c {y:Code} (K:Fr->List Res->Prop) (H:Yz P n c (Gi K A) F h) (hB:∀F' h',K F' h'->Yz P n y A F' h'):Yz P n c (C5 P n y A) F h:=by
 refine N7 (fun e F1 h1 hq=>?_) H
 cases e with
 | normal=>obtain ⟨F',h',k1,k2⟩:=hq;exact Dd k2 (hB F' h' k1)
 | exit id=>exact hq
 | goto l=>exact hq
 | ret=>exact hq
 | panic ch=>exact hq
 | outgrown=>exact hq
theorem Y5 {ops:Array Oper} {B:Fr->List Res->Prop} {k:Nat} {F2:Fr} {h2:List Res} (hw:Tn F h F2 h2) (J:SI P n ops B k F2 h2):SI P n ops B k F h:=HF hw J
theorem Z2b {y:Code} {A2:WW} (K:Fr->List Res->Prop) (hA:∀F h,A .normal F h=Yz P n y A2 F h) (H:Yz P n c (Gi K A) F h) (hB:∀F' h',K F' h'->Yz P n y A2 F' h'):Yz P n c A F h:=by
 refine N7 (fun e F1 h1 hq=>?_) H
 cases e with
 | normal=>obtain ⟨F',h',k1,k2⟩:=hq;rw [hA];exact Dd k2 (hB F' h' k1)
 | exit id=>exact hq
 | goto l=>exact hq
 | ret=>exact hq
 | panic ch=>exact hq
 | outgrown=>exact hq
end
end Go.Abs
section
namespace Go.Abs
inductive Keep:Fr->Fr->Prop
 | z {F:Fr}:Keep F []
 | r {F:Fr}:Keep F F
 | k {F F':Fr} {x:Nat × AV} (h:Keep F F'):Keep (x::F) (x::F')
 | d {F F':Fr} {x:Nat × AV} (h:Keep F F'):Keep (x::F) F'
 | p {F F':Fr} {d:Option Tmp} {x:AV} (h:Keep F F'):Keep (F.put d x) F'
 | q {F F':Fr} {d:Option Tmp} {x:AV} (t:Nat) (h:Keep F F'):Keep (F.put d x) ((t,x)::F')
 | n {F F':Fr} (t:Nat) (x:AV) (h:Keep F F'):Keep F ((t,x)::F')
def XC (is:List Nat) (h:List Res):List Res:=((UK is h).map (·.2)).getD []
def Wb (is:List Nat) (h:List Res):Option (List Res):=(UK is h).map (·.1)
theorem VM {is:List Nat} {h h1:List Res} (hp:Wb is h=some h1):UK is h=some (h1,XC is h):=by
 unfold Wb at hp
 unfold XC
 cases hq:UK is h with
 | none=>rw [hq] at hp;cases hp
 | some x=>rw [hq] at hp;cases hp;rfl
abbrev Z4 (xs:LI):AV:=.sl (Z6 xs) none
abbrev DL (xs:List LI):AV:=.sl (Vk xs) none
abbrev Qo (xs:List Yd):AV:=.sl (XU xs) none
abbrev Ye (xs:List Zb):AV:=.sl (YS xs) none
abbrev Vp (xs:List Z5):AV:=.sl (ZU xs) none
abbrev JL (xs:List Z8):AV:=.sl (XP xs) none
abbrev JM (xs:List YE):AV:=.sl (X9 xs) none
abbrev ZH (xs:LI) (v:Value):AV:=.sl (Z6 xs) (some v)
abbrev M9 (xs:List LI) (v:Value):AV:=.sl (Vk xs) (some v)
abbrev BQ (xs:List Yd) (v:Value):AV:=.sl (XU xs) (some v)
abbrev Tt (xs:List Zb) (v:Value):AV:=.sl (YS xs) (some v)
abbrev Xg (xs:List Z5) (v:Value):AV:=.sl (ZU xs) (some v)
abbrev Qp (xs:List Z8) (v:Value):AV:=.sl (XP xs) (some v)
abbrev WT (xs:List YE) (v:Value):AV:=.sl (X9 xs) (some v)
abbrev LT (c:Yd):List AV:=[Z4 c.fields]
abbrev BK (d:Zb):List AV:=[.i d.frm,.i d.to_,Qo d.cons]
abbrev Wd (s:Z5):List AV:=[.i s.op,.i s.num,.i s.into,Z4 s.args,JL s.kids]
abbrev XV (b:Z8):List AV:=[Vp b.steps,.i b.result]
abbrev JH (r:YE):List AV:=[Z4 r.params,Z4 r.lent,.i r.result,Vp r.body.steps,.i r.body.result]
abbrev X8 (n:ZG):List AV:=[Ye n.decls,JM n.routines]
abbrev Zc2:Value:=.slice none 0 0
structure Hd where
 a:Option Addr
 l:Nat
 c:Nat
abbrev Hd.v (g:Hd):Value:=.slice g.a g.l g.c
abbrev Hd.cut (g:Hd) (m:Nat):Hd:=⟨g.a,m,g.c⟩
abbrev hN:Hd:=⟨none,0,0⟩
abbrev AV.h (g:Hd):AV:=.val g.v
abbrev rV (g:Hd) (xs:LI):Res:=.vec g.v (Z6 xs)
section
variable {P:Program} {n:Nat} {c:Code} {A:WW} {F:Fr} {h:List Res} {ops:Array Oper} {B:Fr->List Res->Prop} {k:Nat}
variable {T:List (Nat × List Nat)} {fuel:Nat} {done:List Nat}
theorem aq (ha:Yz P n (YQ c) (C5 P n (U3 c) A) F h) (hk:Xe c=3:=by kernel_rfl):Yz P n c A F h:=Im hk ha
theorem ar (hs:SI P n (XJ (YQ c)) (fun F h=>Yz P n (U3 c) A F h) 0 F h) (hk:Xe c=3:=by kernel_rfl) (hk1:Xe (YQ c)=1:=by kernel_rfl):Yz P n c A F h:=Z2f hk hk1 (PA hs)
theorem az (hs:SI P n (XJ c) (A .normal) 0 F h) (hk:Xe c=1:=by kernel_rfl):Yz P n c A F h:=N8 hk (PA hs)
theorem aD (k:Nat) (hs:X7 P n (XJ (YQ c)) (fun F h=>Yz P n (U3 c) A F h) [] k [] F h) (hk:Xe c=3:=by kernel_rfl) (hk2:Xe (YQ c)=2:=by kernel_rfl) (hm:P.follows .mixedOrders=true:=by kernel_rfl)
  (XO:(XJ (YQ c)).size=k:=by kernel_rfl):Yz P n c A F h:=Z2g hk hk2 hm XO hs
theorem aE (k:Nat) (hs:X7 P n (XJ c) (A .normal) [] k [] F h) (hk:Xe c=2:=by kernel_rfl) (hm:P.follows .mixedOrders=true:=by kernel_rfl)
  (XO:(XJ c).size=k:=by kernel_rfl):Yz P n c A F h:=N9 hk hm XO hs
theorem ak (h0:A .normal F h) (hk:Xe c=0:=by kernel_rfl):Yz P n c A F h:=Z2k hk h0
theorem ax (id:Nat) (h0:A (.exit id) F h) (hk:Xe c=7:=by kernel_rfl) (hi:Kr c=id:=by kernel_rfl):Yz P n c A F h:=Z2d id hk hi h0
theorem ab (id:Nat) (ha:Yz P n (YQ c) (G7 id A) F h) (hk:Xe c=5:=by kernel_rfl) (hi:Kr c=id:=by kernel_rfl):Yz P n c A F h:=Z2a id hk hi ha
theorem ac (b:Bool) {p:Prop} (hp:b=true↔p) (h1:p->Yz P n (YQ c) A F h) (h2:¬p->Yz P n (U3 c) A F h) (hk:Xe c=4:=by kernel_rfl) (hc:F.ev (AN c)=.val (.bool b):=by kernel_rfl) :
  Yz P n c A F h:=Il hk hc hp h1 h2
theorem VR (h1:Yz P n (YQ c) A F h) (hk:Xe c=4:=by kernel_rfl) (hc:F.ev (AN c)=.val (.bool true):=by kernel_rfl):Yz P n c A F h:=
 Il (p:=True) hk hc (by simp) (fun _=>h1) (fun q=>absurd trivial q)
theorem VG (h1:Yz P n (U3 c) A F h) (hk:Xe c=4:=by kernel_rfl) (hc:F.ev (AN c)=.val (.bool false):=by kernel_rfl):Yz P n c A F h:=
 Il (p:=False) hk hc (by simp) (fun q=>q.elim) (fun _=>h1)
theorem al (Inv:Nat->Fr->List Res->Prop) (m0:Nat) (F0:Fr) (h0:List Res) (hi:Inv m0 F0 h0) (hw:Tn F h F0 h0)
  (hr:∀m F h,Inv m F h->Yz P n (YQ c) (M6 Inv m A) F h) (hk:Xe c=6:=by kernel_rfl):Yz P n c A F h:=Z2e Inv hk hi hw hr
theorem wk {F':Fr} {h1 h':List Res} (is:List Nat) (hF:F.Le F') (e:h1=h':=by exact rfl) (hp:Wb is h=some h1:=by kernel_rfl):Tn F h F' h':=e▸Zii is hF (VM hp)
theorem fl {F F':Fr} (h:F'.map (fun p=>(F.get p.1).like p.2)=F'.map (·.2):=by kernel_rfl):F.Le F':=OZ h
theorem fc {F F':Fr} {t:Nat} {x y:AV} (hxy:Zd x y) (hr:F.Le F') (hx:F.get t=x:=by kernel_rfl):F.Le ((t,y)::F'):=Dz hx hxy hr
theorem lr (x:AV):Zd x x:=Zd.refl x
abbrev nl:AV:=.sl [] (some (.slice none 0 0))
theorem Keep.w {F F':Fr} {a b c d:Nat×AV} (h:Keep F F'):Keep (a::b::c::d::F) (a::b::c::d::F'):=.k (.k (.k (.k h)))
theorem dq {p:Prop} [Decidable p]:decide p=true↔p:=decide_eq_true_iff
theorem fr {F F':Fr} {t:Nat} {x:AV} (hr:F.Le F') (hx:F.get t=x:=by kernel_rfl):F.Le ((t,x)::F'):=fc (lr _) hr hx
theorem li {a b:Int} (h:a=b:=by exact ob):Zd (.i a) (.i b):=Zd.i h
theorem lb {a b:Bool} (h:a=b):Zd (.b a) (.b b):=Zd.b h
theorem r1 {fn:Func} {R:AV->List Res->Prop} {e:Exit} {h1 h':List Res} {r:AV} (is:List Nat) (hR:R r h') (eq:h1=h':=by exact rfl) (he:(match e with|.normal|.ret=>true|_=>false)=true:=by kernel_rfl)
  (hr:Kd P F h fn.results.toList []=some ([r],[]):=by kernel_rfl) (hp:Wb is h=some h1:=by kernel_rfl):Bp P fn R e F h:=
 Me he [] hr (by simp) ⟨_,eq▸Uo (VM hp)⟩ (Zd.refl _) hR
theorem r2 {fn:Func} {R:AV->List Res->Prop} {e:Exit} {h1 h':List Res} {r:AV} (is:List Nat) (xs:List AV) (hR:R r h') (hle:Zd (Bd xs) r) (eq:h1=h':=by exact rfl) (he:(match e with|.normal|.ret=>true|_=>false)=true:=by kernel_rfl)
  (hr:Kd P F h fn.results.toList []=some (xs,[]):=by kernel_rfl) (hp:Wb is h=some h1:=by kernel_rfl):Bp P fn R e F h:=
 Me he [] hr (by simp) ⟨_,eq▸Uo (VM hp)⟩ hle hR
theorem r3 {fn:Func} {R:AV->List Res->Prop} {e:Exit} {h1 h':List Res} {r:AV} (is:List Nat) (xs:List AV) (hints:List Nat) (es:List (Nat × Nat)) (hR:R r h') (hle:Zd (Bd xs) r)
  (eq:h1=h':=by exact rfl) (he:(match e with|.normal|.ret=>true|_=>false)=true:=by kernel_rfl)
  (hr:Kd P F h fn.results.toList hints=some (xs,es):=by kernel_rfl) (hp:Wb is h=some h1:=by kernel_rfl) (hes:∀p∈es,p.1=p.2:=by simp):Bp P fn R e F h:=
 Me he hints hr hes ⟨_,eq▸Uo (VM hp)⟩ hle hR
theorem ZY (h0:A .ret F h) (hk:Xe c=8:=by kernel_rfl):Yz P n c A F h:=Z2h hk h0
theorem ie (hB:B F h) (hk:Nat.ble ops.size k=true:=by kernel_rfl):SI P n ops B k F h:=Pz hk hB
theorem io (x':AV) (x:AV) (hx:Zd x x') (H:SI P n ops B (k+1) (F.put (ZV ops k).dst x') h) (hk:Xo n ops F k=true:=by kernel_rfl) (he:Qf P (ZV ops k) F h 0=some (x,[]):=by kernel_rfl):SI P n ops B k F h:=
 Z9v x' hk he hx H
theorem Zs {x:AV} (hs:XY P (ZV ops k) F h [] x) (H:SI P n ops B (k+1) (F.put (ZV ops k).dst x) h) (hk:Xo n ops F k=true:=by kernel_rfl):SI P n ops B k F h:=ET hk hs H
theorem ia (r s:Int) (H:SI P n ops B (k+1) (F.put (ZV ops k).dst (.i r)) h) (hb:-9223372036854775808<=r/\r<=9223372036854775807:=by omega) (hs:s=r:=by omega)
  (hk:Xo n ops F k=true:=by kernel_rfl) (ha:A0 ops F k=some s:=by kernel_rfl):SI P n ops B k F h:=Z9p r hk ha hs hb H
theorem ic (is:List Nat) {f:FuncId} {xs:List AV} {h1:List Res} {R:AV->List Res->Prop} (H:WZ P f xs h1 R)
  (hK:∀r h',R r h'->SI P n ops B (k+1) (F.put (ZV ops k).dst r) (h'++XC is h)) (hk:Xo n ops F k=true:=by kernel_rfl) (hc:A8 P ops F k=some (f,xs):=by kernel_rfl)
  (hp:Wb is h=some h1:=by kernel_rfl):SI P n ops B k F h:=Z9q f xs is hk hc (VM hp) H hK
theorem iA (ls:List AV) (hK:∀b,SI P n ops B (k+1) (F.put (ZV ops k).dst (.p b 0)) (.obj b ls::h)) (hk:Xo n ops F k=true:=by kernel_rfl) (ha:De P ops F k=some ls:=by kernel_rfl):SI P n ops B k F h:=
 Z9n ls hk ha hK
theorem iS (j b o:Nat) (xs ls ls':List AV) (H:SI P n ops B (k+1) F (.obj b ls'::XC [j] h)) (hk:Xo n ops F k=true:=by kernel_rfl) (hs:storeAt P ops F k=some (b,o,xs):=by kernel_rfl)
  (hp:Wb [j] h=some [.obj b ls]:=by kernel_rfl) (hle:Nat.ble (o+xs.length) ls.length=true:=by kernel_rfl) (he:ls.take o++xs++ls.drop (o+xs.length)=ls':=by kernel_rfl):SI P n ops B k F h:=
 Z9x j ls' hk hs (VM hp) hle he H
theorem iL (es:List AV) (len sz:Nat) (hK:∀v,SI P n ops B (k+1) (F.put (ZV ops k).dst (.sl es (some v))) (.tail v sz::h)) (hk:Xo n ops F k=true:=by kernel_rfl)
  (ha:Ts P ops F k=some (Zg es,len,sz):=by kernel_rfl) (hlen:es.length=len:=by kernel_rfl) (hall:AL es sz=true:=by kernel_rfl):SI P n ops B k F h:=Z9t es hk ha hlen hall hK
theorem ip (j:Nat) (es' es xs:List AV) (hv:Value) (hx:Option Value) (sz:Nat) (hes:∀y∈es,y.leaves.length=sz) (hxs:∀y∈xs,y.leaves.length=sz)
  (hone:(Zg xs).all AV.one=true) (hbound:es.length+xs.length<=4294967296) (he:es++xs=es') (hK:∀v',SI P n ops B (k+1) (F.put (ZV ops k).dst (.sl es' (some v'))) (.tail v' sz::XC [j] h))
  (hk:Xo n ops F k=true:=by kernel_rfl) (ha:TO P ops F k=some (.sl es (some hv),.sl xs hx,sz):=by kernel_rfl) (hp:Wb [j] h=some [.tail hv sz]:=by kernel_rfl):SI P n ops B k F h:=
 Z9o j es' hk ha (VM hp) hes hxs hone hbound he hK
theorem ib {b:Bool} (t:Nat) (h1:b=true->SI P n ops B k ((t,.b true)::F) h) (h2:b=false->SI P n ops B k ((t,.b false)::F) h) (hF:F.get t=.b b:=by kernel_rfl):SI P n ops B k F h:=Z9w t hF h1 h2
theorem de (hB:B F h) (hr:Region.ready .any ops (WS ops done)=[]:=by kernel_rfl):X7 P n ops B T fuel done F h:=Z4t hr hB
theorem Z7 (i:Nat) (H:VZ P n ops B T fuel done F h i) (hr:Region.ready .any ops (WS ops done)=[i]:=by kernel_rfl):X7 P n ops B T (fuel+1) done F h:=Z4w hr H
theorem dx (i:Nat) {x:AV} (hx:XY P (ZV ops i) F h [] x) (H:X7 P n ops B ((i,[])::T) fuel (done++[i]) (F.put (ZV ops i).dst x) h) (hs:Region.noSelect ops=true:=by kernel_rfl) (hk:Xo n ops F i=true:=by kernel_rfl)
  (hf:Region.free .any ops (WS ops done) i=true:=by kernel_rfl) (hr:(Region.ready .any ops (WS ops done)).contains i=true:=by kernel_rfl):X7 P n ops B T (fuel+1) done F h:=Gj i hs hk hf hr hx H
theorem dn (i:Nat) (x' x:AV) (hx:Zd x x') (H:X7 P n ops B ((i,[])::T) fuel (done++[i]) (F.put (ZV ops i).dst x') h) (he:Qf P (ZV ops i) F h 0=some (x,[]):=by kernel_rfl) (hs:Region.noSelect ops=true:=by kernel_rfl) (hk:Xo n ops F i=true:=by kernel_rfl)
  (hf:Region.free .any ops (WS ops done) i=true:=by kernel_rfl) (hr:(Region.ready .any ops (WS ops done)).contains i=true:=by kernel_rfl):X7 P n ops B T (fuel+1) done F h:=Z4v i x' hs hk hf hr he hx H
theorem da (i:Nat) (r s:Int) (H:X7 P n ops B ((i,[])::T) fuel (done++[i]) (F.put (ZV ops i).dst (.i r)) h) (hb:-9223372036854775808<=r/\r<=9223372036854775807:=by omega) (hse:s=r:=by omega)
  (ha:A0 ops F i=some s:=by kernel_rfl) (hs:Region.noSelect ops=true:=by kernel_rfl) (hk:Xo n ops F i=true:=by kernel_rfl)
  (hf:Region.free .any ops (WS ops done) i=true:=by kernel_rfl) (hr:(Region.ready .any ops (WS ops done)).contains i=true:=by kernel_rfl):X7 P n ops B T (fuel+1) done F h:=Z4p i r hs hk hf hr ha hse hb H
theorem dc (i:Nat) (is js bs:List Nat) {f:FuncId} {xs:List AV} {h1:List Res} {R:AV->List Res->Prop} (H:WZ P f xs h1 R)
  (hK:∀r h',R r h'->X7 P n ops B (T.filter fun t=>!Vs ops i t.1) fuel (done++[i]) (F.put (ZV ops i).dst r) (h'++XC is h))
  (hk:Xo n ops F i=true:=by kernel_rfl) (hc:A8 P ops F i=some (f,xs):=by kernel_rfl)
  (hp:Wb is h=some h1:=by kernel_rfl) (ho:UI ops i T=bs:=by kernel_rfl) (hj:js.map (fun j=>(V2 (XC is h))[j]?)=bs.map some:=by kernel_rfl):VZ P n ops B T fuel done F h i:=
 Z4q i f xs is js bs hk hc (VM hp) ho hj H hK
theorem dA (i:Nat) (js bs:List Nat) (ls:List AV) (hK:∀b,X7 P n ops B (T.filter fun t=>!Vs ops i t.1) fuel (done++[i]) (F.put (ZV ops i).dst (.p b 0)) (.obj b ls::h))
  (hk:Xo n ops F i=true:=by kernel_rfl) (ha:De P ops F i=some ls:=by kernel_rfl) (ho:UI ops i T=bs:=by kernel_rfl) (hj:js.map (fun j=>(V2 h)[j]?)=bs.map some:=by kernel_rfl):VZ P n ops B T fuel done F h i:=
 Z4n i js bs ls hk ha ho hj hK
theorem dL (i:Nat) (js bs:List Nat) (es:List AV) (len sz:Nat) (hK:∀v,X7 P n ops B (T.filter fun t=>!Vs ops i t.1) fuel (done++[i]) (F.put (ZV ops i).dst (.sl es (some v))) (.tail v sz::h))
  (hk:Xo n ops F i=true:=by kernel_rfl) (ha:Ts P ops F i=some (Zg es,len,sz):=by kernel_rfl) (hlen:es.length=len:=by kernel_rfl) (hall:AL es sz=true:=by kernel_rfl)
  (ho:UI ops i T=bs:=by kernel_rfl) (hj:js.map (fun j=>(V2 h)[j]?)=bs.map some:=by kernel_rfl):VZ P n ops B T fuel done F h i:=
 Z4u i js bs es hk ha hlen hall ho hj hK
theorem dp (i j:Nat) (js bs:List Nat) (es' es xs:List AV) (hv:Value) (hx:Option Value) (sz:Nat) (hes:∀y∈es,y.leaves.length=sz) (hxs:∀y∈xs,y.leaves.length=sz)
  (hone:(Zg xs).all AV.one=true) (hbound:es.length+xs.length<=4294967296) (he:es++xs=es')
  (hK:∀v',X7 P n ops B (T.filter fun t=>!Vs ops i t.1) fuel (done++[i]) (F.put (ZV ops i).dst (.sl es' (some v'))) (.tail v' sz::XC [j] h))
  (hk:Xo n ops F i=true:=by kernel_rfl) (ha:TO P ops F i=some (.sl es (some hv),.sl xs hx,sz):=by kernel_rfl) (hp:Wb [j] h=some [.tail hv sz]:=by kernel_rfl)
  (ho:UI ops i T=bs:=by kernel_rfl) (hj:js.map (fun q=>(V2 (XC [j] h))[q]?)=bs.map some:=by kernel_rfl):VZ P n ops B T fuel done F h i:=
 Z4o i j js bs es' hk ha (VM hp) hes hxs hone hbound he ho hj hK
theorem dS (i j:Nat) (js bs:List Nat) (b o:Nat) (xs ls ls':List AV) (H:X7 P n ops B (T.filter fun t=>!Vs ops i t.1) fuel (done++[i]) F (.obj b ls'::XC [j] h))
  (hk:Xo n ops F i=true:=by kernel_rfl) (hs:storeAt P ops F i=some (b,o,xs):=by kernel_rfl)
  (hp:Wb [j] h=some [.obj b ls]:=by kernel_rfl) (hle:Nat.ble (o+xs.length) ls.length=true:=by kernel_rfl) (he:ls.take o++xs++ls.drop (o+xs.length)=ls':=by kernel_rfl) (ho:UI ops i T=bs:=by kernel_rfl)
  (hj:js.map (fun q=>(V2 (XC [j] h))[q]?)=bs.map some:=by kernel_rfl):VZ P n ops B T fuel done F h i:=
 Z4y i j js bs ls' hk hs (VM hp) hle he ho hj H
theorem db {b:Bool} (t:Nat) (h1:b=true->X7 P n ops B T fuel done ((t,.b true)::F) h) (h2:b=false->X7 P n ops B T fuel done ((t,.b false)::F) h) (hF:F.get t=.b b:=by kernel_rfl):X7 P n ops B T fuel done F h:=Z4x t hF h1 h2
theorem rz:([]:List Res)=[]:=rfl
theorem rc {x:Res} {t t':List Res} (e:t=t'):x::t=x::t':=e▸rfl
theorem rv {g:Hd} {xs xs':LI} {t t':List Res} (h:xs=xs') (e:t=t'):rV g xs::t=rV g xs'::t':=h▸e▸rfl
theorem Z09 {v:Value} {ls:List AV} (H:∀g:Hd,v=g.v->SI P n ops B k F (.vec v ls::h)):SI P n ops B k F (.vec v ls::h):=by
 intro Q w G a hF hh
 obtain ⟨a',cap,rfl⟩:=Cf.form (hh.ok _ (Xa ..))
 exact H ⟨a',_,cap⟩ rfl Q w G a hF hh
theorem D5 (j:Nat) (v:Hd) (xs:LI) (hl:DJ P ops F k=some (.h v):=by kernel_rfl) (hj:h[j]? = some (rV v xs):=by kernel_rfl):XY P (ZV ops k) F h [] (.i xs.length):=by
 have:=Zhb (P:=P) (F:=F) j hl hj
 rwa [Yc] at this
theorem Ua (j:Nat) (v:Hd) (xs:LI) (i:Int) (q:Nat) (h0:0<=i/\i<xs.length:=by omega) (hq:i.toNat=q:=by omega) (hi:BJ P ops F k=some (.h v,i,1):=by kernel_rfl) (hj:h[j]? = some (rV v xs):=by kernel_rfl) :
  XY P (ZV ops k) F h [] (.val (.pointer (some ⟨QN v.v,q,none⟩))):=by
 have:=Zha (P:=P) (F:=F) j hi hj h0.1 (by rw [Yc];exact h0.2)
 rwa [hq] at this
theorem Qs (j:Nat) (v:Hd) (xs:LI) (q:Nat) (y:Int) (hy:xs[q]? = some y) (hl:M4 P ops F k=some (.val (.pointer (some ⟨QN v.v,q,none⟩))):=by kernel_rfl) (hj:h[j]? = some (rV v xs):=by kernel_rfl) :
  XY P (ZV ops k) F h [QN v.v] (.i y):=Zhc (P:=P) (F:=F) j hl hj (Y8 hy)
theorem Uh {ks:List Nat} {x:AV} (hs:XY P (ZV ops k) F h ks x) (H:SI P n ops B (k+1) (F.put (ZV ops k).dst x) h) (hk:Xo n ops F k=true:=by kernel_rfl):SI P n ops B k F h:=ET hk hs H
theorem UA (i:Nat) {ks:List Nat} {x:AV} (hx:XY P (ZV ops i) F h ks x) (H:X7 P n ops B ((i,ks)::T) fuel (done++[i]) (F.put (ZV ops i).dst x) h) (hs:Region.noSelect ops=true:=by kernel_rfl) (hk:Xo n ops F i=true:=by kernel_rfl)
  (hf:Region.free .any ops (WS ops done) i=true:=by kernel_rfl) (hr:(Region.ready .any ops (WS ops done)).contains i=true:=by kernel_rfl):X7 P n ops B T (fuel+1) done F h:=Gj i hs hk hf hr hx H
theorem Eg (j:Nat) (v:Hd) (xs:LI) (m:Nat) (hle:m<=xs.length:=by omega) (hi:E6 P ops F k=some (.h v,(m:Int)):=by kernel_rfl) (hj:h[j]? = some (rV v xs):=by kernel_rfl) :
  XY P (ZV ops k) F h [] (.h (v.cut m)):=Zhd (P:=P) (F:=F) j hi hj (by rw [Yc];exact hle)
theorem LH (j:Nat) (v:Hd) (xs:LI) (q:Nat) (y:Int) (H:SI P n ops B (k+1) F (rV v (xs.set q y)::XC [j] h)) (hlt:q<xs.length:=by omega) (hk:Xo n ops F k=true:=by kernel_rfl)
  (hs:storeAt P ops F k=some (QN v.v,q,[.i y]):=by kernel_rfl) (hp:Wb [j] h=some [rV v xs]:=by kernel_rfl):SI P n ops B k F h:=
 Za0 j _ hk hs (VM hp) (by rw [Yc];exact hlt) (Z05 _ _ _) H
theorem Co (i j:Nat) (js bs:List Nat) (v:Hd) (xs:LI) (q:Nat) (y:Int) (H:X7 P n ops B (T.filter fun t=>!Vs ops i t.1) fuel (done++[i]) F (rV v (xs.set q y)::XC [j] h)) (hlt:q<xs.length:=by omega)
  (hk:Xo n ops F i=true:=by kernel_rfl)
  (hs:storeAt P ops F i=some (QN v.v,q,[.i y]):=by kernel_rfl) (hp:Wb [j] h=some [rV v xs]:=by kernel_rfl) (ho:UI ops i T=bs:=by kernel_rfl)
  (hj:js.map (fun q=>(V2 (XC [j] h))[q]?)=bs.map some:=by kernel_rfl):VZ P n ops B T fuel done F h i:=
 Z4z i j js bs _ hk hs (VM hp) (by rw [Yc];exact hlt) (Z05 _ _ _) ho hj H
theorem B7 (j:Nat) (v:Hd) (xs ys:LI) (hx:Option Value) (hK:∀v',SI P n ops B (k+1) (F.put (ZV ops k).dst (.h v')) (rV v' (xs++ys)::XC [j] h)) (hbound:xs.length+ys.length<=4294967296:=by simp<;>omega)
  (hk:Xo n ops F k=true:=by kernel_rfl) (ha:TO P ops F k=some (.h v,.sl (Z6 ys) hx,1):=by kernel_rfl) (hp:Wb [j] h=some [rV v xs]:=by kernel_rfl):SI P n ops B k F h:=
 Z9z j _ hk ha (VM hp) (R3 _) (Zcg _) (by simpa using hbound) (W1 _ _).symm fun v'=>Z09 fun g hg=>by subst hg;exact hK g
theorem iVL (xs:LI) (len:Nat) (hK:∀v,SI P n ops B (k+1) (F.put (ZV ops k).dst (.h v)) (rV v xs::h)) (hk:Xo n ops F k=true:=by kernel_rfl) (ha:Ts P ops F k=some (Z6 xs,len,1):=by kernel_rfl)
  (hlen:xs.length=len:=by kernel_rfl):SI P n ops B k F h:=Z9u _ hk ha (by rw [Yc];exact hlen) fun v'=>Z09 fun g hg=>by subst hg;exact hK g
def Ib (R:AV->List Res->Prop):Prop:=∀r h',R r h'->KQ h' r/\∀q∈h',FX q
theorem Gf {x:Value}:Ib fun r h=>r=.val x/\h=[]:=by rintro _ _ ⟨rfl,rfl⟩;exact ⟨.val,by simp⟩
theorem Dh {xs:LI}:Ib fun r h=>∃v:Hd,r=.h v/\h=[rV v xs]:=by
 rintro _ _ ⟨v,rfl,rfl⟩;exact ⟨.val,by simpa [FX] using Z1t xs⟩
theorem Ab (i:Nat) (is js ks:List Nat) {f:FuncId} {as1 xs:List AV} {h1:List Res} (bs:List Res) {R:AV->List Res->Prop} (H:WZ P f xs h1 R) (hcl:Ib R) (hargs:TK bs as1 xs)
  (hb:∀r∈bs,∃v ls,r=.vec v ls/\∀y∈ls,∃u,y=.val u)
  (hK:∀r h',R r h'->X7 P n ops B (T.filter fun t=>!Vs ops i t.1) fuel (done++[i]) (F.put (ZV ops i).dst r) (h'++(bs++XC is h)))
  (hk:Xo n ops F i=true:=by kernel_rfl) (hc:A8 P ops F i=some (f,as1):=by kernel_rfl)
  (hp:Wb is h=some (h1++bs):=by kernel_rfl) (ho:UI ops i T=ks:=by kernel_rfl) (hj:js.map (fun j=>(V2 (XC is h))[j]?)=ks.map some:=by kernel_rfl):VZ P n ops B T fuel done F h i:=
 Z4r i f as1 xs is js ks bs hk hc (VM hp) ho hj H hargs hb hcl fun r h' hr=>by rw [XW];exact hK r h' hr
theorem gN {bs:List Res}:TK bs [] []:=.nil
theorem Zbz {bs:List Res} {r:Res} (i:Nat) (h:bs[i]? = some r):r∈bs:=Y3 h
theorem gS {bs:List Res} {x:AV} {as1 xs:List AV} (t:TK bs as1 xs):TK bs (x::as1) (x::xs):=.same t
theorem gL {bs:List Res} {v:Hd} {ys:LI} {as1 xs:List AV} (i:Nat) (t:TK bs as1 xs) (h:bs[i]? = some (rV v ys):=by kernel_rfl):TK bs (.h v::as1) (Z4 ys::xs):=.lent (Zbz i h) t
theorem Zhn (j:Nat) (b':Nat) (ls ls':List AV) (hle:Vx ls ls') (hp:Wb [j] h=some [.obj b' ls]:=by kernel_rfl):Vi h (.obj b' ls'::XC [j] h):=by
 intro w G hh
 have hp':=Uo (VM hp)
 have hh':=hh.perm hp'
 have hpw:=Vg.1 hh'.apart
 refine ⟨G,⟨fun r hr=>?_,Vg.2 ⟨fun r hr=>hpw.1 r hr,hpw.2⟩,fun r hr=>?_,hh'.lt⟩,?_⟩
 ·rcases YN.1 hr with rfl|hr
  ·obtain ⟨cs,e,h1,h2⟩:=hh'.ok _ (Xa ..)
   exact ⟨cs,e,h1,Vx.cs hle h2⟩
  ·exact hh'.ok r (Xj _ hr)
 ·rcases YN.1 hr with rfl|hr
  ·exact fun b o hf hg=>hh'.prot (.obj b' ls) (Xa ..) b o hf hg
  ·exact hh'.prot r (Xj _ hr)
 ·refine ⟨rfl,rfl,rfl,X0 _,fun _ _ h=>h,fun _ _=>.inl rfl,fun _ _ _ h=>.inl h,?_⟩
  rintro b2 o _ ⟨r,hr,hf⟩
  rw [Cz hp']
  rcases YN.1 hr with rfl|hr
  ·exact ⟨_,Xa ..,hf⟩
  ·exact ⟨r,Xj _ hr,hf⟩
theorem Zd.hd {es:List AV} {v:Hd}:Zd (.sl es (some v.v)) (.h v):=by
 intro w G u h
 cases h with
 | nil hh=>rw [<-hh _ rfl];exact .val
 | sl hh _ _=>rw [<-hh _ rfl];exact .val
theorem Ed (j m:Nat) (v:Hd) (xs:LI) (hle:m<=xs.length:=by omega) (hp:Wb [j] h=some [rV v xs]:=by kernel_rfl):Vi h (rV (v.cut m) (xs.take m)::XC [j] h):=by
 have:=Zhr (h:=h) j m (VM hp) (by rw [Yc];exact hle)
 rwa [Ag] at this
theorem Ee:Vi h (rV hN []::h):=Zhq
theorem Cp {h':List Res} (ht:Vi h h') (H:X7 P n ops B T fuel done F h'):X7 P n ops B T fuel done F h:=by
 intro Q w G a SL hF hh hQ hcl hcov hk
 obtain ⟨G',h1,h2⟩:=ht w G hh
 exact H Q w G' a SL (hF.mono (h2.agree hh)) h1 hQ hcl (fun p hp=>let ⟨t,ht,e,f⟩:=hcov p hp;⟨t,ht,e,fun w' hw hb=>f w' (fun b o hg=>hw b o (h2.sub b o hg)) hb⟩)
  fun F2 h2' G2 a2 w2 b1 b2 b3 b4=>hk F2 h2' G2 a2 w2 b1 b2 b3 (h2.trans b4)
end
end Go.Abs
namespace Go.Abs
section
variable {P:Program} {n:Nat} {ops:Array Oper} {B:Fr->List Res->Prop} {k:Nat} {F:Fr} {h:List Res}
variable {T:List (Nat × List Nat)} {fuel:Nat} {done:List Nat} {c:Code} {A:WW}
def qF (P:Program) (n:Nat) (ops:Array Oper) (h:List Res) (k m:Nat) (F:Fr) (hints:List Nat):Fr:=
 match QJ P n ops h m (ops.toList.drop k) F hints with|some (_,F1,_)=>F1|none=>F
def qA (P:Program) (n:Nat) (ops:Array Oper) (h:List Res) (k m:Nat) (F:Fr) (hints:List Nat):List Nat:=
 match QJ P n ops h m (ops.toList.drop k) F hints with|some (_,_,es)=>es.map (·.1)|none=>[0]
def qB (P:Program) (n:Nat) (ops:Array Oper) (h:List Res) (k m:Nat) (F:Fr) (hints:List Nat):List Nat:=
 match QJ P n ops h m (ops.toList.drop k) F hints with|some (_,_,es)=>es.map (·.2)|none=>[1]
theorem Zz (m:Nat) (hints:List Nat) (H:SI P n ops B (k+m) (qF P n ops h k m F hints) h) (he:qA P n ops h k m F hints=qB P n ops h k m F hints:=by kernel_rfl):SI P n ops B k F h:=by
 unfold qA qB at he
 unfold qF at H
 cases hr:QJ P n ops h m (ops.toList.drop k) F hints with
 | none=>rw [hr] at he;cases he
 | some y=>
  obtain ⟨l,F1,es⟩:=y
  rw [hr] at he H
  have hd:=Mr m hr
  rw [List.drop_drop] at hd
  refine Mu m hr (Md he) ?_
  rw [hd]
  exact H
theorem Z0 (m:Nat) (H:SI P n ops B (k+m) (qF P n ops h k m F []) h) (he:qA P n ops h k m F []=qB P n ops h k m F []:=by kernel_rfl):SI P n ops B k F h:=Zz m [] H he
theorem V4 (hints:List Nat) (H:B (qF P n ops h k (ops.size-k) F hints) h) (he:qA P n ops h k (ops.size-k) F hints=qB P n ops h k (ops.size-k) F hints:=by kernel_rfl):SI P n ops B k F h:=
 Zz (ops.size-k) hints (Pz (Nat.ble_eq_true_of_le om) H) he
theorem Z1 (H:B (qF P n ops h k (ops.size-k) F []) h) (he:qA P n ops h k (ops.size-k) F []=qB P n ops h k (ops.size-k) F []:=by kernel_rfl):SI P n ops B k F h:=V4 [] H he
def CT (P:Program) (n:Nat) (ops:Array Oper) (h:List Res) (is done:List Nat) (F:Fr) (hints:List Nat):Fr:=
 match Jb P n ops h is done F hints with|some (F1,_)=>F1|none=>F
def Fj (P:Program) (n:Nat) (ops:Array Oper) (h:List Res) (is done:List Nat) (F:Fr) (hints:List Nat):List Nat:=
 match Jb P n ops h is done F hints with|some (_,es)=>es.flatMap (fun e=>e.2.map (·.1))|none=>[0]
def Fk (P:Program) (n:Nat) (ops:Array Oper) (h:List Res) (is done:List Nat) (F:Fr) (hints:List Nat):List Nat:=
 match Jb P n ops h is done F hints with|some (_,es)=>es.flatMap (fun e=>e.2.map (·.2))|none=>[1]
theorem ZW (f m:Nat) (is:List Nat) (hints:List Nat) (H:X7 P n ops B ((Fa P n ops h is done F hints).reverse++T) f (done++is) (CT P n ops h is done F hints) h) (hf:m=f+is.length:=by kernel_rfl)
  (he:Fj P n ops h is done F hints=Fk P n ops h is done F hints:=by kernel_rfl) (hs:Region.noSelect ops=true:=by kernel_rfl):X7 P n ops B T m done F h:=by
 unfold Fj Fk at he
 unfold Fa CT at H
 cases hr:Jb P n ops h is done F hints with
 | none=>rw [hr] at he;cases he
 | some y=>
  obtain ⟨F1,es⟩:=y
  rw [hr] at he H
  exact IE is hs hr (RS he) hf H
theorem Zp (f m:Nat) (is:List Nat) (H:X7 P n ops B ((Fa P n ops h is done F []).reverse++T) f (done++is) (CT P n ops h is done F []) h) (hf:m=f+is.length:=by kernel_rfl)
  (he:Fj P n ops h is done F []=Fk P n ops h is done F []:=by kernel_rfl) (hs:Region.noSelect ops=true:=by kernel_rfl):X7 P n ops B T m done F h:=ZW f m is [] H hf he hs
def Fe (ov F:Fr):Fr:=ov++F
theorem Ln {F':Fr} (hr:F.Le F'):∀(ov:Fr),ov.map (fun p=>(F.get p.1).like p.2)=ov.map (·.2)->F.Le (Fe ov F')
 | [],_=>hr
 | (t,y)::ov,he=>by
  simp only [Tk,List.cons.injEq] at he
  have h1:F.Le [(t,y)]:=OZ (by simp [he.1])
  intro w G v s hv
  have h2:=h1 w G v s hv
  have h3:=Ln hr ov he.2 w G v s hv
  show RV w G (match Nat.beq t s with|true=>y|false=>Fr.get (ov++F') s) v
  change RV w G (match Nat.beq t s with|true=>y|false=>Fr.get [] s) v at h2
  cases hq:Nat.beq t s with
  | true=>rw [hq] at h2;exact h2
  | false=>exact h3
theorem QI (m:Nat) (ov:Fr) (hints:List Nat) (H:SI P n ops B (k+m) (Fe ov (qF P n ops h k m F hints)) h) (he:qA P n ops h k m F hints=qB P n ops h k m F hints:=by kernel_rfl)
  (ho:ov.map (fun p=>((qF P n ops h k m F hints).get p.1).like p.2)=ov.map (·.2):=by kernel_rfl):SI P n ops B k F h:=
 Zz m hints (HF (h':=h) ⟨Ln (Fr.Le.refl _) ov ho,[],by simp⟩ H) he
theorem ZQ (m:Nat) (ov:Fr) (H:SI P n ops B (k+m) (Fe ov (qF P n ops h k m F [])) h) (he:qA P n ops h k m F []=qB P n ops h k m F []:=by kernel_rfl)
  (ho:ov.map (fun p=>((qF P n ops h k m F []).get p.1).like p.2)=ov.map (·.2):=by kernel_rfl):SI P n ops B k F h:=QI m ov [] H he ho
theorem Dm (f m:Nat) (is:List Nat) (ov:Fr) (hints:List Nat) (H:X7 P n ops B ((Fa P n ops h is done F hints).reverse++T) f (done++is) (Fe ov (CT P n ops h is done F hints)) h) (hf:m=f+is.length:=by kernel_rfl)
  (he:Fj P n ops h is done F hints=Fk P n ops h is done F hints:=by kernel_rfl) (hs:Region.noSelect ops=true:=by kernel_rfl)
  (ho:ov.map (fun p=>((CT P n ops h is done F hints).get p.1).like p.2)=ov.map (·.2):=by kernel_rfl):X7 P n ops B T m done F h:=
 ZW f m is hints (IH (Ln (Fr.Le.refl _) ov ho) H) hf he hs
theorem Yt (f m:Nat) (is:List Nat) (ov:Fr) (H:X7 P n ops B ((Fa P n ops h is done F []).reverse++T) f (done++is) (Fe ov (CT P n ops h is done F [])) h) (hf:m=f+is.length:=by kernel_rfl)
  (he:Fj P n ops h is done F []=Fk P n ops h is done F []:=by kernel_rfl) (hs:Region.noSelect ops=true:=by kernel_rfl)
  (ho:ov.map (fun p=>((CT P n ops h is done F []).get p.1).like p.2)=ov.map (·.2):=by kernel_rfl):X7 P n ops B T m done F h:=Dm f m is ov [] H hf he hs ho
def sF (ts:List Nat) (F ov:Fr):Fr:=ov++ts.map (fun t=>(t,F.get t))
def Zi (h:List Res) (i:Nat):Res:=match h[i]? with|some r=>r|none=>.tail Zc2 0
theorem Y0 (Inv:Fr->List Res->Nat->Fr->List Res->Prop) (m0:Nat) (F0:Fr) (h0:List Res) (hi:Inv F h m0 F0 h0) (hw:Tn F h F0 h0)
  (hr:∀m F' h',Inv F h m F' h'->Yz P n (YQ c) (M6 (Inv F h) m A) F' h') (hk:Xe c=6:=by kernel_rfl):Yz P n c A F h:=al (Inv F h) m0 F0 h0 hi hw hr hk
theorem Xv {y:Code} (K:Fr->List Res->Fr->List Res->Prop) (H:Yz P n c (Gi (K F h) A) F h) (hB:∀F' h',K F h F' h'->Yz P n y A F' h'):Yz P n c (C5 P n y A) F h:=Z2c (K F h) H hB
theorem AO {y:Code} {A2:WW} (K:Fr->List Res->Fr->List Res->Prop) (hA:∀F h,A .normal F h=Yz P n y A2 F h) (H:Yz P n c (Gi (K F h) A) F h) (hB:∀F' h',K F h F' h'->Yz P n y A2 F' h'):Yz P n c A F h:=Z2b (K F h) hA H hB
theorem Xp {c:Code} {A:WW} (ts:List Nat) (ov:Fr) (K:List Res->List Res) (H:SI P n ops (fun F1 h1=>Tn F1 h1 (sF ts F ov) (K h)) k F h) (hB:Yz P n c A (sF ts F ov) (K h)):SI P n ops (fun F h=>Yz P n c A F h) k F h:=Z9s (sF ts F ov) (K h) H hB
theorem Bv {c:Code} {A:WW} (ts:List Nat) (ov:Fr) (K:List Res->List Res) (H:X7 P n ops (fun F1 h1=>Tn F1 h1 (sF ts F ov) (K h)) T fuel done F h) (hB:Yz P n c A (sF ts F ov) (K h)):X7 P n ops (fun F h=>Yz P n c A F h) T fuel done F h:=Z4s (sF ts F ov) (K h) H hB
theorem X6 (k2:Nat) (ts:List Nat) (ov:Fr) (K:List Res->List Res) (J:SI P n ops B k2 (sF ts F ov) (K h)) (H:SI P n ops B k2 (sF ts F ov) (K h)->SI P n ops B k F h):SI P n ops B k F h:=H J
end
end Go.Abs
namespace Go.Abs
theorem fw {F F':Fr} {t u:Nat} {x y:AV} (hr:F.Le F') (hx:F.get t=x:=by kernel_rfl) (hy:F.get u=y:=by kernel_rfl):F.Le ((t,x)::(u,y)::F'):=fr (fr hr hy) hx
theorem fq {F F':Fr} {t u v w:Nat} {x y z q:AV} (hr:F.Le F') (hx:F.get t=x:=by kernel_rfl) (hy:F.get u=y:=by kernel_rfl) (hz:F.get v=z:=by kernel_rfl) (hq:F.get w=q:=by kernel_rfl):F.Le ((t,x)::(u,y)::(v,z)::(w,q)::F'):=fw (fw hr hz hq) hx hy
section
variable {P:Program} {n:Nat} {ops:Array Oper} {B:Fr->List Res->Prop} {k:Nat} {F:Fr} {h:List Res}
theorem iw {a b:Nat} (e:a=b) (H:SI P n ops B (k+1) (F.put (ZV ops k).dst (.i b)) h) (hk:Xo n ops F k=true:=by kernel_rfl) (he:Qf P (ZV ops k) F h 0=some (.i a,[]):=by kernel_rfl):SI P n ops B k F h:=io (.i b) (.i a) (li (by rw [e])) H hk he
theorem dw (i:Nat) {T:List (Nat×List Nat)} {fuel:Nat} {done:List Nat} {a b:Nat} (e:a=b) (H:X7 P n ops B ((i,[])::T) fuel (done++[i]) (F.put (ZV ops i).dst (.i b)) h) (he:Qf P (ZV ops i) F h 0=some (.i a,[]):=by kernel_rfl) (hs:Region.noSelect ops=true:=by kernel_rfl) (hk:Xo n ops F i=true:=by kernel_rfl)
 (hf:Region.free .any ops (WS ops done) i=true:=by kernel_rfl) (hr:(Region.ready .any ops (WS ops done)).contains i=true:=by kernel_rfl):X7 P n ops B T (fuel+1) done F h:=dn i (.i b) (.i a) (li (by rw [e])) H he hs hk hf hr
end
end Go.Abs
namespace Go.Abs
section
variable {P:Program} {n:Nat} {ops:Array Oper} {B:Fr->List Res->Prop} {k:Nat} {F:Fr} {h:List Res}
variable {T:List (Nat × List Nat)} {fuel:Nat} {done:List Nat} {c:Code} {A:WW}
theorem Zh (hv:Option Value) (j:Int) (sz:Nat) {es:List AV} {y:AV} (hget:es[j.toNat]? = some y) (hi:BJ P ops F k=some (.sl es hv,j,sz):=by kernel_rfl) (h0:0<=j:=by omega) (hy:y.leaves.length=sz:=by rfl) :
  XY P (ZV ops k) F h [] (.rp y.leaves):=Ea hi h0 hget hy
def HV (P:Program) (ops:Array Oper) (F:Fr) (h:List Res) (j k:Nat):Option (Nat × Nat × List AV):=
 match storeAt P ops F k,Wb [j] h with
 | some (b,o,xs),some [.obj b' ls]=>match Nat.ble (o+xs.length) ls.length with | true=>some (b,b',ls.take o++xs++ls.drop (o+xs.length)) | false=>none
 | _,_=>none
theorem Z1j {j k b:Nat} {l:List AV} (hs:HV P ops F h j k=some (b,b,l)):∃o xs ls,storeAt P ops F k=some (b,o,xs)/\Wb [j] h=some [.obj b ls]/\Nat.ble (o+xs.length) ls.length=true/\ls.take o++xs++ls.drop (o+xs.length)=l:=by
 unfold HV at hs
 split at hs
 ·rename_i b1 o xs b2 ls h1 h2
  split at hs
  ·rename_i h3
   cases hs
   exact ⟨o,xs,ls,h1,h2,h3,rfl⟩
  ·cases hs
 ·cases hs
theorem Zy (j b:Nat) (ls':List AV) (H:SI P n ops B (k+1) F (.obj b ls'::XC [j] h)) (hk:Xo n ops F k=true:=by kernel_rfl) (hs:HV P ops F h j k=some (b,b,ls'):=by kernel_rfl):SI P n ops B k F h:=
 let ⟨_,_,_,h1,h2,h3,h4⟩:=Z1j hs
 iS j b _ _ _ ls' H hk h1 h2 h3 h4
theorem X3 (i j:Nat) (js bs:List Nat) (b:Nat) (ls':List AV) (H:X7 P n ops B (T.filter fun t=>!Vs ops i t.1) fuel (done++[i]) F (.obj b ls'::XC [j] h))
  (hk:Xo n ops F i=true:=by kernel_rfl) (hs:HV P ops F h j i=some (b,b,ls'):=by kernel_rfl) (ho:UI ops i T=bs:=by kernel_rfl)
  (hj:js.map (fun q=>(V2 (XC [j] h))[q]?)=bs.map some:=by kernel_rfl):VZ P n ops B T fuel done F h i:=
 let ⟨_,_,_,h1,h2,h3,h4⟩:=Z1j hs
 dS i j js bs b _ _ _ ls' H hk h1 h2 h3 h4 ho hj
theorem ZD (q:Nat) (H:SI P n ops B (k+1) (F.put (ZV ops k).dst (.i (q+1:Nat))) h) (hb:-9223372036854775808<=((q+1:Nat):Int)/\((q+1:Nat):Int)<=9223372036854775807:=by omega)
  (hk:Xo n ops F k=true:=by kernel_rfl) (ha:A0 ops F k=some ((q:Int)+1):=by kernel_rfl):SI P n ops B k F h:=ia ((q+1:Nat):Int) ((q:Int)+1) H hb om hk ha
theorem Zw (is:List Nat) {f:FuncId} {xs:List AV} {h1 h2:List Res} {r0:AV} (H:WZ P f xs h1 (fun r h=>r=r0/\h=h2)) (hK:SI P n ops B (k+1) (F.put (ZV ops k).dst r0) (h2++XC is h))
  (hk:Xo n ops F k=true:=by kernel_rfl) (hc:A8 P ops F k=some (f,xs):=by kernel_rfl) (hp:Wb is h=some h1:=by kernel_rfl):SI P n ops B k F h:=
 ic is H (fun r h' hr=>by obtain ⟨rfl,rfl⟩:=hr;exact hK) hk hc hp
theorem YH (i:Nat) (is js bs:List Nat) {f:FuncId} {xs:List AV} {h1 h2:List Res} {r0:AV} (H:WZ P f xs h1 (fun r h=>r=r0/\h=h2))
  (hK:X7 P n ops B (T.filter fun t=>!Vs ops i t.1) fuel (done++[i]) (F.put (ZV ops i).dst r0) (h2++XC is h))
  (hk:Xo n ops F i=true:=by kernel_rfl) (hc:A8 P ops F i=some (f,xs):=by kernel_rfl)
  (hp:Wb is h=some h1:=by kernel_rfl) (ho:UI ops i T=bs:=by kernel_rfl) (hj:js.map (fun j=>(V2 (XC is h))[j]?)=bs.map some:=by kernel_rfl):VZ P n ops B T fuel done F h i:=
 dc i is js bs H (fun r h' hr=>by obtain ⟨rfl,rfl⟩:=hr;exact hK) hk hc hp ho hj
theorem WA (p:Prop) [Decidable p] (h1:p->Yz P n (YQ c) A F h) (h2:¬p->Yz P n (U3 c) A F h) (hk:Xe c=4:=by kernel_rfl) (hc:F.ev (AN c)=.val (.bool (decide p)):=by kernel_rfl):Yz P n c A F h:=
 ac (decide p) decide_eq_true_iff h1 h2 hk hc
theorem Y1 (H:Yz P n (U3 c) A (qF P n (XJ (YQ c)) h 0 ((XJ (YQ c)).size-0) F []) h) (hk:Xe c=3:=by kernel_rfl) (hk1:Xe (YQ c)=1:=by kernel_rfl)
  (he:qA P n (XJ (YQ c)) h 0 ((XJ (YQ c)).size-0) F []=qB P n (XJ (YQ c)) h 0 ((XJ (YQ c)).size-0) F []:=by kernel_rfl):Yz P n c A F h:=ar (Z1 H he) hk hk1
theorem Qz (hints:List Nat) (H:Yz P n (U3 c) A (qF P n (XJ (YQ c)) h 0 ((XJ (YQ c)).size-0) F hints) h) (hk:Xe c=3:=by kernel_rfl) (hk1:Xe (YQ c)=1:=by kernel_rfl)
  (he:qA P n (XJ (YQ c)) h 0 ((XJ (YQ c)).size-0) F hints=qB P n (XJ (YQ c)) h 0 ((XJ (YQ c)).size-0) F hints:=by kernel_rfl):Yz P n c A F h:=ar (V4 hints H he) hk hk1
theorem Vv (H:A .normal (qF P n (XJ c) h 0 ((XJ c).size-0) F []) h) (hk:Xe c=1:=by kernel_rfl) (he:qA P n (XJ c) h 0 ((XJ c).size-0) F []=qB P n (XJ c) h 0 ((XJ c).size-0) F []:=by kernel_rfl):Yz P n c A F h:=az (Z1 H he) hk
theorem Yf (m:Nat) (H:SI P n (XJ (YQ c)) (fun F h=>Yz P n (U3 c) A F h) (0+m) (qF P n (XJ (YQ c)) h 0 m F []) h) (hk:Xe c=3:=by kernel_rfl) (hk1:Xe (YQ c)=1:=by kernel_rfl)
  (he:qA P n (XJ (YQ c)) h 0 m F []=qB P n (XJ (YQ c)) h 0 m F []:=by kernel_rfl):Yz P n c A F h:=ar (Z0 m H he) hk hk1
theorem Zq (m:Nat) (hints:List Nat) (H:SI P n (XJ (YQ c)) (fun F h=>Yz P n (U3 c) A F h) (0+m) (qF P n (XJ (YQ c)) h 0 m F hints) h) (hk:Xe c=3:=by kernel_rfl) (hk1:Xe (YQ c)=1:=by kernel_rfl)
  (he:qA P n (XJ (YQ c)) h 0 m F hints=qB P n (XJ (YQ c)) h 0 m F hints:=by kernel_rfl):Yz P n c A F h:=ar (Zz m hints H he) hk hk1
theorem Xd (hs:SI P n (XJ (YQ (YQ c))) (fun F h=>Yz P n (U3 (YQ c)) (C5 P n (U3 c) A) F h) 0 F h) (hk:Xe c=3:=by kernel_rfl) (hk0:Xe (YQ c)=3:=by kernel_rfl) (hk1:Xe (YQ (YQ c))=1:=by kernel_rfl):Yz P n c A F h:=
 aq (ar hs hk0 hk1) hk
theorem YM (m:Nat) (H:SI P n (XJ (YQ (YQ c))) (fun F h=>Yz P n (U3 (YQ c)) (C5 P n (U3 c) A) F h) (0+m) (qF P n (XJ (YQ (YQ c))) h 0 m F []) h) (hk:Xe c=3:=by kernel_rfl) (hk0:Xe (YQ c)=3:=by kernel_rfl) (hk1:Xe (YQ (YQ c))=1:=by kernel_rfl)
  (he:qA P n (XJ (YQ (YQ c))) h 0 m F []=qB P n (XJ (YQ (YQ c))) h 0 m F []:=by kernel_rfl):Yz P n c A F h:=Xd (Z0 m H he) hk hk0 hk1
theorem Ys (m:Nat) (hints:List Nat) (H:SI P n (XJ (YQ (YQ c))) (fun F h=>Yz P n (U3 (YQ c)) (C5 P n (U3 c) A) F h) (0+m) (qF P n (XJ (YQ (YQ c))) h 0 m F hints) h) (hk:Xe c=3:=by kernel_rfl) (hk0:Xe (YQ c)=3:=by kernel_rfl) (hk1:Xe (YQ (YQ c))=1:=by kernel_rfl)
  (he:qA P n (XJ (YQ (YQ c))) h 0 m F hints=qB P n (XJ (YQ (YQ c))) h 0 m F hints:=by kernel_rfl):Yz P n c A F h:=Xd (Zz m hints H he) hk hk0 hk1
theorem Y6 (H:Yz P n (U3 (YQ c)) (C5 P n (U3 c) A) (qF P n (XJ (YQ (YQ c))) h 0 ((XJ (YQ (YQ c))).size-0) F []) h) (hk:Xe c=3:=by kernel_rfl) (hk0:Xe (YQ c)=3:=by kernel_rfl) (hk1:Xe (YQ (YQ c))=1:=by kernel_rfl)
  (he:qA P n (XJ (YQ (YQ c))) h 0 ((XJ (YQ (YQ c))).size-0) F []=qB P n (XJ (YQ (YQ c))) h 0 ((XJ (YQ (YQ c))).size-0) F []:=by kernel_rfl):Yz P n c A F h:=aq (Y1 H hk0 hk1 he) hk
theorem Zm (h0:A .ret (qF P n ops h k (ops.size-k) F []) h) (hk:Xe c=8:=by kernel_rfl) (he:qA P n ops h k (ops.size-k) F []=qB P n ops h k (ops.size-k) F []:=by kernel_rfl):SI P n ops (fun F h=>Yz P n c A F h) k F h:=Z1 (ZY h0 hk) he
theorem Y2 (p:Prop) [Decidable p] (h1:p->Yz P n (YQ c) A (qF P n ops h k (ops.size-k) F []) h) (h2:¬p->Yz P n (U3 c) A (qF P n ops h k (ops.size-k) F []) h) (hk:Xe c=4:=by kernel_rfl)
  (hc:Fr.ev (qF P n ops h k (ops.size-k) F []) (AN c)=.val (.bool (decide p)):=by kernel_rfl) (he:qA P n ops h k (ops.size-k) F []=qB P n ops h k (ops.size-k) F []:=by kernel_rfl):SI P n ops (fun F h=>Yz P n c A F h) k F h:=Z1 (WA p h1 h2 hk hc) he
theorem YB (b:Bool) {p:Prop} (hp:b=true↔p) (h1:p->Yz P n (YQ c) A (qF P n ops h k (ops.size-k) F []) h) (h2:¬p->Yz P n (U3 c) A (qF P n ops h k (ops.size-k) F []) h) (hk:Xe c=4:=by kernel_rfl)
  (hc:Fr.ev (qF P n ops h k (ops.size-k) F []) (AN c)=.val (.bool b):=by kernel_rfl) (he:qA P n ops h k (ops.size-k) F []=qB P n ops h k (ops.size-k) F []:=by kernel_rfl):SI P n ops (fun F h=>Yz P n c A F h) k F h:=Z1 (ac b hp h1 h2 hk hc) he
end
abbrev Yx (x:AV):AV->List Res->Prop:=fun r h=>r=x/\h=[]
theorem Zt {α:Type} (xs:List α) (j:Nat) (h:j<xs.length):∃x,xs[j]? = some x:=B1 h
theorem MO {P:Program} {F:Fr} {h:List Res} {fn:Func} {e:Exit} {r:AV} (he:(match e with|.normal|.ret=>true|_=>false)=true:=by kernel_rfl) (hr:Kd P F h fn.results.toList []=some ([r],[]):=by kernel_rfl) :
  Bp P fn (fun r' h'=>r'=r/\h'=[]) e F h:=r1 [] ⟨rfl,rfl⟩ rfl he hr
theorem ZM {P:Program} {F:Fr} {h:List Res} {fn:Func} {e:Exit} {r:AV} (x:AV) (hle:Zd (Bd [x]) r) (he:(match e with|.normal|.ret=>true|_=>false)=true:=by kernel_rfl) (hr:Kd P F h fn.results.toList []=some ([x],[]):=by kernel_rfl) :
  Bp P fn (fun r' h'=>r'=r/\h'=[]) e F h:=r2 [] [x] ⟨rfl,rfl⟩ hle rfl he hr
theorem ZI (k:Nat) {F F':Fr} {t:Nat} {y:Int} (hr:F.Le F') (hx:F.get t=.i (k+1:Nat):=by kernel_rfl) (e:((k+1:Nat):Int)=y:=by exact ob):F.Le ((t,.i y)::F'):=fc (li e) hr hx
theorem Ya {F F':Fr} {t:Nat} {y:Int} (hr:F.Le F') (hx:F.get t=.i 0:=by kernel_rfl) (e:0=y:=by exact ob):F.Le ((t,.i y)::F'):=fc (li e) hr hx
theorem Zl (x:Bool) {p:Prop} (q:p) {F F':Fr} {t:Nat} {y:Bool} (hr:F.Le F') (hx:F.get t=.b x:=by kernel_rfl) (e:p->x=y:=by intro q;simp only [q];rfl):F.Le ((t,.b y)::F'):=fc (lb (e q)) hr hx
theorem Zv {F F':Fr} {h h1 h':List Res} (m:Nat) (hF:F.Le F') (e:h1=h':=by exact rfl) (hp:Wb (List.replicate m 0) h=some h1:=by kernel_rfl):Tn F h F' h':=wk (List.replicate m 0) hF e hp
theorem ZJ {α β:Type} {p q:α->β->Prop} {a:α} {b:β} (x:p a b) (y:q a b):∃a b,p a b/\q a b:=⟨a,b,x,y⟩
theorem ZF {α β:Type} {q:α->β->Prop} {m' m:Nat} {r:Nat->α->β->Prop} {a:α} {b:β} (x:r m' a b) (y:q a b) (e:m'<m:=by exact ob):∃m' a b,m'<m/\r m' a b/\q a b:=⟨m',a,b,e,x,y⟩
theorem ZE (m:Nat) {P:Program} {f:FuncId} {fn:Func} {xs:List AV} {h:List Res} {R:AV->List Res->Prop} (hf:P.funcs[f]? = some fn) (ha:Yz P m (Ge fn) (Bp P fn R) (Ch 0 xs) h) (hb:fn.body.isSome=true:=by kernel_rfl) (hn:fn.ntmps=m:=by kernel_rfl)
  (hle:Nat.ble xs.length m=true:=by kernel_rfl):WZ P f xs h R:=enter hf hb hn hle ha
end Go.Abs
end
namespace Go.Abs
section
variable {P:Program} {n:Nat} {c:Code} {A:WW} {F:Fr} {h h2:List Res} {ops:Array Oper} {B:Fr->List Res->Prop} {k:Nat}
variable {T:List (Nat × List Nat)} {fuel:Nat} {done:List Nat}
theorem G4 (t j:Nat) {v:Hd} {xs:LI} (H:Yz P n c A ((t,ZH xs v.v)::F) (.tail v.v 1::XC [j] h)) (hF':F.get t=.h v:=by kernel_rfl) (hp:Wb [j] h=some [rV v xs]:=by kernel_rfl):Yz P n c A F h:=by
 intro w G a hF hh
 have hp':=Uo (VM hp)
 obtain ⟨G',h1,h2',h3⟩:=Zi5 (hh.perm hp') (R3 xs)
 have e:=h2'.perm hp'.symm (TI _)
 have hF2:=hF.mono (e.agree hh)
 have hv:=hF2.get t
 rw [hF'] at hv
 have hv:=hv.val_inv
 refine wp_mono (H w G' a ⟨hF2.defers,hF2.size,fun s=>?_⟩ h1) fun e' a' w' hc=>hc.trans e
 show RV w G' (match Nat.beq t s with|true=>_|false=>Fr.get F s) _
 cases hb:Nat.beq t s with
 | true=>
  have:=T1 hb
  subst this
  rw [hv]
  exact h3
 | false=>exact hF2.get s
end
theorem ro {b:Nat} {ls ls':List AV} {t t':List Res} (h:ls=ls') (e:t=t'):Res.obj b ls::t=.obj b ls'::t':=h▸e▸rfl
section
variable {P:Program} {n:Nat} {F:Fr} {h:List Res} {ops:Array Oper} {B:Fr->List Res->Prop} {k:Nat}
variable {T:List (Nat × List Nat)} {fuel:Nat} {done:List Nat}
end
section
variable {P:Program} {n:Nat} {F:Fr} {h:List Res} {ops:Array Oper} {B:Fr->List Res->Prop} {k:Nat}
variable {T:List (Nat × List Nat)} {fuel:Nat} {done:List Nat}
theorem dK {c:Code} {A:WW} (K:Fr->List Res->Prop) (H:X7 P n ops (fun F h=>∃F' h',K F' h'/\Tn F h F' h') T fuel done F h) (hB:∀F' h',K F' h'->Yz P n c A F' h') :
  X7 P n ops (fun F h=>Yz P n c A F h) T fuel done F h:=by
 intro Q w G a SL hF hh hQ hcl hcov hk
 exact H Q w G a SL hF hh hQ hcl hcov fun F2 h2 G2 a2 w2 b1 b2 b3 b4=>let ⟨_,_,k1,k2⟩:=b1;hk F2 h2 G2 a2 w2 (Dd k2 (hB _ _ k1)) b2 b3 b4
theorem Bw {c:Code} {A:WW} (K:Fr->List Res->Fr->List Res->Prop) (H:X7 P n ops (fun F1 h1=>∃F' h',K F h F' h'/\Tn F1 h1 F' h') T fuel done F h) (hB:∀F' h',K F h F' h'->Yz P n c A F' h') :
  X7 P n ops (fun F h=>Yz P n c A F h) T fuel done F h:=dK (K F h) H hB
theorem Uj (i j:Nat) (Hi:VZ P n ops B T fuel done F h i) (Hj:VZ P n ops B T fuel done F h j) (hr:Region.ready .any ops (WS ops done)=[i,j]:=by kernel_rfl):X7 P n ops B T (fuel+1) done F h:=
 NR hr rfl fun q hq=>by
  rcases YN.1 hq with rfl|hq
  ·exact Hi
  ·rw [Xy.1 hq];exact Hj
def D7 (s:Int):Int:=IntKind.i64.wrap s
theorem Zhe {s:Int} (ha:A0 ops F k=some s):XY P (ZV ops k) F h [] (.val (.int .i64 (D7 s))):=by
 unfold A0 at ha
 generalize hoo:ZV ops k=o at ha
 obtain ⟨dst,op,type,pos,after,guard⟩:=o
 cases op<;>simp only at ha<;>try (cases ha)
 rename_i bop xt x y yt
 split at ha
 ·rename_i a b h1 h2
  have key:∀v,EH bop .i64 a b=some (.int .i64 (IntKind.i64.wrap v))->v=s->XY P { dst:=dst,op:=.binOp bop xt x y yt,type:=type,pos:=pos,after:=after,guard:=guard } F h [] (.val (.int .i64 (D7 s))):=by
   intro v hv hvs
   have he:Qf P { dst:=dst,op:=.binOp bop xt x y yt,type:=type,pos:=pos,after:=after,guard:=guard } F h 0=some (.val (.int .i64 (IntKind.i64.wrap v)),[]):=by
    simp only [Qf,h1,h2,FB,hv]
   have:=Dw he (by simp)
   rw [hvs] at this
   simpa [D7] using this
  split at ha
  ·cases ha;exact key (a+b) rfl rfl
  ·cases ha;exact key (a-b) rfl rfl
  ·cases ha;exact key (a*b) rfl rfl
  ·cases ha
 ·cases ha
theorem iW (s:Int) (H:SI P n ops B (k+1) (F.put (ZV ops k).dst (.val (.int .i64 (D7 s)))) h) (hk:Xo n ops F k=true:=by kernel_rfl) (ha:A0 ops F k=some s:=by kernel_rfl):SI P n ops B k F h:=
 ET (ks:=[]) hk (Zhe ha) H
end
theorem JX.mono {w:World} {G G':Ym} {v:Value} {k:Nat} {ls:List AV} (hA:VY G w w G') (h:JX w G v k ls):JX w G' v k ls:=by
 rcases h with ⟨rfl,h0⟩|⟨g,len,cap,cur,el,rfl,h1,h2,h3,h4,h5⟩
 ·exact .inl ⟨rfl,h0⟩
 ·exact .inr ⟨g,len,cap,cur,el,rfl,h1,h2,h3,h4,h5.mono hA⟩
theorem QQ.same {w:World} {G G':Ym} {r:Res} (hA:VY G w w G') (h:QQ w G r):QQ w G' r:=by
 cases r with
 | obj b ls=>obtain ⟨cs,e,h1,h2⟩:=h;exact ⟨cs,e,h1,h2.mono hA⟩
 | tail v k=>exact h
 | ge s=>exact h
 | vec v ls=>
  rcases h with ⟨rfl,h0⟩|⟨g,cap,cur,el,rfl,h1,h2,h3,h4⟩
  ·exact .inl ⟨rfl,h0⟩
  ·exact .inr ⟨g,cap,cur,el,rfl,h1,h2,h3,h4.mono hA⟩
 | many ts=>exact h
 | own B m=>exact h
 | row v k ls=>exact h.mono hA
theorem YK.alloc_rrow {w:World} {G:Ym} {h:List Res} (hh:YK w G h) (cs:Array Value) (t:TypeId) {ls:List AV} {len cap k:Nat} (hcap:len<=cap) (XO:cs.size=cap*k) (hl:ls.length=len*k)
  (hls:YT w G ls (cs.toList.take (len*k))) :
  YK (w.alloc (.cells cs t)) G (.row (.slice (some ⟨w.heap.size,0,none⟩) len cap) k ls::h)/\X5 w G h (w.alloc (.cells cs t)) G (.row (.slice (some ⟨w.heap.size,0,none⟩) len cap) k ls::h):=by
 have hA:VY G w (w.alloc (.cells cs t)) G:=⟨fun b j hg=>Ey w _ (hh.lt b j hg),fun _ _ h=>h⟩
 refine hh.alloc (.cells cs t) (h':=[.row (.slice (some ⟨w.heap.size,0,none⟩) len cap) k ls]) (fun _ _ h=>h) (fun _ _ h=>.inl h) ?_ ?_ (Ej _ _) ?_
 ·intro r hr
  rw [Xy.1 hr]
  exact .inr ⟨_,len,cap,cs,t,rfl,GN w _,hcap,XO,hl,hls.mono hA⟩
 ·intro r hr b j hf
  rw [Xy.1 hr] at hf
  exact hf
 ·intro r hr b j hf hg
  rw [Xy.1 hr] at hf
  have:=hh.lt b j hg
  have:b=w.heap.size:=hf
  omega
theorem YK.rwrite {w:World} {G:Ym} {h2:List Res} {g len cap k:Nat} {ls ls':List AV} (hh:YK w G (.row (.slice (some ⟨g,0,none⟩) len cap) k ls::h2)) {cs cs':Array Value} {e:TypeId}
  (hb:w.heap[g]? = some (.cells cs e (0,0))) (XO:cs'.size=cs.size) (hle:len<=cap) (hcap:cs.size=cap*k) (hl:ls'.length=len*k) (hls:YT w G ls' (cs'.toList.take (len*k))) :
  YK (w.setRow g cs') G (.row (.slice (some ⟨g,0,none⟩) len cap) k ls'::h2) /\
   X5 w G (.row (.slice (some ⟨g,0,none⟩) len cap) k ls::h2) (w.setRow g cs') G (.row (.slice (some ⟨g,0,none⟩) len cap) k ls'::h2):=by
 have hmem:Res.row (.slice (some ⟨g,0,none⟩) len cap) k ls∈Res.row (.slice (some ⟨g,0,none⟩) len cap) k ls::h2:=Xa ..
 have hA:VY G w (w.setRow g cs') G:=⟨fun c j hg=>by
  have hne:c≠g:=fun he=>hh.prot _ hmem c j he hg
  simp [World.cell?,VO w g c cs' hne],fun _ _ h=>h⟩
 have hpw:=Vg.1 hh.apart
 have hother:∀r∈h2,∀c j,r.fp c j->c≠g:=fun r hr c j hf hc=>hpw.1 r hr c j hc hf
 have e1:X5 w G [.row (.slice (some ⟨g,0,none⟩) len cap) k ls] (w.setRow g cs') G [.row (.slice (some ⟨g,0,none⟩) len cap) k ls']:=by
  refine ⟨rfl,rfl,rfl,by simp [World.setRow],fun _ _ h=>h,?_,fun _ _ _ h=>.inl h,?_⟩
  ·intro c hc
   by_cases hcb:c=g
   ·subst hcb
    exact .inr ⟨cs,cs',e,(0,0),hb,setRow_heap w c cs cs' e (0,0) hb,XO,fun j hj=>absurd ⟨_,Xa ..,rfl⟩ hj⟩
   ·exact .inl (VO w g c cs' hcb)
  ·rintro c j _ ⟨r,hr,hf⟩
   rw [Xy.1 hr] at hf
   exact ⟨_,Xa ..,hf⟩
 have e2:YK (w.setRow g cs') G [.row (.slice (some ⟨g,0,none⟩) len cap) k ls']:=by
  refine ⟨fun r hr=>?_,Ej _ _,fun r hr c j hf hg=>?_,fun c j hg=>?_⟩
  ·rw [Xy.1 hr]
   exact .inr ⟨g,len,cap,cs',e,rfl,setRow_heap w g cs cs' e (0,0) hb,hle,XO.trans hcap,hl,hls.mono hA⟩
  ·rw [Xy.1 hr] at hf
   exact hh.prot _ hmem c j hf hg
  ·have:=hh.lt c j hg
   simpa [World.setRow] using this
 exact YK.frame (h:=[.row (.slice (some ⟨g,0,none⟩) len cap) k ls]) (k:=h2) hh e1 e2
theorem Zei {w:World} {G:Ym} {h:List Res} {k:Nat} (hh:YK w G h):YK w G (.row (.slice none 0 0) k []::h)/\X5 w G h w G (.row (.slice none 0 0) k []::h):=
 ⟨⟨fun r hr=>by
   rcases YN.1 hr with rfl|hr
   ·exact .inl ⟨rfl,rfl⟩
   ·exact hh.ok r hr,Vg.2 ⟨fun _ _ _ _ hf=>hf.elim,hh.apart⟩,fun r hr b o hf hg=>by
   rcases YN.1 hr with rfl|hr
   ·exact hf.elim
   ·exact hh.prot r hr b o hf hg,hh.lt⟩,
  ⟨rfl,rfl,rfl,X0 _,fun _ _ h=>h,fun _ _=>.inl rfl,fun _ _ _ h=>.inl h,fun b o _ ⟨r,hr,hf⟩=>by
   rcases YN.1 hr with rfl|hr
   ·exact hf.elim
   ·exact ⟨r,hr,hf⟩⟩⟩
theorem JX.form {w:World} {G:Ym} {v:Value} {k:Nat} {ls:List AV} (h:JX w G v k ls):∃a len cap,v=.slice a len cap/\ls.length=len*k:=by
 rcases h with ⟨rfl,rfl⟩|⟨g,len,cap,cur,e,rfl,_,_,_,h4,_⟩
 ·exact ⟨none,0,0,rfl,by simp⟩
 ·exact ⟨_,len,cap,rfl,h4⟩
theorem E3 {w:World} {G:Ym} {v:Value} {k:Nat} {es:List AV} {h2:List Res} (hh:YK w G (.row v k (Zg es)::h2)) (hes:∀y∈es,y.leaves.length=k) (hk:0<k) :
  ∃G',YK w G' (.tail v k::h2)/\X5 w G (.row v k (Zg es)::h2) w G' (.tail v k::h2)/\RV w G' (.sl es (some v)) v:=by
 have hpw:=Vg.1 hh.apart
 have hfl:=TE es hes
 rcases hh.ok _ (Xa ..) with ⟨rfl,h0⟩|⟨g,len,cap,cur,e,rfl,h1,h3,h4,h5,h6⟩
 ·have hes0:es=[]:=by
   cases es with
   | nil=>rfl
   | cons y r=>
    have h7:0<(r.length+1)*k:=Nat.mul_pos om hk
    rw [h0,Yo] at hfl
    rw [<-hfl] at h7
    simp at h7
  subst hes0
  obtain ⟨k1,k2⟩:=HT (sz:=k) (hh.sub (Ca _ _))
  refine ⟨G,k1,⟨rfl,rfl,rfl,X0 _,fun _ _ h=>h,fun _ _=>.inl rfl,fun _ _ _ h=>.inl h,?_⟩,.nil (by simp)⟩
  rintro b o _ ⟨r,hr,hf⟩
  rcases YN.1 hr with rfl|hr
  ·exact hf.elim
  ·exact ⟨r,Xj _ hr,hf⟩
 ·have hlen:len=es.length:=Ia hk (h5.symm.trans hfl)
  subst hlen
  let G':Ym:=fun b o=>G b o∨(b=g/\o<es.length*k)
  have hA:VY G w w G':=⟨fun _ _ _=>rfl,fun _ _ h=>.inl h⟩
  have hmem:Res.row (.slice (some ⟨g,0,none⟩) es.length cap) k (Zg es)∈Res.row (.slice (some ⟨g,0,none⟩) es.length cap) k (Zg es)::h2:=Xa ..
  refine ⟨G',⟨fun r hr=>?_,Vg.2 ⟨fun r hr b o f1 f2=>hpw.1 r hr b o f1.1 f2,hpw.2⟩,fun r hr b o hf hg=>?_,fun b o hg=>?_⟩,
   ⟨rfl,rfl,rfl,X0 _,fun _ _ h=>.inl h,fun _ _=>.inl rfl,fun b o _ hg=>hg.imp id fun ⟨e1,_⟩=>⟨_,hmem,e1⟩,?_⟩,?_⟩
  ·rcases YN.1 hr with rfl|hr
   ·exact .inr ⟨g,es.length,cap,cur,e,rfl,h1,h3,h4⟩
   ·exact (hh.ok r (Xj _ hr)).same hA
  ·rcases YN.1 hr with rfl|hr2
   ·obtain ⟨hbg,hf2⟩:=hf
    rcases hg with hg|⟨_,hg⟩
    ·exact hh.prot _ hmem b o hbg hg
    ·omega
   ·rcases hg with hg|⟨hbg,_⟩
    ·exact hh.prot r (Xj _ hr2) b o hf hg
    ·exact hpw.1 r hr2 b o hbg hf
  ·rcases hg with hg|⟨rfl,_⟩
   ·exact hh.lt b o hg
   ·exact (UP.1 h1).1
  ·rintro b o _ ⟨r,hr,hf⟩
   rcases YN.1 hr with rfl|hr
   ·exact ⟨_,hmem,hf.1⟩
   ·exact ⟨r,Xj _ hr,hf⟩
  ·refine .sl (k:=k) (fun x hx=>by cases hx;rfl) h3 (Vh.of_flat es hes (Wv.of_cells (h6.mono hA) fun j u hj=>?_))
   have hjl:j<es.length*k:=by
    have:=(Xh.1 hj).1
    have h7:=h6.length
    omega
   rw [Qt,Zk hjl] at hj
   refine ⟨?_,.inr ⟨rfl,by omega⟩⟩
   rw [Wj,cell_of_row w g j cur e (0,0) h1]
   simpa using hj
section
variable {P:Program} {n:Nat} {ops:Array Oper} {B:Fr->List Res->Prop} {k:Nat} {F:Fr} {h h2:List Res}
theorem HW {k:Nat}:Vi h (.row (.slice none 0 0) k []::h):=fun _ _ hh=>let ⟨a,b⟩:=Zei hh;⟨_,a,b⟩
theorem Zh5 (j:Nat) {v:Value} {kk m:Nat} {ls:List AV} (hl:DJ P ops F k=some (.val v)) (hj:h[j]? = some (.row v kk ls)) (hm:ls.length=m*kk) (hk:0<kk):XY P (ZV ops k) F h [] (.val (.int .i64 m)):=by
 unfold DJ at hl
 generalize hoo:ZV ops k=o at hl
 obtain ⟨dst,op,type,pos,after,guard⟩:=o
 cases op<;>simp only at hl<;>try (cases hl)
 rename_i c
 obtain ⟨callee,args,tys⟩:=c
 simp only at hl
 split at hl
 ·rename_i x t hargs htys
  split at hl
  ·rename_i el hu
   simp only [Wp] at hl
   intro n w G a hF hh
   have hv:=hF.ev x
   rw [hl] at hv
   have hv:=hv.val_inv
   obtain ⟨ad,len,cap,rfl,hlen⟩:=JX.form (hh.ok _ (Y3 hj))
   have:len=m:=Ia hk (hlen.symm.trans hm)
   subst this
   have e1:args=#[x]:=by rw [<-UY (xs:=args),hargs]
   have e2:tys=#[t]:=by rw [<-UY (xs:=tys),htys]
   subst e1;subst e2
   exact ⟨_,.val,fun w' _ _=>by simp [execOp,resolve,invoke,builtin,hv,Builtin.len_,Uq hu,goInt]⟩
  ·cases hl
 ·cases hl
def M5 (ops:Array Oper) (F:Fr) (k:Nat):Option (TypeId × AV):=
 match (ZV ops k).op with
 | .load t x=>some (t,F.ev x)
 | _=>none
theorem Zh6 (j:Nat) {g len cap kk o:Nat} {ls zs:List AV} {t:TypeId} {y:AV} (hl:M5 ops F k=some (t,.val (.pointer (some ⟨g,o,none⟩)))) (hj:h[j]? = some (.row (.slice (some ⟨g,0,none⟩) len cap) kk ls))
  (hz:(ls.drop o).take zs.length=zs) (hy:Ba P t zs=some y):XY P (ZV ops k) F h [g] y:=by
 unfold M5 at hl
 generalize hoo:ZV ops k=q at hl
 obtain ⟨dst,op,type,pos,after,guard⟩:=q
 cases op<;>simp only at hl<;>try (cases hl)
 rename_i t' x
 intro n w G a hF hh
 simp only [Wp,Prod.mk.injEq] at hl
 obtain ⟨rfl,hl⟩:=hl
 have hv:=hF.ev x
 rw [hl] at hv
 have hv:=hv.val_inv
 rcases hh.ok _ (Y3 hj) with ⟨h0,_⟩|⟨g',len',cap',cur,e,h0,h1,h2,h3,h4,h5⟩
 ·cases h0
 ·cases h0
  have hc:=(h5.drop o).take zs.length
  rw [hz] at hc
  obtain ⟨v,j1,j2⟩:=HE (P:=P) (b:=g) (o:=o) hy hc
  refine ⟨v,j1,fun w' _ hw=>?_⟩
  have hrow:=hw g (by simp)
  rw [h1] at hrow
  simp only [execOp,hv]
  refine VF ?_
  simp only [Instr.loadAt,Instr.sureAddr,Sem.run_bind,Sem.run_pure,Result.andThen_ok]
  refine j2 w' fun j u hj=>?_
  rw [cell_of_row w' g (o+j) cur e (0,0) hrow]
  rw [Qt] at hj
  split at hj
  ·rw [List.getElem?_drop,Qt] at hj
   split at hj
   ·simpa using hj
   ·cases hj
  ·cases hj
theorem RH {K:Fr->List Res->Prop} {g len cap kk:Nat} {ls xs:List AV} {i:Nat} (hs:storeAt P ops F k=some (g,i,xs)) (hlt:i+xs.length<=ls.length)
  (hK:K F (.row (.slice (some ⟨g,0,none⟩) len cap) kk (ls.take i++xs++ls.drop (i+xs.length))::h2)):WO P n (ZV ops k) F (.row (.slice (some ⟨g,0,none⟩) len cap) kk ls::h2) K:=by
 unfold storeAt at hs
 generalize hoo:ZV ops k=q at hs
 obtain ⟨dst,op,type,pos,after,guard⟩:=q
 cases op<;>simp only at hs<;>try (cases hs)
 rename_i t x z
 split at hs
 ·rename_i b' o' inf hx hi
  split at hs
  ·rename_i hc
   simp only [Xb] at hc
   simp only [Wp,Prod.mk.injEq] at hs
   obtain ⟨rfl,rfl,hz⟩:=hs
   intro Q w G a hF hh
   have hvx:=hF.ev x
   rw [hx] at hvx
   have hvx:=hvx.val_inv
   have hvy:=hF.ev z
   have hcs:=hvy.cells hc.2.1
   rw [hz] at hcs hc
   have hone:=hcs.one_cells hc.2.2
   have XO:inf.size=xs.length:=T1 hc.1
   have hlen:(a.eval z).cells.size=xs.length:=by have:=hcs.length;simpa using this
   rcases hh.ok (.row (.slice (some ⟨b',0,none⟩) len cap) kk ls) (Xa ..) with ⟨h0,_⟩|⟨g',len',cap',cur,e,h0,h1,h2',h3,h4,h5⟩
   ·cases h0
   ·cases h0
    have hlc:len*kk<=cap*kk:=Jo _ h2'
    have hst:=run_storeCells_at P b' o' e (a.eval z).cells.toList 0 cur w h1 (by simp [hlen];omega) hone
    simp only [Cb,JT] at hst
    have hr:(execOp a.eval { dst:=none,op:=.store t x z,type:=type,pos:=pos,after:=after,guard:=guard }).run P w =
      .ok .skip (w.setRow b' (cur.toList.take o'++(a.eval z).cells.toList++cur.toList.drop (o'+(a.eval z).cells.size)).toArray):=by
     simp only [execOp,hvx]
     simp [Instr.storeAt,Instr.sureAddr,storeVar,Qq hi,hlen,XO,hst]
    unfold Oper.wp
    rw [hr]
    have hcl:(a.eval z).cells.toList.length=xs.length:=by simpa using hlen
    obtain ⟨j1,j2⟩:=hh.rwrite (ls':=ls.take o'++xs++ls.drop (o'+xs.length)) (cs':=(cur.toList.take o'++(a.eval z).cells.toList++cur.toList.drop (o'+(a.eval z).cells.size)).toArray) h1
     (by simp [hlen];omega) h2' h3 (by simp;omega) (by
      rw [FT,hlen]
      have e1:(cur.toList.take o'++(a.eval z).cells.toList++cur.toList.drop (o'+xs.length)).take (len*kk) =
        (cur.toList.take (len*kk)).take o'++(a.eval z).cells.toList++(cur.toList.take (len*kk)).drop (o'+xs.length):=by
       have q1:(cur.toList.take o'++(a.eval z).cells.toList).length=o'+xs.length:=by simp [hlen];omega
       rw [List.take_append,q1,WI om,List.take_take,Uc om,List.drop_take]
      rw [e1]
      exact ((h5.take o').append hcs).append (h5.drop _))
    refine ⟨F,_,G,hK,?_,j1,j2⟩
    have:=hF.mono (j2.agree hh)
    simpa [Act.put] using this
  ·cases hs
 ·cases hs
theorem Zcp {K:Fr->List Res->Prop} {sz:Nat} (hd:VS n (ZV ops k)=true) (ha:Ts P ops F k=some ([],0,sz))
  (hK:∀g,K (F.put (ZV ops k).dst (.val (.slice (some ⟨g,0,none⟩) 0 0))) (.row (.slice (some ⟨g,0,none⟩) 0 0) sz []::h)):WO P n (ZV ops k) F h K:=by
 unfold Ts at ha
 generalize hoo:ZV ops k=q at ha hd hK
 obtain ⟨dst,op,type,pos,after,guard⟩:=q
 cases op<;>simp only at ha<;>try (cases ha)
 rename_i t ln parts
 split at ha
 case h_2=>cases ha
 rename_i e ht
 split at ha
 case h_2=>cases ha
 rename_i i hi
 split at ha
 case h_2=>cases ha
 rename_i hc
 simp only [Xb] at hc
 split at ha
 case h_2=>cases ha
 rename_i ls' hf
 simp only [Wp,Prod.mk.injEq] at ha
 obtain ⟨rfl,rfl,XO⟩:=ha
 intro Q w G a hF hh
 obtain ⟨cs,h1,h2⟩:=HD hF parts ht hi rfl hc.1 hc.2 hf
 have hr:(execOp a.eval { dst:=dst,op:=.buildSlice t 0 parts,type:=type,pos:=pos,after:=after,guard:=guard }).run P w =
   .ok (.value (.slice (some ⟨w.heap.size,0,none⟩) 0 0)) (w.alloc (.cells cs e)):=by
  simp only [execOp]
  exact VF h2
 unfold Oper.wp
 rw [hr]
 have hlc:=h1.length
 simp only [JT] at hlc
 obtain ⟨j1,j2⟩:=hh.alloc_rrow cs e (ls:=[]) (len:=0) (cap:=0) (k:=sz) (X0 _) (by simpa using hlc) (by simp) (by simpa using YT.nil)
 exact ⟨_,_,G,hK _,(hF.mono (j2.agree hh)).put (TQ hd) .val,j1,j2⟩
theorem Zco {K:Fr->List Res->Prop} {g sz:Nat} {xs:List AV} {hx:Option Value} (hd:VS n (ZV ops k)=true) (ha:TO P ops F k=some (.val (.slice (some ⟨g,0,none⟩) 0 0),.sl xs hx,sz))
  (hxs:∀y∈xs,y.leaves.length=sz) (hbound:xs.length<=4294967296)
  (hK:∀v:Hd,K (F.put (ZV ops k).dst (.val v.v)) (.row v.v sz (Zg xs)::h2)):WO P n (ZV ops k) F (.row (.slice (some ⟨g,0,none⟩) 0 0) sz []::h2) K:=by
 unfold TO at ha
 generalize hoo:ZV ops k=o at ha hd hK
 obtain ⟨dst,op,type,pos,after,guard⟩:=o
 cases op<;>simp only at ha<;>try (cases ha)
 rename_i c
 obtain ⟨callee,args,tys⟩:=c
 simp only at ha
 split at ha
 case h_2=>cases ha
 rename_i s x t t' hargs htys
 split at ha
 case h_2=>cases ha
 rename_i e htt ht
 have:=T1 htt
 subst this
 split at ha
 case h_2=>cases ha
 rename_i i hinfo
 split at ha
 case h_2=>cases ha
 rename_i z hz
 split at ha
 case h_2=>cases ha
 rename_i hb
 simp only [Xb] at hb
 simp only [Wp,Prod.mk.injEq] at ha
 obtain ⟨h3,h4,hk1⟩:=ha
 have e1:args=#[s,x]:=by rw [<-UY (xs:=args),hargs]
 have e2:tys=#[t,t]:=by rw [<-UY (xs:=tys),htys]
 subst e1;subst e2
 have hzs:z.cells.size=sz:=by rw [T1 hb.1,hk1]
 have hby:=Vb hb.2
 intro Q w G a hF hh
 have v1:=hF.ev s
 have v2:=hF.ev x
 rw [h3] at v1
 rw [h4] at v2
 have v1:=v1.val_inv
 have v2:=v2.forget
 have finish:∀(v':Hd) w',(Builtin.append_ #[t,t] type #[.slice (some ⟨g,0,none⟩) 0 0,a.eval x]).run P w=.ok v'.v w'->YK w' G (.row v'.v sz (Zg xs)::h2) ->
   X5 w G (.row (.slice (some ⟨g,0,none⟩) 0 0) sz []::h2) w' G (.row v'.v sz (Zg xs)::h2) ->
   ({ dst:=dst,op:=.call { callee:=.builtin .append,args:=#[s,x],argTypes:=#[t,t] },type:=type,pos:=pos,after:=after,guard:=guard }:Oper).wp P a w
    (fun a' w'=>∃F' h' G',K F' h'/\FR w' G' n F' a'/\YK w' G' h'/\X5 w G (.row (.slice (some ⟨g,0,none⟩) 0 0) sz []::h2) w' G' h') Q:=by
  intro v' w' hr j1 j2
  have hrun:(execOp a.eval { dst:=dst,op:=.call { callee:=.builtin .append,args:=#[s,x],argTypes:=#[t,t] },type:=type,pos:=pos,after:=after,guard:=guard }).run P w=.ok (.value v'.v) w':=by
   simp only [execOp,resolve,invoke,builtin,Sem.run_bind,Sem.run_pure,Result.andThen_ok,FP,Tk,FM,v1,hr]
  unfold Oper.wp
  rw [hrun]
  exact ⟨_,_,G,hK v',(hF.mono (j2.agree hh)).put (TQ hd) .val,j1,j2⟩
 by_cases hxe:xs=[]
 ·subst hxe
  cases v2q:a.eval x with
  | slice ad' l' c'=>
   rw [v2q] at v2
   cases v2<;>exact finish ⟨some ⟨g,0,none⟩,0,0⟩ _ (by rw [v2q];exact E4 ht hinfo (X0 _) w) hh (X5.refl w G _)
  | _=>rw [v2q] at v2;cases v2
 ·generalize hax:a.eval x=ax at v2 finish
  cases v2 with
  | nil _=>exact absurd rfl hxe
  | sl hq hcc hm=>
   rename_i b o' k' c
   have hpos:0<xs.length:=C9.2 hxe
   have hfm:=hm.flat_mem
   obtain ⟨news,hn,hnc⟩:=hfm.cells
   have hfl:=TE xs hxs
   have hnl:news.length=xs.length*i.size:=by rw [hn.length,hfl,hk1]
   have hnews:∀j u,news[j]? = some u->w.cell? ((⟨b,o',none⟩:Addr).add j)=some u:=fun j u hj=>by rw [Jq];exact (hnc j u hj).1
   have hbb:(0+xs.length)*i.bytes<=140737488355328:=by
    have:=Nat.mul_le_mul hbound hby
    rw [Wj]
    omega
   have hr:=run_append_grow (P:=P) w t type e i z ht hinfo hz ⟨g,0,none⟩ 0 0 [] (by simp) (fun j u hj=>by simp at hj) ⟨b,o',none⟩ xs.length c news hnl hnews om om (growslice_fits om hbb)
   simp only [Wj] at hr
   have Xk:=grownCap_ge w xs.length 0 e
   obtain ⟨j1,j2⟩:=hh.drew.alloc_rrow ([].toArray++news.toArray++Builtin.zeroCells z.cells (grownCap w xs.length 0 e-xs.length)) e
    (ls:=Zg xs) (len:=xs.length) (cap:=grownCap w xs.length 0 e) (k:=sz) Xk
    (by
     have q2:(grownCap w xs.length 0 e-xs.length)*sz=grownCap w xs.length 0 e*sz-xs.length*sz:=Nat.sub_mul ..
     have q3:xs.length*sz<=grownCap w xs.length 0 e*sz:=Jo _ Xk
     simp only [Array.size_append,FQ,size_zeroCells,hzs,YC,Wj,hnl,hk1]
     omega) hfl
    (by
     have q1:([].toArray++news.toArray++Builtin.zeroCells z.cells (grownCap w xs.length 0 e-xs.length)).toList.take (xs.length*sz)=news:=by
      simp only [I8,Jm]
      rw [<-hk1,<-hnl]
      exact Jn
     rw [q1]
     exact hn.mono (Br w G))
   have hs:List.Sublist (.row (.slice (some ⟨w.drew.heap.size,0,none⟩) xs.length (grownCap w xs.length 0 e)) sz (Zg xs)::h2)
     (.row (.slice (some ⟨w.drew.heap.size,0,none⟩) xs.length (grownCap w xs.length 0 e)) sz (Zg xs)::.row (.slice (some ⟨g,0,none⟩) 0 0) sz []::h2):=List.Sublist.cons_cons _ (Ca _ _)
   exact finish ⟨some ⟨w.heap.size,0,none⟩,xs.length,grownCap w xs.length 0 e⟩ _ hr (j1.sub hs) ((X5.drew w G _).trans (j2.sub' hs))
def M7 (P:Program) (ops:Array Oper) (F:Fr) (k:Nat):Option (Int × Int × List AV):=
 match (ZV ops k).op with
 | .makeSlice t l c=>match P.underlying t with
  | some (.slice e)=>match P.info? e with
   | some i=>match i.zero with
    | some z=>match Nat.beq i.size z.cells.toList.length&&Nat.ble i.bytes 32768,F.ev l,F.ev c with
     | true,.val (.int _ l),.val (.int _ c)=>some (l,c,z.cells.toList.map AV.ofVal)
     | _,_,_=>none
    | none=>none
   | none=>none
  | _=>none
 | _=>none
theorem Rh (zs:List Value) (hz:0<zs.length):∀n:Nat,(madeCells zs.toArray (n*zs.length)).toList=(List.replicate n zs).flatten
 | 0=>by simp [madeCells]
 | n+1=>by
  have ih:=Rh zs hz n
  have hlen:∀m,(madeCells zs.toArray m).toList.length=m:=fun m=>by simp [madeCells]
  have hget:∀m i,i<m->(madeCells zs.toArray m).toList[i]? = some (zs.toArray[i % zs.toArray.size]!):=fun m i hi=>by simp [madeCells,hi]
  rw [List.replicate_succ',List.flatten_append,<-ih]
  apply List.ext_getElem?
  intro i
  simp only [List.flatten_cons,List.flatten_nil,T0]
  by_cases h1:i<n*zs.length
  ·rw [JV (by rw [hlen];exact h1),hget _ i h1,hget _ i (by rw [TJ];omega)]
  ·rw [D8 (by rw [hlen];omega),hlen]
   by_cases h2:i<(n+1)*zs.length
   ·rw [hget _ i h2]
    rw [TJ] at h2
    have e:i=(i-n*zs.length)+zs.length*n:=by rw [Nat.mul_comm zs.length n];omega
    have e2:i % zs.length=i-n*zs.length:=by
     conv=>lhs;rw [e,Nat.add_mul_mod_self_left]
     exact Nat.mod_eq_of_lt om
    have h3:i-n*zs.length<zs.length:=by omega
    simp [e2,h3]
   ·rw [Kl (by rw [hlen];omega),Kl (by rw [TJ] at h2;omega)]
theorem Sh {w:World} {G:Ym} {xs:List AV} {vs:List Value} (h:YT w G xs vs):∀n,YT w G (List.replicate n xs).flatten (List.replicate n vs).flatten
 | 0=>by simpa using YT.nil
 | n+1=>by simp only [Ek,List.flatten_cons];exact h.append (Sh h n)
theorem Sf {w:World} {G:Ym}:∀vs:List Value,YT w G (vs.map AV.ofVal) vs
 | []=>.nil
 | v::r=>.cons (RV.ofVal v) (Sf r)
theorem Zcq {K:Fr->List Res->Prop} {l:Nat} {zs:List AV} (hd:VS n (ZV ops k)=true) (hm:M7 P ops F k=some ((l:Int),(l:Int),zs)) (hl:l<=4294967296) (hz:0<zs.length)
  (hK:∀g,K (F.put (ZV ops k).dst (.val (.slice (some ⟨g,0,none⟩) l l))) (.row (.slice (some ⟨g,0,none⟩) l l) zs.length (List.replicate l zs).flatten::h)):WO P n (ZV ops k) F h K:=by
 unfold M7 at hm
 generalize hoo:ZV ops k=o at hm hd hK
 obtain ⟨dst,op,type,pos,after,guard⟩:=o
 cases op<;>simp only at hm<;>try (cases hm)
 rename_i t lo co
 split at hm
 case h_2=>cases hm
 rename_i e ht
 split at hm
 case h_2=>cases hm
 rename_i i hi
 split at hm
 case h_2=>cases hm
 rename_i z hzz
 split at hm
 case h_2=>cases hm
 rename_i k1 l' k2 c' hb hlo hco
 simp only [Xb] at hb
 simp only [Wp,Prod.mk.injEq] at hm
 obtain ⟨rfl,rfl,rfl⟩:=hm
 intro Q w G a hF hh
 have v1:=hF.ev lo
 have v2:=hF.ev co
 rw [hlo] at v1
 rw [hco] at v2
 have v1:=v1.val_inv
 have v2:=v2.val_inv
 have hs:=T1 hb.1
 have hbytes:=Vb hb.2
 have hr:=run_make (P:=P) w t e i z ht hi hzz k1 k2 (l:Int) (l:Int) om om (by
  have h1:(i.bytes:Int)<=32768:=by omega
  have h2:(i.bytes:Int)*(l:Int)<=32768*(l:Int):=Int.mul_le_mul_of_nonneg_right h1 om
  omega) om
 have hzl:(z.cells.toList.map AV.ofVal).length=z.cells.toList.length:=by simp
 have hr2:(execOp a.eval { dst:=dst,op:=.makeSlice t lo co,type:=type,pos:=pos,after:=after,guard:=guard }).run P w =
   .ok (.value (.slice (some ⟨w.heap.size,0,none⟩) l l)) (w.alloc (.cells (madeCells z.cells (l*i.size)) e)):=by
  simp only [execOp,v1,v2]
  simpa using VF hr
 unfold Oper.wp
 rw [hr2]
 have hmc:(madeCells z.cells (l*i.size)).toList=(List.replicate l z.cells.toList).flatten:=by
  rw [hs,<-Rh _ (by rw [hzl] at hz;exact hz) l]
 rw [hzl] at hK
 obtain ⟨j1,j2⟩:=hh.alloc_rrow (madeCells z.cells (l*i.size)) e (ls:=(List.replicate l (z.cells.toList.map AV.ofVal)).flatten) (len:=l) (cap:=l) (k:=z.cells.toList.length) (X0 _)
  (by rw [size_madeCells,hs]) (by simp) (by
   rw [hmc,WI (by simp)]
   exact Sh (Sf _) l)
 exact ⟨_,_,G,hK _,(hF.mono (j2.agree hh)).put (TQ hd) .val,j1,j2⟩
theorem Mn {w:World} {G:Ym} {v:Hd} {kk m:Nat} {ls:List AV} (h:JX w G v.v kk ls) (hm:ls.length=m*kk) (hk:0<kk) (h0:0<m):∃g c,v=⟨some ⟨g,0,none⟩,m,c⟩:=by
 obtain ⟨a,l,c⟩:=v
 rcases h with ⟨h1,h2⟩|⟨g,len,cap,cur,e,h1,h2,h3,h4,h5,h6⟩
 ·subst h2
  have:=Nat.mul_pos h0 hk
  rw [YC] at hm
  omega
 ·cases h1
  have:l=m:=Ia hk (h5.symm.trans hm)
  subst this
  exact ⟨g,c,rfl⟩
theorem Z2j (j m:Nat) {v:Hd} {kk:Nat} {ls:List AV} {c:Code} {A:WW} (hj:h[j]? = some (.row v.v kk ls)) (hm:ls.length=m*kk) (hk:0<kk) (h0:0<m)
  (H:∀g c',v=⟨some ⟨g,0,none⟩,m,c'⟩->Yz P n c A F h):Yz P n c A F h:=by
 intro w G a hF hh
 obtain ⟨g,c',e⟩:=Mn (hh.ok _ (Y3 hj)) hm hk h0
 exact H g c' e w G a hF hh
theorem Z2i (t j:Nat) {v:Hd} {kk:Nat} {es:List AV} {c:Code} {A:WW} (hF':F.get t=.h v) (hp:Wb [j] h=some [.row v.v kk (Zg es)]) (hes:∀y∈es,y.leaves.length=kk) (hk:0<kk)
  (H:Yz P n c A ((t,.sl es (some v.v))::F) (.tail v.v kk::XC [j] h)):Yz P n c A F h:=by
 intro w G a hF hh
 have hp':=Uo (VM hp)
 obtain ⟨G',h1,h2',h3⟩:=E3 (hh.perm hp') hes hk
 have e:=h2'.perm hp'.symm (TI _)
 have hF2:=hF.mono (e.agree hh)
 have hv:=hF2.get t
 rw [hF'] at hv
 have hv:=hv.val_inv
 refine wp_mono (H w G' a ⟨hF2.defers,hF2.size,fun s=>?_⟩ h1) fun e' a' w' hc=>hc.trans e
 show RV w G' (match Nat.beq t s with|true=>_|false=>Fr.get F s) _
 cases hb:Nat.beq t s with
 | true=>
  have:=T1 hb
  subst this
  rw [hv]
  exact h3
 | false=>exact hF2.get s
theorem Zhp (j i p:Nat) {u v:Value} {kk kv:Nat} {es ls:List AV} (hp:Wb [j,i] h=some [.row u kk (Zg es),.row v kv ls]) (hes:∀y∈es,y.leaves.length=kk) (hk:0<kk) (hl:ls[p]? = some (.val u)) :
  Vi h (.row v kv (ls.set p (.sl es (some u)))::.tail u kk::XC [j,i] h):=by
 intro w G hh
 have hp':=Uo (VM hp)
 have hh':=hh.perm hp'
 obtain ⟨G',h1,h2',h3⟩:=E3 (h2:=.row v kv ls::XC [j,i] h) hh' hes hk
 have e:=h2'.perm hp'.symm (TI _)
 have h1:YK w G' (.tail u kk::.row v kv ls::XC [j,i] h):=h1
 have perm:(Res.tail u kk::.row v kv ls::XC [j,i] h).Perm (.row v kv ls::.tail u kk::XC [j,i] h):=List.Perm.swap ..
 have h4:=h1.perm perm
 have e4:=e.perm (TI _) perm
 have hset:∀{w:World} {G:Ym},RV w G (.sl es (some u)) u->JX w G v kv ls->JX w G v kv (ls.set p (.sl es (some u))):=by
  intro w G hu hr
  rcases hr with ⟨rfl,h0⟩|⟨g,len,cap,cur,el,rfl,k1,k2,k3,k4,k5⟩
  ·exact .inl ⟨rfl,by rw [h0];rfl⟩
  ·refine .inr ⟨g,len,cap,cur,el,rfl,k1,k2,k3,by rw [VQ];exact k4,?_⟩
   obtain ⟨c,c1,c2⟩:=k5.get p _ hl
   have:=c2.val_inv
   subst this
   have h6:=k5.set p hu
   rwa [show (cur.toList.take (len*kv)).set p c=cur.toList.take (len*kv) from by
    apply List.ext_getElem?
    intro q
    rw [List.getElem?_set]
    split
    ·rename_i hq;subst hq;split
     ·exact c1.symm
     ·rename_i hq2;rw [Kl om]
    ·rfl] at h6
 refine ⟨G',⟨fun r hr=>?_,?_,fun r hr=>?_,h4.lt⟩,⟨e4.os,e4.tape,e4.output,e4.size,e4.sub,e4.same,e4.newG,fun b o hb ⟨r,hr,hf⟩=>e4.newfp b o hb ?_⟩⟩
 ·rcases YN.1 hr with rfl|hr
  ·exact hset h3 (h4.ok _ (Xa ..))
  ·exact h4.ok r (Xj _ hr)
 ·have:=Vg.1 h4.apart
  refine Vg.2 ⟨fun r hr b o f1 f2=>this.1 r hr b o ?_ f2,this.2⟩
  cases v with
  | slice a _ _=>cases a with
   | none=>exact f1.elim
   | some a=>exact f1
  | _=>exact f1.elim
 ·rcases YN.1 hr with rfl|hr
  ·intro b o f1 hg
   refine h4.prot (.row v kv ls) (Xa ..) b o ?_ hg
   cases v with
   | slice a _ _=>cases a with
    | none=>exact f1.elim
    | some a=>exact f1
   | _=>exact f1.elim
  ·exact h4.prot r (Xj _ hr)
 ·rcases YN.1 hr with rfl|hr
  ·refine ⟨.row v kv ls,Xa ..,?_⟩
   cases v with
   | slice a _ _=>cases a with
    | none=>exact hf.elim
    | some a=>exact hf
   | _=>exact hf.elim
  ·exact ⟨r,Xj _ hr,hf⟩
end
end Go.Abs
section
namespace Go.Abs
structure Z22 where
 fields:LI
 fv:Value
structure N3 where
 frm:Int
 to_:Int
 cons:List Z22
 cv:Value
mutual
inductive Ig where
 | mk (op num into:Int) (args:LI) (av:Value) (kids:List FY) (kv:Value)
inductive FY where
 | mk (steps:List Ig) (sv:Value) (result:Int)
end
namespace Ig
end Ig
namespace FY
end FY
structure Z26 where
 params:LI
 pv:Value
 lent:LI
 lv:Value
 result:Int
 body:FY
structure Z24 where
 decls:List N3
 dv:Value
 routines:List Z26
 rv:Value
inductive Ie:List AV->List AV->Prop
 | nil:Ie [] []
 | cons {x y:AV} {xs ys:List AV} (hl:x.leaves.length=y.leaves.length) (h:Vx x.leaves y.leaves) (t:Ie xs ys):Ie (x::xs) (y::ys)
theorem J6 {es:List AV} {k:Nat} (h:es.all (fun y=>Nat.beq y.leaves.length k)=true):∀y∈es,y.leaves.length=k:=fun y hy=>T1 (JU.1 h y hy)
abbrev rK (g:Hd) (k:Nat) (ls:List AV):Res:=.row g.v k ls
section
variable {P:Program} {n:Nat} {c:Code} {A:WW} {F:Fr} {h:List Res} {ops:Array Oper} {B:Fr->List Res->Prop} {k:Nat}
variable {T:List (Nat × List Nat)} {fuel:Nat} {done:List Nat}
theorem rr {v:Value} {q:Nat} {ls ls':List AV} {t t':List Res} (h:ls=ls') (e:t=t'):Res.row v q ls::t=.row v q ls'::t':=h▸e▸rfl
theorem LR (j m:Nat) (v:Hd) (kk:Nat) (ls:List AV) (hm:ls.length=m*kk) (hk:0<kk:=by omega) (hl:DJ P ops F k=some (.h v):=by kernel_rfl) (hj:h[j]? = some (rK v kk ls):=by kernel_rfl):XY P (ZV ops k) F h [] (.i m):=
 Zh5 j hl hj hm hk
theorem W6 (b l c' q sz:Nat) (j:Int) (hq:j=(q:Int)/\q<l:=by omega) (hi:BJ P ops F k=some (.val (.slice (some ⟨b,0,none⟩) l c'),j,sz):=by kernel_rfl):XY P (ZV ops k) F h [] (.val (.pointer (some ⟨b,q*sz,none⟩))):=by
 have:=Z17 (P:=P) (F:=F) (h:=h) hi om om
 rw [hq.1,UZ,Wj] at this
 exact this
theorem Vo (j g len cap kk o:Nat) (ls zs:List AV) (t:TypeId) (y:AV) (hz:(ls.drop o).take zs.length=zs) (hl:M5 ops F k=some (t,.val (.pointer (some ⟨g,o,none⟩))):=by kernel_rfl) (hj:h[j]? = some (.row (.slice (some ⟨g,0,none⟩) len cap) kk ls):=by kernel_rfl)
  (hy:Ba P t zs=some y:=by kernel_rfl):XY P (ZV ops k) F h [g] y:=Zh6 j hl hj hz hy
theorem DF (j g len cap kk o:Nat) (xs ls:List AV) (ls':List AV) (hlt:o+xs.length<=ls.length) (he:ls.take o++xs++ls.drop (o+xs.length)=ls') (H:SI P n ops B (k+1) F (.row (.slice (some ⟨g,0,none⟩) len cap) kk ls'::XC [j] h)) (hk:Xo n ops F k=true:=by kernel_rfl)
  (hs:storeAt P ops F k=some (g,o,xs):=by kernel_rfl) (hp:Wb [j] h=some [.row (.slice (some ⟨g,0,none⟩) len cap) kk ls]:=by kernel_rfl):SI P n ops B k F h:=
 QC hk (WO.perm (Uo (VM hp)) (RH hs hlt (by rw [he];exact H)))
theorem Ac (i j:Nat) (js bs:List Nat) (g len cap kk o:Nat) (xs ls:List AV) (ls':List AV) (hlt:o+xs.length<=ls.length) (he:ls.take o++xs++ls.drop (o+xs.length)=ls')
  (H:X7 P n ops B (T.filter fun t=>!Vs ops i t.1) fuel (done++[i]) F (.row (.slice (some ⟨g,0,none⟩) len cap) kk ls'::XC [j] h)) (hk:Xo n ops F i=true:=by kernel_rfl)
  (hs:storeAt P ops F i=some (g,o,xs):=by kernel_rfl) (hp:Wb [j] h=some [.row (.slice (some ⟨g,0,none⟩) len cap) kk ls]:=by kernel_rfl) (ho:UI ops i T=bs:=by kernel_rfl)
  (hj:js.map (fun q=>(V2 (XC [j] h))[q]?)=bs.map some:=by kernel_rfl):VZ P n ops B T fuel done F h i:=
 Ad [j] js bs hk (VM hp) ho hj (RH (h2:=[]) hs hlt (by rw [he];exact H))
theorem ES (sz:Nat) (hK:∀g,SI P n ops B (k+1) (F.put (ZV ops k).dst (.val (.slice (some ⟨g,0,none⟩) 0 0))) (.row (.slice (some ⟨g,0,none⟩) 0 0) sz []::h)) (hk:Xo n ops F k=true:=by kernel_rfl)
  (ha:Ts P ops F k=some ([],0,sz):=by kernel_rfl):SI P n ops B k F h:=QC hk (Zcp (UJ hk).2.1 ha hK)
theorem iKC (j g sz:Nat) (xs:List AV) (hx:Option Value) (hxs:∀y∈xs,y.leaves.length=sz) (hbound:xs.length<=4294967296) (hK:∀v:Hd,SI P n ops B (k+1) (F.put (ZV ops k).dst (.h v)) (rK v sz (Zg xs)::XC [j] h))
  (hk:Xo n ops F k=true:=by kernel_rfl) (ha:TO P ops F k=some (.val (.slice (some ⟨g,0,none⟩) 0 0),.sl xs hx,sz):=by kernel_rfl) (hp:Wb [j] h=some [.row (.slice (some ⟨g,0,none⟩) 0 0) sz []]:=by kernel_rfl):SI P n ops B k F h:=
 QC hk (WO.perm (Uo (VM hp)) (Zco (UJ hk).2.1 ha hxs hbound hK))
theorem LQ (j m:Nat) {v:Hd} {kk:Nat} {ls:List AV} (hm:ls.length=m*kk) (h0:0<m) (H:∀g c',v=⟨some ⟨g,0,none⟩,m,c'⟩->Yz P n c A F h) (hk:0<kk:=by omega) (hj:h[j]? = some (rK v kk ls):=by kernel_rfl):Yz P n c A F h:=
 Z2j j m hj hm hk h0 H
theorem PT (t j:Nat) {v:Hd} {kk:Nat} (es:List AV) (hes:∀y∈es,y.leaves.length=kk) (H:Yz P n c A ((t,.sl es (some v.v))::F) (.tail v.v kk::XC [j] h)) (hk:0<kk:=by omega) (hF':F.get t=.h v:=by kernel_rfl)
  (hp:Wb [j] h=some [rK v kk (Zg es)]:=by kernel_rfl):Yz P n c A F h:=Z2i t j hF' hp hes hk H
theorem Mo {A xs ys B:List AV} {o:Nat} (hA:A.length=o) (hl:xs.length=ys.length):(A++(xs++B)).take o++ys++(A++(xs++B)).drop (o+ys.length)=A++(ys++B):=by
 subst hA
 rw [Jn,<-hl,<-List.drop_drop,List.drop_left,List.drop_left,XW]
theorem SG {A xs B:List AV} {o:Nat} (hA:A.length=o):((A++(xs++B)).drop o).take xs.length=xs:=by
 subst hA
 rw [List.drop_left,Jn]
theorem KZ (xs ys:List AV):Zg (xs++ys)=Zg xs++Zg ys:=by simp [Zg]
theorem HS (j:Nat) (v:Value) (q:Nat) (ls ls':List AV) (e:ls=ls') (hp:Wb [j] h=some [.row v q ls]:=by kernel_rfl):Vi h (.row v q ls'::XC [j] h):=by
 subst e
 intro w G hh
 have hp':=Uo (VM hp)
 exact ⟨G,hh.perm hp',(X5.refl w G h).perm (TI _) hp'⟩
end
end Go.Abs
end
