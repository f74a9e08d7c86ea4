/-
  A part of the proofs of several laws (see the last file): no condition.
-/
import Derived.OrdersHeld
import Derived.Below
import Derived.KernelRfl
import Derived.Laws.AppendOwn
import Derived.Laws.MakeOwn
import Derived.IntWalk
import Derived.Lib.AppendZeros
set_option linter.all false
set_option linter.unusedVariables false
set_option linter.unusedSimpArgs false
set_option linter.unusedSectionVars false
set_option maxRecDepth 10000
set_option maxHeartbeats 4000000
namespace Go.Abs
def U {α:Sort _} {a:α}:a=a:=rfl
abbrev LI:=List Int
def ob {p:Prop} (h:p:=by first|assumption|omega|rfl|(simp<;>omega)):p:=h
def kr {p:Prop} (h:p:=by kernel_rfl):p:=h
def om {p:Prop} (h:p:=by omega):p:=h
def Z8:=@if_neg
def Zg:=@if_pos
def Zq:=@beq_iff_eq
def Y0:=@List.mem_of_getElem?
def Yb:=@bne_iff_ne
def Ys:=@congrArg
def Yy:=@List.length_append
def YM:=@List.mem_cons
def YR:=@List.length_cons
def X8:=@Nat.le_refl
def Xh:=@List.mem_append
def Xn:=@List.mem_cons_self
def Xv:=@List.getElem?_eq_some_iff
def Xx:=@List.length_nil
def XE:=@Bool.eq_iff_iff
def XF:=@List.mem_cons_of_mem
def XG:=@List.mem_map
def XI:=@List.mem_singleton
def We:=@Bool.and_eq_true
def Wp:=@Classical.not_not
def Wz:=@Option.some.injEq
def WK:=@List.length_take
def Vb:=@List.pairwise_cons
def Vc:=@List.take_of_length_le
def Vx:=@Nat.le_of_ble_eq_true
def Vy:=@Nat.le_trans
def Vz:=@Nat.min_eq_left
def VH:=@Nat.zero_add
def VP:=@List.take_length
def Ua:=@Int.toNat_natCast
def Uh:=@List.map_cons
def Uq:=@List.append_assoc
def UG:=@Array.toArray_toList
def UO:=@List.length_set
def UZ:=@Nat.eq_of_beq_eq_true
def Tw:=@Array.getElem?_eq_some_iff
def Tx:=@List.getElem?_map
def Ty:=@List.take_append_drop
def Qp:=@List.getElem?_take
def Qq:=@List.length_map
def Qr:=@List.mem_of_mem_take
def Qs:=@Option.some.inj
def QP:=@List.Perm.refl
def QQ:=@List.cons_append
def Kf:=@Nat.add_mul
def Kg:=@Nat.mul_one
def Ky:=@Nat.mul_le_mul_right
def J7:=@List.drop_zero
def J8:=@List.getElem?_eq_getElem
def JD:=@Array.length_toList
def JE:=@Bool.eq_false_iff
def JF:=@List.append_nil
def JG:=@Nat.zero_le
def Ax:=@List.all_eq_true
def Ay:=@List.pairwise_append
def B0:=@Classical.byContradiction
def B1:=@List.length_drop
def B3:=@List.sublist_cons_self
def B4:=@List.take_left
def BV:=@List.flatMap_cons
def BW:=@List.nil_append
def BX:=@Nat.add_assoc
def CF:=@List.getElem?_drop
def CG:=@List.map_nil
def CH:=@List.map_toArray
def CI:=@List.pairwise_singleton
def CJ:=@List.take_succ_cons
def CK:=@Nat.lt_or_ge
def CM:=@Option.map_some
def Dr:=@List.getElem?_append_left
def Ds:=@List.getElem?_append_right
def Dt:=@List.getElem?_eq_none
def Du:=@List.set_eq_take_append_cons_drop
def Dv:=@Nat.add_zero
def EG:=@Array.getElem?_toList
def EH:=@Array.toList_append
def EI:=@List.size_toArray
def EJ:=@List.toList_toArray
def Gg:=@List.length_pos_iff
def Iy:=@Array.getElem?_append_left
def Iz:=@List.drop_eq_nil_of_le
def IA:=@List.eq_of_mem_replicate
def IB:=@List.getElem?_of_mem
def IC:=@List.length_singleton
def ID:=@Nat.eq_of_mul_eq_mul_right
def IE:=@Nat.lt_of_lt_of_le
def Oq:=@List.replicate_succ
def Z60:=@List.drop_eq_getElem_cons
end Go.Abs
namespace Go.Abs
inductive AV where
 | any
 | val (v:Value)
 | sl (es:List AV) (hv:Option Value)
 | agg (ls:List AV)
 | rp (ls:List AV)
 | tup (vs:List AV)
abbrev Yl:=Nat->Nat->Prop
def AV.leaves:AV->List AV
 | .agg ls=>ls
 | x=>[x]
mutual
inductive RV (w:World) (G:Yl):AV->Value->Prop
 | any {v}:RV w G .any v
 | val {v}:RV w G (.val v) v
 | nil {hv a cap} (h:∀x,hv=some x->x=.slice a 0 cap):RV w G (.sl [] hv) (.slice a 0 cap)
 | sl {es hv b o k cap} (h:∀x,hv=some x->x=.slice (some ⟨b,o,none⟩) es.length cap) (hc:es.length<=cap) (hm:Vp w G k b o es) :
   RV w G (.sl es hv) (.slice (some ⟨b,o,none⟩) es.length cap)
 | agg {ls cs} (h:X1 w G ls cs):RV w G (.agg ls) (.agg cs.toArray)
 | rp {ls b o} (h:WP w G b o ls):RV w G (.rp ls) (.pointer (some ⟨b,o,none⟩))
 | tup {vs cs} (h:X1 w G vs cs):RV w G (.tup vs) (.tuple cs.toArray)
inductive X1 (w:World) (G:Yl):List AV->List Value->Prop
 | nil:X1 w G [] []
 | cons {x v xs vs} (h:RV w G x v) (t:X1 w G xs vs):X1 w G (x::xs) (v::vs)
inductive WP (w:World) (G:Yl):Nat->Nat->List AV->Prop
 | nil {b o}:WP w G b o []
 | cons {b o x c xs} (hc:w.cell? ⟨b,o,none⟩=some c) (hg:G b o) (h:RV w G x c) (t:WP w G b (o+1) xs):WP w G b o (x::xs)
inductive Vp (w:World) (G:Yl):Nat->Nat->Nat->List AV->Prop
 | nil {k b o}:Vp w G k b o []
 | cons {k b o x xs} (hl:x.leaves.length=k) (h:WP w G b o x.leaves) (t:Vp w G k b (o+k) xs):Vp w G k b o (x::xs)
end
structure Ur (G:Yl) (w w':World) (G':Yl):Prop where
 cell:∀b o,G b o->w'.cell? ⟨b,o,none⟩=w.cell? ⟨b,o,none⟩
 sub:∀b o,G b o->G' b o
section mono
variable {w w':World} {G G':Yl}
mutual
def RV.mono {x:AV} {v:Value} (hA:Ur G w w' G'):RV w G x v->RV w' G' x v
 | .any=>.any
 | .val=>.val
 | .nil h=>.nil h
 | .sl h hc hm=>.sl h hc (hm.mono hA)
 | .agg h=>.agg (h.mono hA)
 | .rp h=>.rp (h.mono hA)
 | .tup h=>.tup (h.mono hA)
def X1.mono {xs:List AV} {vs:List Value} (hA:Ur G w w' G'):X1 w G xs vs->X1 w' G' xs vs
 | .nil=>.nil
 | .cons h t=>.cons (h.mono hA) (t.mono hA)
def WP.mono {b o:Nat} {xs:List AV} (hA:Ur G w w' G'):WP w G b o xs->WP w' G' b o xs
 | .nil=>.nil
 | .cons hc hg h t=>.cons ((hA.cell _ _ hg).trans hc) (hA.sub _ _ hg) (h.mono hA) (t.mono hA)
def Vp.mono {k b o:Nat} {xs:List AV} (hA:Ur G w w' G'):Vp w G k b o xs->Vp w' G' k b o xs
 | .nil=>.nil
 | .cons hl h t=>.cons hl (h.mono hA) (t.mono hA)
end
end mono
def X1.length {w:World} {G:Yl}:∀{xs:List AV} {vs:List Value},X1 w G xs vs->vs.length=xs.length
 | _,_,.nil=>rfl
 | _,_,.cons _ t=>by simp [t.length]
def X1.get {w:World} {G:Yl}:∀{xs:List AV} {vs:List Value},X1 w G xs vs->∀(i:Nat) (x:AV),xs[i]? = some x->∃v,vs[i]? = some v/\RV w G x v
 | _,_,.nil,i,x,h=>by simp at h
 | _,_,.cons h t,0,x,hx=>by simp at hx;subst hx;exact ⟨_,rfl,h⟩
 | _,_,.cons h t,i+1,x,hx=>by simpa using t.get i x (by simpa using hx)
def X1.append {w:World} {G:Yl}:∀{xs ys:List AV} {vs us:List Value},X1 w G xs vs->X1 w G ys us->X1 w G (xs++ys) (vs++us)
 | _,_,_,_,.nil,h=>h
 | _,_,_,_,.cons h t,h2=>.cons h (t.append h2)
def X1.take {w:World} {G:Yl}:∀{xs:List AV} {vs:List Value} (n:Nat),X1 w G xs vs->X1 w G (xs.take n) (vs.take n)
 | _,_,0,_=>by simp;exact .nil
 | _,_,n+1,.nil=>by simp;exact .nil
 | _,_,n+1,.cons h t=>by simp;exact .cons h (t.take n)
def X1.drop {w:World} {G:Yl}:∀{xs:List AV} {vs:List Value} (n:Nat),X1 w G xs vs->X1 w G (xs.drop n) (vs.drop n)
 | _,_,0,h=>by simpa using h
 | _,_,n+1,.nil=>by simp;exact .nil
 | _,_,n+1,.cons h t=>by simpa using t.drop n
def X1.set {w:World} {G:Yl}:∀{xs:List AV} {vs:List Value} (n:Nat) {x:AV} {v:Value},X1 w G xs vs->RV w G x v->X1 w G (xs.set n x) (vs.set n v)
 | _,_,_,_,_,.nil,_=>by simp;exact .nil
 | _,_,0,_,_,.cons h t,hx=>by simp;exact .cons hx t
 | _,_,n+1,_,_,.cons h t,hx=>by simp;exact .cons h (t.set n hx)
def WP.drop {w:World} {G:Yl}:∀(n:Nat) {b o:Nat} {xs:List AV},WP w G b o xs->WP w G b (o+n) (xs.drop n)
 | 0,_,_,_,h=>by simpa using h
 | n+1,_,_,_,.nil=>by simp;exact .nil
 | n+1,_,_,_,.cons hc hg h t=>by
  have:=t.drop n;simp only [List.drop_succ_cons];rw [show ∀o:Nat,o+(n+1)=o+1+n from fun o=>by omega];exact this
def WP.take {w:World} {G:Yl}:∀(n:Nat) {b o:Nat} {xs:List AV},WP w G b o xs->WP w G b o (xs.take n)
 | 0,_,_,_,h=>by simp;exact .nil
 | n+1,_,_,_,.nil=>by simp;exact .nil
 | n+1,_,_,_,.cons hc hg h t=>by simp;exact .cons hc hg h (t.take n)
def WP.append {w:World} {G:Yl}:∀{b o:Nat} {xs ys:List AV},WP w G b o xs->WP w G b (o+xs.length) ys->WP w G b o (xs++ys)
 | _,_,_,_,.nil,h=>by simpa using h
 | _,_,_,_,.cons hc hg h t,h2=>.cons hc hg h (t.append (by
   simp only [YR] at h2
   rw [show ∀(o:Nat) (l:Nat),o+1+l=o+(l+1) from fun o l=>by omega];exact h2))
def WP.cells {w:World} {G:Yl}:∀{b o:Nat} {xs:List AV},WP w G b o xs ->
  ∃cs,X1 w G xs cs/\(∀j v,cs[j]? = some v->w.cell? ⟨b,o+j,none⟩=some v/\G b (o+j))
 | _,_,_,.nil=>⟨[],.nil,by simp⟩
 | _,o,_,.cons (c:=c) hc hg h t=>by
  obtain ⟨cs,h1,h2⟩:=t.cells;refine ⟨c::cs,.cons h h1,fun j v hj=>?_⟩
  cases j with
  | zero=>simp at hj;subst hj;exact ⟨hc,hg⟩
  | succ j=>
   have:=h2 j v (by simpa using hj);rw [show o+1+j=o+(j+1) from by omega] at this;exact this
def WP.of_cells {w:World} {G:Yl} {b:Nat}:∀{o:Nat} {xs:List AV} {cs:List Value},X1 w G xs cs ->
  (∀j v,cs[j]? = some v->w.cell? ⟨b,o+j,none⟩=some v/\G b (o+j))->WP w G b o xs
 | _,_,_,.nil,_=>.nil
 | o,_,_,.cons (v:=c) h t,hc=>by
  have h0:=hc 0 c (by simp);refine .cons h0.1 h0.2 h (WP.of_cells t fun j v hj=>?_);have:=hc (j+1) v (by simpa using hj);rw [show o+(j+1)=o+1+j from by omega] at this;exact this
def Zc (es:List AV):List AV:=es.flatMap AV.leaves
def Vp.flat_mem {w:World} {G:Yl} {k:Nat}:∀{b o:Nat} {xs:List AV},Vp w G k b o xs->WP w G b o (Zc xs)
 | _,_,_,.nil=>.nil
 | _,_,_,.cons hl h t=>by
  simp only [Zc,BV];exact h.append (by rw [hl];exact t.flat_mem)
def Vp.of_flat {w:World} {G:Yl} {k b:Nat}:∀{o:Nat} (xs:List AV),(∀x∈xs,x.leaves.length=k)->WP w G b o (Zc xs)->Vp w G k b o xs
 | _,[],_,_=>.nil
 | o,x::xs,hk,h=>by
  have hx:=hk x (by simp);simp only [Zc,BV] at h;have h1:=h.take x.leaves.length;have h2:=h.drop x.leaves.length;simp only [List.take_left',List.drop_left'] at h1 h2;rw [hx] at h2;exact .cons hx h1<|Vp.of_flat xs (fun y hy=>hk y<|by simp [hy]) h2
def Vp.len {w:World} {G:Yl} {k:Nat}:∀{b o:Nat} {xs:List AV},Vp w G k b o xs->∀x∈xs,x.leaves.length=k
 | _,_,_,.nil,x,h=>by simp at h
 | _,_,_,.cons hl _ t,x,h=>by
  rcases YM.1 h with rfl|h
  .exact hl
  .exact t.len x h
def T3 {k:Nat}:∀(xs:List AV),(∀x∈xs,x.leaves.length=k)->(Zc xs).length=xs.length*k
 | [],_=>by simp [Zc]
 | x::xs,h=>by
  have:=T3 xs fun y hy=>h y<|by simp [hy]
  simp only [Zc,BV,Yy,YR] at this ⊢;rw [this,h x (by simp),Kf];omega
def Vp.get {w:World} {G:Yl} {k:Nat}:∀{b o:Nat} {xs:List AV},Vp w G k b o xs->∀(i:Nat) (x:AV),xs[i]? = some x->WP w G b (o+i*k) x.leaves
 | _,_,_,.nil,i,x,h=>by simp at h
 | _,_,_,.cons hl h t,0,x,hx=>by simp at hx;subst hx;simpa using h
 | _,o,_,.cons hl h t,i+1,x,hx=>by
  have:=t.get i x (by simpa using hx);rw [show o+(i+1)*k=o+k+i*k from by rw [Kf];omega];exact this
def Vp.drop {w:World} {G:Yl} {k:Nat}:∀(n:Nat) {b o:Nat} {xs:List AV},Vp w G k b o xs->Vp w G k b (o+n*k) (xs.drop n)
 | 0,_,_,_,h=>by simpa using h
 | n+1,_,_,_,.nil=>by simp;exact .nil
 | n+1,_,o,_,.cons hl h t=>by
  have:=t.drop n;simp only [List.drop_succ_cons];rw [show o+(n+1)*k=o+k+n*k from by rw [Kf];omega];exact this
def Vp.take {w:World} {G:Yl} {k:Nat}:∀(n:Nat) {b o:Nat} {xs:List AV},Vp w G k b o xs->Vp w G k b o (xs.take n)
 | 0,_,_,_,h=>by simp;exact .nil
 | n+1,_,_,_,.nil=>by simp;exact .nil
 | n+1,_,_,_,.cons hl h t=>by simp;exact .cons hl h (t.take n)
inductive Res where
 | obj (b:Nat) (ls:List AV)
 | tail (v:Value) (k:Nat)
 | ge (s:Nat)
 | vec (v:Value) (ls:List AV)
 | many (ts:List (Value × Nat))
 | own (B:List Nat) (m:Nat->Nat->Option Value)
 | row (v:Value) (k:Nat) (ls:List AV)
def G6:Value->Nat->Yl
 | .slice (some a) len _,k,b',o=>b'=a.block/\len*k<=o
 | _,_,_,_=>False
def Res.fp:Res->Yl
 | .obj b _,b',_=>b'=b
 | .tail (.slice (some a) len _) k,b',o=>b'=a.block/\len*k<=o
 | .tail _ _,_,_=>False
 | .ge _,_,_=>False
 | .vec (.slice (some a) _ _) _,b',_=>b'=a.block
 | .vec _ _,_,_=>False
 | .many ts,b',o=>∃p∈ts,G6 p.1 p.2 b' o
 | .own B _,b',_=>b'∈B
 | .row (.slice (some a) _ _) _ _,b',_=>b'=a.block
 | .row _ _ _,_,_=>False
def II (w:World) (v:Value) (k:Nat):Prop:=
 v=.slice none 0 0∨∃g len cap cur e,v=.slice (some ⟨g,0,none⟩) len cap/\w.heap[g]? = some (.cells cur e (0,0))/\len<=cap/\cur.size=cap*k
def C3 (w:World) (G:Yl) (v:Value) (ls:List AV):Prop:=
 (v=.slice none 0 0/\ls=[])∨∃g cap cur e,v=.slice (some ⟨g,0,none⟩) ls.length cap/\w.heap[g]? = some (.cells cur e (0,0))/\ls.length<=cap/\cur.size=cap /\
  X1 w G ls (cur.toList.take ls.length)
def Az (w:World) (G:Yl) (v:Value) (k:Nat) (ls:List AV):Prop:=
 (v=.slice none 0 0/\ls=[])∨∃g len cap cur e,v=.slice (some ⟨g,0,none⟩) len cap/\w.heap[g]? = some (.cells cur e (0,0))/\len<=cap/\cur.size=cap*k/\ls.length=len*k /\
  X1 w G ls (cur.toList.take (len*k))
def QS (w:World) (G:Yl):Res->Prop
 | .obj b ls=>∃cs e,w.heap[b]? = some (.cells cs e (0,0))/\X1 w G ls cs.toList
 | .tail v k=>II w v k
 | .ge s=>s<=w.heap.size
 | .vec v ls=>C3 w G v ls
 | .many ts=>(∀p∈ts,II w p.1 p.2)/\ts.Pairwise fun p q=>∀b o,G6 p.1 p.2 b o->G6 q.1 q.2 b o->False
 | .own B m=>∀b∈B,∃cs e,w.heap[b]? = some (.cells cs e (0,0))/\∀o,cs[o]? = m b o
 | .row v k ls=>Az w G v k ls
def Vr (h:List Res):Yl:=fun b o=>∃r∈h,r.fp b o
def B8 (r r':Res):Prop:=∀b o,r.fp b o->r'.fp b o->False
structure YA (w:World) (G:Yl) (h:List Res):Prop where
 ok:∀r∈h,QS w G r
 apart:h.Pairwise B8
 prot:∀r∈h,∀b o,r.fp b o->G b o->False
 lt:∀b o,G b o->b<w.heap.size
def QS.lt {w:World} {G:Yl} {r:Res} (h:QS w G r):∀b o,r.fp b o->b<w.heap.size:=by
 intro b o hf
 cases r with
 | obj b' ls=>obtain ⟨cs,e,h1,_⟩:=h;cases hf;exact (Tw.1 h1).1
 | tail v k=>
  rcases h with rfl|⟨g,len,cap,cur,e,rfl,h1,_⟩
  .exact hf.elim
  .obtain ⟨rfl,_⟩:=hf;exact (Tw.1 h1).1
 | ge s=>exact hf.elim
 | vec v ls=>
  rcases h with ⟨rfl,_⟩|⟨g,cap,cur,e,rfl,h1,_⟩
  .exact hf.elim
  .have hf:b=g:=hf;subst hf;exact (Tw.1 h1).1
 | many ts=>
  obtain ⟨p,hp,hf⟩:=hf;rcases h.1 p hp with h0|⟨g,len,cap,cur,e,h0,h1,_⟩
  .rw [h0] at hf;exact hf.elim
  .rw [h0] at hf;obtain ⟨rfl,_⟩:=hf;exact (Tw.1 h1).1
 | own B m=>obtain ⟨cs,e,h1,_⟩:=h b hf;exact (Tw.1 h1).1
 | row v k ls=>
  rcases h with ⟨rfl,_⟩|⟨g,len,cap,cur,e,rfl,h1,_⟩
  .exact hf.elim
  .have hf:b=g:=hf;subst hf;exact (Tw.1 h1).1
def JJ (O:Yl) (b:Nat) (w w':World):Prop:=
 w'.heap[b]? = w.heap[b]?∨∃cs cs' e fr,w.heap[b]? = some (.cells cs e fr)/\w'.heap[b]? = some (.cells cs' e fr)/\cs'.size=cs.size/\∀o,¬O b o->cs'[o]? = cs[o]?
def JJ.eq {O:Yl} {b:Nat} {w w':World} (h:JJ O b w w') (hn:∀o,¬O b o):w'.heap[b]? = w.heap[b]?:=by
 rcases h with h|⟨cs,cs',e,fr,h1,h2,hs,hc⟩
 .exact h
 .have:cs'=cs:=by
   apply Array.ext hs
   intro i h1 h2;have:=hc i (hn i)
   simpa [h1,h2] using this
  rw [h1,h2,this]
def JJ.cell {O:Yl} {b:Nat} {w w':World} (h:JJ O b w w') {o:Nat} (hn:¬O b o):w'.cell? ⟨b,o,none⟩=w.cell? ⟨b,o,none⟩:=by
 rcases h with h|⟨cs,cs',e,fr,h1,h2,hs,hc⟩
 .simp [World.cell?,h]
 .simp [World.cell?,h1,h2,hc o hn]
def JJ.mono {O O':Yl} {b:Nat} {w w':World} (h:JJ O b w w') (hO:∀o,O b o->O' b o):JJ O' b w w':=by
 rcases h with h|⟨cs,cs',e,fr,h1,h2,hs,hc⟩
 .exact .inl h
 .exact .inr ⟨cs,cs',e,fr,h1,h2,hs,fun o hn=>hc o fun h=>hn<|hO o h⟩
def JJ.trans {O:Yl} {b:Nat} {w w' w'':World} (h:JJ O b w w') (k:JJ O b w' w''):JJ O b w w'':=by
 rcases h with h|⟨cs,cs',e,fr,h1,h2,hs,hc⟩
 .rcases k with k|⟨cs,cs',e,fr,h1,h2,hs,hc⟩
  .exact .inl<|k.trans h
  .exact .inr ⟨cs,cs',e,fr,h▸h1,h2,hs,hc⟩
 .rcases k with k|⟨ds,ds',e',fr',k1,k2,ks,kc⟩
  .exact .inr ⟨cs,cs',e,fr,h1,k▸h2,hs,hc⟩
  .rw [h2] at k1;cases k1;exact .inr ⟨cs,ds',e,fr,h1,k2,ks.trans hs,fun o hn=>(kc o hn).trans<|hc o hn⟩
structure X4 (w:World) (G:Yl) (h:List Res) (w':World) (G':Yl) (h':List Res):Prop where
 os:w'.os=w.os
 tape:w'.tape=w.tape
 output:w'.output=w.output
 size:w.heap.size<=w'.heap.size
 sub:∀b o,G b o->G' b o
 same:∀b,b<w.heap.size->JJ (Vr h) b w w'
 newG:∀b o,b<w.heap.size->G' b o->G b o∨Vr h b o
 newfp:∀b o,b<w.heap.size->Vr h' b o->Vr h b o
def X4.refl (w:World) (G:Yl) (h:List Res):X4 w G h w G h:=
 ⟨rfl,rfl,rfl,X8 _,fun _ _ h=>h,fun _ _=>.inl rfl,fun _ _ _ h=>.inl h,fun _ _ _ h=>h⟩
def X4.trans {w w' w'':World} {G G' G'':Yl} {h h' h'':List Res} (a:X4 w G h w' G' h') (b:X4 w' G' h' w'' G'' h''):X4 w G h w'' G'' h'' where
 os:=b.os.trans a.os
 tape:=b.tape.trans a.tape
 output:=b.output.trans a.output
 size:=Vy a.size b.size
 sub:=fun x o hg=>b.sub x o (a.sub x o hg)
 same:=fun x hx=>(a.same x hx).trans ((b.same x<|IE hx a.size).mono fun o ho=>a.newfp x o hx ho)
 newG:=fun x o hx hg=>by
  rcases b.newG x o (IE hx a.size) hg with h1|h1
  .exact a.newG x o hx h1
  .exact .inr (a.newfp x o hx h1)
 newfp:=fun x o hx ho=>a.newfp x o hx<|b.newfp x o (IE hx a.size) ho
def X4.agree {w w':World} {G G':Yl} {h h':List Res} (e:X4 w G h w' G' h') (hk:YA w G h):Ur G w w' G' where
 cell:=fun b o hg=>(e.same b<|hk.lt b o hg).cell fun ⟨r,hr,hf⟩=>hk.prot r hr b o hf hg
 sub:=e.sub
def AM {h k:List Res} {b o:Nat}:Vr (h++k) b o↔Vr h b o∨Vr k b o:=by
 unfold Vr;constructor
 .rintro ⟨r,hr,hf⟩;rcases Xh.1 hr with hr|hr
  .exact .inl ⟨r,hr,hf⟩
  .exact .inr ⟨r,hr,hf⟩
 .rintro (⟨r,hr,hf⟩|⟨r,hr,hf⟩)
  .exact ⟨r,Xh.2<|.inl hr,hf⟩
  .exact ⟨r,Xh.2<|.inr hr,hf⟩
def YA.left {w:World} {G:Yl} {h k:List Res} (H:YA w G (h++k)):YA w G h:=
 ⟨fun r hr=>H.ok r<|Xh.2<|.inl hr,(Ay.1 H.apart).1,fun r hr=>H.prot r<|Xh.2<|.inl hr,H.lt⟩
def YA.cross {w:World} {G:Yl} {h k:List Res} (H:YA w G (h++k)) {b o:Nat} (h1:Vr h b o) (h2:Vr k b o):False:=by
 obtain ⟨r,hr,hf⟩:=h1;obtain ⟨r',hr',hf'⟩:=h2;exact (Ay.1 H.apart).2.2 r hr r' hr' b o hf hf'
def YA.frame {w w':World} {G G':Yl} {h h' k:List Res} (H:YA w G (h++k)) (e:X4 w G h w' G' h') (H':YA w' G' h') :
  YA w' G' (h'++k)/\X4 w G (h++k) w' G' (h'++k):=by
 have hA:=e.agree H.left;have hkok:∀r∈k,QS w G r:=fun r hr=>H.ok r<|Xh.2<|.inr hr
 have hklt:∀b o,Vr k b o->b<w.heap.size:=fun b o ⟨r,hr,hf⟩=>(hkok r hr).lt b o hf
 refine ⟨⟨?_,?_,?_,H'.lt⟩,⟨e.os,e.tape,e.output,e.size,e.sub,?_,?_,?_⟩⟩
 .intro r hr;rcases Xh.1 hr with hr|hr
  .exact H'.ok r hr
  .have h0:=hkok r hr
   cases r with
   | obj b ls=>
    obtain ⟨cs,el,h1,h2⟩:=h0;have hb:=(Tw.1 h1).1;refine ⟨cs,el,?_,h2.mono hA⟩;rw [(e.same b hb).eq fun _ ho=>H.cross ho ⟨_,hr,rfl⟩];exact h1
   | tail v kk=>
    rcases h0 with rfl|⟨g,len,cap,cur,el,rfl,h1,h2,h3⟩
    .exact .inl rfl
    .have hb:=(Tw.1 h1).1;rcases e.same g hb with hs|⟨cs,cs',e',fr,k1,k2,k3,_⟩
     .exact .inr ⟨g,len,cap,cur,el,U,hs.trans h1,h2,h3⟩
     .rw [h1] at k1;cases k1;exact .inr ⟨g,len,cap,cs',el,U,k2,h2,k3.trans h3⟩
   | ge s=>exact Vy h0 e.size
   | vec v ls=>
    rcases h0 with ⟨rfl,h0⟩|⟨g,cap,cur,el,rfl,h1,h2,h3,h4⟩
    .exact .inl ⟨U,h0⟩
    .have hb:=(Tw.1 h1).1;refine .inr ⟨g,cap,cur,el,U,?_,h2,h3,h4.mono hA⟩;rw [(e.same g hb).eq fun o ho=>H.cross ho ⟨_,hr,rfl⟩];exact h1
   | many ts=>
    refine ⟨fun p hp=>?_,h0.2⟩;rcases h0.1 p hp with q|⟨g,len,cap,cur,el,q,h1,h2,h3⟩
    .exact .inl q
    .have hb:=(Tw.1 h1).1;rcases e.same g hb with hs|⟨cs,cs',e',fr,k1,k2,k3,_⟩
     .exact .inr ⟨g,len,cap,cur,el,q,hs.trans h1,h2,h3⟩
     .rw [h1] at k1;cases k1;exact .inr ⟨g,len,cap,cs',el,q,k2,h2,k3.trans h3⟩
   | own B m=>
    intro b hB;obtain ⟨cs,el,h1,h2⟩:=h0 b hB;have hb:=(Tw.1 h1).1;refine ⟨cs,el,?_,h2⟩;rw [(e.same b hb).eq fun o ho=>H.cross ho ⟨_,hr,hB⟩];exact h1
   | row v k ls=>
    rcases h0 with ⟨rfl,h0⟩|⟨g,len,cap,cur,el,rfl,h1,h2,h3,h4,h5⟩
    .exact .inl ⟨U,h0⟩
    .have hb:=(Tw.1 h1).1;refine .inr ⟨g,len,cap,cur,el,U,?_,h2,h3,h4,h5.mono hA⟩;rw [(e.same g hb).eq fun o ho=>H.cross ho ⟨_,hr,rfl⟩];exact h1
 .refine Ay.2 ⟨H'.apart,(Ay.1 H.apart).2.1,fun r hr r' hr' b o hf hf'=>?_⟩;have hb:=hklt b o ⟨r',hr',hf'⟩;exact H.cross (e.newfp b o hb ⟨r,hr,hf⟩) ⟨r',hr',hf'⟩
 .intro r hr b o hf hg;rcases Xh.1 hr with hr|hr
  .exact H'.prot r hr b o hf hg
  .have hb:=hklt b o ⟨r,hr,hf⟩;rcases e.newG b o hb hg with h1|h1
   .exact H.prot r (Xh.2<|.inr hr) b o hf h1
   .exact H.cross h1 ⟨r,hr,hf⟩
 .exact fun b hb=>(e.same b hb).mono fun _ ho=>AM.2<|.inl ho
 .intro b o hb hg;exact (e.newG b o hb hg).imp id fun h=>AM.2 (.inl h)
 .intro b o hb hf;rcases AM.1 hf with h1|h1
  .exact AM.2<|.inl<|e.newfp b o hb h1
  .exact AM.2<|.inr h1
def B8.symm {r r':Res} (h:B8 r r'):B8 r' r:=fun b o h1 h2=>h b o h2 h1
def Cd {h k:List Res} (p:h.Perm k) {b o:Nat}:Vr h b o↔Vr k b o:=
 ⟨fun ⟨r,hr,hf⟩=>⟨r,p.mem_iff.1 hr,hf⟩,fun ⟨r,hr,hf⟩=>⟨r,p.mem_iff.2 hr,hf⟩⟩
def YA.perm {w:World} {G:Yl} {h k:List Res} (H:YA w G h) (p:h.Perm k):YA w G k:=
 ⟨fun r hr=>H.ok r<|p.mem_iff.2 hr,(p.pairwise_iff fun h=>B8.symm h).1 H.apart,fun r hr=>H.prot r<|p.mem_iff.2 hr,H.lt⟩
def X4.perm {w w':World} {G G':Yl} {h h' k k':List Res} (e:X4 w G h w' G' h') (p:h.Perm k) (p':h'.Perm k'):X4 w G k w' G' k':=
 ⟨e.os,e.tape,e.output,e.size,e.sub,fun b hb=>(e.same b hb).mono fun _ ho=>(Cd p).1 ho,
  fun b o hb hg=>(e.newG b o hb hg).imp id (Cd p).1,fun b o hb hf=>(Cd p).1<|e.newfp b o hb<|(Cd p').2 hf⟩
abbrev Fr:=List (Nat × AV)
def Fr.get:Fr->Nat->AV
 | [],_=>.any
 | (s,x)::r,t=>match Nat.beq s t with | true=>x | false=>Fr.get r t
def AV.ofVal:Value->AV
 | .slice none 0 0=>.sl [] (some (.slice none 0 0))
 | v=>.val v
def RV.ofVal {w:World} {G:Yl} (v:Value):RV w G (AV.ofVal v) v:=by
 unfold AV.ofVal
 split
 .exact .nil<|by simp
 .exact .val
def Fr.ev (F:Fr):Operand->AV
 | .tmp t=>F.get t
 | .const v=>AV.ofVal v
 | .global g=>.val (.pointer (some ⟨g,0,none⟩))
 | .func f=>.val (.func (.func f) #[] #[])
def Fr.put (F:Fr) (d:Option Tmp) (x:AV):Fr:=
 match d with
 | some d=>(d,x)::F
 | none=>F
structure FR (w:World) (G:Yl) (n:Nat) (F:Fr) (a:Act):Prop where
 defers:a.defers=[]
 size:a.tmps.size=n
 get:∀t,RV w G (F.get t)<|a.tmps.getD t undef
section
variable {w w':World} {G G':Yl} {n:Nat} {F:Fr} {a:Act}
def FR.mono (h:FR w G n F a) (hA:Ur G w w' G'):FR w' G' n F a:=⟨h.defers,h.size,fun t=>(h.get t).mono hA⟩
def FR.ev (h:FR w G n F a) (x:Operand):RV w G (F.ev x) (a.eval x):=by
 cases x with
 | tmp t=>exact h.get t
 | const v=>exact RV.ofVal v
 | global g=>exact .val
 | func f=>exact .val
def FR.put (h:FR w G n F a) {d:Option Tmp} {x:AV} {v:Value} (hd:∀t,d=some t->t<n) (hx:RV w G x v):FR w G n (F.put d x) (a.put d v):=by
 cases d with
 | none=>exact h
 | some d=>
  have hlt:=hd d rfl;refine ⟨h.defers,by simp [Act.put,h.size],fun t=>?_⟩;show RV w G (match Nat.beq d t with|true=>x|false=>Fr.get F t) ((a.tmps.setIfInBounds d v).getD t undef)
  by_cases e:d=t
  .subst e;have:Nat.beq d d=true:=Nat.beq_refl d;rw [this];simp [h.size,hlt,hx]
  .have hb:Nat.beq d t=false:=by
    cases hh:Nat.beq d t
    .rfl
    .exact absurd (UZ hh) e
   rw [hb];have:=h.get t
   simpa [Array.getElem?_setIfInBounds_ne e] using this
end
def Fr.Le (F F':Fr):Prop:=∀w G v t,RV w G (F.get t) v->RV w G (F'.get t) v
def FR.le {w:World} {G:Yl} {n:Nat} {F F':Fr} {a:Act} (h:FR w G n F a) (hle:F.Le F'):FR w G n F' a:=
 ⟨h.defers,h.size,fun t=>hle _ _ _ _<|h.get t⟩
abbrev Vh:=Exit->Fr->List Res->Prop
def B7 (n:Nat) (A:Vh) (w:World) (G:Yl) (h:List Res) (e:Exit) (a':Act) (w':World):Prop:=
 ∃F' h' G',A e F' h'/\FR w' G' n F' a'/\YA w' G' h'/\X4 w G h w' G' h'
def B7.trans {n:Nat} {A:Vh} {w w' w'':World} {G G':Yl} {h h':List Res} {e:Exit} {a:Act} (x:X4 w G h w' G' h') (c:B7 n A w' G' h' e a w'') :
  B7 n A w G h e a w'':=by
 obtain ⟨F,k,G'',h1,h2,h3,h4⟩:=c;exact ⟨F,k,G'',h1,h2,h3,x.trans h4⟩
def B7.mono {n:Nat} {A B:Vh} {w w':World} {G:Yl} {h:List Res} {e:Exit} {a:Act} (hAB:∀e F h,A e F h->B e F h) (c:B7 n A w G h e a w') :
  B7 n B w G h e a w':=by
 obtain ⟨F,k,G'',h1,h2,h3,h4⟩:=c;exact ⟨F,k,G'',hAB _ _ _ h1,h2,h3,h4⟩
def YC (P:Program) (n:Nat) (c:Code) (A:Vh) (F:Fr) (h:List Res):Prop:=
 ∀w G a,FR w G n F a->YA w G h->c.wp P (B7 n A w G h) a w
def Wf (P:Program) (f:FuncId) (args:List AV) (h:List Res) (R:AV->List Res->Prop):Prop:=
 ∀w G vs,X1 w G args vs->YA w G h ->
  Calls P f vs.toArray w fun e w'=>∃v r h' G',e=.returned v/\R r h'/\RV w' G' r v/\YA w' G' h'/\X4 w G h w' G' h'
def Wf.mono {P:Program} {f:FuncId} {args:List AV} {h:List Res} {R R':AV->List Res->Prop} (H:Wf P f args h R) (hR:∀r h',R r h'->R' r h') :
  Wf P f args h R':=fun w G vs ha hh=>(H w G vs ha hh).mono fun _ _ ⟨v,r,h',G',h1,h2,h3⟩=>⟨v,r,h',G',h1,hR _ _ h2,h3⟩
def WU (P:Program) (n:Nat) (o:Oper) (F:Fr) (h:List Res) (K:Fr->List Res->Prop):Prop:=
 ∀(Q:Exit->Act->World->Prop) w G a,FR w G n F a->YA w G h ->
  o.wp P a w (fun a' w'=>∃F' h' G',K F' h'/\FR w' G' n F' a'/\YA w' G' h'/\X4 w G h w' G' h') Q
def VS (n:Nat) (o:Oper):Bool:=match o.dst with|some d=>Nat.blt d n|none=>true
def Tk {n:Nat} {o:Oper} (h:VS n o=true):∀t,o.dst=some t->t<n:=by
 intro t ht;simp [VS,ht] at h;exact h
def XH (P:Program) (o:Oper) (F:Fr) (h:List Res) (ks:List Nat) (x:AV):Prop:=
 ∀n w G a,FR w G n F a->YA w G h->∃v,RV w G x v /\
  ∀w',(∀b o,G b o->w'.cell? ⟨b,o,none⟩=w.cell? ⟨b,o,none⟩)->(∀b∈ks,w'.heap[b]? = w.heap[b]?)->(execOp a.eval o).run P w'=.ok (.value v) w'
def XH.op {P:Program} {n:Nat} {o:Oper} {F:Fr} {h:List Res} {ks:List Nat} {x:AV} {K:Fr->List Res->Prop} (hs:XH P o F h ks x) (hd:VS n o=true)
  (hK:K (F.put o.dst x) h):WU P n o F h K:=by
 intro Q w G a hF hh;obtain ⟨v,hv,hr⟩:=hs n w G a hF hh;unfold Oper.wp;rw [hr w (fun _ _ _=>rfl) (fun _ _=>rfl)];exact ⟨_,h,G,hK,hF.put (Tk hd) hv,hh,X4.refl _ _ _⟩
def Fd (op:BinOp) (k:IntKind) (a b:Int):Option Value:=
 match op with
 | .add=>some (.int k (k.wrap (a+b)))
 | .sub=>some (.int k (k.wrap (a-b)))
 | .mul=>some (.int k (k.wrap (a*b)))
 | .eql=>some (.bool (a==b))
 | .neq=>some (.bool (a != b))
 | .lss=>some (.bool (decide (a<b)))
 | .leq=>some (.bool (decide (a<=b)))
 | .gtr=>some (.bool (decide (a>b)))
 | .geq=>some (.bool (decide (a>=b)))
 | _=>none
def FV:IntKind->IntKind->Bool
 | .i8,.i8 | .i16,.i16 | .i32,.i32 | .i64,.i64 | .u8,.u8 | .u16,.u16 | .u32,.u32 | .u64,.u64=>true
 | _,_=>false
def Zkh {a b:IntKind} (h:FV a b=true):a=b:=by cases a<;>cases b<;>first|rfl|(simp [FV] at h)
def Db (P:Program) (t:TypeId):Option (Array Field):=
 match P.underlying t with
 | some (.struct fs)=>some fs
 | _=>none
def E9 (P:Program) (t:TypeId):Option Bool:=
 match P.underlying t with
 | some (.struct _) | some (.array _ _)=>some true
 | some _=>some false
 | none=>none
def Fh (P:Program) (t:TypeId) (f:Nat):Option Nat:=
 match Db P t with
 | some fs=>match fs[f]? with
  | some fd=>match (P.info? fd.type) with
   | some i=>match Nat.beq i.size 0 with | true=>none | false=>some fd.offset
   | none=>none
  | none=>none
 | none=>none
def BD (P:Program) (t:TypeId) (ls:List AV):Option AV:=
 match E9 P t,P.info? t with
 | some true,some i=>match Nat.ble i.size ls.length with | true=>some (.agg (ls.take i.size)) | false=>none
 | some false,some _=>ls.head?
 | _,_=>none
def AV.one:AV->Bool
 | .val v=>v.oneCell'
 | .sl _ _=>true
 | .rp _=>true
 | _=>false
def AV.fit:AV->Bool
 | .agg _=>true
 | x=>x.one
def Bm (place:Nat->Option (Nat × Nat)) (ls:List AV):List (Nat × AV)->Option (List AV)
 | []=>some ls
 | (i,x)::rest=>
  match place i with
  | none=>none
  | some (off,size)=>match x.fit&&(Nat.beq x.leaves.length size&&Nat.ble (off+size) ls.length) with
   | true=>Bm place (ls.take off++x.leaves++ls.drop (off+size)) rest
   | false=>none
def EF (P:Program) (t:TypeId):Option (List AV):=
 match P.info? t with
 | some i=>match i.zero with
  | some z=>some (z.cells.toList.map AV.ofVal)
  | none=>none
 | none=>none
def FJ (P:Program) (fs:Array Field) (i:Nat):Option (Nat × Nat):=
 match fs[i]? with
 | some f=>match P.info? f.type with
  | some j=>some (f.offset,j.size)
  | none=>none
 | none=>none
def Ry (P:Program) (fs:Array Field):Bool:=fs.toList.all fun f=>(P.info? f.type).isSome
def Ad:List AV->Option (List Value)
 | []=>some []
 | .val v::r=>match Ad r with | some vs=>some (v::vs) | none=>none
 | _::_=>none
def QX (P:Program) (o:Oper) (F:Fr) (h:List Res) (hint:Nat):Option (AV × List (Nat × Nat)):=
 match o.op with
 | .move x | .assign x=>some (F.ev x,[])
 | .pick c a b=>match F.ev c with
  | .val (.bool true)=>some (F.ev a,[])
  | .val (.bool false)=>some (F.ev b,[])
  | _=>none
 | .binOp op _ x y _=>match F.ev x,F.ev y with
  | .val (.int k a),.val (.int k' b)=>match FV k k' with
   | true=>match Fd op k a b with
    | some v=>some (.val v,[])
    | none=>none
   | false=>none
  | _,_=>none
 | .unOp op _ x=>match op,F.ev x with
  | .not,.val (.bool b)=>some (.val (.bool (!b)),[])
  | _,_=>none
 | .nilCheck x=>match F.ev x with
  | .val (.pointer (some a))=>some (.val (.pointer (some a)),[])
  | .rp ls=>some (.rp ls,[])
  | .val (.func (.func f) p c)=>some (.val (.func (.func f) p c),[])
  | _=>none
 | .fieldAddr s x f=>match Fh P s f with
  | some off=>match F.ev x with
   | .rp ls=>some (.rp (ls.drop off),[])
   | .val (.pointer (some ⟨b,o,none⟩))=>some (.val (.pointer (some ⟨b,o+off,none⟩)),[])
   | _=>none
  | none=>none
 | .field s x f=>match Fh P s f,Db P s with
  | some off,some fs=>match fs[f]? with
   | some fd=>match F.ev x with
    | .agg ls=>match BD P fd.type (ls.drop off) with
     | some v=>some (v,[])
     | none=>none
    | _=>none
   | none=>none
  | _,_=>none
 | .load t x=>match F.ev x with
  | .rp ls=>match BD P t ls with
   | some v=>some (v,[])
   | none=>none
  | .val (.pointer (some ⟨b,o,none⟩))=>match h[hint]? with
   | some (.obj b' ls)=>match BD P t (ls.drop o) with
    | some v=>some (v,[(b,b')])
    | none=>none
   | _=>none
  | _=>none
 | .extract x i=>match F.ev x with
  | .tup vs=>match vs[i]? with
   | some v=>some (v,[])
   | none=>none
  | _=>none
 | .build t parts=>match Db P t,EF P t with
  | some fs,some z=>match Ry P fs with
   | true=>match Bm (FJ P fs) z (parts.toList.map fun p=>(p.1,F.ev p.2)) with
    | some ls=>some (.agg ls,[])
    | none=>none
   | false=>none
  | _,_=>none
 | .makeFunc fn first captured=>match Ad (first.toList.map F.ev),Ad (captured.toList.map F.ev) with
  | some vs,some us=>some (.val (.func fn vs.toArray us.toArray),[])
  | _,_=>none
 | .call c=>match c.callee,c.args.toList,c.argTypes.toList with
  | .builtin .len,[x],[t]=>match P.underlying t with
   | some (.slice _)=>match F.ev x with
    | .sl es _=>some (.val (.int .i64 (es.length:Int)),[])
    | .val (.slice _ len _)=>some (.val (.int .i64 (len:Int)),[])
    | _=>none
   | _=>none
  | _,_,_=>none
 | _=>none
def VX {P:Program} {t:TypeId} {d:TypeDesc} (h:P.underlying t=some d) (w:World):(underlying t).run P w=.ok d w:=by
 simp [underlying,h]
def I4 {P:Program} {t:TypeId} {i:TypeInfo} (h:P.info? t=some i) (w:World):(typeInfo t).run P w=.ok i w:=by
 simp [typeInfo,h]
def Kd {P:Program} {t:TypeId} {i:TypeInfo} (h:P.info? t=some i) (w:World):(sizeOf t).run P w=.ok i.size w:=by
 simp [sizeOf,I4 h]
def My {P:Program} {t:TypeId} {fs:Array Field} (h:Db P t=some fs):P.underlying t=some (.struct fs):=by
 unfold Db at h
 split at h
 .simp_all
 .cases h
def FU {P:Program} {t:TypeId} {b:Bool} (h:E9 P t=some b) (w:World):(isAgg t).run P w=.ok b w:=by
 unfold E9 at h
 split at h
 .rename_i h';cases h;simp [isAgg,VX h']
 .rename_i h';cases h;simp [isAgg,VX h']
 .rename_i d hd1 hd2 h';cases h;simp [isAgg,VX h']
 .cases h
def Rx {P:Program} {s:TypeId} {f off:Nat} (h:Fh P s f=some off) :
  ∃fs fd i,P.underlying s=some (.struct fs)/\fs[f]? = some fd/\P.info? fd.type=some i/\i.size≠0/\fd.offset=off:=by
 unfold Fh at h
 cases h1:Db P s with
 | none=>simp [h1] at h
 | some fs=>
  cases h2:fs[f]? with
  | none=>simp [h1,h2] at h
  | some fd=>
   cases h3:P.info? fd.type with
   | none=>simp [h1,h2,h3] at h
   | some i=>
    cases h4:Nat.beq i.size 0 with
    | true=>simp [h1,h2,h3,h4] at h
    | false=>
     simp [h1,h2,h3,h4] at h;refine ⟨fs,fd,i,My h1,h2,h3,fun h0=>?_,h⟩;rw [h0] at h4;cases h4
def JK (b o n:Nat):(⟨b,o,none⟩:Addr).add n=⟨b,o+n,none⟩:=by
 unfold Addr.add;split<;>simp_all
def Z3d {P:Program} {s:TypeId} {f off b o:Nat} (h:Fh P s f=some off) (w:World) :
  (Instr.fieldAt s (.pointer<|some ⟨b,o,none⟩) f).run P w=.ok (.pointer<|some ⟨b,o+off,none⟩) w:=by
 obtain ⟨fs,fd,i,h1,h2,h3,h4,rfl⟩:=Rx h;simp [Instr.fieldAt,VX h1,h2,Instr.sureAddr,fieldPlace,Kd h3,h4,JK]
def I3 {P:Program} {t:TypeId} {ls:List AV} {x:AV} {w0:World} {G:Yl} {b o:Nat} {cs:List Value} (hx:BD P t ls=some x) (hcs:X1 w0 G ls cs) :
  ∃v,RV w0 G x v/\∀w',(∀j u,cs[j]? = some u->w'.cell? ⟨b,o+j,none⟩=some u)->(loadVar t ⟨b,o,none⟩).run P w'=.ok v w':=by
 unfold BD at hx
 cases hb:E9 P t with
 | none=>simp [hb] at hx
 | some g=>
  cases hi:P.info? t with
  | none=>cases g<;>simp [hb,hi] at hx
  | some i=>
   cases g with
   | true=>
    simp only [hb,hi] at hx
    cases hle:Nat.ble i.size ls.length with
    | false=>simp [hle] at hx
    | true=>
     simp only [hle,Wz] at hx;subst hx;have hlen:i.size<=ls.length:=Vx hle;refine ⟨_,.agg<|hcs.take i.size,fun w' hc=>?_⟩;have Xg:(cs.take i.size).length=i.size:=by simp [hcs.length,hlen]
     have:=run_loadCells_list (P:=P) (w:=w') ⟨b,o,none⟩ (cs.take i.size) (fun j v hj=>by
      rw [JK];rw [Qp] at hj
      split at hj
      .exact hc j v hj
      .cases hj)
     rw [Xg] at this;simp [loadVar,FU hb,Kd hi,this]
   | false=>
    simp only [hb,hi] at hx
    cases hcs with
    | nil=>simp at hx
    | cons h1 h2=>
     rename_i c vs xs;simp at hx;subst hx;refine ⟨_,h1,fun w' hc=>?_⟩;have:=hc 0 c (by simp);simp only [Dv] at this;simp only [loadVar,Sem.run_bind,FU hb,Result.andThen_ok];simp [load,Sem.run,this]
def Vv {P:Program} {x:Sem Value} {w w':World} {v:Value} (h:x.run P w=.ok v w') :
  (do pure (Next.value (<-x)):Sem Next).run P w=.ok (.value v) w':=by
 simp [h]
def Of {w:World} {G:Yl} {a:Act} {n:Nat} {F:Fr} (hF:FR w G n F a):∀{xs:List Operand} {vs:List Value},Ad (xs.map F.ev)=some vs->xs.map a.eval=vs
 | [],vs,h=>by simp [Ad] at h;simp [h]
 | x::xs,vs,h=>by
  simp only [Uh] at h ⊢;have hx:=hF.ev x
  cases he:F.ev x with
  | val v=>
   simp only [he,Ad] at h
   cases h2:Ad (xs.map F.ev) with
   | none=>simp [h2] at h
   | some us=>
    simp [h2] at h;rw [he] at hx;cases hx;rw [Of hF h2,h]
  | any=>simp [he,Ad] at h
  | sl es hv=>simp [he,Ad] at h
  | agg ls=>simp [he,Ad] at h
  | rp ls=>simp [he,Ad] at h
  | tup vs=>simp [he,Ad] at h
def Zax {P:Program} {op:BinOp} {k:IntKind} {a b:Int} {v:Value} (h:Fd op k a b=some v) (xt:TypeId) (x y:Operand) (w:World) :
  (do eqGuard op xt x y (.int k a) (.int k b);binOp op xt (.int k a) (.int k b)).run P w=.ok v w:=by
 cases op<;>simp [Fd] at h<;>subst h<;>simp [eqGuard,binOp,Op.intArith,Op.intCmp]
def RV.val_inv {w:World} {G:Yl} {v u:Value} (h:RV w G (.val v) u):u=v:=by cases h;rfl
def RV.one_cell {w:World} {G:Yl} {x:AV} {v:Value} (h:RV w G x v) (hx:x.one=true):v.oneCell'=true:=by
 cases h with
 | val=>exact hx
 | nil=>rfl
 | sl=>rfl
 | rp=>rfl
 | any=>simp [AV.one] at hx
 | agg=>simp [AV.one] at hx
 | tup=>simp [AV.one] at hx
def L9 {v:Value} (h:v.oneCell'=true):v.cells.toList=[v]:=by
 cases v<;>first|rfl|(simp [Value.oneCell'] at h)
def RV.cells {w:World} {G:Yl} {x:AV} {v:Value} (h:RV w G x v) (hx:x.fit=true):X1 w G x.leaves v.cells.toList:=by
 cases x with
 | agg ls=>cases h with | agg hh=>simpa [AV.leaves,Value.cells] using hh
 | any=>simp [AV.fit,AV.one] at hx
 | tup vs=>simp [AV.fit,AV.one] at hx
 | val u=>rw [L9 (h.one_cell hx)];exact .cons h .nil
 | sl es hv=>rw [L9 (h.one_cell rfl)];exact .cons h .nil
 | rp ls=>rw [L9 (h.one_cell rfl)];exact .cons h .nil
def X1.one_cells {w:World} {G:Yl}:∀{xs:List AV} {vs:List Value},X1 w G xs vs->xs.all AV.one=true->∀v∈vs,v.oneCell'=true
 | _,_,.nil,_,v,hv=>by simp at hv
 | _,_,.cons h t,hx,v,hv=>by
  simp only [List.all_cons,We] at hx;rcases YM.1 hv with rfl|hv
  .exact h.one_cell hx.1
  .exact t.one_cells hx.2 v hv
def Z3m (off:Nat):∀(vs:List Value) (i:Nat) (cs:Array Value),off+i+vs.length<=cs.size ->
  ((vs.zipIdx i).foldl (fun (cs:Array Value) (p:Value × Nat)=>cs.setIfInBounds (off+p.2) p.1) cs).toList=cs.toList.take (off+i)++vs++cs.toList.drop (off+i+vs.length)
 | [],i,cs,h=>by simp
 | v::vs,i,cs,h=>by
  simp only [List.zipIdx_cons,List.foldl_cons];rw [Z3m off vs (i+1) _ (by simp at h ⊢;omega)];have e:=list_seg_step cs.toList (off+i) v vs (by simp at h ⊢;omega)
  simpa [Array.toList_setIfInBounds,BX] using e
def LT {w:World} {G:Yl} {place:Nat->Option (Nat × Nat)}:∀{parts:List (Nat × AV)} {vps:List (Nat × Value)} {ls out:List AV} {cs:Array Value},
  Bm place ls parts=some out->parts.map (·.1)=vps.map (·.1)->X1 w G (parts.map (·.2)) (vps.map (·.2))->X1 w G ls cs.toList ->
  ∃cs',Instr.fill place cs vps=some cs'/\X1 w G out cs'.toList
 | [],vps,ls,out,cs,h,h1,h2,h3=>by
  cases vps with
  | nil=>simp [Bm] at h;subst h;exact ⟨cs,rfl,h3⟩
  | cons p r=>simp at h1
 | (i,x)::rest,vps,ls,out,cs,h,h1,h2,h3=>by
  cases vps with
  | nil=>simp at h1
  | cons p r=>
   obtain ⟨j,v⟩:=p;simp only [Uh,List.cons.injEq] at h1 h2;obtain ⟨rfl,h1⟩:=h1
   cases h2 with
   | cons hx ht=>
    simp only [Bm] at h
    cases hp:place i with
    | none=>simp [hp] at h
    | some os=>
     obtain ⟨off,size⟩:=os;simp only [hp] at h
     cases hc:(x.fit&&(Nat.beq x.leaves.length size&&Nat.ble (off+size) ls.length)) with
     | false=>simp [hc] at h
     | true=>
      simp only [hc] at h;simp only [We] at hc;have e1:x.leaves.length=size:=UZ hc.2.1;have e2:off+size<=ls.length:=Vx hc.2.2;have hl:=h3.length;have hxc:=hx.cells hc.1;have hvl:v.cells.size=size:=by have:=hxc.length;simpa [e1] using this
      have hcl:cs.size=ls.length:=by simpa using hl
      have key:X1 w G (ls.take off++x.leaves++ls.drop (off+size))
        (v.cells.zipIdx.foldl (fun (cs:Array Value) (p:Value × Nat)=>cs.setIfInBounds (off+p.2) p.1) cs).toList:=by
       have:=Z3m off v.cells.toList 0 cs (by simp [hvl,hcl];omega);rw [<-Array.foldl_toList,Array.toList_zipIdx,this];simp only [Dv,JD,hvl];exact ((h3.take off).append hxc).append<|h3.drop (off+size)
      obtain ⟨cs',k1,k2⟩:=LT h h1 ht key;refine ⟨cs',?_,k2⟩;simp only [Instr.fill,hp];rw [Z8 (by simp [hvl,hcl];omega)];exact k1
def Z5x {P:Program} {t:TypeId} {ls:List AV} (h:EF P t=some ls) :
  ∃i z,P.info? t=some i/\i.zero=some z/\ls=z.cells.toList.map AV.ofVal:=by
 unfold EF at h
 cases hi:P.info? t with
 | none=>simp [hi] at h
 | some i=>
  cases hz:i.zero with
  | none=>simp [hi,hz] at h
  | some z=>simp [hi,hz] at h;exact ⟨i,z,rfl,hz,h.symm⟩
def X1.ofVals {w:World} {G:Yl}:∀(vs:List Value),X1 w G (vs.map AV.ofVal) vs
 | []=>.nil
 | v::vs=>.cons (RV.ofVal v) (X1.ofVals vs)
def X1.map {w:World} {G:Yl} {α:Type} (f:α->AV) (g:α->Value):∀(xs:List α),(∀x∈xs,RV w G (f x)<|g x)->X1 w G (xs.map f) (xs.map g)
 | [],_=>.nil
 | x::xs,h=>.cons (h x (by simp)) (X1.map f g xs fun y hy=>h y (by simp [hy]))
def Z3g {P:Program} (w:World):∀(l:List Field),(l.all fun f=>(P.info? f.type).isSome)=true ->
  (List.mapM (m:=Sem) (fun f=>Functor.map (Prod.mk f.offset)<|sizeOf f.type) l).run P w=.ok (l.map fun f=>(f.offset,((P.info? f.type).map (·.size)).getD 0)) w
 | [],_=>by simp
 | f::l,h=>by
  simp only [List.all_cons,We] at h
  cases hfi:P.info? f.type with
  | none=>simp [hfi] at h
  | some j=>simp [Kd hfi,Z3g w l h.2,hfi]
def Zka {P:Program} {t:TypeId} {fs:Array Field} {z ls:List AV} {w:World} {G:Yl} {n:Nat} {F:Fr} {a:Act} (hF:FR w G n F a) (parts:Array (Nat × Operand))
  (h1:Db P t=some fs) (h2:EF P t=some z) (h4:Ry P fs=true) (h3:Bm (FJ P fs) z (parts.toList.map fun p=>(p.1,F.ev p.2))=some ls) :
  ∃v,RV w G (.agg ls) v/\∀w',(Instr.build t (parts.map fun (i,x)=>(i,a.eval x))).run P w'=.ok v w':=by
 obtain ⟨i,zv,hi,hz,rfl⟩:=Z5x h2;have hu:=My h1;have hpl:∀k,((fs.toList.map fun f=>(f.offset,((P.info? f.type).map (·.size)).getD 0)).toArray)[k]? = FJ P fs k:=by
  intro k;unfold FJ;simp only [List.getElem?_toArray,Tx,EG]
  cases hk:fs[k]? with
  | none=>rfl
  | some f=>
   have hf:(P.info? f.type).isSome=true:=by
    have:=Ax.1 h4 f (by rw [Array.mem_toList_iff];exact Array.mem_of_getElem? hk);exact this
   cases hfi:P.info? f.type with
   | none=>simp [hfi] at hf
   | some j=>simp [hfi]
 obtain ⟨cs',k1,k2⟩:=LT (w:=w) (G:=G) (vps:=parts.toList.map fun p=>(p.1,a.eval p.2)) h3 (by simp [List.map_map,Function.comp_def])
  (by simpa [List.map_map,Function.comp_def] using X1.map (fun p:Nat × Operand=>F.ev p.2) (fun p=>a.eval p.2) parts.toList fun p _=>hF.ev p.2)
  (cs:=zv.cells) (X1.ofVals _)
 refine ⟨_,.agg (cs:=cs'.toList) k2,fun w'=>?_⟩;have hz':(zeroValue t).run P w'=.ok zv w':=by simp [zeroValue,I4 hi,hz]
 have hm:=Z3g (P:=P) w' fs.toList h4;have hfun:(fun k=>((fs.toList.map fun f=>(f.offset,((P.info? f.type).map (·.size)).getD 0)).toArray)[k]?)=FJ P fs:=funext hpl;simp only [Instr.build,Sem.run_bind,hz',Result.andThen_ok,VX hu,Array.mapM_eq_mapM_toList];simp [hm,hpl,k1,Array.toList_map]
def DT {P:Program} {o:Oper} {F:Fr} {h:List Res} {hint:Nat} {x:AV} {eqs:List (Nat × Nat)} (he:QX P o F h hint=some (x,eqs))
  (heq:∀p∈eqs,p.1=p.2):XH P o F h (eqs.map (·.1)) x:=by
 intro n w G a hF hh;obtain ⟨dst,op,type,pos,after,guard⟩:=o;cases op<;>simp only [QX] at he
 case move y=>
  cases he;exact ⟨_,hF.ev y,fun w' _ _=>by simp [execOp]⟩
 case assign y=>
  cases he;exact ⟨_,hF.ev y,fun w' _ _=>by simp [execOp]⟩
 case pick c y z=>
  have hc:=hF.ev c
  split at he
  .rename_i hb;cases he;rw [hb] at hc;have hc:=hc.val_inv;exact ⟨_,hF.ev y,fun w' _ _=>by simp [execOp,hc,asBool]⟩
  .rename_i hb;cases he;rw [hb] at hc;have hc:=hc.val_inv;exact ⟨_,hF.ev z,fun w' _ _=>by simp [execOp,hc,asBool]⟩
  .cases he
 case binOp bop xt y z yt=>
  have hy:=hF.ev y;have hz:=hF.ev z
  split at he
  .rename_i k p k' q h1 h2;rw [h1] at hy;rw [h2] at hz;have hy:=hy.val_inv;have hz:=hz.val_inv
   split at he
   .rename_i hk;have hk:=Zkh hk;subst hk
    split at he
    .rename_i v hv;cases he;refine ⟨v,.val,fun w' _ _=>?_⟩;have:=Zax (P:=P) hv xt y z w';simp only [execOp,hy,hz];exact Vv this
    .cases he
   .cases he
  .cases he
 case unOp uop xt y=>
  have hy:=hF.ev y
  split at he
  .rename_i b hb;cases he;rw [hb] at hy;have hy:=hy.val_inv;exact ⟨_,.val,fun w' _ _=>by simp [execOp,hy,Op.unary]⟩
  .cases he
 case nilCheck y=>
  have hy:=hF.ev y;generalize hv:a.eval y=u at hy
  split at he
  .rename_i ad hb;cases he;rw [hb] at hy;have hy:=hy.val_inv;exact ⟨_,.val,fun w' _ _=>by simp [execOp,hv,hy]⟩
  .rename_i ls hb;cases he;rw [hb] at hy
   cases hy with
   | rp hm=>exact ⟨_,.rp hm,fun w' _ _=>by simp [execOp,hv]⟩
  .rename_i f p c hb;cases he;rw [hb] at hy;have hy:=hy.val_inv;exact ⟨_,.val,fun w' _ _=>by simp [execOp,hv,hy]⟩
  .cases he
 case fieldAddr s y f=>
  have hy:=hF.ev y;generalize hv:a.eval y=u at hy
  split at he
  .rename_i off hoff
   split at he
   .rename_i ls hb;cases he;rw [hb] at hy
    cases hy with
    | rp hm=>
     refine ⟨_,.rp<|hm.drop off,fun w' _ _=>?_⟩;simp only [execOp,hv];exact Vv (Z3d hoff w')
   .rename_i b o' hb;cases he;rw [hb] at hy;have hy:=hy.val_inv;subst hy;refine ⟨_,.val,fun w' _ _=>?_⟩;simp only [execOp,hv];exact Vv<|Z3d hoff w'
   .cases he
  .cases he
 case field s y f=>
  have hy:=hF.ev y;generalize hv:a.eval y=u at hy
  split at he
  .rename_i off fs hoff hfs
   split at he
   .rename_i fd hfd
    split at he
    .rename_i ls hb
     split at he
     .rename_i v hl;cases he;rw [hb] at hy
      cases hy with
      | agg hc=>
       rename_i cs;obtain ⟨fs',fd',i,k1,k2,k3,k4,rfl⟩:=Rx hoff;have k0:=My hfs;rw [k0] at k1;cases k1;rw [hfd] at k2;cases k2;have hd:=hc.drop fd.offset;unfold BD at hl
       cases hg:E9 P fd.type with
       | none=>simp [hg] at hl
       | some g=>
        cases g with
        | true=>
         simp only [hg,k3] at hl
         cases hle:Nat.ble i.size (ls.drop fd.offset).length with
         | false=>rw [hle] at hl;cases hl
         | true=>
          rw [hle] at hl;simp only [Wz] at hl;subst hl;refine ⟨_,.agg<|hd.take i.size,fun w' _ _=>?_⟩;simp only [execOp,hv];refine Vv ?_;simp only [Instr.field,Sem.run_bind,VX k0,Result.andThen_ok,hfd];simp [asAgg,part,FU hg,Kd k3]
        | false=>
         simp only [hg,k3] at hl;generalize hls:ls.drop fd.offset=ls' at hl hd;generalize hcs:cs.drop fd.offset=cs' at hd
         cases hd with
         | nil=>simp at hl
         | cons h1 h2=>
          rename_i c vs xs;simp at hl;subst hl;refine ⟨_,h1,fun w' _ _=>?_⟩;simp only [execOp,hv];refine Vv ?_;have hget:cs[fd.offset]? = some c:=by
           have:=Ys (fun l=>l[0]?) hcs
           simpa using this
          simp only [Instr.field,Sem.run_bind,VX k0,Result.andThen_ok,hfd];simp [asAgg,part,FU hg,hget]
     .cases he
    .cases he
   .cases he
  .cases he
 case load t y=>
  have hy:=hF.ev y;generalize hv:a.eval y=u at hy
  split at he
  .rename_i ls hb
   split at he
   .rename_i v hl;cases he;rw [hb] at hy
    cases hy with
    | rp hm=>
     rename_i b o';obtain ⟨cs,Za,Zf⟩:=hm.cells;obtain ⟨v',h1,h2⟩:=I3 (b:=b) (o:=o') hl Za;refine ⟨v',h1,fun w' hw _=>?_⟩;simp only [execOp,hv];refine Vv ?_;simp only [Instr.loadAt,Instr.sureAddr,Sem.run_bind,Sem.run_pure,Result.andThen_ok];exact h2 w' fun j u hj=>(hw _ _ (Zf j u hj).2).trans (Zf j u hj).1
   .cases he
  .rename_i b o' hb
   split at he
   .rename_i b' ls hh'
    split at he
    .rename_i v hl;cases he;rw [hb] at hy;have hy:=hy.val_inv;subst hy;have hbb:b=b':=heq (b,b') (by simp);subst hbb;obtain ⟨cs,e,k1,k2⟩:=hh.ok _ (Y0 hh');obtain ⟨v',h1,h2⟩:=I3 (b:=b) (o:=o') hl (k2.drop o');refine ⟨v',h1,fun w' _ hw=>?_⟩;simp only [execOp,hv];refine Vv ?_;simp only [Instr.loadAt,Instr.sureAddr,Sem.run_bind,Sem.run_pure,Result.andThen_ok];refine h2 w' fun j u hj=>?_
     have:=hw b (by simp);rw [k1] at this;rw [cell_of_row w' b (o'+j) cs e (0,0) this]
     simpa using hj
    .cases he
   .cases he
  .cases he
 case extract y i=>
  have hy:=hF.ev y;generalize hv:a.eval y=u at hy
  split at he
  .rename_i vs hb
   split at he
   .rename_i v hl;cases he;rw [hb] at hy
    cases hy with
    | tup hc=>
     rename_i cs;obtain ⟨c,h1,h2⟩:=hc.get i _ hl;exact ⟨c,h2,fun w' _ _=>by simp [execOp,hv,Instr.extract,h1]⟩
   .cases he
  .cases he
 case build t parts=>
  split at he
  .rename_i fs z h1 h2
   split at he
   .rename_i h4
    split at he
    .rename_i ls h3;cases he;obtain ⟨v,hv1,hv2⟩:=Zka hF parts h1 h2 h4 h3;exact ⟨v,hv1,fun w' _ _=>by simp only [execOp];exact Vv<|hv2 w'⟩
    .cases he
   .cases he
  .cases he
 case makeFunc fn first captured=>
  split at he
  .rename_i vs us h1 h2;cases he;have e1:=Of hF h1;have e2:=Of hF h2;refine ⟨_,.val,fun w' _ _=>?_⟩;have e1':first.map a.eval=vs.toArray:=by rw [<-e1,<-Array.toList_map,UG]
   have e2':captured.map a.eval=us.toArray:=by rw [<-e2,<-Array.toList_map,UG]
   simp only [execOp];exact Vv (by simp only [Instr.makeFunc,e1',e2'];simp)
  .cases he
 case call c=>
  obtain ⟨callee,args,argTypes⟩:=c;simp only at he
  split at he
  .rename_i y t hargs htys
   split at he
   .rename_i el hu;have hy:=hF.ev y;generalize hv:a.eval y=u at hy;have ha:args=#[y]:=by rw [<-UG (xs:=args),hargs]
    have ht:argTypes=#[t]:=by rw [<-UG (xs:=argTypes),htys]
    subst ha;subst ht
    split at he
    .rename_i es hv' hb;cases he;rw [hb] at hy;refine ⟨.int .i64 es.length,.val,fun w' _ _=>?_⟩
     cases hy with
     | nil hx=>simp [execOp,resolve,invoke,builtin,hv,Builtin.len_,VX hu,goInt]
     | sl hx hc hm=>simp [execOp,resolve,invoke,builtin,hv,Builtin.len_,VX hu,goInt]
    .rename_i ad len cap hb;cases he;rw [hb] at hy;have hy:=hy.val_inv;subst hy;exact ⟨.int .i64 len,.val,fun w' _ _=>by simp [execOp,resolve,invoke,builtin,hv,Builtin.len_,VX hu,goInt]⟩
    .cases he
   .cases he
  .cases he
 all_goals (cases he)
def BZ (h:List Res) (b:Nat):Prop:=∀s,Res.ge s∈h->s<=b
def Mh {w:World} {G:Yl} {h:List Res} (hh:YA w G h):BZ h w.heap.size:=fun _ hs=>hh.ok _ hs
def E3 (w:World) (o:Obj):(w.alloc o).heap[w.heap.size]? = some o:=heap_alloc_new w o
def AP (w:World) (o:Obj) {b:Nat} (hb:b<w.heap.size):(w.alloc o).heap[b]? = w.heap[b]?:=heap_alloc_old w o b hb
def EU (w:World) (o:Obj) {b j:Nat} (hb:b<w.heap.size):(w.alloc o).cell? ⟨b,j,none⟩=w.cell? ⟨b,j,none⟩:=by
 simp [World.cell?,AP w o hb]
def YA.alloc {w:World} {G:Yl} {h:List Res} (hh:YA w G h) (o:Obj) {G':Yl} {h':List Res}
  (hsub:∀b o,G b o->G' b o) (hG:∀b o,G' b o->G b o∨b=w.heap.size) (hnew:∀r∈h',QS (w.alloc o) G' r)
  (hfp:∀r∈h',∀b o,r.fp b o->b=w.heap.size) (hap:h'.Pairwise B8) (hpr:∀r∈h',∀b o,r.fp b o->G' b o->False) :
  YA (w.alloc o) G' (h'++h)/\X4 w G h (w.alloc o) G' (h'++h):=by
 have hA:Ur G w (w.alloc o) G':=⟨fun b j hg=>EU w o<|hh.lt b j hg,hsub⟩;have Xg:(w.alloc o).heap.size=w.heap.size+1:=by simp
 refine ⟨⟨?_,?_,?_,?_⟩,⟨rfl,rfl,rfl,by omega,hsub,fun b hb=>.inl<|AP w o hb,?_,?_⟩⟩
 .intro r hr;rcases Xh.1 hr with hr|hr
  .exact hnew r hr
  .have h0:=hh.ok r hr
   cases r with
   | obj b ls=>
    obtain ⟨cs,el,h1,h2⟩:=h0;exact ⟨cs,el,(AP w o (Tw.1 h1).1).trans h1,h2.mono hA⟩
   | tail v k=>
    rcases h0 with rfl|⟨g,len,cap,cur,el,rfl,h1,h2,h3⟩
    .exact .inl rfl
    .exact .inr ⟨g,len,cap,cur,el,U,(AP w o (Tw.1 h1).1).trans h1,h2,h3⟩
   | ge s=>exact Vy h0 om
   | vec v ls=>
    rcases h0 with ⟨rfl,h0⟩|⟨g,cap,cur,el,rfl,h1,h2,h3,h4⟩
    .exact .inl ⟨U,h0⟩
    .exact .inr ⟨g,cap,cur,el,U,(AP w o (Tw.1 h1).1).trans h1,h2,h3,h4.mono hA⟩
   | many ts=>
    refine ⟨fun p hp=>?_,h0.2⟩;rcases h0.1 p hp with q|⟨g,len,cap,cur,el,q,h1,h2,h3⟩
    .exact .inl q
    .exact .inr ⟨g,len,cap,cur,el,q,(AP w o (Tw.1 h1).1).trans h1,h2,h3⟩
   | own B m=>
    intro b hB;obtain ⟨cs,el,h1,h2⟩:=h0 b hB;exact ⟨cs,el,(AP w o (Tw.1 h1).1).trans h1,h2⟩
   | row v k ls=>
    rcases h0 with ⟨rfl,h0⟩|⟨g,len,cap,cur,el,rfl,h1,h2,h3,h4,h5⟩
    .exact .inl ⟨U,h0⟩
    .exact .inr ⟨g,len,cap,cur,el,U,(AP w o (Tw.1 h1).1).trans h1,h2,h3,h4,h5.mono hA⟩
 .refine Ay.2 ⟨hap,hh.apart,fun r hr r' hr' b j hf hf'=>?_⟩;have e:=hfp r hr b j hf;have:=(hh.ok r' hr').lt b j hf';omega
 .intro r hr b j hf hg;rcases Xh.1 hr with hr|hr
  .exact hpr r hr b j hf hg
  .rcases hG b j hg with h1|h1
   .exact hh.prot r hr b j hf h1
   .have:=(hh.ok r hr).lt b j hf;omega
 .intro b j hg;rcases hG b j hg with h1|h1
  .have:=hh.lt b j h1;omega
  .omega
 .intro b j hb hg;rcases hG b j hg with h1|h1
  .exact .inl h1
  .omega
 .intro b j hb hf;rcases AM.1 hf with ⟨r,hr,h1⟩|h1
  .have:=hfp r hr b j h1;omega
  .exact h1
def YA.alloc_obj {w:World} {G:Yl} {h:List Res} (hh:YA w G h) (cs:Array Value) (t:TypeId) {ls:List AV} (hls:X1 w G ls cs.toList) :
  YA (w.alloc<|.cells cs t) G (.obj w.heap.size ls::h)/\X4 w G h (w.alloc<|.cells cs t) G (.obj w.heap.size ls::h):=by
 have hA:Ur G w (w.alloc<|.cells cs t) G:=⟨fun b j hg=>EU w _<|hh.lt b j hg,fun _ _ h=>h⟩;refine hh.alloc (.cells cs t) (h':=[.obj w.heap.size ls]) (fun _ _ h=>h) (fun _ _ h=>.inl h) ?_ ?_ (CI _ _) ?_
 .intro r hr;rw [XI.1 hr];exact ⟨cs,t,E3 w _,hls.mono hA⟩
 .intro r hr b j hf;rw [XI.1 hr] at hf;exact hf
 .intro r hr b j hf hg;rw [XI.1 hr] at hf;have:=hh.lt b j hg;have:b=w.heap.size:=hf;omega
section
variable {P:Program} {n:Nat} {o:Oper} {F:Fr} {h:List Res} {K:Fr->List Res->Prop}
def Zhr (t:TypeId) {ls:List AV} (ho:o.op=.alloc t) (hz:EF P t=some ls) (hd:VS n o=true)
  (hK:∀b,BZ h b->K (F.put o.dst<|.val<|.pointer<|some ⟨b,0,none⟩) (.obj b ls::h)):WU P n o F h K:=by
 intro Q w G a hF hh;obtain ⟨i,z,hi,hzz,rfl⟩:=Z5x hz;have hr:(execOp a.eval o).run P w=.ok (.value (.pointer (some ⟨w.heap.size,0,none⟩))) (w.alloc (.cells z.cells t)):=by
  simp only [execOp,ho];simp [Instr.alloc,zeroValue,I4 hi,hzz,newVar,newRow]
 unfold Oper.wp;rw [hr];have hls:X1 w G (z.cells.toList.map AV.ofVal) z.cells.toList:=X1.ofVals _;obtain ⟨h1,h2⟩:=hh.alloc_obj z.cells t hls;exact ⟨_,_,G,hK _<|Mh hh,(hF.mono<|h2.agree hh).put (Tk hd) .val,h1,h2⟩
def Zhu (t:TypeId) (x:Operand) {X:AV} (ho:o.op=.box t x) (hx:F.ev x=X) (hfit:X.fit=true) (hd:VS n o=true)
  (hK:∀b,BZ h b->K (F.put o.dst<|.val<|.pointer<|some ⟨b,0,none⟩) (.obj b X.leaves::h)):WU P n o F h K:=by
 intro Q w G a hF hh;have hv:=hF.ev x;rw [hx] at hv;have hr:(execOp a.eval o).run P w=.ok (.value (.pointer (some ⟨w.heap.size,0,none⟩))) (w.alloc (.cells (a.eval x).cells t)):=by
  simp only [execOp,ho];simp [Instr.box,newVar,newRow]
 unfold Oper.wp;rw [hr];obtain ⟨h1,h2⟩:=hh.alloc_obj (a.eval x).cells t (hv.cells hfit);exact ⟨_,_,G,hK _<|Mh hh,(hF.mono<|h2.agree hh).put (Tk hd) .val,h1,h2⟩
end
def Up (w:World) (g b:Nat) (cs:Array Value) (hb:b≠g):(w.setRow g cs).heap[b]? = w.heap[b]?:=setRow_other w g b cs hb
def YA.write {w:World} {G:Yl} {h1 h2:List Res} {b:Nat} {ls ls':List AV} (hh:YA w G (h1++.obj b ls::h2)) {cs cs':Array Value} {e:TypeId}
  (hb:w.heap[b]? = some (.cells cs e (0,0))) (Xg:cs'.size=cs.size) (hls:X1 w G ls' cs'.toList) :
  YA (w.setRow b cs') G (h1++.obj b ls'::h2)/\X4 w G (h1++.obj b ls::h2) (w.setRow b cs') G (h1++.obj b ls'::h2):=by
 have hmem:Res.obj b ls∈h1++.obj b ls::h2:=by simp
 have hA:Ur G w (w.setRow b cs') G:=⟨fun c j hg=>by
  have hne:c≠b:=fun he=>hh.prot _ hmem c j he hg
  simp [World.cell?,Up w b c cs' hne],fun _ _ h=>h⟩
 have hfpe:∀c j,Vr (h1++.obj b ls'::h2) c j↔Vr (h1++.obj b ls::h2) c j:=by
  intro c j;simp only [Vr,Xh,YM];constructor
  .rintro ⟨r,hr|rfl|hr,hf⟩
   .exact ⟨r,.inl hr,hf⟩
   .exact ⟨_,.inr<|.inl rfl,hf⟩
   .exact ⟨r,.inr<|.inr hr,hf⟩
  .rintro ⟨r,hr|rfl|hr,hf⟩
   .exact ⟨r,.inl hr,hf⟩
   .exact ⟨_,.inr<|.inl rfl,hf⟩
   .exact ⟨r,.inr<|.inr hr,hf⟩
 have hpw:=Ay.1 hh.apart;have hpw2:=Vb.1 hpw.2.1;have hother:∀r,(r∈h1∨r∈h2)->∀c j,r.fp c j->c≠b:=by
  intro r hr c j hf hc;subst hc;rcases hr with hr|hr
  .exact hpw.2.2 r hr (.obj c ls) (by simp) c j hf rfl
  .exact hpw2.1 r hr c j rfl hf
 have hkeep:∀r,(r∈h1∨r∈h2)->QS w G r->QS (w.setRow b cs') G r:=by
  intro r hr h0
  cases r with
  | obj c ks=>
   obtain ⟨ds,el,k1,k2⟩:=h0;have hne:c≠b:=hother _ hr c 0 rfl;exact ⟨ds,el,(Up w b c cs' hne).trans k1,k2.mono hA⟩
  | tail v k=>
   rcases h0 with rfl|⟨g,len,cap,cur,el,rfl,k1,k2,k3⟩
   .exact .inl rfl
   .have hne:g≠b:=hother _ hr g (len*k) ⟨rfl,X8 _⟩;exact .inr ⟨g,len,cap,cur,el,U,(Up w b g cs' hne).trans k1,k2,k3⟩
  | ge s=>exact Vy h0 (by simp [World.setRow])
  | vec v ks=>
   rcases h0 with ⟨rfl,h0⟩|⟨g,cap,cur,el,rfl,k1,k2,k3,k4⟩
   .exact .inl ⟨U,h0⟩
   .have hne:g≠b:=hother _ hr g 0 rfl;exact .inr ⟨g,cap,cur,el,U,(Up w b g cs' hne).trans k1,k2,k3,k4.mono hA⟩
  | many ts=>
   refine ⟨fun p hp=>?_,h0.2⟩;rcases h0.1 p hp with q|⟨g,len,cap,cur,el,q,k1,k2,k3⟩
   .exact .inl q
   .have hne:g≠b:=hother _ hr g (len*p.2) ⟨p,hp,by rw [q];exact ⟨rfl,X8 _⟩⟩;exact .inr ⟨g,len,cap,cur,el,q,(Up w b g cs' hne).trans k1,k2,k3⟩
  | own B m=>
   intro c hc;obtain ⟨ds,el,k1,k2⟩:=h0 c hc;have hne:c≠b:=hother _ hr c 0 hc;exact ⟨ds,el,(Up w b c cs' hne).trans k1,k2⟩
  | row v k ks=>
   rcases h0 with ⟨rfl,h0⟩|⟨g,len,cap,cur,el,rfl,k1,k2,k3,k4,k5⟩
   .exact .inl ⟨U,h0⟩
   .have hne:g≠b:=hother _ hr g 0 rfl;exact .inr ⟨g,len,cap,cur,el,U,(Up w b g cs' hne).trans k1,k2,k3,k4,k5.mono hA⟩
 refine ⟨⟨?_,?_,?_,?_⟩,⟨rfl,rfl,rfl,by simp [World.setRow],fun _ _ h=>h,?_,fun _ _ _ h=>.inl h,fun c j _ hf=>(hfpe c j).1 hf⟩⟩
 .intro r hr;rcases Xh.1 hr with hr|hr
  .exact hkeep r (.inl hr)<|hh.ok r<|by simp [hr]
  .rcases YM.1 hr with rfl|hr
   .exact ⟨cs',e,setRow_heap w b cs cs' e (0,0) hb,hls.mono hA⟩
   .exact hkeep r (.inr hr)<|hh.ok r<|by simp [hr]
 .refine Ay.2 ⟨hpw.1,Vb.2 ⟨hpw2.1,hpw2.2⟩,fun r hr r' hr'=>?_⟩;rcases YM.1 hr' with rfl|hr'
  .exact hpw.2.2 r hr (.obj b ls)<|by simp
  .exact hpw.2.2 r hr r'<|by simp [hr']
 .intro r hr c j hf hg;rcases Xh.1 hr with hr|hr
  .exact hh.prot r (by simp [hr]) c j hf hg
  .rcases YM.1 hr with rfl|hr
   .exact hh.prot _ hmem c j hf hg
   .exact hh.prot r (by simp [hr]) c j hf hg
 .intro c j hg;have:=hh.lt c j hg
  simpa [World.setRow] using this
 .intro c hc;by_cases hcb:c=b
  .subst hcb;exact .inr ⟨cs,cs',e,(0,0),hb,setRow_heap w c cs cs' e (0,0) hb,Xg,fun j hj=>absurd ⟨_,hmem,U⟩ hj⟩
  .exact .inl<|Up w b c cs' hcb
section
variable {P:Program} {n:Nat} {o:Oper} {F:Fr} {h1 h2:List Res} {K:Fr->List Res->Prop}
def Zi3 (t:TypeId) (x y:Operand) {b off:Nat} {ls:List AV} {X:AV} (ho:o.op=.store t x y) (hdst:o.dst=none)
  (hx:F.ev x=.val (.pointer<|some ⟨b,off,none⟩)) (hy:F.ev y=X) (hX:(X.fit&&X.leaves.all AV.one)=true)
  (Xg:(P.info? t).map (·.size)=some X.leaves.length) (hle:Nat.ble (off+X.leaves.length) ls.length=true)
  (hK:K F (h1++.obj b (ls.take off++X.leaves++ls.drop (off+X.leaves.length))::h2)):WU P n o F (h1++.obj b ls::h2) K:=by
 intro Q w G a hF hh;have hvx:=hF.ev x;rw [hx] at hvx;have hvx:=hvx.val_inv;have hvy:=hF.ev y;rw [hy] at hvy;simp only [We] at hX;have hcs:=hvy.cells hX.1;have hone:=hcs.one_cells hX.2;have hlen:=hcs.length;obtain ⟨cs,e,k1,k2⟩:=hh.ok (.obj b ls) (by simp);have hle:=Vx hle;have hcl:=k2.length;simp only [JD] at hlen hcl
 cases hi:P.info? t with
 | none=>simp [hi] at Xg
 | some i=>
  have Xg:i.size=X.leaves.length:=by simpa [hi] using Xg
  have hst:=run_storeCells_at P b off e (a.eval y).cells.toList 0 cs w k1 (by simp [hlen,hcl];omega) hone;simp only [Dv,JD] at hst;have hr:(execOp a.eval o).run P w=.ok .skip (w.setRow b (cs.toList.take off++(a.eval y).cells.toList++cs.toList.drop (off+(a.eval y).cells.size)).toArray):=by
   simp only [execOp,ho,hvx];simp [Instr.storeAt,Instr.sureAddr,storeVar,Kd hi,hlen,Xg,hst]
  unfold Oper.wp;rw [hr];obtain ⟨j1,j2⟩:=hh.write (ls':=ls.take off++X.leaves++ls.drop (off+X.leaves.length)) (cs':=(cs.toList.take off++(a.eval y).cells.toList++cs.toList.drop (off+(a.eval y).cells.size)).toArray)
   k1 (by simp [hlen,hcl];omega) (by rw [EJ,hlen];exact ((k2.take off).append hcs).append<|k2.drop _)
  refine ⟨F,_,G,hK,?_,j1,j2⟩;have:=hF.mono (j2.agree hh)
  simpa [Act.put,hdst] using this
end
def Zbk {h h':List Res} (s:∀r∈h',r∈h) {b o:Nat} (hf:Vr h' b o):Vr h b o:=
 let ⟨r,hr,h⟩:=hf;⟨r,s r hr,h⟩
def YA.sub {w:World} {G:Yl} {h h':List Res} (hh:YA w G h) (s:h'.Sublist h):YA w G h':=
 ⟨fun r hr=>hh.ok r<|s.subset hr,hh.apart.sublist s,fun r hr=>hh.prot r<|s.subset hr,hh.lt⟩
def X4.sub' {w w':World} {G G':Yl} {h h' h'':List Res} (e:X4 w G h w' G' h') (s:h''.Sublist h'):X4 w G h w' G' h'':=
 ⟨e.os,e.tape,e.output,e.size,e.sub,e.same,e.newG,fun b o hb hf=>e.newfp b o hb<|Zbk (fun _ hr=>s.subset hr) hf⟩
def C4 (w:World) (G:Yl):Ur G w w.drew G:=⟨fun _ _ _=>rfl,fun _ _ h=>h⟩
def YA.drew {w:World} {G:Yl} {h:List Res} (hh:YA w G h):YA w.drew G h where
 ok:=fun r hr=>by
  have h0:=hh.ok r hr
  cases r with
  | obj b ls=>obtain ⟨cs,e,h1,h2⟩:=h0;exact ⟨cs,e,h1,h2.mono (C4 w G)⟩
  | tail v k=>exact h0
  | ge s=>exact h0
  | vec v ls=>
   rcases h0 with ⟨rfl,h0⟩|⟨g,cap,cur,el,rfl,h1,h2,h3,h4⟩
   .exact .inl ⟨U,h0⟩
   .exact .inr ⟨g,cap,cur,el,U,h1,h2,h3,h4.mono<|C4 w G⟩
  | many ts=>exact h0
  | own B m=>exact h0
  | row v k ls=>
   rcases h0 with ⟨rfl,h0⟩|⟨g,len,cap,cur,el,rfl,h1,h2,h3,h4,h5⟩
   .exact .inl ⟨U,h0⟩
   .exact .inr ⟨g,len,cap,cur,el,U,h1,h2,h3,h4,h5.mono<|C4 w G⟩
 apart:=hh.apart
 prot:=hh.prot
 lt:=hh.lt
def X4.drew (w:World) (G:Yl) (h:List Res):X4 w G h w.drew G h:=
 ⟨rfl,rfl,rfl,X8 _,fun _ _ h=>h,fun _ _=>.inl rfl,fun _ _ _ h=>.inl h,fun _ _ _ h=>h⟩
def YA.alloc_row {w:World} {G:Yl} {h:List Res} (hh:YA w G h) (cs:Array Value) (t:TypeId) {es:List AV} {k cap:Nat}
  (hk:∀x∈es,x.leaves.length=k) (hcap:es.length<=cap) (Xg:cs.size=cap*k) (hls:X1 w G (Zc es) (cs.toList.take (es.length*k))) :
  ∃G',YA (w.alloc<|.cells cs t) G' (.tail (.slice (some ⟨w.heap.size,0,none⟩) es.length cap) k::h) /\
   X4 w G h (w.alloc<|.cells cs t) G' (.tail (.slice (some ⟨w.heap.size,0,none⟩) es.length cap) k::h) /\
   RV (w.alloc<|.cells cs t) G' (.sl es<|some<|.slice (some ⟨w.heap.size,0,none⟩) es.length cap) (.slice (some ⟨w.heap.size,0,none⟩) es.length cap):=by
 let G':Yl:=fun b o=>G b o∨(b=w.heap.size/\o<es.length*k)
 have hA:Ur G w (w.alloc<|.cells cs t) G':=⟨fun b j hg=>EU w _<|hh.lt b j hg,fun _ _ h=>.inl h⟩;have hrow:(w.alloc (.cells cs t)).heap[w.heap.size]? = some (.cells cs t (0,0)):=E3 w _;obtain ⟨h1,h2⟩:=hh.alloc (.cells cs t) (G':=G') (h':=[.tail (.slice (some ⟨w.heap.size,0,none⟩) es.length cap) k]) (fun _ _ h=>.inl h)
  (fun _ _ h=>h.imp id (·.1))
  (fun r hr=>by rw [XI.1 hr];exact .inr ⟨_,_,_,cs,t,rfl,hrow,hcap,Xg⟩)
  (fun r hr b j hf=>by rw [XI.1 hr] at hf;exact hf.1)
  (CI _ _)
  (fun r hr b j hf hg=>by
   rw [XI.1 hr] at hf;obtain ⟨rfl,hf2⟩:=hf;rcases hg with hg|hg
   .exact Nat.lt_irrefl _<|hh.lt _ _ hg
   .exact absurd hg.2 om)
 refine ⟨G',h1,h2,.sl (fun x hx=>by cases hx;rfl) hcap<|Vp.of_flat es hk (WP.of_cells (hls.mono hA) fun j v hj=>?_)⟩;have hj2:=hj;rw [Qp] at hj2
 split at hj2
 .rename_i hlt;refine ⟨?_,.inr ⟨rfl,by omega⟩⟩;rw [VH,cell_of_row _ _ j cs t (0,0) hrow]
  simpa using hj2
 .cases hj2
def Z2d {w:World} {G:Yl}:∀(vs:List Value),X1 w G (List.replicate vs.length AV.any) vs
 | []=>.nil
 | v::vs=>by simp only [YR,Oq];exact .cons .any (Z2d vs)
def Bc (es:List AV) (k:Nat):Bool:=es.all fun x=>Nat.beq x.leaves.length k
def Z6j {es:List AV} {k:Nat} (h:Bc es k=true):∀x∈es,x.leaves.length=k:=fun x hx=>
 UZ (Ax.1 h x hx)
section
variable {P:Program} {n:Nat} {o:Oper} {F:Fr} {h:List Res} {K:Fr->List Res->Prop}
def I2 {w:World} {G:Yl} {a:Act} (hF:FR w G n F a) {t len:Nat} (parts:Array (Nat × Operand)) {e size:Nat} {i:TypeInfo} {ls:List AV}
  (ht:P.underlying t=some (.slice e)) (hi:P.info? e=some i) (hs:i.size=size) (hz:i.zero.isSome=true) (hle:Nat.ble (len*size) (2 ^ 24)=true)
  (hfill:Bm (fun i=>some (i*size,size)) (List.replicate (len*size) .any) (parts.toList.map fun p=>(p.1,F.ev p.2))=some ls) :
  ∃cs:Array Value,X1 w G ls cs.toList /\
   (Instr.buildSlice t len (parts.map fun (i,x)=>(i,a.eval x))).run P w=.ok (.slice (some ⟨w.heap.size,0,none⟩) len len) (w.alloc<|.cells cs e):=by
 subst hs;have hle:=Vx hle
 cases hzz:i.zero with
 | none=>simp [hzz] at hz
 | some z=>
  let zero:Array Value:=if len*i.size=0 then #[] else z.cells
  have hzlen:((Array.range (len*i.size)).map (zero[· % zero.size]!)).toList.length=len*i.size:=by simp
  obtain ⟨cs',k1,k2⟩:=LT (w:=w) (G:=G) (vps:=parts.toList.map fun p=>(p.1,a.eval p.2)) hfill (by simp [List.map_map,Function.comp_def])
   (by simpa [List.map_map,Function.comp_def] using X1.map (fun p:Nat × Operand=>F.ev p.2) (fun p=>a.eval p.2) parts.toList fun p _=>hF.ev p.2)
   (cs:=(Array.range (len*i.size)).map (zero[· % zero.size]!)) (by have:=Z2d (w:=w) (G:=G) ((Array.range (len*i.size)).map (zero[· % zero.size]!)).toList;rwa [hzlen] at this)
  refine ⟨cs',k2,?_⟩;have hnot:¬(len*i.size>2 ^ 24):=by omega
  have hzv:(zeroValue e).run P w=.ok z w:=by simp [zeroValue,I4 hi,hzz]
  have hmap:(parts.map fun (x:Nat × Operand)=>(x.1,a.eval x.2)).toList=parts.toList.map fun p=>(p.1,a.eval p.2):=by simp
  simp only [Instr.buildSlice,Sem.run_bind,VX ht,Result.andThen_ok,Kd hi,hnot,if_false];by_cases h0:len*i.size=0
  .have hz0:zero=#[]:=Zg h0;rw [hz0] at k1;rw [Zg h0];simp only [Sem.run_bind,Sem.run_pure,Result.andThen_ok,hmap,k1];simp [newRow]
  .have hz0:zero=z.cells:=Z8 h0;rw [hz0] at k1;rw [Z8 h0];simp only [Sem.run_bind,Sem.run_pure,Result.andThen_ok,hzv,hmap,k1];simp [newRow]
def Zhx (t len:Nat) (parts:Array (Nat × Operand)) {e size:Nat} {i:TypeInfo} {es:List AV} (ho:o.op=.buildSlice t len parts)
  (ht:P.underlying t=some (.slice e)) (hi:P.info? e=some i) (hs:i.size=size) (hz:i.zero.isSome=true) (hle:Nat.ble (len*size) (2 ^ 24)=true)
  (hfill:Bm (fun i=>some (i*size,size)) (List.replicate (len*size) .any) (parts.toList.map fun p=>(p.1,F.ev p.2))=some (Zc es))
  (hlen:es.length=len) (hall:Bc es size=true) (hd:VS n o=true)
  (hK:∀b,BZ h b->K (F.put o.dst<|.sl es<|some<|.slice (some ⟨b,0,none⟩) len len) (.tail (.slice (some ⟨b,0,none⟩) len len) size::h)):WU P n o F h K:=by
 intro Q w G a hF hh;obtain ⟨cs,h1,h2⟩:=I2 hF parts ht hi hs hz hle hfill;have hr:(execOp a.eval o).run P w=.ok (.value (.slice (some ⟨w.heap.size,0,none⟩) len len)) (w.alloc (.cells cs e)):=by
  simp only [execOp,ho];exact Vv h2
 unfold Oper.wp;rw [hr];subst hlen;have hk:=Z6j hall;have hcs:cs.size=es.length*size:=by have:=h1.length;rw [T3 es hk] at this;simpa using this
 obtain ⟨G',j1,j2,j3⟩:=hh.alloc_row cs e hk (X8 _) hcs (by rw [<-hcs];simpa [Vc] using h1);exact ⟨_,_,G',hK _ (Mh hh),(hF.mono (j2.agree hh)).put (Tk hd) j3,j1,j2⟩
end
structure Gh (w:World) (G:Yl) (h1 h2:List Res) (k:Nat) (v:Value) (es:List AV) (v':Value) (w':World) (G':Yl):Prop where
 ok:YA w' G' (h1++.tail v' k::h2)
 ext:X4 w G (h1++.tail v k::h2) w' G' (h1++.tail v' k::h2)
 rv:RV w' G' (.sl es<|some v') v'
 own:v'.ownBlock=v.ownBlock∨∃b,v'.ownBlock=some b/\w.heap.size<=b
def Z6r {w:World} {G:Yl} {h1 h2:List Res} {k:Nat} {v:Value} (hh:YA w G (h1++.tail v k::h2)) (cs:Array Value) (t:TypeId) {es:List AV} {cap:Nat}
  (hk:∀x∈es,x.leaves.length=k) (hcap:es.length<=cap) (Xg:cs.size=cap*k) (hls:X1 w G (Zc es) (cs.toList.take (es.length*k))) :
  ∃G',Gh w G h1 h2 k v es (.slice (some ⟨w.heap.size,0,none⟩) es.length cap) (w.drew.alloc<|.cells cs t) G':=by
 obtain ⟨G',j1,j2,j3⟩:=hh.drew.alloc_row cs t hk hcap Xg (hls.mono (C4 w G));have hsub:(h1++.tail (.slice (some ⟨w.heap.size,0,none⟩) es.length cap) k::h2).Perm (.tail (.slice (some ⟨w.heap.size,0,none⟩) es.length cap) k::(h1++h2)):=List.perm_middle;have hs2:(Res.tail (.slice (some ⟨w.heap.size,0,none⟩) es.length cap) k::(h1++h2)).Sublist (.tail (.slice (some ⟨w.heap.size,0,none⟩) es.length cap) k::(h1++.tail v k::h2)):=
  List.Sublist.cons_cons _ (List.Sublist.append (List.Sublist.refl _)<|B3 _ _)
 refine ⟨G',(j1.sub hs2).perm hsub.symm,?_,j3,.inr ⟨_,U,X8 _⟩⟩;exact (X4.drew w G _).trans<|(j2.sub' hs2).perm (QP _) hsub.symm
def Et {P:Program} {t ty e:TypeId} {i:TypeInfo} (ht:P.underlying t=some (.slice e)) (hi:P.info? e=some i) {ad:Option Addr} {len cap:Nat} {a:Option Addr} {c:Nat}
  (hle:len<=cap) (w:World):(Builtin.append_ #[t,t] ty #[.slice ad len cap,.slice a 0 c]).run P w=.ok (.slice ad len cap) w:=by
 cases ad with
 | none=>cases a<;>simp [Builtin.append_,VX ht,Kd hi,Builtin.lenOf,hle,Builtin.firstCells,loadCells,loadCellsFrom]
 | some ad=>cases a<;>simp [Builtin.append_,VX ht,Kd hi,Builtin.lenOf,hle,Builtin.firstCells,loadCells,loadCellsFrom,storeCells]
def Z6s {w:World} {G:Yl} {h1 h2:List Res} {k g cap:Nat} {es xs:List AV} {cur:Array Value} {e:TypeId} {news:List Value}
  (hh:YA w G (h1++.tail (.slice (some ⟨g,0,none⟩) es.length cap) k::h2)) (hrow:w.heap[g]? = some (.cells cur e (0,0))) (hcur:cur.size=cap*k)
  (hm:WP w G g 0 (Zc es)) (hes:∀y∈es,y.leaves.length=k) (hxs:∀y∈xs,y.leaves.length=k) (hn:X1 w G (Zc xs) news)
  (hroom:es.length+xs.length<=cap) :
  ∃G',Gh w G h1 h2 k (.slice (some ⟨g,0,none⟩) es.length cap) (es++xs) (.slice (some ⟨g,0,none⟩) (es.length+xs.length) cap)
   (w.setRow g (cur.toList.take (es.length*k)++news++cur.toList.drop (es.length*k+news.length)).toArray) G':=by
 have hnl:news.length=xs.length*k:=by rw [hn.length,T3 xs hxs]
 have hfit:es.length*k+news.length<=cur.size:=by rw [hnl,hcur,<-Kf];exact Ky _ hroom
 generalize hcs':(cur.toList.take (es.length*k)++news++cur.toList.drop (es.length*k+news.length)).toArray=cs';have hlist:cs'.toList=cur.toList.take (es.length*k)++news++cur.toList.drop (es.length*k+news.length):=by rw [<-hcs']
 have Xg:cs'.size=cur.size:=by
  have:=Ys List.length hlist;simp only [JD,Yy,WK,B1] at this;omega
 have hlow:∀j,j<es.length*k->cs'[j]? = cur[j]?:=by
  intro j hj;have h1:(cur.toList.take (es.length*k)).length=es.length*k:=by simp;omega
  rw [<-EG,hlist,Uq,Dr om,Qp,Zg hj,EG]
 have hmid:∀j u,news[j]? = some u->cs'[es.length*k+j]? = some u:=by
  intro j u hj;have h1:(cur.toList.take (es.length*k)).length=es.length*k:=by simp;omega
  have hjl:j<news.length:=(Xv.1 hj).1;rw [<-EG,hlist,Uq,Ds om,h1,Nat.add_sub_cancel_left,Dr hjl,hj]
 have hmem:Res.tail (.slice (some ⟨g,0,none⟩) es.length cap) k∈h1++.tail (.slice (some ⟨g,0,none⟩) es.length cap) k::h2:=by simp
 let G':Yl:=fun b o=>G b o∨(b=g/\es.length*k<=o/\o<(es.length+xs.length)*k)
 have hA:Ur G w (w.setRow g cs') G':=⟨fun b j hg=>by
  by_cases hbg:b=g
  .subst hbg;have hj:j<es.length*k:=by
    rcases CK j (es.length*k) with h|h
    .exact h
    .exact (hh.prot _ hmem b j ⟨U,h⟩ hg).elim
   rw [cell_of_row _ b j cs' e (0,0) (setRow_heap w b cur cs' e (0,0) hrow),cell_of_row w b j cur e (0,0) hrow,hlow j hj]
  .simp [World.cell?,Up w g b cs' hbg],fun _ _ h=>.inl h⟩
 have hpw:=Ay.1 hh.apart;have hpw2:=Vb.1 hpw.2.1;have hbig:∀j,es.length*k<=j->Res.fp (.tail (.slice (some ⟨g,0,none⟩) es.length cap) k) g j:=fun j hj=>⟨rfl,hj⟩
 have hother:∀r,(r∈h1∨r∈h2)->∀c j,r.fp c j->c=g->j<es.length*k:=by
  intro r hr c j hf hc;subst hc;rcases CK j (es.length*k) with h|h
  .exact h
  .rcases hr with hr|hr
   .exact (hpw.2.2 r hr _ (Xn ..) c j hf<|hbig j h).elim
   .exact (hpw2.1 r hr c j (hbig j h) hf).elim
 have hkeep:∀r,(r∈h1∨r∈h2)->QS w G r->QS (w.setRow g cs') G' r:=by
  intro r hr h0
  cases r with
  | obj c ks=>
   obtain ⟨ds,el,k1,k2⟩:=h0;have hne:c≠g:=fun hc=>by have:=hother _ hr c (es.length*k) rfl hc;omega
   exact ⟨ds,el,(Up w g c cs' hne).trans k1,k2.mono hA⟩
  | tail v kk=>
   rcases h0 with rfl|⟨g2,len,cap2,cur2,el,rfl,k1,k2,k3⟩
   .exact .inl rfl
   .have hne:g2≠g:=fun hc=>by have:=hother _ hr g2 (len*kk+es.length*k) ⟨rfl,by omega⟩ hc;omega
    exact .inr ⟨g2,len,cap2,cur2,el,U,(Up w g g2 cs' hne).trans k1,k2,k3⟩
  | ge s=>exact Vy h0 (by simp [World.setRow])
  | vec v ks=>
   rcases h0 with ⟨rfl,h0⟩|⟨g2,cap2,cur2,el,rfl,k1,k2,k3,k4⟩
   .exact .inl ⟨U,h0⟩
   .have hne:g2≠g:=fun hc=>by have:=hother _ hr g2 (es.length*k) rfl hc;omega
    exact .inr ⟨g2,cap2,cur2,el,U,(Up w g g2 cs' hne).trans k1,k2,k3,k4.mono hA⟩
  | many ts=>
   refine ⟨fun p hp=>?_,h0.2⟩;rcases h0.1 p hp with q|⟨g2,len,cap2,cur2,el,q,k1,k2,k3⟩
   .exact .inl q
   .have hne:g2≠g:=fun hc=>by have:=hother _ hr g2 (len*p.2+es.length*k) ⟨p,hp,by rw [q];exact ⟨rfl,by omega⟩⟩ hc;omega
    exact .inr ⟨g2,len,cap2,cur2,el,q,(Up w g g2 cs' hne).trans k1,k2,k3⟩
  | own B m=>
   intro c hc;obtain ⟨ds,el,k1,k2⟩:=h0 c hc;have hne:c≠g:=fun hq=>by have:=hother _ hr c (es.length*k) hc hq;omega
   exact ⟨ds,el,(Up w g c cs' hne).trans k1,k2⟩
  | row v kk ks=>
   rcases h0 with ⟨rfl,h0⟩|⟨g2,len2,cap2,cur2,el,rfl,k1,k2,k3,k4,k5⟩
   .exact .inl ⟨U,h0⟩
   .have hne:g2≠g:=fun hc=>by have:=hother _ hr g2 (es.length*k) rfl hc;omega
    exact .inr ⟨g2,len2,cap2,cur2,el,U,(Up w g g2 cs' hne).trans k1,k2,k3,k4,k5.mono hA⟩
 have hle:es.length*k<=(es.length+xs.length)*k:=Ky _ om;have hfpe:∀r,r∈h1++.tail (.slice (some ⟨g,0,none⟩) (es.length+xs.length) cap) k::h2->∀b o,r.fp b o ->
   Vr (h1++.tail (.slice (some ⟨g,0,none⟩) es.length cap) k::h2) b o:=by
  intro r hr b o hf;rcases Xh.1 hr with hr|hr
  .exact ⟨r,by simp [hr],hf⟩
  .rcases YM.1 hr with rfl|hr
   .obtain ⟨rfl,hf2⟩:=hf;exact ⟨_,hmem,U,Vy hle hf2⟩
   .exact ⟨r,by simp [hr],hf⟩
 refine ⟨G',⟨?_,?_,?_,?_⟩,⟨rfl,rfl,rfl,by simp [World.setRow],fun _ _ h=>.inl h,?_,?_,fun b o _ ⟨r,hr,hf⟩=>hfpe r hr b o hf⟩,?_,.inl rfl⟩
 .intro r hr;rcases Xh.1 hr with hr|hr
  .exact hkeep r (.inl hr)<|hh.ok r<|by simp [hr]
  .rcases YM.1 hr with rfl|hr
   .exact .inr ⟨g,_,cap,cs',e,U,setRow_heap w g cur cs' e (0,0) hrow,hroom,Xg.trans hcur⟩
   .exact hkeep r (.inr hr)<|hh.ok r<|by simp [hr]
 .have htt:∀r,B8 r (.tail (.slice (some ⟨g,0,none⟩) es.length cap) k)->B8 r (.tail (.slice (some ⟨g,0,none⟩) (es.length+xs.length) cap) k):=
   fun r hd b o hf ⟨e1,e2⟩=>hd b o hf ⟨e1,Vy hle e2⟩
  refine Ay.2 ⟨hpw.1,Vb.2 ⟨fun r hr=>(htt r (hpw2.1 r hr).symm).symm,hpw2.2⟩,fun r hr r' hr'=>?_⟩;rcases YM.1 hr' with rfl|hr'
  .exact htt r<|hpw.2.2 r hr _<|Xn ..
  .exact hpw.2.2 r hr r'<|by simp [hr']
 .intro r hr b o hf hg;obtain ⟨r0,hr0,hf0⟩:=hfpe r hr b o hf;rcases hg with hg|⟨rfl,hg1,hg2⟩
  .exact hh.prot r0 hr0 b o hf0 hg
  .rcases Xh.1 hr with hr|hr
   .have:=hother r (.inl hr) b o hf rfl;omega
   .rcases YM.1 hr with rfl|hr
    .have:=hf.2;omega
    .have:=hother r (.inr hr) b o hf rfl;omega
 .intro b o hg;have hs:(w.setRow g cs').heap.size=w.heap.size:=by simp [World.setRow]
  rw [hs];rcases hg with hg|⟨rfl,_,_⟩
  .exact hh.lt b o hg
  .exact (Tw.1 hrow).1
 .intro b hb;by_cases hbg:b=g
  .subst hbg;refine .inr ⟨cur,cs',e,(0,0),hrow,setRow_heap w b cur cs' e (0,0) hrow,Xg,fun o ho=>hlow o ?_⟩;rcases CK o (es.length*k) with h|h
   .exact h
   .exact absurd ⟨_,hmem,U,h⟩ ho
  .exact .inl<|Up w g b cs' hbg
 .intro b o hb hg;rcases hg with hg|⟨rfl,hg1,hg2⟩
  .exact .inl hg
  .exact .inr ⟨_,hmem,U,hg1⟩
 .rw [<-Yy];refine .sl (k:=k) (fun x hx=>by cases hx;rfl) (by simpa using hroom)<|Vp.of_flat _ (fun y hy=>?_) ?_
  .rcases Xh.1 hy with hy|hy
   .exact hes y hy
   .exact hxs y hy
  .have e1:Zc (es++xs)=Zc es++Zc xs:=by simp [Zc]
   rw [e1];refine (hm.mono hA).append ?_;rw [T3 es hes,VH];refine WP.of_cells (hn.mono hA) fun j u hj=>⟨?_,.inr ⟨rfl,by omega,?_⟩⟩
   .rw [cell_of_row _ g _ cs' e (0,0) (setRow_heap w g cur cs' e (0,0) hrow),hmid j u hj]
   .have hjl:j<news.length:=(Xv.1 hj).1;rw [Kf];omega
def I1 {P:Program} (w:World) (t ty e el:TypeId) (i:TypeInfo) (ht:P.underlying t=some (.slice e)) (hi:P.info? e=some i)
  (g sLen sCap:Nat) (cur:Array Value) (hg:w.heap[g]? = some (.cells cur el (0,0)))
  (a:Addr) (m c:Nat) (news:List Value) (hl:news.length=m*i.size) (hnews:∀j u,news[j]? = some u->w.cell? (a.add j)=some u) (h1:∀u∈news,u.oneCell'=true)
  (hroom:sLen+m<=sCap) (hfit:sLen*i.size+news.length<=cur.size) :
  (Builtin.append_ #[t,t] ty #[.slice (some ⟨g,0,none⟩) sLen sCap,.slice (some a) m c]).run P w =
   .ok (.slice (some ⟨g,0,none⟩) (sLen+m) sCap) (w.setRow g (cur.toList.take (sLen*i.size)++news++cur.toList.drop (sLen*i.size+news.length)).toArray):=by
 have hf:=run_firstCells_some (P:=P) w i.size m a m c news hl hnews;have hst:=run_storeCells_at P g (sLen*i.size) el news 0 cur w hg (by simpa using hfit) h1;simp only [Dv] at hst;simp [Builtin.append_,run_underlying ht,sizeOf,typeInfo,hi,Builtin.lenOf,hroom,hf,Addr.add_lit,hst]
def Z6q {P:Program} {w:World} {G:Yl} {h1 h2:List Res} {t ty e k:Nat} {i:TypeInfo} {v x:Value} {es xs:List AV}
  (ht:P.underlying t=some (.slice e)) (hi:P.info? e=some i) (hk:i.size=k) (hzs:(i.zero.map (·.cells.size))=some k) (hb:Nat.ble i.bytes 32768=true)
  (hh:YA w G (h1++.tail v k::h2)) (hv:RV w G (.sl es<|some v) v) (hx:RV w G (.sl xs none) x)
  (hes:∀y∈es,y.leaves.length=k) (hxs:∀y∈xs,y.leaves.length=k) (hone:(Zc xs).all AV.one=true) (hbound:es.length+xs.length<=4294967296) :
  ∃v' w' G',(Builtin.append_ #[t,t] ty #[v,x]).run P w=.ok v' w'/\Gh w G h1 h2 k v (es++xs) v' w' G':=by
 have htail:II w v k:=hh.ok (.tail v k) (by simp);have hb:=Vx hb
 cases hz:i.zero with
 | none=>simp [hz] at hzs
 | some z=>
  have hzs:z.cells.size=k:=by simpa [hz] using hzs
  have hlen:v=.slice none 0 0->es=[]:=by
   intro he;subst he
   cases hv with
   | nil=>rfl
  have grown:∀(olds news:List Value) (old:Nat),X1 w G (Zc es) olds->X1 w G (Zc xs) news ->
    ∃G',Gh w G h1 h2 k v (es++xs) (.slice (some ⟨w.heap.size,0,none⟩) (es.length+xs.length)<|grownCap w (es.length+xs.length) old e)
     (w.drew.alloc<|.cells (olds.toArray++news.toArray++Builtin.zeroCells z.cells (grownCap w (es.length+xs.length) old e-(es.length+xs.length))) e) G':=by
   intro olds news old ho hn;have Xt:=grownCap_ge w (es.length+xs.length) old e;have hall:∀y∈es++xs,y.leaves.length=k:=fun y hy=>by
    rcases Xh.1 hy with hy|hy
    .exact hes y hy
    .exact hxs y hy
   have e1:Zc (es++xs)=Zc es++Zc xs:=by simp [Zc]
   have hol:olds.length=es.length*k:=by rw [ho.length,T3 es hes]
   have hnl:news.length=xs.length*k:=by rw [hn.length,T3 xs hxs]
   have:=Z6r hh (olds.toArray++news.toArray++Builtin.zeroCells z.cells (grownCap w (es.length+xs.length) old e-(es.length+xs.length))) e
    (es:=es++xs) (cap:=grownCap w (es.length+xs.length) old e) hall (by simpa using Xt)
    (by
     simp only [Array.size_append,EI,size_zeroCells,hzs,hol,hnl,<-Kf]
     congr 1
     omega)
    (by
     rw [e1];have:(olds.toArray++news.toArray++Builtin.zeroCells z.cells (grownCap w (es.length+xs.length) old e-(es.length+xs.length))).toList.take ((es++xs).length*k)=olds++news:=by
      simp only [EH,Uq,Yy];rw [<-Uq,Kf,<-hol,<-hnl,<-Yy];exact B4
     rw [this]
     exact ho.append hn)
   simpa using this
  by_cases hxe:xs=[]
  .subst hxe
   cases hx with
   | nil _=>
    refine ⟨v,w,G,?_,by simpa using hh,X4.refl _ _ _,by simpa using hv,.inl rfl⟩;rcases htail with rfl|⟨g,len,cap,cur,el,rfl,_,hle,_⟩
    .exact Et ht hi (X8 _) w
    .exact Et ht hi hle w
   | sl _ _ _=>
    refine ⟨v,w,G,?_,by simpa using hh,X4.refl _ _ _,by simpa using hv,.inl rfl⟩;rcases htail with rfl|⟨g,len,cap,cur,el,rfl,_,hle,_⟩
    .exact Et ht hi (X8 _) w
    .exact Et ht hi hle w
  .cases hx with
   | nil _=>exact absurd rfl hxe
   | sl hq hcc hm=>
    rename_i b o' k' c;have hpos:0<xs.length:=Gg.2 hxe;obtain ⟨news,hn,hnc⟩:=hm.flat_mem.cells;have hnl:news.length=xs.length*i.size:=by rw [hn.length,hk,T3 xs hxs]
    have hone':=hn.one_cells hone;have hnews:∀j u,news[j]? = some u->w.cell? ((⟨b,o',none⟩:Addr).add j)=some u:=fun j u hj=>by rw [JK];exact (hnc j u hj).1
    have hby:(es.length+xs.length)*i.bytes<=140737488355328:=by
     have:=Nat.mul_le_mul hbound hb;omega
    rcases htail with rfl|⟨g,len,cap,cur,el,rfl,hrow,hlc,hcur⟩
    .have he:=hlen rfl;subst he;have hr:=run_append_nil (P:=P) w t ty e i z ht hi hz ⟨b,o',none⟩ xs.length c news hnl hnews hpos (by simp at hbound;omega) (by simp at hby;omega);obtain ⟨G',hG'⟩:=grown [] news 0 .nil hn;simp only [Xx,VH,Array.empty_append] at hG';exact ⟨_,_,G',hr,by simpa using hG'⟩
    .have hle:len=es.length:=by cases hv<;>rfl
     subst hle;have hmem:WP w G g 0 (Zc es):=by
      cases hv with
      | nil=>exact .nil
      | sl _ _ hm=>exact hm.flat_mem
     obtain ⟨olds,ho,hoc⟩:=hmem.cells;by_cases hroom:es.length+xs.length<=cap
     .have hfit:es.length*i.size+news.length<=cur.size:=by rw [hnl,hcur,hk,<-Kf];exact Ky _ hroom
      have hr:=I1 (P:=P) w t ty e el i ht hi g es.length cap cur hrow ⟨b,o',none⟩ xs.length c news hnl hnews hone' hroom hfit;obtain ⟨G',hG'⟩:=Z6s (h1:=h1) (h2:=h2) hh hrow hcur hmem hes hxs hn hroom;rw [hk] at hr;exact ⟨_,_,G',hr,hG'⟩
     .have hol:olds.length=es.length*i.size:=by rw [ho.length,hk,T3 es hes]
      have hr:=run_append_grow (P:=P) w t ty e i z ht hi hz ⟨g,0,none⟩ es.length cap olds hol (fun j u hj=>by rw [JK];simpa using (hoc j u hj).1) ⟨b,o',none⟩ xs.length c news hnl hnews
       om om (growslice_fits om hby)
      obtain ⟨G',hG'⟩:=grown olds news cap ho hn;exact ⟨_,_,G',hr,hG'⟩
section
variable {P:Program} {n:Nat} {o:Oper} {F:Fr} {h h1 h2:List Res} {K:Fr->List Res->Prop}
def RV.forget {w:World} {G:Yl} {es:List AV} {hv:Option Value} {v:Value} (h:RV w G (.sl es hv) v):RV w G (.sl es none) v:=by
 cases h with
 | nil _=>exact .nil (by simp)
 | sl _ hc hm=>exact .sl (by simp) hc hm
def RV.header {w:World} {G:Yl} {es:List AV} {x v:Value} (h:RV w G (.sl es<|some x) v):v=x:=by
 cases h with
 | nil hq=>exact (hq x rfl).symm
 | sl hq _ _=>exact (hq x rfl).symm
def Zht (s x:Operand) (t:TypeId) {e k:Nat} {i:TypeInfo} {hv:Value} {hx:Option Value} {es xs:List AV}
  (ho:o.op=.call { callee:=.builtin .append,args:=#[s,x],argTypes:=#[t,t] })
  (ht:P.underlying t=some (.slice e)) (hi:P.info? e=some i) (hk:i.size=k) (hzs:(i.zero.map (·.cells.size))=some k) (hb:Nat.ble i.bytes 32768=true)
  (hs:F.ev s=.sl es (some hv)) (hx:F.ev x=.sl xs hx) (hd:VS n o=true)
  (hes:∀y∈es,y.leaves.length=k) (hxs:∀y∈xs,y.leaves.length=k) (hone:(Zc xs).all AV.one=true) (hbound:es.length+xs.length<=4294967296)
  (hK:∀v',(v'.ownBlock=hv.ownBlock∨∃b,v'.ownBlock=some b/\BZ (h1++.tail hv k::h2) b) ->
   K (F.put o.dst<|.sl (es++xs)<|some v') (h1++.tail v' k::h2)):WU P n o F (h1++.tail hv k::h2) K:=by
 intro Q w G a hF hh;have v1:=hF.ev s;have v2:=hF.ev x;rw [hs] at v1;rw [hx] at v2;have e1:=v1.header;rw [e1] at v1;obtain ⟨v',w',G',hr,hA⟩:=Z6q (P:=P) (ty:=o.type) ht hi hk hzs hb hh v1 v2.forget hes hxs hone hbound;have hrun:(execOp a.eval o).run P w=.ok (.value v') w':=by
  simp only [execOp,ho,resolve,invoke,builtin,Sem.run_bind,Sem.run_pure,Result.andThen_ok,CH,Uh,CG,e1,hr]
 unfold Oper.wp;rw [hrun];refine ⟨_,_,G',hK v' ?_,(hF.mono<|hA.ext.agree hh).put (Tk hd) hA.rv,hA.ok,hA.ext⟩;rcases hA.own with h|⟨b,h,hle⟩
 .exact .inl h
 .exact .inr ⟨b,h,fun s hs=>Vy (hh.ok _ hs) hle⟩
def Z3e {t e k:Nat} {i:TypeInfo} {b off len cap:Nat} {ik:IntKind} {j:Int} (ht:P.underlying t=some (.slice e)) (hi:P.info? e=some i) (hk:i.size=k)
  (h0:0<=j) (hlt:j<len) (w:World) :
  (Instr.indexAt t (.slice (some ⟨b,off,none⟩) len cap)<|.int ik j).run P w=.ok (.pointer<|some ⟨b,off+j.toNat * k,none⟩) w:=by
 subst hk;have hu:=VX ht w;simp only [Instr.indexAt,asIntOf,Sem.run_bind,Sem.run_pure,Result.andThen_ok,hu];simp [h0,hlt,Kd hi,JK]
def Zml (t:TypeId) (x ix:Operand) {e k:Nat} {i:TypeInfo} {es:List AV} {hv:Option Value} {ik:IntKind} {j:Int} {y:AV}
  (ho:o.op=.indexAddr t x ix) (ht:P.underlying t=some (.slice e)) (hi:P.info? e=some i) (hk:i.size=k) (hx:F.ev x=.sl es hv) (hix:F.ev ix=.val (.int ik j))
  (h0:0<=j) (hget:es[j.toNat]? = some y) (hy:y.leaves.length=k):XH P o F h [] (.rp y.leaves):=by
 intro n w G a hF hh;have v1:=hF.ev x;have v2:=hF.ev ix;rw [hx] at v1;rw [hix] at v2;have v2:=v2.val_inv;generalize hv1:a.eval x=u at v1
 cases v1 with
 | nil _=>simp at hget
 | sl hq hc hm=>
  rename_i b off kk cap;have hlt:j.toNat<es.length:=(Xv.1 hget).1;have hkk:kk=k:=by
   have:=hm.len y (Y0 hget);omega
  subst hkk;refine ⟨_,.rp<|hm.get _ _ hget,fun w' _ _=>?_⟩;simp only [execOp,ho,hv1,v2];exact Vv<|Z3e ht hi hk h0 om w'
def Zmm (t:TypeId) (x ix:Operand) {e k:Nat} {i:TypeInfo} {b off len cap:Nat} {ik:IntKind} {j:Int}
  (ho:o.op=.indexAddr t x ix) (ht:P.underlying t=some (.slice e)) (hi:P.info? e=some i) (hk:i.size=k) (hx:F.ev x=.val (.slice (some ⟨b,off,none⟩) len cap)) (hix:F.ev ix=.val (.int ik j))
  (h0:0<=j) (hlt:j<len):XH P o F h [] (.val<|.pointer<|some ⟨b,off+j.toNat * k,none⟩):=by
 intro n w G a hF hh;have v1:=hF.ev x;have v2:=hF.ev ix;rw [hx] at v1;rw [hix] at v2;have v1:=v1.val_inv;have v2:=v2.val_inv;refine ⟨_,.val,fun w' _ _=>?_⟩;simp only [execOp,ho,v1,v2];exact Vv (Z3e ht hi hk h0 hlt w')
def Cr (F:Fr) (o:Option Operand) (d:Int):Option Int:=
 match o with
 | none=>some d
 | some x=>match F.ev x with
  | .val (.int _ j)=>some j
  | _=>none
def Eu {v:Value} {ik:IntKind} {j:Int} {y:Nat} {c:BoundsCode} (hv:v=.int ik j) (h0:0<=j) (h1:j<=y) (w:World):(Instr.sliceBound v y c).run P w=.ok j.toNat w:=by
 subst hv;simp [Instr.sliceBound,asIntOf,h0,h1]
def Zmt (t:TypeId) (x:Operand) (lo hi:Option Operand) {e k:Nat} {i:TypeInfo} {es:List AV} {hv:Option Value} {l m:Int}
  (ho:o.op=.slice t x lo hi none) (ht:P.underlying t=some (.slice e)) (hi':P.info? e=some i) (hk:i.size=k) (hx:F.ev x=.sl es hv)
  (hlo:Cr F lo 0=some l) (hhi:Cr F hi es.length=some m) (h0:0<=l) (h1:l<=m) (h2:m<=es.length) (hes:∀y∈es,y.leaves.length=k) :
  XH P o F h [] (.sl ((es.take m.toNat).drop l.toNat) none):=by
 intro n w G a hF hh;have v1:=hF.ev x;rw [hx] at v1;generalize hv1:a.eval x=u at v1;have hlo':lo.map a.eval=none/\l=0∨∃ik,lo.map a.eval=some (.int ik l):=by
  cases lo with
  | none=>simp [Cr] at hlo;exact .inl ⟨rfl,hlo.symm⟩
  | some y=>
   simp only [Cr] at hlo
   split at hlo
   .rename_i k j hj;cases hlo;have:=hF.ev y;rw [hj] at this;exact .inr ⟨k,by simp [this.val_inv]⟩
   .cases hlo
 have hhi':hi.map a.eval=none/\m=es.length∨∃ik,hi.map a.eval=some (.int ik m):=by
  cases hi with
  | none=>simp [Cr] at hhi;exact .inl ⟨rfl,hhi.symm⟩
  | some y=>
   simp only [Cr] at hhi
   split at hhi
   .rename_i k j hj;cases hhi;have:=hF.ev y;rw [hj] at this;exact .inr ⟨k,by simp [this.val_inv]⟩
   .cases hhi
 have hrun:∀(ad:Option Addr) (cap:Nat),m<=cap->∀w':World,(Instr.sliceAt t (.slice ad es.length cap) (lo.map a.eval) (hi.map a.eval) none).run P w' =
   .ok (.slice (if cap=l.toNat then ad else ad.map (·.add (l.toNat * k))) (m.toNat-l.toNat) (cap-l.toNat)) w':=by
  intro ad cap hcap w';subst hk;have hmm:(Instr.sliceBounds true es.length cap (lo.map a.eval) (hi.map a.eval) none).run P w'=.ok (l.toNat,m.toNat,cap) w':=by
   rcases hhi' with ⟨e1,rfl⟩|⟨ik,e1⟩
   .rcases hlo' with ⟨e2,rfl⟩|⟨ik2,e2⟩
    .simp [Instr.sliceBounds,e1,e2]
    .simp [Instr.sliceBounds,e1,e2,Eu (P:=P) (v:=.int ik2 l) rfl h0 (by omega:l<=(es.length:Int))]
   .have Zb:=fun c=>Eu (P:=P) (c:=c) (v:=.int ik m) (y:=cap) rfl om hcap w'
    rcases hlo' with ⟨e2,rfl⟩|⟨ik2,e2⟩
    .simp [Instr.sliceBounds,e1,e2,Zb]
    .have ZE:=fun c=>Eu (P:=P) (c:=c) (v:=.int ik2 l) (y:=m.toNat) rfl h0 om w'
     simp [Instr.sliceBounds,e1,e2,Zb,ZE]
  simp only [Instr.sliceAt,Sem.run_bind,VX ht,Result.andThen_ok,Instr.slice,hmm];simp [Kd hi']
 cases v1 with
 | nil hq=>
  rename_i ad cap;simp only [Xx,Int.natCast_zero] at h2;have hl:l=0:=by omega
  have hm:m=0:=by omega
  subst hl;subst hm;have hr:=hrun ad cap om;refine ⟨_,?_,fun w' _ _=>by simp only [execOp,ho,hv1,Option.map_none];exact Vv<|hr w'⟩;exact .nil (by simp)
 | sl hq hc hm=>
  rename_i b off kk cap;by_cases hemp:m.toNat<=l.toNat
  .refine ⟨_,?_,fun w' _ _=>by simp only [execOp,ho,hv1,Option.map_none];exact Vv<|hrun _ cap om w'⟩;have e1:(es.take m.toNat).drop l.toNat=[]:=Iz (by simp;omega);have e2:m.toNat-l.toNat=0:=by omega
   rw [e1,e2];exact .nil (by simp)
  .have hne:0<es.length:=by omega
   have hkk:kk=k:=by
    have hy:=hm.len es[0] (List.getElem_mem hne);have:=hes es[0] (List.getElem_mem hne);omega
   subst hkk;refine ⟨_,?_,fun w' _ _=>by simp only [execOp,ho,hv1,Option.map_none];exact Vv<|hrun _ cap om w'⟩;rw [Z8 om];have hlen:((es.take m.toNat).drop l.toNat).length=m.toNat-l.toNat:=by simp;omega
   rw [<-hlen];simp only [CM,JK];exact .sl (k:=kk) (by simp) om<|(hm.take m.toNat).drop l.toNat
def Zhv (f:FuncId) (args:Array Operand) (tys:Array TypeId) {fn:Func} {h1 h2:List Res} {xs:List AV} {R:AV->List Res->Prop}
  (ho:o.op=.call { callee:=.value (.func f),args:=args,argTypes:=tys }) (hf:P.funcs[f]? = some fn) (hb:fn.body.isSome=true) (hn:(fn.name== "runtime.NumGoroutine")=false)
  (hargs:args.toList.map F.ev=xs) (hd:VS n o=true) (hp:h.Perm (h1++h2)) (hc:Wf P f xs h1 R)
  (hK:∀r h',R r h'->K (F.put o.dst r) (h'++h2)):WU P n o F h K:=by
 intro Q w G a hF hh;have hh':=hh.perm hp;have hvs:X1 w G xs (args.toList.map a.eval):=by rw [<-hargs];exact X1.map F.ev a.eval args.toList fun x _=>hF.ev x
 have hcl:=hc w G _ hvs hh'.left;have hbn:¬fn.body=none:=by intro hq;simp [hq] at hb
 have hn':¬fn.name= "runtime.NumGoroutine":=by simpa using hn
 have hrun:(execOp a.eval o).run P w=.ok (.enter f<|args.map a.eval) w:=by
  simp only [execOp,ho,resolve,Act.eval,Deferred.ofValue,Sem.run_bind,Sem.run_pure,Result.andThen_ok,invoke,callFunc];simp [program,Sem.run,hf,hn',hbn]
 unfold Oper.wp;rw [hrun];show Calls P f (args.map a.eval) w _
 have hav:args.map a.eval=(args.toList.map a.eval).toArray:=by rw [<-Array.toList_map,UG]
 rw [hav];refine hcl.mono fun e w' ⟨v,r,h',G',he,hR,hv,hh2,hx⟩=>?_
 subst he;obtain ⟨j1,j2⟩:=hh'.frame hx hh2;have j3:=j2.perm hp.symm (QP _);exact ⟨_,_,G',hK r h' hR,(hF.mono<|j3.agree hh).put (Tk hd) hv,j1,j3⟩
def Zhw (t:Operand) (args:Array Operand) (tys:Array TypeId) {f:FuncId} {caps:Array Value} {fn:Func} {h1 h2:List Res} {xs:List AV} {R:AV->List Res->Prop}
  (ho:o.op=.call { callee:=.value t,args:=args,argTypes:=tys }) (ht:F.ev t=.val (.func (.func f) #[] caps)) (hf:P.funcs[f]? = some fn) (hb:fn.body.isSome=true)
  (hn:(fn.name== "runtime.NumGoroutine")=false)
  (hargs:args.toList.map F.ev++caps.toList.map AV.val=xs) (hd:VS n o=true) (hp:h.Perm (h1++h2)) (hc:Wf P f xs h1 R)
  (hK:∀r h',R r h'->K (F.put o.dst r) (h'++h2)):WU P n o F h K:=by
 intro Q w G a hF hh;have hh':=hh.perm hp;have htv:=hF.ev t;rw [ht] at htv;have htv:=htv.val_inv;have hcv:∀(l:List Value),X1 w G (l.map AV.val) l:=fun l=>by
  induction l with
  | nil=>exact .nil
  | cons v l ih=>exact .cons .val ih
 have hvs:X1 w G xs (args.toList.map a.eval++caps.toList):=by
  rw [<-hargs];exact (X1.map F.ev a.eval args.toList fun x _=>hF.ev x).append<|hcv _
 have hcl:=hc w G _ hvs hh'.left;have hbn:¬fn.body=none:=by intro hq;simp [hq] at hb
 have hn':¬fn.name= "runtime.NumGoroutine":=by simpa using hn
 have hrun:(execOp a.eval o).run P w=.ok (.enter f (args.map a.eval++caps)) w:=by
  simp only [execOp,ho,resolve,htv,Deferred.ofValue,Sem.run_bind,Sem.run_pure,Result.andThen_ok,invoke,callFunc];simp [program,Sem.run,hf,hn',hbn]
 unfold Oper.wp;rw [hrun];show Calls P f (args.map a.eval++caps) w _
 have hav:args.map a.eval++caps=(args.toList.map a.eval++caps.toList).toArray:=by
  apply Array.ext'
  simp
 rw [hav];refine hcl.mono fun e w' ⟨v,r,h',G',he,hR,hv,hh2,hx⟩=>?_
 subst he;obtain ⟨j1,j2⟩:=hh'.frame hx hh2;have j3:=j2.perm hp.symm (QP _);exact ⟨_,_,G',hK r h' hR,(hF.mono<|j3.agree hh).put (Tk hd) hv,j1,j3⟩
end
def YU:Code->Code
 | .seq a _=>a
 | .cond _ a _=>a
 | .block _ a=>a
 | .loop a=>a
 | .scope a=>a
 | c=>c
def Uv:Code->Code
 | .seq _ b=>b
 | .cond _ _ b=>b
 | c=>c
def Xo:Code->Nat
 | .skip=>0
 | .region _ _ false=>1
 | .region _ _ true=>2
 | .seq _ _=>3
 | .cond _ _ _=>4
 | .block _ _=>5
 | .loop _=>6
 | .exit _=>7
 | .ret=>8
 | _=>9
def Jg:Code->Nat
 | .region id _ _=>id
 | .block id _=>id
 | .exit id=>id
 | _=>0
def XR:Code->Array Oper
 | .region _ ops _=>ops
 | _=>#[]
def Bd:Code->Operand
 | .cond x _ _=>x
 | _=>.tmp 0
def Gv (fn:Func):Code:=fn.body.getD .skip
def Z7q {c:Code} (h:Xo c=0):c=.skip:=by unfold Xo at h;split at h<;>first|rfl|cases h
def Z7r {c:Code} (h:Xo c=1):c=.region (Jg c) (XR c) false:=by unfold Xo at h;split at h<;>first|rfl|cases h
def Z7s {c:Code} (h:Xo c=2):c=.region (Jg c) (XR c) true:=by unfold Xo at h;split at h<;>first|rfl|cases h
def Z7t {c:Code} (h:Xo c=3):c=.seq (YU c) (Uv c):=by unfold Xo at h;split at h<;>first|rfl|cases h
def Z7u {c:Code} (h:Xo c=4):c=.cond (Bd c) (YU c) (Uv c):=by unfold Xo at h;split at h<;>first|rfl|cases h
def Z7v {c:Code} (h:Xo c=5):c=.block (Jg c) (YU c):=by unfold Xo at h;split at h<;>first|rfl|cases h
def Z7w {c:Code} (h:Xo c=6):c=.loop (YU c):=by unfold Xo at h;split at h<;>first|rfl|cases h
def Z7x {c:Code} (h:Xo c=7):c=.exit (Jg c):=by unfold Xo at h;split at h<;>first|rfl|cases h
def Z7y {c:Code} (h:Xo c=8):c=.ret:=by unfold Xo at h;split at h<;>first|rfl|cases h
def Jc (P:Program) (n:Nat) (ops:Array Oper) (B:Fr->List Res->Prop) (l:List Oper) (F:Fr) (h:List Res):Prop:=
 ∀(Q:Exit->Act->World->Prop) w G a,FR w G n F a->YA w G h ->
  (∀F' h' G' a' w',B F' h'->FR w' G' n F' a'->YA w' G' h'->X4 w G h w' G' h'->Q .normal a' w')->wpList P ops Q l a w
section
variable {P:Program} {n:Nat} {ops:Array Oper} {B:Fr->List Res->Prop} {l:List Oper} {F:Fr} {h:List Res} {A:Vh} {c:Code}
def Zkf (hB:B F h):Jc P n ops B [] F h:=fun _ w G a hF hh hk=>hk F h G a w hB hF hh<|X4.refl _ _ _
def JU (ops:Array Oper) (F:Fr) (o:Oper):Option Bool:=
 match o.guard with
 | none=>some true
 | some (j,want)=>match (ops[j]?).bind (·.dst) with
  | none=>none
  | some t=>match F.get t with
   | .val (.bool b)=>some (b==want)
   | .tup []=>some false
   | _=>none
def DZ {w:World} {G:Yl} {a:Act} {o:Oper} {b:Bool} (hF:FR w G n F a) (hlt:(match o.guard with|none=>true|some (j,_)=>match (ops[j]?).bind (·.dst) with|some t=>Nat.blt t n|none=>true)=true)
  (hg:JU ops F o=some b):Region.wanted o (yielded ops a.tmps)=b:=by
 unfold JU at hg;unfold Region.wanted
 cases hq:o.guard with
 | none=>simp [hq] at hg;simp [hg]
 | some jw=>
  obtain ⟨j,want⟩:=jw;simp only [hq] at hg hlt ⊢
  cases ht:(ops[j]?).bind (·.dst) with
  | none=>simp [ht] at hg
  | some t=>
   simp only [ht] at hg hlt;have hlt':t<n:=by simpa using hlt
   have hv:=hF.get t;have hget:a.tmps[t]? = some (a.tmps.getD t undef):=by
    have:t<a.tmps.size:=by rw [hF.size];exact hlt'
    simp [Array.getD,this]
   unfold yielded;simp only [ht,Option.bind_some,hget]
   split at hg
   .rename_i b' hb;rw [hb] at hv;have hv:=hv.val_inv;cases hg;rw [hv];cases b'<;>cases want<;>rfl
   .rename_i hb;rw [hb] at hv;cases hg;generalize a.tmps.getD t undef=u at hv
    cases hv with
    | tup hc=>cases hc;cases want<;>rfl
   .cases hg
def Bq (n:Nat) (ops:Array Oper) (o:Oper):Bool:=
 match o.guard with|none=>true|some (j,_)=>match (ops[j]?).bind (·.dst) with|some t=>Nat.blt t n|none=>true
def Kr (P:Program) (n:Nat) (ops:Array Oper) (h:List Res):Nat->List Oper->Fr->List Nat->Option (List Oper × Fr × List (Nat × Nat))
 | 0,l,F,_=>some (l,F,[])
 | _+1,[],_,_=>none
 | k+1,o::l,F,hints=>
  match VS n o&&Bq n ops o with
  | false=>none
  | true=>match JU ops F o with
   | none=>none
   | some false=>Kr P n ops h k l (F.put o.dst (.tup [])) hints
   | some true=>match QX P o F h (hints.headD 0) with
    | none=>none
    | some (x,eqs)=>match Kr P n ops h k l (F.put o.dst x) (match eqs with | []=>hints | _=>hints.tail) with
     | none=>none
     | some (l',F',es)=>some (l',F',eqs++es)
def Zod {o:Oper} {Q:Exit->Act->World->Prop} {a:Act} {w:World} (hw:Region.wanted o (yielded ops a.tmps)=false)
  (hk:wpList P ops Q l (a.put o.dst undef) w):wpList P ops Q (o::l) a w:=by
 unfold wpList;rw [Z8 (by simp [hw])];exact hk
def NH:∀(k:Nat) {l:List Oper} {F:Fr} {hints:List Nat} {l':List Oper} {F':Fr} {eqs:List (Nat × Nat)},Kr P n ops h k l F hints=some (l',F',eqs) ->
  (∀p∈eqs,p.1=p.2)->Jc P n ops B l' F' h->Jc P n ops B l F h
 | 0,l,F,hints,l',F',eqs,he,_,hs=>by
  simp only [Kr,Wz,Prod.mk.injEq] at he;obtain ⟨rfl,rfl,rfl⟩:=he;exact hs
 | k+1,[],F,hints,l',F',eqs,he,_,hs=>by simp [Kr] at he
 | k+1,o::l,F,hints,l',F',eqs,he,heq,hs=>by
  simp only [Kr] at he
  cases hd:VS n o&&Bq n ops o with
  | false=>rw [hd] at he;cases he
  | true=>
   rw [hd] at he;simp only [We] at hd;simp only at he
   cases hg:JU ops F o with
   | none=>rw [hg] at he;cases he
   | some b=>
    rw [hg] at he
    cases b with
    | false=>
     simp only at he;have ih:=NH k he heq hs;intro Q w G a hF hh hk;have hw:=DZ hF hd.2 hg;exact Zod hw<|ih Q w G _ (hF.put (Tk hd.1)<|.tup (cs:=[]) .nil) hh hk
    | true=>
     simp only at he
     cases hev:QX P o F h (hints.headD 0) with
     | none=>rw [hev] at he;cases he
     | some xe=>
      obtain ⟨x,es⟩:=xe;rw [hev] at he;simp only at he;generalize hhint:(match es with|[]=>hints|_=>hints.tail)=hints' at he
      cases hr:Kr P n ops h k l (F.put o.dst x) hints' with
      | none=>rw [hr] at he;cases he
      | some y=>
       obtain ⟨l2,F2,es2⟩:=y;rw [hr] at he;simp only [Wz,Prod.mk.injEq] at he;obtain ⟨rfl,rfl,rfl⟩:=he;have ih:=NH k hr (fun p hp=>heq p (Xh.2 (.inr hp))) hs;have hst:=DT hev fun p hp=>heq p (Xh.2 (.inl hp))
       intro Q w G a hF hh hk;have hw:=DZ hF hd.2 hg;obtain ⟨v,hv,hrun⟩:=hst n w G a hF hh;unfold wpList;rw [Zg hw];refine .inl ?_;unfold Oper.wp;rw [hrun w (fun _ _ _=>rfl) (fun _ _=>rfl)];exact ih Q w G _ (hF.put (Tk hd.1) hv) hh hk
def Zkg {o:Oper} (hg:JU ops F o=some true) (hlt:Bq n ops o=true) (ho:WU P n o F h fun F' h'=>Jc P n ops B l F' h'):Jc P n ops B (o::l) F h:=by
 intro Q w G a hF hh hk;have hw:=DZ hF hlt hg;unfold wpList;rw [Zg hw];refine .inl (Oper.wp_mono ?_ (ho Q w G a hF hh));intro a' w' ⟨F',h',G',h1,h2,h3,h4⟩;exact h1 Q w' G' a' h2 h3 fun F2 h2' G2 a2 w2 b1 b2 b3 b4=>hk F2 h2' G2 a2 w2 b1 b2 b3 (h4.trans b4)
def Fr.Le.refl (F:Fr):F.Le F:=fun _ _ _ _ h=>h
def Zd (x y:AV):Prop:=∀w G v,RV w G x v->RV w G y v
def Zd.refl (x:AV):Zd x x:=fun _ _ _ h=>h
def Zd.any (x:AV):Zd x .any:=fun _ _ _ _=>.any
def Zd.forget (es:List AV) (hv:Option Value):Zd (.sl es hv) (.sl es none):=fun _ _ _ h=>h.forget
def RK (F:Fr):F.Le []:=fun _ _ _ _ _=>.any
def DX {F F':Fr} {t:Nat} {x y:AV} (hx:F.get t=x) (hxy:Zd x y) (hr:F.Le F'):F.Le ((t,y)::F'):=by
 intro w G v s hv;show RV w G (match Nat.beq t s with|true=>y|false=>Fr.get F' s) v
 cases hb:Nat.beq t s with
 | true=>
  have:=UZ hb;subst this;rw [hx] at hv;exact hxy _ _ _ hv
 | false=>exact hr w G v s hv
def Zd.sl {es es':List AV} (hv:Option Value) (h:es=es'):Zd (.sl es hv) (.sl es' none):=h▸Zd.forget es hv
def Zd.slh {es es':List AV} (hv:Option Value) (h:es=es'):Zd (.sl es hv) (.sl es' hv):=h▸Zd.refl _
def Zd.i {a b:Int} (h:a=b):Zd (.val<|.int .i64 a) (.val<|.int .i64 b):=h▸Zd.refl _
def Zd.b {a b:Bool} (h:a=b):Zd (.val<|.bool a) (.val<|.bool b):=h▸Zd.refl _
inductive Vo:List AV->List AV->Prop
 | nil:Vo [] []
 | cons {x y:AV} {xs ys:List AV} (h:Zd x y) (t:Vo xs ys):Vo (x::xs) (y::ys)
def Vo.refl:∀(xs:List AV),Vo xs xs
 | []=>.nil
 | x::xs=>.cons (Zd.refl x) (Vo.refl xs)
def Vo.cs {w:World} {G:Yl}:∀{xs ys:List AV} {vs:List Value},Vo xs ys->X1 w G xs vs->X1 w G ys vs
 | _,_,_,.nil,.nil=>.nil
 | _,_,_,.cons h t,.cons a b=>.cons (h _ _ _ a) (t.cs b)
def Vo.mem {w:World} {G:Yl}:∀{xs ys:List AV} {b o:Nat},Vo xs ys->WP w G b o xs->WP w G b o ys
 | _,_,_,_,.nil,.nil=>.nil
 | _,_,_,_,.cons h t,.cons a1 a2 a3 a4=>.cons a1 a2 (h _ _ _ a3) (t.mem a4)
def Zd.agg {xs ys:List AV} (h:Vo xs ys):Zd (.agg xs) (.agg ys):=fun _ _ _ hv=>by
 cases hv with
 | agg hc=>exact .agg (h.cs hc)
def Zd.tup {xs ys:List AV} (h:Vo xs ys):Zd (.tup xs) (.tup ys):=fun _ _ _ hv=>by
 cases hv with
 | tup hc=>exact .tup (h.cs hc)
def Zd.rp {xs ys:List AV} (h:Vo xs ys):Zd (.rp xs) (.rp ys):=fun _ _ _ hv=>by
 cases hv with
 | rp hc=>exact .rp (h.mem hc)
mutual
def AV.like:AV->AV->AV
 | .sl es hv,y=>match y with | .sl _ none=>.sl es none | _=>.sl es hv
 | .agg ls,y=>match y with | .agg ms=>.agg (Ci ls ms) | _=>.agg ls
 | .rp ls,y=>match y with | .rp ms=>.rp (Ci ls ms) | _=>.rp ls
 | .tup ls,y=>match y with | .tup ms=>.tup (Ci ls ms) | _=>.tup ls
 | .any,_=>.any
 | .val v,y=>match y with | .any=>.any | _=>.val v
def Ci:List AV->List AV->List AV
 | [],_=>[]
 | x::xs,ys=>match ys with | y::ys=>x.like y::Ci xs ys | []=>x::xs
end
mutual
def AV.like_le:∀(x y:AV),Zd x<|x.like y
 | .sl es hv,y=>by
  cases y with
  | sl es' hv'=>cases hv'<;>simp only [AV.like]<;>first | exact Zd.forget es hv | exact Zd.refl _
  | _=>simp only [AV.like];exact Zd.refl _
 | .agg ls,y=>by
  cases y with
  | agg ms=>simp only [AV.like];exact Zd.agg (HE ls ms)
  | _=>simp only [AV.like];exact Zd.refl _
 | .rp ls,y=>by
  cases y with
  | rp ms=>simp only [AV.like];exact Zd.rp (HE ls ms)
  | _=>simp only [AV.like];exact Zd.refl _
 | .tup ls,y=>by
  cases y with
  | tup ms=>simp only [AV.like];exact Zd.tup (HE ls ms)
  | _=>simp only [AV.like];exact Zd.refl _
 | .any,y=>by simp only [AV.like];exact Zd.refl _
 | .val v,y=>by
  cases y with
  | any=>simp only [AV.like];exact Zd.any _
  | _=>simp only [AV.like];exact Zd.refl _
def HE:∀(xs ys:List AV),Vo xs<|Ci xs ys
 | [],ys=>by simp only [Ci];exact .nil
 | x::xs,ys=>by
  cases ys with
  | nil=>simp only [Ci];exact Vo.refl _
  | cons y ys=>simp only [Ci];exact .cons (AV.like_le x y) (HE xs ys)
end
def M3 {F F':Fr} (h:F'.map (fun p=>(F.get p.1).like p.2)=F'.map (·.2)):F.Le F':=by
 induction F' with
 | nil=>exact RK F
 | cons p r ih=>
  simp only [Uh,List.cons.injEq] at h;refine DX rfl ?_<|ih h.2;have:=AV.like_le (F.get p.1) p.2
  rwa [h.1] at this
structure Q9 (F:Fr) (h:List Res) (F':Fr) (h':List Res):Prop where
 fr:F.Le F'
 res:∃d,h.Perm (h'++d)
def YA.weak {w:World} {G:Yl} {h':List Res} (hh:YA w G h) (hw:∃d,h.Perm (h'++d)):YA w G h':=by
 obtain ⟨d,hp⟩:=hw;exact (hh.perm hp).left
def X4.weak_left {w w':World} {G G':Yl} {h' k:List Res} (hw:∃d,h.Perm (h'++d)) (e:X4 w G h' w' G' k):X4 w G h w' G' k:=by
 obtain ⟨d,hp⟩:=hw;have hs:∀b o,Vr h' b o->Vr h b o:=fun b o hf=>(Cd hp).2 (AM.2 (.inl hf))
 exact ⟨e.os,e.tape,e.output,e.size,e.sub,fun b hb=>(e.same b hb).mono fun _ ho=>hs _ _ ho,fun b o hb hg=>(e.newG b o hb hg).imp id<|hs b o,fun b o hb hf=>hs b o<|e.newfp b o hb hf⟩
def CS {F':Fr} {h':List Res} (hw:Q9 F h F' h') (ha:YC P n c A F' h'):YC P n c A F h:=by
 intro w G a hF hh;refine wp_mono (ha w G a (hF.le hw.fr) (hh.weak hw.res)) ?_;intro e a' w' ⟨F2,h2,G2,b1,b2,b3,b4⟩;exact ⟨F2,h2,G2,b1,b2,b3,b4.weak_left hw.res⟩
def I5 {F':Fr} {h':List Res} (hw:Q9 F h F' h') (ha:Jc P n ops B l F' h'):Jc P n ops B l F h:=by
 intro Q w G a hF hh hk;exact ha Q w G a (hF.le hw.fr) (hh.weak hw.res) fun F2 h2 G2 a2 w2 b1 b2 b3 b4=>hk F2 h2 G2 a2 w2 b1 b2 b3 (b4.weak_left hw.res)
def OA {A':Vh} (hA:∀e F h,A e F h->A' e F h) (ha:YC P n c A F h):YC P n c A' F h:=by
 intro w G a hF hh;exact wp_mono (ha w G a hF hh) fun e a' w' hc=>hc.mono hA
@[reducible] def CE (P:Program) (n:Nat) (y:Code) (A:Vh):Vh:=fun e F h=>
 match e with
 | .normal=>YC P n y A F h
 | e=>A e F h
@[reducible] def Gq (id:Nat) (A:Vh):Vh:=fun e F h=>
 match e with
 | .exit i=>match Nat.beq i id with
  | true=>A .normal F h
  | false=>A (.exit i) F h
 | e=>A e F h
@[reducible] def MX (Inv:Nat->Fr->List Res->Prop) (m:Nat) (A:Vh):Vh:=fun e F h=>
 match e with
 | .normal=>∃m' F' h',m'<m/\Inv m' F' h'/\Q9 F h F' h'
 | e=>A e F h
def IL (hk:Xo c=3) (ha:YC P n (YU c) (CE P n (Uv c) A) F h):YC P n c A F h:=by
 rw [Z7t hk];intro w G a hF hh;refine wp_seq<|wp_mono (ha w G a hF hh) ?_;intro e a' w' ⟨F',h',G',h1,h2,h3,h4⟩
 cases e with
 | normal=>exact wp_mono (h1 w' G' a' h2 h3) fun e a2 w2 hc=>hc.trans h4
 | exit id=>exact ⟨F',h',G',h1,h2,h3,h4⟩
 | goto l=>exact ⟨F',h',G',h1,h2,h3,h4⟩
 | ret=>exact ⟨F',h',G',h1,h2,h3,h4⟩
 | panic ch=>exact ⟨F',h',G',h1,h2,h3,h4⟩
 | outgrown=>exact ⟨F',h',G',h1,h2,h3,h4⟩
def OB (hk:Xo c=1) (hs:Jc P n (XR c) (A .normal) (XR c).toList F h):YC P n c A F h:=by
 rw [Z7r hk];intro w G a hF hh;exact wp_region_list (hs _ w G a hF hh fun F' h' G' a' w' b1 b2 b3 b4=>⟨F',h',G',b1,b2,b3,b4⟩)
def Z69 (hk:Xo c=3) (hk1:Xo (YU c)=1) (hs:Jc P n (XR<|YU c) (fun F h=>YC P n (Uv c) A F h) (XR<|YU c).toList F h):YC P n c A F h:=
 IL hk (OB hk1 hs)
def Z6e (hk:Xo c=0) (h0:A .normal F h):YC P n c A F h:=by
 rw [Z7q hk];intro w G a hF hh;exact wp_skip ⟨F,h,G,h0,hF,hh,X4.refl _ _ _⟩
def Z67 (id:Nat) (hk:Xo c=7) (hi:Jg c=id) (h0:A (.exit id) F h):YC P n c A F h:=by
 subst hi;rw [Z7x hk];intro w G a hF hh;exact wp_exit ⟨F,h,G,h0,hF,hh,X4.refl _ _ _⟩
def Z6b (hk:Xo c=8) (h0:A .ret F h):YC P n c A F h:=by
 rw [Z7y hk];intro w G a hF hh;exact wp_ret ⟨F,h,G,h0,hF,hh,X4.refl _ _ _⟩
def IK {b:Bool} {p:Prop} (hk:Xo c=4) (hc:F.ev (Bd c)=.val (.bool b)) (hp:b=true↔p) (h1:p->YC P n (YU c) A F h) (h2:¬p->YC P n (Uv c) A F h) :
  YC P n c A F h:=by
 rw [Z7u hk];intro w G a hF hh;have hv:=hF.ev (Bd c);rw [hc] at hv;exact wp_cond_split hv.val_inv (fun e=>h1 (hp.1 e) w G a hF hh) fun e=>h2 (fun q=>by have:=hp.2 q;rw [e] at this;cases this) w G a hF hh
def Z64 (id:Nat) (hk:Xo c=5) (hi:Jg c=id) (ha:YC P n (YU c) (Gq id A) F h):YC P n c A F h:=by
 subst hi;rw [Z7v hk];intro w G a hF hh;refine wp_block<|wp_mono (ha w G a hF hh) ?_;intro e a' w' ⟨F',h',G',h1,h2,h3,h4⟩
 cases e with
 | normal=>exact ⟨F',h',G',h1,h2,h3,h4⟩
 | exit id=>
  simp only [Exit.inBlock];by_cases hid:id=Jg c
  .subst hid;rw [Zg rfl];have hb:Nat.beq (Jg c) (Jg c)=true:=Nat.beq_refl _;simp only [Gq,hb] at h1;exact ⟨F',h',G',h1,h2,h3,h4⟩
  .rw [Z8 hid];have hb:Nat.beq id (Jg c)=false:=by
    cases hq:Nat.beq id (Jg c)
    .rfl
    .exact absurd (UZ hq) hid
   simp only [Gq,hb] at h1;exact ⟨F',h',G',h1,h2,h3,h4⟩
 | goto l=>exact ⟨F',h',G',h1,h2,h3,h4⟩
 | ret=>exact ⟨F',h',G',h1,h2,h3,h4⟩
 | panic ch=>exact ⟨F',h',G',h1,h2,h3,h4⟩
 | outgrown=>exact ⟨F',h',G',h1,h2,h3,h4⟩
def Fx (p:Nat->Prop) (h:∃n,p n):∃n,p n/\∀m,p m->n<=m:=by
 obtain ⟨k,hk⟩:=h
 induction k using Nat.strongRecOn with
 | _ k ih=>
  by_cases hx:∃m,m<k/\p m
  .obtain ⟨m,h1,h2⟩:=hx;exact ih m h1 h2
  .refine ⟨k,hk,fun m hm=>?_⟩;rcases CK m k with h|h
   .exact absurd ⟨m,h,hm⟩ hx
   .exact h
open Classical in
def Z68 (Inv:Nat->Fr->List Res->Prop) {m0:Nat} {F0:Fr} {h0:List Res} (hk:Xo c=6) (hi:Inv m0 F0 h0) (hw:Q9 F h F0 h0)
  (hr:∀m F h,Inv m F h->YC P n (YU c) (MX Inv m A) F h):YC P n c A F h:=by
 refine CS hw ?_;rw [Z7w hk];intro w G a hF hh
 let J:Nat->Act->World->Prop:=fun m a' w'=>∃F' h' G',Inv m F' h'/\FR w' G' n F' a'/\YA w' G' h'/\X4 w G h0 w' G' h'
 let mu:Act->World->Nat:=fun a' w'=>if hx:∃m,J m a' w' then Classical.choose (Fx (fun m=>J m a' w') hx) else 0
 refine wp_loop (fun a' w'=>∃m,J m a' w') mu ⟨m0,F0,h0,G,hi,hF,hh,X4.refl _ _ _⟩ ?_;intro a1 w1 hx;have hsp:=Classical.choose_spec (Fx (fun m=>J m a1 w1) hx);have hmu:mu a1 w1=Classical.choose (Fx (fun m=>J m a1 w1) hx):=dif_pos hx;rw [<-hmu] at hsp;obtain ⟨⟨F1,h1,G1,i1,i2,i3,i4⟩,_⟩:=hsp;refine wp_mono (hr _ F1 h1 i1 w1 G1 a1 i2 i3) ?_;intro e a' w' ⟨F',h',G',k1,k2,k3,k4⟩;have keep:∀{e},A e F' h'->B7 n A w G h0 e a' w':=fun hA=>⟨F',h',G',hA,k2,k3,i4.trans k4⟩
 cases e with
 | normal=>
  obtain ⟨m',F2,h2,j1,j2,j3⟩:=k1;have hj:J m' a' w':=by
   refine ⟨F2,h2,G',j2,k2.le j3.fr,k3.weak j3.res,i4.trans ?_⟩;obtain ⟨d,hp⟩:=j3.res;have hsub:∀b o,Vr h2 b o->Vr h' b o:=fun b o hf=>(Cd hp).2<|AM.2<|.inl hf
   exact ⟨k4.os,k4.tape,k4.output,k4.size,k4.sub,k4.same,k4.newG,fun b o hb hf=>k4.newfp b o hb<|hsub b o hf⟩
  have hx':∃m,J m a' w':=⟨m',hj⟩;refine ⟨hx',?_⟩;show mu a' w'<mu a1 w1
  have hsp':=Classical.choose_spec (Fx (fun m=>J m a' w') hx');rw [show mu a' w'=Classical.choose (Fx (fun m=>J m a' w') hx') from dif_pos hx'];exact Nat.lt_of_le_of_lt (hsp'.2 m' hj) j1
 | exit id=>exact keep k1
 | goto l=>exact keep k1
 | ret=>exact keep k1
 | panic ch=>exact keep k1
 | outgrown=>exact keep k1
end
def CT:Nat->List AV->Fr
 | _,[]=>[]
 | i,x::xs=>(i,x)::CT (i+1) xs
def OH {w:World} {G:Yl}:∀{xs:List AV} {vs:List Value} (i t:Nat) (tl:List Value),X1 w G xs vs->RV w G ((CT i xs).get (i+t)) ((vs++tl).getD t undef)
 | _,_,i,t,tl,.nil=>.any
 | _,_,i,0,tl,.cons (x:=x) (xs:=xs) h hr=>by
  show RV w G (match Nat.beq i (i+0) with|true=>x|false=>Fr.get (CT (i+1) xs) (i+0)) _
  have:Nat.beq i (i+0)=true:=Nat.beq_refl i;rw [this]
  simpa using h
 | _,_,i,t+1,tl,.cons (x:=x) (xs:=xs) h hr=>by
  show RV w G (match Nat.beq i (i+(t+1)) with|true=>x|false=>Fr.get (CT (i+1) xs) (i+(t+1))) _
  have hb:Nat.beq i (i+(t+1))=false:=by
   cases hq:Nat.beq i (i+(t+1))
   .rfl
   .have:=UZ hq;omega
  rw [hb];have:=OH (i+1) t tl hr;rw [show i+1+t=i+(t+1) from by omega] at this
  simpa using this
def J0 (P:Program) (F:Fr) (h:List Res):List ResultVar->List Nat->Option (List AV × List (Nat × Nat))
 | [],_=>some ([],[])
 | .tmp t::r,hints=>match J0 P F h r hints with
  | some (xs,es)=>some (F.get t::xs,es)
  | none=>none
 | .cell t ty::r,hints=>match F.get t with
  | .val (.pointer (some ⟨b,o,none⟩))=>match h[hints.headD 0]? with
   | some (.obj b' ls)=>match BD P ty (ls.drop o) with
    | some x=>match J0 P F h r hints.tail with
     | some (xs,es)=>some (x::xs,(b,b')::es)
     | none=>none
    | none=>none
   | _=>none
  | _=>none
def BJ:List AV->AV
 | [x]=>x
 | xs=>.tup xs
def Z75 (a:Addr):asAddr (.pointer<|some a)=pure a:=rfl
def Nt {P:Program} {w:World} {G:Yl} {n:Nat} {F:Fr} {h:List Res} {a:Act} (hF:FR w G n F a) (hh:YA w G h) :
  ∀{rs:List ResultVar} {hints:List Nat} {xs:List AV} {es:List (Nat × Nat)},J0 P F h rs hints=some (xs,es)->(∀p∈es,p.1=p.2) ->
  ∃vs,X1 w G xs vs/\(List.mapM (m:=Sem) (fun r=>match r with|.tmp t=>pure (a.tmps.getD t undef)|.cell b t=>do loadVar t (<-asAddr (a.tmps.getD b undef))) rs).run P w=.ok vs w
 | [],hints,xs,es,he,_=>by
  simp only [J0,Wz,Prod.mk.injEq] at he;obtain ⟨rfl,rfl⟩:=he;exact ⟨[],.nil,by simp⟩
 | .tmp t::r,hints,xs,es,he,heq=>by
  simp only [J0] at he
  cases hr:J0 P F h r hints with
  | none=>rw [hr] at he;cases he
  | some y=>
   obtain ⟨ys,es2⟩:=y;rw [hr] at he;simp only [Wz,Prod.mk.injEq] at he;obtain ⟨rfl,rfl⟩:=he;obtain ⟨vs,h1,h2⟩:=Nt hF hh hr heq;refine ⟨a.tmps.getD t undef::vs,.cons (hF.get t) h1,?_⟩;simp only [List.mapM_cons,Sem.run_bind,Sem.run_pure,Result.andThen_ok,h2]
 | .cell t ty::r,hints,xs,es,he,heq=>by
  simp only [J0] at he
  split at he
  .rename_i b off hg
   split at he
   .rename_i b' ls hl
    split at he
    .rename_i x hx
     split at he
     .rename_i ys es2 hr;simp only [Wz,Prod.mk.injEq] at he;obtain ⟨rfl,rfl⟩:=he;have hbb:b=b':=heq (b,b') (by simp);subst hbb;obtain ⟨vs,h1,h2⟩:=Nt hF hh hr fun p hp=>heq p (by simp [hp])
      have hv:=hF.get t;rw [hg] at hv;have hv:=hv.val_inv;obtain ⟨cs,e,k1,k2⟩:=hh.ok _ (Y0 hl);obtain ⟨v,j1,j2⟩:=I3 (P:=P) (b:=b) (o:=off) hx (k2.drop off);have j3:=j2 w fun j u hj=>by
       rw [cell_of_row w b (off+j) cs e (0,0) k1]
       simpa using hj
      refine ⟨v::vs,.cons j1 h1,?_⟩;simp only [List.mapM_cons,Sem.run_bind,Sem.run_pure,Result.andThen_ok,hv,Z75,j3,h2]
     .cases he
    .cases he
   .cases he
  .cases he
def C1 (P:Program) (fn:Func) (R:AV->List Res->Prop):Vh:=fun e F h=>
 (e=.normal∨e=.ret)/\∃hints xs es h' r,J0 P F h fn.results.toList hints=some (xs,es)/\(∀p∈es,p.1=p.2)/\(∃d,h.Perm (h'++d))/\Zd (BJ xs) r/\R r h'
def Nk {P:Program} {fn:Func} {R:AV->List Res->Prop} {F:Fr} {h h':List Res} {e:Exit} (he:(match e with|.normal|.ret=>true|_=>false)=true) (hints:List Nat) {xs:List AV}
  {es:List (Nat × Nat)} {r:AV} (hr:J0 P F h fn.results.toList hints=some (xs,es)) (heq:∀p∈es,p.1=p.2) (hw:∃d,h.Perm (h'++d)) (hle:Zd (BJ xs) r) (hR:R r h'):C1 P fn R e F h:=
 ⟨by cases e<;>first|exact .inl rfl|exact .inr rfl|(cases he),hints,xs,es,h',r,hr,heq,hw,hle,hR⟩
def Zj0 {P:Program} {fn:Func} {tmps:Array Value} {w:World} {vs:List Value}
  (h:(List.mapM (m:=Sem) (fun r=>match r with|.tmp t=>pure (tmps.getD t undef)|.cell b t=>do loadVar t (<-asAddr (tmps.getD b undef))) fn.results.toList).run P w=.ok vs w) :
  (results fn tmps).run P w=.ok (if h:vs.toArray.size=1 then vs.toArray[0] else .tuple vs.toArray) w:=by
 unfold results;rw [Array.mapM_eq_mapM_toList];simp only [Sem.run_bind,Sem.run_map,Sem.run_pure];exact Ys (fun r=>(Result.andThen (Result.andThen r fun a w'=>Result.ok a.toArray w') fun a w'=>Result.ok (if h:a.size=1 then a[0] else Value.tuple a) w')) h
def enter {P:Program} {f:FuncId} {fn:Func} {xs:List AV} {h:List Res} {R:AV->List Res->Prop} {n:Nat} (hf:P.funcs[f]? = some fn) (hb:fn.body.isSome=true) (hn:fn.ntmps=n)
  (hle:Nat.ble xs.length n=true) (ha:YC P n (Gv fn) (C1 P fn R) (CT 0 xs) h):Wf P f xs h R:=by
 intro w G vs hvs hh;have hbody:fn.body=some (Gv fn):=by
  unfold Gv
  cases hq:fn.body with
  | none=>simp [hq] at hb
  | some c=>rfl
 have hlen:=hvs.length;have hle:=Vx hle;refine calls_of_wp hf hbody ?_;have hF:FR w G n (CT 0 xs) { tmps:=vs.toArray++Array.replicate (fn.ntmps-vs.toArray.size) undef,defers:=[] }:=by
  refine ⟨rfl,by simp [hn,hlen];omega,fun t=>?_⟩;have:=OH (w:=w) (G:=G) 0 t (List.replicate (fn.ntmps-vs.toArray.size) undef) hvs;rw [VH] at this;have e:(vs.toArray++Array.replicate (fn.ntmps-vs.toArray.size) undef).getD t undef=(vs++List.replicate (fn.ntmps-vs.toArray.size) undef).getD t undef:=by
   simp [Array.getElem?_append,List.getElem?_append,List.getElem?_replicate,Array.getElem?_replicate]
  rw [e];exact this
 refine wp_mono (ha w G _ hF hh) ?_;intro e a w' ⟨F',h',G',hA,k1,k2,k3⟩;obtain ⟨he,hints,ys,es,h2,r,hr,heq,hwk,hle,hR⟩:=hA;obtain ⟨us,u1,u2⟩:=Nt k1 k2 hr heq;have hres:=Zj0 u2;have hval:RV w' G' (BJ ys) (if h:us.toArray.size=1 then us.toArray[0] else .tuple us.toArray):=by
  cases u1 with
  | nil=>simp [BJ];exact .tup (cs:=[]) .nil
  | cons a1 a2=>
   cases a2 with
   | nil=>simpa [BJ] using a1
   | cons b1 b2=>simpa [BJ] using RV.tup (.cons a1 (.cons b1 b2))
 obtain ⟨d,hp⟩:=hwk;have k2':=(k2.perm hp).left;have k3':X4 w G h w' G' h2:=(k3.perm (QP _) hp).sub' (List.sublist_append_left _ _);rcases he with rfl|rfl
 .exact ⟨k1.defers,_,hres,_,_,h2,G',U,hR,hle _ _ _ hval,k2',k3'⟩
 .exact ⟨k1.defers,_,hres,_,_,h2,G',U,hR,hle _ _ _ hval,k2',k3'⟩
def Bk (ops:Array Oper) (j i:Nat):Bool:=
 match ops[j]? with
 | some o=>o.after.any fun e=>Region.binds .any e&&e.on==i
 | none=>false
inductive JH (ops:Array Oper):Nat->Nat->Prop
 | one {j i} (h:Bk ops j i=true):JH ops j i
 | more {j m i} (h:Bk ops j m=true) (t:JH ops m i):JH ops j i
def HT (ops:Array Oper):Nat->Nat->Nat->Bool
 | 0,j,i=>Bk ops j i
 | f+1,j,i=>match ops[j]? with
  | some o=>o.after.any fun e=>Region.binds .any e&&(e.on==i||(Nat.ble i e.on&&HT ops f e.on i))
  | none=>false
def Vq (ops:Array Oper) (j i:Nat):Bool:=HT ops 9 j i
def Rm {ops:Array Oper} {j:Nat} {o:Oper} {e:Edge} (ho:ops[j]? = some o) (he:e∈o.after) (hb:Region.binds .any e=true):Bk ops j e.on=true:=by
 unfold Bk;rw [ho];simp only [Array.any_eq_true',We,Zq];exact ⟨e,he,hb,U⟩
def Z2f {ops:Array Oper}:∀{f j i:Nat},HT ops f j i=true->JH ops j i
 | 0,j,i,h=>.one h
 | f+1,j,i,h=>by
  rw [HT] at h
  split at h
  .rename_i o ho;simp only [Array.any_eq_true',We,Bool.or_eq_true,Zq] at h;obtain ⟨e,he,hb,h1|⟨_,h1⟩⟩:=h
   .exact .one<|h1▸Rm ho he hb
   .exact .more (Rm ho he hb)<|Z2f h1
  .cases h
def Z7l {ops:Array Oper} {j i:Nat} (h:Vq ops j i=true):JH ops j i:=Z2f h
def B6 (ops:Array Oper) (listed:Array Bool):Prop:=∀m i,listed.getD m false=true->Bk ops m i=true->listed.getD i false=true
def B6.bef {ops:Array Oper} {listed:Array Bool} (hc:B6 ops listed) {j i:Nat} (hb:JH ops j i):listed.getD j false=true->listed.getD i false=true:=by
 induction hb with
 | one h=>exact fun hj=>hc _ _ hj h
 | more h _ ih=>exact fun hj=>ih (hc _ _ hj h)
def LN {ops:Array Oper} {listed:Array Bool} {j i:Nat} (hj:j∈Region.ready .any ops listed) (h:Bk ops j i=true):listed.getD i false=true:=by
 obtain ⟨_,o,ho,hall⟩:=mem_ready.1 hj;simp only [Bk,ho] at h;obtain ⟨e,he,hb⟩:=Array.any_eq_true'.1 h;simp only [We,Zq] at hb;exact hb.2▸hall e he hb.1
def Zhg {ops:Array Oper} {listed:Array Bool} {j i:Nat} (hc:B6 ops listed) (hj:j∈Region.ready .any ops listed) (hi:listed.getD i true=false):¬JH ops j i:=by
 intro hb;have hi':listed.getD i false=false:=by
  cases hq:listed.getD i false
  .rfl
  .rcases CK i listed.size with h|h
   .simp [h] at hi hq;rw [hi] at hq;cases hq
   .simp [Array.getElem?_eq_none h] at hi
 have hl:listed.getD i false=true:=by
  cases hb with
  | one h=>exact LN hj h
  | more h t=>exact hc.bef t (LN hj h)
 rw [hi'] at hl;cases hl
def B6.add {ops:Array Oper} {listed:Array Bool} {j:Nat} (hc:B6 ops listed) (hj:j∈Region.ready .any ops listed):B6 ops (listed.setIfInBounds j true):=by
 intro m i hm he;by_cases hmj:m=j
 .subst hmj;exact getD_set_true<|LN hj he
 .rw [getD_set_ne false (Ne.symm hmj)] at hm;exact getD_set_true (hc m i hm he)
abbrev EM:=Nat × (World->Prop)->Prop
def Dp (P:Program) (ops:Array Oper) (Q:Exit->Act->World->Prop):Nat->EM->Array Bool->Act->World->Prop
 | 0,_,listed,a,w=>Region.ready .any ops listed=[]/\Q .normal a w
 | fuel+1,T,listed,a,w=>
  (Region.ready .any ops listed=[]->Q .normal a w) /\
  ∀i∈Region.ready .any ops listed,wpOp P ops Q i (fun a' w'=>(∀p,T p->¬JH ops i p.1->p.2 w') /\
   Dp P ops Q fuel (fun p=>T p/\¬JH ops i p.1) (listed.setIfInBounds i true) a' w') a w
section
variable {P:Program} {ops:Array Oper} {Q:Exit->Act->World->Prop} {S:World->Prop}
def Z5w:∀(fuel:Nat) (T:EM) (listed:Array Bool) (a:Act) (w:World),Dp P ops Q fuel T listed a w->wpAny P .any ops Q fuel listed a w
 | 0,_,_,_,_,h=>h
 | fuel+1,_,_,_,_,h=>⟨h.1,fun i hi=>wpOp_mono (fun _ _ h'=>Z5w fuel _ _ _ _ h'.2) (h.2 i hi)⟩
def Om:∀(fuel:Nat) {T T':EM} (listed:Array Bool) (a:Act) (w:World),(∀p,T' p->T p)->Dp P ops Q fuel T listed a w->Dp P ops Q fuel T' listed a w
 | 0,_,_,_,_,_,_,h=>h
 | fuel+1,_,_,_,_,_,hT,h=>⟨h.1,fun i hi=>wpOp_mono (fun _ _ h'=>⟨fun p hp=>h'.1 p (hT p hp),Om fuel _ _ _ (fun p hp=>⟨hT p hp.1,hp.2⟩) h'.2⟩) (h.2 i hi)⟩
def Zoc {i:Nat} {oi:Oper} {v:Value} (hi:ops[i]? = some oi) (hsel:∀(j:Nat) (o:Oper) cs b,ops[j]? = some o->o.op≠.select cs b)
  (hQ:∀c a w,¬Q (.panic c) a w) :
  ∀(fuel:Nat) (T:EM) (listed:Array Bool) (a:Act) (w:World),B6 ops listed ->
   (∀j oj,ops[j]? = some oj->j≠i->listed.getD j true=false->(∀e∈oj.after,Region.binds .any e=true->e.on≠i)->oi.apart ops oj=true) ->
   i∈Region.ready .any ops listed->YieldsIf P ops S oi v a->S w->(∀p,T p->p.2 w) ->
   Dp P ops Q fuel (fun p=>T p∨p=(i,S)) (listed.setIfInBounds i true) (a.put oi.dst v) w->Dp P ops Q (fuel+1) T listed a w:=by
 intro fuel;have hQ':∀c a w,Q (.panic c) (a.put oi.dst v) w->Q (.panic c) a w:=fun c a w h=>(hQ c _ w h).elim
 induction fuel with
 | zero=>
  intro T listed a w _ hfree hr hy hS hT H;refine ⟨fun h=>(by rw [h] at hr;cases hr),fun j hj=>?_⟩;by_cases hji:j=i
  .subst hji;exact hy.wpOp hi hS ⟨fun p hp _=>hT p hp,H⟩
  .have:=ready_mono hj hji;rw [H.1] at this;cases this
 | succ fuel ih=>
  intro T listed a w hcl hfree hr hy hS hT H;refine ⟨fun h=>(by rw [h] at hr;cases hr),fun j hj=>?_⟩;by_cases hji:j=i
  .subst hji;exact hy.wpOp hi hS ⟨fun p hp _=>hT p hp,Om (fuel+1) _ _ _ (fun p hp=>.inl hp.1) H⟩
  .have h1:=H.2 j (ready_mono hj hji);obtain ⟨hjun,oj,hoj,hall⟩:=mem_ready.1 hj;have hiun:=(mem_ready.1 hr).1;have hnb:¬JH ops j i:=Zhg hcl hj hiun;have hnot:∀e∈oj.after,Region.binds .any e=true->e.on≠i:=fun e he hb heq=>
    hnb (.one<|by simp only [Bk,hoj];exact Array.any_eq_true'.2 ⟨e,he,by simp [hb,heq]⟩)
   have h2:=wpOp_putIf hoj (hfree j oj hoj hji hjun hnot) (fun cs b=>hsel i oi cs b hi) (fun cs b=>hsel j oj cs b hoj) hQ' hy h1;have hfree':∀k ok,ops[k]? = some ok->k≠i->(listed.setIfInBounds j true).getD k true=false ->
     (∀e∈ok.after,Region.binds .any e=true->e.on≠i)->oi.apart ops ok=true:=fun k ok hk hki hun Bv=>by
    refine hfree k ok hk hki ?_ Bv;by_cases hjk:j=k
    .subst hjk;exact hjun
    .rw [getD_set_ne true hjk] at hun;exact hun
   refine wpOp_mono (fun a' w' h3=>?_) h2;obtain ⟨hy',hT',hrest⟩:=h3;have hTp:∀p,T p/\¬JH ops j p.1->p.2 w':=fun p hp=>hT' p (.inl hp.1) hp.2
   refine ⟨fun p hp hb=>hTp p ⟨hp,hb⟩,ih _ (listed.setIfInBounds j true) a' w' (hcl.add hj) hfree' (ready_mono hr<|Ne.symm hji) hy' (hT' (i,S) (.inr rfl) hnb) hTp ?_⟩;rw [Array.setIfInBounds_comm _ _ hji];refine Om fuel _ _ _ (fun p hp=>?_) hrest;rcases hp with hp|rfl
   .exact ⟨.inl hp.1,hp.2⟩
   .exact ⟨.inr rfl,hnb⟩
end
def Ve (ops:Array Oper) (done:List Nat):Array Bool:=done.foldl (fun l i=>l.setIfInBounds i true) (Array.replicate ops.size false)
def HF (ops:Array Oper) (done:List Nat) (i:Nat):Ve ops (done++[i])=(Ve ops done).setIfInBounds i true:=by simp [Ve]
def Z86 (ops:Array Oper):B6 ops (Ve ops []):=by
 intro m i hm _;simp only [Ve,List.foldl_nil] at hm;by_cases h:m<ops.size
 .simp [h] at hm
 .simp [h] at hm
def X3 (P:Program) (n:Nat) (ops:Array Oper) (B:Fr->List Res->Prop) (T:List (Nat × List Nat)) (fuel:Nat) (done:List Nat) (F:Fr) (h:List Res):Prop:=
 ∀(Q:Exit->Act->World->Prop) w G a (SL:EM),FR w G n F a->YA w G h->(∀c a w,¬Q (.panic c) a w)->B6 ops (Ve ops done) ->
  (∀p,SL p->∃t∈T,t.1=p.1/\∀w',(∀b o,G b o->w'.cell? ⟨b,o,none⟩=w.cell? ⟨b,o,none⟩)->(∀b∈t.2,w'.heap[b]? = w.heap[b]?)->p.2 w') ->
  (∀F' h' G' a' w',B F' h'->FR w' G' n F' a'->YA w' G' h'->X4 w G h w' G' h'->Q .normal a' w')->Dp P ops Q fuel SL (Ve ops done) a w
section
variable {P:Program} {n:Nat} {ops:Array Oper} {B:Fr->List Res->Prop} {T:List (Nat × List Nat)} {fuel:Nat} {done:List Nat} {F:Fr} {h:List Res}
def Z9d (hr:Region.ready .any ops (Ve ops done)=[]) (hB:B F h):X3 P n ops B T fuel done F h:=by
 intro Q w G a SL hF hh _ _ _ hk;have hq:=hk F h G a w hB hF hh (X4.refl _ _ _)
 cases fuel with
 | zero=>exact ⟨hr,hq⟩
 | succ f=>exact ⟨fun _=>hq,by rw [hr];simp⟩
def J1 (P:Program) (n:Nat) (ops:Array Oper) (h:List Res):List Nat->List Nat->Fr->List Nat->Option (Fr × List (Nat × List (Nat × Nat)))
 | [],_,F,_=>some (F,[])
 | i::is,done,F,hints=>
  match ops[i]? with
  | none=>none
  | some o=>
   match VS n o&&(Bq n ops o&&(Region.free .any ops (Ve ops done) i&&(Region.ready .any ops (Ve ops done)).contains i)) with
   | false=>none
   | true=>match JU ops F o with
    | none=>none
    | some false=>match J1 P n ops h is (done++[i]) (F.put o.dst (.tup [])) hints with
     | none=>none
     | some (F',es)=>some (F',(i,[])::es)
    | some true=>match QX P o F h (hints.headD 0) with
     | none=>none
     | some (x,eqs)=>match J1 P n ops h is (done++[i]) (F.put o.dst x) (match eqs with | []=>hints | _=>hints.tail) with
      | none=>none
      | some (F',es)=>some (F',(i,eqs)::es)
def FD (es:List (Nat × List (Nat × Nat))):List (Nat × List Nat):=es.map fun e=>(e.1,e.2.map (·.1))
def Ll {i:Nat} {o:Oper} {ks:List Nat} {x:AV} (hs:Region.noSelect ops=true) (hi:ops[i]? = some o) (hd:VS n o=true) (hgl:Bq n ops o=true)
  (hf:Region.free .any ops (Ve ops done) i=true) (hr:(Region.ready .any ops (Ve ops done)).contains i=true)
  (hx:(JU ops F o=some false/\x=.tup []/\ks=[])∨(JU ops F o=some true/\XH P o F h ks x))
  (H:X3 P n ops B ((i,ks)::T) fuel (done++[i]) (F.put o.dst x) h):X3 P n ops B T (fuel+1) done F h:=by
 intro Q w G a SL hF hh hQ hcl hcov hk;have hready:i∈Region.ready .any ops (Ve ops done):=by simpa using hr
 let S:World->Prop:=fun w'=>(∀b o,G b o->w'.cell? ⟨b,o,none⟩=w.cell? ⟨b,o,none⟩)/\(∀b∈ks,w'.heap[b]? = w.heap[b]?)
 have hSL:∀p,SL p->p.2 w:=fun p hp=>by
  obtain ⟨t,_,_,h3⟩:=hcov p hp;exact h3 w (fun _ _ _=>rfl) fun _ _=>rfl
 have key:∃v,RV w G x v/\YieldsIf P ops S o v a:=by
  rcases hx with ⟨hg,rfl,rfl⟩|⟨hg,hst⟩
  .exact ⟨undef,.tup (cs:=[]) .nil,.inr ⟨DZ hF hgl hg,U⟩⟩
  .obtain ⟨v,h1,h2⟩:=hst n w G a hF hh;exact ⟨v,h1,.inl ⟨DZ hF hgl hg,fun w' hw'=>h2 w' hw'.1 hw'.2⟩⟩
 obtain ⟨v,hv,hy⟩:=key;refine Zoc hi (Region.noSelect_spec hs) hQ fuel SL _ a w hcl (Region.free_spec hi hf) hready hy ⟨fun _ _ _=>rfl,fun _ _=>rfl⟩ hSL ?_;rw [<-HF];refine H Q w G _ _ (hF.put (Tk hd) hv) hh hQ (by rw [HF];exact hcl.add hready) ?_ hk;rintro p (hp|rfl)
 .obtain ⟨t,h1,h2,h3⟩:=hcov p hp;exact ⟨t,XF _ h1,h2,h3⟩
 .exact ⟨(i,ks),Xn ..,U,fun w' h1 h2=>⟨h1,h2⟩⟩
def GI:∀(is:List Nat) {T:List (Nat × List Nat)} {done:List Nat} {F F':Fr} {hints:List Nat} {es:List (Nat × List (Nat × Nat))} {fuel':Nat},Region.noSelect ops=true ->
  J1 P n ops h is done F hints=some (F',es)->(∀e∈es,∀p∈e.2,p.1=p.2)->fuel'=fuel+is.length ->
  X3 P n ops B ((FD es).reverse++T) fuel (done++is) F' h->X3 P n ops B T fuel' done F h
 | [],T,done,F,F',hints,es,fuel',_,he,_,hf,H=>by
  simp only [J1,Wz,Prod.mk.injEq] at he;obtain ⟨rfl,rfl⟩:=he;subst hf
  simpa [FD] using H
 | i::is,T,done,F,F',hints,es,fuel',hs,he,heq,hf,H=>by
  simp only [J1] at he
  cases ho:ops[i]? with
  | none=>rw [ho] at he;cases he
  | some o=>
   rw [ho] at he;simp only at he
   cases hc:VS n o&&(Bq n ops o&&(Region.free .any ops (Ve ops done) i&&(Region.ready .any ops (Ve ops done)).contains i)) with
   | false=>rw [hc] at he;cases he
   | true=>
    rw [hc] at he;simp only [We] at hc;obtain ⟨c1,c2,c3,c4⟩:=hc;simp only at he;have hfuel:fuel'=fuel+is.length+1:=by simp at hf;omega
    subst hfuel
    cases hg:JU ops F o with
    | none=>rw [hg] at he;cases he
    | some b=>
     rw [hg] at he
     cases b with
     | false=>
      simp only at he
      cases hr:J1 P n ops h is (done++[i]) (F.put o.dst (.tup [])) hints with
      | none=>rw [hr] at he;cases he
      | some y=>
       obtain ⟨F2,es2⟩:=y;rw [hr] at he;simp only [Wz,Prod.mk.injEq] at he;obtain ⟨rfl,rfl⟩:=he;refine Ll hs ho c1 c2 c3 c4 (.inl ⟨hg,U,U⟩) (GI is hs hr (fun e he=>heq e (XF _ he)) rfl ?_)
       simpa [FD] using H
     | true=>
      simp only at he
      cases hev:QX P o F h (hints.headD 0) with
      | none=>rw [hev] at he;cases he
      | some xe=>
       obtain ⟨x,eqs⟩:=xe;rw [hev] at he;simp only at he;generalize (match eqs with|[]=>hints|_=>hints.tail)=hints' at he
       cases hr:J1 P n ops h is (done++[i]) (F.put o.dst x) hints' with
       | none=>rw [hr] at he;cases he
       | some y=>
        obtain ⟨F2,es2⟩:=y;rw [hr] at he;simp only [Wz,Prod.mk.injEq] at he;obtain ⟨rfl,rfl⟩:=he;have hst:=DT hev (heq (i,eqs) (Xn ..));refine Ll hs ho c1 c2 c3 c4 (.inr ⟨hg,hst⟩) (GI is hs hr (fun e he=>heq e (XF _ he)) rfl ?_)
        simpa [FD] using H
def V3:List Res->List Nat
 | []=>[]
 | .obj b _::r=>b::V3 r
 | .row (.slice (some a) _ _) _ _::r=>a.block::V3 r
 | _::r=>V3 r
def Z1a {b:Nat}:∀{h:List Res},b∈V3 h->∃r∈h,∀o,r.fp b o
 | [],hb=>by simp [V3] at hb
 | x::r,hb=>by
  have up:b∈V3 r->∃q∈x::r,∀o,q.fp b o:=fun hb=>by obtain ⟨l,hl,hf⟩:=Z1a (h:=r) hb;exact ⟨l,XF _ hl,hf⟩
  unfold V3 at hb
  split at hb
  .rename_i he;cases he
  .rename_i he;cases he;rcases YM.1 hb with rfl|hb
   .exact ⟨_,Xn ..,fun _=>rfl⟩
   .exact up hb
  .rename_i he;cases he;rcases YM.1 hb with rfl|hb
   .exact ⟨_,Xn ..,fun _=>rfl⟩
   .exact up hb
  .rename_i he;cases he;exact up hb
def VY (P:Program) (n:Nat) (ops:Array Oper) (B:Fr->List Res->Prop) (T:List (Nat × List Nat)) (fuel:Nat) (done:List Nat) (F:Fr) (h:List Res) (i:Nat):Prop:=
 ∃o h1 h2,ops[i]? = some o/\JU ops F o=some true/\Bq n ops o=true/\h.Perm (h1++h2) /\
  (∀t∈T,Vq ops i t.1=true∨∀b∈t.2,b∈V3 h2) /\
  WU P n o F h1 fun F' h1'=>X3 P n ops B (T.filter fun t=>!Vq ops i t.1) fuel (done++[i]) F' (h1'++h2)
def R4 {is:List Nat} (hr:Region.ready .any ops (Ve ops done)=is) (hne:is.isEmpty=false) (H:∀i∈is,VY P n ops B T fuel done F h i):X3 P n ops B T (fuel+1) done F h:=by
 intro Q w G a SL hF hh hQ hcl hcov hk;refine ⟨fun h0=>(by rw [hr] at h0;subst h0;simp at hne),fun i hi=>?_⟩;obtain ⟨o,h1,h2,ho,hg,hgl,hp,hT,hop⟩:=H i (hr▸hi);have hh':=hh.perm hp;have hw:=DZ hF hgl hg;unfold wpOp;simp only [ho,hw,if_true];refine .inl (Oper.wp_mono ?_ (hop Q w G a hF hh'.left));intro a' w' ⟨F',h1',G',b1,b2,b3,b4⟩;obtain ⟨j1,j2⟩:=hh'.frame b4 b3;have hA:=b4.agree hh'.left;have hsame:∀b∈V3 h2,w'.heap[b]? = w.heap[b]?:=fun b hb=>by
  obtain ⟨r,hl,hr⟩:=Z1a hb;exact (b4.same b ((hh'.ok r (Xh.2 (.inr hl))).lt b 0 (hr 0))).eq fun o hf=>hh'.cross hf ⟨_,hl,hr o⟩
 have hcov':∀p,SL p/\¬JH ops i p.1->∃t∈T.filter fun t=>!Vq ops i t.1,t.1=p.1 /\
   ∀w'',(∀b o,G' b o->w''.cell? ⟨b,o,none⟩=w'.cell? ⟨b,o,none⟩)->(∀b∈t.2,w''.heap[b]? = w'.heap[b]?)->p.2 w'':=by
  rintro p ⟨hp,hb⟩;obtain ⟨t,t1,t2,t3⟩:=hcov p hp;have hbb:Vq ops i t.1=false:=by
   cases hq:Vq ops i t.1
   .rfl
   .exact absurd (t2▸Z7l hq) hb
  refine ⟨t,List.mem_filter.2 ⟨t1,by simp [hbb]⟩,t2,fun w'' c1 c2=>t3 w'' (fun b o hg=>(c1 b o<|hA.sub b o hg).trans<|hA.cell b o hg) fun b hb'=>?_⟩;rcases hT t t1 with h|h
  .rw [hbb] at h;cases h
  .exact (c2 b hb').trans<|hsame b<|h b hb'
 refine ⟨fun p hp hb=>?_,?_⟩
 .obtain ⟨t,_,_,t3⟩:=hcov' p ⟨hp,hb⟩;exact t3 w' (fun _ _ _=>rfl) fun _ _=>rfl
 .rw [<-HF];exact b1 Q w' G' a' _ b2 j1 hQ (by rw [HF];exact hcl.add hi) hcov' fun F2 h2' G2 a2 w2 c1 c2 c3 c4=>hk F2 h2' G2 a2 w2 c1 c2 c3<|(j2.perm hp.symm<|QP _).trans c4
def Z9g {i:Nat} (hr:Region.ready .any ops (Ve ops done)=[i]) (H:VY P n ops B T fuel done F h i):X3 P n ops B T (fuel+1) done F h:=
 R4 hr rfl fun j hj=>by rw [XI.1 hj];exact H
def GK {F':Fr} (hw:F.Le F') (H:X3 P n ops B T fuel done F' h):X3 P n ops B T fuel done F h:=by
 intro Q w G a SL hF hh hQ hcl hcov hk;exact H Q w G a SL (hF.le hw) hh hQ hcl hcov hk
end
def OC {P:Program} {n:Nat} {c:Code} {A:Vh} {F:Fr} {h:List Res} (hk:Xo c=2) (hm:P.follows .mixedOrders=true) {k:Nat} (Xg:(XR c).size=k)
  (hs:X3 P n (XR c) (A .normal) [] k [] F h):YC P n c A F h:=by
 rw [Z7s hk];intro w G a hF hh;subst Xg
 let Q:Exit->Act->World->Prop:=fun e a' w'=>match e with
  | .normal=>B7 n A w G h .normal a' w'
  | _=>False
 have hx:=hs Q w.drew G a (fun _=>False) (hF.mono<|C4 w G) hh.drew (fun _ _ _ hq=>hq) (Z86 _) (fun p hp=>hp.elim)
  fun F' h' G' a' w' b1 b2 b3 b4=>⟨F',h',G',b1,b2,b3,(X4.drew w G h).trans b4⟩
 refine wp_mono (wp_region_any (Q:=Q) hm<|Z5w _ _ _ _ _ hx) ?_;intro e a' w' hq
 cases e with
 | normal=>exact hq
 | _=>exact hq.elim
def Z6a {P:Program} {n:Nat} {c:Code} {A:Vh} {F:Fr} {h:List Res} (hk:Xo c=3) (hk2:Xo (YU c)=2) (hm:P.follows .mixedOrders=true) {k:Nat}
  (Xg:(XR (YU c)).size=k) (hs:X3 P n (XR<|YU c) (fun F h=>YC P n (Uv c) A F h) [] k [] F h):YC P n c A F h:=
 IL hk (OC hk2 hm Xg hs)
abbrev AV.i (n:Int):AV:=.val (.int .i64 n)
abbrev AV.b (b:Bool):AV:=.val (.bool b)
abbrev AV.p (b o:Nat):AV:=.val (.pointer<|some ⟨b,o,none⟩)
abbrev AV.ms (b off len cap:Nat):AV:=.val (.slice (some ⟨b,off,none⟩) len cap)
def ZG (ops:Array Oper) (k:Nat):Oper:=ops.toList.getD k default
def Xe (n:Nat) (ops:Array Oper) (F:Fr) (k:Nat):Bool:=
 Nat.blt k ops.size&&(VS n (ZG ops k)&&(Bq n ops (ZG ops k)&&(match JU ops F (ZG ops k) with|some true=>true|_=>false)))
abbrev SI (P:Program) (n:Nat) (ops:Array Oper) (B:Fr->List Res->Prop) (k:Nat) (F:Fr) (h:List Res):Prop:=Jc P n ops B (ops.toList.drop k) F h
def Z9t {ops:Array Oper} {k:Nat} (h:k<ops.size):ops.toList.drop k=ZG ops k::ops.toList.drop (k+1):=by
 have this:k<ops.toList.length:=by simpa using h
 rw [Z60 this];simp [ZG,List.getD,h]
section
variable {P:Program} {n:Nat} {ops:Array Oper} {B:Fr->List Res->Prop} {k:Nat} {F:Fr} {h:List Res}
def U5 (hk:Xe n ops F k=true):k<ops.size/\VS n (ZG ops k)=true/\Bq n ops (ZG ops k)=true/\JU ops F (ZG ops k)=some true:=by
 simp only [Xe,We] at hk;obtain ⟨h1,h2,h3,h4⟩:=hk;refine ⟨by simpa using h1,h2,h3,?_⟩
 split at h4
 .assumption
 .cases h4
def TZ (hk:Xe n ops F k=true) (ho:WU P n (ZG ops k) F h fun F' h'=>SI P n ops B (k+1) F' h'):SI P n ops B k F h:=by
 obtain ⟨h1,h2,h3,h4⟩:=U5 hk;show Jc P n ops B (ops.toList.drop k) F h
 rw [Z9t h1];exact Zkg h4 h3 ho
def Da {ks:List Nat} {x:AV} (hk:Xe n ops F k=true) (hs:XH P (ZG ops k) F h ks x) (H:SI P n ops B (k+1) (F.put (ZG ops k).dst x) h):SI P n ops B k F h:=
 TZ hk (hs.op (U5 hk).2.1 H)
def NF:∀(m:Nat) {l:List Oper} {F:Fr} {hints:List Nat} {l':List Oper} {F':Fr} {es:List (Nat × Nat)},Kr P n ops h m l F hints=some (l',F',es)->l'=l.drop m
 | 0,l,F,hints,l',F',es,he=>by
  simp only [Kr,Wz,Prod.mk.injEq] at he;simp [he.1]
 | m+1,[],F,hints,l',F',es,he=>by simp [Kr] at he
 | m+1,o::l,F,hints,l',F',es,he=>by
  simp only [Kr] at he
  split at he
  .cases he
  .split at he
   .cases he
   .simpa using NF m he
   .split at he
    .cases he
    .split at he
     .cases he
     .rename_i hr;simp only [Wz,Prod.mk.injEq] at he;obtain ⟨rfl,_,_⟩:=he
      simpa using NF m hr
def N9:∀{es:List (Nat × Nat)},es.map (·.1)=es.map (·.2)->∀p∈es,p.1=p.2
 | [],_,p,hp=>by simp at hp
 | e::es,h,p,hp=>by
  simp only [Uh,List.cons.injEq] at h;rcases YM.1 hp with rfl|hp
  .exact h.1
  .exact N9 h.2 p hp
def Ze7 (x':AV) {x:AV} (hk:Xe n ops F k=true) (he:QX P (ZG ops k) F h 0=some (x,[])) (hx:Zd x x') (H:SI P n ops B (k+1) (F.put (ZG ops k).dst x') h):SI P n ops B k F h:=by
 refine Da (ks:=[]) hk ?_ H;have hs:=DT he (by simp);intro n w G a hF hh;obtain ⟨v,h1,h2⟩:=hs n w G a hF hh;exact ⟨v,hx _ _ _ h1,by simpa using h2⟩
def Si (hk:Nat.ble ops.size k=true) (hB:B F h):SI P n ops B k F h:=by
 have:ops.toList.drop k=[]:=Iz (by simpa using Vx hk);show Jc P n ops B (ops.toList.drop k) F h
 rw [this];exact Zkf hB
def Sj (H:SI P n ops B 0 F h):Jc P n ops B ops.toList F h:=H
def Ze3 (F':Fr) (h':List Res) (H:SI P n ops (fun F h=>Q9 F h F' h') k F h) (hB:B F' h') (hB':∀F h,Q9 F h F' h'->B F' h'->B F h):SI P n ops B k F h:=by
 intro Q w G a hF hh hk;exact H Q w G a hF hh fun F2 h2 G2 a2 w2 b1 b2 b3 b4=>hk F2 h2 G2 a2 w2 (hB' _ _ b1 hB) b2 b3 b4
def Ze4 {c:Code} {A:Vh} (F':Fr) (h':List Res) (H:SI P n ops (fun F h=>Q9 F h F' h') k F h) (hB:YC P n c A F' h'):SI P n ops (fun F h=>YC P n c A F h) k F h:=
 Ze3 F' h' H hB fun _ _ hw ha=>CS hw ha
def Ze8 {b:Bool} (t:Nat) (hF:F.get t=.val (.bool b)) (h1:b=true->SI P n ops B k ((t,.val<|.bool true)::F) h)
  (h2:b=false->SI P n ops B k ((t,.val<|.bool false)::F) h):SI P n ops B k F h:=by
 cases b with
 | true=>exact I5 ⟨DX hF (Zd.refl _) (Fr.Le.refl F),[],by simp⟩ (h1 rfl)
 | false=>exact I5 ⟨DX hF (Zd.refl _) (Fr.Le.refl F),[],by simp⟩ (h2 rfl)
def Y8 {b:Bool} {p:Prop} (h:b=true↔p) (hb:b=false):¬p:=fun q=>by have:=h.2 q;rw [hb] at this;cases this
def Jo {α:Type} {xs:List α} {j:Nat} (h:j<xs.length):∃x,xs[j]? = some x:=⟨_,J8 h⟩
def YN {a b:Bool} {p q:Prop} (h1:a=true↔p) (h2:b=true↔q):(a&&b)=true↔p/\q:=by rw [We,h1,h2]
def Yi {a b:Bool} {p q:Prop} (h1:a=true↔p) (h2:b=true↔q):(a||b)=true↔p∨q:=by rw [Bool.or_eq_true,h1,h2]
def Yp {a:Bool} {p:Prop} (h1:a=true↔p):(!a)=true↔¬p:=by rw [<-h1];cases a<;>simp
def AC (ops:Array Oper) (F:Fr) (k:Nat):Option Int:=
 match (ZG ops k).op with
 | .binOp op _ x y _=>match F.ev x,F.ev y with
  | .val (.int .i64 a),.val (.int .i64 b)=>match op with
   | .add=>some (a+b)
   | .sub=>some (a-b)
   | .mul=>some (a*b)
   | _=>none
  | _,_=>none
 | _=>none
def Z4q {r s:Int} (ha:AC ops F k=some s) (hs:s=r) (hb:-9223372036854775808<=r/\r<=9223372036854775807) :
  XH P (ZG ops k) F h [] (.val<|.int .i64 r):=by
 subst hs;unfold AC at ha;generalize hoo:ZG ops k=o at ha;obtain ⟨dst,op,type,pos,after,guard⟩:=o;cases op<;>simp only at ha<;>try (cases ha)
 rename_i bop xt x y yt
 split at ha
 .rename_i a b h1 h2;have key:∀v,Fd bop .i64 a b=some (.int .i64<|IntKind.i64.wrap v)->v=s->XH P { dst:=dst,op:=.binOp bop xt x y yt,type:=type,pos:=pos,after:=after,guard:=guard } F h [] (.val<|.int .i64 s):=by
   intro v hv hvs;have he:QX P { dst:=dst,op:=.binOp bop xt x y yt,type:=type,pos:=pos,after:=after,guard:=guard } F h 0=some (.val (.int .i64 (IntKind.i64.wrap v)),[]):=by
    simp only [QX,h1,h2,FV,hv]
   have:=DT he (by simp);rw [hvs,IntWalk.i64_in s hb] at this
   simpa using this
  split at ha
  .cases ha;exact key (a+b) rfl rfl
  .cases ha;exact key (a-b) rfl rfl
  .cases ha;exact key (a*b) rfl rfl
  .cases ha
 .cases ha
def Ze0 (r:Int) {s:Int} (hk:Xe n ops F k=true) (ha:AC ops F k=some s) (hs:s=r) (hb:-9223372036854775808<=r/\r<=9223372036854775807)
  (H:SI P n ops B (k+1) (F.put (ZG ops k).dst<|.val<|.int .i64 r) h):SI P n ops B k F h:=
 Da (ks:=[]) hk (Z4q ha hs hb) H
def UU:List Nat->List Res->Option (List Res × List Res)
 | [],l=>some ([],l)
 | i::is,l=>match l[i]? with
  | some r=>match UU is (l.eraseIdx i) with
   | some (a,b)=>some (r::a,b)
   | none=>none
  | none=>none
def Rp:∀{l:List Res} {i:Nat} {r:Res},l[i]? = some r->l.Perm (r::l.eraseIdx i)
 | [],i,r,h=>by simp at h
 | x::l,0,r,h=>by simp at h;subst h;simp
 | x::l,i+1,r,h=>by
  have:=Rp (l:=l) (i:=i) (r:=r) (by simpa using h);simp only [List.eraseIdx_cons_succ];exact (List.Perm.cons x this).trans<|List.Perm.swap r x _
def UF:∀{is:List Nat} {l a b:List Res},UU is l=some (a,b)->l.Perm (a++b)
 | [],l,a,b,h=>by
  simp only [UU,Wz,Prod.mk.injEq] at h;obtain ⟨rfl,rfl⟩:=h;simp
 | i::is,l,a,b,h=>by
  simp only [UU] at h
  split at h
  .rename_i r hr
   split at h
   .rename_i a' b' hp;simp only [Wz,Prod.mk.injEq] at h;obtain ⟨rfl,rfl⟩:=h;exact (Rp hr).trans<|List.Perm.cons r<|UF hp
   .cases h
  .cases h
def Zob {F':Fr} {h' d:List Res} (is:List Nat) (hF:F.Le F') (hp:UU is h=some (h',d)):Q9 F h F' h':=⟨hF,d,UF hp⟩
def JO (P:Program) (ops:Array Oper) (F:Fr) (k:Nat):Option (FuncId × List AV):=
 match (ZG ops k).op with
 | .call c=>match c.callee with
  | .value (.func f)=>match P.funcs[f]? with
   | some fn=>match fn.body.isSome&&!(fn.name== "runtime.NumGoroutine") with
    | true=>some (f,c.args.toList.map F.ev)
    | false=>none
   | none=>none
  | .value t=>match F.ev t with
   | .val (.func (.func f) vs caps)=>match vs.toList,P.funcs[f]? with
    | [],some fn=>match fn.body.isSome&&!(fn.name== "runtime.NumGoroutine") with
     | true=>some (f,c.args.toList.map F.ev++caps.toList.map AV.val)
     | false=>none
    | _,_=>none
   | _=>none
  | _=>none
 | _=>none
def HN {K:Fr->List Res->Prop} {f:FuncId} {xs:List AV} {h1 h2:List Res} {R:AV->List Res->Prop} (hd:VS n (ZG ops k)=true) (hc:JO P ops F k=some (f,xs))
  (hp:h.Perm (h1++h2)) (H:Wf P f xs h1 R) (hK:∀r h',R r h'->K (F.put (ZG ops k).dst r) (h'++h2)):WU P n (ZG ops k) F h K:=by
 unfold JO at hc;generalize hoo:ZG ops k=o at hc hd hK;obtain ⟨dst,op,type,pos,after,guard⟩:=o;cases op<;>simp only at hc<;>try (cases hc)
 rename_i c;obtain ⟨callee,args,tys⟩:=c
 cases callee with
 | builtin b=>cases hc
 | invoke r m=>cases hc
 | value t=>
  simp only at hc
  split at hc
  .rename_i g hg;cases hg
   split at hc
   .rename_i fn hf
    split at hc
    .rename_i hb;simp only [We,Bool.not_eq_true'] at hb;simp only [Wz,Prod.mk.injEq] at hc;obtain ⟨rfl,rfl⟩:=hc;exact Zhv _ args tys rfl hf hb.1 hb.2 rfl hd hp H hK
    .cases hc
   .cases hc
  .rename_i t' hnf ht';cases ht'
   split at hc
   .rename_i g vs caps hv
    split at hc
    .rename_i fn hvs hf
     split at hc
     .rename_i hb;simp only [We,Bool.not_eq_true'] at hb;simp only [Wz,Prod.mk.injEq] at hc;obtain ⟨rfl,rfl⟩:=hc;have:vs=#[]:=by rw [<-UG (xs:=vs),hvs]
      subst this;exact Zhw t args tys rfl hv hf hb.1 hb.2 rfl hd hp H hK
     .cases hc
    .cases hc
   .cases hc
  .cases hc
def Ze1 (f:FuncId) (xs:List AV) (is:List Nat) {h1 h2:List Res} {R:AV->List Res->Prop} (hk:Xe n ops F k=true) (hc:JO P ops F k=some (f,xs))
  (hp:UU is h=some (h1,h2)) (H:Wf P f xs h1 R) (hK:∀r h',R r h'->SI P n ops B (k+1) (F.put (ZG ops k).dst r) (h'++h2)):SI P n ops B k F h:=
 TZ hk (HN (U5 hk).2.1 hc (UF hp) H hK)
def Ch (P:Program) (ops:Array Oper) (F:Fr) (k:Nat):Option (AV × Int × Nat):=
 match (ZG ops k).op with
 | .indexAddr t x ix=>match P.underlying t with
  | some (.slice e)=>match P.info? e with
   | some i=>match F.ev ix with
    | .val (.int _ j)=>some (F.ev x,j,i.size)
    | _=>none
   | none=>none
  | _=>none
 | _=>none
def BP {es:List AV} {hv:Option Value} {j:Int} {sz:Nat} {y:AV} (hi:Ch P ops F k=some (.sl es hv,j,sz)) (h0:0<=j) (hget:es[j.toNat]? = some y)
  (hy:y.leaves.length=sz):XH P (ZG ops k) F h [] (.rp y.leaves):=by
 unfold Ch at hi;generalize hoo:ZG ops k=o at hi;obtain ⟨dst,op,type,pos,after,guard⟩:=o;cases op<;>simp only at hi<;>try (cases hi)
 rename_i t x ix
 split at hi
 .rename_i e ht
  split at hi
  .rename_i i hinfo
   split at hi
   .rename_i ik j' hix;simp only [Wz,Prod.mk.injEq] at hi;obtain ⟨h1,rfl,rfl⟩:=hi;exact Zml t x ix rfl ht hinfo rfl h1 hix h0 hget hy
   .cases hi
  .cases hi
 .cases hi
def Z4s {b off len cap:Nat} {j:Int} {sz:Nat} (hi:Ch P ops F k=some (.val<|.slice (some ⟨b,off,none⟩) len cap,j,sz)) (h0:0<=j) (hlt:j<len) :
  XH P (ZG ops k) F h [] (.val<|.pointer<|some ⟨b,off+j.toNat * sz,none⟩):=by
 unfold Ch at hi;generalize hoo:ZG ops k=o at hi;obtain ⟨dst,op,type,pos,after,guard⟩:=o;cases op<;>simp only at hi<;>try (cases hi)
 rename_i t x ix
 split at hi
 .rename_i e ht
  split at hi
  .rename_i i hinfo
   split at hi
   .rename_i ik j' hix;simp only [Wz,Prod.mk.injEq] at hi;obtain ⟨h1,rfl,rfl⟩:=hi;exact Zmm t x ix rfl ht hinfo rfl h1 hix h0 hlt
   .cases hi
  .cases hi
 .cases hi
def NP (P:Program) (ops:Array Oper) (F:Fr) (k:Nat) (len:Int):Option (AV × Int × Int × Nat):=
 match (ZG ops k).op with
 | .slice t x lo hi none=>match P.underlying t with
  | some (.slice e)=>match P.info? e with
   | some i=>match Cr F lo 0,Cr F hi len with
    | some l,some m=>some (F.ev x,l,m,i.size)
    | _,_=>none
   | none=>none
  | _=>none
 | _=>none
def Zmu {es:List AV} {hv:Option Value} {l m:Int} {sz:Nat} (hi:NP P ops F k es.length=some (.sl es hv,l,m,sz)) (h0:0<=l) (h1:l<=m) (h2:m<=es.length)
  (hes:∀y∈es,y.leaves.length=sz):XH P (ZG ops k) F h [] (.sl ((es.take m.toNat).drop l.toNat) none):=by
 unfold NP at hi;generalize hoo:ZG ops k=o at hi;obtain ⟨dst,op,type,pos,after,guard⟩:=o;cases op<;>simp only at hi<;>try (cases hi)
 rename_i t x lo hi' mx
 cases mx with
 | some _=>simp at hi
 | none=>
  simp only at hi
  split at hi
  .rename_i e ht
   split at hi
   .rename_i i hinfo
    split at hi
    .rename_i l' m' hl hm;simp only [Wz,Prod.mk.injEq] at hi;obtain ⟨hx,rfl,rfl,rfl⟩:=hi;exact Zmt t x lo hi' rfl ht hinfo rfl hx hl hm h0 h1 h2 hes
    .cases hi
   .cases hi
  .cases hi
def JC {es es':List AV} {hv:Option Value} {l m:Int} {sz:Nat} (hi:NP P ops F k es.length=some (.sl es hv,l,m,sz)) (h0:0<=l) (h1:l<=m) (h2:m<=es.length)
  (hes:∀y∈es,y.leaves.length=sz) (he:(es.take m.toNat).drop l.toNat=es'):XH P (ZG ops k) F h [] (.sl es' none):=he▸Zmu hi h0 h1 h2 hes
def Tf (P:Program) (ops:Array Oper) (F:Fr) (k:Nat):Option (AV × AV × Nat):=
 match (ZG ops k).op with
 | .call c=>match c.callee,c.args.toList,c.argTypes.toList with
  | .builtin .append,[s,x],[t,t']=>match Nat.beq t t',P.underlying t with
   | true,some (.slice e)=>match P.info? e with
    | some i=>match i.zero with
     | some z=>match Nat.beq z.cells.size i.size&&Nat.ble i.bytes 32768 with
      | true=>some (F.ev s,F.ev x,i.size)
      | false=>none
     | none=>none
    | none=>none
   | _,_=>none
  | _,_,_=>none
 | _=>none
def Z1j {K:Fr->List Res->Prop} {es xs:List AV} {hv:Value} {hx:Option Value} {sz:Nat} {h1 h2:List Res} (hd:VS n (ZG ops k)=true)
  (ha:Tf P ops F k=some (.sl es<|some hv,.sl xs hx,sz)) (hes:∀y∈es,y.leaves.length=sz) (hxs:∀y∈xs,y.leaves.length=sz) (hone:(Zc xs).all AV.one=true)
  (hbound:es.length+xs.length<=4294967296)
  (hK:∀v',(v'.ownBlock=hv.ownBlock∨∃b,v'.ownBlock=some b/\BZ (h1++.tail hv sz::h2) b)->K (F.put (ZG ops k).dst<|.sl (es++xs)<|some v') (h1++.tail v' sz::h2)) :
  WU P n (ZG ops k) F (h1++.tail hv sz::h2) K:=by
 unfold Tf at ha;generalize hoo:ZG ops k=o at ha hd hK;obtain ⟨dst,op,type,pos,after,guard⟩:=o;cases op<;>simp only at ha<;>try (cases ha)
 rename_i c;obtain ⟨callee,args,tys⟩:=c;simp only at ha
 split at ha
 .rename_i s x t t' hargs htys
  split at ha
  .rename_i e htt ht;have:=UZ htt;subst this
   split at ha
   .rename_i i hinfo
    split at ha
    .rename_i z hz
     split at ha
     .rename_i hb;simp only [We] at hb;simp only [Wz,Prod.mk.injEq] at ha;obtain ⟨h3,h4,rfl⟩:=ha;have e1:args=#[s,x]:=by rw [<-UG (xs:=args),hargs]
      have e2:tys=#[t,t]:=by rw [<-UG (xs:=tys),htys]
      subst e1;subst e2
      exact Zht s x t rfl ht hinfo rfl (by rw [hz];simp [UZ hb.1]) hb.2 h3 h4 hd hes hxs hone hbound hK
     .cases ha
    .cases ha
   .cases ha
  .cases ha
 .cases ha
def WU.perm {K:Fr->List Res->Prop} {o:Oper} {h':List Res} (hp:h.Perm h') (H:WU P n o F h' K):WU P n o F h K:=by
 intro Q w G a hF hh;refine Oper.wp_mono ?_ (H Q w G a hF (hh.perm hp));intro a' w' ⟨F',h2,G',b1,b2,b3,b4⟩;exact ⟨F',h2,G',b1,b2,b3,b4.perm hp.symm (QP _)⟩
def Zdz (j:Nat) (es':List AV) {es xs:List AV} {hv:Value} {hx:Option Value} {sz:Nat} {h2:List Res} (hk:Xe n ops F k=true)
  (ha:Tf P ops F k=some (.sl es<|some hv,.sl xs hx,sz)) (hp:UU [j] h=some ([.tail hv sz],h2)) (hes:∀y∈es,y.leaves.length=sz) (hxs:∀y∈xs,y.leaves.length=sz)
  (hone:(Zc xs).all AV.one=true) (hbound:es.length+xs.length<=4294967296) (he:es++xs=es')
  (hK:∀v',SI P n ops B (k+1) (F.put (ZG ops k).dst<|.sl es'<|some v') (.tail v' sz::h2)):SI P n ops B k F h:=
 TZ hk (WU.perm (UF hp) (Z1j (h1:=[]) (U5 hk).2.1 ha hes hxs hone hbound fun v' _=>by rw [he];exact hK v'))
def O6 {w:World} {G:Yl} {sz:Nat} (hh:YA w G h):YA w G (.tail (.slice none 0 0) sz::h)/\X4 w G h w G (.tail (.slice none 0 0) sz::h):=
 ⟨⟨fun r hr=>by
   rcases YM.1 hr with rfl|hr
   .exact .inl rfl
   .exact hh.ok r hr,Vb.2 ⟨fun _ _ _ _ hf=>hf.elim,hh.apart⟩,fun r hr b o hf hg=>by
   rcases YM.1 hr with rfl|hr
   .exact hf.elim
   .exact hh.prot r hr b o hf hg,hh.lt⟩,
  ⟨rfl,rfl,rfl,X8 _,fun _ _ h=>h,fun _ _=>.inl rfl,fun _ _ _ h=>.inl h,fun b o _ ⟨r,hr,hf⟩=>by
   rcases YM.1 hr with rfl|hr
   .exact hf.elim
   .exact ⟨r,hr,hf⟩⟩⟩
def Qv {c:Code} {A:Vh} (sz:Nat) (H:YC P n c A F (.tail (.slice none 0 0) sz::h)):YC P n c A F h:=by
 intro w G a hF hh;obtain ⟨h1,h2⟩:=O6 (sz:=sz) hh;exact wp_mono (H w G a hF h1) fun e a' w' hc=>hc.trans h2
end
section
variable {P:Program} {n:Nat} {ops:Array Oper} {B:Fr->List Res->Prop} {k:Nat} {F:Fr} {h:List Res}
def DA (P:Program) (ops:Array Oper) (F:Fr) (k:Nat):Option (List AV):=
 match (ZG ops k).op with
 | .alloc t=>EF P t
 | .box _ x=>match (F.ev x).fit with
  | true=>some (F.ev x).leaves
  | false=>none
 | _=>none
def Z1i {K:Fr->List Res->Prop} {ls:List AV} (hd:VS n (ZG ops k)=true) (ha:DA P ops F k=some ls)
  (hK:∀b,BZ h b->K (F.put (ZG ops k).dst<|.val<|.pointer<|some ⟨b,0,none⟩) (.obj b ls::h)):WU P n (ZG ops k) F h K:=by
 unfold DA at ha;generalize hoo:ZG ops k=o at ha hd hK;obtain ⟨dst,op,type,pos,after,guard⟩:=o;cases op<;>simp only at ha<;>try (cases ha)
 case alloc t=>exact Zhr t rfl ha hd hK
 case box t x=>
  split at ha
  .rename_i hf;cases ha;exact Zhu t x rfl rfl hf hd hK
  .cases ha
def storeAt (P:Program) (ops:Array Oper) (F:Fr) (k:Nat):Option (Nat × Nat × List AV):=
 match (ZG ops k).op with
 | .store t x y=>match F.ev x,(ZG ops k).dst,P.info? t with
  | .val (.pointer (some ⟨b,o,none⟩)),none,some i=>match Nat.beq i.size (F.ev y).leaves.length&&((F.ev y).fit&&(F.ev y).leaves.all AV.one) with
   | true=>some (b,o,(F.ev y).leaves)
   | false=>none
  | _,_,_=>none
 | _=>none
def Z1o {K:Fr->List Res->Prop} {b o:Nat} {xs ls:List AV} {h2:List Res} (hs:storeAt P ops F k=some (b,o,xs)) (hle:Nat.ble (o+xs.length) ls.length=true)
  (hK:K F (.obj b (ls.take o++xs++ls.drop (o+xs.length))::h2)):WU P n (ZG ops k) F (.obj b ls::h2) K:=by
 unfold storeAt at hs;generalize hoo:ZG ops k=q at hs;obtain ⟨dst,op,type,pos,after,guard⟩:=q;cases op<;>simp only at hs<;>try (cases hs)
 rename_i t x y
 split at hs
 .rename_i b' o' i hx hi
  split at hs
  .rename_i hc;simp only [We] at hc;simp only [Wz,Prod.mk.injEq] at hs;obtain ⟨rfl,rfl,rfl⟩:=hs;exact Zi3 (h1:=[]) t x y rfl rfl hx rfl (by simp only [We];exact hc.2) (by rw [hi];simp [UZ hc.1]) hle hK
  .cases hs
 .cases hs
def Qi (P:Program) (ops:Array Oper) (F:Fr) (k:Nat):Option (List AV × Nat × Nat):=
 match (ZG ops k).op with
 | .buildSlice t len parts=>match P.underlying t with
  | some (.slice e)=>match P.info? e with
   | some i=>match i.zero.isSome&&Nat.ble (len*i.size) (2 ^ 24) with
    | true=>match Bm (fun j=>some (j*i.size,i.size)) (List.replicate (len*i.size) .any) (parts.toList.map fun p=>(p.1,F.ev p.2)) with
     | some ls=>some (ls,len,i.size)
     | none=>none
    | false=>none
   | none=>none
  | _=>none
 | _=>none
def Z1k {K:Fr->List Res->Prop} {es:List AV} {len sz:Nat} (hd:VS n (ZG ops k)=true) (ha:Qi P ops F k=some (Zc es,len,sz)) (hlen:es.length=len) (hall:Bc es sz=true)
  (hK:∀b,BZ h b->K (F.put (ZG ops k).dst<|.sl es<|some<|.slice (some ⟨b,0,none⟩) len len) (.tail (.slice (some ⟨b,0,none⟩) len len) sz::h)):WU P n (ZG ops k) F h K:=by
 unfold Qi at ha;generalize hoo:ZG ops k=q at ha hd hK;obtain ⟨dst,op,type,pos,after,guard⟩:=q;cases op<;>simp only at ha<;>try (cases ha)
 rename_i t ln parts
 split at ha
 .rename_i e ht
  split at ha
  .rename_i i hi
   split at ha
   .rename_i hc;simp only [We] at hc
    split at ha
    .rename_i ls hf;simp only [Wz,Prod.mk.injEq] at ha;obtain ⟨rfl,rfl,rfl⟩:=ha;exact Zhx t _ parts rfl ht hi rfl hc.1 hc.2 hf hlen hall hd hK
    .cases ha
   .cases ha
  .cases ha
 .cases ha
def Zdy (ls:List AV) (hk:Xe n ops F k=true) (ha:DA P ops F k=some ls)
  (hK:∀b,SI P n ops B (k+1) (F.put (ZG ops k).dst<|.val<|.pointer<|some ⟨b,0,none⟩) (.obj b ls::h)):SI P n ops B k F h:=
 TZ hk (Z1i (U5 hk).2.1 ha fun b _=>hK b)
def Ze9 (j:Nat) {b o:Nat} {xs ls:List AV} {h2:List Res} (ls':List AV) (hk:Xe n ops F k=true) (hs:storeAt P ops F k=some (b,o,xs)) (hp:UU [j] h=some ([.obj b ls],h2))
  (hle:Nat.ble (o+xs.length) ls.length=true) (he:ls.take o++xs++ls.drop (o+xs.length)=ls') (H:SI P n ops B (k+1) F (.obj b ls'::h2)):SI P n ops B k F h:=
 TZ hk (WU.perm (UF hp)<|Z1o hs hle<|by rw [he];exact H)
def Ze5 (es:List AV) {len sz:Nat} (hk:Xe n ops F k=true) (ha:Qi P ops F k=some (Zc es,len,sz)) (hlen:es.length=len) (hall:Bc es sz=true)
  (hK:∀v,SI P n ops B (k+1) (F.put (ZG ops k).dst<|.sl es<|some v) (.tail v sz::h)):SI P n ops B k F h:=
 TZ hk (Z1k (U5 hk).2.1 ha hlen hall fun _ _=>hK _)
variable {T:List (Nat × List Nat)} {fuel fuel':Nat} {done:List Nat}
def NE (P:Program) (n:Nat) (ops:Array Oper) (h:List Res) (is done:List Nat) (F:Fr) (hints:List Nat) (F':Fr):Option (List AV × List Nat × List Nat):=
 match J1 P n ops h is done F hints with
 | some (F1,es)=>some (F'.map fun p=>(F1.get p.1).like p.2,es.flatMap fun e=>e.2.map (·.1),es.flatMap fun e=>e.2.map (·.2))
 | none=>none
def Cp (P:Program) (n:Nat) (ops:Array Oper) (h:List Res) (is done:List Nat) (F:Fr) (hints:List Nat):List (Nat × List Nat):=
 match J1 P n ops h is done F hints with
 | some (_,es)=>FD es
 | none=>[]
def Na:∀{es:List (Nat × List (Nat × Nat))},es.flatMap (fun e=>e.2.map (·.1))=es.flatMap (fun e=>e.2.map (·.2))->∀e∈es,∀p∈e.2,p.1=p.2
 | [],_,e,he=>by simp at he
 | x::es,hq,e,he=>by
  simp only [BV] at hq;have h1:=List.append_inj hq (by simp);rcases YM.1 he with rfl|he
  .exact N9 h1.1
  .exact Na h1.2 e he
def Z9j (is:List Nat) (F':Fr) (hints bs:List Nat) (hs:Region.noSelect ops=true) (he:NE P n ops h is done F hints F'=some (F'.map (·.2),bs,bs)) (hf:fuel'=fuel+is.length)
  (H:X3 P n ops B ((Cp P n ops h is done F hints).reverse++T) fuel (done++is) F' h):X3 P n ops B T fuel' done F h:=by
 unfold NE at he;unfold Cp at H
 cases hr:J1 P n ops h is done F hints with
 | none=>rw [hr] at he;cases he
 | some y=>
  obtain ⟨F1,es⟩:=y;rw [hr] at he H;simp only [Wz,Prod.mk.injEq] at he;obtain ⟨h1,h2,h3⟩:=he;exact GI is hs hr (Na (h2.trans h3.symm)) hf (GK (M3 h1) H)
def UE (ops:Array Oper) (i:Nat) (T:List (Nat × List Nat)):List Nat:=(T.filter fun t=>!Vq ops i t.1).flatMap (·.2)
def Zho {i:Nat} {h2:List Res} (js bs:List Nat) (h1:UE ops i T=bs) (h3:js.map (fun j=>(V3 h2)[j]?)=bs.map some) :
  ∀t∈T,Vq ops i t.1=true∨∀b∈t.2,b∈V3 h2:=by
 have hall:∀(js bs:List Nat),js.map (fun j=>(V3 h2)[j]?)=bs.map some->∀b∈bs,b∈V3 h2:=by
  intro js
  induction js with
  | nil=>intro bs hb b hm;cases bs with
   | nil=>simp at hm
   | cons _ _=>simp at hb
  | cons j js ih=>intro bs hb b hm;cases bs with
   | nil=>simp at hm
   | cons c bs=>
    simp only [Uh,List.cons.injEq] at hb;rcases YM.1 hm with rfl|hm
    .exact Y0 hb.1
    .exact ih bs hb.2 b hm
 intro t ht
 cases hq:Vq ops i t.1 with
 | true=>exact .inl rfl
 | false=>
  refine .inr fun b hb=>hall js bs h3 b ?_
  rw [<-h1];exact List.mem_flatMap.2 ⟨t,List.mem_filter.2 ⟨ht,by simp [hq]⟩,hb⟩
def Z1g {i:Nat} (hi:i<ops.size):ops[i]? = some (ZG ops i):=by
 simp [ZG,List.getD,hi]
def Jj {i:Nat} (is js bs:List Nat) {h1 h2:List Res} (hk:Xe n ops F i=true) (hp:UU is h=some (h1,h2)) (ho:UE ops i T=bs) (hj:js.map (fun j=>(V3 h2)[j]?)=bs.map some)
  (H:WU P n (ZG ops i) F h1 fun F' h1'=>X3 P n ops B (T.filter fun t=>!Vq ops i t.1) fuel (done++[i]) F' (h1'++h2)):VY P n ops B T fuel done F h i:=by
 obtain ⟨q1,_,q3,q4⟩:=U5 hk;exact ⟨_,h1,h2,Z1g q1,q4,q3,UF hp,Zho js bs ho hj,H⟩
def Z9a (i:Nat) (f:FuncId) (xs:List AV) (is js bs:List Nat) {h1 h2:List Res} {R:AV->List Res->Prop} (hk:Xe n ops F i=true) (hc:JO P ops F i=some (f,xs))
  (hp:UU is h=some (h1,h2)) (ho:UE ops i T=bs) (hj:js.map (fun j=>(V3 h2)[j]?)=bs.map some) (H:Wf P f xs h1 R)
  (hK:∀r h',R r h'->X3 P n ops B (T.filter fun t=>!Vq ops i t.1) fuel (done++[i]) (F.put (ZG ops i).dst r) (h'++h2)):VY P n ops B T fuel done F h i:=
 Jj is js bs hk hp ho hj (HN (h2:=[]) (U5 hk).2.1 hc (by simp) H fun r h' hr=>by simpa using hK r h' hr)
def Z97 (i:Nat) (js bs:List Nat) (ls:List AV) (hk:Xe n ops F i=true) (ha:DA P ops F i=some ls) (ho:UE ops i T=bs) (hj:js.map (fun j=>(V3 h)[j]?)=bs.map some)
  (hK:∀b,X3 P n ops B (T.filter fun t=>!Vq ops i t.1) fuel (done++[i]) (F.put (ZG ops i).dst<|.val<|.pointer<|some ⟨b,0,none⟩) (.obj b ls::h)):VY P n ops B T fuel done F h i:=
 Jj (h1:=[]) (h2:=h) [] js bs hk rfl ho hj (Z1i (U5 hk).2.1 ha fun b _=>hK b)
def Z9e (i:Nat) (js bs:List Nat) (es:List AV) {len sz:Nat} (hk:Xe n ops F i=true) (ha:Qi P ops F i=some (Zc es,len,sz)) (hlen:es.length=len) (hall:Bc es sz=true)
  (ho:UE ops i T=bs) (hj:js.map (fun j=>(V3 h)[j]?)=bs.map some)
  (hK:∀v,X3 P n ops B (T.filter fun t=>!Vq ops i t.1) fuel (done++[i]) (F.put (ZG ops i).dst<|.sl es<|some v) (.tail v sz::h)):VY P n ops B T fuel done F h i:=
 Jj (h1:=[]) (h2:=h) [] js bs hk rfl ho hj (Z1k (U5 hk).2.1 ha hlen hall fun _ _=>hK _)
def Z98 (i j:Nat) (js bs:List Nat) (es':List AV) {es xs:List AV} {hv:Value} {hx:Option Value} {sz:Nat} {h2:List Res} (hk:Xe n ops F i=true)
  (ha:Tf P ops F i=some (.sl es<|some hv,.sl xs hx,sz)) (hp:UU [j] h=some ([.tail hv sz],h2)) (hes:∀y∈es,y.leaves.length=sz) (hxs:∀y∈xs,y.leaves.length=sz)
  (hone:(Zc xs).all AV.one=true) (hbound:es.length+xs.length<=4294967296) (he:es++xs=es') (ho:UE ops i T=bs) (hj:js.map (fun j=>(V3 h2)[j]?)=bs.map some)
  (hK:∀v',X3 P n ops B (T.filter fun t=>!Vq ops i t.1) fuel (done++[i]) (F.put (ZG ops i).dst<|.sl es'<|some v') (.tail v' sz::h2)):VY P n ops B T fuel done F h i:=
 Jj [j] js bs hk hp ho hj (Z1j (h1:=[]) (h2:=[]) (U5 hk).2.1 ha hes hxs hone hbound fun v' _=>by rw [he];exact hK v')
def Z9i (i j:Nat) (js bs:List Nat) {b o:Nat} {xs ls:List AV} {h2:List Res} (ls':List AV) (hk:Xe n ops F i=true) (hs:storeAt P ops F i=some (b,o,xs))
  (hp:UU [j] h=some ([.obj b ls],h2)) (hle:Nat.ble (o+xs.length) ls.length=true) (he:ls.take o++xs++ls.drop (o+xs.length)=ls') (ho:UE ops i T=bs)
  (hj:js.map (fun j=>(V3 h2)[j]?)=bs.map some) (H:X3 P n ops B (T.filter fun t=>!Vq ops i t.1) fuel (done++[i]) F (.obj b ls'::h2)):VY P n ops B T fuel done F h i:=
 Jj [j] js bs hk hp ho hj (Z1o (h2:=[]) hs hle<|by rw [he];exact H)
def GJ (i:Nat) {ks:List Nat} {x:AV} (hs:Region.noSelect ops=true) (hk:Xe n ops F i=true)
  (hf:Region.free .any ops (Ve ops done) i=true) (hr:(Region.ready .any ops (Ve ops done)).contains i=true) (hx:XH P (ZG ops i) F h ks x)
  (H:X3 P n ops B ((i,ks)::T) fuel (done++[i]) (F.put (ZG ops i).dst x) h):X3 P n ops B T (fuel+1) done F h:=by
 obtain ⟨q1,q2,q3,q4⟩:=U5 hk;exact Ll hs (Z1g q1) q2 q3 hf hr (.inr ⟨q4,hx⟩) H
def Z9f (i:Nat) (x':AV) {x:AV} (hs:Region.noSelect ops=true) (hk:Xe n ops F i=true)
  (hf:Region.free .any ops (Ve ops done) i=true) (hr:(Region.ready .any ops (Ve ops done)).contains i=true) (he:QX P (ZG ops i) F h 0=some (x,[])) (hx:Zd x x')
  (H:X3 P n ops B ((i,[])::T) fuel (done++[i]) (F.put (ZG ops i).dst x') h):X3 P n ops B T (fuel+1) done F h:=by
 refine GJ i (ks:=[]) hs hk hf hr ?_ H;have hst:=DT he (by simp);intro n w G a hF hh;obtain ⟨v,h1,h2⟩:=hst n w G a hF hh;exact ⟨v,hx _ _ _ h1,by simpa using h2⟩
def Z99 (i:Nat) (r:Int) {s:Int} (hns:Region.noSelect ops=true) (hk:Xe n ops F i=true)
  (hf:Region.free .any ops (Ve ops done) i=true) (hr:(Region.ready .any ops (Ve ops done)).contains i=true) (ha:AC ops F i=some s) (hs:s=r)
  (hb:-9223372036854775808<=r/\r<=9223372036854775807)
  (H:X3 P n ops B ((i,[])::T) fuel (done++[i]) (F.put (ZG ops i).dst<|.val<|.int .i64 r) h):X3 P n ops B T (fuel+1) done F h:=
 GJ i (ks:=[]) hns hk hf hr (Z4q ha hs hb) H
def Z9h {b:Bool} (t:Nat) (hF:F.get t=.val (.bool b)) (h1:b=true->X3 P n ops B T fuel done ((t,.val<|.bool true)::F) h)
  (h2:b=false->X3 P n ops B T fuel done ((t,.val<|.bool false)::F) h):X3 P n ops B T fuel done F h:=by
 cases b with
 | true=>exact GK (DX hF (Zd.refl _) (Fr.Le.refl F)) (h1 rfl)
 | false=>exact GK (DX hF (Zd.refl _) (Fr.Le.refl F)) (h2 rfl)
def Z9c {c:Code} {A:Vh} (F':Fr) (h':List Res) (H:X3 P n ops (fun F h=>Q9 F h F' h') T fuel done F h) (hB:YC P n c A F' h'):X3 P n ops (fun F h=>YC P n c A F h) T fuel done F h:=by
 intro Q w G a SL hF hh hQ hcl hcov hk;exact H Q w G a SL hF hh hQ hcl hcov fun F2 h2 G2 a2 w2 b1 b2 b3 b4=>hk F2 h2 G2 a2 w2 (CS b1 hB) b2 b3 b4
end
end Go.Abs
section
namespace Go.Abs
structure Yo where
 fields:LI
structure Zh where
 frm:Int
 to_:Int
 cons:List Yo
mutual
inductive Z4 where
 | mk (op num into:Int) (args:LI) (kids:List Z6)
inductive Z6 where
 | mk (steps:List Z4) (result:Int)
end
namespace Z4
def op:Z4->Int|.mk a _ _ _ _=>a
def num:Z4->Int|.mk _ a _ _ _=>a
def into:Z4->Int|.mk _ _ a _ _=>a
def args:Z4->LI|.mk _ _ _ a _=>a
def kids:Z4->List Z6|.mk _ _ _ _ a=>a
end Z4
namespace Z6
def steps:Z6->List Z4|.mk a _=>a
def result:Z6->Int|.mk _ a=>a
end Z6
structure Y9 where
 params:LI
 lent:LI
 result:Int
 body:Z6
structure Zm where
 decls:List Zh
 routines:List Y9
def Z7 (xs:LI):List AV:=xs.map AV.i
def WD (xs:List LI):List AV:=xs.map fun l=>.sl (Z7 l) none
abbrev Dz (c:Yo):AV:=.agg [.sl (Z7 c.fields) none]
def XW (cs:List Yo):List AV:=cs.map Dz
abbrev Ba (d:Zh):AV:=.agg [.i d.frm,.i d.to_,.sl (XW d.cons) none]
def YF (ds:List Zh):List AV:=ds.map Ba
mutual
def LK:Z4->AV
 | .mk op num into args kids=>.agg [.i op,.i num,.i into,.sl (Z7 args) none,.sl (YP kids) none]
def Lq:Z6->AV
 | .mk steps result=>.agg [.sl (Zv steps) none,.i result]
def Zv:List Z4->List AV
 | []=>[]
 | s::ss=>LK s::Zv ss
def YP:List Z6->List AV
 | []=>[]
 | b::bs=>Lq b::YP bs
end
abbrev YL (s:Z4):AV:=.agg [.i s.op,.i s.num,.i s.into,.sl (Z7 s.args) none,.sl (YP s.kids) none]
abbrev ZV (b:Z6):AV:=.agg [.sl (Zv b.steps) none,.i b.result]
abbrev Kh (r:Y9):AV:=.agg [.sl (Z7 r.1) none,.sl (Z7 r.2) none,.i r.result,.sl (Zv r.4.steps) none,.i r.4.result]
def YS (rs:List Y9):List AV:=rs.map Kh
abbrev Yq (n:Zm):AV:=.agg [.sl (YF n.1) none,.sl (YS n.2) none]
def Ri (s:Z4):LK s=YL s:=by cases s;rw [LK];rfl
def R8 (b:Z6):Lq b=ZV b:=by cases b;rw [Lq];rfl
def U2:∀xs:List Z4,Zv xs=xs.map YL
 | []=>by rw [Zv];rfl
 | s::ss=>by rw [Zv,U2 ss,Ri];rfl
def TR:∀xs:List Z6,YP xs=xs.map ZV
 | []=>by rw [YP];rfl
 | b::bs=>by rw [YP,TR bs,R8];rfl
section
def Y3 {xs:LI} {j:Nat} {x:Int} (h:xs[j]? = some x):(Z7 xs)[j]? = some (.i x):=by simp [Z7,h]
def AL {xs:List LI} {j:Nat} {x:LI} (h:xs[j]? = some x):(WD xs)[j]? = some (.sl (Z7 x) none):=by simp [WD,h]
def Bh {xs:List Yo} {j:Nat} {x:Yo} (h:xs[j]? = some x):(XW xs)[j]? = some (Dz x):=by simp [XW,h]
def V6 {xs:List Zh} {j:Nat} {x:Zh} (h:xs[j]? = some x):(YF xs)[j]? = some (Ba x):=by simp [YF,h]
def Wi {xs:List Z4} {j:Nat} {x:Z4} (h:xs[j]? = some x):(Zv xs)[j]? = some (YL x):=by simp [U2,h]
def Ux {xs:List Z6} {j:Nat} {x:Z6} (h:xs[j]? = some x):(YP xs)[j]? = some (ZV x):=by simp [TR,h]
def WG {xs:List Y9} {j:Nat} {x:Y9} (h:xs[j]? = some x):(YS xs)[j]? = some (Kh x):=by simp [YS,h]
@[simp] theorem Yg (xs:LI):(Z7 xs).length=xs.length:=by simp [Z7]
@[simp] theorem GR (xs:List LI):(WD xs).length=xs.length:=by simp [WD]
@[simp] theorem UJ (xs:List Yo):(XW xs).length=xs.length:=by simp [XW]
@[simp] theorem Uy (xs:List Zh):(YF xs).length=xs.length:=by simp [YF]
@[simp] theorem V8 (xs:List Z4):(Zv xs).length=xs.length:=by simp [U2]
@[simp] theorem U0 (xs:List Z6):(YP xs).length=xs.length:=by simp [TR]
@[simp] theorem U1 (xs:List Y9):(YS xs).length=xs.length:=by simp [YS]
def Wj (xs ys:LI):Z7 (xs++ys)=Z7 xs++Z7 ys:=by simp [Z7]
def LH (xs ys:List LI):WD (xs++ys)=WD xs++WD ys:=by simp [WD]
def Za2 (xs ys:List Zh):YF (xs++ys)=YF xs++YF ys:=by simp [YF]
def V7 (xs ys:List Z4):Zv (xs++ys)=Zv xs++Zv ys:=by simp [U2]
def Bg (xs ys:List Z6):YP (xs++ys)=YP xs++YP ys:=by simp [TR]
def CX (xs ys:List Y9):YS (xs++ys)=YS xs++YS ys:=by simp [YS]
def An (xs:LI) (n:Nat):(Z7 xs).take n=Z7 (xs.take n):=by simp [Z7]
def Bi (xs:LI) (n:Nat):(Z7 xs).drop n=Z7 (xs.drop n):=by simp [Z7]
def Lx (xs:List Yo) (n:Nat):(XW xs).take n=XW (xs.take n):=by simp [XW]
def Lw (xs:List Yo) (n:Nat):(XW xs).drop n=XW (xs.drop n):=by simp [XW]
def DP (xs:List Zh) (n:Nat):(YF xs).take n=YF (xs.take n):=by simp [YF]
def DO (xs:List Zh) (n:Nat):(YF xs).drop n=YF (xs.drop n):=by simp [YF]
def Kj (xs:List Z4) (n:Nat):(Zv xs).take n=Zv (xs.take n):=by simp [U2]
def Ki (xs:List Z4) (n:Nat):(Zv xs).drop n=Zv (xs.drop n):=by simp [U2]
def Ls (xs:List Z6) (n:Nat):(YP xs).take n=YP (xs.take n):=by simp [TR]
def Lr (xs:List Z6) (n:Nat):(YP xs).drop n=YP (xs.drop n):=by simp [TR]
def YJ (xs:LI):∀y∈Z7 xs,y.leaves.length=1:=by intro y hy;simp only [Z7,XG] at hy;obtain ⟨x,_,rfl⟩:=hy;rfl
def Cb (xs:List LI):∀y∈WD xs,y.leaves.length=1:=by intro y hy;simp only [WD,XG] at hy;obtain ⟨x,_,rfl⟩:=hy;rfl
def F7 (xs:List Yo):∀y∈XW xs,y.leaves.length=1:=by intro y hy;simp only [XW,XG] at hy;obtain ⟨x,_,rfl⟩:=hy;rfl
def Jl (xs:List Zh):∀y∈YF xs,y.leaves.length=3:=by intro y hy;simp only [YF,XG] at hy;obtain ⟨x,_,rfl⟩:=hy;rfl
def Xr (xs:List Z4):∀y∈Zv xs,y.leaves.length=5:=by intro y hy;simp only [U2,XG] at hy;obtain ⟨x,_,rfl⟩:=hy;rfl
def Qy (xs:List Z6):∀y∈YP xs,y.leaves.length=2:=by intro y hy;simp only [TR,XG] at hy;obtain ⟨x,_,rfl⟩:=hy;rfl
def T2 (xs:List Y9):∀y∈YS xs,y.leaves.length=5:=by intro y hy;simp only [YS,XG] at hy;obtain ⟨x,_,rfl⟩:=hy;rfl
def JS {es:List AV} (h:∀y∈es,y.leaves.all AV.one=true):(Zc es).all AV.one=true:=by
 simp only [Zc,List.all_flatMap,Ax];intro y hy;exact Ax.1<|h y hy
def Wk (xs:LI):(Zc (Z7 xs)).all AV.one=true:=JS fun y hy=>by simp only [Z7,XG] at hy;obtain ⟨x,_,rfl⟩:=hy;rfl
def GS (xs:List LI):(Zc (WD xs)).all AV.one=true:=JS fun y hy=>by simp only [WD,XG] at hy;obtain ⟨x,_,rfl⟩:=hy;rfl
def Za1 (xs:List Yo):(Zc (XW xs)).all AV.one=true:=JS fun y hy=>by simp only [XW,XG] at hy;obtain ⟨x,_,rfl⟩:=hy;rfl
def GN (xs:List Zh):(Zc (YF xs)).all AV.one=true:=JS fun y hy=>by simp only [YF,XG] at hy;obtain ⟨x,_,rfl⟩:=hy;rfl
def Uz (xs:List Z4):(Zc (Zv xs)).all AV.one=true:=JS fun y hy=>by simp only [U2,XG] at hy;obtain ⟨x,_,rfl⟩:=hy;rfl
def GM (xs:List Z6):(Zc (YP xs)).all AV.one=true:=JS fun y hy=>by simp only [TR,XG] at hy;obtain ⟨x,_,rfl⟩:=hy;rfl
def Bj (xs:List Y9):(Zc (YS xs)).all AV.one=true:=JS fun y hy=>by simp only [YS,XG] at hy;obtain ⟨x,_,rfl⟩:=hy;rfl
end
end Go.Abs
end
namespace Go.Abs
def Kw (v:Value):Nat:=v.ownBlock.getD 0
def AZ (v:Value) (m:Nat):Value:=
 match v with
 | .slice a _ cap=>.slice a m cap
 | v=>v
def Z3p {α:Type} (l:List α) (n:Nat) (x:α) (h:n<l.length):l.take n++[x]++l.drop (n+1)=l.set n x:=by
 rw [Du,Zg h];simp
def YA.vwrite {w:World} {G:Yl} {h2:List Res} {g cap n':Nat} {ls ls':List AV} (hh:YA w G (.vec (.slice (some ⟨g,0,none⟩) ls.length cap) ls::h2)) {cs cs':Array Value} {e:TypeId}
  (hb:w.heap[g]? = some (.cells cs e (0,0))) (Xg:cs'.size=cs.size) (hn:n'=ls'.length) (hle:ls'.length<=cap) (hcap:cs.size=cap) (hls:X1 w G ls' (cs'.toList.take ls'.length)) :
  YA (w.setRow g cs') G (.vec (.slice (some ⟨g,0,none⟩) n' cap) ls'::h2) /\
   X4 w G (.vec (.slice (some ⟨g,0,none⟩) ls.length cap) ls::h2) (w.setRow g cs') G (.vec (.slice (some ⟨g,0,none⟩) n' cap) ls'::h2):=by
 subst hn;have hmem:Res.vec (.slice (some ⟨g,0,none⟩) ls.length cap) ls∈Res.vec (.slice (some ⟨g,0,none⟩) ls.length cap) ls::h2:=Xn ..
 have hA:Ur G w (w.setRow g cs') G:=⟨fun c j hg=>by
  have hne:c≠g:=fun he=>hh.prot _ hmem c j he hg
  simp [World.cell?,Up w g c cs' hne],fun _ _ h=>h⟩
 have hpw:=Vb.1 hh.apart;have hother:∀r∈h2,∀c j,r.fp c j->c≠g:=fun r hr c j hf hc=>hpw.1 r hr c j hc hf
 refine ⟨⟨?_,Vb.2 ⟨fun r hr=>hpw.1 r hr,hpw.2⟩,?_,?_⟩,⟨rfl,rfl,rfl,by simp [World.setRow],fun _ _ h=>h,?_,fun _ _ _ h=>.inl h,?_⟩⟩
 .intro r hr;rcases YM.1 hr with rfl|hr
  .exact .inr ⟨g,cap,cs',e,U,setRow_heap w g cs cs' e (0,0) hb,hle,Xg.trans hcap,hls.mono hA⟩
  .have h0:=hh.ok r (XF _ hr)
   cases r with
   | obj c ks=>
    obtain ⟨ds,el,k1,k2⟩:=h0;exact ⟨ds,el,(Up w g c cs' (hother _ hr c 0 rfl)).trans k1,k2.mono hA⟩
   | tail v k=>
    rcases h0 with rfl|⟨g2,len,cap2,cur,el,rfl,k1,k2,k3⟩
    .exact .inl rfl
    .exact .inr ⟨g2,len,cap2,cur,el,U,(Up w g g2 cs'<|hother _ hr g2 (len*k) ⟨U,X8 _⟩).trans k1,k2,k3⟩
   | ge s=>exact Vy h0 (by simp [World.setRow])
   | vec v ks=>
    rcases h0 with ⟨rfl,h0⟩|⟨g2,cap2,cur2,el,rfl,k1,k2,k3,k4⟩
    .exact .inl ⟨U,h0⟩
    .exact .inr ⟨g2,cap2,cur2,el,U,(Up w g g2 cs'<|hother _ hr g2 0 rfl).trans k1,k2,k3,k4.mono hA⟩
   | many ts=>
    refine ⟨fun p hp=>?_,h0.2⟩;rcases h0.1 p hp with q|⟨g2,len,cap2,cur,el,q,k1,k2,k3⟩
    .exact .inl q
    .exact .inr ⟨g2,len,cap2,cur,el,q,(Up w g g2 cs'<|hother _ hr g2 (len*p.2) ⟨p,hp,by rw [q];exact ⟨rfl,X8 _⟩⟩).trans k1,k2,k3⟩
   | own B m=>
    intro c hc;obtain ⟨ds,el,k1,k2⟩:=h0 c hc;exact ⟨ds,el,(Up w g c cs' (hother _ hr c 0 hc)).trans k1,k2⟩
   | row v k ks=>
    rcases h0 with ⟨rfl,h0⟩|⟨g2,len2,cap2,cur2,el,rfl,k1,k2,k3,k4,k5⟩
    .exact .inl ⟨U,h0⟩
    .exact .inr ⟨g2,len2,cap2,cur2,el,U,(Up w g g2 cs'<|hother _ hr g2 0 rfl).trans k1,k2,k3,k4,k5.mono hA⟩
 .intro r hr c j hf hg;rcases YM.1 hr with rfl|hr
  .exact hh.prot _ hmem c j hf hg
  .exact hh.prot r (XF _ hr) c j hf hg
 .intro c j hg;have:=hh.lt c j hg
  simpa [World.setRow] using this
 .intro c hc;by_cases hcb:c=g
  .subst hcb;exact .inr ⟨cs,cs',e,(0,0),hb,setRow_heap w c cs cs' e (0,0) hb,Xg,fun j hj=>absurd ⟨_,hmem,U⟩ hj⟩
  .exact .inl<|Up w g c cs' hcb
 .rintro c j _ ⟨r,hr,hf⟩;rcases YM.1 hr with rfl|hr
  .exact ⟨_,hmem,hf⟩
  .exact ⟨r,XF _ hr,hf⟩
def YA.alloc_vec {w:World} {G:Yl} {h:List Res} (hh:YA w G h) (cs:Array Value) (t:TypeId) {ls:List AV} {cap:Nat} (hcap:ls.length<=cap) (Xg:cs.size=cap)
  (hls:X1 w G ls (cs.toList.take ls.length)) :
  YA (w.alloc<|.cells cs t) G (.vec (.slice (some ⟨w.heap.size,0,none⟩) ls.length cap) ls::h)/\X4 w G h (w.alloc<|.cells cs t) G (.vec (.slice (some ⟨w.heap.size,0,none⟩) ls.length cap) ls::h):=by
 have hA:Ur G w (w.alloc<|.cells cs t) G:=⟨fun b j hg=>EU w _<|hh.lt b j hg,fun _ _ h=>h⟩;refine hh.alloc (.cells cs t) (h':=[.vec (.slice (some ⟨w.heap.size,0,none⟩) ls.length cap) ls]) (fun _ _ h=>h) (fun _ _ h=>.inl h) ?_ ?_ (CI _ _) ?_
 .intro r hr;rw [XI.1 hr];exact .inr ⟨_,cap,cs,t,U,E3 w _,hcap,Xg,hls.mono hA⟩
 .intro r hr b j hf;rw [XI.1 hr] at hf;exact hf
 .intro r hr b j hf hg;rw [XI.1 hr] at hf;have:=hh.lt b j hg;have:b=w.heap.size:=hf;omega
def Zny {w:World} {G:Yl} {h:List Res} (hh:YA w G h):YA w G (.vec (.slice none 0 0) []::h)/\X4 w G h w G (.vec (.slice none 0 0) []::h):=
 ⟨⟨fun r hr=>by
   rcases YM.1 hr with rfl|hr
   .exact .inl ⟨U,U⟩
   .exact hh.ok r hr,Vb.2 ⟨fun _ _ _ _ hf=>hf.elim,hh.apart⟩,fun r hr b o hf hg=>by
   rcases YM.1 hr with rfl|hr
   .exact hf.elim
   .exact hh.prot r hr b o hf hg,hh.lt⟩,
  ⟨rfl,rfl,rfl,X8 _,fun _ _ h=>h,fun _ _=>.inl rfl,fun _ _ _ h=>.inl h,fun b o _ ⟨r,hr,hf⟩=>by
   rcases YM.1 hr with rfl|hr
   .exact hf.elim
   .exact ⟨r,hr,hf⟩⟩⟩
section
variable {P:Program} {n:Nat} {ops:Array Oper} {B:Fr->List Res->Prop} {k:Nat} {F:Fr} {h h2:List Res}
def Eg (P:Program) (ops:Array Oper) (F:Fr) (k:Nat):Option AV:=
 match (ZG ops k).op with
 | .call c=>match c.callee,c.args.toList,c.argTypes.toList with
  | .builtin .len,[x],[t]=>match P.underlying t with
   | some (.slice _)=>some (F.ev x)
   | _=>none
  | _,_,_=>none
 | _=>none
def C3.form {w:World} {G:Yl} {v:Value} {ls:List AV} (h:C3 w G v ls):∃a cap,v=.slice a ls.length cap:=by
 rcases h with ⟨rfl,rfl⟩|⟨g,cap,cur,e,rfl,_⟩
 .exact ⟨none,0,U⟩
 .exact ⟨_,cap,U⟩
def Zmw (j:Nat) {v:Value} {ls:List AV} (hl:Eg P ops F k=some (.val v)) (hj:h[j]? = some (.vec v ls)):XH P (ZG ops k) F h [] (.val<|.int .i64 ls.length):=by
 unfold Eg at hl;generalize hoo:ZG ops k=o at hl;obtain ⟨dst,op,type,pos,after,guard⟩:=o;cases op<;>simp only at hl<;>try (cases hl)
 rename_i c;obtain ⟨callee,args,tys⟩:=c;simp only at hl
 split at hl
 .rename_i x t hargs htys
  split at hl
  .rename_i el hu;simp only [Wz] at hl;intro n w G a hF hh;have hv:=hF.ev x;rw [hl] at hv;have hv:=hv.val_inv;obtain ⟨ad,cap,rfl⟩:=C3.form (hh.ok _<|Y0 hj);have e1:args=#[x]:=by rw [<-UG (xs:=args),hargs]
   have e2:tys=#[t]:=by rw [<-UG (xs:=tys),htys]
   subst e1;subst e2
   exact ⟨_,.val,fun w' _ _=>by simp [execOp,resolve,invoke,builtin,hv,Builtin.len_,VX hu,goInt]⟩
  .cases hl
 .cases hl
def Zmv (j:Nat) {v:Value} {ls:List AV} {i:Int} (hi:Ch P ops F k=some (.val v,i,1)) (hj:h[j]? = some (.vec v ls)) (h0:0<=i) (hlt:i<ls.length) :
  XH P (ZG ops k) F h [] (.val<|.pointer<|some ⟨Kw v,i.toNat,none⟩):=by
 intro n w G a hF hh;rcases hh.ok _ (Y0 hj) with ⟨rfl,rfl⟩|⟨g,cap,cur,e,rfl,_⟩
 .simp at hlt;omega
 .have:=Z4s (P:=P) (F:=F) (h:=h) hi h0 hlt n w G a hF hh
  simpa [Kw,Value.ownBlock] using this
def MV (P:Program) (ops:Array Oper) (F:Fr) (k:Nat):Option AV:=
 match (ZG ops k).op with
 | .load t x=>match E9 P t with
  | some false=>some (F.ev x)
  | _=>none
 | _=>none
def Zmx (j:Nat) {v:Value} {ls:List AV} {i:Nat} {y:AV} (hl:MV P ops F k=some (.val<|.pointer<|some ⟨Kw v,i,none⟩)) (hj:h[j]? = some (.vec v ls)) (hy:ls[i]? = some y) :
  XH P (ZG ops k) F h [Kw v] y:=by
 unfold MV at hl;generalize hoo:ZG ops k=o at hl;obtain ⟨dst,op,type,pos,after,guard⟩:=o;cases op<;>simp only at hl<;>try (cases hl)
 rename_i t x
 split at hl
 .rename_i hagg;simp only [Wz] at hl;intro n w G a hF hh;have hv:=hF.ev x;rw [hl] at hv;have hv:=hv.val_inv;have hlt:i<ls.length:=(Xv.1 hy).1;rcases hh.ok _ (Y0 hj) with ⟨rfl,rfl⟩|⟨g,cap,cur,e,rfl,h1,h2,h3,h4⟩
  .simp at hlt
  .obtain ⟨c,c1,c2⟩:=h4.get i y hy;refine ⟨c,c2,fun w' _ hw=>?_⟩;have hrow:=hw (Kw (.slice (some ⟨g,0,none⟩) ls.length cap)) (by simp);simp only [Kw,Value.ownBlock,Option.getD_some] at hrow hv;rw [h1] at hrow;have hc:cur[i]? = some c:=by
    rw [Qp,Zg hlt] at c1
    simpa using c1
   simp only [execOp,hv];refine Vv ?_;simp only [Instr.loadAt,Instr.sureAddr,Sem.run_bind,Sem.run_pure,Result.andThen_ok,loadVar,FU hagg];have:=cell_of_row w' g i cur e (0,0) hrow;rw [hc] at this;simp [load,Sem.run,this]
 .cases hl
def Z1q {K:Fr->List Res->Prop} {v:Value} {ls:List AV} {i:Nat} {y:AV} (hs:storeAt P ops F k=some (Kw v,i,[y])) (hlt:i<ls.length)
  (hK:K F (.vec v (ls.set i y)::h2)):WU P n (ZG ops k) F (.vec v ls::h2) K:=by
 unfold storeAt at hs;generalize hoo:ZG ops k=q at hs;obtain ⟨dst,op,type,pos,after,guard⟩:=q;cases op<;>simp only at hs<;>try (cases hs)
 rename_i t x z
 split at hs
 .rename_i b' o' inf hx hi
  split at hs
  .rename_i hc;simp only [We] at hc;simp only [Wz,Prod.mk.injEq] at hs;obtain ⟨rfl,rfl,hz⟩:=hs;intro Q w G a hF hh;have hvx:=hF.ev x;rw [hx] at hvx;have hvx:=hvx.val_inv;have hvy:=hF.ev z;have hcs:=hvy.cells hc.2.1;rw [hz] at hcs hc;have hone:=hcs.one_cells hc.2.2;have Xg:inf.size=1:=UZ hc.1;have hlen:(a.eval z).cells.size=1:=by have:=hcs.length;simpa using this
   rcases hh.ok (.vec v ls) (Xn ..) with ⟨rfl,rfl⟩|⟨g,cap,cur,e,rfl,h1,h3,h4,h5⟩
   .simp at hlt
   .simp only [Kw,Value.ownBlock,Option.getD_some] at hvx;have hst:=run_storeCells_at P g o' e (a.eval z).cells.toList 0 cur w h1 (by simp [hlen];omega) hone;simp only [Dv,JD] at hst;have hr:(execOp a.eval { dst:=none,op:=.store t x z,type:=type,pos:=pos,after:=after,guard:=guard }).run P w =
      .ok .skip (w.setRow g (cur.toList.take o'++(a.eval z).cells.toList++cur.toList.drop (o'+(a.eval z).cells.size)).toArray):=by
     simp only [execOp,hvx];simp [Instr.storeAt,Instr.sureAddr,storeVar,Kd hi,hlen,Xg,hst]
    unfold Oper.wp;rw [hr];have hset:ls.set o' y=ls.take o'++[y]++ls.drop (o'+1):=(Z3p ls o' y hlt).symm;obtain ⟨j1,j2⟩:=hh.vwrite (ls':=ls.set o' y) (n':=ls.length) (cs':=(cur.toList.take o'++(a.eval z).cells.toList++cur.toList.drop (o'+(a.eval z).cells.size)).toArray) h1
     (by simp [hlen];omega) (by simp) (by simpa using h3) h4 (by
      obtain ⟨c,Za⟩:∃c,(a.eval z).cells.toList=[c]:=by
       have:=hcs.length
       cases hq:(a.eval z).cells.toList with
       | nil=>rw [hq] at this;simp at this
       | cons c r=>cases r with
        | nil=>exact ⟨c,rfl⟩
        | cons _ _=>rw [hq] at this;simp at this
      rw [Za] at hcs;have hlt':o'<cur.toList.length:=by simp [h4];omega
      rw [EJ,Za,hlen,Z3p cur.toList o' c hlt',UO,List.take_set]
      cases hcs with
      | cons hcc _=>exact h5.set o' hcc)
    refine ⟨F,_,G,hK,?_,j1,j2⟩;have:=hF.mono (j2.agree hh)
    simpa [Act.put] using this
  .cases hs
 .cases hs
def Z1p {K:Fr->List Res->Prop} {v:Value} {ls xs:List AV} {hx:Option Value} (hd:VS n (ZG ops k)=true) (ha:Tf P ops F k=some (.val v,.sl xs hx,1))
  (hxs:∀y∈xs,y.leaves=[y]) (hone:xs.all AV.one=true) (hbound:ls.length+xs.length<=4294967296)
  (hK:∀v',K (F.put (ZG ops k).dst<|.val v') (.vec v' (ls++xs)::h2)):WU P n (ZG ops k) F (.vec v ls::h2) K:=by
 unfold Tf at ha;generalize hoo:ZG ops k=o at ha hd hK;obtain ⟨dst,op,type,pos,after,guard⟩:=o;cases op<;>simp only at ha<;>try (cases ha)
 rename_i c;obtain ⟨callee,args,tys⟩:=c;simp only at ha
 split at ha
 case h_2=>cases ha
 rename_i s x t t' hargs htys
 split at ha
 case h_2=>cases ha
 rename_i e htt ht;have:=UZ htt;subst this
 split at ha
 case h_2=>cases ha
 rename_i i hinfo
 split at ha
 case h_2=>cases ha
 rename_i z hz
 split at ha
 case h_2=>cases ha
 rename_i hb;simp only [We] at hb;simp only [Wz,Prod.mk.injEq] at ha;obtain ⟨h3,h4,hk1⟩:=ha;have e1:args=#[s,x]:=by rw [<-UG (xs:=args),hargs]
 have e2:tys=#[t,t]:=by rw [<-UG (xs:=tys),htys]
 subst e1;subst e2
 have hzs:z.cells.size=1:=by rw [UZ hb.1,hk1]
 have hby:=Vx hb.2;have hflat:Zc xs=xs:=by
  clear hone hbound hK h4
  induction xs with
  | nil=>rfl
  | cons y r ih=>simp only [Zc,BV,hxs y (by simp),List.singleton_append];rw [show r.flatMap AV.leaves=Zc r from rfl,ih fun q hq=>hxs q (by simp [hq])]
 have hlen1:∀y∈xs,y.leaves.length=1:=fun y hy=>by rw [hxs y hy];rfl
 intro Q w G a hF hh;have v1:=hF.ev s;have v2:=hF.ev x;rw [h3] at v1;rw [h4] at v2;have v1:=v1.val_inv;have v2:=v2.forget;have finish:∀v' w',(Builtin.append_ #[t,t] type #[v,a.eval x]).run P w=.ok v' w'->YA w' G (.vec v' (ls++xs)::h2)->X4 w G (.vec v ls::h2) w' G (.vec v' (ls++xs)::h2) ->
   ({ dst:=dst,op:=.call { callee:=.builtin .append,args:=#[s,x],argTypes:=#[t,t] },type:=type,pos:=pos,after:=after,guard:=guard }:Oper).wp P a w
    (fun a' w'=>∃F' h' G',K F' h'/\FR w' G' n F' a'/\YA w' G' h'/\X4 w G (.vec v ls::h2) w' G' h') Q:=by
  intro v' w' hr j1 j2;have hrun:(execOp a.eval { dst:=dst,op:=.call { callee:=.builtin .append,args:=#[s,x],argTypes:=#[t,t] },type:=type,pos:=pos,after:=after,guard:=guard }).run P w=.ok (.value v') w':=by
   simp only [execOp,resolve,invoke,builtin,Sem.run_bind,Sem.run_pure,Result.andThen_ok,CH,Uh,CG,v1,hr]
  unfold Oper.wp;rw [hrun];exact ⟨_,_,G,hK v',(hF.mono<|j2.agree hh).put (Tk hd) .val,j1,j2⟩
 have hvec:=hh.ok (.vec v ls) (Xn ..);have hsub2:∀r:Res,List.Sublist (r::h2) (r::.vec v ls::h2):=fun r=>List.Sublist.cons_cons _<|B3 _ _
 have grown:∀(olds news:List Value) (old:Nat),X1 w G ls olds->X1 w G xs news ->
   YA (w.drew.alloc<|.cells (olds.toArray++news.toArray++Builtin.zeroCells z.cells (grownCap w (ls.length+xs.length) old e-(ls.length+xs.length))) e) G
    (.vec (.slice (some ⟨w.heap.size,0,none⟩) (ls.length+xs.length)<|grownCap w (ls.length+xs.length) old e) (ls++xs)::h2) /\
   X4 w G (.vec v ls::h2) (w.drew.alloc<|.cells (olds.toArray++news.toArray++Builtin.zeroCells z.cells (grownCap w (ls.length+xs.length) old e-(ls.length+xs.length))) e) G
    (.vec (.slice (some ⟨w.heap.size,0,none⟩) (ls.length+xs.length)<|grownCap w (ls.length+xs.length) old e) (ls++xs)::h2):=by
  intro olds news old ho hn;have Xt:=grownCap_ge w (ls.length+xs.length) old e;have hol:=ho.length;have hnl:=hn.length;obtain ⟨j1,j2⟩:=hh.drew.alloc_vec (olds.toArray++news.toArray++Builtin.zeroCells z.cells (grownCap w (ls.length+xs.length) old e-(ls.length+xs.length))) e
   (ls:=ls++xs) (cap:=grownCap w (ls.length+xs.length) old e) (by simpa using Xt)
   (by simp only [Array.size_append,EI,size_zeroCells,hzs,hol,hnl,Kg];omega)
   (by
    have:(olds.toArray++news.toArray++Builtin.zeroCells z.cells (grownCap w (ls.length+xs.length) old e-(ls.length+xs.length))).toList.take (ls++xs).length=olds++news:=by
     simp only [EH,Yy];rw [<-hol,<-hnl,<-Yy];exact B4
    rw [this]
    exact (ho.append hn).mono<|C4 w G)
  rw [Yy] at j1 j2;exact ⟨j1.sub<|hsub2 _,(X4.drew w G _).trans<|j2.sub'<|hsub2 _⟩
 by_cases hxe:xs=[]
 .subst hxe;obtain ⟨ad,cap,hform⟩:=C3.form hvec;have hle:ls.length<=cap:=by
   rcases hvec with ⟨rfl,rfl⟩|⟨g,cap',cur,el,rfl,_,hc,_⟩
   .simp
   .cases hform;exact hc
  subst hform
  cases v2q:a.eval x with
  | slice ad' l' c'=>
   rw [v2q] at v2;cases v2<;>exact finish _ _ (by rw [v2q];exact Et ht hinfo hle w) (by simpa using hh) (by simpa using X4.refl w G _)
  | _=>rw [v2q] at v2;cases v2
 .generalize hax:a.eval x=ax at v2 finish
  cases v2 with
  | nil _=>exact absurd rfl hxe
  | sl hq hcc hm=>
   rename_i b o' k' c;have hpos:0<xs.length:=Gg.2 hxe;have hfm:=hm.flat_mem;rw [hflat] at hfm;obtain ⟨news,hn,hnc⟩:=hfm.cells;have hnl:news.length=xs.length*i.size:=by rw [hn.length,hk1,Kg]
   have hone':=hn.one_cells hone;have hnews:∀j u,news[j]? = some u->w.cell? ((⟨b,o',none⟩:Addr).add j)=some u:=fun j u hj=>by rw [JK];exact (hnc j u hj).1
   have hbb:(ls.length+xs.length)*i.bytes<=140737488355328:=by
    have:=Nat.mul_le_mul hbound hby;omega
   rcases hvec with ⟨rfl,rfl⟩|⟨g,cap,cur,el,rfl,hrow,hlc,hcur,hcells⟩
   .have hr:=run_append_nil (P:=P) w t type e i z ht hinfo hz ⟨b,o',none⟩ xs.length c news hnl hnews hpos (by simp at hbound;omega) (by simp at hbb;omega);obtain ⟨j1,j2⟩:=grown [] news 0 .nil hn;simp only [Xx,VH,Array.empty_append,BW] at j1 j2;exact finish _ _ hr (by simpa using j1) (by simpa using j2)
   .by_cases hroom:ls.length+xs.length<=cap
    .have hfit:ls.length*i.size+news.length<=cur.size:=by rw [hnl,hcur,hk1];omega
     have hr:=I1 (P:=P) w t type e el i ht hinfo g ls.length cap cur hrow ⟨b,o',none⟩ xs.length c news hnl hnews hone' hroom hfit;rw [hk1,Kg] at hr;have hnl':news.length=xs.length:=by rw [hnl,hk1,Kg]
     obtain ⟨j1,j2⟩:=hh.vwrite (ls':=ls++xs) (n':=ls.length+xs.length) (cs':=(cur.toList.take ls.length++news++cur.toList.drop (ls.length+news.length)).toArray) hrow
      (by simp [hnl',hcur];omega) (by simp) (by simpa using hroom) hcur (by
       have h1:(cur.toList.take ls.length).length=ls.length:=by simp [hcur];omega
       have:(cur.toList.take ls.length++news++cur.toList.drop (ls.length+news.length)).toArray.toList.take (ls++xs).length=cur.toList.take ls.length++news:=by
        rw [EJ,Yy,<-hnl']
        conv=>lhs;arg 1;rw [show ls.length+news.length=(cur.toList.take ls.length++news).length from by rw [Yy,h1]]
        exact B4
       rw [this]
       exact hcells.append hn)
     exact finish _ _ hr j1 j2
    .have hr:=run_append_grow (P:=P) w t type e i z ht hinfo hz ⟨g,0,none⟩ ls.length cap (cur.toList.take ls.length) (by rw [hk1];simp [hcur];omega) (fun j u hj=>by
      rw [JK,cell_of_row w g _ cur el (0,0) hrow];rw [Qp] at hj
      split at hj
      .simpa using hj
      .cases hj) ⟨b,o',none⟩ xs.length c news hnl hnews om om (growslice_fits om hbb)
     obtain ⟨j1,j2⟩:=grown (cur.toList.take ls.length) news cap hcells hn;exact finish _ _ hr j1 j2
end
inductive J9 (h:List Res):AV->Prop
 | val {v}:J9 h (.val v)
 | any:J9 h .any
 | nil {hv}:J9 h (.sl [] hv)
 | own {es:List AV} {v:Value} {k:Nat} (he:∀y∈es,∃u,y=.val u) (ht:Res.tail v k∈h):J9 h (.sl es (some v))
 | tup {vs:List AV} (hv:∀y∈vs,J9 h y):J9 h (.tup vs)
 | agg {vs:List AV} (hv:∀y∈vs,J9 h y):J9 h (.agg vs)
def Dx:Res->Prop
 | .obj _ ls=>∀y∈ls,∃u,y=.val u
 | .vec _ ls=>∀y∈ls,∃u,y=.val u
 | .row _ _ ls=>∀y∈ls,∃u,y=.val u
 | _=>True
def X1.vals {w w':World} {G G':Yl}:∀{xs:List AV} {vs:List Value},(∀y∈xs,∃u,y=.val u)->X1 w G xs vs->X1 w' G' xs vs
 | _,_,_,.nil=>.nil
 | x::_,_::_,hv,.cons h t=>by
  obtain ⟨u,rfl⟩:=hv x (Xn ..);have:=h.val_inv;subst this;exact .cons .val (t.vals fun y hy=>hv y (XF _ hy))
def Z0w {w:World} {G G':Yl} {b:Nat} (hG:∀o,G b o->G' b o):∀{o:Nat} {xs:List AV},(∀y∈xs,∃u,y=.val u)->WP w G b o xs->WP w G' b o xs
 | _,_,_,.nil=>.nil
 | _,x::_,hv,.cons hc hg h t=>by
  obtain ⟨u,rfl⟩:=hv x (Xn ..);have:=h.val_inv;subst this;exact .cons hc (hG _ hg) .val (Z0w hG (fun y hy=>hv y (XF _ hy)) t)
def Rn {w:World} {G G':Yl} {b k:Nat} (hG:∀o,G b o->G' b o):∀{o:Nat} {xs:List AV},(∀y∈xs,∃u,y=.val u)->Vp w G k b o xs->Vp w G' k b o xs
 | _,_,_,.nil=>.nil
 | _,x::_,hv,.cons hl h t=>by
  obtain ⟨u,rfl⟩:=hv x (Xn ..);refine .cons hl (Z0w hG (fun y hy=>?_) h) (Rn hG (fun y hy=>hv y (XF _ hy)) t);simp [AV.leaves] at hy;exact ⟨u,hy⟩
def X1.clean {w:World} {G G':Yl} (P:AV->Prop) (hP:∀x v,P x->RV w G x v->RV w G' x v):∀{xs:List AV} {vs:List Value},(∀y∈xs,P y)->X1 w G xs vs->X1 w G' xs vs
 | _,_,_,.nil=>.nil
 | x::_,_::_,hv,.cons h t=>.cons (hP _ _ (hv x (Xn ..)) h) (t.clean P hP fun y hy=>hv y (XF _ hy))
def RV.clean {w:World} {G G':Yl} {h:List Res} (hG:∀v k g,Res.tail v k∈h->v.ownBlock=some g->∀o,G g o->G' g o) {r:AV} (hc:J9 h r):∀{v:Value},RV w G r v->RV w G' r v:=by
 induction hc with
 | val=>intro v hv;cases hv;exact .val
 | any=>intro v hv;exact .any
 | nil=>
  intro v hv
  cases hv with
  | nil hq=>exact .nil hq
  | sl hq hc hm=>exact .sl (k:=0) hq hc .nil
 | own he ht=>
  intro v hv
  cases hv with
  | nil hq=>exact .nil hq
  | sl hq hc hm=>
   have e:=hq _ rfl;exact .sl hq hc<|Rn (fun o hg=>hG _ _ _ ht (by rw [e];rfl) o hg) he hm
 | tup hv ih=>
  intro v hvv
  cases hvv with
  | tup hc=>exact .tup (hc.clean (fun x=>∀{v:Value},RV w G x v->RV w G' x v) (fun x v hp hx=>hp hx) ih)
 | agg hv ih=>
  intro v hvv
  cases hvv with
  | agg hc=>exact .agg (hc.clean (fun x=>∀{v:Value},RV w G x v->RV w G' x v) (fun x v hp hx=>hp hx) ih)
def YA.lend {w:World} {G:Yl}:∀{bs h:List Res},(∀r∈bs,∃v ls,r=.vec v ls/\∀y∈ls,∃u,y=.val u)->YA w G (h++bs) ->
  ∃Gb:Yl,(∀b o,G b o->Gb b o)/\(∀b o,Gb b o->G b o∨Vr bs b o)/\YA w Gb h /\
   (∀v ls,Res.vec v ls∈bs->∀m,m<=ls.length->RV w Gb (.sl (ls.take m) none) (AZ v m)/\RV w Gb (.sl ls none) v):=by
 intro bs h hb hh
 let Gb:Yl:=fun b o=>G b o∨∃v ls,Res.vec v ls∈bs/\v.ownBlock=some b/\o<ls.length
 have hsub:∀b o,G b o->Gb b o:=fun _ _ h=>.inl h
 have hfp:∀b o,Gb b o->G b o∨Vr bs b o:=fun b o hg=>hg.imp id fun ⟨v,ls,hm,ho,_⟩=>⟨_,hm,by
  cases v with
  | slice a l c=>cases a with
   | none=>simp [Value.ownBlock] at ho
   | some a=>simp only [Value.ownBlock,Wz] at ho;exact ho.symm
  | _=>simp [Value.ownBlock] at ho⟩
 have hA:Ur G w w Gb:=⟨fun _ _ _=>rfl,hsub⟩;refine ⟨Gb,hsub,hfp,⟨fun r hr=>?_,hh.left.apart,fun r hr b o hf hg=>?_,fun b o hg=>?_⟩,fun v ls hm m hmle=>?_⟩
 .have h0:=hh.ok r (Xh.2<|.inl hr)
  cases r with
  | obj b ls=>obtain ⟨cs,e,h1,h2⟩:=h0;exact ⟨cs,e,h1,h2.mono hA⟩
  | tail v k=>exact h0
  | ge s=>exact h0
  | vec v ls=>
   rcases h0 with ⟨rfl,h0⟩|⟨g,cap,cur,el,rfl,h1,h2,h3,h4⟩
   .exact .inl ⟨U,h0⟩
   .exact .inr ⟨g,cap,cur,el,U,h1,h2,h3,h4.mono hA⟩
  | many ts=>exact h0
  | own B m=>exact h0
  | row v k ls=>
   rcases h0 with ⟨rfl,h0⟩|⟨g,len,cap,cur,el,rfl,h1,h2,h3,h4,h5⟩
   .exact .inl ⟨U,h0⟩
   .exact .inr ⟨g,len,cap,cur,el,U,h1,h2,h3,h4,h5.mono hA⟩
 .rcases hfp b o hg with h1|h1
  .exact hh.prot r (Xh.2<|.inl hr) b o hf h1
  .exact hh.cross ⟨r,hr,hf⟩ h1
 .rcases hfp b o hg with h1|⟨r,hr,hf⟩
  .exact hh.lt b o h1
  .exact (hh.ok r<|Xh.2<|.inr hr).lt b o hf
 .have h0:=hh.ok _ (Xh.2<|.inr hm);obtain ⟨v',ls',e,hval⟩:=hb _ hm;cases e;rcases h0 with ⟨rfl,rfl⟩|⟨g,cap,cur,el,rfl,h1,h2,h3,h4⟩
  .have:m=0:=by simpa using hmle
   subst this;exact ⟨.nil (by simp),.nil<|by simp⟩
  .have hmem:WP w Gb g 0 ls:=by
    refine WP.of_cells (h4.mono hA) fun j u hj=>?_
    have hjl:j<ls.length:=by
     have:=(Xv.1 hj).1;have h5:=h4.length;omega
    rw [Qp,Zg hjl] at hj;refine ⟨?_,.inr ⟨_,_,hm,rfl,by omega⟩⟩;rw [VH,cell_of_row w g j cur el (0,0) h1]
    simpa using hj
   have hels:∀(l:List AV),(∀y∈l,∃u,y=.val u)->Zc l=l:=by
    intro l
    induction l with
    | nil=>intro _;rfl
    | cons y r ih=>
     intro hy;obtain ⟨u,rfl⟩:=hy y (Xn ..);simp only [Zc,BV,AV.leaves,List.singleton_append];rw [show r.flatMap AV.leaves=Zc r from rfl,ih fun z hz=>hy z (XF _ hz)]
   have hE:Vp w Gb 1 g 0 ls:=Vp.of_flat ls (fun y hy=>by obtain ⟨u,rfl⟩:=hval y hy;rfl) (by rw [hels ls hval];exact hmem);refine ⟨?_,.sl (by simp) h2 hE⟩;have hl:(ls.take m).length=m:=by simp [hmle]
   show RV w Gb (.sl (ls.take m) none) (.slice (some ⟨g,0,none⟩) m cap)
   conv=>arg 4;rw [<-hl]
   exact .sl (by simp) om (hE.take m)
inductive Te (bs:List Res):List AV->List AV->Prop
 | nil:Te bs [] []
 | same {x as1 xs} (t:Te bs as1 xs):Te bs (x::as1) (x::xs)
 | lent {v ls as1 xs} (h:Res.vec v ls∈bs) (t:Te bs as1 xs):Te bs (.val v::as1) (.sl ls none::xs)
 | cut {v ls m as1 xs} (h:Res.vec v ls∈bs) (hm:m<=ls.length) (t:Te bs as1 xs):Te bs (.val (AZ v m)::as1) (.sl (ls.take m) none::xs)
def Te.rcs {w:World} {G Gb:Yl} {bs:List Res} (hA:Ur G w w Gb)
  (hb:∀v ls,Res.vec v ls∈bs->∀m,m<=ls.length->RV w Gb (.sl (ls.take m) none) (AZ v m)/\RV w Gb (.sl ls none) v) :
  ∀{as1 xs:List AV} {vs:List Value},Te bs as1 xs->X1 w G as1 vs->X1 w Gb xs vs
 | _,_,_,.nil,.nil=>.nil
 | _,_,_,.same t,.cons h r=>.cons (h.mono hA) (t.rcs hA hb r)
 | _,_,_,.lent hm t,.cons h r=>by
  have:=h.val_inv;subst this;exact .cons (hb _ _ hm 0<|JG _).2<|t.rcs hA hb r
 | _,_,_,.cut hm hle t,.cons h r=>by
  have:=h.val_inv;subst this;exact .cons (hb _ _ hm _ hle).1<|t.rcs hA hb r
def Wf.lend {P:Program} {f:FuncId} {as1 xs:List AV} {h1:List Res} (bs:List Res) {R:AV->List Res->Prop} (H:Wf P f xs h1 R) (hargs:Te bs as1 xs)
  (hb:∀r∈bs,∃v ls,r=.vec v ls/\∀y∈ls,∃u,y=.val u) (hclean:∀r h',R r h'->J9 h' r/\∀q∈h',Dx q) :
  Wf P f as1 (h1++bs) (fun r h'=>∃h1',R r h1'/\h'=h1'++bs):=by
 intro w G vs hvs hh;obtain ⟨Gb,g1,g2,g3,g4⟩:=YA.lend hb hh;have hA:Ur G w w Gb:=⟨fun _ _ _=>rfl,g1⟩;refine (H w Gb vs (hargs.rcs hA g4 hvs) g3).mono ?_;rintro e w' ⟨v,r,h',G',rfl,hR,hv,hh',hx⟩;obtain ⟨c1,c2⟩:=hclean r h' hR
 let G2:Yl:=fun b o=>G' b o/\¬(Vr bs b o)
 have hbslt:∀b o,Vr bs b o->b<w.heap.size:=fun b o ⟨q,hq,hf⟩=>(hh.ok q<|Xh.2<|.inr hq).lt b o hf
 have hwhole:∀b o o',Vr bs b o->Vr bs b o':=fun b o o' ⟨q,hq,hf⟩=>⟨q,hq,by
  obtain ⟨v,ls,rfl,_⟩:=hb q hq
  cases v with
  | slice a l c=>cases a with
   | none=>exact hf.elim
   | some a=>exact hf
  | _=>exact hf.elim⟩
 have hGkeep:∀b o,G b o->G2 b o:=fun b o hg=>⟨hx.sub b o<|g1 b o hg,fun ⟨q,hq,hf⟩=>hh.prot q (Xh.2<|.inr hq) b o hf hg⟩
 have hnew:∀v k g,Res.tail v k∈h'->v.ownBlock=some g->∀o,G' g o->G2 g o:=by
  intro v k g hm hg o hgo;refine ⟨hgo,fun hf=>?_⟩;have hlt:=hbslt _ _ hf;rcases hh'.ok _ hm with rfl|⟨g',len,cap,cur,el,rfl,t1,t2,t3⟩
  .simp [Value.ownBlock] at hg
  .simp only [Value.ownBlock,Wz] at hg;subst hg;have hfp:Vr h' g' (len*k):=⟨_,hm,rfl,X8 _⟩;exact hh.cross (hx.newfp g' (len*k) hlt hfp)<|hwhole _ _ _ hf
 have e1:X4 w G h1 w' G2 h':=⟨hx.os,hx.tape,hx.output,hx.size,hGkeep,hx.same,fun b o hb' hg=>by
  rcases hx.newG b o hb' hg.1 with h|h
  .rcases g2 b o h with h|h
   .exact .inl h
   .exact absurd h hg.2
  .exact .inr h,hx.newfp⟩
 have e2:YA w' G2 h':=⟨fun q hq=>by
   have h0:=hh'.ok q hq;have hcq:=c2 q hq
   cases q with
   | obj b ls=>obtain ⟨cs,el,k1,k2⟩:=h0;exact ⟨cs,el,k1,k2.vals hcq⟩
   | tail v k=>exact h0
   | ge s=>exact h0
   | vec v ls=>
    rcases h0 with ⟨rfl,h0⟩|⟨g,cap,cur,el,rfl,k1,k2,k3,k4⟩
    .exact .inl ⟨U,h0⟩
    .exact .inr ⟨g,cap,cur,el,U,k1,k2,k3,k4.vals hcq⟩
   | many ts=>exact h0
   | own B m=>exact h0
   | row v k ls=>
    rcases h0 with ⟨rfl,h0⟩|⟨g,len,cap,cur,el,rfl,k1,k2,k3,k4,k5⟩
    .exact .inl ⟨U,h0⟩
    .exact .inr ⟨g,len,cap,cur,el,U,k1,k2,k3,k4,k5.vals hcq⟩,hh'.apart,fun q hq b o hf hg=>hh'.prot q hq b o hf hg.1,fun b o hg=>hh'.lt b o hg.1⟩
 obtain ⟨f1,f2⟩:=hh.frame e1 e2;exact ⟨v,r,h'++bs,G2,U,⟨h',hR,U⟩,RV.clean hnew c1 hv,f1,f2⟩
section
variable {P:Program} {n:Nat} {ops:Array Oper} {B:Fr->List Res->Prop} {k:Nat} {F:Fr} {h h2:List Res}
def Ew (P:Program) (ops:Array Oper) (F:Fr) (k:Nat):Option (AV × Int):=
 match (ZG ops k).op with
 | .slice t x none (some hi) none=>match P.underlying t with
  | some (.slice e)=>match P.info? e with
   | some _=>match F.ev hi with
    | .val (.int _ m)=>some (F.ev x,m)
    | _=>none
   | none=>none
  | _=>none
 | _=>none
def Zmy (j:Nat) {v:Value} {ls:List AV} {m:Nat} (hi:Ew P ops F k=some (.val v,(m:Int))) (hj:h[j]? = some (.vec v ls)) (hle:m<=ls.length) :
  XH P (ZG ops k) F h [] (.val<|AZ v m):=by
 unfold Ew at hi;generalize hoo:ZG ops k=o at hi;obtain ⟨dst,op,type,pos,after,guard⟩:=o;cases op<;>simp only at hi<;>try (cases hi)
 rename_i t x lo hi' mx
 cases lo with
 | some _=>simp at hi
 | none=>
  cases hi' with
  | none=>simp at hi
  | some y=>
   cases mx with
   | some _=>simp at hi
   | none=>
    simp only at hi
    split at hi
    .rename_i e ht
     split at hi
     .rename_i inf hinf
      split at hi
      .rename_i ik m' hm;simp only [Wz,Prod.mk.injEq] at hi;obtain ⟨hx,rfl⟩:=hi;intro n w G a hF hh;have v1:=hF.ev x;rw [hx] at v1;have v1:=v1.val_inv;have v2:=hF.ev y;rw [hm] at v2;have v2:=v2.val_inv;have hvec:=hh.ok _ (Y0 hj);obtain ⟨ad,cap,hform⟩:=C3.form hvec;have hcap:ls.length<=cap:=by
        rcases hvec with ⟨rfl,rfl⟩|⟨g,cap',cur,el,rfl,_,hc,_⟩
        .simp
        .cases hform;exact hc
       subst hform;refine ⟨_,.val,fun w' _ _=>?_⟩;have Zb:=fun c=>Eu (P:=P) (c:=c) (v:=.int ik (m:Int)) (y:=cap) rfl om om w'
       simp only [execOp,v1,v2,CM,Option.map_none];refine Vv ?_;simp only [Instr.sliceAt,Sem.run_bind,VX ht,Result.andThen_ok,Instr.slice];have hmm:(Instr.sliceBounds true ls.length cap none (some<|.int ik (m:Int)) none).run P w'=.ok (0,m,cap) w':=by simp [Instr.sliceBounds,Zb]
       rw [hmm];have hz:∀a:Addr,a.add 0=a:=fun a=>by simp [Addr.add]
       simp only [Result.andThen_ok,Kd hinf,Nat.zero_mul,hz,AZ];simp
      .cases hi
     .cases hi
    .cases hi
def Zo0 {w:World} {G:Yl} {v:Value} {ls:List AV} {m:Nat} (hh:YA w G (.vec v ls::h2)) (hle:m<=ls.length) :
  YA w G (.vec (AZ v m) (ls.take m)::h2)/\X4 w G (.vec v ls::h2) w G (.vec (AZ v m) (ls.take m)::h2):=by
 have hpw:=Vb.1 hh.apart;have hfp:∀b o,Res.fp (.vec (AZ v m)<|ls.take m) b o->Res.fp (.vec v ls) b o:=by
  intro b o hf
  cases v with
  | slice a l c=>cases a with
   | none=>exact hf.elim
   | some a=>exact hf
  | _=>exact hf
 refine ⟨⟨fun r hr=>?_,Vb.2 ⟨fun r hr b o h1 h2=>hpw.1 r hr b o (hfp b o h1) h2,hpw.2⟩,fun r hr b o hf hg=>?_,hh.lt⟩,⟨U,U,U,X8 _,fun _ _ h=>h,fun _ _=>.inl rfl,fun _ _ _ h=>.inl h,?_⟩⟩
 .rcases YM.1 hr with rfl|hr
  .rcases hh.ok _ (Xn ..) with ⟨rfl,rfl⟩|⟨g,cap,cur,e,rfl,h1,h3,h4,h5⟩
   .have:m=0:=by simpa using hle
    subst this;exact .inl ⟨U,U⟩
   .refine .inr ⟨g,cap,cur,e,by simp [AZ,hle],h1,by simp;omega,h4,?_⟩;have:=h5.take m;rw [List.take_take,Vz hle] at this
    simpa [hle] using this
  .exact hh.ok r<|XF _ hr
 .rcases YM.1 hr with rfl|hr
  .exact hh.prot _ (Xn ..) b o (hfp b o hf) hg
  .exact hh.prot r (XF _ hr) b o hf hg
 .rintro b o _ ⟨r,hr,hf⟩;rcases YM.1 hr with rfl|hr
  .exact ⟨_,Xn ..,hfp b o hf⟩
  .exact ⟨r,XF _ hr,hf⟩
def Z5j {w:World} {G:Yl} {v:Value} {ls:List AV} (hh:YA w G (.vec v ls::h2)) (hls:∀y∈ls,y.leaves=[y]) :
  ∃G',YA w G' (.tail v 1::h2)/\X4 w G (.vec v ls::h2) w G' (.tail v 1::h2)/\RV w G' (.sl ls<|some v) v:=by
 have hpw:=Vb.1 hh.apart;rcases hh.ok _ (Xn ..) with ⟨rfl,rfl⟩|⟨g,cap,cur,e,rfl,h1,h3,h4,h5⟩
 .obtain ⟨k1,k2⟩:=O6 (sz:=1) (hh.sub (B3 _ _));refine ⟨G,k1,⟨rfl,rfl,rfl,X8 _,fun _ _ h=>h,fun _ _=>.inl rfl,fun _ _ _ h=>.inl h,?_⟩,.nil (by simp)⟩;rintro b o _ ⟨r,hr,hf⟩;rcases YM.1 hr with rfl|hr
  .exact hf.elim
  .exact ⟨r,XF _ hr,hf⟩
 .let G':Yl:=fun b o=>G b o∨(b=g/\o<ls.length)
  have hA:Ur G w w G':=⟨fun _ _ _=>rfl,fun _ _ h=>.inl h⟩;have hmem:Res.vec (.slice (some ⟨g,0,none⟩) ls.length cap) ls∈Res.vec (.slice (some ⟨g,0,none⟩) ls.length cap) ls::h2:=Xn ..
  refine ⟨G',⟨fun r hr=>?_,Vb.2 ⟨fun r hr b o f1 f2=>hpw.1 r hr b o f1.1 f2,hpw.2⟩,fun r hr b o hf hg=>?_,fun b o hg=>?_⟩,
   ⟨rfl,rfl,rfl,X8 _,fun _ _ h=>.inl h,fun _ _=>.inl rfl,fun b o _ hg=>hg.imp id fun ⟨e1,_⟩=>⟨_,hmem,e1⟩,?_⟩,?_⟩
  .rcases YM.1 hr with rfl|hr
   .exact .inr ⟨g,ls.length,cap,cur,e,rfl,h1,h3,by rw [h4,Kg]⟩
   .have h0:=hh.ok r (XF _ hr)
    cases r with
    | obj b ks=>obtain ⟨cs,el,k1,k2⟩:=h0;exact ⟨cs,el,k1,k2.mono hA⟩
    | tail v k=>exact h0
    | ge s=>exact h0
    | vec v ks=>
     rcases h0 with ⟨rfl,h0⟩|⟨g2,cap2,cur2,el,rfl,k1,k2,k3,k4⟩
     .exact .inl ⟨U,h0⟩
     .exact .inr ⟨g2,cap2,cur2,el,U,k1,k2,k3,k4.mono hA⟩
    | many ts=>exact h0
    | own B m=>exact h0
    | row v k ks=>
     rcases h0 with ⟨rfl,h0⟩|⟨g2,len2,cap2,cur2,el,rfl,k1,k2,k3,k4,k5⟩
     .exact .inl ⟨U,h0⟩
     .exact .inr ⟨g2,len2,cap2,cur2,el,U,k1,k2,k3,k4,k5.mono hA⟩
  .rcases YM.1 hr with rfl|hr2
   .obtain ⟨hbg,hf2⟩:=hf;rcases hg with hg|⟨_,hg⟩
    .exact hh.prot _ hmem b o hbg hg
    .rw [Kg] at hf2;omega
   .rcases hg with hg|⟨hbg,_⟩
    .exact hh.prot r (XF _ hr2) b o hf hg
    .exact hpw.1 r hr2 b o hbg hf
  .rcases hg with hg|⟨rfl,_⟩
   .exact hh.lt b o hg
   .exact (Tw.1 h1).1
  .rintro b o _ ⟨r,hr,hf⟩;rcases YM.1 hr with rfl|hr
   .exact ⟨_,hmem,hf.1⟩
   .exact ⟨r,XF _ hr,hf⟩
  .have hflat:Zc ls=ls:=by
    clear h5 h3 hh hpw hmem hA h4
    induction ls with
    | nil=>rfl
    | cons y r ih=>
     simp only [Zc,BV,hls y<|Xn ..,List.singleton_append];rw [show r.flatMap AV.leaves=Zc r from rfl,ih fun q hq=>hls q<|XF _ hq]
   refine .sl (k:=1) (fun x hx=>by cases hx;rfl) h3<|Vp.of_flat ls (fun y hy=>by rw [hls y hy];rfl) ?_;rw [hflat];refine WP.of_cells (h5.mono hA) fun j u hj=>?_
   have hjl:j<ls.length:=by
    have:=(Xv.1 hj).1;have h6:=h5.length;omega
   rw [Qp,Zg hjl] at hj;refine ⟨?_,.inr ⟨rfl,by omega⟩⟩;rw [VH,cell_of_row w g j cur e (0,0) h1]
   simpa using hj
def BE (P:Program) (ops:Array Oper) (F:Fr) (k:Nat):Option (Int × Int × AV):=
 match (ZG ops k).op with
 | .makeSlice t l c=>match P.underlying t with
  | some (.slice e)=>match P.info? e with
   | some i=>match i.zero with
    | some z=>match z.cells.toList,Nat.beq i.size 1&&Nat.ble i.bytes 32 with
     | [zv],true=>match F.ev l,F.ev c with
      | .val (.int _ l),.val (.int _ c)=>some (l,c,AV.ofVal zv)
      | _,_=>none
     | _,_=>none
    | none=>none
   | none=>none
  | _=>none
 | _=>none
def HS {w:World} {G:Yl} {x:AV} {v:Value} (h:RV w G x v):∀n,X1 w G (List.replicate n x)<|List.replicate n v
 | 0=>.nil
 | n+1=>.cons h (HS h n)
def Z0t (zv:Value) (n:Nat):(madeCells #[zv] n).toList=List.replicate n zv:=by
 apply List.ext_getElem
 .simp [madeCells]
 .intro i h1 h2;simp [madeCells,Nat.mod_one]
def Z3f {w:World} {G:Yl} {a:Act} (hF:FR w G n F a) {l c:Nat} {zv:AV} (hm:BE P ops F k=some ((l:Int),(c:Int),zv)) (hlc:l<=c) (hc:c<=4294967296) :
  ∃(e:TypeId) (z:Value),zv=AV.ofVal z/\(execOp a.eval (ZG ops k)).run P w=.ok (.value<|.slice (some ⟨w.heap.size,0,none⟩) l c) (w.alloc<|.cells (madeCells #[z] c) e):=by
 unfold BE at hm;generalize hoo:ZG ops k=o at hm;obtain ⟨dst,op,type,pos,after,guard⟩:=o;cases op<;>simp only at hm<;>try (cases hm)
 rename_i t lo co
 split at hm
 case h_2=>cases hm
 rename_i e ht
 split at hm
 case h_2=>cases hm
 rename_i i hi
 split at hm
 case h_2=>cases hm
 rename_i z hz
 split at hm
 case h_2=>cases hm
 rename_i z1 hzl hb;simp only [We] at hb
 split at hm
 case h_2=>cases hm
 rename_i k1 l' k2 c' hl hco;simp only [Wz,Prod.mk.injEq] at hm;obtain ⟨rfl,rfl,rfl⟩:=hm;have v1:=hF.ev lo;have v2:=hF.ev co;rw [hl] at v1;rw [hco] at v2;have v1:=v1.val_inv;have v2:=v2.val_inv;have hs:=UZ hb.1;have hbytes:=Vx hb.2;have hzc:z.cells=#[z1]:=by rw [<-UG (xs:=z.cells),hzl]
 have hr:=run_make (P:=P) w t e i z ht hi hz k1 k2 (l:Int) (c:Int) om om (by
  have h1:(i.bytes:Int)<=32:=by omega
  have h2:(i.bytes:Int)*(c:Int)<=32*(c:Int):=Int.mul_le_mul_of_nonneg_right h1 om
  omega) om
 rw [hzc,hs,Kg] at hr;simp only [Ua] at hr;refine ⟨e,z1,U,?_⟩;simp only [execOp,v1,v2];exact Vv hr
def Zi4 {K:Fr->List Res->Prop} {l c:Nat} {zv:AV} (hd:VS n (ZG ops k)=true) (hm:BE P ops F k=some ((l:Int),(c:Int),zv)) (hlc:l<=c) (hc:c<=4294967296)
  (hK:∀v,K (F.put (ZG ops k).dst<|.val v) (.vec v (List.replicate l zv)::h)):WU P n (ZG ops k) F h K:=by
 intro Q w G a hF hh;obtain ⟨e,z,rfl,hr⟩:=Z3f hF hm hlc hc;unfold Oper.wp;rw [hr]
 obtain ⟨j1,j2⟩:=hh.alloc_vec (madeCells #[z] c) e (ls:=List.replicate l (AV.ofVal z)) (cap:=c) (by simpa using hlc) (by simp [madeCells]) (by
  rw [Z0t,List.take_replicate,List.length_replicate,Vz hlc]
  exact HS (RV.ofVal z) l)
 rw [List.length_replicate] at j1 j2;exact ⟨_,_,G,hK _,(hF.mono<|j2.agree hh).put (Tk hd) .val,j1,j2⟩
end
section
variable {P:Program} {n:Nat} {ops:Array Oper} {B:Fr->List Res->Prop} {k:Nat} {F:Fr} {h h2:List Res}
variable {T:List (Nat × List Nat)} {fuel fuel':Nat} {done:List Nat}
def Zhy {K:Fr->List Res->Prop} {ls:List AV} {len:Nat} (hd:VS n (ZG ops k)=true) (ha:Qi P ops F k=some (ls,len,1)) (hlen:ls.length=len)
  (hK:∀v,K (F.put (ZG ops k).dst<|.val v) (.vec v ls::h)):WU P n (ZG ops k) F h K:=by
 unfold Qi at ha;generalize hoo:ZG ops k=q at ha hd hK;obtain ⟨dst,op,type,pos,after,guard⟩:=q;cases op<;>simp only at ha<;>try (cases ha)
 rename_i t ln parts
 split at ha
 case h_2=>cases ha
 rename_i e ht
 split at ha
 case h_2=>cases ha
 rename_i i hi
 split at ha
 case h_2=>cases ha
 rename_i hc;simp only [We] at hc
 split at ha
 case h_2=>cases ha
 rename_i ls' hf;simp only [Wz,Prod.mk.injEq] at ha;obtain ⟨rfl,rfl,Xg⟩:=ha;subst hlen;intro Q w G a hF hh;obtain ⟨cs,h1,h2⟩:=I2 hF parts ht hi rfl hc.1 hc.2 hf;have hr:(execOp a.eval { dst:=dst,op:=.buildSlice t ls'.length parts,type:=type,pos:=pos,after:=after,guard:=guard }).run P w =
   .ok (.value<|.slice (some ⟨w.heap.size,0,none⟩) ls'.length ls'.length) (w.alloc<|.cells cs e):=by
  simp only [execOp];exact Vv h2
 unfold Oper.wp;rw [hr];have hlc:=h1.length;simp only [JD] at hlc;obtain ⟨j1,j2⟩:=hh.alloc_vec cs e (ls:=ls') (cap:=ls'.length) (X8 _) hlc (by rw [<-hlc];simpa [Vc] using h1);exact ⟨_,_,G,hK _,(hF.mono<|j2.agree hh).put (Tk hd) .val,j1,j2⟩
def Ze6 (ls:List AV) {len:Nat} (hk:Xe n ops F k=true) (ha:Qi P ops F k=some (ls,len,1)) (hlen:ls.length=len)
  (hK:∀v,SI P n ops B (k+1) (F.put (ZG ops k).dst<|.val v) (.vec v ls::h)):SI P n ops B k F h:=
 TZ hk (Zhy (U5 hk).2.1 ha hlen hK)
def Zec (j:Nat) {v:Value} {ls:List AV} {i:Nat} {y:AV} (ls':List AV) (hk:Xe n ops F k=true) (hs:storeAt P ops F k=some (Kw v,i,[y])) (hp:UU [j] h=some ([.vec v ls],h2))
  (hlt:i<ls.length) (he:ls.set i y=ls') (H:SI P n ops B (k+1) F (.vec v ls'::h2)):SI P n ops B k F h:=
 TZ hk (WU.perm (UF hp)<|Z1q hs hlt<|by rw [he];exact H)
def Z9l (i j:Nat) (js bs:List Nat) {v:Value} {ls:List AV} {q:Nat} {y:AV} (ls':List AV) (hk:Xe n ops F i=true) (hs:storeAt P ops F i=some (Kw v,q,[y]))
  (hp:UU [j] h=some ([.vec v ls],h2)) (hlt:q<ls.length) (he:ls.set q y=ls') (ho:UE ops i T=bs) (hj:js.map (fun j=>(V3 h2)[j]?)=bs.map some)
  (H:X3 P n ops B (T.filter fun t=>!Vq ops i t.1) fuel (done++[i]) F (.vec v ls'::h2)):VY P n ops B T fuel done F h i:=
 Jj [j] js bs hk hp ho hj (Z1q (h2:=[]) hs hlt<|by rw [he];exact H)
def Zea (j:Nat) (ls':List AV) {v:Value} {ls xs:List AV} {hx:Option Value} (hk:Xe n ops F k=true) (ha:Tf P ops F k=some (.val v,.sl xs hx,1)) (hp:UU [j] h=some ([.vec v ls],h2))
  (hxs:∀y∈xs,y.leaves=[y]) (hone:xs.all AV.one=true) (hbound:ls.length+xs.length<=4294967296) (he:ls++xs=ls')
  (hK:∀v',SI P n ops B (k+1) (F.put (ZG ops k).dst<|.val v') (.vec v' ls'::h2)):SI P n ops B k F h:=
 TZ hk (WU.perm (UF hp) (Z1p (U5 hk).2.1 ha hxs hone hbound fun v'=>by rw [he];exact hK v'))
def Z9k (i j:Nat) (js bs:List Nat) (ls':List AV) {v:Value} {ls xs:List AV} {hx:Option Value} (hk:Xe n ops F i=true) (ha:Tf P ops F i=some (.val v,.sl xs hx,1))
  (hp:UU [j] h=some ([.vec v ls],h2)) (hxs:∀y∈xs,y.leaves=[y]) (hone:xs.all AV.one=true) (hbound:ls.length+xs.length<=4294967296) (he:ls++xs=ls')
  (ho:UE ops i T=bs) (hj:js.map (fun j=>(V3 h2)[j]?)=bs.map some)
  (hK:∀v',X3 P n ops B (T.filter fun t=>!Vq ops i t.1) fuel (done++[i]) (F.put (ZG ops i).dst<|.val v') (.vec v' ls'::h2)):VY P n ops B T fuel done F h i:=
 Jj [j] js bs hk hp ho hj (Z1p (h2:=[]) (U5 hk).2.1 ha hxs hone hbound fun v'=>by rw [he];exact hK v')
def Zeb (ls:List AV) {l c:Nat} {zv:AV} (hk:Xe n ops F k=true) (hm:BE P ops F k=some ((l:Int),(c:Int),zv)) (hlc:l<=c) (hc:c<=4294967296) (he:List.replicate l zv=ls)
  (hK:∀v,SI P n ops B (k+1) (F.put (ZG ops k).dst<|.val v) (.vec v ls::h)):SI P n ops B k F h:=
 TZ hk (Zi4 (U5 hk).2.1 hm hlc hc fun v=>by rw [he];exact hK v)
def Ze2 (f:FuncId) (as1 xs:List AV) (is:List Nat) {h1:List Res} (bs:List Res) {R:AV->List Res->Prop} (hk:Xe n ops F k=true) (hc:JO P ops F k=some (f,as1))
  (hp:UU is h=some (h1++bs,h2)) (H:Wf P f xs h1 R) (hargs:Te bs as1 xs) (hb:∀r∈bs,∃v ls,r=.vec v ls/\∀y∈ls,∃u,y=.val u)
  (hclean:∀r h',R r h'->J9 h' r/\∀q∈h',Dx q)
  (hK:∀r h',R r h'->SI P n ops B (k+1) (F.put (ZG ops k).dst r) (h'++bs++h2)):SI P n ops B k F h:=
 TZ hk (HN (U5 hk).2.1 hc (UF hp) (H.lend bs hargs hb hclean) fun r h' ⟨h1',hr,he⟩=>by rw [he];exact hK r h1' hr)
def Z9b (i:Nat) (f:FuncId) (as1 xs:List AV) (is js ks:List Nat) {h1:List Res} (bs:List Res) {R:AV->List Res->Prop} (hk:Xe n ops F i=true) (hc:JO P ops F i=some (f,as1))
  (hp:UU is h=some (h1++bs,h2)) (ho:UE ops i T=ks) (hj:js.map (fun j=>(V3 h2)[j]?)=ks.map some)
  (H:Wf P f xs h1 R) (hargs:Te bs as1 xs) (hb:∀r∈bs,∃v ls,r=.vec v ls/\∀y∈ls,∃u,y=.val u)
  (hclean:∀r h',R r h'->J9 h' r/\∀q∈h',Dx q)
  (hK:∀r h',R r h'->X3 P n ops B (T.filter fun t=>!Vq ops i t.1) fuel (done++[i]) (F.put (ZG ops i).dst r) (h'++bs++h2)):VY P n ops B T fuel done F h i:=
 Jj is js ks hk hp ho hj (HN (h2:=[]) (U5 hk).2.1 hc (by simp) (H.lend bs hargs hb hclean) fun r h' ⟨h1',hr,he⟩=>by rw [he];simpa using hK r h1' hr)
def TN (h h':List Res):Prop:=∀w G,YA w G h->∃G',YA w G' h'/\X4 w G h w G' h'
def W8 {h':List Res} (ht:TN h h') (H:SI P n ops B k F h'):SI P n ops B k F h:=by
 intro Q w G a hF hh hk;obtain ⟨G',h1,h2⟩:=ht w G hh;exact H Q w G' a (hF.mono (h2.agree hh)) h1 fun F2 h2' G2 a2 w2 b1 b2 b3 b4=>hk F2 h2' G2 a2 w2 b1 b2 b3 (h2.trans b4)
def T0 {c:Code} {A:Vh} {h':List Res} (ht:TN h h') (H:YC P n c A F h'):YC P n c A F h:=by
 intro w G a hF hh;obtain ⟨G',h1,h2⟩:=ht w G hh;exact wp_mono (H w G' a (hF.mono (h2.agree hh)) h1) fun e a' w' hc=>hc.trans h2
def Znf:TN h (.vec (.slice none 0 0) []::h):=fun _ _ hh=>let ⟨a,b⟩:=Zny hh;⟨_,a,b⟩
def Zng (j m:Nat) {v:Value} {ls:List AV} (hp:UU [j] h=some ([.vec v ls],h2)) (hle:m<=ls.length):TN h (.vec (AZ v m) (ls.take m)::h2):=by
 intro w G hh;have hp':=UF hp;obtain ⟨a,b⟩:=Zo0 (hh.perm hp') hle;exact ⟨G,a,b.perm hp'.symm (QP _)⟩
def Z59 (is:List Nat) {h' d:List Res} (hp:UU is h=some (h',d)):TN h h':=by
 intro w G hh;have hp':=UF hp;refine ⟨G,(hh.perm hp').left,?_⟩;exact ((X4.refl w G h).perm (QP _) hp').sub' (List.sublist_append_left _ _)
end
def Ip (xs:LI):∀y∈Z7 xs,∃u,y=AV.val u:=by intro y hy;simp only [Z7,XG] at hy;obtain ⟨x,_,rfl⟩:=hy;exact ⟨_,rfl⟩
def MM (xs:LI):∀y∈Z7 xs,y.leaves=[y]:=by intro y hy;simp only [Z7,XG] at hy;obtain ⟨x,_,rfl⟩:=hy;rfl
def Z1f (xs:LI):(Z7 xs).all AV.one=true:=by rw [Ax];intro y hy;simp only [Z7,XG] at hy;obtain ⟨x,_,rfl⟩:=hy;rfl
def Z3o (xs:LI) (i:Nat) (x:Int):(Z7 xs).set i (.i x)=Z7 (xs.set i x):=by simp [Z7,List.map_set]
def T7:∀r∈([]:List Res),∃v ls,r=Res.vec v ls/\∀y∈ls,∃u,y=AV.val u:=by simp
def Uu {v:Value} {xs:LI} {bs:List Res} (h:∀r∈bs,∃v ls,r=Res.vec v ls/\∀y∈ls,∃u,y=AV.val u) :
  ∀r∈Res.vec v (Z7 xs)::bs,∃v ls,r=Res.vec v ls/\∀y∈ls,∃u,y=AV.val u:=by
 intro r hr;rcases YM.1 hr with rfl|hr
 .exact ⟨_,_,U,Ip xs⟩
 .exact h r hr
section
variable {P:Program} {n:Nat} {c:Code} {A:Vh} {F:Fr} {h:List Res}
@[reducible] def GH (K:Fr->List Res->Prop) (A:Vh):Vh:=fun e F h=>
 match e with
 | .normal=>∃F' h',K F' h'/\Q9 F h F' h'
 | e=>A e F h
def Z66 {y:Code} (K:Fr->List Res->Prop) (H:YC P n c (GH K A) F h) (hB:∀F' h',K F' h'->YC P n y A F' h'):YC P n c (CE P n y A) F h:=by
 refine OA (fun e F1 h1 hq=>?_) H
 cases e with
 | normal=>obtain ⟨F',h',k1,k2⟩:=hq;exact CS k2 (hB F' h' k1)
 | exit id=>exact hq
 | goto l=>exact hq
 | ret=>exact hq
 | panic ch=>exact hq
 | outgrown=>exact hq
def Yt {ops:Array Oper} {B:Fr->List Res->Prop} {k:Nat} {F2:Fr} {h2:List Res} (hw:Q9 F h F2 h2) (J:SI P n ops B k F2 h2):SI P n ops B k F h:=I5 hw J
def Z65 {y:Code} {A2:Vh} (K:Fr->List Res->Prop) (hA:∀F h,A .normal F h=YC P n y A2 F h) (H:YC P n c (GH K A) F h) (hB:∀F' h',K F' h'->YC P n y A2 F' h'):YC P n c A F h:=by
 refine OA (fun e F1 h1 hq=>?_) H
 cases e with
 | normal=>obtain ⟨F',h',k1,k2⟩:=hq;rw [hA];exact CS k2 (hB F' h' k1)
 | exit id=>exact hq
 | goto l=>exact hq
 | ret=>exact hq
 | panic ch=>exact hq
 | outgrown=>exact hq
end
end Go.Abs
section
namespace Go.Abs
inductive Keep:Fr->Fr->Prop
 | z {F:Fr}:Keep F []
 | r {F:Fr}:Keep F F
 | k {F F':Fr} {x:Nat × AV} (h:Keep F F'):Keep (x::F) (x::F')
 | d {F F':Fr} {x:Nat × AV} (h:Keep F F'):Keep (x::F) F'
 | p {F F':Fr} {d:Option Tmp} {x:AV} (h:Keep F F'):Keep (F.put d x) F'
 | q {F F':Fr} {d:Option Tmp} {x:AV} (t:Nat) (h:Keep F F'):Keep (F.put d x) ((t,x)::F')
 | n {F F':Fr} (t:Nat) (x:AV) (h:Keep F F'):Keep F ((t,x)::F')
def XO (is:List Nat) (h:List Res):List Res:=((UU is h).map (·.2)).getD []
def Wu (is:List Nat) (h:List Res):Option (List Res):=(UU is h).map (·.1)
def VL {is:List Nat} {h h1:List Res} (hp:Wu is h=some h1):UU is h=some (h1,XO is h):=by
 unfold Wu at hp;unfold XO
 cases hq:UU is h with
 | none=>rw [hq] at hp;cases hp
 | some x=>rw [hq] at hp;cases hp;rfl
abbrev Z5 (xs:LI):AV:=.sl (Z7 xs) none
abbrev KU (xs:List LI):AV:=.sl (WD xs) none
abbrev Jt (xs:List Yo):AV:=.sl (XW xs) none
abbrev ZQ (xs:List Zh):AV:=.sl (YF xs) none
abbrev WE (xs:List Z4):AV:=.sl (Zv xs) none
abbrev W4 (xs:List Z6):AV:=.sl (YP xs) none
abbrev KV (xs:List Y9):AV:=.sl (YS xs) none
abbrev ZT (xs:LI) (v:Value):AV:=.sl (Z7 xs) (some v)
abbrev Co (xs:List LI) (v:Value):AV:=.sl (WD xs) (some v)
abbrev HI (xs:List Yo) (v:Value):AV:=.sl (XW xs) (some v)
abbrev AS (xs:List Zh) (v:Value):AV:=.sl (YF xs) (some v)
abbrev X7 (xs:List Z4) (v:Value):AV:=.sl (Zv xs) (some v)
abbrev Q2 (xs:List Z6) (v:Value):AV:=.sl (YP xs) (some v)
abbrev WJ (xs:List Y9) (v:Value):AV:=.sl (YS xs) (some v)
abbrev Ee (c:Yo):List AV:=[Z5 c.fields]
abbrev Qf (d:Zh):List AV:=[.i d.frm,.i d.to_,Jt d.cons]
abbrev Xp (s:Z4):List AV:=[.i s.op,.i s.num,.i s.into,Z5 s.args,W4 s.kids]
abbrev Xb (b:Z6):List AV:=[WE b.steps,.i b.result]
abbrev Qg (r:Y9):List AV:=[Z5 r.1,Z5 r.2,.i r.result,WE r.4.steps,.i r.4.result]
abbrev YI (n:Zm):List AV:=[ZQ n.1,KV n.2]
abbrev Z0z:Value:=.slice none 0 0
structure Hd where
 a:Option Addr
 l:Nat
 c:Nat
abbrev Hd.v (g:Hd):Value:=.slice g.a g.l g.c
abbrev Hd.cut (g:Hd) (m:Nat):Hd:=⟨g.a,m,g.c⟩
abbrev hN:Hd:=⟨none,0,0⟩
abbrev AV.h (g:Hd):AV:=.val g.v
abbrev rV (g:Hd) (xs:LI):Res:=.vec g.v (Z7 xs)
section
variable {P:Program} {n:Nat} {c:Code} {A:Vh} {F:Fr} {h:List Res} {ops:Array Oper} {B:Fr->List Res->Prop} {k:Nat}
variable {T:List (Nat × List Nat)} {fuel:Nat} {done:List Nat}
def aq (ha:YC P n (YU c) (CE P n (Uv c) A) F h) (hk:Xo c=3:=by kernel_rfl):YC P n c A F h:=IL hk ha
def ar (hs:SI P n (XR<|YU c) (fun F h=>YC P n (Uv c) A F h) 0 F h) (hk:Xo c=3:=by kernel_rfl) (hk1:Xo (YU c)=1:=by kernel_rfl):YC P n c A F h:=Z69 hk hk1 (Sj hs)
def az (hs:SI P n (XR c) (A .normal) 0 F h) (hk:Xo c=1:=by kernel_rfl):YC P n c A F h:=OB hk (Sj hs)
def aD (k:Nat) (hs:X3 P n (XR<|YU c) (fun F h=>YC P n (Uv c) A F h) [] k [] F h) (hk:Xo c=3:=by kernel_rfl) (hk2:Xo (YU c)=2:=by kernel_rfl) (hm:P.follows .mixedOrders=true:=by kernel_rfl)
  (Xg:(XR (YU c)).size=k:=by kernel_rfl):YC P n c A F h:=Z6a hk hk2 hm Xg hs
def aE (k:Nat) (hs:X3 P n (XR c) (A .normal) [] k [] F h) (hk:Xo c=2:=by kernel_rfl) (hm:P.follows .mixedOrders=true:=by kernel_rfl)
  (Xg:(XR c).size=k:=by kernel_rfl):YC P n c A F h:=OC hk hm Xg hs
def ak (h0:A .normal F h) (hk:Xo c=0:=by kernel_rfl):YC P n c A F h:=Z6e hk h0
def ax (id:Nat) (h0:A (.exit id) F h) (hk:Xo c=7:=by kernel_rfl) (hi:Jg c=id:=by kernel_rfl):YC P n c A F h:=Z67 id hk hi h0
def ab (id:Nat) (ha:YC P n (YU c) (Gq id A) F h) (hk:Xo c=5:=by kernel_rfl) (hi:Jg c=id:=by kernel_rfl):YC P n c A F h:=Z64 id hk hi ha
def ac (b:Bool) {p:Prop} (hp:b=true↔p) (h1:p->YC P n (YU c) A F h) (h2:¬p->YC P n (Uv c) A F h) (hk:Xo c=4:=by kernel_rfl) (hc:F.ev (Bd c)=.val (.bool b):=by kernel_rfl) :
  YC P n c A F h:=IK hk hc hp h1 h2
def Wc (h1:YC P n (YU c) A F h) (hk:Xo c=4:=by kernel_rfl) (hc:F.ev (Bd c)=.val (.bool true):=by kernel_rfl):YC P n c A F h:=
 IK (p:=True) hk hc (by simp) (fun _=>h1) fun q=>absurd trivial q
def Ww (h1:YC P n (Uv c) A F h) (hk:Xo c=4:=by kernel_rfl) (hc:F.ev (Bd c)=.val (.bool false):=by kernel_rfl):YC P n c A F h:=
 IK (p:=False) hk hc (by simp) (fun q=>q.elim) fun _=>h1
def al (Inv:Nat->Fr->List Res->Prop) (m0:Nat) (F0:Fr) (h0:List Res) (hi:Inv m0 F0 h0) (hw:Q9 F h F0 h0)
  (hr:∀m F h,Inv m F h->YC P n (YU c) (MX Inv m A) F h) (hk:Xo c=6:=by kernel_rfl):YC P n c A F h:=Z68 Inv hk hi hw hr
def wk {F':Fr} {h1 h':List Res} (is:List Nat) (hF:F.Le F') (e:h1=h':=by exact rfl) (hp:Wu is h=some h1:=by kernel_rfl):Q9 F h F' h':=e▸Zob is hF (VL hp)
def fl {F F':Fr} (h:F'.map (fun p=>(F.get p.1).like p.2)=F'.map (·.2):=by kernel_rfl):F.Le F':=M3 h
def fc {F F':Fr} {t:Nat} {x y:AV} (hxy:Zd x y) (hr:F.Le F') (hx:F.get t=x:=by kernel_rfl):F.Le ((t,y)::F'):=DX hx hxy hr
def lr (x:AV):Zd x x:=Zd.refl x
abbrev nl:AV:=.sl [] (some<|.slice none 0 0)
def Keep.w {F F':Fr} {a b c d:Nat×AV} (h:Keep F F'):Keep (a::b::c::d::F) (a::b::c::d::F'):=.k (.k<|.k<|.k h)
def dq {p:Prop} [Decidable p]:decide p=true↔p:=decide_eq_true_iff
def fr {F F':Fr} {t:Nat} {x:AV} (hr:F.Le F') (hx:F.get t=x:=by kernel_rfl):F.Le ((t,x)::F'):=fc (lr _) hr hx
def li {a b:Int} (h:a=b:=by exact ob):Zd (.i a) (.i b):=Zd.i h
def lb {a b:Bool} (h:a=b:=by exact ob):Zd (.b a) (.b b):=Zd.b h
def r1 {fn:Func} {R:AV->List Res->Prop} {e:Exit} {h1 h':List Res} {r:AV} (is:List Nat) (hR:R r h') (eq:h1=h':=by exact rfl) (he:(match e with|.normal|.ret=>true|_=>false)=true:=by kernel_rfl)
  (hr:J0 P F h fn.results.toList []=some ([r],[]):=by kernel_rfl) (hp:Wu is h=some h1:=by kernel_rfl):C1 P fn R e F h:=
 Nk he [] hr (by simp) ⟨_,eq▸UF (VL hp)⟩ (Zd.refl _) hR
def r2 {fn:Func} {R:AV->List Res->Prop} {e:Exit} {h1 h':List Res} {r:AV} (is:List Nat) (xs:List AV) (hR:R r h') (hle:Zd (BJ xs) r) (eq:h1=h':=by exact rfl) (he:(match e with|.normal|.ret=>true|_=>false)=true:=by kernel_rfl)
  (hr:J0 P F h fn.results.toList []=some (xs,[]):=by kernel_rfl) (hp:Wu is h=some h1:=by kernel_rfl):C1 P fn R e F h:=
 Nk he [] hr (by simp) ⟨_,eq▸UF (VL hp)⟩ hle hR
def r3 {fn:Func} {R:AV->List Res->Prop} {e:Exit} {h1 h':List Res} {r:AV} (is:List Nat) (xs:List AV) (hints:List Nat) (es:List (Nat × Nat)) (hR:R r h') (hle:Zd (BJ xs) r)
  (eq:h1=h':=by exact rfl) (he:(match e with|.normal|.ret=>true|_=>false)=true:=by kernel_rfl)
  (hr:J0 P F h fn.results.toList hints=some (xs,es):=by kernel_rfl) (hp:Wu is h=some h1:=by kernel_rfl) (hes:∀p∈es,p.1=p.2:=by simp):C1 P fn R e F h:=
 Nk he hints hr hes ⟨_,eq▸UF (VL hp)⟩ hle hR
def ZC (h0:A .ret F h) (hk:Xo c=8:=by kernel_rfl):YC P n c A F h:=Z6b hk h0
def ie (hB:B F h) (hk:Nat.ble ops.size k=true:=by kernel_rfl):SI P n ops B k F h:=Si hk hB
def io (x' x:AV) (hx:Zd x x') (H:SI P n ops B (k+1) (F.put (ZG ops k).dst x') h) (hk:Xe n ops F k=true:=by kernel_rfl) (he:QX P (ZG ops k) F h 0=some (x,[]):=by kernel_rfl):SI P n ops B k F h:=
 Ze7 x' hk he hx H
def Zo {x:AV} (hs:XH P (ZG ops k) F h [] x) (H:SI P n ops B (k+1) (F.put (ZG ops k).dst x) h) (hk:Xe n ops F k=true:=by kernel_rfl):SI P n ops B k F h:=Da hk hs H
def ia (r s:Int) (H:SI P n ops B (k+1) (F.put (ZG ops k).dst<|.i r) h) (hb:-9223372036854775808<=r/\r<=9223372036854775807:=by omega) (hs:s=r:=by omega)
  (hk:Xe n ops F k=true:=by kernel_rfl) (ha:AC ops F k=some s:=by kernel_rfl):SI P n ops B k F h:=Ze0 r hk ha hs hb H
def ic (is:List Nat) {f:FuncId} {xs:List AV} {h1:List Res} {R:AV->List Res->Prop} (H:Wf P f xs h1 R)
  (hK:∀r h',R r h'->SI P n ops B (k+1) (F.put (ZG ops k).dst r) (h'++XO is h)) (hk:Xe n ops F k=true:=by kernel_rfl) (hc:JO P ops F k=some (f,xs):=by kernel_rfl)
  (hp:Wu is h=some h1:=by kernel_rfl):SI P n ops B k F h:=Ze1 f xs is hk hc (VL hp) H hK
def iA (ls:List AV) (hK:∀b,SI P n ops B (k+1) (F.put (ZG ops k).dst<|.p b 0) (.obj b ls::h)) (hk:Xe n ops F k=true:=by kernel_rfl) (ha:DA P ops F k=some ls:=by kernel_rfl):SI P n ops B k F h:=
 Zdy ls hk ha hK
def iS (j b o:Nat) (xs ls ls':List AV) (H:SI P n ops B (k+1) F (.obj b ls'::XO [j] h)) (hk:Xe n ops F k=true:=by kernel_rfl) (hs:storeAt P ops F k=some (b,o,xs):=by kernel_rfl)
  (hp:Wu [j] h=some [.obj b ls]:=by kernel_rfl) (hle:Nat.ble (o+xs.length) ls.length=true:=by kernel_rfl) (he:ls.take o++xs++ls.drop (o+xs.length)=ls':=by kernel_rfl):SI P n ops B k F h:=
 Ze9 j ls' hk hs (VL hp) hle he H
def iL (es:List AV) (len sz:Nat) (hK:∀v,SI P n ops B (k+1) (F.put (ZG ops k).dst<|.sl es<|some v) (.tail v sz::h)) (hk:Xe n ops F k=true:=by kernel_rfl)
  (ha:Qi P ops F k=some (Zc es,len,sz):=by kernel_rfl) (hlen:es.length=len:=by kernel_rfl) (hall:Bc es sz=true:=by kernel_rfl):SI P n ops B k F h:=Ze5 es hk ha hlen hall hK
def ip (j:Nat) (es' es xs:List AV) (hv:Value) (hx:Option Value) (sz:Nat) (hes:∀y∈es,y.leaves.length=sz) (hxs:∀y∈xs,y.leaves.length=sz)
  (hone:(Zc xs).all AV.one=true) (hbound:es.length+xs.length<=4294967296) (he:es++xs=es') (hK:∀v',SI P n ops B (k+1) (F.put (ZG ops k).dst<|.sl es'<|some v') (.tail v' sz::XO [j] h))
  (hk:Xe n ops F k=true:=by kernel_rfl) (ha:Tf P ops F k=some (.sl es<|some hv,.sl xs hx,sz):=by kernel_rfl) (hp:Wu [j] h=some [.tail hv sz]:=by kernel_rfl):SI P n ops B k F h:=
 Zdz j es' hk ha (VL hp) hes hxs hone hbound he hK
def ib {b:Bool} (t:Nat) (h1:b=true->SI P n ops B k ((t,.b true)::F) h) (h2:b=false->SI P n ops B k ((t,.b false)::F) h) (hF:F.get t=.b b:=by kernel_rfl):SI P n ops B k F h:=Ze8 t hF h1 h2
def dT (m:Nat) (is:List Nat) (F':Fr) (hints bs:List Nat) (H:X3 P n ops B ((Cp P n ops h is done F hints).reverse++T) fuel (done++is) F' h) (hf:m=fuel+is.length:=by kernel_rfl)
  (he:NE P n ops h is done F hints F'=some (F'.map (·.2),bs,bs):=by kernel_rfl) (hs:Region.noSelect ops=true:=by kernel_rfl):X3 P n ops B T m done F h:=Z9j is F' hints bs hs he hf H
def de (hB:B F h) (hr:Region.ready .any ops (Ve ops done)=[]:=by kernel_rfl):X3 P n ops B T fuel done F h:=Z9d hr hB
def Z9 (i:Nat) (H:VY P n ops B T fuel done F h i) (hr:Region.ready .any ops (Ve ops done)=[i]:=by kernel_rfl):X3 P n ops B T (fuel+1) done F h:=Z9g hr H
def dx (i:Nat) {x:AV} (hx:XH P (ZG ops i) F h [] x) (H:X3 P n ops B ((i,[])::T) fuel (done++[i]) (F.put (ZG ops i).dst x) h) (hs:Region.noSelect ops=true:=by kernel_rfl) (hk:Xe n ops F i=true:=by kernel_rfl)
  (hf:Region.free .any ops (Ve ops done) i=true:=by kernel_rfl) (hr:(Region.ready .any ops (Ve ops done)).contains i=true:=by kernel_rfl):X3 P n ops B T (fuel+1) done F h:=GJ i hs hk hf hr hx H
def dn (i:Nat) (x' x:AV) (hx:Zd x x') (H:X3 P n ops B ((i,[])::T) fuel (done++[i]) (F.put (ZG ops i).dst x') h) (he:QX P (ZG ops i) F h 0=some (x,[]):=by kernel_rfl) (hs:Region.noSelect ops=true:=by kernel_rfl) (hk:Xe n ops F i=true:=by kernel_rfl)
  (hf:Region.free .any ops (Ve ops done) i=true:=by kernel_rfl) (hr:(Region.ready .any ops (Ve ops done)).contains i=true:=by kernel_rfl):X3 P n ops B T (fuel+1) done F h:=Z9f i x' hs hk hf hr he hx H
def da (i:Nat) (r s:Int) (H:X3 P n ops B ((i,[])::T) fuel (done++[i]) (F.put (ZG ops i).dst<|.i r) h) (hb:-9223372036854775808<=r/\r<=9223372036854775807:=by omega) (hse:s=r:=by omega)
  (ha:AC ops F i=some s:=by kernel_rfl) (hs:Region.noSelect ops=true:=by kernel_rfl) (hk:Xe n ops F i=true:=by kernel_rfl)
  (hf:Region.free .any ops (Ve ops done) i=true:=by kernel_rfl) (hr:(Region.ready .any ops (Ve ops done)).contains i=true:=by kernel_rfl):X3 P n ops B T (fuel+1) done F h:=Z99 i r hs hk hf hr ha hse hb H
def dc (i:Nat) (is js bs:List Nat) {f:FuncId} {xs:List AV} {h1:List Res} {R:AV->List Res->Prop} (H:Wf P f xs h1 R)
  (hK:∀r h',R r h'->X3 P n ops B (T.filter fun t=>!Vq ops i t.1) fuel (done++[i]) (F.put (ZG ops i).dst r) (h'++XO is h))
  (hk:Xe n ops F i=true:=by kernel_rfl) (hc:JO P ops F i=some (f,xs):=by kernel_rfl)
  (hp:Wu is h=some h1:=by kernel_rfl) (ho:UE ops i T=bs:=by kernel_rfl) (hj:js.map (fun j=>(V3<|XO is h)[j]?)=bs.map some:=by kernel_rfl):VY P n ops B T fuel done F h i:=
 Z9a i f xs is js bs hk hc (VL hp) ho hj H hK
def dA (i:Nat) (js bs:List Nat) (ls:List AV) (hK:∀b,X3 P n ops B (T.filter fun t=>!Vq ops i t.1) fuel (done++[i]) (F.put (ZG ops i).dst<|.p b 0) (.obj b ls::h))
  (hk:Xe n ops F i=true:=by kernel_rfl) (ha:DA P ops F i=some ls:=by kernel_rfl) (ho:UE ops i T=bs:=by kernel_rfl) (hj:js.map (fun j=>(V3 h)[j]?)=bs.map some:=by kernel_rfl):VY P n ops B T fuel done F h i:=
 Z97 i js bs ls hk ha ho hj hK
def dL (i:Nat) (js bs:List Nat) (es:List AV) (len sz:Nat) (hK:∀v,X3 P n ops B (T.filter fun t=>!Vq ops i t.1) fuel (done++[i]) (F.put (ZG ops i).dst<|.sl es<|some v) (.tail v sz::h))
  (hk:Xe n ops F i=true:=by kernel_rfl) (ha:Qi P ops F i=some (Zc es,len,sz):=by kernel_rfl) (hlen:es.length=len:=by kernel_rfl) (hall:Bc es sz=true:=by kernel_rfl)
  (ho:UE ops i T=bs:=by kernel_rfl) (hj:js.map (fun j=>(V3 h)[j]?)=bs.map some:=by kernel_rfl):VY P n ops B T fuel done F h i:=
 Z9e i js bs es hk ha hlen hall ho hj hK
def dp (i j:Nat) (js bs:List Nat) (es' es xs:List AV) (hv:Value) (hx:Option Value) (sz:Nat) (hes:∀y∈es,y.leaves.length=sz) (hxs:∀y∈xs,y.leaves.length=sz)
  (hone:(Zc xs).all AV.one=true) (hbound:es.length+xs.length<=4294967296) (he:es++xs=es')
  (hK:∀v',X3 P n ops B (T.filter fun t=>!Vq ops i t.1) fuel (done++[i]) (F.put (ZG ops i).dst<|.sl es'<|some v') (.tail v' sz::XO [j] h))
  (hk:Xe n ops F i=true:=by kernel_rfl) (ha:Tf P ops F i=some (.sl es<|some hv,.sl xs hx,sz):=by kernel_rfl) (hp:Wu [j] h=some [.tail hv sz]:=by kernel_rfl)
  (ho:UE ops i T=bs:=by kernel_rfl) (hj:js.map (fun q=>(V3<|XO [j] h)[q]?)=bs.map some:=by kernel_rfl):VY P n ops B T fuel done F h i:=
 Z98 i j js bs es' hk ha (VL hp) hes hxs hone hbound he ho hj hK
def dS (i j:Nat) (js bs:List Nat) (b o:Nat) (xs ls ls':List AV) (H:X3 P n ops B (T.filter fun t=>!Vq ops i t.1) fuel (done++[i]) F (.obj b ls'::XO [j] h))
  (hk:Xe n ops F i=true:=by kernel_rfl) (hs:storeAt P ops F i=some (b,o,xs):=by kernel_rfl)
  (hp:Wu [j] h=some [.obj b ls]:=by kernel_rfl) (hle:Nat.ble (o+xs.length) ls.length=true:=by kernel_rfl) (he:ls.take o++xs++ls.drop (o+xs.length)=ls':=by kernel_rfl) (ho:UE ops i T=bs:=by kernel_rfl)
  (hj:js.map (fun q=>(V3<|XO [j] h)[q]?)=bs.map some:=by kernel_rfl):VY P n ops B T fuel done F h i:=
 Z9i i j js bs ls' hk hs (VL hp) hle he ho hj H
def db {b:Bool} (t:Nat) (h1:b=true->X3 P n ops B T fuel done ((t,.b true)::F) h) (h2:b=false->X3 P n ops B T fuel done ((t,.b false)::F) h) (hF:F.get t=.b b:=by kernel_rfl):X3 P n ops B T fuel done F h:=Z9h t hF h1 h2
def rz:([]:List Res)=[]:=rfl
def rc {x:Res} {t t':List Res} (e:t=t'):x::t=x::t':=e▸rfl
def rv {g:Hd} {xs xs':LI} {t t':List Res} (h:xs=xs') (e:t=t'):rV g xs::t=rV g xs'::t':=h▸e▸rfl
def I7 {v:Value} {ls:List AV} (H:∀g:Hd,v=g.v->SI P n ops B k F (.vec v ls::h)):SI P n ops B k F (.vec v ls::h):=by
 intro Q w G a hF hh;obtain ⟨a',cap,rfl⟩:=C3.form (hh.ok _ (Xn ..));exact H ⟨a',_,cap⟩ rfl Q w G a hF hh
def Z9r {v:Value} {ls:List AV} (H:∀g:Hd,v=g.v->X3 P n ops B T fuel done F (.vec v ls::h)):X3 P n ops B T fuel done F (.vec v ls::h):=by
 intro Q w G a SL hF hh;obtain ⟨a',cap,rfl⟩:=C3.form (hh.ok _ (Xn ..));exact H ⟨a',_,cap⟩ rfl Q w G a SL hF hh
def XH.le {o:Oper} {x y:AV} {ks:List Nat} (hs:XH P o F h ks x) (hx:Zd x y):XH P o F h ks y:=by
 intro n w G a hF hh;obtain ⟨v,h1,h2⟩:=hs n w G a hF hh;exact ⟨v,hx _ _ _ h1,h2⟩
def Aa (j:Nat) (v:Hd) (xs:LI) (hl:Eg P ops F k=some (.h v):=by kernel_rfl) (hj:h[j]? = some (rV v xs):=by kernel_rfl):XH P (ZG ops k) F h [] (.i xs.length):=by
 have:=Zmw (P:=P) (F:=F) j hl hj
 rwa [Yg] at this
def Wg (j:Nat) (v:Hd) (xs:LI) (i:Int) (q:Nat) (h0:0<=i/\i<xs.length:=by omega) (hq:i.toNat=q:=by omega) (hi:Ch P ops F k=some (.h v,i,1):=by kernel_rfl) (hj:h[j]? = some (rV v xs):=by kernel_rfl) :
  XH P (ZG ops k) F h [] (.val<|.pointer<|some ⟨Kw v.v,q,none⟩):=by
 have:=Zmv (P:=P) (F:=F) j hi hj h0.1 (by rw [Yg];exact h0.2)
 rwa [hq] at this
def VO (j:Nat) (v:Hd) (xs:LI) (q:Nat) (y:Int) (hy:xs[q]? = some y) (hl:MV P ops F k=some (.val<|.pointer<|some ⟨Kw v.v,q,none⟩):=by kernel_rfl) (hj:h[j]? = some (rV v xs):=by kernel_rfl) :
  XH P (ZG ops k) F h [Kw v.v] (.i y):=Zmx (P:=P) (F:=F) j hl hj (Y3 hy)
def WW {ks:List Nat} {x:AV} (hs:XH P (ZG ops k) F h ks x) (H:SI P n ops B (k+1) (F.put (ZG ops k).dst x) h) (hk:Xe n ops F k=true:=by kernel_rfl):SI P n ops B k F h:=Da hk hs H
def Us (i:Nat) {ks:List Nat} {x:AV} (hx:XH P (ZG ops i) F h ks x) (H:X3 P n ops B ((i,ks)::T) fuel (done++[i]) (F.put (ZG ops i).dst x) h) (hs:Region.noSelect ops=true:=by kernel_rfl) (hk:Xe n ops F i=true:=by kernel_rfl)
  (hf:Region.free .any ops (Ve ops done) i=true:=by kernel_rfl) (hr:(Region.ready .any ops (Ve ops done)).contains i=true:=by kernel_rfl):X3 P n ops B T (fuel+1) done F h:=GJ i hs hk hf hr hx H
def J5 (j:Nat) (v:Hd) (xs:LI) (m:Nat) (hle:m<=xs.length:=by omega) (hi:Ew P ops F k=some (.h v,(m:Int)):=by kernel_rfl) (hj:h[j]? = some (rV v xs):=by kernel_rfl) :
  XH P (ZG ops k) F h [] (.h<|v.cut m):=Zmy (P:=P) (F:=F) j hi hj (by rw [Yg];exact hle)
def D9 (j:Nat) (v:Hd) (xs:LI) (q:Nat) (y:Int) (H:SI P n ops B (k+1) F (rV v (xs.set q y)::XO [j] h)) (hlt:q<xs.length:=by omega) (hk:Xe n ops F k=true:=by kernel_rfl)
  (hs:storeAt P ops F k=some (Kw v.v,q,[.i y]):=by kernel_rfl) (hp:Wu [j] h=some [rV v xs]:=by kernel_rfl):SI P n ops B k F h:=
 Zec j _ hk hs (VL hp) (by rw [Yg];exact hlt) (Z3o _ _ _) H
def Al (i j:Nat) (js bs:List Nat) (v:Hd) (xs:LI) (q:Nat) (y:Int) (H:X3 P n ops B (T.filter fun t=>!Vq ops i t.1) fuel (done++[i]) F (rV v (xs.set q y)::XO [j] h)) (hlt:q<xs.length:=by omega)
  (hk:Xe n ops F i=true:=by kernel_rfl)
  (hs:storeAt P ops F i=some (Kw v.v,q,[.i y]):=by kernel_rfl) (hp:Wu [j] h=some [rV v xs]:=by kernel_rfl) (ho:UE ops i T=bs:=by kernel_rfl)
  (hj:js.map (fun q=>(V3<|XO [j] h)[q]?)=bs.map some:=by kernel_rfl):VY P n ops B T fuel done F h i:=
 Z9l i j js bs _ hk hs (VL hp) (by rw [Yg];exact hlt) (Z3o _ _ _) ho hj H
def KR (j:Nat) (v:Hd) (xs ys:LI) (hx:Option Value) (hK:∀v',SI P n ops B (k+1) (F.put (ZG ops k).dst<|.h v') (rV v' (xs++ys)::XO [j] h)) (hbound:xs.length+ys.length<=4294967296:=by simp<;>omega)
  (hk:Xe n ops F k=true:=by kernel_rfl) (ha:Tf P ops F k=some (.h v,.sl (Z7 ys) hx,1):=by kernel_rfl) (hp:Wu [j] h=some [rV v xs]:=by kernel_rfl):SI P n ops B k F h:=
 Zea j _ hk ha (VL hp) (MM _) (Z1f _) (by simpa using hbound) (Wj _ _).symm fun v'=>I7 fun g hg=>by subst hg;exact hK g
def dVP (i j:Nat) (js bs:List Nat) (v:Hd) (xs ys:LI) (hx:Option Value) (hK:∀v',X3 P n ops B (T.filter fun t=>!Vq ops i t.1) fuel (done++[i]) (F.put (ZG ops i).dst<|.h v') (rV v' (xs++ys)::XO [j] h))
  (hbound:xs.length+ys.length<=4294967296:=by simp<;>omega) (hk:Xe n ops F i=true:=by kernel_rfl) (ha:Tf P ops F i=some (.h v,.sl (Z7 ys) hx,1):=by kernel_rfl) (hp:Wu [j] h=some [rV v xs]:=by kernel_rfl)
  (ho:UE ops i T=bs:=by kernel_rfl) (hj:js.map (fun q=>(V3<|XO [j] h)[q]?)=bs.map some:=by kernel_rfl):VY P n ops B T fuel done F h i:=
 Z9k i j js bs _ hk ha (VL hp) (MM _) (Z1f _) (by simpa using hbound) (Wj _ _).symm ho hj fun v'=>Z9r fun g hg=>by subst hg;exact hK g
def Mr (xs:LI) (len:Nat) (hK:∀v,SI P n ops B (k+1) (F.put (ZG ops k).dst<|.h v) (rV v xs::h)) (hk:Xe n ops F k=true:=by kernel_rfl) (ha:Qi P ops F k=some (Z7 xs,len,1):=by kernel_rfl)
  (hlen:xs.length=len:=by kernel_rfl):SI P n ops B k F h:=Ze6 _ hk ha (by rw [Yg];exact hlen) fun v'=>I7 fun g hg=>by subst hg;exact hK g
def Dw (R:AV->List Res->Prop):Prop:=∀r h',R r h'->J9 h' r/\∀q∈h',Dx q
def DI {x:Value}:Dw fun r h=>r=.val x/\h=[]:=by rintro _ _ ⟨rfl,rfl⟩;exact ⟨.val,by simp⟩
def Jh {xs:LI}:Dw fun r h=>∃v:Hd,r=.h v/\h=[rV v xs]:=by
 rintro _ _ ⟨v,rfl,rfl⟩;exact ⟨.val,by simpa [Dx] using Ip xs⟩
def Sh (is:List Nat) {f:FuncId} {as1 xs:List AV} {h1:List Res} (bs:List Res) {R:AV->List Res->Prop} (H:Wf P f xs h1 R) (hcl:Dw R) (hargs:Te bs as1 xs)
  (hb:∀r∈bs,∃v ls,r=.vec v ls/\∀y∈ls,∃u,y=.val u)
  (hK:∀r h',R r h'->SI P n ops B (k+1) (F.put (ZG ops k).dst r) (h'++(bs++XO is h))) (hk:Xe n ops F k=true:=by kernel_rfl) (hc:JO P ops F k=some (f,as1):=by kernel_rfl)
  (hp:Wu is h=some (h1++bs):=by kernel_rfl):SI P n ops B k F h:=
 Ze2 f as1 xs is bs hk hc (VL hp) H hargs hb hcl fun r h' hr=>by rw [Uq];exact hK r h' hr
def TC (i:Nat) (is js ks:List Nat) {f:FuncId} {as1 xs:List AV} {h1:List Res} (bs:List Res) {R:AV->List Res->Prop} (H:Wf P f xs h1 R) (hcl:Dw R) (hargs:Te bs as1 xs)
  (hb:∀r∈bs,∃v ls,r=.vec v ls/\∀y∈ls,∃u,y=.val u)
  (hK:∀r h',R r h'->X3 P n ops B (T.filter fun t=>!Vq ops i t.1) fuel (done++[i]) (F.put (ZG ops i).dst r) (h'++(bs++XO is h)))
  (hk:Xe n ops F i=true:=by kernel_rfl) (hc:JO P ops F i=some (f,as1):=by kernel_rfl)
  (hp:Wu is h=some (h1++bs):=by kernel_rfl) (ho:UE ops i T=ks:=by kernel_rfl) (hj:js.map (fun j=>(V3<|XO is h)[j]?)=ks.map some:=by kernel_rfl):VY P n ops B T fuel done F h i:=
 Z9b i f as1 xs is js ks bs hk hc (VL hp) ho hj H hargs hb hcl fun r h' hr=>by rw [Uq];exact hK r h' hr
def gN {bs:List Res}:Te bs [] []:=.nil
def Z0v {bs:List Res} {r:Res} (i:Nat) (h:bs[i]? = some r):r∈bs:=Y0 h
def gS {bs:List Res} {x:AV} {as1 xs:List AV} (t:Te bs as1 xs):Te bs (x::as1) (x::xs):=.same t
def gL {bs:List Res} {v:Hd} {ys:LI} {as1 xs:List AV} (i:Nat) (t:Te bs as1 xs) (h:bs[i]? = some (rV v ys):=by kernel_rfl):Te bs (.h v::as1) (Z5 ys::xs):=.lent (Z0v i h) t
def gC {bs:List Res} {v:Hd} {ys:LI} {as1 xs:List AV} (i m:Nat) (t:Te bs as1 xs) (hm:m<=ys.length:=by omega) (h:bs[i]? = some (rV v ys):=by kernel_rfl) :
  Te bs (.h (v.cut m)::as1) (Z5 (ys.take m)::xs):=by
 have:=Te.cut (Z0v i h) (m:=m) (by rw [Yg];exact hm) t
 rwa [An] at this
def Z5a (j b':Nat) (ls ls':List AV) (hle:Vo ls ls') (hp:Wu [j] h=some [.obj b' ls]:=by kernel_rfl):TN h (.obj b' ls'::XO [j] h):=by
 intro w G hh;have hp':=UF (VL hp);have hh':=hh.perm hp';have hpw:=Vb.1 hh'.apart;refine ⟨G,⟨fun r hr=>?_,Vb.2 ⟨fun r hr=>hpw.1 r hr,hpw.2⟩,fun r hr=>?_,hh'.lt⟩,?_⟩
 .rcases YM.1 hr with rfl|hr
  .obtain ⟨cs,e,h1,h2⟩:=hh'.ok _ (Xn ..);exact ⟨cs,e,h1,Vo.cs hle h2⟩
  .exact hh'.ok r<|XF _ hr
 .rcases YM.1 hr with rfl|hr
  .exact fun b o hf hg=>hh'.prot (.obj b' ls) (Xn ..) b o hf hg
  .exact hh'.prot r<|XF _ hr
 .refine ⟨U,U,U,X8 _,fun _ _ h=>h,fun _ _=>.inl rfl,fun _ _ _ h=>.inl h,?_⟩;rintro b2 o _ ⟨r,hr,hf⟩;rw [Cd hp'];rcases YM.1 hr with rfl|hr
  .exact ⟨_,Xn ..,hf⟩
  .exact ⟨r,XF _ hr,hf⟩
def Zd.hd {es:List AV} {v:Hd}:Zd (.sl es<|some v.v) (.h v):=by
 intro w G u h
 cases h with
 | nil hh=>rw [<-hh _ rfl];exact .val
 | sl hh _ _=>rw [<-hh _ rfl];exact .val
def Do (j m:Nat) (v:Hd) (xs:LI) (hle:m<=xs.length:=by omega) (hp:Wu [j] h=some [rV v xs]:=by kernel_rfl):TN h (rV (v.cut m) (xs.take m)::XO [j] h):=by
 have:=Zng (h:=h) j m (VL hp) (by rw [Yg];exact hle)
 rwa [An] at this
def A8:TN h (rV hN []::h):=Znf
def JP {h':List Res} (ht:TN h h') (H:X3 P n ops B T fuel done F h'):X3 P n ops B T fuel done F h:=by
 intro Q w G a SL hF hh hQ hcl hcov hk;obtain ⟨G',h1,h2⟩:=ht w G hh;exact H Q w G' a SL (hF.mono (h2.agree hh)) h1 hQ hcl (fun p hp=>let ⟨t,ht,e,f⟩:=hcov p hp;⟨t,ht,e,fun w' hw hb=>f w' (fun b o hg=>hw b o (h2.sub b o hg)) hb⟩)
  fun F2 h2' G2 a2 w2 b1 b2 b3 b4=>hk F2 h2' G2 a2 w2 b1 b2 b3<|h2.trans b4
end
end Go.Abs
namespace Go.Abs
section
variable {P:Program} {n:Nat} {ops:Array Oper} {B:Fr->List Res->Prop} {k:Nat} {F:Fr} {h:List Res}
variable {T:List (Nat × List Nat)} {fuel:Nat} {done:List Nat} {c:Code} {A:Vh}
def qF (P:Program) (n:Nat) (ops:Array Oper) (h:List Res) (k m:Nat) (F:Fr) (hints:List Nat):Fr:=
 match Kr P n ops h m (ops.toList.drop k) F hints with|some (_,F1,_)=>F1|none=>F
def qA (P:Program) (n:Nat) (ops:Array Oper) (h:List Res) (k m:Nat) (F:Fr) (hints:List Nat):List Nat:=
 match Kr P n ops h m (ops.toList.drop k) F hints with|some (_,_,es)=>es.map (·.1)|none=>[0]
def qB (P:Program) (n:Nat) (ops:Array Oper) (h:List Res) (k m:Nat) (F:Fr) (hints:List Nat):List Nat:=
 match Kr P n ops h m (ops.toList.drop k) F hints with|some (_,_,es)=>es.map (·.2)|none=>[1]
def ZL (m:Nat) (hints:List Nat) (H:SI P n ops B (k+m) (qF P n ops h k m F hints) h) (he:qA P n ops h k m F hints=qB P n ops h k m F hints:=by kernel_rfl):SI P n ops B k F h:=by
 unfold qA qB at he;unfold qF at H
 cases hr:Kr P n ops h m (ops.toList.drop k) F hints with
 | none=>rw [hr] at he;cases he
 | some y=>
  obtain ⟨l,F1,es⟩:=y;rw [hr] at he H;have hd:=NF m hr;rw [List.drop_drop] at hd;refine NH m hr (N9 he) ?_;rw [hd];exact H
def Z1 (m:Nat) (H:SI P n ops B (k+m) (qF P n ops h k m F []) h) (he:qA P n ops h k m F []=qB P n ops h k m F []:=by kernel_rfl):SI P n ops B k F h:=ZL m [] H he
def U6 (hints:List Nat) (H:B (qF P n ops h k (ops.size-k) F hints) h) (he:qA P n ops h k (ops.size-k) F hints=qB P n ops h k (ops.size-k) F hints:=by kernel_rfl):SI P n ops B k F h:=
 ZL (ops.size-k) hints (Si (Nat.ble_eq_true_of_le om) H) he
def Z0 (H:B (qF P n ops h k (ops.size-k) F []) h) (he:qA P n ops h k (ops.size-k) F []=qB P n ops h k (ops.size-k) F []:=by kernel_rfl):SI P n ops B k F h:=U6 [] H he
def Di (P:Program) (n:Nat) (ops:Array Oper) (h:List Res) (is done:List Nat) (F:Fr) (hints:List Nat):Fr:=
 match J1 P n ops h is done F hints with|some (F1,_)=>F1|none=>F
def FM (P:Program) (n:Nat) (ops:Array Oper) (h:List Res) (is done:List Nat) (F:Fr) (hints:List Nat):List Nat:=
 match J1 P n ops h is done F hints with|some (_,es)=>es.flatMap (fun e=>e.2.map (·.1))|none=>[0]
def FP (P:Program) (n:Nat) (ops:Array Oper) (h:List Res) (is done:List Nat) (F:Fr) (hints:List Nat):List Nat:=
 match J1 P n ops h is done F hints with|some (_,es)=>es.flatMap (fun e=>e.2.map (·.2))|none=>[1]
def ZJ (f m:Nat) (is hints:List Nat) (H:X3 P n ops B ((Cp P n ops h is done F hints).reverse++T) f (done++is) (Di P n ops h is done F hints) h) (hf:m=f+is.length:=by kernel_rfl)
  (he:FM P n ops h is done F hints=FP P n ops h is done F hints:=by kernel_rfl) (hs:Region.noSelect ops=true:=by kernel_rfl):X3 P n ops B T m done F h:=by
 unfold FM FP at he;unfold Cp Di at H
 cases hr:J1 P n ops h is done F hints with
 | none=>rw [hr] at he;cases he
 | some y=>
  obtain ⟨F1,es⟩:=y;rw [hr] at he H;exact GI is hs hr (Na he) hf H
def Zi (f m:Nat) (is:List Nat) (H:X3 P n ops B ((Cp P n ops h is done F []).reverse++T) f (done++is) (Di P n ops h is done F []) h) (hf:m=f+is.length:=by kernel_rfl)
  (he:FM P n ops h is done F []=FP P n ops h is done F []:=by kernel_rfl) (hs:Region.noSelect ops=true:=by kernel_rfl):X3 P n ops B T m done F h:=ZJ f m is [] H hf he hs
def FH (ov F:Fr):Fr:=ov++F
def M4 {F':Fr} (hr:F.Le F'):∀(ov:Fr),ov.map (fun p=>(F.get p.1).like p.2)=ov.map (·.2)->F.Le (FH ov F')
 | [],_=>hr
 | (t,y)::ov,he=>by
  simp only [Uh,List.cons.injEq] at he;have h1:F.Le [(t,y)]:=M3 (by simp [he.1]);intro w G v s hv;have h2:=h1 w G v s hv;have h3:=M4 hr ov he.2 w G v s hv;show RV w G (match Nat.beq t s with|true=>y|false=>Fr.get (ov++F') s) v
  change RV w G (match Nat.beq t s with|true=>y|false=>Fr.get [] s) v at h2
  cases hq:Nat.beq t s with
  | true=>rw [hq] at h2;exact h2
  | false=>exact h3
def Kq (m:Nat) (ov:Fr) (hints:List Nat) (H:SI P n ops B (k+m) (FH ov<|qF P n ops h k m F hints) h) (he:qA P n ops h k m F hints=qB P n ops h k m F hints:=by kernel_rfl)
  (ho:ov.map (fun p=>((qF P n ops h k m F hints).get p.1).like p.2)=ov.map (·.2):=by kernel_rfl):SI P n ops B k F h:=
 ZL m hints (I5 (h':=h) ⟨M4 (Fr.Le.refl _) ov ho,[],by simp⟩ H) he
def ZY (m:Nat) (ov:Fr) (H:SI P n ops B (k+m) (FH ov<|qF P n ops h k m F []) h) (he:qA P n ops h k m F []=qB P n ops h k m F []:=by kernel_rfl)
  (ho:ov.map (fun p=>((qF P n ops h k m F []).get p.1).like p.2)=ov.map (·.2):=by kernel_rfl):SI P n ops B k F h:=Kq m ov [] H he ho
def DM (f m:Nat) (is:List Nat) (ov:Fr) (hints:List Nat) (H:X3 P n ops B ((Cp P n ops h is done F hints).reverse++T) f (done++is) (FH ov<|Di P n ops h is done F hints) h) (hf:m=f+is.length:=by kernel_rfl)
  (he:FM P n ops h is done F hints=FP P n ops h is done F hints:=by kernel_rfl) (hs:Region.noSelect ops=true:=by kernel_rfl)
  (ho:ov.map (fun p=>((Di P n ops h is done F hints).get p.1).like p.2)=ov.map (·.2):=by kernel_rfl):X3 P n ops B T m done F h:=
 ZJ f m is hints (GK (M4 (Fr.Le.refl _) ov ho) H) hf he hs
def Yw (f m:Nat) (is:List Nat) (ov:Fr) (H:X3 P n ops B ((Cp P n ops h is done F []).reverse++T) f (done++is) (FH ov<|Di P n ops h is done F []) h) (hf:m=f+is.length:=by kernel_rfl)
  (he:FM P n ops h is done F []=FP P n ops h is done F []:=by kernel_rfl) (hs:Region.noSelect ops=true:=by kernel_rfl)
  (ho:ov.map (fun p=>((Di P n ops h is done F []).get p.1).like p.2)=ov.map (·.2):=by kernel_rfl):X3 P n ops B T m done F h:=DM f m is ov [] H hf he hs ho
def sF (ts:List Nat) (F ov:Fr):Fr:=ov++ts.map fun t=>(t,F.get t)
def Ze (h:List Res) (i:Nat):Res:=match h[i]? with|some r=>r|none=>.tail Z0z 0
def Y2 (Inv:Fr->List Res->Nat->Fr->List Res->Prop) (m0:Nat) (F0:Fr) (h0:List Res) (hi:Inv F h m0 F0 h0) (hw:Q9 F h F0 h0)
  (hr:∀m F' h',Inv F h m F' h'->YC P n (YU c) (MX (Inv F h) m A) F' h') (hk:Xo c=6:=by kernel_rfl):YC P n c A F h:=al (Inv F h) m0 F0 h0 hi hw hr hk
def XY {y:Code} (K:Fr->List Res->Fr->List Res->Prop) (H:YC P n c (GH (K F h) A) F h) (hB:∀F' h',K F h F' h'->YC P n y A F' h'):YC P n c (CE P n y A) F h:=Z66 (K F h) H hB
def Ak {y:Code} {A2:Vh} (K:Fr->List Res->Fr->List Res->Prop) (hA:∀F h,A .normal F h=YC P n y A2 F h) (H:YC P n c (GH (K F h) A) F h) (hB:∀F' h',K F h F' h'->YC P n y A2 F' h'):YC P n c A F h:=Z65 (K F h) hA H hB
def Xu {c:Code} {A:Vh} (ts:List Nat) (ov:Fr) (K:List Res->List Res) (H:SI P n ops (fun F1 h1=>Q9 F1 h1 (sF ts F ov)<|K h) k F h) (hB:YC P n c A (sF ts F ov) (K h)):SI P n ops (fun F h=>YC P n c A F h) k F h:=Ze4 (sF ts F ov) (K h) H hB
def AH {c:Code} {A:Vh} (ts:List Nat) (ov:Fr) (K:List Res->List Res) (H:X3 P n ops (fun F1 h1=>Q9 F1 h1 (sF ts F ov)<|K h) T fuel done F h) (hB:YC P n c A (sF ts F ov) (K h)):X3 P n ops (fun F h=>YC P n c A F h) T fuel done F h:=Z9c (sF ts F ov) (K h) H hB
def XD (k2:Nat) (ts:List Nat) (ov:Fr) (K:List Res->List Res) (J:SI P n ops B k2 (sF ts F ov) (K h)) (H:SI P n ops B k2 (sF ts F ov) (K h)->SI P n ops B k F h):SI P n ops B k F h:=H J
end
end Go.Abs
namespace Go.Abs
def fw {F F':Fr} {t u:Nat} {x y:AV} (hr:F.Le F') (hx:F.get t=x:=by kernel_rfl) (hy:F.get u=y:=by kernel_rfl):F.Le ((t,x)::(u,y)::F'):=fr (fr hr hy) hx
def fq {F F':Fr} {t u v w:Nat} {x y z q:AV} (hr:F.Le F') (hx:F.get t=x:=by kernel_rfl) (hy:F.get u=y:=by kernel_rfl) (hz:F.get v=z:=by kernel_rfl) (hq:F.get w=q:=by kernel_rfl):F.Le ((t,x)::(u,y)::(v,z)::(w,q)::F'):=fw (fw hr hz hq) hx hy
section
variable {P:Program} {n:Nat} {ops:Array Oper} {B:Fr->List Res->Prop} {k:Nat} {F:Fr} {h:List Res}
def iw {a b:Nat} (e:a=b) (H:SI P n ops B (k+1) (F.put (ZG ops k).dst<|.i b) h) (hk:Xe n ops F k=true:=by kernel_rfl) (he:QX P (ZG ops k) F h 0=some (.i a,[]):=by kernel_rfl):SI P n ops B k F h:=io (.i b) (.i a) (li<|by rw [e]) H hk he
def dw (i:Nat) {T:List (Nat×List Nat)} {fuel:Nat} {done:List Nat} {a b:Nat} (e:a=b) (H:X3 P n ops B ((i,[])::T) fuel (done++[i]) (F.put (ZG ops i).dst<|.i b) h) (he:QX P (ZG ops i) F h 0=some (.i a,[]):=by kernel_rfl) (hs:Region.noSelect ops=true:=by kernel_rfl) (hk:Xe n ops F i=true:=by kernel_rfl)
 (hf:Region.free .any ops (Ve ops done) i=true:=by kernel_rfl) (hr:(Region.ready .any ops (Ve ops done)).contains i=true:=by kernel_rfl):X3 P n ops B T (fuel+1) done F h:=dn i (.i b) (.i a) (li<|by rw [e]) H he hs hk hf hr
end
end Go.Abs
namespace Go.Abs
section
variable {P:Program} {n:Nat} {ops:Array Oper} {B:Fr->List Res->Prop} {k:Nat} {F:Fr} {h:List Res}
variable {T:List (Nat × List Nat)} {fuel:Nat} {done:List Nat} {c:Code} {A:Vh}
def Zl (hv:Option Value) (j:Int) (sz:Nat) {es:List AV} {y:AV} (hget:es[j.toNat]? = some y) (hi:Ch P ops F k=some (.sl es hv,j,sz):=by kernel_rfl) (h0:0<=j:=by omega) (hy:y.leaves.length=sz:=by rfl) :
  XH P (ZG ops k) F h [] (.rp y.leaves):=BP hi h0 hget hy
def Il (P:Program) (ops:Array Oper) (F:Fr) (h:List Res) (j k:Nat):Option (Nat × Nat × List AV):=
 match storeAt P ops F k,Wu [j] h with
 | some (b,o,xs),some [.obj b' ls]=>match Nat.ble (o+xs.length) ls.length with | true=>some (b,b',ls.take o++xs++ls.drop (o+xs.length)) | false=>none
 | _,_=>none
def Z57 {j k b:Nat} {l:List AV} (hs:Il P ops F h j k=some (b,b,l)):∃o xs ls,storeAt P ops F k=some (b,o,xs)/\Wu [j] h=some [.obj b ls]/\Nat.ble (o+xs.length) ls.length=true/\ls.take o++xs++ls.drop (o+xs.length)=l:=by
 unfold Il at hs
 split at hs
 .rename_i b1 o xs b2 ls h1 h2
  split at hs
  .rename_i h3;cases hs;exact ⟨o,xs,ls,h1,h2,h3,U⟩
  .cases hs
 .cases hs
def ZD (j b:Nat) (ls':List AV) (H:SI P n ops B (k+1) F (.obj b ls'::XO [j] h)) (hk:Xe n ops F k=true:=by kernel_rfl) (hs:Il P ops F h j k=some (b,b,ls'):=by kernel_rfl):SI P n ops B k F h:=
 let ⟨_,_,_,h1,h2,h3,h4⟩:=Z57 hs
 iS j b _ _ _ ls' H hk h1 h2 h3 h4
def YO (i j:Nat) (js bs:List Nat) (b:Nat) (ls':List AV) (H:X3 P n ops B (T.filter fun t=>!Vq ops i t.1) fuel (done++[i]) F (.obj b ls'::XO [j] h))
  (hk:Xe n ops F i=true:=by kernel_rfl) (hs:Il P ops F h j i=some (b,b,ls'):=by kernel_rfl) (ho:UE ops i T=bs:=by kernel_rfl)
  (hj:js.map (fun q=>(V3<|XO [j] h)[q]?)=bs.map some:=by kernel_rfl):VY P n ops B T fuel done F h i:=
 let ⟨_,_,_,h1,h2,h3,h4⟩:=Z57 hs
 dS i j js bs b _ _ _ ls' H hk h1 h2 h3 h4 ho hj
def ZI (q:Nat) (H:SI P n ops B (k+1) (F.put (ZG ops k).dst<|.i (q+1:Nat)) h) (hb:-9223372036854775808<=((q+1:Nat):Int)/\((q+1:Nat):Int)<=9223372036854775807:=by omega)
  (hk:Xe n ops F k=true:=by kernel_rfl) (ha:AC ops F k=some ((q:Int)+1):=by kernel_rfl):SI P n ops B k F h:=ia ((q+1:Nat):Int) ((q:Int)+1) H hb om hk ha
def Zx (is:List Nat) {f:FuncId} {xs:List AV} {h1 h2:List Res} {r0:AV} (H:Wf P f xs h1 fun r h=>r=r0/\h=h2) (hK:SI P n ops B (k+1) (F.put (ZG ops k).dst r0) (h2++XO is h))
  (hk:Xe n ops F k=true:=by kernel_rfl) (hc:JO P ops F k=some (f,xs):=by kernel_rfl) (hp:Wu is h=some h1:=by kernel_rfl):SI P n ops B k F h:=
 ic is H (fun r h' hr=>by obtain ⟨rfl,rfl⟩:=hr;exact hK) hk hc hp
def Yu (i:Nat) (is js bs:List Nat) {f:FuncId} {xs:List AV} {h1 h2:List Res} {r0:AV} (H:Wf P f xs h1 fun r h=>r=r0/\h=h2)
  (hK:X3 P n ops B (T.filter fun t=>!Vq ops i t.1) fuel (done++[i]) (F.put (ZG ops i).dst r0) (h2++XO is h))
  (hk:Xe n ops F i=true:=by kernel_rfl) (hc:JO P ops F i=some (f,xs):=by kernel_rfl)
  (hp:Wu is h=some h1:=by kernel_rfl) (ho:UE ops i T=bs:=by kernel_rfl) (hj:js.map (fun j=>(V3<|XO is h)[j]?)=bs.map some:=by kernel_rfl):VY P n ops B T fuel done F h i:=
 dc i is js bs H (fun r h' hr=>by obtain ⟨rfl,rfl⟩:=hr;exact hK) hk hc hp ho hj
def XK (p:Prop) [Decidable p] (h1:p->YC P n (YU c) A F h) (h2:¬p->YC P n (Uv c) A F h) (hk:Xo c=4:=by kernel_rfl) (hc:F.ev (Bd c)=.val (.bool<|decide p):=by kernel_rfl):YC P n c A F h:=
 ac (decide p) decide_eq_true_iff h1 h2 hk hc
def ZB (H:YC P n (Uv c) A (qF P n (XR<|YU c) h 0 ((XR<|YU c).size-0) F []) h) (hk:Xo c=3:=by kernel_rfl) (hk1:Xo (YU c)=1:=by kernel_rfl)
  (he:qA P n (XR<|YU c) h 0 ((XR<|YU c).size-0) F []=qB P n (XR<|YU c) h 0 ((XR<|YU c).size-0) F []:=by kernel_rfl):YC P n c A F h:=ar (Z0 H he) hk hk1
def Bn (hints:List Nat) (H:YC P n (Uv c) A (qF P n (XR<|YU c) h 0 ((XR<|YU c).size-0) F hints) h) (hk:Xo c=3:=by kernel_rfl) (hk1:Xo (YU c)=1:=by kernel_rfl)
  (he:qA P n (XR<|YU c) h 0 ((XR<|YU c).size-0) F hints=qB P n (XR<|YU c) h 0 ((XR<|YU c).size-0) F hints:=by kernel_rfl):YC P n c A F h:=ar (U6 hints H he) hk hk1
def TD (H:A .normal (qF P n (XR c) h 0 ((XR c).size-0) F []) h) (hk:Xo c=1:=by kernel_rfl) (he:qA P n (XR c) h 0 ((XR c).size-0) F []=qB P n (XR c) h 0 ((XR c).size-0) F []:=by kernel_rfl):YC P n c A F h:=az (Z0 H he) hk
def Y5 (m:Nat) (H:SI P n (XR<|YU c) (fun F h=>YC P n (Uv c) A F h) (0+m) (qF P n (XR<|YU c) h 0 m F []) h) (hk:Xo c=3:=by kernel_rfl) (hk1:Xo (YU c)=1:=by kernel_rfl)
  (he:qA P n (XR<|YU c) h 0 m F []=qB P n (XR<|YU c) h 0 m F []:=by kernel_rfl):YC P n c A F h:=ar (Z1 m H he) hk hk1
def Zt (m:Nat) (hints:List Nat) (H:SI P n (XR<|YU c) (fun F h=>YC P n (Uv c) A F h) (0+m) (qF P n (XR<|YU c) h 0 m F hints) h) (hk:Xo c=3:=by kernel_rfl) (hk1:Xo (YU c)=1:=by kernel_rfl)
  (he:qA P n (XR<|YU c) h 0 m F hints=qB P n (XR<|YU c) h 0 m F hints:=by kernel_rfl):YC P n c A F h:=ar (ZL m hints H he) hk hk1
def X6 (hs:SI P n (XR<|YU<|YU c) (fun F h=>YC P n (Uv<|YU c) (CE P n (Uv c) A) F h) 0 F h) (hk:Xo c=3:=by kernel_rfl) (hk0:Xo (YU c)=3:=by kernel_rfl) (hk1:Xo (YU<|YU c)=1:=by kernel_rfl):YC P n c A F h:=
 aq (ar hs hk0 hk1) hk
def YE (m:Nat) (H:SI P n (XR<|YU<|YU c) (fun F h=>YC P n (Uv<|YU c) (CE P n (Uv c) A) F h) (0+m) (qF P n (XR<|YU<|YU c) h 0 m F []) h) (hk:Xo c=3:=by kernel_rfl) (hk0:Xo (YU c)=3:=by kernel_rfl) (hk1:Xo (YU<|YU c)=1:=by kernel_rfl)
  (he:qA P n (XR<|YU<|YU c) h 0 m F []=qB P n (XR<|YU<|YU c) h 0 m F []:=by kernel_rfl):YC P n c A F h:=X6 (Z1 m H he) hk hk0 hk1
def Yh (m:Nat) (hints:List Nat) (H:SI P n (XR<|YU<|YU c) (fun F h=>YC P n (Uv<|YU c) (CE P n (Uv c) A) F h) (0+m) (qF P n (XR<|YU<|YU c) h 0 m F hints) h) (hk:Xo c=3:=by kernel_rfl) (hk0:Xo (YU c)=3:=by kernel_rfl) (hk1:Xo (YU<|YU c)=1:=by kernel_rfl)
  (he:qA P n (XR<|YU<|YU c) h 0 m F hints=qB P n (XR<|YU<|YU c) h 0 m F hints:=by kernel_rfl):YC P n c A F h:=X6 (ZL m hints H he) hk hk0 hk1
def Yj (H:YC P n (Uv<|YU c) (CE P n (Uv c) A) (qF P n (XR<|YU<|YU c) h 0 ((XR<|YU<|YU c).size-0) F []) h) (hk:Xo c=3:=by kernel_rfl) (hk0:Xo (YU c)=3:=by kernel_rfl) (hk1:Xo (YU<|YU c)=1:=by kernel_rfl)
  (he:qA P n (XR<|YU<|YU c) h 0 ((XR<|YU<|YU c).size-0) F []=qB P n (XR<|YU<|YU c) h 0 ((XR<|YU<|YU c).size-0) F []:=by kernel_rfl):YC P n c A F h:=aq (ZB H hk0 hk1 he) hk
def Zp (h0:A .ret (qF P n ops h k (ops.size-k) F []) h) (hk:Xo c=8:=by kernel_rfl) (he:qA P n ops h k (ops.size-k) F []=qB P n ops h k (ops.size-k) F []:=by kernel_rfl):SI P n ops (fun F h=>YC P n c A F h) k F h:=Z0 (ZC h0 hk) he
def Y4 (p:Prop) [Decidable p] (h1:p->YC P n (YU c) A (qF P n ops h k (ops.size-k) F []) h) (h2:¬p->YC P n (Uv c) A (qF P n ops h k (ops.size-k) F []) h) (hk:Xo c=4:=by kernel_rfl)
  (hc:Fr.ev (qF P n ops h k (ops.size-k) F []) (Bd c)=.val (.bool<|decide p):=by kernel_rfl) (he:qA P n ops h k (ops.size-k) F []=qB P n ops h k (ops.size-k) F []:=by kernel_rfl):SI P n ops (fun F h=>YC P n c A F h) k F h:=Z0 (XK p h1 h2 hk hc) he
def YH (b:Bool) {p:Prop} (hp:b=true↔p) (h1:p->YC P n (YU c) A (qF P n ops h k (ops.size-k) F []) h) (h2:¬p->YC P n (Uv c) A (qF P n ops h k (ops.size-k) F []) h) (hk:Xo c=4:=by kernel_rfl)
  (hc:Fr.ev (qF P n ops h k (ops.size-k) F []) (Bd c)=.val (.bool b):=by kernel_rfl) (he:qA P n ops h k (ops.size-k) F []=qB P n ops h k (ops.size-k) F []:=by kernel_rfl):SI P n ops (fun F h=>YC P n c A F h) k F h:=Z0 (ac b hp h1 h2 hk hc) he
end
abbrev Yr (x:AV):AV->List Res->Prop:=fun r h=>r=x/\h=[]
def Zs {α:Type} (xs:List α) (j:Nat) (h:j<xs.length):∃x,xs[j]? = some x:=Jo h
def EC {P:Program} {F:Fr} {h:List Res} {fn:Func} {e:Exit} {r:AV} (he:(match e with|.normal|.ret=>true|_=>false)=true:=by kernel_rfl) (hr:J0 P F h fn.results.toList []=some ([r],[]):=by kernel_rfl) :
  C1 P fn (fun r' h'=>r'=r/\h'=[]) e F h:=r1 [] ⟨rfl,rfl⟩ rfl he hr
def ZW {P:Program} {F:Fr} {h:List Res} {fn:Func} {e:Exit} {r:AV} (x:AV) (hle:Zd (BJ [x]) r) (he:(match e with|.normal|.ret=>true|_=>false)=true:=by kernel_rfl) (hr:J0 P F h fn.results.toList []=some ([x],[]):=by kernel_rfl) :
  C1 P fn (fun r' h'=>r'=r/\h'=[]) e F h:=r2 [] [x] ⟨rfl,rfl⟩ hle rfl he hr
def ZM (k:Nat) {F F':Fr} {t:Nat} {y:Int} (hr:F.Le F') (hx:F.get t=.i (k+1:Nat):=by kernel_rfl) (e:((k+1:Nat):Int)=y:=by exact ob):F.Le ((t,.i y)::F'):=fc (li e) hr hx
def Y7 {F F':Fr} {t:Nat} {y:Int} (hr:F.Le F') (hx:F.get t=.i 0:=by kernel_rfl) (e:0=y:=by exact ob):F.Le ((t,.i y)::F'):=fc (li e) hr hx
def Zu (x:Bool) {p:Prop} (q:p) {F F':Fr} {t:Nat} {y:Bool} (hr:F.Le F') (hx:F.get t=.b x:=by kernel_rfl) (e:p->x=y:=by intro q;simp only [q];rfl):F.Le ((t,.b y)::F'):=fc (lb<|e q) hr hx
def ZH {F F':Fr} {h h1 h':List Res} (m:Nat) (hF:F.Le F') (e:h1=h':=by exact rfl) (hp:Wu (List.replicate m 0) h=some h1:=by kernel_rfl):Q9 F h F' h':=wk (List.replicate m 0) hF e hp
def ZU {α β:Type} {p q:α->β->Prop} {a:α} {b:β} (x:p a b) (y:q a b):∃a b,p a b/\q a b:=⟨a,b,x,y⟩
def ZK {α β:Type} {q:α->β->Prop} {m' m:Nat} {r:Nat->α->β->Prop} {a:α} {b:β} (x:r m' a b) (y:q a b) (e:m'<m:=by exact ob):∃m' a b,m'<m/\r m' a b/\q a b:=⟨m',a,b,e,x,y⟩
def ZF (m:Nat) {P:Program} {f:FuncId} {fn:Func} {xs:List AV} {h:List Res} {R:AV->List Res->Prop} (hf:P.funcs[f]? = some fn) (ha:YC P m (Gv fn) (C1 P fn R) (CT 0 xs) h) (hb:fn.body.isSome=true:=by kernel_rfl) (hn:fn.ntmps=m:=by kernel_rfl)
  (hle:Nat.ble xs.length m=true:=by kernel_rfl):Wf P f xs h R:=enter hf hb hn hle ha
end Go.Abs
end
namespace Go.Abs
section
variable {P:Program} {n:Nat} {c:Code} {A:Vh} {F:Fr} {h h2:List Res} {ops:Array Oper} {B:Fr->List Res->Prop} {k:Nat}
variable {T:List (Nat × List Nat)} {fuel:Nat} {done:List Nat}
def N1 (P:Program) (ops:Array Oper) (F:Fr) (k:Nat):Option (List AV):=
 match (ZG ops k).op with
 | .binOp .eql xt x y _=>match F.ev x,F.ev y,P.underlying xt with
  | .sl es _,.sl [] (some (.slice none 0 0)),some (.slice _)=>some es
  | _,_,_=>none
 | _=>none
def Zkb {t e:TypeId} (ht:P.underlying t=some (.slice e)) (a:Option Addr) (l c':Nat) (w:World):(Op.equal t (.slice a l c') (.slice none 0 0)).run P w=.ok a.isNone w:=by
 unfold Op.equal;rw [show Op.maxDepth=(Op.maxDepth-1)+1 from rfl];unfold Op.equalIn
 cases a with
 | none=>simp [VX ht]
 | some a=>simp [VX ht]
def Zhz {K:Fr->List Res->Prop} {es:List AV} (hd:VS n (ZG ops k)=true) (ha:N1 P ops F k=some es)
  (h1:es=[]->K (F.put (ZG ops k).dst<|.b true) h) (h0:K (F.put (ZG ops k).dst<|.b false) h):WU P n (ZG ops k) F h K:=by
 unfold N1 at ha;generalize hoo:ZG ops k=o at ha hd h1 h0;obtain ⟨dst,op,type,pos,after,guard⟩:=o;cases op<;>simp only at ha<;>try (cases ha)
 rename_i bop xt x y yt;cases bop<;>simp only at ha<;>try (cases ha)
 split at ha
 case h_2=>cases ha
 rename_i es' hv t hx hy ht;cases ha;intro Q w G a hF hh;have vx:=hF.ev x;have vy:=hF.ev y;rw [hx] at vx;rw [hy] at vy;have vy:a.eval y=.slice none 0 0:=by
  cases hq:a.eval y<;>rw [hq] at vy<;>cases vy<;>(rename_i hh2;exact (hh2 _ rfl).symm)
 cases vq:a.eval x with
 | slice ad l cc=>
  have hrun:(execOp a.eval { dst:=dst,op:=.binOp .eql xt x y yt,type:=type,pos:=pos,after:=after,guard:=guard }).run P w=.ok (.value<|.bool ad.isNone) w:=by
   simp only [execOp,vq,vy];have he:=Zkb (P:=P) ht ad l cc w;exact Vv (by simp [eqGuard,binOp,he])
  unfold Oper.wp;rw [hrun];rw [vq] at vx
  cases hn:ad.isNone with
  | false=>exact ⟨_,_,G,h0,hF.put (Tk hd) .val,hh,X4.refl _ _ _⟩
  | true=>
   have:es=[]:=by
    cases vx with
    | nil=>rfl
    | sl=>cases hn
   exact ⟨_,_,G,h1 this,hF.put (Tk hd) .val,hh,X4.refl _ _ _⟩
 | _=>rw [vq] at vx;cases vx
def iN (es:List AV) (h1:es=[]->SI P n ops B (k+1) (F.put (ZG ops k).dst<|.b true) h) (h0:SI P n ops B (k+1) (F.put (ZG ops k).dst<|.b false) h)
  (hk:Xe n ops F k=true:=by kernel_rfl) (ha:N1 P ops F k=some es:=by kernel_rfl):SI P n ops B k F h:=
 TZ hk (Zhz (U5 hk).2.1 ha h1 h0)
def Pl (P:Program) (ops:Array Oper) (F:Fr) (k:Nat):Option AV:=
 match (ZG ops k).op with
 | .call c=>match c.callee,c.args.toList,c.argTypes.toList with
  | .builtin .cap,[x],[t]=>match P.underlying t with
   | some (.slice _)=>some (F.ev x)
   | _=>none
  | _,_,_=>none
 | _=>none
def Z4r (g:Hd) (hl:Pl P ops F k=some (.h g):=by kernel_rfl):XH P (ZG ops k) F h [] (.i g.c):=by
 unfold Pl at hl;generalize hoo:ZG ops k=o at hl;obtain ⟨dst,op,type,pos,after,guard⟩:=o;cases op<;>simp only at hl<;>try (cases hl)
 rename_i c;obtain ⟨callee,args,tys⟩:=c;simp only at hl
 split at hl
 case h_2=>cases hl
 rename_i x t hargs htys
 split at hl
 case h_2=>cases hl
 rename_i e ht;have e1:args=#[x]:=by rw [<-UG (xs:=args),hargs]
 have e2:tys=#[t]:=by rw [<-UG (xs:=tys),htys]
 subst e1;subst e2
 intro n w G a hF hh;have vx:=hF.ev x;simp only [Wz] at hl;rw [hl] at vx;have vx:=vx.val_inv;refine ⟨_,.val,fun w' _ _=>?_⟩;simp only [execOp,resolve,invoke,builtin,Sem.run_bind,Sem.run_pure,Result.andThen_ok,CH,Uh,CG,vx,Builtin.cap_];simp [VX ht,goInt]
def Gk (t j:Nat) {v:Hd} {xs:LI} (H:YC P n c A ((t,ZT xs v.v)::F) (.tail v.v 1::XO [j] h)) (hF':F.get t=.h v:=by kernel_rfl) (hp:Wu [j] h=some [rV v xs]:=by kernel_rfl):YC P n c A F h:=by
 intro w G a hF hh;have hp':=UF (VL hp);obtain ⟨G',h1,h2',h3⟩:=Z5j (hh.perm hp') (MM xs);have e:=h2'.perm hp'.symm (QP _);have hF2:=hF.mono (e.agree hh);have hv:=hF2.get t;rw [hF'] at hv;have hv:=hv.val_inv;refine wp_mono (H w G' a ⟨hF2.defers,hF2.size,fun s=>?_⟩ h1) fun e' a' w' hc=>hc.trans e
 show RV w G' (match Nat.beq t s with|true=>_|false=>Fr.get F s) _
 cases hb:Nat.beq t s with
 | true=>
  have:=UZ hb;subst this;rw [hv];exact h3
 | false=>exact hF2.get s
def IS (P:Program) (ops:Array Oper) (F:Fr) (k:Nat):Option Int:=
 match (ZG ops k).op with
 | .call c=>match c.callee,c.args.toList,c.argTypes.toList with
  | .builtin .append,[s,x],[t,t']=>match F.ev s,F.ev x,P.underlying t,P.underlying t' with
   | .val (.slice none 0 0),.val (.int .i64 m),some (.slice e),some (.int _)=>match P.info? e with
    | some i=>match i.zero with
     | some (.int .i64 0)=>match Nat.beq i.size 1&&Nat.ble i.bytes 32768 with
      | true=>some m
      | false=>none
     | _=>none
    | none=>none
   | _,_,_,_=>none
  | _,_,_=>none
 | _=>none
def Zhs {K:Fr->List Res->Prop} {m:Nat} (hd:VS n (ZG ops k)=true) (ha:IS P ops F k=some (m:Int)) (h0:0<m) (hb:m<=4294967296)
  (hK:∀v,K (F.put (ZG ops k).dst<|.val v) (.vec v (Z7<|List.replicate m 0)::h)):WU P n (ZG ops k) F h K:=by
 unfold IS at ha;generalize hoo:ZG ops k=o at ha hd hK;obtain ⟨dst,op,type,pos,after,guard⟩:=o;cases op<;>simp only at ha<;>try (cases ha)
 rename_i c;obtain ⟨callee,args,tys⟩:=c;simp only at ha
 split at ha
 case h_2=>cases ha
 rename_i s x t t' hargs htys
 split at ha
 case h_2=>cases ha
 rename_i mm e kn hs hx ht ht'
 split at ha
 case h_2=>cases ha
 rename_i i hi
 split at ha
 case h_2=>cases ha
 rename_i hz
 split at ha
 case h_2=>cases ha
 rename_i hbb;simp only [We] at hbb;have Xg:=UZ hbb.1;have hby:=Vx hbb.2;simp only [Wz] at ha;subst ha;have e1:args=#[s,x]:=by rw [<-UG (xs:=args),hargs]
 have e2:tys=#[t,t']:=by rw [<-UG (xs:=tys),htys]
 subst e1;subst e2
 intro Q w G a hF hh;have v1:=hF.ev s;have v2:=hF.ev x;rw [hs] at v1;rw [hx] at v2;have v1:=v1.val_inv;have v2:=v2.val_inv;have hbytes:m*i.bytes<=281474976710656:=by
  have:=Nat.mul_le_mul hb hby;omega
 have hr:=Lib.run_append_nil_zeros (P:=P) w t t' type e i _ .i64 kn ht ht' hi hz m h0 om om hbytes;have hrun:(execOp a.eval { dst:=dst,op:=.call { callee:=.builtin .append,args:=#[s,x],argTypes:=#[t,t'] },type:=type,pos:=pos,after:=after,guard:=guard }).run P w =
   .ok (.value<|.slice (some ⟨w.heap.size,0,none⟩) m<|grownCap w m 0 e) (w.drew.alloc<|.cells (Builtin.zeroCells (Value.cells<|.int .i64 0) m++Builtin.zeroCells (Value.cells<|.int .i64 0) (grownCap w m 0 e-m)) e):=by
  simp only [execOp,resolve,invoke,builtin,Sem.run_bind,Sem.run_pure,Result.andThen_ok,CH,Uh,CG,v1,v2,hr]
 unfold Oper.wp;rw [hrun];have Xt:=grownCap_ge w m 0 e;have hzc:∀q,(Builtin.zeroCells (Value.cells<|.int .i64 0) q).toList=List.replicate q (.int .i64 0):=fun q=>by
  apply List.ext_getElem
  .simp [Builtin.zeroCells,Value.cells]
  .intro i h1 h2;simp [Builtin.zeroCells,Value.cells,Nat.mod_one]
 have hl:(Z7 (List.replicate m 0)).length=m:=by simp
 obtain ⟨j1,j2⟩:=hh.drew.alloc_vec (Builtin.zeroCells (Value.cells (.int .i64 0)) m++Builtin.zeroCells (Value.cells (.int .i64 0)) (grownCap w m 0 e-m)) e
  (ls:=Z7 (List.replicate m 0)) (cap:=grownCap w m 0 e) (by rw [hl];exact Xt) (by
   rw [<-JD,EH,hzc,hzc];simp;omega) (by
   rw [hl,EH,hzc,hzc];have:(List.replicate m (Value.int .i64 0)++List.replicate (grownCap w m 0 e-m) (Value.int .i64 0)).take m=List.replicate m (Value.int .i64 0):=by
    rw [List.take_append_of_le_length (by simp),Vc (by simp)]
   rw [this,Z7,List.map_replicate]
   exact HS .val m)
 rw [hl] at j1 j2;have j3:=(X4.drew w G h).trans j2;exact ⟨_,_,G,hK _,(hF.mono<|j3.agree hh).put (Tk hd) .val,j1,j3⟩
def iZ (m:Nat) (hK:∀v,SI P n ops B (k+1) (F.put (ZG ops k).dst<|.h v) (rV v (List.replicate m 0)::h)) (h0:0<m:=by omega) (hb:m<=4294967296:=by omega)
  (hk:Xe n ops F k=true:=by kernel_rfl) (ha:IS P ops F k=some (m:Int):=by kernel_rfl):SI P n ops B k F h:=
 TZ hk (Zhs (U5 hk).2.1 ha h0 hb fun v=>I7 fun g hg=>by subst hg;exact hK g)
end
def ro {b:Nat} {ls ls':List AV} {t t':List Res} (h:ls=ls') (e:t=t'):Res.obj b ls::t=.obj b ls'::t':=h▸e▸rfl
section
variable {P:Program} {n:Nat} {F:Fr} {h:List Res} {ops:Array Oper} {B:Fr->List Res->Prop} {k:Nat}
variable {T:List (Nat × List Nat)} {fuel:Nat} {done:List Nat}
def N6 {K:Fr->List Res->Prop} {l c:Nat} {zv zv':AV} (hd:VS n (ZG ops k)=true) (hm:BE P ops F k=some ((l:Int),(c:Int),zv)) (hlc:l<=c) (hc:c<=4294967296) (hle:Zd zv zv') (hlz:zv'.leaves=[zv'])
  (hK:∀v,K (F.put (ZG ops k).dst<|.sl (List.replicate l zv')<|some v) (.tail v 1::h)):WU P n (ZG ops k) F h K:=by
 intro Q w G a hF hh;obtain ⟨e,z,rfl,hr⟩:=Z3f hF hm hlc hc;have hfl:∀m,Zc (List.replicate m zv')=List.replicate m zv':=by
  intro m
  induction m with
  | zero=>rfl
  | succ m ih=>simp only [Oq,Zc,BV,hlz,List.singleton_append];rw [show (List.replicate m zv').flatMap AV.leaves=Zc (List.replicate m zv') from rfl,ih]
 unfold Oper.wp;rw [hr]
 obtain ⟨G',j1,j2,j3⟩:=hh.alloc_row (madeCells #[z] c) e (es:=List.replicate l zv') (k:=1) (cap:=c) (fun x hx=>by rw [(List.mem_replicate.1 hx).2,hlz];rfl) (by simpa using hlc) (by simp [madeCells]) (by
  rw [Z0t,hfl,Kg,List.take_replicate,List.length_replicate,Vz hlc]
  exact HS (hle _ _ _<|RV.ofVal z) l)
 rw [List.length_replicate] at j1 j2 j3;exact ⟨_,_,G',hK _,(hF.mono<|j2.agree hh).put (Tk hd) j3,j1,j2⟩
def Zad (l:Nat):List.replicate l (AV.i 0)=Z7 (List.replicate l 0):=by simp [Z7,List.map_replicate]
def Re (l:Nat):List.replicate l (Z5 [])=WD (List.replicate l []):=by simp [WD,List.map_replicate]
def iM (l c:Nat) (hK:∀v,SI P n ops B (k+1) (F.put (ZG ops k).dst<|ZT (List.replicate l 0) v) (.tail v 1::h)) (hlc:l<=c:=by omega) (hc:c<=4294967296:=by omega) (hk:Xe n ops F k=true:=by kernel_rfl)
  (hm:BE P ops F k=some ((l:Int),(c:Int),.i 0):=by kernel_rfl):SI P n ops B k F h:=
 TZ hk (N6 (U5 hk).2.1 hm hlc hc (Zd.refl _) rfl fun v=>by rw [Zad];exact hK v)
def iMN (l c:Nat) (hK:∀v,SI P n ops B (k+1) (F.put (ZG ops k).dst<|Co (List.replicate l []) v) (.tail v 1::h)) (hlc:l<=c:=by omega) (hc:c<=4294967296:=by omega) (hk:Xe n ops F k=true:=by kernel_rfl)
  (hm:BE P ops F k=some ((l:Int),(c:Int),.sl []<|some<|.slice none 0 0):=by kernel_rfl):SI P n ops B k F h:=
 TZ hk (N6 (U5 hk).2.1 hm hlc hc (Zd.forget _ _) rfl fun v=>by rw [show AV.sl [] none=Z5 [] from rfl,Re];exact hK v)
def dMN (i:Nat) (js bs:List Nat) (l c:Nat) (hK:∀v,X3 P n ops B (T.filter fun t=>!Vq ops i t.1) fuel (done++[i]) (F.put (ZG ops i).dst<|Co (List.replicate l []) v) (.tail v 1::h)) (hlc:l<=c:=by omega) (hc:c<=4294967296:=by omega)
  (hk:Xe n ops F i=true:=by kernel_rfl) (hm:BE P ops F i=some ((l:Int),(c:Int),.sl []<|some<|.slice none 0 0):=by kernel_rfl) (ho:UE ops i T=bs:=by kernel_rfl) (hj:js.map (fun j=>(V3 h)[j]?)=bs.map some:=by kernel_rfl):VY P n ops B T fuel done F h i:=
 Jj (h1:=[]) (h2:=h) [] js bs hk rfl ho hj (N6 (U5 hk).2.1 hm hlc hc (Zd.forget _ _) rfl fun v=>by rw [show AV.sl [] none=Z5 [] from rfl,Re];exact hK v)
end
section
variable {P:Program} {n:Nat} {F:Fr} {h:List Res} {ops:Array Oper} {B:Fr->List Res->Prop} {k:Nat}
variable {T:List (Nat × List Nat)} {fuel:Nat} {done:List Nat}
def dK {c:Code} {A:Vh} (K:Fr->List Res->Prop) (H:X3 P n ops (fun F h=>∃F' h',K F' h'/\Q9 F h F' h') T fuel done F h) (hB:∀F' h',K F' h'->YC P n c A F' h') :
  X3 P n ops (fun F h=>YC P n c A F h) T fuel done F h:=by
 intro Q w G a SL hF hh hQ hcl hcov hk;exact H Q w G a SL hF hh hQ hcl hcov fun F2 h2 G2 a2 w2 b1 b2 b3 b4=>let ⟨_,_,k1,k2⟩:=b1;hk F2 h2 G2 a2 w2 (CS k2 (hB _ _ k1)) b2 b3 b4
def Ji {c:Code} {A:Vh} (K:Fr->List Res->Fr->List Res->Prop) (H:X3 P n ops (fun F1 h1=>∃F' h',K F h F' h'/\Q9 F1 h1 F' h') T fuel done F h) (hB:∀F' h',K F h F' h'->YC P n c A F' h') :
  X3 P n ops (fun F h=>YC P n c A F h) T fuel done F h:=dK (K F h) H hB
def VR (i j:Nat) (Hi:VY P n ops B T fuel done F h i) (Hj:VY P n ops B T fuel done F h j) (hr:Region.ready .any ops (Ve ops done)=[i,j]:=by kernel_rfl):X3 P n ops B T (fuel+1) done F h:=
 R4 hr rfl fun q hq=>by
  rcases YM.1 hq with rfl|hq
  .exact Hi
  .rw [XI.1 hq];exact Hj
def Dq (s:Int):Int:=IntKind.i64.wrap s
def Zmz {s:Int} (ha:AC ops F k=some s):XH P (ZG ops k) F h [] (.val<|.int .i64<|Dq s):=by
 unfold AC at ha;generalize hoo:ZG ops k=o at ha;obtain ⟨dst,op,type,pos,after,guard⟩:=o;cases op<;>simp only at ha<;>try (cases ha)
 rename_i bop xt x y yt
 split at ha
 .rename_i a b h1 h2;have key:∀v,Fd bop .i64 a b=some (.int .i64<|IntKind.i64.wrap v)->v=s->XH P { dst:=dst,op:=.binOp bop xt x y yt,type:=type,pos:=pos,after:=after,guard:=guard } F h [] (.val<|.int .i64<|Dq s):=by
   intro v hv hvs;have he:QX P { dst:=dst,op:=.binOp bop xt x y yt,type:=type,pos:=pos,after:=after,guard:=guard } F h 0=some (.val (.int .i64 (IntKind.i64.wrap v)),[]):=by
    simp only [QX,h1,h2,FV,hv]
   have:=DT he (by simp);rw [hvs] at this
   simpa [Dq] using this
  split at ha
  .cases ha;exact key (a+b) rfl rfl
  .cases ha;exact key (a-b) rfl rfl
  .cases ha;exact key (a*b) rfl rfl
  .cases ha
 .cases ha
def iW (s:Int) (H:SI P n ops B (k+1) (F.put (ZG ops k).dst<|.val<|.int .i64<|Dq s) h) (hk:Xe n ops F k=true:=by kernel_rfl) (ha:AC ops F k=some s:=by kernel_rfl):SI P n ops B k F h:=
 Da (ks:=[]) hk (Zmz ha) H
def Nm (P:Program) (ops:Array Oper) (F:Fr) (k:Nat):Option Bool:=
 match (ZG ops k).op with
 | .binOp .eql xt x y _=>match F.ev x,F.ev y,P.underlying xt with
  | .val (.pointer a),.val (.pointer none),some (.pointer _)=>some a.isNone
  | _,_,_=>none
 | _=>none
def Zkc {t e:TypeId} (ht:P.underlying t=some (.pointer e)) (a:Option Addr) (w:World):(Op.equal t (.pointer a) (.pointer none)).run P w=.ok a.isNone w:=by
 unfold Op.equal;rw [show Op.maxDepth=(Op.maxDepth-1)+1 from rfl];unfold Op.equalIn
 cases a with
 | none=>simp [VX ht]
 | some a=>simp [VX ht]
def Zmo {b:Bool} (ha:Nm P ops F k=some b):XH P (ZG ops k) F h [] (.b b):=by
 unfold Nm at ha;generalize hoo:ZG ops k=o at ha;obtain ⟨dst,op,type,pos,after,guard⟩:=o;cases op<;>simp only at ha<;>try (cases ha)
 rename_i bop xt x y yt;cases bop<;>simp only at ha<;>try (cases ha)
 split at ha
 case h_2=>cases ha
 rename_i ad t hx hy ht;cases ha;intro nn w G a hF hh;have vx:=hF.ev x;have vy:=hF.ev y;rw [hx] at vx;rw [hy] at vy;have vx:a.eval x=.pointer ad:=by cases hq:a.eval x<;>rw [hq] at vx<;>cases vx<;>rfl
 have vy:a.eval y=.pointer none:=by cases hq:a.eval y<;>rw [hq] at vy<;>cases vy<;>rfl
 refine ⟨_,.val,fun w' _ _=>?_⟩;simp only [execOp,vx,vy];have he:=Zkc (P:=P) ht ad w';exact Vv (by cases ad<;>simp [eqGuard,binOp,he])
def iQ (b:Bool) (H:SI P n ops B (k+1) (F.put (ZG ops k).dst<|.b b) h) (hk:Xe n ops F k=true:=by kernel_rfl) (ha:Nm P ops F k=some b:=by kernel_rfl):SI P n ops B k F h:=
 Da (ks:=[]) hk (Zmo ha) H
def MZ (ops:Array Oper) (F:Fr) (k:Nat):Option (Int × Int):=
 match (ZG ops k).op with
 | .call c=>match c.callee,c.args.toList with
  | .builtin .min,[x,y]=>match F.ev x,F.ev y with
   | .val (.int .i64 a),.val (.int .i64 b)=>some (a,b)
   | _,_=>none
  | _,_=>none
 | _=>none
def Zmn {a b:Int} (hl:MZ ops F k=some (a,b)):XH P (ZG ops k) F h [] (.i<|min a b):=by
 unfold MZ at hl;generalize hoo:ZG ops k=o at hl;obtain ⟨dst,op,type,pos,after,guard⟩:=o;cases op<;>simp only at hl<;>try (cases hl)
 rename_i c;obtain ⟨callee,args,tys⟩:=c;simp only at hl
 split at hl
 case h_2=>cases hl
 rename_i x y hargs
 split at hl
 case h_2=>cases hl
 rename_i u v hx hy;cases hl;have e1:args=#[x,y]:=by rw [<-UG (xs:=args),hargs]
 subst e1;intro n w G a' hF hh;have vx:=hF.ev x;have vy:=hF.ev y;rw [hx] at vx;rw [hy] at vy;have vx:=vx.val_inv;have vy:=vy.val_inv;refine ⟨_,.val,fun w' _ _=>?_⟩;simp only [execOp,resolve,invoke,builtin,Sem.run_bind,Sem.run_pure,Result.andThen_ok,CH,Uh,CG,vx,vy];have e:(if b<a then b else a)=min a b:=by
  rw [Int.min_def]
  split<;>split<;>omega
 simp [Builtin.min_,Builtin.min2,Sem.run_pure,List.foldlM,e]
def iI (a b:Int) (H:SI P n ops B (k+1) (F.put (ZG ops k).dst<|.i<|min a b) h) (hk:Xe n ops F k=true:=by kernel_rfl) (ha:MZ ops F k=some (a,b):=by kernel_rfl):SI P n ops B k F h:=
 Da (ks:=[]) hk (Zmn ha) H
end
end Go.Abs
