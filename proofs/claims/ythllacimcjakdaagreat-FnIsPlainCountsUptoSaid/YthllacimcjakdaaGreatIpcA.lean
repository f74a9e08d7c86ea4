/-
  A part of the proof of FnIsPlainCountsUptoSaid (see the last file): no condition.
-/
import Derived.OrdersHeld
import Derived.Below
import Derived.KernelRfl
import Derived.Laws.AppendOwn
import Derived.Laws.MakeOwn
import Derived.IntWalk
import Derived.Lib.AppendZeros
set_option linter.all false
set_option linter.unusedVariables false
set_option linter.unusedSimpArgs false
set_option linter.unusedSectionVars false
set_option maxRecDepth 10000
set_option maxHeartbeats 4000000
namespace Go.Abs
theorem ob {p:Prop} (h:p:=by first|assumption|omega|rfl|(simp<;>omega)):p:=h
theorem kr {p:Prop} (h:p:=by kernel_rfl):p:=h
theorem om {p:Prop} (h:p:=by omega):p:=h
def Zc:=@if_neg
def Zh:=@beq_iff_eq
def Zo:=@if_pos
def Y7:=@List.mem_of_getElem?
def Yi:=@bne_iff_ne
def Yx:=@congrArg
def Yz:=@List.length_append
def YQ:=@List.mem_cons
def YS:=@List.length_cons
def X6:=@Nat.le_refl
def Xh:=@List.mem_cons_self
def Xl:=@Bool.eq_iff_iff
def Xm:=@List.length_nil
def Xr:=@List.mem_append
def XG:=@List.mem_cons_of_mem
def XL:=@Bool.and_eq_true
def XM:=@List.getElem?_eq_some_iff
def XV:=@Option.some.injEq
def W3:=@List.mem_singleton
def W6:=@List.mem_map
def Ww:=@List.length_take
def WF:=@Nat.le_of_ble_eq_true
def WP:=@List.pairwise_cons
def WQ:=@Nat.zero_add
def V1:=@Classical.not_not
def Vg:=@List.take_of_length_le
def Vh:=@Nat.le_trans
def Vp:=@List.take_length
def Vq:=@Nat.min_eq_left
def VJ:=@Array.toArray_toList
def VR:=@Int.toNat_natCast
def U0:=@Nat.eq_of_beq_eq_true
def Ua:=@Array.getElem?_eq_some_iff
def Un:=@List.map_cons
def UF:=@List.take_append_drop
def UU:=@List.length_set
def Ty:=@Bool.eq_false_iff
def Tz:=@List.Perm.refl
def TA:=@List.append_assoc
def TB:=@Nat.add_mul
def TR:=@List.mem_of_mem_take
def TS:=@Nat.mul_le_mul_right
def Qd:=@List.getElem?_take
def Qv:=@Array.length_toList
def Qw:=@List.cons_append
def K5:=@Nat.zero_le
def Kq:=@List.all_eq_true
def Kr:=@List.getElem?_map
def Ks:=@Nat.mul_one
def KX:=@List.take_left
def Jz:=@List.drop_zero
def JA:=@List.flatMap_cons
def JB:=@List.getElem?_eq_getElem
def JC:=@List.pairwise_append
def JD:=@Nat.add_assoc
def JE:=@Option.some.inj
def As:=@List.append_nil
def At:=@List.length_drop
def Au:=@List.length_map
def Av:=@List.nil_append
def Aw:=@List.sublist_cons_self
def Ax:=@Option.map_some
def Bb:=@List.map_nil
def Bc:=@List.map_toArray
def Bd:=@List.take_succ_cons
def Be:=@Nat.add_zero
def BZ:=@Array.toList_append
def C0:=@List.pairwise_singleton
def C1:=@List.size_toArray
def C2:=@List.toList_toArray
def D5:=@List.getElem?_append_left
def D6:=@List.set_eq_take_append_cons_drop
def D7:=@Nat.lt_or_ge
def EQ:=@Array.getElem?_toList
def ER:=@Classical.byContradiction
def ES:=@List.drop_eq_nil_of_le
def ET:=@List.eq_of_mem_replicate
def EU:=@List.getElem?_append_right
def EV:=@List.getElem?_eq_none
def EW:=@List.length_pos_iff
def EX:=@List.length_singleton
def EY:=@Nat.eq_of_mul_eq_mul_right
def HF:=@List.getElem?_drop
def HG:=@List.replicate_succ
def HH:=@Nat.lt_of_lt_of_le
def Oq:=@List.drop_eq_getElem_cons
end Go.Abs
namespace Go.Abs
inductive AV where
 | any
 | val (v:Value)
 | sl (es:List AV) (hv:Option Value)
 | agg (ls:List AV)
 | rp (ls:List AV)
 | tup (vs:List AV)
abbrev Yc:=Nat->Nat->Prop
def AV.leaves:AV->List AV
 | .agg ls=>ls
 | x=>[x]
mutual
inductive RV (w:World) (G:Yc):AV->Value->Prop
 | any {v}:RV w G .any v
 | val {v}:RV w G (.val v) v
 | nil {hv a cap} (h:∀x,hv=some x->x=.slice a 0 cap):RV w G (.sl [] hv) (.slice a 0 cap)
 | sl {es hv b o k cap} (h:∀x,hv=some x->x=.slice (some ⟨b,o,none⟩) es.length cap) (hc:es.length<=cap) (hm:WR w G k b o es) :
   RV w G (.sl es hv) (.slice (some ⟨b,o,none⟩) es.length cap)
 | agg {ls cs} (h:YP w G ls cs):RV w G (.agg ls) (.agg cs.toArray)
 | rp {ls b o} (h:Wf w G b o ls):RV w G (.rp ls) (.pointer (some ⟨b,o,none⟩))
 | tup {vs cs} (h:YP w G vs cs):RV w G (.tup vs) (.tuple cs.toArray)
inductive YP (w:World) (G:Yc):List AV->List Value->Prop
 | nil:YP w G [] []
 | cons {x v xs vs} (h:RV w G x v) (t:YP w G xs vs):YP w G (x::xs) (v::vs)
inductive Wf (w:World) (G:Yc):Nat->Nat->List AV->Prop
 | nil {b o}:Wf w G b o []
 | cons {b o x c xs} (hc:w.cell? ⟨b,o,none⟩=some c) (hg:G b o) (h:RV w G x c) (t:Wf w G b (o+1) xs):Wf w G b o (x::xs)
inductive WR (w:World) (G:Yc):Nat->Nat->Nat->List AV->Prop
 | nil {k b o}:WR w G k b o []
 | cons {k b o x xs} (hl:x.leaves.length=k) (h:Wf w G b o x.leaves) (t:WR w G k b (o+k) xs):WR w G k b o (x::xs)
end
structure Vt (G:Yc) (w w':World) (G':Yc):Prop where
 cell:∀b o,G b o->w'.cell? ⟨b,o,none⟩=w.cell? ⟨b,o,none⟩
 sub:∀b o,G b o->G' b o
section mono
variable {w w':World} {G G':Yc}
mutual
theorem RV.mono {x:AV} {v:Value} (hA:Vt G w w' G'):RV w G x v->RV w' G' x v
 | .any=>.any
 | .val=>.val
 | .nil h=>.nil h
 | .sl h hc hm=>.sl h hc (hm.mono hA)
 | .agg h=>.agg (h.mono hA)
 | .rp h=>.rp (h.mono hA)
 | .tup h=>.tup (h.mono hA)
theorem YP.mono {xs:List AV} {vs:List Value} (hA:Vt G w w' G'):YP w G xs vs->YP w' G' xs vs
 | .nil=>.nil
 | .cons h t=>.cons (h.mono hA) (t.mono hA)
theorem Wf.mono {b o:Nat} {xs:List AV} (hA:Vt G w w' G'):Wf w G b o xs->Wf w' G' b o xs
 | .nil=>.nil
 | .cons hc hg h t=>.cons ((hA.cell _ _ hg).trans hc) (hA.sub _ _ hg) (h.mono hA) (t.mono hA)
theorem WR.mono {k b o:Nat} {xs:List AV} (hA:Vt G w w' G'):WR w G k b o xs->WR w' G' k b o xs
 | .nil=>.nil
 | .cons hl h t=>.cons hl (h.mono hA) (t.mono hA)
end
end mono
theorem YP.length {w:World} {G:Yc}:∀{xs:List AV} {vs:List Value},YP w G xs vs->vs.length=xs.length
 | _,_,.nil=>rfl
 | _,_,.cons _ t=>by simp [t.length]
theorem YP.get {w:World} {G:Yc}:∀{xs:List AV} {vs:List Value},YP w G xs vs->∀(i:Nat) (x:AV),xs[i]? = some x->∃v,vs[i]? = some v/\RV w G x v
 | _,_,.nil,i,x,h=>by simp at h
 | _,_,.cons h t,0,x,hx=>by simp at hx;subst hx;exact ⟨_,rfl,h⟩
 | _,_,.cons h t,i+1,x,hx=>by simpa using t.get i x (by simpa using hx)
theorem YP.append {w:World} {G:Yc}:∀{xs ys:List AV} {vs us:List Value},YP w G xs vs->YP w G ys us->YP w G (xs++ys) (vs++us)
 | _,_,_,_,.nil,h=>h
 | _,_,_,_,.cons h t,h2=>.cons h (t.append h2)
theorem YP.take {w:World} {G:Yc}:∀{xs:List AV} {vs:List Value} (n:Nat),YP w G xs vs->YP w G (xs.take n) (vs.take n)
 | _,_,0,_=>by simp;exact .nil
 | _,_,n+1,.nil=>by simp;exact .nil
 | _,_,n+1,.cons h t=>by simp;exact .cons h (t.take n)
theorem YP.drop {w:World} {G:Yc}:∀{xs:List AV} {vs:List Value} (n:Nat),YP w G xs vs->YP w G (xs.drop n) (vs.drop n)
 | _,_,0,h=>by simpa using h
 | _,_,n+1,.nil=>by simp;exact .nil
 | _,_,n+1,.cons h t=>by simpa using t.drop n
theorem YP.set {w:World} {G:Yc}:∀{xs:List AV} {vs:List Value} (n:Nat) {x:AV} {v:Value},YP w G xs vs->RV w G x v->YP w G (xs.set n x) (vs.set n v)
 | _,_,_,_,_,.nil,_=>by simp;exact .nil
 | _,_,0,_,_,.cons h t,hx=>by simp;exact .cons hx t
 | _,_,n+1,_,_,.cons h t,hx=>by simp;exact .cons h (t.set n hx)
theorem Wf.drop {w:World} {G:Yc}:∀(n:Nat) {b o:Nat} {xs:List AV},Wf w G b o xs->Wf w G b (o+n) (xs.drop n)
 | 0,_,_,_,h=>by simpa using h
 | n+1,_,_,_,.nil=>by simp;exact .nil
 | n+1,_,_,_,.cons hc hg h t=>by
  have:=t.drop n
  simp only [List.drop_succ_cons]
  rw [show ∀o:Nat,o+(n+1)=o+1+n from fun o=>by omega]
  exact this
theorem Wf.take {w:World} {G:Yc}:∀(n:Nat) {b o:Nat} {xs:List AV},Wf w G b o xs->Wf w G b o (xs.take n)
 | 0,_,_,_,h=>by simp;exact .nil
 | n+1,_,_,_,.nil=>by simp;exact .nil
 | n+1,_,_,_,.cons hc hg h t=>by simp;exact .cons hc hg h (t.take n)
theorem Wf.append {w:World} {G:Yc}:∀{b o:Nat} {xs ys:List AV},Wf w G b o xs->Wf w G b (o+xs.length) ys->Wf w G b o (xs++ys)
 | _,_,_,_,.nil,h=>by simpa using h
 | _,_,_,_,.cons hc hg h t,h2=>.cons hc hg h (t.append (by
   simp only [YS] at h2
   rw [show ∀(o:Nat) (l:Nat),o+1+l=o+(l+1) from fun o l=>by omega];exact h2))
theorem Wf.cells {w:World} {G:Yc}:∀{b o:Nat} {xs:List AV},Wf w G b o xs ->
  ∃cs,YP w G xs cs/\(∀j v,cs[j]? = some v->w.cell? ⟨b,o+j,none⟩=some v/\G b (o+j))
 | _,_,_,.nil=>⟨[],.nil,by simp⟩
 | _,o,_,.cons (c:=c) hc hg h t=>by
  obtain ⟨cs,h1,h2⟩:=t.cells
  refine ⟨c::cs,.cons h h1,fun j v hj=>?_⟩
  cases j with
  | zero=>simp at hj;subst hj;exact ⟨hc,hg⟩
  | succ j=>
   have:=h2 j v (by simpa using hj)
   rw [show o+1+j=o+(j+1) from by omega] at this
   exact this
theorem Wf.of_cells {w:World} {G:Yc} {b:Nat}:∀{o:Nat} {xs:List AV} {cs:List Value},YP w G xs cs ->
  (∀j v,cs[j]? = some v->w.cell? ⟨b,o+j,none⟩=some v/\G b (o+j))->Wf w G b o xs
 | _,_,_,.nil,_=>.nil
 | o,_,_,.cons (v:=c) h t,hc=>by
  have h0:=hc 0 c (by simp)
  refine .cons h0.1 h0.2 h (Wf.of_cells t fun j v hj=>?_)
  have:=hc (j+1) v (by simpa using hj)
  rw [show o+(j+1)=o+1+j from by omega] at this
  exact this
def Zl (es:List AV):List AV:=es.flatMap AV.leaves
theorem WR.flat_mem {w:World} {G:Yc} {k:Nat}:∀{b o:Nat} {xs:List AV},WR w G k b o xs->Wf w G b o (Zl xs)
 | _,_,_,.nil=>.nil
 | _,_,_,.cons hl h t=>by
  simp only [Zl,JA]
  exact h.append (by rw [hl];exact t.flat_mem)
theorem WR.of_flat {w:World} {G:Yc} {k:Nat} {b:Nat}:∀{o:Nat} (xs:List AV),(∀x∈xs,x.leaves.length=k)->Wf w G b o (Zl xs)->WR w G k b o xs
 | _,[],_,_=>.nil
 | o,x::xs,hk,h=>by
  have hx:=hk x (by simp)
  simp only [Zl,JA] at h
  have h1:=h.take x.leaves.length
  have h2:=h.drop x.leaves.length
  simp only [List.take_left',List.drop_left'] at h1 h2
  rw [hx] at h2
  exact .cons hx h1 (WR.of_flat xs (fun y hy=>hk y (by simp [hy])) h2)
theorem WR.len {w:World} {G:Yc} {k:Nat}:∀{b o:Nat} {xs:List AV},WR w G k b o xs->∀x∈xs,x.leaves.length=k
 | _,_,_,.nil,x,h=>by simp at h
 | _,_,_,.cons hl _ t,x,h=>by
  rcases YQ.1 h with rfl|h
  ·exact hl
  ·exact t.len x h
theorem UZ {k:Nat}:∀(xs:List AV),(∀x∈xs,x.leaves.length=k)->(Zl xs).length=xs.length*k
 | [],_=>by simp [Zl]
 | x::xs,h=>by
  have:=UZ xs (fun y hy=>h y (by simp [hy]))
  simp only [Zl,JA,Yz,YS] at this ⊢
  rw [this,h x (by simp),TB];omega
theorem WR.get {w:World} {G:Yc} {k:Nat}:∀{b o:Nat} {xs:List AV},WR w G k b o xs->∀(i:Nat) (x:AV),xs[i]? = some x->Wf w G b (o+i*k) x.leaves
 | _,_,_,.nil,i,x,h=>by simp at h
 | _,_,_,.cons hl h t,0,x,hx=>by simp at hx;subst hx;simpa using h
 | _,o,_,.cons hl h t,i+1,x,hx=>by
  have:=t.get i x (by simpa using hx)
  rw [show o+(i+1)*k=o+k+i*k from by rw [TB];omega]
  exact this
theorem WR.drop {w:World} {G:Yc} {k:Nat}:∀(n:Nat) {b o:Nat} {xs:List AV},WR w G k b o xs->WR w G k b (o+n*k) (xs.drop n)
 | 0,_,_,_,h=>by simpa using h
 | n+1,_,_,_,.nil=>by simp;exact .nil
 | n+1,_,o,_,.cons hl h t=>by
  have:=t.drop n
  simp only [List.drop_succ_cons]
  rw [show o+(n+1)*k=o+k+n*k from by rw [TB];omega]
  exact this
theorem WR.take {w:World} {G:Yc} {k:Nat}:∀(n:Nat) {b o:Nat} {xs:List AV},WR w G k b o xs->WR w G k b o (xs.take n)
 | 0,_,_,_,h=>by simp;exact .nil
 | n+1,_,_,_,.nil=>by simp;exact .nil
 | n+1,_,_,_,.cons hl h t=>by simp;exact .cons hl h (t.take n)
inductive Res where
 | obj (b:Nat) (ls:List AV)
 | tail (v:Value) (k:Nat)
 | ge (s:Nat)
 | vec (v:Value) (ls:List AV)
 | many (ts:List (Value × Nat))
 | own (B:List Nat) (m:Nat->Nat->Option Value)
 | row (v:Value) (k:Nat) (ls:List AV)
def Hs:Value->Nat->Yc
 | .slice (some a) len _,k,b',o=>b'=a.block/\len*k<=o
 | _,_,_,_=>False
def Res.fp:Res->Yc
 | .obj b _,b',_=>b'=b
 | .tail (.slice (some a) len _) k,b',o=>b'=a.block/\len*k<=o
 | .tail _ _,_,_=>False
 | .ge _,_,_=>False
 | .vec (.slice (some a) _ _) _,b',_=>b'=a.block
 | .vec _ _,_,_=>False
 | .many ts,b',o=>∃p∈ts,Hs p.1 p.2 b' o
 | .own B _,b',_=>b'∈B
 | .row (.slice (some a) _ _) _ _,b',_=>b'=a.block
 | .row _ _ _,_,_=>False
def F7 (w:World) (v:Value) (k:Nat):Prop:=
 v=.slice none 0 0∨∃g len cap cur e,v=.slice (some ⟨g,0,none⟩) len cap/\w.heap[g]? = some (.cells cur e (0,0))/\len<=cap/\cur.size=cap*k
def JJ (w:World) (G:Yc) (v:Value) (ls:List AV):Prop:=
 (v=.slice none 0 0/\ls=[])∨∃g cap cur e,v=.slice (some ⟨g,0,none⟩) ls.length cap/\w.heap[g]? = some (.cells cur e (0,0))/\ls.length<=cap/\cur.size=cap /\
  YP w G ls (cur.toList.take ls.length)
def Kt (w:World) (G:Yc) (v:Value) (k:Nat) (ls:List AV):Prop:=
 (v=.slice none 0 0/\ls=[])∨∃g len cap cur e,v=.slice (some ⟨g,0,none⟩) len cap/\w.heap[g]? = some (.cells cur e (0,0))/\len<=cap/\cur.size=cap*k/\ls.length=len*k /\
  YP w G ls (cur.toList.take (len*k))
def TT (w:World) (G:Yc):Res->Prop
 | .obj b ls=>∃cs e,w.heap[b]? = some (.cells cs e (0,0))/\YP w G ls cs.toList
 | .tail v k=>F7 w v k
 | .ge s=>s<=w.heap.size
 | .vec v ls=>JJ w G v ls
 | .many ts=>(∀p∈ts,F7 w p.1 p.2)/\ts.Pairwise (fun p q=>∀b o,Hs p.1 p.2 b o->Hs q.1 q.2 b o->False)
 | .own B m=>∀b∈B,∃cs e,w.heap[b]? = some (.cells cs e (0,0))/\∀o,cs[o]? = m b o
 | .row v k ls=>Kt w G v k ls
def V3 (h:List Res):Yc:=fun b o=>∃r∈h,r.fp b o
def JG (r r':Res):Prop:=∀b o,r.fp b o->r'.fp b o->False
structure YB (w:World) (G:Yc) (h:List Res):Prop where
 ok:∀r∈h,TT w G r
 apart:h.Pairwise JG
 prot:∀r∈h,∀b o,r.fp b o->G b o->False
 lt:∀b o,G b o->b<w.heap.size
theorem TT.lt {w:World} {G:Yc} {r:Res} (h:TT w G r):∀b o,r.fp b o->b<w.heap.size:=by
 intro b o hf
 cases r with
 | obj b' ls=>obtain ⟨cs,e,h1,_⟩:=h;cases hf;exact (Ua.1 h1).1
 | tail v k=>
  rcases h with rfl|⟨g,len,cap,cur,e,rfl,h1,_⟩
  ·exact hf.elim
  ·obtain ⟨rfl,_⟩:=hf;exact (Ua.1 h1).1
 | ge s=>exact hf.elim
 | vec v ls=>
  rcases h with ⟨rfl,_⟩|⟨g,cap,cur,e,rfl,h1,_⟩
  ·exact hf.elim
  ·have hf:b=g:=hf
   subst hf
   exact (Ua.1 h1).1
 | many ts=>
  obtain ⟨p,hp,hf⟩:=hf
  rcases h.1 p hp with h0|⟨g,len,cap,cur,e,h0,h1,_⟩
  ·rw [h0] at hf;exact hf.elim
  ·rw [h0] at hf;obtain ⟨rfl,_⟩:=hf;exact (Ua.1 h1).1
 | own B m=>obtain ⟨cs,e,h1,_⟩:=h b hf;exact (Ua.1 h1).1
 | row v k ls=>
  rcases h with ⟨rfl,_⟩|⟨g,len,cap,cur,e,rfl,h1,_⟩
  ·exact hf.elim
  ·have hf:b=g:=hf
   subst hf
   exact (Ua.1 h1).1
def Qz (O:Yc) (b:Nat) (w w':World):Prop:=
 w'.heap[b]? = w.heap[b]?∨∃cs cs' e fr,w.heap[b]? = some (.cells cs e fr)/\w'.heap[b]? = some (.cells cs' e fr)/\cs'.size=cs.size/\∀o,¬O b o->cs'[o]? = cs[o]?
theorem Qz.eq {O:Yc} {b:Nat} {w w':World} (h:Qz O b w w') (hn:∀o,¬O b o):w'.heap[b]? = w.heap[b]?:=by
 rcases h with h|⟨cs,cs',e,fr,h1,h2,hs,hc⟩
 ·exact h
 ·have:cs'=cs:=by
   apply Array.ext hs
   intro i h1 h2
   have:=hc i (hn i)
   simpa [h1,h2] using this
  rw [h1,h2,this]
theorem Qz.cell {O:Yc} {b:Nat} {w w':World} (h:Qz O b w w') {o:Nat} (hn:¬O b o):w'.cell? ⟨b,o,none⟩=w.cell? ⟨b,o,none⟩:=by
 rcases h with h|⟨cs,cs',e,fr,h1,h2,hs,hc⟩
 ·simp [World.cell?,h]
 ·simp [World.cell?,h1,h2,hc o hn]
theorem Qz.mono {O O':Yc} {b:Nat} {w w':World} (h:Qz O b w w') (hO:∀o,O b o->O' b o):Qz O' b w w':=by
 rcases h with h|⟨cs,cs',e,fr,h1,h2,hs,hc⟩
 ·exact .inl h
 ·exact .inr ⟨cs,cs',e,fr,h1,h2,hs,fun o hn=>hc o fun h=>hn (hO o h)⟩
theorem Qz.trans {O:Yc} {b:Nat} {w w' w'':World} (h:Qz O b w w') (k:Qz O b w' w''):Qz O b w w'':=by
 rcases h with h|⟨cs,cs',e,fr,h1,h2,hs,hc⟩
 ·rcases k with k|⟨cs,cs',e,fr,h1,h2,hs,hc⟩
  ·exact .inl (k.trans h)
  ·exact .inr ⟨cs,cs',e,fr,h▸h1,h2,hs,hc⟩
 ·rcases k with k|⟨ds,ds',e',fr',k1,k2,ks,kc⟩
  ·exact .inr ⟨cs,cs',e,fr,h1,k▸h2,hs,hc⟩
  ·rw [h2] at k1
   cases k1
   exact .inr ⟨cs,ds',e,fr,h1,k2,ks.trans hs,fun o hn=>(kc o hn).trans (hc o hn)⟩
structure YU (w:World) (G:Yc) (h:List Res) (w':World) (G':Yc) (h':List Res):Prop where
 os:w'.os=w.os
 tape:w'.tape=w.tape
 output:w'.output=w.output
 size:w.heap.size<=w'.heap.size
 sub:∀b o,G b o->G' b o
 same:∀b,b<w.heap.size->Qz (V3 h) b w w'
 newG:∀b o,b<w.heap.size->G' b o->G b o∨V3 h b o
 newfp:∀b o,b<w.heap.size->V3 h' b o->V3 h b o
theorem YU.refl (w:World) (G:Yc) (h:List Res):YU w G h w G h:=
 ⟨rfl,rfl,rfl,X6 _,fun _ _ h=>h,fun _ _=>.inl rfl,fun _ _ _ h=>.inl h,fun _ _ _ h=>h⟩
theorem YU.trans {w w' w'':World} {G G' G'':Yc} {h h' h'':List Res} (a:YU w G h w' G' h') (b:YU w' G' h' w'' G'' h''):YU w G h w'' G'' h'' where
 os:=b.os.trans a.os
 tape:=b.tape.trans a.tape
 output:=b.output.trans a.output
 size:=Vh a.size b.size
 sub:=fun x o hg=>b.sub x o (a.sub x o hg)
 same:=fun x hx=>(a.same x hx).trans ((b.same x (HH hx a.size)).mono fun o ho=>a.newfp x o hx ho)
 newG:=fun x o hx hg=>by
  rcases b.newG x o (HH hx a.size) hg with h1|h1
  ·exact a.newG x o hx h1
  ·exact .inr (a.newfp x o hx h1)
 newfp:=fun x o hx ho=>a.newfp x o hx (b.newfp x o (HH hx a.size) ho)
theorem YU.agree {w w':World} {G G':Yc} {h h':List Res} (e:YU w G h w' G' h') (hk:YB w G h):Vt G w w' G' where
 cell:=fun b o hg=>(e.same b (hk.lt b o hg)).cell fun ⟨r,hr,hf⟩=>hk.prot r hr b o hf hg
 sub:=e.sub
theorem JZ {h k:List Res} {b o:Nat}:V3 (h++k) b o↔V3 h b o∨V3 k b o:=by
 unfold V3
 constructor
 ·rintro ⟨r,hr,hf⟩
  rcases Xr.1 hr with hr|hr
  ·exact .inl ⟨r,hr,hf⟩
  ·exact .inr ⟨r,hr,hf⟩
 ·rintro (⟨r,hr,hf⟩|⟨r,hr,hf⟩)
  ·exact ⟨r,Xr.2 (.inl hr),hf⟩
  ·exact ⟨r,Xr.2 (.inr hr),hf⟩
theorem YB.left {w:World} {G:Yc} {h k:List Res} (H:YB w G (h++k)):YB w G h:=
 ⟨fun r hr=>H.ok r (Xr.2 (.inl hr)),(JC.1 H.apart).1,fun r hr=>H.prot r (Xr.2 (.inl hr)),H.lt⟩
theorem YB.cross {w:World} {G:Yc} {h k:List Res} (H:YB w G (h++k)) {b o:Nat} (h1:V3 h b o) (h2:V3 k b o):False:=by
 obtain ⟨r,hr,hf⟩:=h1
 obtain ⟨r',hr',hf'⟩:=h2
 exact (JC.1 H.apart).2.2 r hr r' hr' b o hf hf'
theorem YB.frame {w w':World} {G G':Yc} {h h' k:List Res} (H:YB w G (h++k)) (e:YU w G h w' G' h') (H':YB w' G' h') :
  YB w' G' (h'++k)/\YU w G (h++k) w' G' (h'++k):=by
 have hA:=e.agree H.left
 have hkok:∀r∈k,TT w G r:=fun r hr=>H.ok r (Xr.2 (.inr hr))
 have hklt:∀b o,V3 k b o->b<w.heap.size:=fun b o ⟨r,hr,hf⟩=>(hkok r hr).lt b o hf
 refine ⟨⟨?_,?_,?_,H'.lt⟩,⟨e.os,e.tape,e.output,e.size,e.sub,?_,?_,?_⟩⟩
 ·intro r hr
  rcases Xr.1 hr with hr|hr
  ·exact H'.ok r hr
  ·have h0:=hkok r hr
   cases r with
   | obj b ls=>
    obtain ⟨cs,el,h1,h2⟩:=h0
    have hb:=(Ua.1 h1).1
    refine ⟨cs,el,?_,h2.mono hA⟩
    rw [(e.same b hb).eq fun _ ho=>H.cross ho ⟨_,hr,rfl⟩]
    exact h1
   | tail v kk=>
    rcases h0 with rfl|⟨g,len,cap,cur,el,rfl,h1,h2,h3⟩
    ·exact .inl rfl
    ·have hb:=(Ua.1 h1).1
     rcases e.same g hb with hs|⟨cs,cs',e',fr,k1,k2,k3,_⟩
     ·exact .inr ⟨g,len,cap,cur,el,rfl,hs.trans h1,h2,h3⟩
     ·rw [h1] at k1
      cases k1
      exact .inr ⟨g,len,cap,cs',el,rfl,k2,h2,k3.trans h3⟩
   | ge s=>exact Vh h0 e.size
   | vec v ls=>
    rcases h0 with ⟨rfl,h0⟩|⟨g,cap,cur,el,rfl,h1,h2,h3,h4⟩
    ·exact .inl ⟨rfl,h0⟩
    ·have hb:=(Ua.1 h1).1
     refine .inr ⟨g,cap,cur,el,rfl,?_,h2,h3,h4.mono hA⟩
     rw [(e.same g hb).eq fun o ho=>H.cross ho ⟨_,hr,rfl⟩]
     exact h1
   | many ts=>
    refine ⟨fun p hp=>?_,h0.2⟩
    rcases h0.1 p hp with q|⟨g,len,cap,cur,el,q,h1,h2,h3⟩
    ·exact .inl q
    ·have hb:=(Ua.1 h1).1
     rcases e.same g hb with hs|⟨cs,cs',e',fr,k1,k2,k3,_⟩
     ·exact .inr ⟨g,len,cap,cur,el,q,hs.trans h1,h2,h3⟩
     ·rw [h1] at k1
      cases k1
      exact .inr ⟨g,len,cap,cs',el,q,k2,h2,k3.trans h3⟩
   | own B m=>
    intro b hB
    obtain ⟨cs,el,h1,h2⟩:=h0 b hB
    have hb:=(Ua.1 h1).1
    refine ⟨cs,el,?_,h2⟩
    rw [(e.same b hb).eq fun o ho=>H.cross ho ⟨_,hr,hB⟩]
    exact h1
   | row v k ls=>
    rcases h0 with ⟨rfl,h0⟩|⟨g,len,cap,cur,el,rfl,h1,h2,h3,h4,h5⟩
    ·exact .inl ⟨rfl,h0⟩
    ·have hb:=(Ua.1 h1).1
     refine .inr ⟨g,len,cap,cur,el,rfl,?_,h2,h3,h4,h5.mono hA⟩
     rw [(e.same g hb).eq fun o ho=>H.cross ho ⟨_,hr,rfl⟩]
     exact h1
 ·refine JC.2 ⟨H'.apart,(JC.1 H.apart).2.1,fun r hr r' hr' b o hf hf'=>?_⟩
  have hb:=hklt b o ⟨r',hr',hf'⟩
  exact H.cross (e.newfp b o hb ⟨r,hr,hf⟩) ⟨r',hr',hf'⟩
 ·intro r hr b o hf hg
  rcases Xr.1 hr with hr|hr
  ·exact H'.prot r hr b o hf hg
  ·have hb:=hklt b o ⟨r,hr,hf⟩
   rcases e.newG b o hb hg with h1|h1
   ·exact H.prot r (Xr.2 (.inr hr)) b o hf h1
   ·exact H.cross h1 ⟨r,hr,hf⟩
 ·exact fun b hb=>(e.same b hb).mono fun _ ho=>JZ.2 (.inl ho)
 ·intro b o hb hg
  exact (e.newG b o hb hg).imp id fun h=>JZ.2 (.inl h)
 ·intro b o hb hf
  rcases JZ.1 hf with h1|h1
  ·exact JZ.2 (.inl (e.newfp b o hb h1))
  ·exact JZ.2 (.inr h1)
theorem JG.symm {r r':Res} (h:JG r r'):JG r' r:=fun b o h1 h2=>h b o h2 h1
theorem AQ {h k:List Res} (p:h.Perm k) {b o:Nat}:V3 h b o↔V3 k b o:=
 ⟨fun ⟨r,hr,hf⟩=>⟨r,p.mem_iff.1 hr,hf⟩,fun ⟨r,hr,hf⟩=>⟨r,p.mem_iff.2 hr,hf⟩⟩
theorem YB.perm {w:World} {G:Yc} {h k:List Res} (H:YB w G h) (p:h.Perm k):YB w G k:=
 ⟨fun r hr=>H.ok r (p.mem_iff.2 hr),(p.pairwise_iff (fun h=>JG.symm h)).1 H.apart,fun r hr=>H.prot r (p.mem_iff.2 hr),H.lt⟩
theorem YU.perm {w w':World} {G G':Yc} {h h' k k':List Res} (e:YU w G h w' G' h') (p:h.Perm k) (p':h'.Perm k'):YU w G k w' G' k':=
 ⟨e.os,e.tape,e.output,e.size,e.sub,fun b hb=>(e.same b hb).mono fun _ ho=>(AQ p).1 ho,
  fun b o hb hg=>(e.newG b o hb hg).imp id (AQ p).1,fun b o hb hf=>(AQ p).1 (e.newfp b o hb ((AQ p').2 hf))⟩
abbrev Fr:=List (Nat × AV)
def Fr.get:Fr->Nat->AV
 | [],_=>.any
 | (s,x)::r,t=>match Nat.beq s t with | true=>x | false=>Fr.get r t
def AV.ofVal:Value->AV
 | .slice none 0 0=>.sl [] (some (.slice none 0 0))
 | v=>.val v
theorem RV.ofVal {w:World} {G:Yc} (v:Value):RV w G (AV.ofVal v) v:=by
 unfold AV.ofVal
 split
 ·exact .nil (by simp)
 ·exact .val
def Fr.ev (F:Fr):Operand->AV
 | .tmp t=>F.get t
 | .const v=>AV.ofVal v
 | .global g=>.val (.pointer (some ⟨g,0,none⟩))
 | .func f=>.val (.func (.func f) #[] #[])
def Fr.put (F:Fr) (d:Option Tmp) (x:AV):Fr:=
 match d with
 | some d=>(d,x)::F
 | none=>F
structure FR (w:World) (G:Yc) (n:Nat) (F:Fr) (a:Act):Prop where
 defers:a.defers=[]
 size:a.tmps.size=n
 get:∀t,RV w G (F.get t) (a.tmps.getD t undef)
section
variable {w w':World} {G G':Yc} {n:Nat} {F:Fr} {a:Act}
theorem FR.mono (h:FR w G n F a) (hA:Vt G w w' G'):FR w' G' n F a:=⟨h.defers,h.size,fun t=>(h.get t).mono hA⟩
theorem FR.ev (h:FR w G n F a) (x:Operand):RV w G (F.ev x) (a.eval x):=by
 cases x with
 | tmp t=>exact h.get t
 | const v=>exact RV.ofVal v
 | global g=>exact .val
 | func f=>exact .val
theorem FR.put (h:FR w G n F a) {d:Option Tmp} {x:AV} {v:Value} (hd:∀t,d=some t->t<n) (hx:RV w G x v):FR w G n (F.put d x) (a.put d v):=by
 cases d with
 | none=>exact h
 | some d=>
  have hlt:=hd d rfl
  refine ⟨h.defers,by simp [Act.put,h.size],fun t=>?_⟩
  show RV w G (match Nat.beq d t with|true=>x|false=>Fr.get F t) ((a.tmps.setIfInBounds d v).getD t undef)
  by_cases e:d=t
  ·subst e
   have:Nat.beq d d=true:=Nat.beq_refl d
   rw [this]
   simp [h.size,hlt,hx]
  ·have hb:Nat.beq d t=false:=by
    cases hh:Nat.beq d t
    ·rfl
    ·exact absurd (U0 hh) e
   rw [hb]
   have:=h.get t
   simpa [Array.getElem?_setIfInBounds_ne e] using this
end
def Fr.Le (F F':Fr):Prop:=∀w G v t,RV w G (F.get t) v->RV w G (F'.get t) v
theorem FR.le {w:World} {G:Yc} {n:Nat} {F F':Fr} {a:Act} (h:FR w G n F a) (hle:F.Le F'):FR w G n F' a:=
 ⟨h.defers,h.size,fun t=>hle _ _ _ _ (h.get t)⟩
abbrev Vc:=Exit->Fr->List Res->Prop
def J0 (n:Nat) (A:Vc) (w:World) (G:Yc) (h:List Res) (e:Exit) (a':Act) (w':World):Prop:=
 ∃F' h' G',A e F' h'/\FR w' G' n F' a'/\YB w' G' h'/\YU w G h w' G' h'
theorem J0.trans {n:Nat} {A:Vc} {w w' w'':World} {G G':Yc} {h h':List Res} {e:Exit} {a:Act} (x:YU w G h w' G' h') (c:J0 n A w' G' h' e a w'') :
  J0 n A w G h e a w'':=by
 obtain ⟨F,k,G'',h1,h2,h3,h4⟩:=c
 exact ⟨F,k,G'',h1,h2,h3,x.trans h4⟩
theorem J0.mono {n:Nat} {A B:Vc} {w w':World} {G:Yc} {h:List Res} {e:Exit} {a:Act} (hAB:∀e F h,A e F h->B e F h) (c:J0 n A w G h e a w') :
  J0 n B w G h e a w':=by
 obtain ⟨F,k,G'',h1,h2,h3,h4⟩:=c
 exact ⟨F,k,G'',hAB _ _ _ h1,h2,h3,h4⟩
def X1 (P:Program) (n:Nat) (c:Code) (A:Vc) (F:Fr) (h:List Res):Prop:=
 ∀w G a,FR w G n F a->YB w G h->c.wp P (J0 n A w G h) a w
def Zi (P:Program) (f:FuncId) (args:List AV) (h:List Res) (R:AV->List Res->Prop):Prop:=
 ∀w G vs,YP w G args vs->YB w G h ->
  Calls P f vs.toArray w fun e w'=>∃v r h' G',e=.returned v/\R r h'/\RV w' G' r v/\YB w' G' h'/\YU w G h w' G' h'
theorem Zi.mono {P:Program} {f:FuncId} {args:List AV} {h:List Res} {R R':AV->List Res->Prop} (H:Zi P f args h R) (hR:∀r h',R r h'->R' r h') :
  Zi P f args h R':=fun w G vs ha hh=>(H w G vs ha hh).mono fun _ _ ⟨v,r,h',G',h1,h2,h3⟩=>⟨v,r,h',G',h1,hR _ _ h2,h3⟩
def We (P:Program) (n:Nat) (o:Oper) (F:Fr) (h:List Res) (K:Fr->List Res->Prop):Prop:=
 ∀(Q:Exit->Act->World->Prop) w G a,FR w G n F a->YB w G h ->
  o.wp P a w (fun a' w'=>∃F' h' G',K F' h'/\FR w' G' n F' a'/\YB w' G' h'/\YU w G h w' G' h') Q
def WW (n:Nat) (o:Oper):Bool:=match o.dst with|some d=>Nat.blt d n|none=>true
theorem U4 {n:Nat} {o:Oper} (h:WW n o=true):∀t,o.dst=some t->t<n:=by
 intro t ht
 simp [WW,ht] at h
 exact h
def Xy (P:Program) (o:Oper) (F:Fr) (h:List Res) (ks:List Nat) (x:AV):Prop:=
 ∀n w G a,FR w G n F a->YB w G h->∃v,RV w G x v /\
  ∀w',(∀b o,G b o->w'.cell? ⟨b,o,none⟩=w.cell? ⟨b,o,none⟩)->(∀b∈ks,w'.heap[b]? = w.heap[b]?)->(execOp a.eval o).run P w'=.ok (.value v) w'
theorem Xy.op {P:Program} {n:Nat} {o:Oper} {F:Fr} {h:List Res} {ks:List Nat} {x:AV} {K:Fr->List Res->Prop} (hs:Xy P o F h ks x) (hd:WW n o=true)
  (hK:K (F.put o.dst x) h):We P n o F h K:=by
 intro Q w G a hF hh
 obtain ⟨v,hv,hr⟩:=hs n w G a hF hh
 unfold Oper.wp
 rw [hr w (fun _ _ _=>rfl) (fun _ _=>rfl)]
 exact ⟨_,h,G,hK,hF.put (U4 hd) hv,hh,YU.refl _ _ _⟩
def Ci (op:BinOp) (k:IntKind) (a b:Int):Option Value:=
 match op with
 | .add=>some (.int k (k.wrap (a+b)))
 | .sub=>some (.int k (k.wrap (a-b)))
 | .mul=>some (.int k (k.wrap (a*b)))
 | .eql=>some (.bool (a==b))
 | .neq=>some (.bool (a != b))
 | .lss=>some (.bool (decide (a<b)))
 | .leq=>some (.bool (decide (a<=b)))
 | .gtr=>some (.bool (decide (a>b)))
 | .geq=>some (.bool (decide (a>=b)))
 | _=>none
def CT:IntKind->IntKind->Bool
 | .i8,.i8 | .i16,.i16 | .i32,.i32 | .i64,.i64 | .u8,.u8 | .u16,.u16 | .u32,.u32 | .u64,.u64=>true
 | _,_=>false
theorem Z5s {a b:IntKind} (h:CT a b=true):a=b:=by cases a<;>cases b<;>first|rfl|(simp [CT] at h)
def AY (P:Program) (t:TypeId):Option (Array Field):=
 match P.underlying t with
 | some (.struct fs)=>some fs
 | _=>none
def BF (P:Program) (t:TypeId):Option Bool:=
 match P.underlying t with
 | some (.struct _) | some (.array _ _)=>some true
 | some _=>some false
 | none=>none
def Cm (P:Program) (t:TypeId) (f:Nat):Option Nat:=
 match AY P t with
 | some fs=>match fs[f]? with
  | some fd=>match (P.info? fd.type) with
   | some i=>match Nat.beq i.size 0 with | true=>none | false=>some fd.offset
   | none=>none
  | none=>none
 | none=>none
def Jq (P:Program) (t:TypeId) (ls:List AV):Option AV:=
 match BF P t,P.info? t with
 | some true,some i=>match Nat.ble i.size ls.length with | true=>some (.agg (ls.take i.size)) | false=>none
 | some false,some _=>ls.head?
 | _,_=>none
def AV.one:AV->Bool
 | .val v=>v.oneCell'
 | .sl _ _=>true
 | .rp _=>true
 | _=>false
def AV.fit:AV->Bool
 | .agg _=>true
 | x=>x.one
def Je (place:Nat->Option (Nat × Nat)) (ls:List AV):List (Nat × AV)->Option (List AV)
 | []=>some ls
 | (i,x)::rest=>
  match place i with
  | none=>none
  | some (off,size)=>match x.fit&&(Nat.beq x.leaves.length size&&Nat.ble (off+size) ls.length) with
   | true=>Je place (ls.take off++x.leaves++ls.drop (off+size)) rest
   | false=>none
def BY (P:Program) (t:TypeId):Option (List AV):=
 match P.info? t with
 | some i=>match i.zero with
  | some z=>some (z.cells.toList.map AV.ofVal)
  | none=>none
 | none=>none
def CQ (P:Program) (fs:Array Field) (i:Nat):Option (Nat × Nat):=
 match fs[i]? with
 | some f=>match P.info? f.type with
  | some j=>some (f.offset,j.size)
  | none=>none
 | none=>none
def IM (P:Program) (fs:Array Field):Bool:=fs.toList.all fun f=>(P.info? f.type).isSome
def K3:List AV->Option (List Value)
 | []=>some []
 | .val v::r=>match K3 r with | some vs=>some (v::vs) | none=>none
 | _::_=>none
def Tq (P:Program) (o:Oper) (F:Fr) (h:List Res) (hint:Nat):Option (AV × List (Nat × Nat)):=
 match o.op with
 | .move x | .assign x=>some (F.ev x,[])
 | .pick c a b=>match F.ev c with
  | .val (.bool true)=>some (F.ev a,[])
  | .val (.bool false)=>some (F.ev b,[])
  | _=>none
 | .binOp op _ x y _=>match F.ev x,F.ev y with
  | .val (.int k a),.val (.int k' b)=>match CT k k' with
   | true=>match Ci op k a b with
    | some v=>some (.val v,[])
    | none=>none
   | false=>none
  | _,_=>none
 | .unOp op _ x=>match op,F.ev x with
  | .not,.val (.bool b)=>some (.val (.bool (!b)),[])
  | _,_=>none
 | .nilCheck x=>match F.ev x with
  | .val (.pointer (some a))=>some (.val (.pointer (some a)),[])
  | .rp ls=>some (.rp ls,[])
  | .val (.func (.func f) p c)=>some (.val (.func (.func f) p c),[])
  | _=>none
 | .fieldAddr s x f=>match Cm P s f with
  | some off=>match F.ev x with
   | .rp ls=>some (.rp (ls.drop off),[])
   | .val (.pointer (some ⟨b,o,none⟩))=>some (.val (.pointer (some ⟨b,o+off,none⟩)),[])
   | _=>none
  | none=>none
 | .field s x f=>match Cm P s f,AY P s with
  | some off,some fs=>match fs[f]? with
   | some fd=>match F.ev x with
    | .agg ls=>match Jq P fd.type (ls.drop off) with
     | some v=>some (v,[])
     | none=>none
    | _=>none
   | none=>none
  | _,_=>none
 | .load t x=>match F.ev x with
  | .rp ls=>match Jq P t ls with
   | some v=>some (v,[])
   | none=>none
  | .val (.pointer (some ⟨b,o,none⟩))=>match h[hint]? with
   | some (.obj b' ls)=>match Jq P t (ls.drop o) with
    | some v=>some (v,[(b,b')])
    | none=>none
   | _=>none
  | _=>none
 | .extract x i=>match F.ev x with
  | .tup vs=>match vs[i]? with
   | some v=>some (v,[])
   | none=>none
  | _=>none
 | .build t parts=>match AY P t,BY P t with
  | some fs,some z=>match IM P fs with
   | true=>match Je (CQ P fs) z (parts.toList.map fun p=>(p.1,F.ev p.2)) with
    | some ls=>some (.agg ls,[])
    | none=>none
   | false=>none
  | _,_=>none
 | .makeFunc fn first captured=>match K3 (first.toList.map F.ev),K3 (captured.toList.map F.ev) with
  | some vs,some us=>some (.val (.func fn vs.toArray us.toArray),[])
  | _,_=>none
 | .call c=>match c.callee,c.args.toList,c.argTypes.toList with
  | .builtin .len,[x],[t]=>match P.underlying t with
   | some (.slice _)=>match F.ev x with
    | .sl es _=>some (.val (.int .i64 (es.length:Int)),[])
    | .val (.slice _ len _)=>some (.val (.int .i64 (len:Int)),[])
    | _=>none
   | _=>none
  | _,_,_=>none
 | _=>none
theorem Vs {P:Program} {t:TypeId} {d:TypeDesc} (h:P.underlying t=some d) (w:World):(underlying t).run P w=.ok d w:=by
 simp [underlying,h]
theorem Eu {P:Program} {t:TypeId} {i:TypeInfo} (h:P.info? t=some i) (w:World):(typeInfo t).run P w=.ok i w:=by
 simp [typeInfo,h]
theorem TL {P:Program} {t:TypeId} {i:TypeInfo} (h:P.info? t=some i) (w:World):(sizeOf t).run P w=.ok i.size w:=by
 simp [sizeOf,Eu h]
theorem Gq {P:Program} {t:TypeId} {fs:Array Field} (h:AY P t=some fs):P.underlying t=some (.struct fs):=by
 unfold AY at h
 split at h
 ·simp_all
 ·cases h
theorem CS {P:Program} {t:TypeId} {b:Bool} (h:BF P t=some b) (w:World):(isAgg t).run P w=.ok b w:=by
 unfold BF at h
 split at h
 ·rename_i h';cases h;simp [isAgg,Vs h']
 ·rename_i h';cases h;simp [isAgg,Vs h']
 ·rename_i d hd1 hd2 h'
  cases h
  simp [isAgg,Vs h']
 ·cases h
theorem IK {P:Program} {s:TypeId} {f off:Nat} (h:Cm P s f=some off) :
  ∃fs fd i,P.underlying s=some (.struct fs)/\fs[f]? = some fd/\P.info? fd.type=some i/\i.size≠0/\fd.offset=off:=by
 unfold Cm at h
 cases h1:AY P s with
 | none=>simp [h1] at h
 | some fs=>
  cases h2:fs[f]? with
  | none=>simp [h1,h2] at h
  | some fd=>
   cases h3:P.info? fd.type with
   | none=>simp [h1,h2,h3] at h
   | some i=>
    cases h4:Nat.beq i.size 0 with
    | true=>simp [h1,h2,h3,h4] at h
    | false=>
     simp [h1,h2,h3,h4] at h
     refine ⟨fs,fd,i,Gq h1,h2,h3,fun h0=>?_,h⟩
     rw [h0] at h4
     cases h4
theorem QA (b o n:Nat):(⟨b,o,none⟩:Addr).add n=⟨b,o+n,none⟩:=by
 unfold Addr.add;split<;>simp_all
theorem Nb {P:Program} {s:TypeId} {f off b o:Nat} (h:Cm P s f=some off) (w:World) :
  (Instr.fieldAt s (.pointer (some ⟨b,o,none⟩)) f).run P w=.ok (.pointer (some ⟨b,o+off,none⟩)) w:=by
 obtain ⟨fs,fd,i,h1,h2,h3,h4,rfl⟩:=IK h
 simp [Instr.fieldAt,Vs h1,h2,Instr.sureAddr,fieldPlace,TL h3,h4,QA]
theorem Et {P:Program} {t:TypeId} {ls:List AV} {x:AV} {w0:World} {G:Yc} {b o:Nat} {cs:List Value} (hx:Jq P t ls=some x) (hcs:YP w0 G ls cs) :
  ∃v,RV w0 G x v/\∀w',(∀j u,cs[j]? = some u->w'.cell? ⟨b,o+j,none⟩=some u)->(loadVar t ⟨b,o,none⟩).run P w'=.ok v w':=by
 unfold Jq at hx
 cases hb:BF P t with
 | none=>simp [hb] at hx
 | some g=>
  cases hi:P.info? t with
  | none=>cases g<;>simp [hb,hi] at hx
  | some i=>
   cases g with
   | true=>
    simp only [hb,hi] at hx
    cases hle:Nat.ble i.size ls.length with
    | false=>simp [hle] at hx
    | true=>
     simp only [hle,XV] at hx
     subst hx
     have hlen:i.size<=ls.length:=WF hle
     refine ⟨_,.agg (hcs.take i.size),fun w' hc=>?_⟩
     have Xq:(cs.take i.size).length=i.size:=by simp [hcs.length,hlen]
     have:=run_loadCells_list (P:=P) (w:=w') ⟨b,o,none⟩ (cs.take i.size) (fun j v hj=>by
      rw [QA]
      rw [Qd] at hj
      split at hj
      ·exact hc j v hj
      ·cases hj)
     rw [Xq] at this
     simp [loadVar,CS hb,TL hi,this]
   | false=>
    simp only [hb,hi] at hx
    cases hcs with
    | nil=>simp at hx
    | cons h1 h2=>
     rename_i c vs xs
     simp at hx
     subst hx
     refine ⟨_,h1,fun w' hc=>?_⟩
     have:=hc 0 c (by simp)
     simp only [Be] at this
     simp only [loadVar,Sem.run_bind,CS hb,Result.andThen_ok]
     simp [load,Sem.run,this]
theorem V0 {P:Program} {x:Sem Value} {w w':World} {v:Value} (h:x.run P w=.ok v w') :
  (do pure (Next.value (<-x)):Sem Next).run P w=.ok (.value v) w':=by
 simp [h]
theorem HB {w:World} {G:Yc} {a:Act} {n:Nat} {F:Fr} (hF:FR w G n F a):∀{xs:List Operand} {vs:List Value},K3 (xs.map F.ev)=some vs->xs.map a.eval=vs
 | [],vs,h=>by simp [K3] at h;simp [h]
 | x::xs,vs,h=>by
  simp only [Un] at h ⊢
  have hx:=hF.ev x
  cases he:F.ev x with
  | val v=>
   simp only [he,K3] at h
   cases h2:K3 (xs.map F.ev) with
   | none=>simp [h2] at h
   | some us=>
    simp [h2] at h
    rw [he] at hx
    cases hx
    rw [HB hF h2,h]
  | any=>simp [he,K3] at h
  | sl es hv=>simp [he,K3] at h
  | agg ls=>simp [he,K3] at h
  | rp ls=>simp [he,K3] at h
  | tup vs=>simp [he,K3] at h
theorem RO {P:Program} {op:BinOp} {k:IntKind} {a b:Int} {v:Value} (h:Ci op k a b=some v) (xt:TypeId) (x y:Operand) (w:World) :
  (do eqGuard op xt x y (.int k a) (.int k b);binOp op xt (.int k a) (.int k b)).run P w=.ok v w:=by
 cases op<;>simp [Ci] at h<;>subst h<;>simp [eqGuard,binOp,Op.intArith,Op.intCmp]
theorem RV.val_inv {w:World} {G:Yc} {v u:Value} (h:RV w G (.val v) u):u=v:=by cases h;rfl
theorem RV.one_cell {w:World} {G:Yc} {x:AV} {v:Value} (h:RV w G x v) (hx:x.one=true):v.oneCell'=true:=by
 cases h with
 | val=>exact hx
 | nil=>rfl
 | sl=>rfl
 | rp=>rfl
 | any=>simp [AV.one] at hx
 | agg=>simp [AV.one] at hx
 | tup=>simp [AV.one] at hx
theorem Fl {v:Value} (h:v.oneCell'=true):v.cells.toList=[v]:=by
 cases v<;>first|rfl|(simp [Value.oneCell'] at h)
theorem RV.cells {w:World} {G:Yc} {x:AV} {v:Value} (h:RV w G x v) (hx:x.fit=true):YP w G x.leaves v.cells.toList:=by
 cases x with
 | agg ls=>cases h with | agg hh=>simpa [AV.leaves,Value.cells] using hh
 | any=>simp [AV.fit,AV.one] at hx
 | tup vs=>simp [AV.fit,AV.one] at hx
 | val u=>rw [Fl (h.one_cell hx)];exact .cons h .nil
 | sl es hv=>rw [Fl (h.one_cell rfl)];exact .cons h .nil
 | rp ls=>rw [Fl (h.one_cell rfl)];exact .cons h .nil
theorem YP.one_cells {w:World} {G:Yc}:∀{xs:List AV} {vs:List Value},YP w G xs vs->xs.all AV.one=true->∀v∈vs,v.oneCell'=true
 | _,_,.nil,_,v,hv=>by simp at hv
 | _,_,.cons h t,hx,v,hv=>by
  simp only [List.all_cons,XL] at hx
  rcases YQ.1 hv with rfl|hv
  ·exact h.one_cell hx.1
  ·exact t.one_cells hx.2 v hv
theorem Nm (off:Nat):∀(vs:List Value) (i:Nat) (cs:Array Value),off+i+vs.length<=cs.size ->
  ((vs.zipIdx i).foldl (fun (cs:Array Value) (p:Value × Nat)=>cs.setIfInBounds (off+p.2) p.1) cs).toList=cs.toList.take (off+i)++vs++cs.toList.drop (off+i+vs.length)
 | [],i,cs,h=>by simp
 | v::vs,i,cs,h=>by
  simp only [List.zipIdx_cons,List.foldl_cons]
  rw [Nm off vs (i+1) _ (by simp at h ⊢;omega)]
  have e:=list_seg_step cs.toList (off+i) v vs (by simp at h ⊢;omega)
  simpa [Array.toList_setIfInBounds,JD] using e
theorem FU {w:World} {G:Yc} {place:Nat->Option (Nat × Nat)}:∀{parts:List (Nat × AV)} {vps:List (Nat × Value)} {ls out:List AV} {cs:Array Value},
  Je place ls parts=some out->parts.map (·.1)=vps.map (·.1)->YP w G (parts.map (·.2)) (vps.map (·.2))->YP w G ls cs.toList ->
  ∃cs',Instr.fill place cs vps=some cs'/\YP w G out cs'.toList
 | [],vps,ls,out,cs,h,h1,h2,h3=>by
  cases vps with
  | nil=>simp [Je] at h;subst h;exact ⟨cs,rfl,h3⟩
  | cons p r=>simp at h1
 | (i,x)::rest,vps,ls,out,cs,h,h1,h2,h3=>by
  cases vps with
  | nil=>simp at h1
  | cons p r=>
   obtain ⟨j,v⟩:=p
   simp only [Un,List.cons.injEq] at h1 h2
   obtain ⟨rfl,h1⟩:=h1
   cases h2 with
   | cons hx ht=>
    simp only [Je] at h
    cases hp:place i with
    | none=>simp [hp] at h
    | some os=>
     obtain ⟨off,size⟩:=os
     simp only [hp] at h
     cases hc:(x.fit&&(Nat.beq x.leaves.length size&&Nat.ble (off+size) ls.length)) with
     | false=>simp [hc] at h
     | true=>
      simp only [hc] at h
      simp only [XL] at hc
      have e1:x.leaves.length=size:=U0 hc.2.1
      have e2:off+size<=ls.length:=WF hc.2.2
      have hl:=h3.length
      have hxc:=hx.cells hc.1
      have hvl:v.cells.size=size:=by have:=hxc.length;simpa [e1] using this
      have hcl:cs.size=ls.length:=by simpa using hl
      have key:YP w G (ls.take off++x.leaves++ls.drop (off+size))
        (v.cells.zipIdx.foldl (fun (cs:Array Value) (p:Value × Nat)=>cs.setIfInBounds (off+p.2) p.1) cs).toList:=by
       have:=Nm off v.cells.toList 0 cs (by simp [hvl,hcl];omega)
       rw [<-Array.foldl_toList,Array.toList_zipIdx,this]
       simp only [Be,Qv,hvl]
       exact ((h3.take off).append hxc).append (h3.drop (off+size))
      obtain ⟨cs',k1,k2⟩:=FU h h1 ht key
      refine ⟨cs',?_,k2⟩
      simp only [Instr.fill,hp]
      rw [Zc (by simp [hvl,hcl];omega)]
      exact k1
theorem Oo {P:Program} {t:TypeId} {ls:List AV} (h:BY P t=some ls) :
  ∃i z,P.info? t=some i/\i.zero=some z/\ls=z.cells.toList.map AV.ofVal:=by
 unfold BY at h
 cases hi:P.info? t with
 | none=>simp [hi] at h
 | some i=>
  cases hz:i.zero with
  | none=>simp [hi,hz] at h
  | some z=>simp [hi,hz] at h;exact ⟨i,z,rfl,hz,h.symm⟩
theorem YP.ofVals {w:World} {G:Yc}:∀(vs:List Value),YP w G (vs.map AV.ofVal) vs
 | []=>.nil
 | v::vs=>.cons (RV.ofVal v) (YP.ofVals vs)
theorem YP.map {w:World} {G:Yc} {α:Type} (f:α->AV) (g:α->Value):∀(xs:List α),(∀x∈xs,RV w G (f x) (g x))->YP w G (xs.map f) (xs.map g)
 | [],_=>.nil
 | x::xs,h=>.cons (h x (by simp)) (YP.map f g xs fun y hy=>h y (by simp [hy]))
theorem Ng {P:Program} (w:World):∀(l:List Field),(l.all fun f=>(P.info? f.type).isSome)=true ->
  (List.mapM (m:=Sem) (fun f=>Functor.map (Prod.mk f.offset) (sizeOf f.type)) l).run P w=.ok (l.map fun f=>(f.offset,((P.info? f.type).map (·.size)).getD 0)) w
 | [],_=>by simp
 | f::l,h=>by
  simp only [List.all_cons,XL] at h
  cases hfi:P.info? f.type with
  | none=>simp [hfi] at h
  | some j=>simp [TL hfi,Ng w l h.2,hfi]
theorem Z5m {P:Program} {t:TypeId} {fs:Array Field} {z ls:List AV} {w:World} {G:Yc} {n:Nat} {F:Fr} {a:Act} (hF:FR w G n F a) (parts:Array (Nat × Operand))
  (h1:AY P t=some fs) (h2:BY P t=some z) (h4:IM P fs=true) (h3:Je (CQ P fs) z (parts.toList.map fun p=>(p.1,F.ev p.2))=some ls) :
  ∃v,RV w G (.agg ls) v/\∀w',(Instr.build t (parts.map fun (i,x)=>(i,a.eval x))).run P w'=.ok v w':=by
 obtain ⟨i,zv,hi,hz,rfl⟩:=Oo h2
 have hu:=Gq h1
 have hpl:∀k,((fs.toList.map fun f=>(f.offset,((P.info? f.type).map (·.size)).getD 0)).toArray)[k]? = CQ P fs k:=by
  intro k
  unfold CQ
  simp only [List.getElem?_toArray,Kr,EQ]
  cases hk:fs[k]? with
  | none=>rfl
  | some f=>
   have hf:(P.info? f.type).isSome=true:=by
    have:=Kq.1 h4 f (by rw [Array.mem_toList_iff];exact Array.mem_of_getElem? hk)
    exact this
   cases hfi:P.info? f.type with
   | none=>simp [hfi] at hf
   | some j=>simp [hfi]
 obtain ⟨cs',k1,k2⟩:=FU (w:=w) (G:=G) (vps:=parts.toList.map fun p=>(p.1,a.eval p.2)) h3 (by simp [List.map_map,Function.comp_def])
  (by simpa [List.map_map,Function.comp_def] using YP.map (fun p:Nat × Operand=>F.ev p.2) (fun p=>a.eval p.2) parts.toList fun p _=>hF.ev p.2)
  (cs:=zv.cells) (YP.ofVals _)
 refine ⟨_,.agg (cs:=cs'.toList) k2,fun w'=>?_⟩
 have hz':(zeroValue t).run P w'=.ok zv w':=by simp [zeroValue,Eu hi,hz]
 have hm:=Ng (P:=P) w' fs.toList h4
 have hfun:(fun k=>((fs.toList.map fun f=>(f.offset,((P.info? f.type).map (·.size)).getD 0)).toArray)[k]?)=CQ P fs:=funext hpl
 simp only [Instr.build,Sem.run_bind,hz',Result.andThen_ok,Vs hu,Array.mapM_eq_mapM_toList]
 simp [hm,hpl,k1,Array.toList_map]
theorem Bv {P:Program} {o:Oper} {F:Fr} {h:List Res} {hint:Nat} {x:AV} {eqs:List (Nat × Nat)} (he:Tq P o F h hint=some (x,eqs))
  (heq:∀p∈eqs,p.1=p.2):Xy P o F h (eqs.map (·.1)) x:=by
 intro n w G a hF hh
 obtain ⟨dst,op,type,pos,after,guard⟩:=o
 cases op<;>simp only [Tq] at he
 case move y=>
  cases he
  exact ⟨_,hF.ev y,fun w' _ _=>by simp [execOp]⟩
 case assign y=>
  cases he
  exact ⟨_,hF.ev y,fun w' _ _=>by simp [execOp]⟩
 case pick c y z=>
  have hc:=hF.ev c
  split at he
  ·rename_i hb
   cases he
   rw [hb] at hc
   have hc:=hc.val_inv
   exact ⟨_,hF.ev y,fun w' _ _=>by simp [execOp,hc,asBool]⟩
  ·rename_i hb
   cases he
   rw [hb] at hc
   have hc:=hc.val_inv
   exact ⟨_,hF.ev z,fun w' _ _=>by simp [execOp,hc,asBool]⟩
  ·cases he
 case binOp bop xt y z yt=>
  have hy:=hF.ev y
  have hz:=hF.ev z
  split at he
  ·rename_i k p k' q h1 h2
   rw [h1] at hy
   rw [h2] at hz
   have hy:=hy.val_inv
   have hz:=hz.val_inv
   split at he
   ·rename_i hk
    have hk:=Z5s hk
    subst hk
    split at he
    ·rename_i v hv
     cases he
     refine ⟨v,.val,fun w' _ _=>?_⟩
     have:=RO (P:=P) hv xt y z w'
     simp only [execOp,hy,hz]
     exact V0 this
    ·cases he
   ·cases he
  ·cases he
 case unOp uop xt y=>
  have hy:=hF.ev y
  split at he
  ·rename_i b hb
   cases he
   rw [hb] at hy
   have hy:=hy.val_inv
   exact ⟨_,.val,fun w' _ _=>by simp [execOp,hy,Op.unary]⟩
  ·cases he
 case nilCheck y=>
  have hy:=hF.ev y
  generalize hv:a.eval y=u at hy
  split at he
  ·rename_i ad hb
   cases he
   rw [hb] at hy
   have hy:=hy.val_inv
   exact ⟨_,.val,fun w' _ _=>by simp [execOp,hv,hy]⟩
  ·rename_i ls hb
   cases he
   rw [hb] at hy
   cases hy with
   | rp hm=>exact ⟨_,.rp hm,fun w' _ _=>by simp [execOp,hv]⟩
  ·rename_i f p c hb
   cases he
   rw [hb] at hy
   have hy:=hy.val_inv
   exact ⟨_,.val,fun w' _ _=>by simp [execOp,hv,hy]⟩
  ·cases he
 case fieldAddr s y f=>
  have hy:=hF.ev y
  generalize hv:a.eval y=u at hy
  split at he
  ·rename_i off hoff
   split at he
   ·rename_i ls hb
    cases he
    rw [hb] at hy
    cases hy with
    | rp hm=>
     refine ⟨_,.rp (hm.drop off),fun w' _ _=>?_⟩
     simp only [execOp,hv]
     exact V0 (Nb hoff w')
   ·rename_i b o' hb
    cases he
    rw [hb] at hy
    have hy:=hy.val_inv
    subst hy
    refine ⟨_,.val,fun w' _ _=>?_⟩
    simp only [execOp,hv]
    exact V0 (Nb hoff w')
   ·cases he
  ·cases he
 case field s y f=>
  have hy:=hF.ev y
  generalize hv:a.eval y=u at hy
  split at he
  ·rename_i off fs hoff hfs
   split at he
   ·rename_i fd hfd
    split at he
    ·rename_i ls hb
     split at he
     ·rename_i v hl
      cases he
      rw [hb] at hy
      cases hy with
      | agg hc=>
       rename_i cs
       obtain ⟨fs',fd',i,k1,k2,k3,k4,rfl⟩:=IK hoff
       have k0:=Gq hfs
       rw [k0] at k1
       cases k1
       rw [hfd] at k2
       cases k2
       have hd:=hc.drop fd.offset
       unfold Jq at hl
       cases hg:BF P fd.type with
       | none=>simp [hg] at hl
       | some g=>
        cases g with
        | true=>
         simp only [hg,k3] at hl
         cases hle:Nat.ble i.size (ls.drop fd.offset).length with
         | false=>rw [hle] at hl;cases hl
         | true=>
          rw [hle] at hl
          simp only [XV] at hl
          subst hl
          refine ⟨_,.agg (hd.take i.size),fun w' _ _=>?_⟩
          simp only [execOp,hv]
          refine V0 ?_
          simp only [Instr.field,Sem.run_bind,Vs k0,Result.andThen_ok,hfd]
          simp [asAgg,part,CS hg,TL k3]
        | false=>
         simp only [hg,k3] at hl
         generalize hls:ls.drop fd.offset=ls' at hl hd
         generalize hcs:cs.drop fd.offset=cs' at hd
         cases hd with
         | nil=>simp at hl
         | cons h1 h2=>
          rename_i c vs xs
          simp at hl
          subst hl
          refine ⟨_,h1,fun w' _ _=>?_⟩
          simp only [execOp,hv]
          refine V0 ?_
          have hget:cs[fd.offset]? = some c:=by
           have:=Yx (fun l=>l[0]?) hcs
           simpa using this
          simp only [Instr.field,Sem.run_bind,Vs k0,Result.andThen_ok,hfd]
          simp [asAgg,part,CS hg,hget]
     ·cases he
    ·cases he
   ·cases he
  ·cases he
 case load t y=>
  have hy:=hF.ev y
  generalize hv:a.eval y=u at hy
  split at he
  ·rename_i ls hb
   split at he
   ·rename_i v hl
    cases he
    rw [hb] at hy
    cases hy with
    | rp hm=>
     rename_i b o'
     obtain ⟨cs,Ze,Zk⟩:=hm.cells
     obtain ⟨v',h1,h2⟩:=Et (b:=b) (o:=o') hl Ze
     refine ⟨v',h1,fun w' hw _=>?_⟩
     simp only [execOp,hv]
     refine V0 ?_
     simp only [Instr.loadAt,Instr.sureAddr,Sem.run_bind,Sem.run_pure,Result.andThen_ok]
     exact h2 w' fun j u hj=>(hw _ _ (Zk j u hj).2).trans (Zk j u hj).1
   ·cases he
  ·rename_i b o' hb
   split at he
   ·rename_i b' ls hh'
    split at he
    ·rename_i v hl
     cases he
     rw [hb] at hy
     have hy:=hy.val_inv
     subst hy
     have hbb:b=b':=heq (b,b') (by simp)
     subst hbb
     obtain ⟨cs,e,k1,k2⟩:=hh.ok _ (Y7 hh')
     obtain ⟨v',h1,h2⟩:=Et (b:=b) (o:=o') hl (k2.drop o')
     refine ⟨v',h1,fun w' _ hw=>?_⟩
     simp only [execOp,hv]
     refine V0 ?_
     simp only [Instr.loadAt,Instr.sureAddr,Sem.run_bind,Sem.run_pure,Result.andThen_ok]
     refine h2 w' fun j u hj=>?_
     have:=hw b (by simp)
     rw [k1] at this
     rw [cell_of_row w' b (o'+j) cs e (0,0) this]
     simpa using hj
    ·cases he
   ·cases he
  ·cases he
 case extract y i=>
  have hy:=hF.ev y
  generalize hv:a.eval y=u at hy
  split at he
  ·rename_i vs hb
   split at he
   ·rename_i v hl
    cases he
    rw [hb] at hy
    cases hy with
    | tup hc=>
     rename_i cs
     obtain ⟨c,h1,h2⟩:=hc.get i _ hl
     exact ⟨c,h2,fun w' _ _=>by simp [execOp,hv,Instr.extract,h1]⟩
   ·cases he
  ·cases he
 case build t parts=>
  split at he
  ·rename_i fs z h1 h2
   split at he
   ·rename_i h4
    split at he
    ·rename_i ls h3
     cases he
     obtain ⟨v,hv1,hv2⟩:=Z5m hF parts h1 h2 h4 h3
     exact ⟨v,hv1,fun w' _ _=>by simp only [execOp];exact V0 (hv2 w')⟩
    ·cases he
   ·cases he
  ·cases he
 case makeFunc fn first captured=>
  split at he
  ·rename_i vs us h1 h2
   cases he
   have e1:=HB hF h1
   have e2:=HB hF h2
   refine ⟨_,.val,fun w' _ _=>?_⟩
   have e1':first.map a.eval=vs.toArray:=by rw [<-e1,<-Array.toList_map,VJ]
   have e2':captured.map a.eval=us.toArray:=by rw [<-e2,<-Array.toList_map,VJ]
   simp only [execOp]
   exact V0 (by simp only [Instr.makeFunc,e1',e2'];simp)
  ·cases he
 case call c=>
  obtain ⟨callee,args,argTypes⟩:=c
  simp only at he
  split at he
  ·rename_i y t hargs htys
   split at he
   ·rename_i el hu
    have hy:=hF.ev y
    generalize hv:a.eval y=u at hy
    have ha:args=#[y]:=by rw [<-VJ (xs:=args),hargs]
    have ht:argTypes=#[t]:=by rw [<-VJ (xs:=argTypes),htys]
    subst ha;subst ht
    split at he
    ·rename_i es hv' hb
     cases he
     rw [hb] at hy
     refine ⟨.int .i64 es.length,.val,fun w' _ _=>?_⟩
     cases hy with
     | nil hx=>simp [execOp,resolve,invoke,builtin,hv,Builtin.len_,Vs hu,goInt]
     | sl hx hc hm=>simp [execOp,resolve,invoke,builtin,hv,Builtin.len_,Vs hu,goInt]
    ·rename_i ad len cap hb
     cases he
     rw [hb] at hy
     have hy:=hy.val_inv
     subst hy
     exact ⟨.int .i64 len,.val,fun w' _ _=>by simp [execOp,resolve,invoke,builtin,hv,Builtin.len_,Vs hu,goInt]⟩
    ·cases he
   ·cases he
  ·cases he
 all_goals (cases he)
def JH (h:List Res) (b:Nat):Prop:=∀s,Res.ge s∈h->s<=b
theorem Ge {w:World} {G:Yc} {h:List Res} (hh:YB w G h):JH h w.heap.size:=fun _ hs=>hh.ok _ hs
theorem DN (w:World) (o:Obj):(w.alloc o).heap[w.heap.size]? = some o:=heap_alloc_new w o
theorem A4 (w:World) (o:Obj) {b:Nat} (hb:b<w.heap.size):(w.alloc o).heap[b]? = w.heap[b]?:=heap_alloc_old w o b hb
theorem Ca (w:World) (o:Obj) {b j:Nat} (hb:b<w.heap.size):(w.alloc o).cell? ⟨b,j,none⟩=w.cell? ⟨b,j,none⟩:=by
 simp [World.cell?,A4 w o hb]
theorem YB.alloc {w:World} {G:Yc} {h:List Res} (hh:YB w G h) (o:Obj) {G':Yc} {h':List Res}
  (hsub:∀b o,G b o->G' b o) (hG:∀b o,G' b o->G b o∨b=w.heap.size) (hnew:∀r∈h',TT (w.alloc o) G' r)
  (hfp:∀r∈h',∀b o,r.fp b o->b=w.heap.size) (hap:h'.Pairwise JG) (hpr:∀r∈h',∀b o,r.fp b o->G' b o->False) :
  YB (w.alloc o) G' (h'++h)/\YU w G h (w.alloc o) G' (h'++h):=by
 have hA:Vt G w (w.alloc o) G':=⟨fun b j hg=>Ca w o (hh.lt b j hg),hsub⟩
 have Xq:(w.alloc o).heap.size=w.heap.size+1:=by simp
 refine ⟨⟨?_,?_,?_,?_⟩,⟨rfl,rfl,rfl,by omega,hsub,fun b hb=>.inl (A4 w o hb),?_,?_⟩⟩
 ·intro r hr
  rcases Xr.1 hr with hr|hr
  ·exact hnew r hr
  ·have h0:=hh.ok r hr
   cases r with
   | obj b ls=>
    obtain ⟨cs,el,h1,h2⟩:=h0
    exact ⟨cs,el,(A4 w o (Ua.1 h1).1).trans h1,h2.mono hA⟩
   | tail v k=>
    rcases h0 with rfl|⟨g,len,cap,cur,el,rfl,h1,h2,h3⟩
    ·exact .inl rfl
    ·exact .inr ⟨g,len,cap,cur,el,rfl,(A4 w o (Ua.1 h1).1).trans h1,h2,h3⟩
   | ge s=>exact Vh h0 om
   | vec v ls=>
    rcases h0 with ⟨rfl,h0⟩|⟨g,cap,cur,el,rfl,h1,h2,h3,h4⟩
    ·exact .inl ⟨rfl,h0⟩
    ·exact .inr ⟨g,cap,cur,el,rfl,(A4 w o (Ua.1 h1).1).trans h1,h2,h3,h4.mono hA⟩
   | many ts=>
    refine ⟨fun p hp=>?_,h0.2⟩
    rcases h0.1 p hp with q|⟨g,len,cap,cur,el,q,h1,h2,h3⟩
    ·exact .inl q
    ·exact .inr ⟨g,len,cap,cur,el,q,(A4 w o (Ua.1 h1).1).trans h1,h2,h3⟩
   | own B m=>
    intro b hB
    obtain ⟨cs,el,h1,h2⟩:=h0 b hB
    exact ⟨cs,el,(A4 w o (Ua.1 h1).1).trans h1,h2⟩
   | row v k ls=>
    rcases h0 with ⟨rfl,h0⟩|⟨g,len,cap,cur,el,rfl,h1,h2,h3,h4,h5⟩
    ·exact .inl ⟨rfl,h0⟩
    ·exact .inr ⟨g,len,cap,cur,el,rfl,(A4 w o (Ua.1 h1).1).trans h1,h2,h3,h4,h5.mono hA⟩
 ·refine JC.2 ⟨hap,hh.apart,fun r hr r' hr' b j hf hf'=>?_⟩
  have e:=hfp r hr b j hf
  have:=(hh.ok r' hr').lt b j hf'
  omega
 ·intro r hr b j hf hg
  rcases Xr.1 hr with hr|hr
  ·exact hpr r hr b j hf hg
  ·rcases hG b j hg with h1|h1
   ·exact hh.prot r hr b j hf h1
   ·have:=(hh.ok r hr).lt b j hf
    omega
 ·intro b j hg
  rcases hG b j hg with h1|h1
  ·have:=hh.lt b j h1;omega
  ·omega
 ·intro b j hb hg
  rcases hG b j hg with h1|h1
  ·exact .inl h1
  ·omega
 ·intro b j hb hf
  rcases JZ.1 hf with ⟨r,hr,h1⟩|h1
  ·have:=hfp r hr b j h1;omega
  ·exact h1
theorem YB.alloc_obj {w:World} {G:Yc} {h:List Res} (hh:YB w G h) (cs:Array Value) (t:TypeId) {ls:List AV} (hls:YP w G ls cs.toList) :
  YB (w.alloc (.cells cs t)) G (.obj w.heap.size ls::h)/\YU w G h (w.alloc (.cells cs t)) G (.obj w.heap.size ls::h):=by
 have hA:Vt G w (w.alloc (.cells cs t)) G:=⟨fun b j hg=>Ca w _ (hh.lt b j hg),fun _ _ h=>h⟩
 refine hh.alloc (.cells cs t) (h':=[.obj w.heap.size ls]) (fun _ _ h=>h) (fun _ _ h=>.inl h) ?_ ?_ (C0 _ _) ?_
 ·intro r hr
  rw [W3.1 hr]
  exact ⟨cs,t,DN w _,hls.mono hA⟩
 ·intro r hr b j hf
  rw [W3.1 hr] at hf
  exact hf
 ·intro r hr b j hf hg
  rw [W3.1 hr] at hf
  have:=hh.lt b j hg
  have:b=w.heap.size:=hf
  omega
section
variable {P:Program} {n:Nat} {o:Oper} {F:Fr} {h:List Res} {K:Fr->List Res->Prop}
theorem Z3q (t:TypeId) {ls:List AV} (ho:o.op=.alloc t) (hz:BY P t=some ls) (hd:WW n o=true)
  (hK:∀b,JH h b->K (F.put o.dst (.val (.pointer (some ⟨b,0,none⟩)))) (.obj b ls::h)):We P n o F h K:=by
 intro Q w G a hF hh
 obtain ⟨i,z,hi,hzz,rfl⟩:=Oo hz
 have hr:(execOp a.eval o).run P w=.ok (.value (.pointer (some ⟨w.heap.size,0,none⟩))) (w.alloc (.cells z.cells t)):=by
  simp only [execOp,ho]
  simp [Instr.alloc,zeroValue,Eu hi,hzz,newVar,newRow]
 unfold Oper.wp
 rw [hr]
 have hls:YP w G (z.cells.toList.map AV.ofVal) z.cells.toList:=YP.ofVals _
 obtain ⟨h1,h2⟩:=hh.alloc_obj z.cells t hls
 exact ⟨_,_,G,hK _ (Ge hh),(hF.mono (h2.agree hh)).put (U4 hd) .val,h1,h2⟩
theorem Z3t (t:TypeId) (x:Operand) {X:AV} (ho:o.op=.box t x) (hx:F.ev x=X) (hfit:X.fit=true) (hd:WW n o=true)
  (hK:∀b,JH h b->K (F.put o.dst (.val (.pointer (some ⟨b,0,none⟩)))) (.obj b X.leaves::h)):We P n o F h K:=by
 intro Q w G a hF hh
 have hv:=hF.ev x
 rw [hx] at hv
 have hr:(execOp a.eval o).run P w=.ok (.value (.pointer (some ⟨w.heap.size,0,none⟩))) (w.alloc (.cells (a.eval x).cells t)):=by
  simp only [execOp,ho]
  simp [Instr.box,newVar,newRow]
 unfold Oper.wp
 rw [hr]
 obtain ⟨h1,h2⟩:=hh.alloc_obj (a.eval x).cells t (hv.cells hfit)
 exact ⟨_,_,G,hK _ (Ge hh),(hF.mono (h2.agree hh)).put (U4 hd) .val,h1,h2⟩
end
theorem Vn (w:World) (g b:Nat) (cs:Array Value) (hb:b≠g):(w.setRow g cs).heap[b]? = w.heap[b]?:=setRow_other w g b cs hb
theorem YB.write {w:World} {G:Yc} {h1 h2:List Res} {b:Nat} {ls ls':List AV} (hh:YB w G (h1++.obj b ls::h2)) {cs cs':Array Value} {e:TypeId}
  (hb:w.heap[b]? = some (.cells cs e (0,0))) (Xq:cs'.size=cs.size) (hls:YP w G ls' cs'.toList) :
  YB (w.setRow b cs') G (h1++.obj b ls'::h2)/\YU w G (h1++.obj b ls::h2) (w.setRow b cs') G (h1++.obj b ls'::h2):=by
 have hmem:Res.obj b ls∈h1++.obj b ls::h2:=by simp
 have hA:Vt G w (w.setRow b cs') G:=⟨fun c j hg=>by
  have hne:c≠b:=fun he=>hh.prot _ hmem c j he hg
  simp [World.cell?,Vn w b c cs' hne],fun _ _ h=>h⟩
 have hfpe:∀c j,V3 (h1++.obj b ls'::h2) c j↔V3 (h1++.obj b ls::h2) c j:=by
  intro c j
  simp only [V3,Xr,YQ]
  constructor
  ·rintro ⟨r,hr|rfl|hr,hf⟩
   ·exact ⟨r,.inl hr,hf⟩
   ·exact ⟨_,.inr (.inl rfl),hf⟩
   ·exact ⟨r,.inr (.inr hr),hf⟩
  ·rintro ⟨r,hr|rfl|hr,hf⟩
   ·exact ⟨r,.inl hr,hf⟩
   ·exact ⟨_,.inr (.inl rfl),hf⟩
   ·exact ⟨r,.inr (.inr hr),hf⟩
 have hpw:=JC.1 hh.apart
 have hpw2:=WP.1 hpw.2.1
 have hother:∀r,(r∈h1∨r∈h2)->∀c j,r.fp c j->c≠b:=by
  intro r hr c j hf hc
  subst hc
  rcases hr with hr|hr
  ·exact hpw.2.2 r hr (.obj c ls) (by simp) c j hf rfl
  ·exact hpw2.1 r hr c j rfl hf
 have hkeep:∀r,(r∈h1∨r∈h2)->TT w G r->TT (w.setRow b cs') G r:=by
  intro r hr h0
  cases r with
  | obj c ks=>
   obtain ⟨ds,el,k1,k2⟩:=h0
   have hne:c≠b:=hother _ hr c 0 rfl
   exact ⟨ds,el,(Vn w b c cs' hne).trans k1,k2.mono hA⟩
  | tail v k=>
   rcases h0 with rfl|⟨g,len,cap,cur,el,rfl,k1,k2,k3⟩
   ·exact .inl rfl
   ·have hne:g≠b:=hother _ hr g (len*k) ⟨rfl,X6 _⟩
    exact .inr ⟨g,len,cap,cur,el,rfl,(Vn w b g cs' hne).trans k1,k2,k3⟩
  | ge s=>exact Vh h0 (by simp [World.setRow])
  | vec v ks=>
   rcases h0 with ⟨rfl,h0⟩|⟨g,cap,cur,el,rfl,k1,k2,k3,k4⟩
   ·exact .inl ⟨rfl,h0⟩
   ·have hne:g≠b:=hother _ hr g 0 rfl
    exact .inr ⟨g,cap,cur,el,rfl,(Vn w b g cs' hne).trans k1,k2,k3,k4.mono hA⟩
  | many ts=>
   refine ⟨fun p hp=>?_,h0.2⟩
   rcases h0.1 p hp with q|⟨g,len,cap,cur,el,q,k1,k2,k3⟩
   ·exact .inl q
   ·have hne:g≠b:=hother _ hr g (len*p.2) ⟨p,hp,by rw [q];exact ⟨rfl,X6 _⟩⟩
    exact .inr ⟨g,len,cap,cur,el,q,(Vn w b g cs' hne).trans k1,k2,k3⟩
  | own B m=>
   intro c hc
   obtain ⟨ds,el,k1,k2⟩:=h0 c hc
   have hne:c≠b:=hother _ hr c 0 hc
   exact ⟨ds,el,(Vn w b c cs' hne).trans k1,k2⟩
  | row v k ks=>
   rcases h0 with ⟨rfl,h0⟩|⟨g,len,cap,cur,el,rfl,k1,k2,k3,k4,k5⟩
   ·exact .inl ⟨rfl,h0⟩
   ·have hne:g≠b:=hother _ hr g 0 rfl
    exact .inr ⟨g,len,cap,cur,el,rfl,(Vn w b g cs' hne).trans k1,k2,k3,k4,k5.mono hA⟩
 refine ⟨⟨?_,?_,?_,?_⟩,⟨rfl,rfl,rfl,by simp [World.setRow],fun _ _ h=>h,?_,fun _ _ _ h=>.inl h,fun c j _ hf=>(hfpe c j).1 hf⟩⟩
 ·intro r hr
  rcases Xr.1 hr with hr|hr
  ·exact hkeep r (.inl hr) (hh.ok r (by simp [hr]))
  ·rcases YQ.1 hr with rfl|hr
   ·exact ⟨cs',e,setRow_heap w b cs cs' e (0,0) hb,hls.mono hA⟩
   ·exact hkeep r (.inr hr) (hh.ok r (by simp [hr]))
 ·refine JC.2 ⟨hpw.1,WP.2 ⟨hpw2.1,hpw2.2⟩,fun r hr r' hr'=>?_⟩
  rcases YQ.1 hr' with rfl|hr'
  ·exact hpw.2.2 r hr (.obj b ls) (by simp)
  ·exact hpw.2.2 r hr r' (by simp [hr'])
 ·intro r hr c j hf hg
  rcases Xr.1 hr with hr|hr
  ·exact hh.prot r (by simp [hr]) c j hf hg
  ·rcases YQ.1 hr with rfl|hr
   ·exact hh.prot _ hmem c j hf hg
   ·exact hh.prot r (by simp [hr]) c j hf hg
 ·intro c j hg
  have:=hh.lt c j hg
  simpa [World.setRow] using this
 ·intro c hc
  by_cases hcb:c=b
  ·subst hcb
   exact .inr ⟨cs,cs',e,(0,0),hb,setRow_heap w c cs cs' e (0,0) hb,Xq,fun j hj=>absurd ⟨_,hmem,rfl⟩ hj⟩
  ·exact .inl (Vn w b c cs' hcb)
section
variable {P:Program} {n:Nat} {o:Oper} {F:Fr} {h1 h2:List Res} {K:Fr->List Res->Prop}
theorem Z42 (t:TypeId) (x y:Operand) {b off:Nat} {ls:List AV} {X:AV} (ho:o.op=.store t x y) (hdst:o.dst=none)
  (hx:F.ev x=.val (.pointer (some ⟨b,off,none⟩))) (hy:F.ev y=X) (hX:(X.fit&&X.leaves.all AV.one)=true)
  (Xq:(P.info? t).map (·.size)=some X.leaves.length) (hle:Nat.ble (off+X.leaves.length) ls.length=true)
  (hK:K F (h1++.obj b (ls.take off++X.leaves++ls.drop (off+X.leaves.length))::h2)):We P n o F (h1++.obj b ls::h2) K:=by
 intro Q w G a hF hh
 have hvx:=hF.ev x
 rw [hx] at hvx
 have hvx:=hvx.val_inv
 have hvy:=hF.ev y
 rw [hy] at hvy
 simp only [XL] at hX
 have hcs:=hvy.cells hX.1
 have hone:=hcs.one_cells hX.2
 have hlen:=hcs.length
 obtain ⟨cs,e,k1,k2⟩:=hh.ok (.obj b ls) (by simp)
 have hle:=WF hle
 have hcl:=k2.length
 simp only [Qv] at hlen hcl
 cases hi:P.info? t with
 | none=>simp [hi] at Xq
 | some i=>
  have Xq:i.size=X.leaves.length:=by simpa [hi] using Xq
  have hst:=run_storeCells_at P b off e (a.eval y).cells.toList 0 cs w k1 (by simp [hlen,hcl];omega) hone
  simp only [Be,Qv] at hst
  have hr:(execOp a.eval o).run P w=.ok .skip (w.setRow b (cs.toList.take off++(a.eval y).cells.toList++cs.toList.drop (off+(a.eval y).cells.size)).toArray):=by
   simp only [execOp,ho,hvx]
   simp [Instr.storeAt,Instr.sureAddr,storeVar,TL hi,hlen,Xq,hst]
  unfold Oper.wp
  rw [hr]
  obtain ⟨j1,j2⟩:=hh.write (ls':=ls.take off++X.leaves++ls.drop (off+X.leaves.length)) (cs':=(cs.toList.take off++(a.eval y).cells.toList++cs.toList.drop (off+(a.eval y).cells.size)).toArray)
   k1 (by simp [hlen,hcl];omega) (by rw [C2,hlen];exact ((k2.take off).append hcs).append (k2.drop _))
  refine ⟨F,_,G,hK,?_,j1,j2⟩
  have:=hF.mono (j2.agree hh)
  simpa [Act.put,hdst] using this
end
theorem S4 {h h':List Res} (s:∀r∈h',r∈h) {b o:Nat} (hf:V3 h' b o):V3 h b o:=
 let ⟨r,hr,h⟩:=hf;⟨r,s r hr,h⟩
theorem YB.sub {w:World} {G:Yc} {h h':List Res} (hh:YB w G h) (s:h'.Sublist h):YB w G h':=
 ⟨fun r hr=>hh.ok r (s.subset hr),hh.apart.sublist s,fun r hr=>hh.prot r (s.subset hr),hh.lt⟩
theorem YU.sub' {w w':World} {G G':Yc} {h h' h'':List Res} (e:YU w G h w' G' h') (s:h''.Sublist h'):YU w G h w' G' h'':=
 ⟨e.os,e.tape,e.output,e.size,e.sub,e.same,e.newG,fun b o hb hf=>e.newfp b o hb (S4 (fun _ hr=>s.subset hr) hf)⟩
theorem JL (w:World) (G:Yc):Vt G w w.drew G:=⟨fun _ _ _=>rfl,fun _ _ h=>h⟩
theorem YB.drew {w:World} {G:Yc} {h:List Res} (hh:YB w G h):YB w.drew G h where
 ok:=fun r hr=>by
  have h0:=hh.ok r hr
  cases r with
  | obj b ls=>obtain ⟨cs,e,h1,h2⟩:=h0;exact ⟨cs,e,h1,h2.mono (JL w G)⟩
  | tail v k=>exact h0
  | ge s=>exact h0
  | vec v ls=>
   rcases h0 with ⟨rfl,h0⟩|⟨g,cap,cur,el,rfl,h1,h2,h3,h4⟩
   ·exact .inl ⟨rfl,h0⟩
   ·exact .inr ⟨g,cap,cur,el,rfl,h1,h2,h3,h4.mono (JL w G)⟩
  | many ts=>exact h0
  | own B m=>exact h0
  | row v k ls=>
   rcases h0 with ⟨rfl,h0⟩|⟨g,len,cap,cur,el,rfl,h1,h2,h3,h4,h5⟩
   ·exact .inl ⟨rfl,h0⟩
   ·exact .inr ⟨g,len,cap,cur,el,rfl,h1,h2,h3,h4,h5.mono (JL w G)⟩
 apart:=hh.apart
 prot:=hh.prot
 lt:=hh.lt
theorem YU.drew (w:World) (G:Yc) (h:List Res):YU w G h w.drew G h:=
 ⟨rfl,rfl,rfl,X6 _,fun _ _ h=>h,fun _ _=>.inl rfl,fun _ _ _ h=>.inl h,fun _ _ _ h=>h⟩
theorem YB.alloc_row {w:World} {G:Yc} {h:List Res} (hh:YB w G h) (cs:Array Value) (t:TypeId) {es:List AV} {k cap:Nat}
  (hk:∀x∈es,x.leaves.length=k) (hcap:es.length<=cap) (Xq:cs.size=cap*k) (hls:YP w G (Zl es) (cs.toList.take (es.length*k))) :
  ∃G',YB (w.alloc (.cells cs t)) G' (.tail (.slice (some ⟨w.heap.size,0,none⟩) es.length cap) k::h) /\
   YU w G h (w.alloc (.cells cs t)) G' (.tail (.slice (some ⟨w.heap.size,0,none⟩) es.length cap) k::h) /\
   RV (w.alloc (.cells cs t)) G' (.sl es (some (.slice (some ⟨w.heap.size,0,none⟩) es.length cap))) (.slice (some ⟨w.heap.size,0,none⟩) es.length cap):=by
 let G':Yc:=fun b o=>G b o∨(b=w.heap.size/\o<es.length*k)
 have hA:Vt G w (w.alloc (.cells cs t)) G':=⟨fun b j hg=>Ca w _ (hh.lt b j hg),fun _ _ h=>.inl h⟩
 have hrow:(w.alloc (.cells cs t)).heap[w.heap.size]? = some (.cells cs t (0,0)):=DN w _
 obtain ⟨h1,h2⟩:=hh.alloc (.cells cs t) (G':=G') (h':=[.tail (.slice (some ⟨w.heap.size,0,none⟩) es.length cap) k]) (fun _ _ h=>.inl h)
  (fun _ _ h=>h.imp id (·.1))
  (fun r hr=>by rw [W3.1 hr];exact .inr ⟨_,_,_,cs,t,rfl,hrow,hcap,Xq⟩)
  (fun r hr b j hf=>by rw [W3.1 hr] at hf;exact hf.1)
  (C0 _ _)
  (fun r hr b j hf hg=>by
   rw [W3.1 hr] at hf
   obtain ⟨rfl,hf2⟩:=hf
   rcases hg with hg|hg
   ·exact Nat.lt_irrefl _ (hh.lt _ _ hg)
   ·exact absurd hg.2 om)
 refine ⟨G',h1,h2,.sl (fun x hx=>by cases hx;rfl) hcap (WR.of_flat es hk (Wf.of_cells (hls.mono hA) fun j v hj=>?_))⟩
 have hj2:=hj
 rw [Qd] at hj2
 split at hj2
 ·rename_i hlt
  refine ⟨?_,.inr ⟨rfl,by omega⟩⟩
  rw [WQ,cell_of_row _ _ j cs t (0,0) hrow]
  simpa using hj2
 ·cases hj2
theorem MT {w:World} {G:Yc}:∀(vs:List Value),YP w G (List.replicate vs.length AV.any) vs
 | []=>.nil
 | v::vs=>by simp only [YS,HG];exact .cons .any (MT vs)
def J3 (es:List AV) (k:Nat):Bool:=es.all fun x=>Nat.beq x.leaves.length k
theorem OL {es:List AV} {k:Nat} (h:J3 es k=true):∀x∈es,x.leaves.length=k:=fun x hx=>
 U0 (Kq.1 h x hx)
section
variable {P:Program} {n:Nat} {o:Oper} {F:Fr} {h:List Res} {K:Fr->List Res->Prop}
theorem Es {w:World} {G:Yc} {a:Act} (hF:FR w G n F a) {t len:Nat} (parts:Array (Nat × Operand)) {e size:Nat} {i:TypeInfo} {ls:List AV}
  (ht:P.underlying t=some (.slice e)) (hi:P.info? e=some i) (hs:i.size=size) (hz:i.zero.isSome=true) (hle:Nat.ble (len*size) (2 ^ 24)=true)
  (hfill:Je (fun i=>some (i*size,size)) (List.replicate (len*size) .any) (parts.toList.map fun p=>(p.1,F.ev p.2))=some ls) :
  ∃cs:Array Value,YP w G ls cs.toList /\
   (Instr.buildSlice t len (parts.map fun (i,x)=>(i,a.eval x))).run P w=.ok (.slice (some ⟨w.heap.size,0,none⟩) len len) (w.alloc (.cells cs e)):=by
 subst hs
 have hle:=WF hle
 cases hzz:i.zero with
 | none=>simp [hzz] at hz
 | some z=>
  let zero:Array Value:=if len*i.size=0 then #[] else z.cells
  have hzlen:((Array.range (len*i.size)).map (zero[· % zero.size]!)).toList.length=len*i.size:=by simp
  obtain ⟨cs',k1,k2⟩:=FU (w:=w) (G:=G) (vps:=parts.toList.map fun p=>(p.1,a.eval p.2)) hfill (by simp [List.map_map,Function.comp_def])
   (by simpa [List.map_map,Function.comp_def] using YP.map (fun p:Nat × Operand=>F.ev p.2) (fun p=>a.eval p.2) parts.toList fun p _=>hF.ev p.2)
   (cs:=(Array.range (len*i.size)).map (zero[· % zero.size]!)) (by have:=MT (w:=w) (G:=G) ((Array.range (len*i.size)).map (zero[· % zero.size]!)).toList;rwa [hzlen] at this)
  refine ⟨cs',k2,?_⟩
  have hnot:¬(len*i.size>2 ^ 24):=by omega
  have hzv:(zeroValue e).run P w=.ok z w:=by simp [zeroValue,Eu hi,hzz]
  have hmap:(parts.map fun (x:Nat × Operand)=>(x.1,a.eval x.2)).toList=parts.toList.map fun p=>(p.1,a.eval p.2):=by simp
  simp only [Instr.buildSlice,Sem.run_bind,Vs ht,Result.andThen_ok,TL hi,hnot,if_false]
  by_cases h0:len*i.size=0
  ·have hz0:zero=#[]:=Zo h0
   rw [hz0] at k1
   rw [Zo h0]
   simp only [Sem.run_bind,Sem.run_pure,Result.andThen_ok,hmap,k1]
   simp [newRow]
  ·have hz0:zero=z.cells:=Zc h0
   rw [hz0] at k1
   rw [Zc h0]
   simp only [Sem.run_bind,Sem.run_pure,Result.andThen_ok,hzv,hmap,k1]
   simp [newRow]
theorem Z3w (t len:Nat) (parts:Array (Nat × Operand)) {e size:Nat} {i:TypeInfo} {es:List AV} (ho:o.op=.buildSlice t len parts)
  (ht:P.underlying t=some (.slice e)) (hi:P.info? e=some i) (hs:i.size=size) (hz:i.zero.isSome=true) (hle:Nat.ble (len*size) (2 ^ 24)=true)
  (hfill:Je (fun i=>some (i*size,size)) (List.replicate (len*size) .any) (parts.toList.map fun p=>(p.1,F.ev p.2))=some (Zl es))
  (hlen:es.length=len) (hall:J3 es size=true) (hd:WW n o=true)
  (hK:∀b,JH h b->K (F.put o.dst (.sl es (some (.slice (some ⟨b,0,none⟩) len len)))) (.tail (.slice (some ⟨b,0,none⟩) len len) size::h)):We P n o F h K:=by
 intro Q w G a hF hh
 obtain ⟨cs,h1,h2⟩:=Es hF parts ht hi hs hz hle hfill
 have hr:(execOp a.eval o).run P w=.ok (.value (.slice (some ⟨w.heap.size,0,none⟩) len len)) (w.alloc (.cells cs e)):=by
  simp only [execOp,ho]
  exact V0 h2
 unfold Oper.wp
 rw [hr]
 subst hlen
 have hk:=OL hall
 have hcs:cs.size=es.length*size:=by have:=h1.length;rw [UZ es hk] at this;simpa using this
 obtain ⟨G',j1,j2,j3⟩:=hh.alloc_row cs e hk (X6 _) hcs (by rw [<-hcs];simpa [Vg] using h1)
 exact ⟨_,_,G',hK _ (Ge hh),(hF.mono (j2.agree hh)).put (U4 hd) j3,j1,j2⟩
end
structure D8 (w:World) (G:Yc) (h1 h2:List Res) (k:Nat) (v:Value) (es:List AV) (v':Value) (w':World) (G':Yc):Prop where
 ok:YB w' G' (h1++.tail v' k::h2)
 ext:YU w G (h1++.tail v k::h2) w' G' (h1++.tail v' k::h2)
 rv:RV w' G' (.sl es (some v')) v'
 own:v'.ownBlock=v.ownBlock∨∃b,v'.ownBlock=some b/\w.heap.size<=b
theorem OT {w:World} {G:Yc} {h1 h2:List Res} {k:Nat} {v:Value} (hh:YB w G (h1++.tail v k::h2)) (cs:Array Value) (t:TypeId) {es:List AV} {cap:Nat}
  (hk:∀x∈es,x.leaves.length=k) (hcap:es.length<=cap) (Xq:cs.size=cap*k) (hls:YP w G (Zl es) (cs.toList.take (es.length*k))) :
  ∃G',D8 w G h1 h2 k v es (.slice (some ⟨w.heap.size,0,none⟩) es.length cap) (w.drew.alloc (.cells cs t)) G':=by
 obtain ⟨G',j1,j2,j3⟩:=hh.drew.alloc_row cs t hk hcap Xq (hls.mono (JL w G))
 have hsub:(h1++.tail (.slice (some ⟨w.heap.size,0,none⟩) es.length cap) k::h2).Perm (.tail (.slice (some ⟨w.heap.size,0,none⟩) es.length cap) k::(h1++h2)):=List.perm_middle
 have hs2:(Res.tail (.slice (some ⟨w.heap.size,0,none⟩) es.length cap) k::(h1++h2)).Sublist (.tail (.slice (some ⟨w.heap.size,0,none⟩) es.length cap) k::(h1++.tail v k::h2)):=
  List.Sublist.cons_cons _ (List.Sublist.append (List.Sublist.refl _) (Aw _ _))
 refine ⟨G',(j1.sub hs2).perm hsub.symm,?_,j3,.inr ⟨_,rfl,X6 _⟩⟩
 exact (YU.drew w G _).trans ((j2.sub' hs2).perm (Tz _) hsub.symm)
theorem BT {P:Program} {t ty e:TypeId} {i:TypeInfo} (ht:P.underlying t=some (.slice e)) (hi:P.info? e=some i) {ad:Option Addr} {len cap:Nat} {a:Option Addr} {c:Nat}
  (hle:len<=cap) (w:World):(Builtin.append_ #[t,t] ty #[.slice ad len cap,.slice a 0 c]).run P w=.ok (.slice ad len cap) w:=by
 cases ad with
 | none=>cases a<;>simp [Builtin.append_,Vs ht,TL hi,Builtin.lenOf,hle,Builtin.firstCells,loadCells,loadCellsFrom]
 | some ad=>cases a<;>simp [Builtin.append_,Vs ht,TL hi,Builtin.lenOf,hle,Builtin.firstCells,loadCells,loadCellsFrom,storeCells]
theorem OU {w:World} {G:Yc} {h1 h2:List Res} {k g cap:Nat} {es xs:List AV} {cur:Array Value} {e:TypeId} {news:List Value}
  (hh:YB w G (h1++.tail (.slice (some ⟨g,0,none⟩) es.length cap) k::h2)) (hrow:w.heap[g]? = some (.cells cur e (0,0))) (hcur:cur.size=cap*k)
  (hm:Wf w G g 0 (Zl es)) (hes:∀y∈es,y.leaves.length=k) (hxs:∀y∈xs,y.leaves.length=k) (hn:YP w G (Zl xs) news)
  (hroom:es.length+xs.length<=cap) :
  ∃G',D8 w G h1 h2 k (.slice (some ⟨g,0,none⟩) es.length cap) (es++xs) (.slice (some ⟨g,0,none⟩) (es.length+xs.length) cap)
   (w.setRow g (cur.toList.take (es.length*k)++news++cur.toList.drop (es.length*k+news.length)).toArray) G':=by
 have hnl:news.length=xs.length*k:=by rw [hn.length,UZ xs hxs]
 have hfit:es.length*k+news.length<=cur.size:=by rw [hnl,hcur,<-TB];exact TS _ hroom
 generalize hcs':(cur.toList.take (es.length*k)++news++cur.toList.drop (es.length*k+news.length)).toArray=cs'
 have hlist:cs'.toList=cur.toList.take (es.length*k)++news++cur.toList.drop (es.length*k+news.length):=by rw [<-hcs']
 have Xq:cs'.size=cur.size:=by
  have:=Yx List.length hlist
  simp only [Qv,Yz,Ww,At] at this
  omega
 have hlow:∀j,j<es.length*k->cs'[j]? = cur[j]?:=by
  intro j hj
  have h1:(cur.toList.take (es.length*k)).length=es.length*k:=by simp;omega
  rw [<-EQ,hlist,TA,D5 om,Qd,Zo hj,EQ]
 have hmid:∀j u,news[j]? = some u->cs'[es.length*k+j]? = some u:=by
  intro j u hj
  have h1:(cur.toList.take (es.length*k)).length=es.length*k:=by simp;omega
  have hjl:j<news.length:=(XM.1 hj).1
  rw [<-EQ,hlist,TA,EU om,h1,Nat.add_sub_cancel_left,D5 hjl,hj]
 have hmem:Res.tail (.slice (some ⟨g,0,none⟩) es.length cap) k∈h1++.tail (.slice (some ⟨g,0,none⟩) es.length cap) k::h2:=by simp
 let G':Yc:=fun b o=>G b o∨(b=g/\es.length*k<=o/\o<(es.length+xs.length)*k)
 have hA:Vt G w (w.setRow g cs') G':=⟨fun b j hg=>by
  by_cases hbg:b=g
  ·subst hbg
   have hj:j<es.length*k:=by
    rcases D7 j (es.length*k) with h|h
    ·exact h
    ·exact (hh.prot _ hmem b j ⟨rfl,h⟩ hg).elim
   rw [cell_of_row _ b j cs' e (0,0) (setRow_heap w b cur cs' e (0,0) hrow),cell_of_row w b j cur e (0,0) hrow,hlow j hj]
  ·simp [World.cell?,Vn w g b cs' hbg],fun _ _ h=>.inl h⟩
 have hpw:=JC.1 hh.apart
 have hpw2:=WP.1 hpw.2.1
 have hbig:∀j,es.length*k<=j->Res.fp (.tail (.slice (some ⟨g,0,none⟩) es.length cap) k) g j:=fun j hj=>⟨rfl,hj⟩
 have hother:∀r,(r∈h1∨r∈h2)->∀c j,r.fp c j->c=g->j<es.length*k:=by
  intro r hr c j hf hc
  subst hc
  rcases D7 j (es.length*k) with h|h
  ·exact h
  ·rcases hr with hr|hr
   ·exact (hpw.2.2 r hr _ (Xh ..) c j hf (hbig j h)).elim
   ·exact (hpw2.1 r hr c j (hbig j h) hf).elim
 have hkeep:∀r,(r∈h1∨r∈h2)->TT w G r->TT (w.setRow g cs') G' r:=by
  intro r hr h0
  cases r with
  | obj c ks=>
   obtain ⟨ds,el,k1,k2⟩:=h0
   have hne:c≠g:=fun hc=>by have:=hother _ hr c (es.length*k) rfl hc;omega
   exact ⟨ds,el,(Vn w g c cs' hne).trans k1,k2.mono hA⟩
  | tail v kk=>
   rcases h0 with rfl|⟨g2,len,cap2,cur2,el,rfl,k1,k2,k3⟩
   ·exact .inl rfl
   ·have hne:g2≠g:=fun hc=>by have:=hother _ hr g2 (len*kk+es.length*k) ⟨rfl,by omega⟩ hc;omega
    exact .inr ⟨g2,len,cap2,cur2,el,rfl,(Vn w g g2 cs' hne).trans k1,k2,k3⟩
  | ge s=>exact Vh h0 (by simp [World.setRow])
  | vec v ks=>
   rcases h0 with ⟨rfl,h0⟩|⟨g2,cap2,cur2,el,rfl,k1,k2,k3,k4⟩
   ·exact .inl ⟨rfl,h0⟩
   ·have hne:g2≠g:=fun hc=>by have:=hother _ hr g2 (es.length*k) rfl hc;omega
    exact .inr ⟨g2,cap2,cur2,el,rfl,(Vn w g g2 cs' hne).trans k1,k2,k3,k4.mono hA⟩
  | many ts=>
   refine ⟨fun p hp=>?_,h0.2⟩
   rcases h0.1 p hp with q|⟨g2,len,cap2,cur2,el,q,k1,k2,k3⟩
   ·exact .inl q
   ·have hne:g2≠g:=fun hc=>by have:=hother _ hr g2 (len*p.2+es.length*k) ⟨p,hp,by rw [q];exact ⟨rfl,by omega⟩⟩ hc;omega
    exact .inr ⟨g2,len,cap2,cur2,el,q,(Vn w g g2 cs' hne).trans k1,k2,k3⟩
  | own B m=>
   intro c hc
   obtain ⟨ds,el,k1,k2⟩:=h0 c hc
   have hne:c≠g:=fun hq=>by have:=hother _ hr c (es.length*k) hc hq;omega
   exact ⟨ds,el,(Vn w g c cs' hne).trans k1,k2⟩
  | row v kk ks=>
   rcases h0 with ⟨rfl,h0⟩|⟨g2,len2,cap2,cur2,el,rfl,k1,k2,k3,k4,k5⟩
   ·exact .inl ⟨rfl,h0⟩
   ·have hne:g2≠g:=fun hc=>by have:=hother _ hr g2 (es.length*k) rfl hc;omega
    exact .inr ⟨g2,len2,cap2,cur2,el,rfl,(Vn w g g2 cs' hne).trans k1,k2,k3,k4,k5.mono hA⟩
 have hle:es.length*k<=(es.length+xs.length)*k:=TS _ om
 have hfpe:∀r,r∈h1++.tail (.slice (some ⟨g,0,none⟩) (es.length+xs.length) cap) k::h2->∀b o,r.fp b o ->
   V3 (h1++.tail (.slice (some ⟨g,0,none⟩) es.length cap) k::h2) b o:=by
  intro r hr b o hf
  rcases Xr.1 hr with hr|hr
  ·exact ⟨r,by simp [hr],hf⟩
  ·rcases YQ.1 hr with rfl|hr
   ·obtain ⟨rfl,hf2⟩:=hf
    exact ⟨_,hmem,rfl,Vh hle hf2⟩
   ·exact ⟨r,by simp [hr],hf⟩
 refine ⟨G',⟨?_,?_,?_,?_⟩,⟨rfl,rfl,rfl,by simp [World.setRow],fun _ _ h=>.inl h,?_,?_,fun b o _ ⟨r,hr,hf⟩=>hfpe r hr b o hf⟩,?_,.inl rfl⟩
 ·intro r hr
  rcases Xr.1 hr with hr|hr
  ·exact hkeep r (.inl hr) (hh.ok r (by simp [hr]))
  ·rcases YQ.1 hr with rfl|hr
   ·exact .inr ⟨g,_,cap,cs',e,rfl,setRow_heap w g cur cs' e (0,0) hrow,hroom,Xq.trans hcur⟩
   ·exact hkeep r (.inr hr) (hh.ok r (by simp [hr]))
 ·have htt:∀r,JG r (.tail (.slice (some ⟨g,0,none⟩) es.length cap) k)->JG r (.tail (.slice (some ⟨g,0,none⟩) (es.length+xs.length) cap) k):=
   fun r hd b o hf ⟨e1,e2⟩=>hd b o hf ⟨e1,Vh hle e2⟩
  refine JC.2 ⟨hpw.1,WP.2 ⟨fun r hr=>(htt r (hpw2.1 r hr).symm).symm,hpw2.2⟩,fun r hr r' hr'=>?_⟩
  rcases YQ.1 hr' with rfl|hr'
  ·exact htt r (hpw.2.2 r hr _ (Xh ..))
  ·exact hpw.2.2 r hr r' (by simp [hr'])
 ·intro r hr b o hf hg
  obtain ⟨r0,hr0,hf0⟩:=hfpe r hr b o hf
  rcases hg with hg|⟨rfl,hg1,hg2⟩
  ·exact hh.prot r0 hr0 b o hf0 hg
  ·rcases Xr.1 hr with hr|hr
   ·have:=hother r (.inl hr) b o hf rfl;omega
   ·rcases YQ.1 hr with rfl|hr
    ·have:=hf.2;omega
    ·have:=hother r (.inr hr) b o hf rfl;omega
 ·intro b o hg
  have hs:(w.setRow g cs').heap.size=w.heap.size:=by simp [World.setRow]
  rw [hs]
  rcases hg with hg|⟨rfl,_,_⟩
  ·exact hh.lt b o hg
  ·exact (Ua.1 hrow).1
 ·intro b hb
  by_cases hbg:b=g
  ·subst hbg
   refine .inr ⟨cur,cs',e,(0,0),hrow,setRow_heap w b cur cs' e (0,0) hrow,Xq,fun o ho=>hlow o ?_⟩
   rcases D7 o (es.length*k) with h|h
   ·exact h
   ·exact absurd ⟨_,hmem,rfl,h⟩ ho
  ·exact .inl (Vn w g b cs' hbg)
 ·intro b o hb hg
  rcases hg with hg|⟨rfl,hg1,hg2⟩
  ·exact .inl hg
  ·exact .inr ⟨_,hmem,rfl,hg1⟩
 ·rw [<-Yz]
  refine .sl (k:=k) (fun x hx=>by cases hx;rfl) (by simpa using hroom) (WR.of_flat _ (fun y hy=>?_) ?_)
  ·rcases Xr.1 hy with hy|hy
   ·exact hes y hy
   ·exact hxs y hy
  ·have e1:Zl (es++xs)=Zl es++Zl xs:=by simp [Zl]
   rw [e1]
   refine (hm.mono hA).append ?_
   rw [UZ es hes,WQ]
   refine Wf.of_cells (hn.mono hA) fun j u hj=>⟨?_,.inr ⟨rfl,by omega,?_⟩⟩
   ·rw [cell_of_row _ g _ cs' e (0,0) (setRow_heap w g cur cs' e (0,0) hrow),hmid j u hj]
   ·have hjl:j<news.length:=(XM.1 hj).1
    rw [TB]
    omega
theorem Er {P:Program} (w:World) (t ty e el:TypeId) (i:TypeInfo) (ht:P.underlying t=some (.slice e)) (hi:P.info? e=some i)
  (g sLen sCap:Nat) (cur:Array Value) (hg:w.heap[g]? = some (.cells cur el (0,0)))
  (a:Addr) (m c:Nat) (news:List Value) (hl:news.length=m*i.size) (hnews:∀j u,news[j]? = some u->w.cell? (a.add j)=some u) (h1:∀u∈news,u.oneCell'=true)
  (hroom:sLen+m<=sCap) (hfit:sLen*i.size+news.length<=cur.size) :
  (Builtin.append_ #[t,t] ty #[.slice (some ⟨g,0,none⟩) sLen sCap,.slice (some a) m c]).run P w =
   .ok (.slice (some ⟨g,0,none⟩) (sLen+m) sCap) (w.setRow g (cur.toList.take (sLen*i.size)++news++cur.toList.drop (sLen*i.size+news.length)).toArray):=by
 have hf:=run_firstCells_some (P:=P) w i.size m a m c news hl hnews
 have hst:=run_storeCells_at P g (sLen*i.size) el news 0 cur w hg (by simpa using hfit) h1
 simp only [Be] at hst
 simp [Builtin.append_,run_underlying ht,sizeOf,typeInfo,hi,Builtin.lenOf,hroom,hf,Addr.add_lit,hst]
theorem OS {P:Program} {w:World} {G:Yc} {h1 h2:List Res} {t ty e k:Nat} {i:TypeInfo} {v x:Value} {es xs:List AV}
  (ht:P.underlying t=some (.slice e)) (hi:P.info? e=some i) (hk:i.size=k) (hzs:(i.zero.map (·.cells.size))=some k) (hb:Nat.ble i.bytes 32768=true)
  (hh:YB w G (h1++.tail v k::h2)) (hv:RV w G (.sl es (some v)) v) (hx:RV w G (.sl xs none) x)
  (hes:∀y∈es,y.leaves.length=k) (hxs:∀y∈xs,y.leaves.length=k) (hone:(Zl xs).all AV.one=true) (hbound:es.length+xs.length<=4294967296) :
  ∃v' w' G',(Builtin.append_ #[t,t] ty #[v,x]).run P w=.ok v' w'/\D8 w G h1 h2 k v (es++xs) v' w' G':=by
 have htail:F7 w v k:=hh.ok (.tail v k) (by simp)
 have hb:=WF hb
 cases hz:i.zero with
 | none=>simp [hz] at hzs
 | some z=>
  have hzs:z.cells.size=k:=by simpa [hz] using hzs
  have hlen:v=.slice none 0 0->es=[]:=by
   intro he
   subst he
   cases hv with
   | nil=>rfl
  have grown:∀(olds news:List Value) (old:Nat),YP w G (Zl es) olds->YP w G (Zl xs) news ->
    ∃G',D8 w G h1 h2 k v (es++xs) (.slice (some ⟨w.heap.size,0,none⟩) (es.length+xs.length) (grownCap w (es.length+xs.length) old e))
     (w.drew.alloc (.cells (olds.toArray++news.toArray++Builtin.zeroCells z.cells (grownCap w (es.length+xs.length) old e-(es.length+xs.length))) e)) G':=by
   intro olds news old ho hn
   have X2:=grownCap_ge w (es.length+xs.length) old e
   have hall:∀y∈es++xs,y.leaves.length=k:=fun y hy=>by
    rcases Xr.1 hy with hy|hy
    ·exact hes y hy
    ·exact hxs y hy
   have e1:Zl (es++xs)=Zl es++Zl xs:=by simp [Zl]
   have hol:olds.length=es.length*k:=by rw [ho.length,UZ es hes]
   have hnl:news.length=xs.length*k:=by rw [hn.length,UZ xs hxs]
   have:=OT hh (olds.toArray++news.toArray++Builtin.zeroCells z.cells (grownCap w (es.length+xs.length) old e-(es.length+xs.length))) e
    (es:=es++xs) (cap:=grownCap w (es.length+xs.length) old e) hall (by simpa using X2)
    (by
     simp only [Array.size_append,C1,size_zeroCells,hzs,hol,hnl,<-TB]
     congr 1
     omega)
    (by
     rw [e1]
     have:(olds.toArray++news.toArray++Builtin.zeroCells z.cells (grownCap w (es.length+xs.length) old e-(es.length+xs.length))).toList.take ((es++xs).length*k)=olds++news:=by
      simp only [BZ,TA,Yz]
      rw [<-TA,TB,<-hol,<-hnl,<-Yz]
      exact KX
     rw [this]
     exact ho.append hn)
   simpa using this
  by_cases hxe:xs=[]
  ·subst hxe
   cases hx with
   | nil _=>
    refine ⟨v,w,G,?_,by simpa using hh,YU.refl _ _ _,by simpa using hv,.inl rfl⟩
    rcases htail with rfl|⟨g,len,cap,cur,el,rfl,_,hle,_⟩
    ·exact BT ht hi (X6 _) w
    ·exact BT ht hi hle w
   | sl _ _ _=>
    refine ⟨v,w,G,?_,by simpa using hh,YU.refl _ _ _,by simpa using hv,.inl rfl⟩
    rcases htail with rfl|⟨g,len,cap,cur,el,rfl,_,hle,_⟩
    ·exact BT ht hi (X6 _) w
    ·exact BT ht hi hle w
  ·cases hx with
   | nil _=>exact absurd rfl hxe
   | sl hq hcc hm=>
    rename_i b o' k' c
    have hpos:0<xs.length:=EW.2 hxe
    obtain ⟨news,hn,hnc⟩:=hm.flat_mem.cells
    have hnl:news.length=xs.length*i.size:=by rw [hn.length,hk,UZ xs hxs]
    have hone':=hn.one_cells hone
    have hnews:∀j u,news[j]? = some u->w.cell? ((⟨b,o',none⟩:Addr).add j)=some u:=fun j u hj=>by rw [QA];exact (hnc j u hj).1
    have hby:(es.length+xs.length)*i.bytes<=140737488355328:=by
     have:=Nat.mul_le_mul hbound hb
     omega
    rcases htail with rfl|⟨g,len,cap,cur,el,rfl,hrow,hlc,hcur⟩
    ·have he:=hlen rfl
     subst he
     have hr:=run_append_nil (P:=P) w t ty e i z ht hi hz ⟨b,o',none⟩ xs.length c news hnl hnews hpos (by simp at hbound;omega) (by simp at hby;omega)
     obtain ⟨G',hG'⟩:=grown [] news 0 .nil hn
     simp only [Xm,WQ,Array.empty_append] at hG'
     exact ⟨_,_,G',hr,by simpa using hG'⟩
    ·have hle:len=es.length:=by cases hv<;>rfl
     subst hle
     have hmem:Wf w G g 0 (Zl es):=by
      cases hv with
      | nil=>exact .nil
      | sl _ _ hm=>exact hm.flat_mem
     obtain ⟨olds,ho,hoc⟩:=hmem.cells
     by_cases hroom:es.length+xs.length<=cap
     ·have hfit:es.length*i.size+news.length<=cur.size:=by rw [hnl,hcur,hk,<-TB];exact TS _ hroom
      have hr:=Er (P:=P) w t ty e el i ht hi g es.length cap cur hrow ⟨b,o',none⟩ xs.length c news hnl hnews hone' hroom hfit
      obtain ⟨G',hG'⟩:=OU (h1:=h1) (h2:=h2) hh hrow hcur hmem hes hxs hn hroom
      rw [hk] at hr
      exact ⟨_,_,G',hr,hG'⟩
     ·have hol:olds.length=es.length*i.size:=by rw [ho.length,hk,UZ es hes]
      have hr:=run_append_grow (P:=P) w t ty e i z ht hi hz ⟨g,0,none⟩ es.length cap olds hol (fun j u hj=>by rw [QA];simpa using (hoc j u hj).1) ⟨b,o',none⟩ xs.length c news hnl hnews
       om om (growslice_fits om hby)
      obtain ⟨G',hG'⟩:=grown olds news cap ho hn
      exact ⟨_,_,G',hr,hG'⟩
section
variable {P:Program} {n:Nat} {o:Oper} {F:Fr} {h h1 h2:List Res} {K:Fr->List Res->Prop}
theorem RV.forget {w:World} {G:Yc} {es:List AV} {hv:Option Value} {v:Value} (h:RV w G (.sl es hv) v):RV w G (.sl es none) v:=by
 cases h with
 | nil _=>exact .nil (by simp)
 | sl _ hc hm=>exact .sl (by simp) hc hm
theorem RV.header {w:World} {G:Yc} {es:List AV} {x v:Value} (h:RV w G (.sl es (some x)) v):v=x:=by
 cases h with
 | nil hq=>exact (hq x rfl).symm
 | sl hq _ _=>exact (hq x rfl).symm
theorem Z3s (s x:Operand) (t:TypeId) {e k:Nat} {i:TypeInfo} {hv:Value} {hx:Option Value} {es xs:List AV}
  (ho:o.op=.call { callee:=.builtin .append,args:=#[s,x],argTypes:=#[t,t] })
  (ht:P.underlying t=some (.slice e)) (hi:P.info? e=some i) (hk:i.size=k) (hzs:(i.zero.map (·.cells.size))=some k) (hb:Nat.ble i.bytes 32768=true)
  (hs:F.ev s=.sl es (some hv)) (hx:F.ev x=.sl xs hx) (hd:WW n o=true)
  (hes:∀y∈es,y.leaves.length=k) (hxs:∀y∈xs,y.leaves.length=k) (hone:(Zl xs).all AV.one=true) (hbound:es.length+xs.length<=4294967296)
  (hK:∀v',(v'.ownBlock=hv.ownBlock∨∃b,v'.ownBlock=some b/\JH (h1++.tail hv k::h2) b) ->
   K (F.put o.dst (.sl (es++xs) (some v'))) (h1++.tail v' k::h2)):We P n o F (h1++.tail hv k::h2) K:=by
 intro Q w G a hF hh
 have v1:=hF.ev s
 have v2:=hF.ev x
 rw [hs] at v1
 rw [hx] at v2
 have e1:=v1.header
 rw [e1] at v1
 obtain ⟨v',w',G',hr,hA⟩:=OS (P:=P) (ty:=o.type) ht hi hk hzs hb hh v1 v2.forget hes hxs hone hbound
 have hrun:(execOp a.eval o).run P w=.ok (.value v') w':=by
  simp only [execOp,ho,resolve,invoke,builtin,Sem.run_bind,Sem.run_pure,Result.andThen_ok,Bc,Un,Bb,e1,hr]
 unfold Oper.wp
 rw [hrun]
 refine ⟨_,_,G',hK v' ?_,(hF.mono (hA.ext.agree hh)).put (U4 hd) hA.rv,hA.ok,hA.ext⟩
 rcases hA.own with h|⟨b,h,hle⟩
 ·exact .inl h
 ·exact .inr ⟨b,h,fun s hs=>Vh (hh.ok _ hs) hle⟩
theorem Nc {t e k:Nat} {i:TypeInfo} {b off len cap:Nat} {ik:IntKind} {j:Int} (ht:P.underlying t=some (.slice e)) (hi:P.info? e=some i) (hk:i.size=k)
  (h0:0<=j) (hlt:j<len) (w:World) :
  (Instr.indexAt t (.slice (some ⟨b,off,none⟩) len cap) (.int ik j)).run P w=.ok (.pointer (some ⟨b,off+j.toNat * k,none⟩)) w:=by
 subst hk
 have hu:=Vs ht w
 simp only [Instr.indexAt,asIntOf,Sem.run_bind,Sem.run_pure,Result.andThen_ok,hu]
 simp [h0,hlt,TL hi,QA]
theorem Z7u (t:TypeId) (x ix:Operand) {e k:Nat} {i:TypeInfo} {es:List AV} {hv:Option Value} {ik:IntKind} {j:Int} {y:AV}
  (ho:o.op=.indexAddr t x ix) (ht:P.underlying t=some (.slice e)) (hi:P.info? e=some i) (hk:i.size=k) (hx:F.ev x=.sl es hv) (hix:F.ev ix=.val (.int ik j))
  (h0:0<=j) (hget:es[j.toNat]? = some y) (hy:y.leaves.length=k):Xy P o F h [] (.rp y.leaves):=by
 intro n w G a hF hh
 have v1:=hF.ev x
 have v2:=hF.ev ix
 rw [hx] at v1
 rw [hix] at v2
 have v2:=v2.val_inv
 generalize hv1:a.eval x=u at v1
 cases v1 with
 | nil _=>simp at hget
 | sl hq hc hm=>
  rename_i b off kk cap
  have hlt:j.toNat<es.length:=(XM.1 hget).1
  have hkk:kk=k:=by
   have:=hm.len y (Y7 hget)
   omega
  subst hkk
  refine ⟨_,.rp (hm.get _ _ hget),fun w' _ _=>?_⟩
  simp only [execOp,ho,hv1,v2]
  exact V0 (Nc ht hi hk h0 om w')
theorem Z7v (t:TypeId) (x ix:Operand) {e k:Nat} {i:TypeInfo} {b off len cap:Nat} {ik:IntKind} {j:Int}
  (ho:o.op=.indexAddr t x ix) (ht:P.underlying t=some (.slice e)) (hi:P.info? e=some i) (hk:i.size=k) (hx:F.ev x=.val (.slice (some ⟨b,off,none⟩) len cap)) (hix:F.ev ix=.val (.int ik j))
  (h0:0<=j) (hlt:j<len):Xy P o F h [] (.val (.pointer (some ⟨b,off+j.toNat * k,none⟩))):=by
 intro n w G a hF hh
 have v1:=hF.ev x
 have v2:=hF.ev ix
 rw [hx] at v1
 rw [hix] at v2
 have v1:=v1.val_inv
 have v2:=v2.val_inv
 refine ⟨_,.val,fun w' _ _=>?_⟩
 simp only [execOp,ho,v1,v2]
 exact V0 (Nc ht hi hk h0 hlt w')
def Ad (F:Fr) (o:Option Operand) (d:Int):Option Int:=
 match o with
 | none=>some d
 | some x=>match F.ev x with
  | .val (.int _ j)=>some j
  | _=>none
theorem BU {v:Value} {ik:IntKind} {j:Int} {y:Nat} {c:BoundsCode} (hv:v=.int ik j) (h0:0<=j) (h1:j<=y) (w:World):(Instr.sliceBound v y c).run P w=.ok j.toNat w:=by
 subst hv
 simp [Instr.sliceBound,asIntOf,h0,h1]
theorem Z80 (t:TypeId) (x:Operand) (lo hi:Option Operand) {e k:Nat} {i:TypeInfo} {es:List AV} {hv:Option Value} {l m:Int}
  (ho:o.op=.slice t x lo hi none) (ht:P.underlying t=some (.slice e)) (hi':P.info? e=some i) (hk:i.size=k) (hx:F.ev x=.sl es hv)
  (hlo:Ad F lo 0=some l) (hhi:Ad F hi es.length=some m) (h0:0<=l) (h1:l<=m) (h2:m<=es.length) (hes:∀y∈es,y.leaves.length=k) :
  Xy P o F h [] (.sl ((es.take m.toNat).drop l.toNat) none):=by
 intro n w G a hF hh
 have v1:=hF.ev x
 rw [hx] at v1
 generalize hv1:a.eval x=u at v1
 have hlo':lo.map a.eval=none/\l=0∨∃ik,lo.map a.eval=some (.int ik l):=by
  cases lo with
  | none=>simp [Ad] at hlo;exact .inl ⟨rfl,hlo.symm⟩
  | some y=>
   simp only [Ad] at hlo
   split at hlo
   ·rename_i k j hj
    cases hlo
    have:=hF.ev y
    rw [hj] at this
    exact .inr ⟨k,by simp [this.val_inv]⟩
   ·cases hlo
 have hhi':hi.map a.eval=none/\m=es.length∨∃ik,hi.map a.eval=some (.int ik m):=by
  cases hi with
  | none=>simp [Ad] at hhi;exact .inl ⟨rfl,hhi.symm⟩
  | some y=>
   simp only [Ad] at hhi
   split at hhi
   ·rename_i k j hj
    cases hhi
    have:=hF.ev y
    rw [hj] at this
    exact .inr ⟨k,by simp [this.val_inv]⟩
   ·cases hhi
 have hrun:∀(ad:Option Addr) (cap:Nat),m<=cap->∀w':World,(Instr.sliceAt t (.slice ad es.length cap) (lo.map a.eval) (hi.map a.eval) none).run P w' =
   .ok (.slice (if cap=l.toNat then ad else ad.map (·.add (l.toNat * k))) (m.toNat-l.toNat) (cap-l.toNat)) w':=by
  intro ad cap hcap w'
  subst hk
  have hmm:(Instr.sliceBounds true es.length cap (lo.map a.eval) (hi.map a.eval) none).run P w'=.ok (l.toNat,m.toNat,cap) w':=by
   rcases hhi' with ⟨e1,rfl⟩|⟨ik,e1⟩
   ·rcases hlo' with ⟨e2,rfl⟩|⟨ik2,e2⟩
    ·simp [Instr.sliceBounds,e1,e2]
    ·simp [Instr.sliceBounds,e1,e2,BU (P:=P) (v:=.int ik2 l) rfl h0 (by omega:l<=(es.length:Int))]
   ·have Za:=fun c=>BU (P:=P) (c:=c) (v:=.int ik m) (y:=cap) rfl om hcap w'
    rcases hlo' with ⟨e2,rfl⟩|⟨ik2,e2⟩
    ·simp [Instr.sliceBounds,e1,e2,Za]
    ·have Zz:=fun c=>BU (P:=P) (c:=c) (v:=.int ik2 l) (y:=m.toNat) rfl h0 om w'
     simp [Instr.sliceBounds,e1,e2,Za,Zz]
  simp only [Instr.sliceAt,Sem.run_bind,Vs ht,Result.andThen_ok,Instr.slice,hmm]
  simp [TL hi']
 cases v1 with
 | nil hq=>
  rename_i ad cap
  simp only [Xm,Int.natCast_zero] at h2
  have hl:l=0:=by omega
  have hm:m=0:=by omega
  subst hl
  subst hm
  have hr:=hrun ad cap om
  refine ⟨_,?_,fun w' _ _=>by simp only [execOp,ho,hv1,Option.map_none];exact V0 (hr w')⟩
  exact .nil (by simp)
 | sl hq hc hm=>
  rename_i b off kk cap
  by_cases hemp:m.toNat<=l.toNat
  ·refine ⟨_,?_,fun w' _ _=>by simp only [execOp,ho,hv1,Option.map_none];exact V0 (hrun _ cap om w')⟩
   have e1:(es.take m.toNat).drop l.toNat=[]:=ES (by simp;omega)
   have e2:m.toNat-l.toNat=0:=by omega
   rw [e1,e2]
   exact .nil (by simp)
  ·have hne:0<es.length:=by omega
   have hkk:kk=k:=by
    have hy:=hm.len es[0] (List.getElem_mem hne)
    have:=hes es[0] (List.getElem_mem hne)
    omega
   subst hkk
   refine ⟨_,?_,fun w' _ _=>by simp only [execOp,ho,hv1,Option.map_none];exact V0 (hrun _ cap om w')⟩
   rw [Zc om]
   have hlen:((es.take m.toNat).drop l.toNat).length=m.toNat-l.toNat:=by simp;omega
   rw [<-hlen]
   simp only [Ax,QA]
   exact .sl (k:=kk) (by simp) om ((hm.take m.toNat).drop l.toNat)
theorem Z3u (f:FuncId) (args:Array Operand) (tys:Array TypeId) {fn:Func} {h1 h2:List Res} {xs:List AV} {R:AV->List Res->Prop}
  (ho:o.op=.call { callee:=.value (.func f),args:=args,argTypes:=tys }) (hf:P.funcs[f]? = some fn) (hb:fn.body.isSome=true) (hn:(fn.name== "runtime.NumGoroutine")=false)
  (hargs:args.toList.map F.ev=xs) (hd:WW n o=true) (hp:h.Perm (h1++h2)) (hc:Zi P f xs h1 R)
  (hK:∀r h',R r h'->K (F.put o.dst r) (h'++h2)):We P n o F h K:=by
 intro Q w G a hF hh
 have hh':=hh.perm hp
 have hvs:YP w G xs (args.toList.map a.eval):=by rw [<-hargs];exact YP.map F.ev a.eval args.toList fun x _=>hF.ev x
 have hcl:=hc w G _ hvs hh'.left
 have hbn:¬fn.body=none:=by intro hq;simp [hq] at hb
 have hn':¬fn.name= "runtime.NumGoroutine":=by simpa using hn
 have hrun:(execOp a.eval o).run P w=.ok (.enter f (args.map a.eval)) w:=by
  simp only [execOp,ho,resolve,Act.eval,Deferred.ofValue,Sem.run_bind,Sem.run_pure,Result.andThen_ok,invoke,callFunc]
  simp [program,Sem.run,hf,hn',hbn]
 unfold Oper.wp
 rw [hrun]
 show Calls P f (args.map a.eval) w _
 have hav:args.map a.eval=(args.toList.map a.eval).toArray:=by rw [<-Array.toList_map,VJ]
 rw [hav]
 refine hcl.mono fun e w' ⟨v,r,h',G',he,hR,hv,hh2,hx⟩=>?_
 subst he
 obtain ⟨j1,j2⟩:=hh'.frame hx hh2
 have j3:=j2.perm hp.symm (Tz _)
 exact ⟨_,_,G',hK r h' hR,(hF.mono (j3.agree hh)).put (U4 hd) hv,j1,j3⟩
theorem Z3v (t:Operand) (args:Array Operand) (tys:Array TypeId) {f:FuncId} {caps:Array Value} {fn:Func} {h1 h2:List Res} {xs:List AV} {R:AV->List Res->Prop}
  (ho:o.op=.call { callee:=.value t,args:=args,argTypes:=tys }) (ht:F.ev t=.val (.func (.func f) #[] caps)) (hf:P.funcs[f]? = some fn) (hb:fn.body.isSome=true)
  (hn:(fn.name== "runtime.NumGoroutine")=false)
  (hargs:args.toList.map F.ev++caps.toList.map AV.val=xs) (hd:WW n o=true) (hp:h.Perm (h1++h2)) (hc:Zi P f xs h1 R)
  (hK:∀r h',R r h'->K (F.put o.dst r) (h'++h2)):We P n o F h K:=by
 intro Q w G a hF hh
 have hh':=hh.perm hp
 have htv:=hF.ev t
 rw [ht] at htv
 have htv:=htv.val_inv
 have hcv:∀(l:List Value),YP w G (l.map AV.val) l:=fun l=>by
  induction l with
  | nil=>exact .nil
  | cons v l ih=>exact .cons .val ih
 have hvs:YP w G xs (args.toList.map a.eval++caps.toList):=by
  rw [<-hargs];exact (YP.map F.ev a.eval args.toList fun x _=>hF.ev x).append (hcv _)
 have hcl:=hc w G _ hvs hh'.left
 have hbn:¬fn.body=none:=by intro hq;simp [hq] at hb
 have hn':¬fn.name= "runtime.NumGoroutine":=by simpa using hn
 have hrun:(execOp a.eval o).run P w=.ok (.enter f (args.map a.eval++caps)) w:=by
  simp only [execOp,ho,resolve,htv,Deferred.ofValue,Sem.run_bind,Sem.run_pure,Result.andThen_ok,invoke,callFunc]
  simp [program,Sem.run,hf,hn',hbn]
 unfold Oper.wp
 rw [hrun]
 show Calls P f (args.map a.eval++caps) w _
 have hav:args.map a.eval++caps=(args.toList.map a.eval++caps.toList).toArray:=by
  apply Array.ext'
  simp
 rw [hav]
 refine hcl.mono fun e w' ⟨v,r,h',G',he,hR,hv,hh2,hx⟩=>?_
 subst he
 obtain ⟨j1,j2⟩:=hh'.frame hx hh2
 have j3:=j2.perm hp.symm (Tz _)
 exact ⟨_,_,G',hK r h' hR,(hF.mono (j3.agree hh)).put (U4 hd) hv,j1,j3⟩
end
def VF:Code->Code
 | .seq a _=>a
 | .cond _ a _=>a
 | .block _ a=>a
 | .loop a=>a
 | .scope a=>a
 | c=>c
def QD:Code->Code
 | .seq _ b=>b
 | .cond _ _ b=>b
 | c=>c
def XT:Code->Nat
 | .skip=>0
 | .region _ _ false=>1
 | .region _ _ true=>2
 | .seq _ _=>3
 | .cond _ _ _=>4
 | .block _ _=>5
 | .loop _=>6
 | .exit _=>7
 | .ret=>8
 | _=>9
def Qj:Code->Nat
 | .region id _ _=>id
 | .block id _=>id
 | .exit id=>id
 | _=>0
def Tl:Code->Array Oper
 | .region _ ops _=>ops
 | _=>#[]
def AG:Code->Operand
 | .cond x _ _=>x
 | _=>.tmp 0
def Dm (fn:Func):Code:=fn.body.getD .skip
theorem P9 {c:Code} (h:XT c=0):c=.skip:=by unfold XT at h;split at h<;>first|rfl|cases h
theorem Pa {c:Code} (h:XT c=1):c=.region (Qj c) (Tl c) false:=by unfold XT at h;split at h<;>first|rfl|cases h
theorem Pb {c:Code} (h:XT c=2):c=.region (Qj c) (Tl c) true:=by unfold XT at h;split at h<;>first|rfl|cases h
theorem Pc {c:Code} (h:XT c=3):c=.seq (VF c) (QD c):=by unfold XT at h;split at h<;>first|rfl|cases h
theorem Pd {c:Code} (h:XT c=4):c=.cond (AG c) (VF c) (QD c):=by unfold XT at h;split at h<;>first|rfl|cases h
theorem Pe {c:Code} (h:XT c=5):c=.block (Qj c) (VF c):=by unfold XT at h;split at h<;>first|rfl|cases h
theorem Pf {c:Code} (h:XT c=6):c=.loop (VF c):=by unfold XT at h;split at h<;>first|rfl|cases h
theorem Pg {c:Code} (h:XT c=7):c=.exit (Qj c):=by unfold XT at h;split at h<;>first|rfl|cases h
theorem Ph {c:Code} (h:XT c=8):c=.ret:=by unfold XT at h;split at h<;>first|rfl|cases h
def Qf (P:Program) (n:Nat) (ops:Array Oper) (B:Fr->List Res->Prop) (l:List Oper) (F:Fr) (h:List Res):Prop:=
 ∀(Q:Exit->Act->World->Prop) w G a,FR w G n F a->YB w G h ->
  (∀F' h' G' a' w',B F' h'->FR w' G' n F' a'->YB w' G' h'->YU w G h w' G' h'->Q .normal a' w')->wpList P ops Q l a w
section
variable {P:Program} {n:Nat} {ops:Array Oper} {B:Fr->List Res->Prop} {l:List Oper} {F:Fr} {h:List Res} {A:Vc} {c:Code}
theorem Z5q (hB:B F h):Qf P n ops B [] F h:=fun _ w G a hF hh hk=>hk F h G a w hB hF hh (YU.refl _ _ _)
def QH (ops:Array Oper) (F:Fr) (o:Oper):Option Bool:=
 match o.guard with
 | none=>some true
 | some (j,want)=>match (ops[j]?).bind (·.dst) with
  | none=>none
  | some t=>match F.get t with
   | .val (.bool b)=>some (b==want)
   | .tup []=>some false
   | _=>none
theorem BA {w:World} {G:Yc} {a:Act} {o:Oper} {b:Bool} (hF:FR w G n F a) (hlt:(match o.guard with|none=>true|some (j,_)=>match (ops[j]?).bind (·.dst) with|some t=>Nat.blt t n|none=>true)=true)
  (hg:QH ops F o=some b):Region.wanted o (yielded ops a.tmps)=b:=by
 unfold QH at hg
 unfold Region.wanted
 cases hq:o.guard with
 | none=>simp [hq] at hg;simp [hg]
 | some jw=>
  obtain ⟨j,want⟩:=jw
  simp only [hq] at hg hlt ⊢
  cases ht:(ops[j]?).bind (·.dst) with
  | none=>simp [ht] at hg
  | some t=>
   simp only [ht] at hg hlt
   have hlt':t<n:=by simpa using hlt
   have hv:=hF.get t
   have hget:a.tmps[t]? = some (a.tmps.getD t undef):=by
    have:t<a.tmps.size:=by rw [hF.size];exact hlt'
    simp [Array.getD,this]
   unfold yielded
   simp only [ht,Option.bind_some,hget]
   split at hg
   ·rename_i b' hb
    rw [hb] at hv
    have hv:=hv.val_inv
    cases hg
    rw [hv]
    cases b'<;>cases want<;>rfl
   ·rename_i hb
    rw [hb] at hv
    cases hg
    generalize a.tmps.getD t undef=u at hv
    cases hv with
    | tup hc=>cases hc;cases want<;>rfl
   ·cases hg
def Ji (n:Nat) (ops:Array Oper) (o:Oper):Bool:=
 match o.guard with|none=>true|some (j,_)=>match (ops[j]?).bind (·.dst) with|some t=>Nat.blt t n|none=>true
def QT (P:Program) (n:Nat) (ops:Array Oper) (h:List Res):Nat->List Oper->Fr->List Nat->Option (List Oper × Fr × List (Nat × Nat))
 | 0,l,F,_=>some (l,F,[])
 | _+1,[],_,_=>none
 | k+1,o::l,F,hints=>
  match WW n o&&Ji n ops o with
  | false=>none
  | true=>match QH ops F o with
   | none=>none
   | some false=>QT P n ops h k l (F.put o.dst (.tup [])) hints
   | some true=>match Tq P o F h (hints.headD 0) with
    | none=>none
    | some (x,eqs)=>match QT P n ops h k l (F.put o.dst x) (match eqs with | []=>hints | _=>hints.tail) with
     | none=>none
     | some (l',F',es)=>some (l',F',eqs++es)
theorem Z9a {o:Oper} {Q:Exit->Act->World->Prop} {a:Act} {w:World} (hw:Region.wanted o (yielded ops a.tmps)=false)
  (hk:wpList P ops Q l (a.put o.dst undef) w):wpList P ops Q (o::l) a w:=by
 unfold wpList
 rw [Zc (by simp [hw])]
 exact hk
theorem H5:∀(k:Nat) {l:List Oper} {F:Fr} {hints:List Nat} {l':List Oper} {F':Fr} {eqs:List (Nat × Nat)},QT P n ops h k l F hints=some (l',F',eqs) ->
  (∀p∈eqs,p.1=p.2)->Qf P n ops B l' F' h->Qf P n ops B l F h
 | 0,l,F,hints,l',F',eqs,he,_,hs=>by
  simp only [QT,XV,Prod.mk.injEq] at he
  obtain ⟨rfl,rfl,rfl⟩:=he
  exact hs
 | k+1,[],F,hints,l',F',eqs,he,_,hs=>by simp [QT] at he
 | k+1,o::l,F,hints,l',F',eqs,he,heq,hs=>by
  simp only [QT] at he
  cases hd:WW n o&&Ji n ops o with
  | false=>rw [hd] at he;cases he
  | true=>
   rw [hd] at he
   simp only [XL] at hd
   simp only at he
   cases hg:QH ops F o with
   | none=>rw [hg] at he;cases he
   | some b=>
    rw [hg] at he
    cases b with
    | false=>
     simp only at he
     have ih:=H5 k he heq hs
     intro Q w G a hF hh hk
     have hw:=BA hF hd.2 hg
     exact Z9a hw (ih Q w G _ (hF.put (U4 hd.1) (.tup (cs:=[]) .nil)) hh hk)
    | true=>
     simp only at he
     cases hev:Tq P o F h (hints.headD 0) with
     | none=>rw [hev] at he;cases he
     | some xe=>
      obtain ⟨x,es⟩:=xe
      rw [hev] at he
      simp only at he
      generalize hhint:(match es with|[]=>hints|_=>hints.tail)=hints' at he
      cases hr:QT P n ops h k l (F.put o.dst x) hints' with
      | none=>rw [hr] at he;cases he
      | some y=>
       obtain ⟨l2,F2,es2⟩:=y
       rw [hr] at he
       simp only [XV,Prod.mk.injEq] at he
       obtain ⟨rfl,rfl,rfl⟩:=he
       have ih:=H5 k hr (fun p hp=>heq p (Xr.2 (.inr hp))) hs
       have hst:=Bv hev (fun p hp=>heq p (Xr.2 (.inl hp)))
       intro Q w G a hF hh hk
       have hw:=BA hF hd.2 hg
       obtain ⟨v,hv,hrun⟩:=hst n w G a hF hh
       unfold wpList
       rw [Zo hw]
       refine .inl ?_
       unfold Oper.wp
       rw [hrun w (fun _ _ _=>rfl) (fun _ _=>rfl)]
       exact ih Q w G _ (hF.put (U4 hd.1) hv) hh hk
theorem Z5r {o:Oper} (hg:QH ops F o=some true) (hlt:Ji n ops o=true) (ho:We P n o F h fun F' h'=>Qf P n ops B l F' h'):Qf P n ops B (o::l) F h:=by
 intro Q w G a hF hh hk
 have hw:=BA hF hlt hg
 unfold wpList
 rw [Zo hw]
 refine .inl (Oper.wp_mono ?_ (ho Q w G a hF hh))
 intro a' w' ⟨F',h',G',h1,h2,h3,h4⟩
 exact h1 Q w' G' a' h2 h3 fun F2 h2' G2 a2 w2 b1 b2 b3 b4=>hk F2 h2' G2 a2 w2 b1 b2 b3 (h4.trans b4)
theorem Fr.Le.refl (F:Fr):F.Le F:=fun _ _ _ _ h=>h
def Zg (x y:AV):Prop:=∀w G v,RV w G x v->RV w G y v
theorem Zg.refl (x:AV):Zg x x:=fun _ _ _ h=>h
theorem Zg.any (x:AV):Zg x .any:=fun _ _ _ _=>.any
theorem Zg.forget (es:List AV) (hv:Option Value):Zg (.sl es hv) (.sl es none):=fun _ _ _ h=>h.forget
theorem IW (F:Fr):F.Le []:=fun _ _ _ _ _=>.any
theorem Bx {F F':Fr} {t:Nat} {x y:AV} (hx:F.get t=x) (hxy:Zg x y) (hr:F.Le F'):F.Le ((t,y)::F'):=by
 intro w G v s hv
 show RV w G (match Nat.beq t s with|true=>y|false=>Fr.get F' s) v
 cases hb:Nat.beq t s with
 | true=>
  have:=U0 hb
  subst this
  rw [hx] at hv
  exact hxy _ _ _ hv
 | false=>exact hr w G v s hv
theorem Zg.sl {es es':List AV} (hv:Option Value) (h:es=es'):Zg (.sl es hv) (.sl es' none):=h▸Zg.forget es hv
theorem Zg.slh {es es':List AV} (hv:Option Value) (h:es=es'):Zg (.sl es hv) (.sl es' hv):=h▸Zg.refl _
theorem Zg.i {a b:Int} (h:a=b):Zg (.val (.int .i64 a)) (.val (.int .i64 b)):=h▸Zg.refl _
theorem Zg.b {a b:Bool} (h:a=b):Zg (.val (.bool a)) (.val (.bool b)):=h▸Zg.refl _
inductive Vu:List AV->List AV->Prop
 | nil:Vu [] []
 | cons {x y:AV} {xs ys:List AV} (h:Zg x y) (t:Vu xs ys):Vu (x::xs) (y::ys)
theorem Vu.refl:∀(xs:List AV),Vu xs xs
 | []=>.nil
 | x::xs=>.cons (Zg.refl x) (Vu.refl xs)
theorem Vu.cs {w:World} {G:Yc}:∀{xs ys:List AV} {vs:List Value},Vu xs ys->YP w G xs vs->YP w G ys vs
 | _,_,_,.nil,.nil=>.nil
 | _,_,_,.cons h t,.cons a b=>.cons (h _ _ _ a) (t.cs b)
theorem Vu.mem {w:World} {G:Yc}:∀{xs ys:List AV} {b o:Nat},Vu xs ys->Wf w G b o xs->Wf w G b o ys
 | _,_,_,_,.nil,.nil=>.nil
 | _,_,_,_,.cons h t,.cons a1 a2 a3 a4=>.cons a1 a2 (h _ _ _ a3) (t.mem a4)
theorem Zg.agg {xs ys:List AV} (h:Vu xs ys):Zg (.agg xs) (.agg ys):=fun _ _ _ hv=>by
 cases hv with
 | agg hc=>exact .agg (h.cs hc)
theorem Zg.tup {xs ys:List AV} (h:Vu xs ys):Zg (.tup xs) (.tup ys):=fun _ _ _ hv=>by
 cases hv with
 | tup hc=>exact .tup (h.cs hc)
theorem Zg.rp {xs ys:List AV} (h:Vu xs ys):Zg (.rp xs) (.rp ys):=fun _ _ _ hv=>by
 cases hv with
 | rp hc=>exact .rp (h.mem hc)
mutual
def AV.like:AV->AV->AV
 | .sl es hv,y=>match y with | .sl _ none=>.sl es none | _=>.sl es hv
 | .agg ls,y=>match y with | .agg ms=>.agg (A7 ls ms) | _=>.agg ls
 | .rp ls,y=>match y with | .rp ms=>.rp (A7 ls ms) | _=>.rp ls
 | .tup ls,y=>match y with | .tup ms=>.tup (A7 ls ms) | _=>.tup ls
 | .any,_=>.any
 | .val v,y=>match y with | .any=>.any | _=>.val v
def A7:List AV->List AV->List AV
 | [],_=>[]
 | x::xs,ys=>match ys with | y::ys=>x.like y::A7 xs ys | []=>x::xs
end
mutual
theorem AV.like_le:∀(x y:AV),Zg x (x.like y)
 | .sl es hv,y=>by
  cases y with
  | sl es' hv'=>cases hv'<;>simp only [AV.like]<;>first | exact Zg.forget es hv | exact Zg.refl _
  | _=>simp only [AV.like];exact Zg.refl _
 | .agg ls,y=>by
  cases y with
  | agg ms=>simp only [AV.like];exact Zg.agg (Ea ls ms)
  | _=>simp only [AV.like];exact Zg.refl _
 | .rp ls,y=>by
  cases y with
  | rp ms=>simp only [AV.like];exact Zg.rp (Ea ls ms)
  | _=>simp only [AV.like];exact Zg.refl _
 | .tup ls,y=>by
  cases y with
  | tup ms=>simp only [AV.like];exact Zg.tup (Ea ls ms)
  | _=>simp only [AV.like];exact Zg.refl _
 | .any,y=>by simp only [AV.like];exact Zg.refl _
 | .val v,y=>by
  cases y with
  | any=>simp only [AV.like];exact Zg.any _
  | _=>simp only [AV.like];exact Zg.refl _
theorem Ea:∀(xs ys:List AV),Vu xs (A7 xs ys)
 | [],ys=>by simp only [A7];exact .nil
 | x::xs,ys=>by
  cases ys with
  | nil=>simp only [A7];exact Vu.refl _
  | cons y ys=>simp only [A7];exact .cons (AV.like_le x y) (Ea xs ys)
end
theorem G3 {F F':Fr} (h:F'.map (fun p=>(F.get p.1).like p.2)=F'.map (·.2)):F.Le F':=by
 induction F' with
 | nil=>exact IW F
 | cons p r ih=>
  simp only [Un,List.cons.injEq] at h
  refine Bx rfl ?_ (ih h.2)
  have:=AV.like_le (F.get p.1) p.2
  rwa [h.1] at this
structure TD (F:Fr) (h:List Res) (F':Fr) (h':List Res):Prop where
 fr:F.Le F'
 res:∃d,h.Perm (h'++d)
theorem YB.weak {w:World} {G:Yc} {h':List Res} (hh:YB w G h) (hw:∃d,h.Perm (h'++d)):YB w G h':=by
 obtain ⟨d,hp⟩:=hw
 exact (hh.perm hp).left
theorem YU.weak_left {w w':World} {G G':Yc} {h' k:List Res} (hw:∃d,h.Perm (h'++d)) (e:YU w G h' w' G' k):YU w G h w' G' k:=by
 obtain ⟨d,hp⟩:=hw
 have hs:∀b o,V3 h' b o->V3 h b o:=fun b o hf=>(AQ hp).2 (JZ.2 (.inl hf))
 exact ⟨e.os,e.tape,e.output,e.size,e.sub,fun b hb=>(e.same b hb).mono fun _ ho=>hs _ _ ho,fun b o hb hg=>(e.newG b o hb hg).imp id (hs b o),fun b o hb hf=>hs b o (e.newfp b o hb hf)⟩
theorem AC {F':Fr} {h':List Res} (hw:TD F h F' h') (ha:X1 P n c A F' h'):X1 P n c A F h:=by
 intro w G a hF hh
 refine wp_mono (ha w G a (hF.le hw.fr) (hh.weak hw.res)) ?_
 intro e a' w' ⟨F2,h2,G2,b1,b2,b3,b4⟩
 exact ⟨F2,h2,G2,b1,b2,b3,b4.weak_left hw.res⟩
theorem Ev {F':Fr} {h':List Res} (hw:TD F h F' h') (ha:Qf P n ops B l F' h'):Qf P n ops B l F h:=by
 intro Q w G a hF hh hk
 exact ha Q w G a (hF.le hw.fr) (hh.weak hw.res) fun F2 h2 G2 a2 w2 b1 b2 b3 b4=>hk F2 h2 G2 a2 w2 b1 b2 b3 (b4.weak_left hw.res)
theorem HL {A':Vc} (hA:∀e F h,A e F h->A' e F h) (ha:X1 P n c A F h):X1 P n c A' F h:=by
 intro w G a hF hh
 exact wp_mono (ha w G a hF hh) fun e a' w' hc=>hc.mono hA
@[reducible] def Hu (P:Program) (n:Nat) (y:Code) (A:Vc):Vc:=fun e F h=>
 match e with
 | .normal=>X1 P n y A F h
 | e=>A e F h
@[reducible] def Dg (id:Nat) (A:Vc):Vc:=fun e F h=>
 match e with
 | .exit i=>match Nat.beq i id with
  | true=>A .normal F h
  | false=>A (.exit i) F h
 | e=>A e F h
@[reducible] def M4 (Inv:Nat->Fr->List Res->Prop) (m:Nat) (A:Vc):Vc:=fun e F h=>
 match e with
 | .normal=>∃m' F' h',m'<m/\Inv m' F' h'/\TD F h F' h'
 | e=>A e F h
theorem Fa (hk:XT c=3) (ha:X1 P n (VF c) (Hu P n (QD c) A) F h):X1 P n c A F h:=by
 rw [Pc hk]
 intro w G a hF hh
 refine wp_seq (wp_mono (ha w G a hF hh) ?_)
 intro e a' w' ⟨F',h',G',h1,h2,h3,h4⟩
 cases e with
 | normal=>exact wp_mono (h1 w' G' a' h2 h3) fun e a2 w2 hc=>hc.trans h4
 | exit id=>exact ⟨F',h',G',h1,h2,h3,h4⟩
 | goto l=>exact ⟨F',h',G',h1,h2,h3,h4⟩
 | ret=>exact ⟨F',h',G',h1,h2,h3,h4⟩
 | panic ch=>exact ⟨F',h',G',h1,h2,h3,h4⟩
 | outgrown=>exact ⟨F',h',G',h1,h2,h3,h4⟩
theorem HM (hk:XT c=1) (hs:Qf P n (Tl c) (A .normal) (Tl c).toList F h):X1 P n c A F h:=by
 rw [Pa hk]
 intro w G a hF hh
 exact wp_region_list (hs _ w G a hF hh fun F' h' G' a' w' b1 b2 b3 b4=>⟨F',h',G',b1,b2,b3,b4⟩)
theorem OC (hk:XT c=3) (hk1:XT (VF c)=1) (hs:Qf P n (Tl (VF c)) (fun F h=>X1 P n (QD c) A F h) (Tl (VF c)).toList F h):X1 P n c A F h:=
 Fa hk (HM hk1 hs)
theorem OG (hk:XT c=0) (h0:A .normal F h):X1 P n c A F h:=by
 rw [P9 hk]
 intro w G a hF hh
 exact wp_skip ⟨F,h,G,h0,hF,hh,YU.refl _ _ _⟩
theorem OA (id:Nat) (hk:XT c=7) (hi:Qj c=id) (h0:A (.exit id) F h):X1 P n c A F h:=by
 subst hi
 rw [Pg hk]
 intro w G a hF hh
 exact wp_exit ⟨F,h,G,h0,hF,hh,YU.refl _ _ _⟩
theorem OE (hk:XT c=8) (h0:A .ret F h):X1 P n c A F h:=by
 rw [Ph hk]
 intro w G a hF hh
 exact wp_ret ⟨F,h,G,h0,hF,hh,YU.refl _ _ _⟩
theorem F9 {b:Bool} {p:Prop} (hk:XT c=4) (hc:F.ev (AG c)=.val (.bool b)) (hp:b=true↔p) (h1:p->X1 P n (VF c) A F h) (h2:¬p->X1 P n (QD c) A F h) :
  X1 P n c A F h:=by
 rw [Pd hk]
 intro w G a hF hh
 have hv:=hF.ev (AG c)
 rw [hc] at hv
 exact wp_cond_split hv.val_inv (fun e=>h1 (hp.1 e) w G a hF hh) fun e=>h2 (fun q=>by have:=hp.2 q;rw [e] at this;cases this) w G a hF hh
theorem Oz (id:Nat) (hk:XT c=5) (hi:Qj c=id) (ha:X1 P n (VF c) (Dg id A) F h):X1 P n c A F h:=by
 subst hi
 rw [Pe hk]
 intro w G a hF hh
 refine wp_block (wp_mono (ha w G a hF hh) ?_)
 intro e a' w' ⟨F',h',G',h1,h2,h3,h4⟩
 cases e with
 | normal=>exact ⟨F',h',G',h1,h2,h3,h4⟩
 | exit id=>
  simp only [Exit.inBlock]
  by_cases hid:id=Qj c
  ·subst hid
   rw [Zo rfl]
   have hb:Nat.beq (Qj c) (Qj c)=true:=Nat.beq_refl _
   simp only [Dg,hb] at h1
   exact ⟨F',h',G',h1,h2,h3,h4⟩
  ·rw [Zc hid]
   have hb:Nat.beq id (Qj c)=false:=by
    cases hq:Nat.beq id (Qj c)
    ·rfl
    ·exact absurd (U0 hq) hid
   simp only [Dg,hb] at h1
   exact ⟨F',h',G',h1,h2,h3,h4⟩
 | goto l=>exact ⟨F',h',G',h1,h2,h3,h4⟩
 | ret=>exact ⟨F',h',G',h1,h2,h3,h4⟩
 | panic ch=>exact ⟨F',h',G',h1,h2,h3,h4⟩
 | outgrown=>exact ⟨F',h',G',h1,h2,h3,h4⟩
theorem CG (p:Nat->Prop) (h:∃n,p n):∃n,p n/\∀m,p m->n<=m:=by
 obtain ⟨k,hk⟩:=h
 induction k using Nat.strongRecOn with
 | _ k ih=>
  by_cases hx:∃m,m<k/\p m
  ·obtain ⟨m,h1,h2⟩:=hx
   exact ih m h1 h2
  ·refine ⟨k,hk,fun m hm=>?_⟩
   rcases D7 m k with h|h
   ·exact absurd ⟨m,h,hm⟩ hx
   ·exact h
open Classical in
theorem OB (Inv:Nat->Fr->List Res->Prop) {m0:Nat} {F0:Fr} {h0:List Res} (hk:XT c=6) (hi:Inv m0 F0 h0) (hw:TD F h F0 h0)
  (hr:∀m F h,Inv m F h->X1 P n (VF c) (M4 Inv m A) F h):X1 P n c A F h:=by
 refine AC hw ?_
 rw [Pf hk]
 intro w G a hF hh
 let J:Nat->Act->World->Prop:=fun m a' w'=>∃F' h' G',Inv m F' h'/\FR w' G' n F' a'/\YB w' G' h'/\YU w G h0 w' G' h'
 let mu:Act->World->Nat:=fun a' w'=>if hx:∃m,J m a' w' then Classical.choose (CG (fun m=>J m a' w') hx) else 0
 refine wp_loop (fun a' w'=>∃m,J m a' w') mu ⟨m0,F0,h0,G,hi,hF,hh,YU.refl _ _ _⟩ ?_
 intro a1 w1 hx
 have hsp:=Classical.choose_spec (CG (fun m=>J m a1 w1) hx)
 have hmu:mu a1 w1=Classical.choose (CG (fun m=>J m a1 w1) hx):=dif_pos hx
 rw [<-hmu] at hsp
 obtain ⟨⟨F1,h1,G1,i1,i2,i3,i4⟩,_⟩:=hsp
 refine wp_mono (hr _ F1 h1 i1 w1 G1 a1 i2 i3) ?_
 intro e a' w' ⟨F',h',G',k1,k2,k3,k4⟩
 have keep:∀{e},A e F' h'->J0 n A w G h0 e a' w':=fun hA=>⟨F',h',G',hA,k2,k3,i4.trans k4⟩
 cases e with
 | normal=>
  obtain ⟨m',F2,h2,j1,j2,j3⟩:=k1
  have hj:J m' a' w':=by
   refine ⟨F2,h2,G',j2,k2.le j3.fr,k3.weak j3.res,i4.trans ?_⟩
   obtain ⟨d,hp⟩:=j3.res
   have hsub:∀b o,V3 h2 b o->V3 h' b o:=fun b o hf=>(AQ hp).2 (JZ.2 (.inl hf))
   exact ⟨k4.os,k4.tape,k4.output,k4.size,k4.sub,k4.same,k4.newG,fun b o hb hf=>k4.newfp b o hb (hsub b o hf)⟩
  have hx':∃m,J m a' w':=⟨m',hj⟩
  refine ⟨hx',?_⟩
  show mu a' w'<mu a1 w1
  have hsp':=Classical.choose_spec (CG (fun m=>J m a' w') hx')
  rw [show mu a' w'=Classical.choose (CG (fun m=>J m a' w') hx') from dif_pos hx']
  exact Nat.lt_of_le_of_lt (hsp'.2 m' hj) j1
 | exit id=>exact keep k1
 | goto l=>exact keep k1
 | ret=>exact keep k1
 | panic ch=>exact keep k1
 | outgrown=>exact keep k1
end
def AE:Nat->List AV->Fr
 | _,[]=>[]
 | i,x::xs=>(i,x)::AE (i+1) xs
theorem HP {w:World} {G:Yc}:∀{xs:List AV} {vs:List Value} (i t:Nat) (tl:List Value),YP w G xs vs->RV w G ((AE i xs).get (i+t)) ((vs++tl).getD t undef)
 | _,_,i,t,tl,.nil=>.any
 | _,_,i,0,tl,.cons (x:=x) (xs:=xs) h hr=>by
  show RV w G (match Nat.beq i (i+0) with|true=>x|false=>Fr.get (AE (i+1) xs) (i+0)) _
  have:Nat.beq i (i+0)=true:=Nat.beq_refl i
  rw [this]
  simpa using h
 | _,_,i,t+1,tl,.cons (x:=x) (xs:=xs) h hr=>by
  show RV w G (match Nat.beq i (i+(t+1)) with|true=>x|false=>Fr.get (AE (i+1) xs) (i+(t+1))) _
  have hb:Nat.beq i (i+(t+1))=false:=by
   cases hq:Nat.beq i (i+(t+1))
   ·rfl
   ·have:=U0 hq;omega
  rw [hb]
  have:=HP (i+1) t tl hr
  rw [show i+1+t=i+(t+1) from by omega] at this
  simpa using this
def QR (P:Program) (F:Fr) (h:List Res):List ResultVar->List Nat->Option (List AV × List (Nat × Nat))
 | [],_=>some ([],[])
 | .tmp t::r,hints=>match QR P F h r hints with
  | some (xs,es)=>some (F.get t::xs,es)
  | none=>none
 | .cell t ty::r,hints=>match F.get t with
  | .val (.pointer (some ⟨b,o,none⟩))=>match h[hints.headD 0]? with
   | some (.obj b' ls)=>match Jq P ty (ls.drop o) with
    | some x=>match QR P F h r hints.tail with
     | some (xs,es)=>some (x::xs,(b,b')::es)
     | none=>none
    | none=>none
   | _=>none
  | _=>none
def Ae:List AV->AV
 | [x]=>x
 | xs=>.tup xs
theorem P3 (a:Addr):asAddr (.pointer (some a))=pure a:=rfl
theorem GV {P:Program} {w:World} {G:Yc} {n:Nat} {F:Fr} {h:List Res} {a:Act} (hF:FR w G n F a) (hh:YB w G h) :
  ∀{rs:List ResultVar} {hints:List Nat} {xs:List AV} {es:List (Nat × Nat)},QR P F h rs hints=some (xs,es)->(∀p∈es,p.1=p.2) ->
  ∃vs,YP w G xs vs/\(List.mapM (m:=Sem) (fun r=>match r with|.tmp t=>pure (a.tmps.getD t undef)|.cell b t=>do loadVar t (<-asAddr (a.tmps.getD b undef))) rs).run P w=.ok vs w
 | [],hints,xs,es,he,_=>by
  simp only [QR,XV,Prod.mk.injEq] at he
  obtain ⟨rfl,rfl⟩:=he
  exact ⟨[],.nil,by simp⟩
 | .tmp t::r,hints,xs,es,he,heq=>by
  simp only [QR] at he
  cases hr:QR P F h r hints with
  | none=>rw [hr] at he;cases he
  | some y=>
   obtain ⟨ys,es2⟩:=y
   rw [hr] at he
   simp only [XV,Prod.mk.injEq] at he
   obtain ⟨rfl,rfl⟩:=he
   obtain ⟨vs,h1,h2⟩:=GV hF hh hr heq
   refine ⟨a.tmps.getD t undef::vs,.cons (hF.get t) h1,?_⟩
   simp only [List.mapM_cons,Sem.run_bind,Sem.run_pure,Result.andThen_ok,h2]
 | .cell t ty::r,hints,xs,es,he,heq=>by
  simp only [QR] at he
  split at he
  ·rename_i b off hg
   split at he
   ·rename_i b' ls hl
    split at he
    ·rename_i x hx
     split at he
     ·rename_i ys es2 hr
      simp only [XV,Prod.mk.injEq] at he
      obtain ⟨rfl,rfl⟩:=he
      have hbb:b=b':=heq (b,b') (by simp)
      subst hbb
      obtain ⟨vs,h1,h2⟩:=GV hF hh hr fun p hp=>heq p (by simp [hp])
      have hv:=hF.get t
      rw [hg] at hv
      have hv:=hv.val_inv
      obtain ⟨cs,e,k1,k2⟩:=hh.ok _ (Y7 hl)
      obtain ⟨v,j1,j2⟩:=Et (P:=P) (b:=b) (o:=off) hx (k2.drop off)
      have j3:=j2 w fun j u hj=>by
       rw [cell_of_row w b (off+j) cs e (0,0) k1]
       simpa using hj
      refine ⟨v::vs,.cons j1 h1,?_⟩
      simp only [List.mapM_cons,Sem.run_bind,Sem.run_pure,Result.andThen_ok,hv,P3,j3,h2]
     ·cases he
    ·cases he
   ·cases he
  ·cases he
def Bh (P:Program) (fn:Func) (R:AV->List Res->Prop):Vc:=fun e F h=>
 (e=.normal∨e=.ret)/\∃hints xs es h' r,QR P F h fn.results.toList hints=some (xs,es)/\(∀p∈es,p.1=p.2)/\(∃d,h.Perm (h'++d))/\Zg (Ae xs) r/\R r h'
theorem GT {P:Program} {fn:Func} {R:AV->List Res->Prop} {F:Fr} {h h':List Res} {e:Exit} (he:(match e with|.normal|.ret=>true|_=>false)=true) (hints:List Nat) {xs:List AV}
  {es:List (Nat × Nat)} {r:AV} (hr:QR P F h fn.results.toList hints=some (xs,es)) (heq:∀p∈es,p.1=p.2) (hw:∃d,h.Perm (h'++d)) (hle:Zg (Ae xs) r) (hR:R r h'):Bh P fn R e F h:=
 ⟨by cases e<;>first|exact .inl rfl|exact .inr rfl|(cases he),hints,xs,es,h',r,hr,heq,hw,hle,hR⟩
theorem Z4u {P:Program} {fn:Func} {tmps:Array Value} {w:World} {vs:List Value}
  (h:(List.mapM (m:=Sem) (fun r=>match r with|.tmp t=>pure (tmps.getD t undef)|.cell b t=>do loadVar t (<-asAddr (tmps.getD b undef))) fn.results.toList).run P w=.ok vs w) :
  (results fn tmps).run P w=.ok (if h:vs.toArray.size=1 then vs.toArray[0] else .tuple vs.toArray) w:=by
 unfold results
 rw [Array.mapM_eq_mapM_toList]
 simp only [Sem.run_bind,Sem.run_map,Sem.run_pure]
 exact Yx (fun r=>(Result.andThen (Result.andThen r fun a w'=>Result.ok a.toArray w') fun a w'=>Result.ok (if h:a.size=1 then a[0] else Value.tuple a) w')) h
theorem enter {P:Program} {f:FuncId} {fn:Func} {xs:List AV} {h:List Res} {R:AV->List Res->Prop} {n:Nat} (hf:P.funcs[f]? = some fn) (hb:fn.body.isSome=true) (hn:fn.ntmps=n)
  (hle:Nat.ble xs.length n=true) (ha:X1 P n (Dm fn) (Bh P fn R) (AE 0 xs) h):Zi P f xs h R:=by
 intro w G vs hvs hh
 have hbody:fn.body=some (Dm fn):=by
  unfold Dm
  cases hq:fn.body with
  | none=>simp [hq] at hb
  | some c=>rfl
 have hlen:=hvs.length
 have hle:=WF hle
 refine calls_of_wp hf hbody ?_
 have hF:FR w G n (AE 0 xs) { tmps:=vs.toArray++Array.replicate (fn.ntmps-vs.toArray.size) undef,defers:=[] }:=by
  refine ⟨rfl,by simp [hn,hlen];omega,fun t=>?_⟩
  have:=HP (w:=w) (G:=G) 0 t (List.replicate (fn.ntmps-vs.toArray.size) undef) hvs
  rw [WQ] at this
  have e:(vs.toArray++Array.replicate (fn.ntmps-vs.toArray.size) undef).getD t undef=(vs++List.replicate (fn.ntmps-vs.toArray.size) undef).getD t undef:=by
   simp [Array.getElem?_append,List.getElem?_append,List.getElem?_replicate,Array.getElem?_replicate]
  rw [e]
  exact this
 refine wp_mono (ha w G _ hF hh) ?_
 intro e a w' ⟨F',h',G',hA,k1,k2,k3⟩
 obtain ⟨he,hints,ys,es,h2,r,hr,heq,hwk,hle,hR⟩:=hA
 obtain ⟨us,u1,u2⟩:=GV k1 k2 hr heq
 have hres:=Z4u u2
 have hval:RV w' G' (Ae ys) (if h:us.toArray.size=1 then us.toArray[0] else .tuple us.toArray):=by
  cases u1 with
  | nil=>simp [Ae];exact .tup (cs:=[]) .nil
  | cons a1 a2=>
   cases a2 with
   | nil=>simpa [Ae] using a1
   | cons b1 b2=>simpa [Ae] using RV.tup (.cons a1 (.cons b1 b2))
 obtain ⟨d,hp⟩:=hwk
 have k2':=(k2.perm hp).left
 have k3':YU w G h w' G' h2:=(k3.perm (Tz _) hp).sub' (List.sublist_append_left _ _)
 rcases he with rfl|rfl
 ·exact ⟨k1.defers,_,hres,_,_,h2,G',rfl,hR,hle _ _ _ hval,k2',k3'⟩
 ·exact ⟨k1.defers,_,hres,_,_,h2,G',rfl,hR,hle _ _ _ hval,k2',k3'⟩
def Jc (ops:Array Oper) (j i:Nat):Bool:=
 match ops[j]? with
 | some o=>o.after.any fun e=>Region.binds .any e&&e.on==i
 | none=>false
inductive Qx (ops:Array Oper):Nat->Nat->Prop
 | one {j i} (h:Jc ops j i=true):Qx ops j i
 | more {j m i} (h:Jc ops j m=true) (t:Qx ops m i):Qx ops j i
def Ek (ops:Array Oper):Nat->Nat->Nat->Bool
 | 0,j,i=>Jc ops j i
 | f+1,j,i=>match ops[j]? with
  | some o=>o.after.any fun e=>Region.binds .any e&&(e.on==i||(Nat.ble i e.on&&Ek ops f e.on i))
  | none=>false
def WA (ops:Array Oper) (j i:Nat):Bool:=Ek ops 9 j i
theorem IC {ops:Array Oper} {j:Nat} {o:Oper} {e:Edge} (ho:ops[j]? = some o) (he:e∈o.after) (hb:Region.binds .any e=true):Jc ops j e.on=true:=by
 unfold Jc
 rw [ho]
 simp only [Array.any_eq_true',XL,Zh]
 exact ⟨e,he,hb,rfl⟩
theorem MU {ops:Array Oper}:∀{f j i:Nat},Ek ops f j i=true->Qx ops j i
 | 0,j,i,h=>.one h
 | f+1,j,i,h=>by
  rw [Ek] at h
  split at h
  ·rename_i o ho
   simp only [Array.any_eq_true',XL,Bool.or_eq_true,Zh] at h
   obtain ⟨e,he,hb,h1|⟨_,h1⟩⟩:=h
   ·exact .one (h1▸IC ho he hb)
   ·exact .more (IC ho he hb) (MU h1)
  ·cases h
theorem P7 {ops:Array Oper} {j i:Nat} (h:WA ops j i=true):Qx ops j i:=MU h
def KZ (ops:Array Oper) (listed:Array Bool):Prop:=∀m i,listed.getD m false=true->Jc ops m i=true->listed.getD i false=true
theorem KZ.bef {ops:Array Oper} {listed:Array Bool} (hc:KZ ops listed) {j i:Nat} (hb:Qx ops j i):listed.getD j false=true->listed.getD i false=true:=by
 induction hb with
 | one h=>exact fun hj=>hc _ _ hj h
 | more h _ ih=>exact fun hj=>ih (hc _ _ hj h)
theorem FT {ops:Array Oper} {listed:Array Bool} {j i:Nat} (hj:j∈Region.ready .any ops listed) (h:Jc ops j i=true):listed.getD i false=true:=by
 obtain ⟨_,o,ho,hall⟩:=mem_ready.1 hj
 simp only [Jc,ho] at h
 obtain ⟨e,he,hb⟩:=Array.any_eq_true'.1 h
 simp only [XL,Zh] at hb
 exact hb.2▸hall e he hb.1
theorem Z3j {ops:Array Oper} {listed:Array Bool} {j i:Nat} (hc:KZ ops listed) (hj:j∈Region.ready .any ops listed) (hi:listed.getD i true=false):¬Qx ops j i:=by
 intro hb
 have hi':listed.getD i false=false:=by
  cases hq:listed.getD i false
  ·rfl
  ·rcases D7 i listed.size with h|h
   ·simp [h] at hi hq;rw [hi] at hq;cases hq
   ·simp [Array.getElem?_eq_none h] at hi
 have hl:listed.getD i false=true:=by
  cases hb with
  | one h=>exact FT hj h
  | more h t=>exact hc.bef t (FT hj h)
 rw [hi'] at hl
 cases hl
theorem KZ.add {ops:Array Oper} {listed:Array Bool} {j:Nat} (hc:KZ ops listed) (hj:j∈Region.ready .any ops listed):KZ ops (listed.setIfInBounds j true):=by
 intro m i hm he
 by_cases hmj:m=j
 ·subst hmj
  exact getD_set_true (FT hj he)
 ·rw [getD_set_ne false (Ne.symm hmj)] at hm
  exact getD_set_true (hc m i hm he)
abbrev C5:=Nat × (World->Prop)->Prop
def Ba (P:Program) (ops:Array Oper) (Q:Exit->Act->World->Prop):Nat->C5->Array Bool->Act->World->Prop
 | 0,_,listed,a,w=>Region.ready .any ops listed=[]/\Q .normal a w
 | fuel+1,T,listed,a,w=>
  (Region.ready .any ops listed=[]->Q .normal a w) /\
  ∀i∈Region.ready .any ops listed,wpOp P ops Q i (fun a' w'=>(∀p,T p->¬Qx ops i p.1->p.2 w') /\
   Ba P ops Q fuel (fun p=>T p/\¬Qx ops i p.1) (listed.setIfInBounds i true) a' w') a w
section
variable {P:Program} {ops:Array Oper} {Q:Exit->Act->World->Prop} {S:World->Prop}
theorem On:∀(fuel:Nat) (T:C5) (listed:Array Bool) (a:Act) (w:World),Ba P ops Q fuel T listed a w->wpAny P .any ops Q fuel listed a w
 | 0,_,_,_,_,h=>h
 | fuel+1,_,_,_,_,h=>⟨h.1,fun i hi=>wpOp_mono (fun _ _ h'=>On fuel _ _ _ _ h'.2) (h.2 i hi)⟩
theorem HD:∀(fuel:Nat) {T T':C5} (listed:Array Bool) (a:Act) (w:World),(∀p,T' p->T p)->Ba P ops Q fuel T listed a w->Ba P ops Q fuel T' listed a w
 | 0,_,_,_,_,_,_,h=>h
 | fuel+1,_,_,_,_,_,hT,h=>⟨h.1,fun i hi=>wpOp_mono (fun _ _ h'=>⟨fun p hp=>h'.1 p (hT p hp),HD fuel _ _ _ (fun p hp=>⟨hT p hp.1,hp.2⟩) h'.2⟩) (h.2 i hi)⟩
theorem Z99 {i:Nat} {oi:Oper} {v:Value} (hi:ops[i]? = some oi) (hsel:∀(j:Nat) (o:Oper) cs b,ops[j]? = some o->o.op≠.select cs b)
  (hQ:∀c a w,¬Q (.panic c) a w) :
  ∀(fuel:Nat) (T:C5) (listed:Array Bool) (a:Act) (w:World),KZ ops listed ->
   (∀j oj,ops[j]? = some oj->j≠i->listed.getD j true=false->(∀e∈oj.after,Region.binds .any e=true->e.on≠i)->oi.apart ops oj=true) ->
   i∈Region.ready .any ops listed->YieldsIf P ops S oi v a->S w->(∀p,T p->p.2 w) ->
   Ba P ops Q fuel (fun p=>T p∨p=(i,S)) (listed.setIfInBounds i true) (a.put oi.dst v) w->Ba P ops Q (fuel+1) T listed a w:=by
 intro fuel
 have hQ':∀c a w,Q (.panic c) (a.put oi.dst v) w->Q (.panic c) a w:=fun c a w h=>(hQ c _ w h).elim
 induction fuel with
 | zero=>
  intro T listed a w _ hfree hr hy hS hT H
  refine ⟨fun h=>(by rw [h] at hr;cases hr),fun j hj=>?_⟩
  by_cases hji:j=i
  ·subst hji
   exact hy.wpOp hi hS ⟨fun p hp _=>hT p hp,H⟩
  ·have:=ready_mono hj hji
   rw [H.1] at this
   cases this
 | succ fuel ih=>
  intro T listed a w hcl hfree hr hy hS hT H
  refine ⟨fun h=>(by rw [h] at hr;cases hr),fun j hj=>?_⟩
  by_cases hji:j=i
  ·subst hji
   exact hy.wpOp hi hS ⟨fun p hp _=>hT p hp,HD (fuel+1) _ _ _ (fun p hp=>.inl hp.1) H⟩
  ·have h1:=H.2 j (ready_mono hj hji)
   obtain ⟨hjun,oj,hoj,hall⟩:=mem_ready.1 hj
   have hiun:=(mem_ready.1 hr).1
   have hnb:¬Qx ops j i:=Z3j hcl hj hiun
   have hnot:∀e∈oj.after,Region.binds .any e=true->e.on≠i:=fun e he hb heq=>
    hnb (.one (by simp only [Jc,hoj];exact Array.any_eq_true'.2 ⟨e,he,by simp [hb,heq]⟩))
   have h2:=wpOp_putIf hoj (hfree j oj hoj hji hjun hnot) (fun cs b=>hsel i oi cs b hi) (fun cs b=>hsel j oj cs b hoj) hQ' hy h1
   have hfree':∀k ok,ops[k]? = some ok->k≠i->(listed.setIfInBounds j true).getD k true=false ->
     (∀e∈ok.after,Region.binds .any e=true->e.on≠i)->oi.apart ops ok=true:=fun k ok hk hki hun Gi=>by
    refine hfree k ok hk hki ?_ Gi
    by_cases hjk:j=k
    ·subst hjk;exact hjun
    ·rw [getD_set_ne true hjk] at hun;exact hun
   refine wpOp_mono (fun a' w' h3=>?_) h2
   obtain ⟨hy',hT',hrest⟩:=h3
   have hTp:∀p,T p/\¬Qx ops j p.1->p.2 w':=fun p hp=>hT' p (.inl hp.1) hp.2
   refine ⟨fun p hp hb=>hTp p ⟨hp,hb⟩,ih _ (listed.setIfInBounds j true) a' w' (hcl.add hj) hfree' (ready_mono hr (Ne.symm hji)) hy' (hT' (i,S) (.inr rfl) hnb) hTp ?_⟩
   rw [Array.setIfInBounds_comm _ _ hji]
   refine HD fuel _ _ _ (fun p hp=>?_) hrest
   rcases hp with hp|rfl
   ·exact ⟨.inl hp.1,hp.2⟩
   ·exact ⟨.inr rfl,hnb⟩
end
def Wu (ops:Array Oper) (done:List Nat):Array Bool:=done.foldl (fun l i=>l.setIfInBounds i true) (Array.replicate ops.size false)
theorem Eb (ops:Array Oper) (done:List Nat) (i:Nat):Wu ops (done++[i])=(Wu ops done).setIfInBounds i true:=by simp [Wu]
theorem Pn (ops:Array Oper):KZ ops (Wu ops []):=by
 intro m i hm _
 simp only [Wu,List.foldl_nil] at hm
 by_cases h:m<ops.size
 ·simp [h] at hm
 ·simp [h] at hm
def YM (P:Program) (n:Nat) (ops:Array Oper) (B:Fr->List Res->Prop) (T:List (Nat × List Nat)) (fuel:Nat) (done:List Nat) (F:Fr) (h:List Res):Prop:=
 ∀(Q:Exit->Act->World->Prop) w G a (SL:C5),FR w G n F a->YB w G h->(∀c a w,¬Q (.panic c) a w)->KZ ops (Wu ops done) ->
  (∀p,SL p->∃t∈T,t.1=p.1/\∀w',(∀b o,G b o->w'.cell? ⟨b,o,none⟩=w.cell? ⟨b,o,none⟩)->(∀b∈t.2,w'.heap[b]? = w.heap[b]?)->p.2 w') ->
  (∀F' h' G' a' w',B F' h'->FR w' G' n F' a'->YB w' G' h'->YU w G h w' G' h'->Q .normal a' w')->Ba P ops Q fuel SL (Wu ops done) a w
section
variable {P:Program} {n:Nat} {ops:Array Oper} {B:Fr->List Res->Prop} {T:List (Nat × List Nat)} {fuel:Nat} {done:List Nat} {F:Fr} {h:List Res}
theorem R8 (hr:Region.ready .any ops (Wu ops done)=[]) (hB:B F h):YM P n ops B T fuel done F h:=by
 intro Q w G a SL hF hh _ _ _ hk
 have hq:=hk F h G a w hB hF hh (YU.refl _ _ _)
 cases fuel with
 | zero=>exact ⟨hr,hq⟩
 | succ f=>exact ⟨fun _=>hq,by rw [hr];simp⟩
def KP (P:Program) (n:Nat) (ops:Array Oper) (h:List Res):List Nat->List Nat->Fr->List Nat->Option (Fr × List (Nat × List (Nat × Nat)))
 | [],_,F,_=>some (F,[])
 | i::is,done,F,hints=>
  match ops[i]? with
  | none=>none
  | some o=>
   match WW n o&&(Ji n ops o&&(Region.free .any ops (Wu ops done) i&&(Region.ready .any ops (Wu ops done)).contains i)) with
   | false=>none
   | true=>match QH ops F o with
    | none=>none
    | some false=>match KP P n ops h is (done++[i]) (F.put o.dst (.tup [])) hints with
     | none=>none
     | some (F',es)=>some (F',(i,[])::es)
    | some true=>match Tq P o F h (hints.headD 0) with
     | none=>none
     | some (x,eqs)=>match KP P n ops h is (done++[i]) (F.put o.dst x) (match eqs with | []=>hints | _=>hints.tail) with
      | none=>none
      | some (F',es)=>some (F',(i,eqs)::es)
def CK (es:List (Nat × List (Nat × Nat))):List (Nat × List Nat):=es.map fun e=>(e.1,e.2.map (·.1))
theorem Fu {i:Nat} {o:Oper} {ks:List Nat} {x:AV} (hs:Region.noSelect ops=true) (hi:ops[i]? = some o) (hd:WW n o=true) (hgl:Ji n ops o=true)
  (hf:Region.free .any ops (Wu ops done) i=true) (hr:(Region.ready .any ops (Wu ops done)).contains i=true)
  (hx:(QH ops F o=some false/\x=.tup []/\ks=[])∨(QH ops F o=some true/\Xy P o F h ks x))
  (H:YM P n ops B ((i,ks)::T) fuel (done++[i]) (F.put o.dst x) h):YM P n ops B T (fuel+1) done F h:=by
 intro Q w G a SL hF hh hQ hcl hcov hk
 have hready:i∈Region.ready .any ops (Wu ops done):=by simpa using hr
 let S:World->Prop:=fun w'=>(∀b o,G b o->w'.cell? ⟨b,o,none⟩=w.cell? ⟨b,o,none⟩)/\(∀b∈ks,w'.heap[b]? = w.heap[b]?)
 have hSL:∀p,SL p->p.2 w:=fun p hp=>by
  obtain ⟨t,_,_,h3⟩:=hcov p hp
  exact h3 w (fun _ _ _=>rfl) fun _ _=>rfl
 have key:∃v,RV w G x v/\YieldsIf P ops S o v a:=by
  rcases hx with ⟨hg,rfl,rfl⟩|⟨hg,hst⟩
  ·exact ⟨undef,.tup (cs:=[]) .nil,.inr ⟨BA hF hgl hg,rfl⟩⟩
  ·obtain ⟨v,h1,h2⟩:=hst n w G a hF hh
   exact ⟨v,h1,.inl ⟨BA hF hgl hg,fun w' hw'=>h2 w' hw'.1 hw'.2⟩⟩
 obtain ⟨v,hv,hy⟩:=key
 refine Z99 hi (Region.noSelect_spec hs) hQ fuel SL _ a w hcl (Region.free_spec hi hf) hready hy ⟨fun _ _ _=>rfl,fun _ _=>rfl⟩ hSL ?_
 rw [<-Eb]
 refine H Q w G _ _ (hF.put (U4 hd) hv) hh hQ (by rw [Eb];exact hcl.add hready) ?_ hk
 rintro p (hp|rfl)
 ·obtain ⟨t,h1,h2,h3⟩:=hcov p hp
  exact ⟨t,XG _ h1,h2,h3⟩
 ·exact ⟨(i,ks),Xh ..,rfl,fun w' h1 h2=>⟨h1,h2⟩⟩
theorem Ft:∀(is:List Nat) {T:List (Nat × List Nat)} {done:List Nat} {F F':Fr} {hints:List Nat} {es:List (Nat × List (Nat × Nat))} {fuel':Nat},Region.noSelect ops=true ->
  KP P n ops h is done F hints=some (F',es)->(∀e∈es,∀p∈e.2,p.1=p.2)->fuel'=fuel+is.length ->
  YM P n ops B ((CK es).reverse++T) fuel (done++is) F' h->YM P n ops B T fuel' done F h
 | [],T,done,F,F',hints,es,fuel',_,he,_,hf,H=>by
  simp only [KP,XV,Prod.mk.injEq] at he
  obtain ⟨rfl,rfl⟩:=he
  subst hf
  simpa [CK] using H
 | i::is,T,done,F,F',hints,es,fuel',hs,he,heq,hf,H=>by
  simp only [KP] at he
  cases ho:ops[i]? with
  | none=>rw [ho] at he;cases he
  | some o=>
   rw [ho] at he
   simp only at he
   cases hc:WW n o&&(Ji n ops o&&(Region.free .any ops (Wu ops done) i&&(Region.ready .any ops (Wu ops done)).contains i)) with
   | false=>rw [hc] at he;cases he
   | true=>
    rw [hc] at he
    simp only [XL] at hc
    obtain ⟨c1,c2,c3,c4⟩:=hc
    simp only at he
    have hfuel:fuel'=fuel+is.length+1:=by simp at hf;omega
    subst hfuel
    cases hg:QH ops F o with
    | none=>rw [hg] at he;cases he
    | some b=>
     rw [hg] at he
     cases b with
     | false=>
      simp only at he
      cases hr:KP P n ops h is (done++[i]) (F.put o.dst (.tup [])) hints with
      | none=>rw [hr] at he;cases he
      | some y=>
       obtain ⟨F2,es2⟩:=y
       rw [hr] at he
       simp only [XV,Prod.mk.injEq] at he
       obtain ⟨rfl,rfl⟩:=he
       refine Fu hs ho c1 c2 c3 c4 (.inl ⟨hg,rfl,rfl⟩) (Ft is hs hr (fun e he=>heq e (XG _ he)) rfl ?_)
       simpa [CK] using H
     | true=>
      simp only at he
      cases hev:Tq P o F h (hints.headD 0) with
      | none=>rw [hev] at he;cases he
      | some xe=>
       obtain ⟨x,eqs⟩:=xe
       rw [hev] at he
       simp only at he
       generalize (match eqs with|[]=>hints|_=>hints.tail)=hints' at he
       cases hr:KP P n ops h is (done++[i]) (F.put o.dst x) hints' with
       | none=>rw [hr] at he;cases he
       | some y=>
        obtain ⟨F2,es2⟩:=y
        rw [hr] at he
        simp only [XV,Prod.mk.injEq] at he
        obtain ⟨rfl,rfl⟩:=he
        have hst:=Bv hev (heq (i,eqs) (Xh ..))
        refine Fu hs ho c1 c2 c3 c4 (.inr ⟨hg,hst⟩) (Ft is hs hr (fun e he=>heq e (XG _ he)) rfl ?_)
        simpa [CK] using H
def Wm:List Res->List Nat
 | []=>[]
 | .obj b _::r=>b::Wm r
 | .row (.slice (some a) _ _) _ _::r=>a.block::Wm r
 | _::r=>Wm r
theorem Mi {b:Nat}:∀{h:List Res},b∈Wm h->∃r∈h,∀o,r.fp b o
 | [],hb=>by simp [Wm] at hb
 | x::r,hb=>by
  have up:b∈Wm r->∃q∈x::r,∀o,q.fp b o:=fun hb=>by obtain ⟨l,hl,hf⟩:=Mi (h:=r) hb;exact ⟨l,XG _ hl,hf⟩
  unfold Wm at hb
  split at hb
  ·rename_i he;cases he
  ·rename_i he
   cases he
   rcases YQ.1 hb with rfl|hb
   ·exact ⟨_,Xh ..,fun _=>rfl⟩
   ·exact up hb
  ·rename_i he
   cases he
   rcases YQ.1 hb with rfl|hb
   ·exact ⟨_,Xh ..,fun _=>rfl⟩
   ·exact up hb
  ·rename_i he
   cases he
   exact up hb
def V2 (P:Program) (n:Nat) (ops:Array Oper) (B:Fr->List Res->Prop) (T:List (Nat × List Nat)) (fuel:Nat) (done:List Nat) (F:Fr) (h:List Res) (i:Nat):Prop:=
 ∃o h1 h2,ops[i]? = some o/\QH ops F o=some true/\Ji n ops o=true/\h.Perm (h1++h2) /\
  (∀t∈T,WA ops i t.1=true∨∀b∈t.2,b∈Wm h2) /\
  We P n o F h1 fun F' h1'=>YM P n ops B (T.filter fun t=>!WA ops i t.1) fuel (done++[i]) F' (h1'++h2)
theorem Is {is:List Nat} (hr:Region.ready .any ops (Wu ops done)=is) (hne:is.isEmpty=false) (H:∀i∈is,V2 P n ops B T fuel done F h i):YM P n ops B T (fuel+1) done F h:=by
 intro Q w G a SL hF hh hQ hcl hcov hk
 refine ⟨fun h0=>(by rw [hr] at h0;subst h0;simp at hne),fun i hi=>?_⟩
 obtain ⟨o,h1,h2,ho,hg,hgl,hp,hT,hop⟩:=H i (hr▸hi)
 have hh':=hh.perm hp
 have hw:=BA hF hgl hg
 unfold wpOp
 simp only [ho,hw,if_true]
 refine .inl (Oper.wp_mono ?_ (hop Q w G a hF hh'.left))
 intro a' w' ⟨F',h1',G',b1,b2,b3,b4⟩
 obtain ⟨j1,j2⟩:=hh'.frame b4 b3
 have hA:=b4.agree hh'.left
 have hsame:∀b∈Wm h2,w'.heap[b]? = w.heap[b]?:=fun b hb=>by
  obtain ⟨r,hl,hr⟩:=Mi hb
  exact (b4.same b ((hh'.ok r (Xr.2 (.inr hl))).lt b 0 (hr 0))).eq fun o hf=>hh'.cross hf ⟨_,hl,hr o⟩
 have hcov':∀p,SL p/\¬Qx ops i p.1->∃t∈T.filter fun t=>!WA ops i t.1,t.1=p.1 /\
   ∀w'',(∀b o,G' b o->w''.cell? ⟨b,o,none⟩=w'.cell? ⟨b,o,none⟩)->(∀b∈t.2,w''.heap[b]? = w'.heap[b]?)->p.2 w'':=by
  rintro p ⟨hp,hb⟩
  obtain ⟨t,t1,t2,t3⟩:=hcov p hp
  have hbb:WA ops i t.1=false:=by
   cases hq:WA ops i t.1
   ·rfl
   ·exact absurd (t2▸P7 hq) hb
  refine ⟨t,List.mem_filter.2 ⟨t1,by simp [hbb]⟩,t2,fun w'' c1 c2=>t3 w'' (fun b o hg=>(c1 b o (hA.sub b o hg)).trans (hA.cell b o hg)) fun b hb'=>?_⟩
  rcases hT t t1 with h|h
  ·rw [hbb] at h;cases h
  ·exact (c2 b hb').trans (hsame b (h b hb'))
 refine ⟨fun p hp hb=>?_,?_⟩
 ·obtain ⟨t,_,_,t3⟩:=hcov' p ⟨hp,hb⟩
  exact t3 w' (fun _ _ _=>rfl) fun _ _=>rfl
 ·rw [<-Eb]
  exact b1 Q w' G' a' _ b2 j1 hQ (by rw [Eb];exact hcl.add hi) hcov' fun F2 h2' G2 a2 w2 c1 c2 c3 c4=>hk F2 h2' G2 a2 w2 c1 c2 c3 ((j2.perm hp.symm (Tz _)).trans c4)
theorem Rb {i:Nat} (hr:Region.ready .any ops (Wu ops done)=[i]) (H:V2 P n ops B T fuel done F h i):YM P n ops B T (fuel+1) done F h:=
 Is hr rfl fun j hj=>by rw [W3.1 hj];exact H
theorem Fw {F':Fr} (hw:F.Le F') (H:YM P n ops B T fuel done F' h):YM P n ops B T fuel done F h:=by
 intro Q w G a SL hF hh hQ hcl hcov hk
 exact H Q w G a SL (hF.le hw) hh hQ hcl hcov hk
end
theorem HN {P:Program} {n:Nat} {c:Code} {A:Vc} {F:Fr} {h:List Res} (hk:XT c=2) (hm:P.follows .mixedOrders=true) {k:Nat} (Xq:(Tl c).size=k)
  (hs:YM P n (Tl c) (A .normal) [] k [] F h):X1 P n c A F h:=by
 rw [Pb hk]
 intro w G a hF hh
 subst Xq
 let Q:Exit->Act->World->Prop:=fun e a' w'=>match e with
  | .normal=>J0 n A w G h .normal a' w'
  | _=>False
 have hx:=hs Q w.drew G a (fun _=>False) (hF.mono (JL w G)) hh.drew (fun _ _ _ hq=>hq) (Pn _) (fun p hp=>hp.elim)
  fun F' h' G' a' w' b1 b2 b3 b4=>⟨F',h',G',b1,b2,b3,(YU.drew w G h).trans b4⟩
 refine wp_mono (wp_region_any (Q:=Q) hm (On _ _ _ _ _ hx)) ?_
 intro e a' w' hq
 cases e with
 | normal=>exact hq
 | _=>exact hq.elim
theorem OD {P:Program} {n:Nat} {c:Code} {A:Vc} {F:Fr} {h:List Res} (hk:XT c=3) (hk2:XT (VF c)=2) (hm:P.follows .mixedOrders=true) {k:Nat}
  (Xq:(Tl (VF c)).size=k) (hs:YM P n (Tl (VF c)) (fun F h=>X1 P n (QD c) A F h) [] k [] F h):X1 P n c A F h:=
 Fa hk (HN hk2 hm Xq hs)
abbrev AV.i (n:Int):AV:=.val (.int .i64 n)
abbrev AV.b (b:Bool):AV:=.val (.bool b)
abbrev AV.p (b:Nat) (o:Nat):AV:=.val (.pointer (some ⟨b,o,none⟩))
abbrev AV.ms (b off len cap:Nat):AV:=.val (.slice (some ⟨b,off,none⟩) len cap)
def ZB (ops:Array Oper) (k:Nat):Oper:=ops.toList.getD k default
def YY (n:Nat) (ops:Array Oper) (F:Fr) (k:Nat):Bool:=
 Nat.blt k ops.size&&(WW n (ZB ops k)&&(Ji n ops (ZB ops k)&&(match QH ops F (ZB ops k) with|some true=>true|_=>false)))
abbrev SI (P:Program) (n:Nat) (ops:Array Oper) (B:Fr->List Res->Prop) (k:Nat) (F:Fr) (h:List Res):Prop:=Qf P n ops B (ops.toList.drop k) F h
theorem Rl {ops:Array Oper} {k:Nat} (h:k<ops.size):ops.toList.drop k=ZB ops k::ops.toList.drop (k+1):=by
 have this:k<ops.toList.length:=by simpa using h
 rw [Oq this]
 simp [ZB,List.getD,h]
section
variable {P:Program} {n:Nat} {ops:Array Oper} {B:Fr->List Res->Prop} {k:Nat} {F:Fr} {h:List Res}
theorem Ve (hk:YY n ops F k=true):k<ops.size/\WW n (ZB ops k)=true/\Ji n ops (ZB ops k)=true/\QH ops F (ZB ops k)=some true:=by
 simp only [YY,XL] at hk
 obtain ⟨h1,h2,h3,h4⟩:=hk
 refine ⟨by simpa using h1,h2,h3,?_⟩
 split at h4
 ·assumption
 ·cases h4
theorem UO (hk:YY n ops F k=true) (ho:We P n (ZB ops k) F h fun F' h'=>SI P n ops B (k+1) F' h'):SI P n ops B k F h:=by
 obtain ⟨h1,h2,h3,h4⟩:=Ve hk
 show Qf P n ops B (ops.toList.drop k) F h
 rw [Rl h1]
 exact Z5r h4 h3 ho
theorem Cx {ks:List Nat} {x:AV} (hk:YY n ops F k=true) (hs:Xy P (ZB ops k) F h ks x) (H:SI P n ops B (k+1) (F.put (ZB ops k).dst x) h):SI P n ops B k F h:=
 UO hk (hs.op (Ve hk).2.1 H)
def KO (P:Program) (n:Nat) (ops:Array Oper) (h:List Res) (k m:Nat) (F:Fr) (hints:List Nat) (F':Fr):Option (List AV × List Nat × List Nat):=
 match QT P n ops h m (ops.toList.drop k) F hints with
 | some (_,F1,es)=>some (F'.map (fun p=>(F1.get p.1).like p.2),es.map (·.1),es.map (·.2))
 | none=>none
theorem H3:∀(m:Nat) {l:List Oper} {F:Fr} {hints:List Nat} {l':List Oper} {F':Fr} {es:List (Nat × Nat)},QT P n ops h m l F hints=some (l',F',es)->l'=l.drop m
 | 0,l,F,hints,l',F',es,he=>by
  simp only [QT,XV,Prod.mk.injEq] at he
  simp [he.1]
 | m+1,[],F,hints,l',F',es,he=>by simp [QT] at he
 | m+1,o::l,F,hints,l',F',es,he=>by
  simp only [QT] at he
  split at he
  ·cases he
  ·split at he
   ·cases he
   ·simpa using H3 m he
   ·split at he
    ·cases he
    ·split at he
     ·cases he
     ·rename_i hr
      simp only [XV,Prod.mk.injEq] at he
      obtain ⟨rfl,_,_⟩:=he
      simpa using H3 m hr
theorem GR:∀{es:List (Nat × Nat)},es.map (·.1)=es.map (·.2)->∀p∈es,p.1=p.2
 | [],_,p,hp=>by simp at hp
 | e::es,h,p,hp=>by
  simp only [Un,List.cons.injEq] at h
  rcases YQ.1 hp with rfl|hp
  ·exact h.1
  ·exact GR h.2 p hp
theorem DU (m:Nat) (F':Fr) (hints bs:List Nat) (he:KO P n ops h k m F hints F'=some (F'.map (·.2),bs,bs)) (H:SI P n ops B (k+m) F' h):SI P n ops B k F h:=by
 unfold KO at he
 split at he
 ·rename_i l F1 es hr
  simp only [XV,Prod.mk.injEq] at he
  obtain ⟨h1,h2,h3⟩:=he
  refine H5 m hr (GR (h2.trans h3.symm)) (Ev (h':=h) ⟨G3 h1,[],by simp⟩ ?_)
  have:=H3 m hr
  rw [this,List.drop_drop]
  exact H
 ·cases he
theorem Z14 (x':AV) {x:AV} (hk:YY n ops F k=true) (he:Tq P (ZB ops k) F h 0=some (x,[])) (hx:Zg x x') (H:SI P n ops B (k+1) (F.put (ZB ops k).dst x') h):SI P n ops B k F h:=by
 refine Cx (ks:=[]) hk ?_ H
 have hs:=Bv he (by simp)
 intro n w G a hF hh
 obtain ⟨v,h1,h2⟩:=hs n w G a hF hh
 exact ⟨v,hx _ _ _ h1,by simpa using h2⟩
theorem Z11 (hk:Nat.ble ops.size k=true) (hB:B F h):SI P n ops B k F h:=by
 have:ops.toList.drop k=[]:=ES (by simpa using WF hk)
 show Qf P n ops B (ops.toList.drop k) F h
 rw [this]
 exact Z5q hB
theorem Lw (H:SI P n ops B 0 F h):Qf P n ops B ops.toList F h:=H
theorem Z10 (F':Fr) (h':List Res) (H:SI P n ops (fun F h=>TD F h F' h') k F h) (hB:B F' h') (hB':∀F h,TD F h F' h'->B F' h'->B F h):SI P n ops B k F h:=by
 intro Q w G a hF hh hk
 exact H Q w G a hF hh fun F2 h2 G2 a2 w2 b1 b2 b3 b4=>hk F2 h2 G2 a2 w2 (hB' _ _ b1 hB) b2 b3 b4
theorem Xo {c:Code} {A:Vc} (F':Fr) (h':List Res) (H:SI P n ops (fun F h=>TD F h F' h') k F h) (hB:X1 P n c A F' h'):SI P n ops (fun F h=>X1 P n c A F h) k F h:=
 Z10 F' h' H hB fun _ _ hw ha=>AC hw ha
theorem Z15 {b:Bool} (t:Nat) (hF:F.get t=.val (.bool b)) (h1:b=true->SI P n ops B k ((t,.val (.bool true))::F) h)
  (h2:b=false->SI P n ops B k ((t,.val (.bool false))::F) h):SI P n ops B k F h:=by
 cases b with
 | true=>exact Ev ⟨Bx hF (Zg.refl _) (Fr.Le.refl F),[],by simp⟩ (h1 rfl)
 | false=>exact Ev ⟨Bx hF (Zg.refl _) (Fr.Le.refl F),[],by simp⟩ (h2 rfl)
theorem ZI {b:Bool} {p:Prop} (h:b=true↔p) (hb:b=false):¬p:=fun q=>by have:=h.2 q;rw [hb] at this;cases this
theorem Zr {α:Type} {xs:List α} {j:Nat} (h:j<xs.length):∃x,xs[j]? = some x:=⟨_,JB h⟩
theorem YD {a b:Bool} {p q:Prop} (h1:a=true↔p) (h2:b=true↔q):(a&&b)=true↔p/\q:=by rw [XL,h1,h2]
theorem Yo {a b:Bool} {p q:Prop} (h1:a=true↔p) (h2:b=true↔q):(a||b)=true↔p∨q:=by rw [Bool.or_eq_true,h1,h2]
theorem Yw {a:Bool} {p:Prop} (h1:a=true↔p):(!a)=true↔¬p:=by rw [<-h1];cases a<;>simp
def Kv (ops:Array Oper) (F:Fr) (k:Nat):Option Int:=
 match (ZB ops k).op with
 | .binOp op _ x y _=>match F.ev x,F.ev y with
  | .val (.int .i64 a),.val (.int .i64 b)=>match op with
   | .add=>some (a+b)
   | .sub=>some (a-b)
   | .mul=>some (a*b)
   | _=>none
  | _,_=>none
 | _=>none
theorem NV {r s:Int} (ha:Kv ops F k=some s) (hs:s=r) (hb:-9223372036854775808<=r/\r<=9223372036854775807) :
  Xy P (ZB ops k) F h [] (.val (.int .i64 r)):=by
 subst hs
 unfold Kv at ha
 generalize hoo:ZB ops k=o at ha
 obtain ⟨dst,op,type,pos,after,guard⟩:=o
 cases op<;>simp only at ha<;>try (cases ha)
 rename_i bop xt x y yt
 split at ha
 ·rename_i a b h1 h2
  have key:∀v,Ci bop .i64 a b=some (.int .i64 (IntKind.i64.wrap v))->v=s->Xy P { dst:=dst,op:=.binOp bop xt x y yt,type:=type,pos:=pos,after:=after,guard:=guard } F h [] (.val (.int .i64 s)):=by
   intro v hv hvs
   have he:Tq P { dst:=dst,op:=.binOp bop xt x y yt,type:=type,pos:=pos,after:=after,guard:=guard } F h 0=some (.val (.int .i64 (IntKind.i64.wrap v)),[]):=by
    simp only [Tq,h1,h2,CT,hv]
   have:=Bv he (by simp)
   rw [hvs,IntWalk.i64_in s hb] at this
   simpa using this
  split at ha
  ·cases ha;exact key (a+b) rfl rfl
  ·cases ha;exact key (a-b) rfl rfl
  ·cases ha;exact key (a*b) rfl rfl
  ·cases ha
 ·cases ha
theorem Z0x (r:Int) {s:Int} (hk:YY n ops F k=true) (ha:Kv ops F k=some s) (hs:s=r) (hb:-9223372036854775808<=r/\r<=9223372036854775807)
  (H:SI P n ops B (k+1) (F.put (ZB ops k).dst (.val (.int .i64 r))) h):SI P n ops B k F h:=
 Cx (ks:=[]) hk (NV ha hs hb) H
def VM:List Nat->List Res->Option (List Res × List Res)
 | [],l=>some ([],l)
 | i::is,l=>match l[i]? with
  | some r=>match VM is (l.eraseIdx i) with
   | some (a,b)=>some (r::a,b)
   | none=>none
  | none=>none
theorem IE:∀{l:List Res} {i:Nat} {r:Res},l[i]? = some r->l.Perm (r::l.eraseIdx i)
 | [],i,r,h=>by simp at h
 | x::l,0,r,h=>by simp at h;subst h;simp
 | x::l,i+1,r,h=>by
  have:=IE (l:=l) (i:=i) (r:=r) (by simpa using h)
  simp only [List.eraseIdx_cons_succ]
  exact (List.Perm.cons x this).trans (List.Perm.swap r x _)
theorem VN:∀{is:List Nat} {l a b:List Res},VM is l=some (a,b)->l.Perm (a++b)
 | [],l,a,b,h=>by
  simp only [VM,XV,Prod.mk.injEq] at h
  obtain ⟨rfl,rfl⟩:=h
  simp
 | i::is,l,a,b,h=>by
  simp only [VM] at h
  split at h
  ·rename_i r hr
   split at h
   ·rename_i a' b' hp
    simp only [XV,Prod.mk.injEq] at h
    obtain ⟨rfl,rfl⟩:=h
    exact (IE hr).trans (List.Perm.cons r (VN hp))
   ·cases h
  ·cases h
theorem Z98 {F':Fr} {h' d:List Res} (is:List Nat) (hF:F.Le F') (hp:VM is h=some (h',d)):TD F h F' h':=⟨hF,d,VN hp⟩
def QE (P:Program) (ops:Array Oper) (F:Fr) (k:Nat):Option (FuncId × List AV):=
 match (ZB ops k).op with
 | .call c=>match c.callee with
  | .value (.func f)=>match P.funcs[f]? with
   | some fn=>match fn.body.isSome&&!(fn.name== "runtime.NumGoroutine") with
    | true=>some (f,c.args.toList.map F.ev)
    | false=>none
   | none=>none
  | .value t=>match F.ev t with
   | .val (.func (.func f) vs caps)=>match vs.toList,P.funcs[f]? with
    | [],some fn=>match fn.body.isSome&&!(fn.name== "runtime.NumGoroutine") with
     | true=>some (f,c.args.toList.map F.ev++caps.toList.map AV.val)
     | false=>none
    | _,_=>none
   | _=>none
  | _=>none
 | _=>none
theorem Eg {K:Fr->List Res->Prop} {f:FuncId} {xs:List AV} {h1 h2:List Res} {R:AV->List Res->Prop} (hd:WW n (ZB ops k)=true) (hc:QE P ops F k=some (f,xs))
  (hp:h.Perm (h1++h2)) (H:Zi P f xs h1 R) (hK:∀r h',R r h'->K (F.put (ZB ops k).dst r) (h'++h2)):We P n (ZB ops k) F h K:=by
 unfold QE at hc
 generalize hoo:ZB ops k=o at hc hd hK
 obtain ⟨dst,op,type,pos,after,guard⟩:=o
 cases op<;>simp only at hc<;>try (cases hc)
 rename_i c
 obtain ⟨callee,args,tys⟩:=c
 cases callee with
 | builtin b=>cases hc
 | invoke r m=>cases hc
 | value t=>
  simp only at hc
  split at hc
  ·rename_i g hg
   cases hg
   split at hc
   ·rename_i fn hf
    split at hc
    ·rename_i hb
     simp only [XL,Bool.not_eq_true'] at hb
     simp only [XV,Prod.mk.injEq] at hc
     obtain ⟨rfl,rfl⟩:=hc
     exact Z3u _ args tys rfl hf hb.1 hb.2 rfl hd hp H hK
    ·cases hc
   ·cases hc
  ·rename_i t' hnf ht'
   cases ht'
   split at hc
   ·rename_i g vs caps hv
    split at hc
    ·rename_i fn hvs hf
     split at hc
     ·rename_i hb
      simp only [XL,Bool.not_eq_true'] at hb
      simp only [XV,Prod.mk.injEq] at hc
      obtain ⟨rfl,rfl⟩:=hc
      have:vs=#[]:=by rw [<-VJ (xs:=vs),hvs]
      subst this
      exact Z3v t args tys rfl hv hf hb.1 hb.2 rfl hd hp H hK
     ·cases hc
    ·cases hc
   ·cases hc
  ·cases hc
theorem Z0y (f:FuncId) (xs:List AV) (is:List Nat) {h1 h2:List Res} {R:AV->List Res->Prop} (hk:YY n ops F k=true) (hc:QE P ops F k=some (f,xs))
  (hp:VM is h=some (h1,h2)) (H:Zi P f xs h1 R) (hK:∀r h',R r h'->SI P n ops B (k+1) (F.put (ZB ops k).dst r) (h'++h2)):SI P n ops B k F h:=
 UO hk (Eg (Ve hk).2.1 hc (VN hp) H hK)
def A5 (P:Program) (ops:Array Oper) (F:Fr) (k:Nat):Option (AV × Int × Nat):=
 match (ZB ops k).op with
 | .indexAddr t x ix=>match P.underlying t with
  | some (.slice e)=>match P.info? e with
   | some i=>match F.ev ix with
    | .val (.int _ j)=>some (F.ev x,j,i.size)
    | _=>none
   | none=>none
  | _=>none
 | _=>none
theorem Ak {es:List AV} {hv:Option Value} {j:Int} {sz:Nat} {y:AV} (hi:A5 P ops F k=some (.sl es hv,j,sz)) (h0:0<=j) (hget:es[j.toNat]? = some y)
  (hy:y.leaves.length=sz):Xy P (ZB ops k) F h [] (.rp y.leaves):=by
 unfold A5 at hi
 generalize hoo:ZB ops k=o at hi
 obtain ⟨dst,op,type,pos,after,guard⟩:=o
 cases op<;>simp only at hi<;>try (cases hi)
 rename_i t x ix
 split at hi
 ·rename_i e ht
  split at hi
  ·rename_i i hinfo
   split at hi
   ·rename_i ik j' hix
    simp only [XV,Prod.mk.injEq] at hi
    obtain ⟨h1,rfl,rfl⟩:=hi
    exact Z7u t x ix rfl ht hinfo rfl h1 hix h0 hget hy
   ·cases hi
  ·cases hi
 ·cases hi
theorem NX {b off len cap:Nat} {j:Int} {sz:Nat} (hi:A5 P ops F k=some (.val (.slice (some ⟨b,off,none⟩) len cap),j,sz)) (h0:0<=j) (hlt:j<len) :
  Xy P (ZB ops k) F h [] (.val (.pointer (some ⟨b,off+j.toNat * sz,none⟩))):=by
 unfold A5 at hi
 generalize hoo:ZB ops k=o at hi
 obtain ⟨dst,op,type,pos,after,guard⟩:=o
 cases op<;>simp only at hi<;>try (cases hi)
 rename_i t x ix
 split at hi
 ·rename_i e ht
  split at hi
  ·rename_i i hinfo
   split at hi
   ·rename_i ik j' hix
    simp only [XV,Prod.mk.injEq] at hi
    obtain ⟨h1,rfl,rfl⟩:=hi
    exact Z7v t x ix rfl ht hinfo rfl h1 hix h0 hlt
   ·cases hi
  ·cases hi
 ·cases hi
def Hb (P:Program) (ops:Array Oper) (F:Fr) (k:Nat) (len:Int):Option (AV × Int × Int × Nat):=
 match (ZB ops k).op with
 | .slice t x lo hi none=>match P.underlying t with
  | some (.slice e)=>match P.info? e with
   | some i=>match Ad F lo 0,Ad F hi len with
    | some l,some m=>some (F.ev x,l,m,i.size)
    | _,_=>none
   | none=>none
  | _=>none
 | _=>none
theorem Z81 {es:List AV} {hv:Option Value} {l m:Int} {sz:Nat} (hi:Hb P ops F k es.length=some (.sl es hv,l,m,sz)) (h0:0<=l) (h1:l<=m) (h2:m<=es.length)
  (hes:∀y∈es,y.leaves.length=sz):Xy P (ZB ops k) F h [] (.sl ((es.take m.toNat).drop l.toNat) none):=by
 unfold Hb at hi
 generalize hoo:ZB ops k=o at hi
 obtain ⟨dst,op,type,pos,after,guard⟩:=o
 cases op<;>simp only at hi<;>try (cases hi)
 rename_i t x lo hi' mx
 cases mx with
 | some _=>simp at hi
 | none=>
  simp only at hi
  split at hi
  ·rename_i e ht
   split at hi
   ·rename_i i hinfo
    split at hi
    ·rename_i l' m' hl hm
     simp only [XV,Prod.mk.injEq] at hi
     obtain ⟨hx,rfl,rfl,rfl⟩:=hi
     exact Z80 t x lo hi' rfl ht hinfo rfl hx hl hm h0 h1 h2 hes
    ·cases hi
   ·cases hi
  ·cases hi
theorem Kl {es es':List AV} {hv:Option Value} {l m:Int} {sz:Nat} (hi:Hb P ops F k es.length=some (.sl es hv,l,m,sz)) (h0:0<=l) (h1:l<=m) (h2:m<=es.length)
  (hes:∀y∈es,y.leaves.length=sz) (he:(es.take m.toNat).drop l.toNat=es'):Xy P (ZB ops k) F h [] (.sl es' none):=he▸Z81 hi h0 h1 h2 hes
def U1 (P:Program) (ops:Array Oper) (F:Fr) (k:Nat):Option (AV × AV × Nat):=
 match (ZB ops k).op with
 | .call c=>match c.callee,c.args.toList,c.argTypes.toList with
  | .builtin .append,[s,x],[t,t']=>match Nat.beq t t',P.underlying t with
   | true,some (.slice e)=>match P.info? e with
    | some i=>match i.zero with
     | some z=>match Nat.beq z.cells.size i.size&&Nat.ble i.bytes 32768 with
      | true=>some (F.ev s,F.ev x,i.size)
      | false=>none
     | none=>none
    | none=>none
   | _,_=>none
  | _,_,_=>none
 | _=>none
theorem Mp {K:Fr->List Res->Prop} {es xs:List AV} {hv:Value} {hx:Option Value} {sz:Nat} {h1 h2:List Res} (hd:WW n (ZB ops k)=true)
  (ha:U1 P ops F k=some (.sl es (some hv),.sl xs hx,sz)) (hes:∀y∈es,y.leaves.length=sz) (hxs:∀y∈xs,y.leaves.length=sz) (hone:(Zl xs).all AV.one=true)
  (hbound:es.length+xs.length<=4294967296)
  (hK:∀v',(v'.ownBlock=hv.ownBlock∨∃b,v'.ownBlock=some b/\JH (h1++.tail hv sz::h2) b)->K (F.put (ZB ops k).dst (.sl (es++xs) (some v'))) (h1++.tail v' sz::h2)) :
  We P n (ZB ops k) F (h1++.tail hv sz::h2) K:=by
 unfold U1 at ha
 generalize hoo:ZB ops k=o at ha hd hK
 obtain ⟨dst,op,type,pos,after,guard⟩:=o
 cases op<;>simp only at ha<;>try (cases ha)
 rename_i c
 obtain ⟨callee,args,tys⟩:=c
 simp only at ha
 split at ha
 ·rename_i s x t t' hargs htys
  split at ha
  ·rename_i e htt ht
   have:=U0 htt
   subst this
   split at ha
   ·rename_i i hinfo
    split at ha
    ·rename_i z hz
     split at ha
     ·rename_i hb
      simp only [XL] at hb
      simp only [XV,Prod.mk.injEq] at ha
      obtain ⟨h3,h4,rfl⟩:=ha
      have e1:args=#[s,x]:=by rw [<-VJ (xs:=args),hargs]
      have e2:tys=#[t,t]:=by rw [<-VJ (xs:=tys),htys]
      subst e1;subst e2
      exact Z3s s x t rfl ht hinfo rfl (by rw [hz];simp [U0 hb.1]) hb.2 h3 h4 hd hes hxs hone hbound hK
     ·cases ha
    ·cases ha
   ·cases ha
  ·cases ha
 ·cases ha
theorem We.perm {K:Fr->List Res->Prop} {o:Oper} {h':List Res} (hp:h.Perm h') (H:We P n o F h' K):We P n o F h K:=by
 intro Q w G a hF hh
 refine Oper.wp_mono ?_ (H Q w G a hF (hh.perm hp))
 intro a' w' ⟨F',h2,G',b1,b2,b3,b4⟩
 exact ⟨F',h2,G',b1,b2,b3,b4.perm hp.symm (Tz _)⟩
theorem Z0w (j:Nat) (es':List AV) {es xs:List AV} {hv:Value} {hx:Option Value} {sz:Nat} {h2:List Res} (hk:YY n ops F k=true)
  (ha:U1 P ops F k=some (.sl es (some hv),.sl xs hx,sz)) (hp:VM [j] h=some ([.tail hv sz],h2)) (hes:∀y∈es,y.leaves.length=sz) (hxs:∀y∈xs,y.leaves.length=sz)
  (hone:(Zl xs).all AV.one=true) (hbound:es.length+xs.length<=4294967296) (he:es++xs=es')
  (hK:∀v',SI P n ops B (k+1) (F.put (ZB ops k).dst (.sl es' (some v'))) (.tail v' sz::h2)):SI P n ops B k F h:=
 UO hk (We.perm (VN hp) (Mp (h1:=[]) (Ve hk).2.1 ha hes hxs hone hbound fun v' _=>by rw [he];exact hK v'))
theorem Ht {w:World} {G:Yc} {sz:Nat} (hh:YB w G h):YB w G (.tail (.slice none 0 0) sz::h)/\YU w G h w G (.tail (.slice none 0 0) sz::h):=
 ⟨⟨fun r hr=>by
   rcases YQ.1 hr with rfl|hr
   ·exact .inl rfl
   ·exact hh.ok r hr,WP.2 ⟨fun _ _ _ _ hf=>hf.elim,hh.apart⟩,fun r hr b o hf hg=>by
   rcases YQ.1 hr with rfl|hr
   ·exact hf.elim
   ·exact hh.prot r hr b o hf hg,hh.lt⟩,
  ⟨rfl,rfl,rfl,X6 _,fun _ _ h=>h,fun _ _=>.inl rfl,fun _ _ _ h=>.inl h,fun b o _ ⟨r,hr,hf⟩=>by
   rcases YQ.1 hr with rfl|hr
   ·exact hf.elim
   ·exact ⟨r,hr,hf⟩⟩⟩
theorem Dd {c:Code} {A:Vc} (sz:Nat) (H:X1 P n c A F (.tail (.slice none 0 0) sz::h)):X1 P n c A F h:=by
 intro w G a hF hh
 obtain ⟨h1,h2⟩:=Ht (sz:=sz) hh
 exact wp_mono (H w G a hF h1) fun e a' w' hc=>hc.trans h2
end
section
variable {P:Program} {n:Nat} {ops:Array Oper} {B:Fr->List Res->Prop} {k:Nat} {F:Fr} {h:List Res}
def Bi (P:Program) (ops:Array Oper) (F:Fr) (k:Nat):Option (List AV):=
 match (ZB ops k).op with
 | .alloc t=>BY P t
 | .box _ x=>match (F.ev x).fit with
  | true=>some (F.ev x).leaves
  | false=>none
 | _=>none
theorem Mo {K:Fr->List Res->Prop} {ls:List AV} (hd:WW n (ZB ops k)=true) (ha:Bi P ops F k=some ls)
  (hK:∀b,JH h b->K (F.put (ZB ops k).dst (.val (.pointer (some ⟨b,0,none⟩)))) (.obj b ls::h)):We P n (ZB ops k) F h K:=by
 unfold Bi at ha
 generalize hoo:ZB ops k=o at ha hd hK
 obtain ⟨dst,op,type,pos,after,guard⟩:=o
 cases op<;>simp only at ha<;>try (cases ha)
 case alloc t=>exact Z3q t rfl ha hd hK
 case box t x=>
  split at ha
  ·rename_i hf
   cases ha
   exact Z3t t x rfl rfl hf hd hK
  ·cases ha
def storeAt (P:Program) (ops:Array Oper) (F:Fr) (k:Nat):Option (Nat × Nat × List AV):=
 match (ZB ops k).op with
 | .store t x y=>match F.ev x,(ZB ops k).dst,P.info? t with
  | .val (.pointer (some ⟨b,o,none⟩)),none,some i=>match Nat.beq i.size (F.ev y).leaves.length&&((F.ev y).fit&&(F.ev y).leaves.all AV.one) with
   | true=>some (b,o,(F.ev y).leaves)
   | false=>none
  | _,_,_=>none
 | _=>none
theorem Mv {K:Fr->List Res->Prop} {b o:Nat} {xs ls:List AV} {h2:List Res} (hs:storeAt P ops F k=some (b,o,xs)) (hle:Nat.ble (o+xs.length) ls.length=true)
  (hK:K F (.obj b (ls.take o++xs++ls.drop (o+xs.length))::h2)):We P n (ZB ops k) F (.obj b ls::h2) K:=by
 unfold storeAt at hs
 generalize hoo:ZB ops k=q at hs
 obtain ⟨dst,op,type,pos,after,guard⟩:=q
 cases op<;>simp only at hs<;>try (cases hs)
 rename_i t x y
 split at hs
 ·rename_i b' o' i hx hi
  split at hs
  ·rename_i hc
   simp only [XL] at hc
   simp only [XV,Prod.mk.injEq] at hs
   obtain ⟨rfl,rfl,rfl⟩:=hs
   exact Z42 (h1:=[]) t x y rfl rfl hx rfl (by simp only [XL];exact hc.2) (by rw [hi];simp [U0 hc.1]) hle hK
  ·cases hs
 ·cases hs
def UQ (P:Program) (ops:Array Oper) (F:Fr) (k:Nat):Option (List AV × Nat × Nat):=
 match (ZB ops k).op with
 | .buildSlice t len parts=>match P.underlying t with
  | some (.slice e)=>match P.info? e with
   | some i=>match i.zero.isSome&&Nat.ble (len*i.size) (2 ^ 24) with
    | true=>match Je (fun j=>some (j*i.size,i.size)) (List.replicate (len*i.size) .any) (parts.toList.map fun p=>(p.1,F.ev p.2)) with
     | some ls=>some (ls,len,i.size)
     | none=>none
    | false=>none
   | none=>none
  | _=>none
 | _=>none
theorem Mq {K:Fr->List Res->Prop} {es:List AV} {len sz:Nat} (hd:WW n (ZB ops k)=true) (ha:UQ P ops F k=some (Zl es,len,sz)) (hlen:es.length=len) (hall:J3 es sz=true)
  (hK:∀b,JH h b->K (F.put (ZB ops k).dst (.sl es (some (.slice (some ⟨b,0,none⟩) len len)))) (.tail (.slice (some ⟨b,0,none⟩) len len) sz::h)):We P n (ZB ops k) F h K:=by
 unfold UQ at ha
 generalize hoo:ZB ops k=q at ha hd hK
 obtain ⟨dst,op,type,pos,after,guard⟩:=q
 cases op<;>simp only at ha<;>try (cases ha)
 rename_i t ln parts
 split at ha
 ·rename_i e ht
  split at ha
  ·rename_i i hi
   split at ha
   ·rename_i hc
    simp only [XL] at hc
    split at ha
    ·rename_i ls hf
     simp only [XV,Prod.mk.injEq] at ha
     obtain ⟨rfl,rfl,rfl⟩:=ha
     exact Z3w t _ parts rfl ht hi rfl hc.1 hc.2 hf hlen hall hd hK
    ·cases ha
   ·cases ha
  ·cases ha
 ·cases ha
theorem Z0v (ls:List AV) (hk:YY n ops F k=true) (ha:Bi P ops F k=some ls)
  (hK:∀b,SI P n ops B (k+1) (F.put (ZB ops k).dst (.val (.pointer (some ⟨b,0,none⟩)))) (.obj b ls::h)):SI P n ops B k F h:=
 UO hk (Mo (Ve hk).2.1 ha fun b _=>hK b)
theorem Z16 (j:Nat) {b o:Nat} {xs ls:List AV} {h2:List Res} (ls':List AV) (hk:YY n ops F k=true) (hs:storeAt P ops F k=some (b,o,xs)) (hp:VM [j] h=some ([.obj b ls],h2))
  (hle:Nat.ble (o+xs.length) ls.length=true) (he:ls.take o++xs++ls.drop (o+xs.length)=ls') (H:SI P n ops B (k+1) F (.obj b ls'::h2)):SI P n ops B k F h:=
 UO hk (We.perm (VN hp) (Mv hs hle (by rw [he];exact H)))
theorem Z12 (es:List AV) {len sz:Nat} (hk:YY n ops F k=true) (ha:UQ P ops F k=some (Zl es,len,sz)) (hlen:es.length=len) (hall:J3 es sz=true)
  (hK:∀v,SI P n ops B (k+1) (F.put (ZB ops k).dst (.sl es (some v))) (.tail v sz::h)):SI P n ops B k F h:=
 UO hk (Mq (Ve hk).2.1 ha hlen hall fun _ _=>hK _)
variable {T:List (Nat × List Nat)} {fuel fuel':Nat} {done:List Nat}
def Kj (P:Program) (n:Nat) (ops:Array Oper) (h:List Res) (is done:List Nat) (F:Fr) (hints:List Nat) (F':Fr):Option (List AV × List Nat × List Nat):=
 match KP P n ops h is done F hints with
 | some (F1,es)=>some (F'.map (fun p=>(F1.get p.1).like p.2),es.flatMap (fun e=>e.2.map (·.1)),es.flatMap (fun e=>e.2.map (·.2)))
 | none=>none
def Kh (P:Program) (n:Nat) (ops:Array Oper) (h:List Res) (is done:List Nat) (F:Fr) (hints:List Nat):List (Nat × List Nat):=
 match KP P n ops h is done F hints with
 | some (_,es)=>CK es
 | none=>[]
theorem Mz:∀{es:List (Nat × List (Nat × Nat))},es.flatMap (fun e=>e.2.map (·.1))=es.flatMap (fun e=>e.2.map (·.2))->∀e∈es,∀p∈e.2,p.1=p.2
 | [],_,e,he=>by simp at he
 | x::es,hq,e,he=>by
  simp only [JA] at hq
  have h1:=List.append_inj hq (by simp)
  rcases YQ.1 he with rfl|he
  ·exact GR h1.1
  ·exact Mz h1.2 e he
theorem J7 (is:List Nat) (F':Fr) (hints bs:List Nat) (hs:Region.noSelect ops=true) (he:Kj P n ops h is done F hints F'=some (F'.map (·.2),bs,bs)) (hf:fuel'=fuel+is.length)
  (H:YM P n ops B ((Kh P n ops h is done F hints).reverse++T) fuel (done++is) F' h):YM P n ops B T fuel' done F h:=by
 unfold Kj at he
 unfold Kh at H
 cases hr:KP P n ops h is done F hints with
 | none=>rw [hr] at he;cases he
 | some y=>
  obtain ⟨F1,es⟩:=y
  rw [hr] at he H
  simp only [XV,Prod.mk.injEq] at he
  obtain ⟨h1,h2,h3⟩:=he
  exact Ft is hs hr (Mz (h2.trans h3.symm)) hf (Fw (G3 h1) H)
def Vz (ops:Array Oper) (i:Nat) (T:List (Nat × List Nat)):List Nat:=(T.filter fun t=>!WA ops i t.1).flatMap (·.2)
theorem Z3o {i:Nat} {h2:List Res} (js bs:List Nat) (h1:Vz ops i T=bs) (h3:js.map (fun j=>(Wm h2)[j]?)=bs.map some) :
  ∀t∈T,WA ops i t.1=true∨∀b∈t.2,b∈Wm h2:=by
 have hall:∀(js bs:List Nat),js.map (fun j=>(Wm h2)[j]?)=bs.map some->∀b∈bs,b∈Wm h2:=by
  intro js
  induction js with
  | nil=>intro bs hb b hm;cases bs with
   | nil=>simp at hm
   | cons _ _=>simp at hb
  | cons j js ih=>intro bs hb b hm;cases bs with
   | nil=>simp at hm
   | cons c bs=>
    simp only [Un,List.cons.injEq] at hb
    rcases YQ.1 hm with rfl|hm
    ·exact Y7 hb.1
    ·exact ih bs hb.2 b hm
 intro t ht
 cases hq:WA ops i t.1 with
 | true=>exact .inl rfl
 | false=>
  refine .inr fun b hb=>hall js bs h3 b ?_
  rw [<-h1]
  exact List.mem_flatMap.2 ⟨t,List.mem_filter.2 ⟨ht,by simp [hq]⟩,hb⟩
theorem Mm {i:Nat} (hi:i<ops.size):ops[i]? = some (ZB ops i):=by
 simp [ZB,List.getD,hi]
theorem Ql {i:Nat} (is js bs:List Nat) {h1 h2:List Res} (hk:YY n ops F i=true) (hp:VM is h=some (h1,h2)) (ho:Vz ops i T=bs) (hj:js.map (fun j=>(Wm h2)[j]?)=bs.map some)
  (H:We P n (ZB ops i) F h1 fun F' h1'=>YM P n ops B (T.filter fun t=>!WA ops i t.1) fuel (done++[i]) F' (h1'++h2)):V2 P n ops B T fuel done F h i:=by
 obtain ⟨q1,_,q3,q4⟩:=Ve hk
 exact ⟨_,h1,h2,Mm q1,q4,q3,VN hp,Z3o js bs ho hj,H⟩
theorem R6 (i:Nat) (f:FuncId) (xs:List AV) (is js bs:List Nat) {h1 h2:List Res} {R:AV->List Res->Prop} (hk:YY n ops F i=true) (hc:QE P ops F i=some (f,xs))
  (hp:VM is h=some (h1,h2)) (ho:Vz ops i T=bs) (hj:js.map (fun j=>(Wm h2)[j]?)=bs.map some) (H:Zi P f xs h1 R)
  (hK:∀r h',R r h'->YM P n ops B (T.filter fun t=>!WA ops i t.1) fuel (done++[i]) (F.put (ZB ops i).dst r) (h'++h2)):V2 P n ops B T fuel done F h i:=
 Ql is js bs hk hp ho hj (Eg (h2:=[]) (Ve hk).2.1 hc (by simp) H fun r h' hr=>by simpa using hK r h' hr)
theorem R3 (i:Nat) (js bs:List Nat) (ls:List AV) (hk:YY n ops F i=true) (ha:Bi P ops F i=some ls) (ho:Vz ops i T=bs) (hj:js.map (fun j=>(Wm h)[j]?)=bs.map some)
  (hK:∀b,YM P n ops B (T.filter fun t=>!WA ops i t.1) fuel (done++[i]) (F.put (ZB ops i).dst (.val (.pointer (some ⟨b,0,none⟩)))) (.obj b ls::h)):V2 P n ops B T fuel done F h i:=
 Ql (h1:=[]) (h2:=h) [] js bs hk rfl ho hj (Mo (Ve hk).2.1 ha fun b _=>hK b)
theorem R9 (i:Nat) (js bs:List Nat) (es:List AV) {len sz:Nat} (hk:YY n ops F i=true) (ha:UQ P ops F i=some (Zl es,len,sz)) (hlen:es.length=len) (hall:J3 es sz=true)
  (ho:Vz ops i T=bs) (hj:js.map (fun j=>(Wm h)[j]?)=bs.map some)
  (hK:∀v,YM P n ops B (T.filter fun t=>!WA ops i t.1) fuel (done++[i]) (F.put (ZB ops i).dst (.sl es (some v))) (.tail v sz::h)):V2 P n ops B T fuel done F h i:=
 Ql (h1:=[]) (h2:=h) [] js bs hk rfl ho hj (Mq (Ve hk).2.1 ha hlen hall fun _ _=>hK _)
theorem R4 (i j:Nat) (js bs:List Nat) (es':List AV) {es xs:List AV} {hv:Value} {hx:Option Value} {sz:Nat} {h2:List Res} (hk:YY n ops F i=true)
  (ha:U1 P ops F i=some (.sl es (some hv),.sl xs hx,sz)) (hp:VM [j] h=some ([.tail hv sz],h2)) (hes:∀y∈es,y.leaves.length=sz) (hxs:∀y∈xs,y.leaves.length=sz)
  (hone:(Zl xs).all AV.one=true) (hbound:es.length+xs.length<=4294967296) (he:es++xs=es') (ho:Vz ops i T=bs) (hj:js.map (fun j=>(Wm h2)[j]?)=bs.map some)
  (hK:∀v',YM P n ops B (T.filter fun t=>!WA ops i t.1) fuel (done++[i]) (F.put (ZB ops i).dst (.sl es' (some v'))) (.tail v' sz::h2)):V2 P n ops B T fuel done F h i:=
 Ql [j] js bs hk hp ho hj (Mp (h1:=[]) (h2:=[]) (Ve hk).2.1 ha hes hxs hone hbound fun v' _=>by rw [he];exact hK v')
theorem Rd (i j:Nat) (js bs:List Nat) {b o:Nat} {xs ls:List AV} {h2:List Res} (ls':List AV) (hk:YY n ops F i=true) (hs:storeAt P ops F i=some (b,o,xs))
  (hp:VM [j] h=some ([.obj b ls],h2)) (hle:Nat.ble (o+xs.length) ls.length=true) (he:ls.take o++xs++ls.drop (o+xs.length)=ls') (ho:Vz ops i T=bs)
  (hj:js.map (fun j=>(Wm h2)[j]?)=bs.map some) (H:YM P n ops B (T.filter fun t=>!WA ops i t.1) fuel (done++[i]) F (.obj b ls'::h2)):V2 P n ops B T fuel done F h i:=
 Ql [j] js bs hk hp ho hj (Mv (h2:=[]) hs hle (by rw [he];exact H))
theorem Dq (i:Nat) {ks:List Nat} {x:AV} (hs:Region.noSelect ops=true) (hk:YY n ops F i=true)
  (hf:Region.free .any ops (Wu ops done) i=true) (hr:(Region.ready .any ops (Wu ops done)).contains i=true) (hx:Xy P (ZB ops i) F h ks x)
  (H:YM P n ops B ((i,ks)::T) fuel (done++[i]) (F.put (ZB ops i).dst x) h):YM P n ops B T (fuel+1) done F h:=by
 obtain ⟨q1,q2,q3,q4⟩:=Ve hk
 exact Fu hs (Mm q1) q2 q3 hf hr (.inr ⟨q4,hx⟩) H
theorem Ra (i:Nat) (x':AV) {x:AV} (hs:Region.noSelect ops=true) (hk:YY n ops F i=true)
  (hf:Region.free .any ops (Wu ops done) i=true) (hr:(Region.ready .any ops (Wu ops done)).contains i=true) (he:Tq P (ZB ops i) F h 0=some (x,[])) (hx:Zg x x')
  (H:YM P n ops B ((i,[])::T) fuel (done++[i]) (F.put (ZB ops i).dst x') h):YM P n ops B T (fuel+1) done F h:=by
 refine Dq i (ks:=[]) hs hk hf hr ?_ H
 have hst:=Bv he (by simp)
 intro n w G a hF hh
 obtain ⟨v,h1,h2⟩:=hst n w G a hF hh
 exact ⟨v,hx _ _ _ h1,by simpa using h2⟩
theorem R5 (i:Nat) (r:Int) {s:Int} (hns:Region.noSelect ops=true) (hk:YY n ops F i=true)
  (hf:Region.free .any ops (Wu ops done) i=true) (hr:(Region.ready .any ops (Wu ops done)).contains i=true) (ha:Kv ops F i=some s) (hs:s=r)
  (hb:-9223372036854775808<=r/\r<=9223372036854775807)
  (H:YM P n ops B ((i,[])::T) fuel (done++[i]) (F.put (ZB ops i).dst (.val (.int .i64 r))) h):YM P n ops B T (fuel+1) done F h:=
 Dq i (ks:=[]) hns hk hf hr (NV ha hs hb) H
theorem Rc {b:Bool} (t:Nat) (hF:F.get t=.val (.bool b)) (h1:b=true->YM P n ops B T fuel done ((t,.val (.bool true))::F) h)
  (h2:b=false->YM P n ops B T fuel done ((t,.val (.bool false))::F) h):YM P n ops B T fuel done F h:=by
 cases b with
 | true=>exact Fw (Bx hF (Zg.refl _) (Fr.Le.refl F)) (h1 rfl)
 | false=>exact Fw (Bx hF (Zg.refl _) (Fr.Le.refl F)) (h2 rfl)
theorem JU {c:Code} {A:Vc} (F':Fr) (h':List Res) (H:YM P n ops (fun F h=>TD F h F' h') T fuel done F h) (hB:X1 P n c A F' h'):YM P n ops (fun F h=>X1 P n c A F h) T fuel done F h:=by
 intro Q w G a SL hF hh hQ hcl hcov hk
 exact H Q w G a SL hF hh hQ hcl hcov fun F2 h2 G2 a2 w2 b1 b2 b3 b4=>hk F2 h2 G2 a2 w2 (AC b1 hB) b2 b3 b4
end
end Go.Abs
section
namespace Go.Abs
structure Y5 where
 fields:List Int
structure Zf where
 frm:Int
 to_:Int
 cons:List Y5
mutual
inductive Z4 where
 | mk (op num into:Int) (args:List Int) (kids:List Z6)
inductive Z6 where
 | mk (steps:List Z4) (result:Int)
end
namespace Z4
def op:Z4->Int|.mk a _ _ _ _=>a
def num:Z4->Int|.mk _ a _ _ _=>a
def into:Z4->Int|.mk _ _ a _ _=>a
def args:Z4->List Int|.mk _ _ _ a _=>a
def kids:Z4->List Z6|.mk _ _ _ _ a=>a
end Z4
namespace Z6
def steps:Z6->List Z4|.mk a _=>a
def result:Z6->Int|.mk _ a=>a
end Z6
structure Yb where
 params:List Int
 lent:List Int
 result:Int
 body:Z6
structure Zx where
 decls:List Zf
 routines:List Yb
def Z8 (xs:List Int):List AV:=xs.map AV.i
def W7 (xs:List (List Int)):List AV:=xs.map fun l=>.sl (Z8 l) none
abbrev AB (c:Y5):AV:=.agg [.sl (Z8 c.fields) none]
def Wx (cs:List Y5):List AV:=cs.map AB
abbrev Uo (d:Zf):AV:=.agg [.i d.frm,.i d.to_,.sl (Wx d.cons) none]
def YW (ds:List Zf):List AV:=ds.map Uo
mutual
def FM:Z4->AV
 | .mk op num into args kids=>.agg [.i op,.i num,.i into,.sl (Z8 args) none,.sl (YH kids) none]
def FA:Z6->AV
 | .mk steps result=>.agg [.sl (Zv steps) none,.i result]
def Zv:List Z4->List AV
 | []=>[]
 | s::ss=>FM s::Zv ss
def YH:List Z6->List AV
 | []=>[]
 | b::bs=>FA b::YH bs
end
abbrev Y3 (s:Z4):AV:=.agg [.i s.op,.i s.num,.i s.into,.sl (Z8 s.args) none,.sl (YH s.kids) none]
abbrev Zs (b:Z6):AV:=.agg [.sl (Zv b.steps) none,.i b.result]
abbrev WS (r:Yb):AV:=.agg [.sl (Z8 r.params) none,.sl (Z8 r.lent) none,.i r.result,.sl (Zv r.body.steps) none,.i r.body.result]
def YN (rs:List Yb):List AV:=rs.map WS
abbrev ZD (n:Zx):AV:=.agg [.sl (YW n.decls) none,.sl (YN n.routines) none]
theorem RC (s:Z4):FM s=Y3 s:=by cases s;rw [FM];rfl
theorem Ro (b:Z6):FA b=Zs b:=by cases b;rw [FA];rfl
theorem Vd:∀xs:List Z4,Zv xs=xs.map Y3
 | []=>by rw [Zv];rfl
 | s::ss=>by rw [Zv,Vd ss,RC];rfl
theorem Ur:∀xs:List Z6,YH xs=xs.map Zs
 | []=>by rw [YH];rfl
 | b::bs=>by rw [YH,Ur bs,Ro];rfl
section
theorem Y4 {xs:List Int} {j:Nat} {x:Int} (h:xs[j]? = some x):(Z8 xs)[j]? = some (.i x):=by simp [Z8,h]
theorem Dv {xs:List (List Int)} {j:Nat} {x:List Int} (h:xs[j]? = some x):(W7 xs)[j]? = some (.sl (Z8 x) none):=by simp [W7,h]
theorem Bo {xs:List Y5} {j:Nat} {x:Y5} (h:xs[j]? = some x):(Wx xs)[j]? = some (AB x):=by simp [Wx,h]
theorem Vk {xs:List Zf} {j:Nat} {x:Zf} (h:xs[j]? = some x):(YW xs)[j]? = some (Uo x):=by simp [YW,h]
theorem Wa {xs:List Z4} {j:Nat} {x:Z4} (h:xs[j]? = some x):(Zv xs)[j]? = some (Y3 x):=by simp [Vd,h]
theorem U5 {xs:List Z6} {j:Nat} {x:Z6} (h:xs[j]? = some x):(YH xs)[j]? = some (Zs x):=by simp [Ur,h]
theorem WB {xs:List Yb} {j:Nat} {x:Yb} (h:xs[j]? = some x):(YN xs)[j]? = some (WS x):=by simp [YN,h]
@[simp] theorem Yh (xs:List Int):(Z8 xs).length=xs.length:=by simp [Z8]
@[simp] theorem Dw (xs:List (List Int)):(W7 xs).length=xs.length:=by simp [W7]
@[simp] theorem Ud (xs:List Y5):(Wx xs).length=xs.length:=by simp [Wx]
@[simp] theorem VU (xs:List Zf):(YW xs).length=xs.length:=by simp [YW]
@[simp] theorem Vl (xs:List Z4):(Zv xs).length=xs.length:=by simp [Vd]
@[simp] theorem VG (xs:List Z6):(YH xs).length=xs.length:=by simp [Ur]
@[simp] theorem VV (xs:List Yb):(YN xs).length=xs.length:=by simp [YN]
theorem XW (xs ys:List Int):Z8 (xs++ys)=Z8 xs++Z8 ys:=by simp [Z8]
theorem FK (xs ys:List (List Int)):W7 (xs++ys)=W7 xs++W7 ys:=by simp [W7]
theorem Rs (xs ys:List Zf):YW (xs++ys)=YW xs++YW ys:=by simp [YW]
theorem Wy (xs ys:List Z4):Zv (xs++ys)=Zv xs++Zv ys:=by simp [Vd]
theorem J8 (xs ys:List Z6):YH (xs++ys)=YH xs++YH ys:=by simp [Ur]
theorem AM (xs ys:List Yb):YN (xs++ys)=YN xs++YN ys:=by simp [YN]
theorem KD (xs:List Int) (n:Nat):(Z8 xs).take n=Z8 (xs.take n):=by simp [Z8]
theorem J9 (xs:List Int) (n:Nat):(Z8 xs).drop n=Z8 (xs.drop n):=by simp [Z8]
theorem FH (xs:List Y5) (n:Nat):(Wx xs).take n=Wx (xs.take n):=by simp [Wx]
theorem FF (xs:List Y5) (n:Nat):(Wx xs).drop n=Wx (xs.drop n):=by simp [Wx]
theorem Bq (xs:List Zf) (n:Nat):(YW xs).take n=YW (xs.take n):=by simp [YW]
theorem Bp (xs:List Zf) (n:Nat):(YW xs).drop n=YW (xs.drop n):=by simp [YW]
theorem Jb (xs:List Z4) (n:Nat):(Zv xs).take n=Zv (xs.take n):=by simp [Vd]
theorem Ja (xs:List Z4) (n:Nat):(Zv xs).drop n=Zv (xs.drop n):=by simp [Vd]
theorem FC (xs:List Z6) (n:Nat):(YH xs).take n=YH (xs.take n):=by simp [Ur]
theorem FB (xs:List Z6) (n:Nat):(YH xs).drop n=YH (xs.drop n):=by simp [Ur]
theorem YF (xs:List Int):∀y∈Z8 xs,y.leaves.length=1:=by intro y hy;simp only [Z8,W6] at hy;obtain ⟨x,_,rfl⟩:=hy;rfl
theorem JW (xs:List (List Int)):∀y∈W7 xs,y.leaves.length=1:=by intro y hy;simp only [W7,W6] at hy;obtain ⟨x,_,rfl⟩:=hy;rfl
theorem FG (xs:List Y5):∀y∈Wx xs,y.leaves.length=1:=by intro y hy;simp only [Wx,W6] at hy;obtain ⟨x,_,rfl⟩:=hy;rfl
theorem Ka (xs:List Zf):∀y∈YW xs,y.leaves.length=3:=by intro y hy;simp only [YW,W6] at hy;obtain ⟨x,_,rfl⟩:=hy;rfl
theorem X8 (xs:List Z4):∀y∈Zv xs,y.leaves.length=5:=by intro y hy;simp only [Vd,W6] at hy;obtain ⟨x,_,rfl⟩:=hy;rfl
theorem T7 (xs:List Z6):∀y∈YH xs,y.leaves.length=2:=by intro y hy;simp only [Ur,W6] at hy;obtain ⟨x,_,rfl⟩:=hy;rfl
theorem Ue (xs:List Yb):∀y∈YN xs,y.leaves.length=5:=by intro y hy;simp only [YN,W6] at hy;obtain ⟨x,_,rfl⟩:=hy;rfl
theorem KG {es:List AV} (h:∀y∈es,y.leaves.all AV.one=true):(Zl es).all AV.one=true:=by
 simp only [Zl,List.all_flatMap,Kq]
 intro y hy
 exact Kq.1 (h y hy)
theorem XX (xs:List Int):(Zl (Z8 xs)).all AV.one=true:=KG fun y hy=>by simp only [Z8,W6] at hy;obtain ⟨x,_,rfl⟩:=hy;rfl
theorem Dx (xs:List (List Int)):(Zl (W7 xs)).all AV.one=true:=KG fun y hy=>by simp only [W7,W6] at hy;obtain ⟨x,_,rfl⟩:=hy;rfl
theorem Rr (xs:List Y5):(Zl (Wx xs)).all AV.one=true:=KG fun y hy=>by simp only [Wx,W6] at hy;obtain ⟨x,_,rfl⟩:=hy;rfl
theorem Ds (xs:List Zf):(Zl (YW xs)).all AV.one=true:=KG fun y hy=>by simp only [YW,W6] at hy;obtain ⟨x,_,rfl⟩:=hy;rfl
theorem Vv (xs:List Z4):(Zl (Zv xs)).all AV.one=true:=KG fun y hy=>by simp only [Vd,W6] at hy;obtain ⟨x,_,rfl⟩:=hy;rfl
theorem Dr (xs:List Z6):(Zl (YH xs)).all AV.one=true:=KG fun y hy=>by simp only [Ur,W6] at hy;obtain ⟨x,_,rfl⟩:=hy;rfl
theorem JX (xs:List Yb):(Zl (YN xs)).all AV.one=true:=KG fun y hy=>by simp only [YN,W6] at hy;obtain ⟨x,_,rfl⟩:=hy;rfl
end
end Go.Abs
end
namespace Go.Abs
def TP (v:Value):Nat:=v.ownBlock.getD 0
def KW (v:Value) (m:Nat):Value:=
 match v with
 | .slice a _ cap=>.slice a m cap
 | v=>v
theorem Nq {α:Type} (l:List α) (n:Nat) (x:α) (h:n<l.length):l.take n++[x]++l.drop (n+1)=l.set n x:=by
 rw [D6,Zo h];simp
theorem YB.vwrite {w:World} {G:Yc} {h2:List Res} {g cap n':Nat} {ls ls':List AV} (hh:YB w G (.vec (.slice (some ⟨g,0,none⟩) ls.length cap) ls::h2)) {cs cs':Array Value} {e:TypeId}
  (hb:w.heap[g]? = some (.cells cs e (0,0))) (Xq:cs'.size=cs.size) (hn:n'=ls'.length) (hle:ls'.length<=cap) (hcap:cs.size=cap) (hls:YP w G ls' (cs'.toList.take ls'.length)) :
  YB (w.setRow g cs') G (.vec (.slice (some ⟨g,0,none⟩) n' cap) ls'::h2) /\
   YU w G (.vec (.slice (some ⟨g,0,none⟩) ls.length cap) ls::h2) (w.setRow g cs') G (.vec (.slice (some ⟨g,0,none⟩) n' cap) ls'::h2):=by
 subst hn
 have hmem:Res.vec (.slice (some ⟨g,0,none⟩) ls.length cap) ls∈Res.vec (.slice (some ⟨g,0,none⟩) ls.length cap) ls::h2:=Xh ..
 have hA:Vt G w (w.setRow g cs') G:=⟨fun c j hg=>by
  have hne:c≠g:=fun he=>hh.prot _ hmem c j he hg
  simp [World.cell?,Vn w g c cs' hne],fun _ _ h=>h⟩
 have hpw:=WP.1 hh.apart
 have hother:∀r∈h2,∀c j,r.fp c j->c≠g:=fun r hr c j hf hc=>hpw.1 r hr c j hc hf
 refine ⟨⟨?_,WP.2 ⟨fun r hr=>hpw.1 r hr,hpw.2⟩,?_,?_⟩,⟨rfl,rfl,rfl,by simp [World.setRow],fun _ _ h=>h,?_,fun _ _ _ h=>.inl h,?_⟩⟩
 ·intro r hr
  rcases YQ.1 hr with rfl|hr
  ·exact .inr ⟨g,cap,cs',e,rfl,setRow_heap w g cs cs' e (0,0) hb,hle,Xq.trans hcap,hls.mono hA⟩
  ·have h0:=hh.ok r (XG _ hr)
   cases r with
   | obj c ks=>
    obtain ⟨ds,el,k1,k2⟩:=h0
    exact ⟨ds,el,(Vn w g c cs' (hother _ hr c 0 rfl)).trans k1,k2.mono hA⟩
   | tail v k=>
    rcases h0 with rfl|⟨g2,len,cap2,cur,el,rfl,k1,k2,k3⟩
    ·exact .inl rfl
    ·exact .inr ⟨g2,len,cap2,cur,el,rfl,(Vn w g g2 cs' (hother _ hr g2 (len*k) ⟨rfl,X6 _⟩)).trans k1,k2,k3⟩
   | ge s=>exact Vh h0 (by simp [World.setRow])
   | vec v ks=>
    rcases h0 with ⟨rfl,h0⟩|⟨g2,cap2,cur2,el,rfl,k1,k2,k3,k4⟩
    ·exact .inl ⟨rfl,h0⟩
    ·exact .inr ⟨g2,cap2,cur2,el,rfl,(Vn w g g2 cs' (hother _ hr g2 0 rfl)).trans k1,k2,k3,k4.mono hA⟩
   | many ts=>
    refine ⟨fun p hp=>?_,h0.2⟩
    rcases h0.1 p hp with q|⟨g2,len,cap2,cur,el,q,k1,k2,k3⟩
    ·exact .inl q
    ·exact .inr ⟨g2,len,cap2,cur,el,q,(Vn w g g2 cs' (hother _ hr g2 (len*p.2) ⟨p,hp,by rw [q];exact ⟨rfl,X6 _⟩⟩)).trans k1,k2,k3⟩
   | own B m=>
    intro c hc
    obtain ⟨ds,el,k1,k2⟩:=h0 c hc
    exact ⟨ds,el,(Vn w g c cs' (hother _ hr c 0 hc)).trans k1,k2⟩
   | row v k ks=>
    rcases h0 with ⟨rfl,h0⟩|⟨g2,len2,cap2,cur2,el,rfl,k1,k2,k3,k4,k5⟩
    ·exact .inl ⟨rfl,h0⟩
    ·exact .inr ⟨g2,len2,cap2,cur2,el,rfl,(Vn w g g2 cs' (hother _ hr g2 0 rfl)).trans k1,k2,k3,k4,k5.mono hA⟩
 ·intro r hr c j hf hg
  rcases YQ.1 hr with rfl|hr
  ·exact hh.prot _ hmem c j hf hg
  ·exact hh.prot r (XG _ hr) c j hf hg
 ·intro c j hg
  have:=hh.lt c j hg
  simpa [World.setRow] using this
 ·intro c hc
  by_cases hcb:c=g
  ·subst hcb
   exact .inr ⟨cs,cs',e,(0,0),hb,setRow_heap w c cs cs' e (0,0) hb,Xq,fun j hj=>absurd ⟨_,hmem,rfl⟩ hj⟩
  ·exact .inl (Vn w g c cs' hcb)
 ·rintro c j _ ⟨r,hr,hf⟩
  rcases YQ.1 hr with rfl|hr
  ·exact ⟨_,hmem,hf⟩
  ·exact ⟨r,XG _ hr,hf⟩
theorem YB.alloc_vec {w:World} {G:Yc} {h:List Res} (hh:YB w G h) (cs:Array Value) (t:TypeId) {ls:List AV} {cap:Nat} (hcap:ls.length<=cap) (Xq:cs.size=cap)
  (hls:YP w G ls (cs.toList.take ls.length)) :
  YB (w.alloc (.cells cs t)) G (.vec (.slice (some ⟨w.heap.size,0,none⟩) ls.length cap) ls::h)/\YU w G h (w.alloc (.cells cs t)) G (.vec (.slice (some ⟨w.heap.size,0,none⟩) ls.length cap) ls::h):=by
 have hA:Vt G w (w.alloc (.cells cs t)) G:=⟨fun b j hg=>Ca w _ (hh.lt b j hg),fun _ _ h=>h⟩
 refine hh.alloc (.cells cs t) (h':=[.vec (.slice (some ⟨w.heap.size,0,none⟩) ls.length cap) ls]) (fun _ _ h=>h) (fun _ _ h=>.inl h) ?_ ?_ (C0 _ _) ?_
 ·intro r hr
  rw [W3.1 hr]
  exact .inr ⟨_,cap,cs,t,rfl,DN w _,hcap,Xq,hls.mono hA⟩
 ·intro r hr b j hf
  rw [W3.1 hr] at hf
  exact hf
 ·intro r hr b j hf hg
  rw [W3.1 hr] at hf
  have:=hh.lt b j hg
  have:b=w.heap.size:=hf
  omega
theorem Z8w {w:World} {G:Yc} {h:List Res} (hh:YB w G h):YB w G (.vec (.slice none 0 0) []::h)/\YU w G h w G (.vec (.slice none 0 0) []::h):=
 ⟨⟨fun r hr=>by
   rcases YQ.1 hr with rfl|hr
   ·exact .inl ⟨rfl,rfl⟩
   ·exact hh.ok r hr,WP.2 ⟨fun _ _ _ _ hf=>hf.elim,hh.apart⟩,fun r hr b o hf hg=>by
   rcases YQ.1 hr with rfl|hr
   ·exact hf.elim
   ·exact hh.prot r hr b o hf hg,hh.lt⟩,
  ⟨rfl,rfl,rfl,X6 _,fun _ _ h=>h,fun _ _=>.inl rfl,fun _ _ _ h=>.inl h,fun b o _ ⟨r,hr,hf⟩=>by
   rcases YQ.1 hr with rfl|hr
   ·exact hf.elim
   ·exact ⟨r,hr,hf⟩⟩⟩
section
variable {P:Program} {n:Nat} {ops:Array Oper} {B:Fr->List Res->Prop} {k:Nat} {F:Fr} {h h2:List Res}
def BI (P:Program) (ops:Array Oper) (F:Fr) (k:Nat):Option AV:=
 match (ZB ops k).op with
 | .call c=>match c.callee,c.args.toList,c.argTypes.toList with
  | .builtin .len,[x],[t]=>match P.underlying t with
   | some (.slice _)=>some (F.ev x)
   | _=>none
  | _,_,_=>none
 | _=>none
theorem JJ.form {w:World} {G:Yc} {v:Value} {ls:List AV} (h:JJ w G v ls):∃a cap,v=.slice a ls.length cap:=by
 rcases h with ⟨rfl,rfl⟩|⟨g,cap,cur,e,rfl,_⟩
 ·exact ⟨none,0,rfl⟩
 ·exact ⟨_,cap,rfl⟩
theorem Z83 (j:Nat) {v:Value} {ls:List AV} (hl:BI P ops F k=some (.val v)) (hj:h[j]? = some (.vec v ls)):Xy P (ZB ops k) F h [] (.val (.int .i64 ls.length)):=by
 unfold BI at hl
 generalize hoo:ZB ops k=o at hl
 obtain ⟨dst,op,type,pos,after,guard⟩:=o
 cases op<;>simp only at hl<;>try (cases hl)
 rename_i c
 obtain ⟨callee,args,tys⟩:=c
 simp only at hl
 split at hl
 ·rename_i x t hargs htys
  split at hl
  ·rename_i el hu
   simp only [XV] at hl
   intro n w G a hF hh
   have hv:=hF.ev x
   rw [hl] at hv
   have hv:=hv.val_inv
   obtain ⟨ad,cap,rfl⟩:=JJ.form (hh.ok _ (Y7 hj))
   have e1:args=#[x]:=by rw [<-VJ (xs:=args),hargs]
   have e2:tys=#[t]:=by rw [<-VJ (xs:=tys),htys]
   subst e1;subst e2
   exact ⟨_,.val,fun w' _ _=>by simp [execOp,resolve,invoke,builtin,hv,Builtin.len_,Vs hu,goInt]⟩
  ·cases hl
 ·cases hl
theorem Z82 (j:Nat) {v:Value} {ls:List AV} {i:Int} (hi:A5 P ops F k=some (.val v,i,1)) (hj:h[j]? = some (.vec v ls)) (h0:0<=i) (hlt:i<ls.length) :
  Xy P (ZB ops k) F h [] (.val (.pointer (some ⟨TP v,i.toNat,none⟩))):=by
 intro n w G a hF hh
 rcases hh.ok _ (Y7 hj) with ⟨rfl,rfl⟩|⟨g,cap,cur,e,rfl,_⟩
 ·simp at hlt;omega
 ·have:=NX (P:=P) (F:=F) (h:=h) hi h0 hlt n w G a hF hh
  simpa [TP,Value.ownBlock] using this
def GK (P:Program) (ops:Array Oper) (F:Fr) (k:Nat):Option AV:=
 match (ZB ops k).op with
 | .load t x=>match BF P t with
  | some false=>some (F.ev x)
  | _=>none
 | _=>none
theorem Z84 (j:Nat) {v:Value} {ls:List AV} {i:Nat} {y:AV} (hl:GK P ops F k=some (.val (.pointer (some ⟨TP v,i,none⟩)))) (hj:h[j]? = some (.vec v ls)) (hy:ls[i]? = some y) :
  Xy P (ZB ops k) F h [TP v] y:=by
 unfold GK at hl
 generalize hoo:ZB ops k=o at hl
 obtain ⟨dst,op,type,pos,after,guard⟩:=o
 cases op<;>simp only at hl<;>try (cases hl)
 rename_i t x
 split at hl
 ·rename_i hagg
  simp only [XV] at hl
  intro n w G a hF hh
  have hv:=hF.ev x
  rw [hl] at hv
  have hv:=hv.val_inv
  have hlt:i<ls.length:=(XM.1 hy).1
  rcases hh.ok _ (Y7 hj) with ⟨rfl,rfl⟩|⟨g,cap,cur,e,rfl,h1,h2,h3,h4⟩
  ·simp at hlt
  ·obtain ⟨c,c1,c2⟩:=h4.get i y hy
   refine ⟨c,c2,fun w' _ hw=>?_⟩
   have hrow:=hw (TP (.slice (some ⟨g,0,none⟩) ls.length cap)) (by simp)
   simp only [TP,Value.ownBlock,Option.getD_some] at hrow hv
   rw [h1] at hrow
   have hc:cur[i]? = some c:=by
    rw [Qd,Zo hlt] at c1
    simpa using c1
   simp only [execOp,hv]
   refine V0 ?_
   simp only [Instr.loadAt,Instr.sureAddr,Sem.run_bind,Sem.run_pure,Result.andThen_ok,loadVar,CS hagg]
   have:=cell_of_row w' g i cur e (0,0) hrow
   rw [hc] at this
   simp [load,Sem.run,this]
 ·cases hl
theorem Mx {K:Fr->List Res->Prop} {v:Value} {ls:List AV} {i:Nat} {y:AV} (hs:storeAt P ops F k=some (TP v,i,[y])) (hlt:i<ls.length)
  (hK:K F (.vec v (ls.set i y)::h2)):We P n (ZB ops k) F (.vec v ls::h2) K:=by
 unfold storeAt at hs
 generalize hoo:ZB ops k=q at hs
 obtain ⟨dst,op,type,pos,after,guard⟩:=q
 cases op<;>simp only at hs<;>try (cases hs)
 rename_i t x z
 split at hs
 ·rename_i b' o' inf hx hi
  split at hs
  ·rename_i hc
   simp only [XL] at hc
   simp only [XV,Prod.mk.injEq] at hs
   obtain ⟨rfl,rfl,hz⟩:=hs
   intro Q w G a hF hh
   have hvx:=hF.ev x
   rw [hx] at hvx
   have hvx:=hvx.val_inv
   have hvy:=hF.ev z
   have hcs:=hvy.cells hc.2.1
   rw [hz] at hcs hc
   have hone:=hcs.one_cells hc.2.2
   have Xq:inf.size=1:=U0 hc.1
   have hlen:(a.eval z).cells.size=1:=by have:=hcs.length;simpa using this
   rcases hh.ok (.vec v ls) (Xh ..) with ⟨rfl,rfl⟩|⟨g,cap,cur,e,rfl,h1,h3,h4,h5⟩
   ·simp at hlt
   ·simp only [TP,Value.ownBlock,Option.getD_some] at hvx
    have hst:=run_storeCells_at P g o' e (a.eval z).cells.toList 0 cur w h1 (by simp [hlen];omega) hone
    simp only [Be,Qv] at hst
    have hr:(execOp a.eval { dst:=none,op:=.store t x z,type:=type,pos:=pos,after:=after,guard:=guard }).run P w =
      .ok .skip (w.setRow g (cur.toList.take o'++(a.eval z).cells.toList++cur.toList.drop (o'+(a.eval z).cells.size)).toArray):=by
     simp only [execOp,hvx]
     simp [Instr.storeAt,Instr.sureAddr,storeVar,TL hi,hlen,Xq,hst]
    unfold Oper.wp
    rw [hr]
    have hset:ls.set o' y=ls.take o'++[y]++ls.drop (o'+1):=(Nq ls o' y hlt).symm
    obtain ⟨j1,j2⟩:=hh.vwrite (ls':=ls.set o' y) (n':=ls.length) (cs':=(cur.toList.take o'++(a.eval z).cells.toList++cur.toList.drop (o'+(a.eval z).cells.size)).toArray) h1
     (by simp [hlen];omega) (by simp) (by simpa using h3) h4 (by
      obtain ⟨c,Ze⟩:∃c,(a.eval z).cells.toList=[c]:=by
       have:=hcs.length
       cases hq:(a.eval z).cells.toList with
       | nil=>rw [hq] at this;simp at this
       | cons c r=>cases r with
        | nil=>exact ⟨c,rfl⟩
        | cons _ _=>rw [hq] at this;simp at this
      rw [Ze] at hcs
      have hlt':o'<cur.toList.length:=by simp [h4];omega
      rw [C2,Ze,hlen,Nq cur.toList o' c hlt',UU,List.take_set]
      cases hcs with
      | cons hcc _=>exact h5.set o' hcc)
    refine ⟨F,_,G,hK,?_,j1,j2⟩
    have:=hF.mono (j2.agree hh)
    simpa [Act.put] using this
  ·cases hs
 ·cases hs
theorem Mw {K:Fr->List Res->Prop} {v:Value} {ls xs:List AV} {hx:Option Value} (hd:WW n (ZB ops k)=true) (ha:U1 P ops F k=some (.val v,.sl xs hx,1))
  (hxs:∀y∈xs,y.leaves=[y]) (hone:xs.all AV.one=true) (hbound:ls.length+xs.length<=4294967296)
  (hK:∀v',K (F.put (ZB ops k).dst (.val v')) (.vec v' (ls++xs)::h2)):We P n (ZB ops k) F (.vec v ls::h2) K:=by
 unfold U1 at ha
 generalize hoo:ZB ops k=o at ha hd hK
 obtain ⟨dst,op,type,pos,after,guard⟩:=o
 cases op<;>simp only at ha<;>try (cases ha)
 rename_i c
 obtain ⟨callee,args,tys⟩:=c
 simp only at ha
 split at ha
 case h_2=>cases ha
 rename_i s x t t' hargs htys
 split at ha
 case h_2=>cases ha
 rename_i e htt ht
 have:=U0 htt
 subst this
 split at ha
 case h_2=>cases ha
 rename_i i hinfo
 split at ha
 case h_2=>cases ha
 rename_i z hz
 split at ha
 case h_2=>cases ha
 rename_i hb
 simp only [XL] at hb
 simp only [XV,Prod.mk.injEq] at ha
 obtain ⟨h3,h4,hk1⟩:=ha
 have e1:args=#[s,x]:=by rw [<-VJ (xs:=args),hargs]
 have e2:tys=#[t,t]:=by rw [<-VJ (xs:=tys),htys]
 subst e1;subst e2
 have hzs:z.cells.size=1:=by rw [U0 hb.1,hk1]
 have hby:=WF hb.2
 have hflat:Zl xs=xs:=by
  clear hone hbound hK h4
  induction xs with
  | nil=>rfl
  | cons y r ih=>simp only [Zl,JA,hxs y (by simp),List.singleton_append];rw [show r.flatMap AV.leaves=Zl r from rfl,ih fun q hq=>hxs q (by simp [hq])]
 have hlen1:∀y∈xs,y.leaves.length=1:=fun y hy=>by rw [hxs y hy];rfl
 intro Q w G a hF hh
 have v1:=hF.ev s
 have v2:=hF.ev x
 rw [h3] at v1
 rw [h4] at v2
 have v1:=v1.val_inv
 have v2:=v2.forget
 have finish:∀v' w',(Builtin.append_ #[t,t] type #[v,a.eval x]).run P w=.ok v' w'->YB w' G (.vec v' (ls++xs)::h2)->YU w G (.vec v ls::h2) w' G (.vec v' (ls++xs)::h2) ->
   ({ dst:=dst,op:=.call { callee:=.builtin .append,args:=#[s,x],argTypes:=#[t,t] },type:=type,pos:=pos,after:=after,guard:=guard }:Oper).wp P a w
    (fun a' w'=>∃F' h' G',K F' h'/\FR w' G' n F' a'/\YB w' G' h'/\YU w G (.vec v ls::h2) w' G' h') Q:=by
  intro v' w' hr j1 j2
  have hrun:(execOp a.eval { dst:=dst,op:=.call { callee:=.builtin .append,args:=#[s,x],argTypes:=#[t,t] },type:=type,pos:=pos,after:=after,guard:=guard }).run P w=.ok (.value v') w':=by
   simp only [execOp,resolve,invoke,builtin,Sem.run_bind,Sem.run_pure,Result.andThen_ok,Bc,Un,Bb,v1,hr]
  unfold Oper.wp
  rw [hrun]
  exact ⟨_,_,G,hK v',(hF.mono (j2.agree hh)).put (U4 hd) .val,j1,j2⟩
 have hvec:=hh.ok (.vec v ls) (Xh ..)
 have hsub2:∀r:Res,List.Sublist (r::h2) (r::.vec v ls::h2):=fun r=>List.Sublist.cons_cons _ (Aw _ _)
 have grown:∀(olds news:List Value) (old:Nat),YP w G ls olds->YP w G xs news ->
   YB (w.drew.alloc (.cells (olds.toArray++news.toArray++Builtin.zeroCells z.cells (grownCap w (ls.length+xs.length) old e-(ls.length+xs.length))) e)) G
    (.vec (.slice (some ⟨w.heap.size,0,none⟩) (ls.length+xs.length) (grownCap w (ls.length+xs.length) old e)) (ls++xs)::h2) /\
   YU w G (.vec v ls::h2) (w.drew.alloc (.cells (olds.toArray++news.toArray++Builtin.zeroCells z.cells (grownCap w (ls.length+xs.length) old e-(ls.length+xs.length))) e)) G
    (.vec (.slice (some ⟨w.heap.size,0,none⟩) (ls.length+xs.length) (grownCap w (ls.length+xs.length) old e)) (ls++xs)::h2):=by
  intro olds news old ho hn
  have X2:=grownCap_ge w (ls.length+xs.length) old e
  have hol:=ho.length
  have hnl:=hn.length
  obtain ⟨j1,j2⟩:=hh.drew.alloc_vec (olds.toArray++news.toArray++Builtin.zeroCells z.cells (grownCap w (ls.length+xs.length) old e-(ls.length+xs.length))) e
   (ls:=ls++xs) (cap:=grownCap w (ls.length+xs.length) old e) (by simpa using X2)
   (by simp only [Array.size_append,C1,size_zeroCells,hzs,hol,hnl,Ks];omega)
   (by
    have:(olds.toArray++news.toArray++Builtin.zeroCells z.cells (grownCap w (ls.length+xs.length) old e-(ls.length+xs.length))).toList.take (ls++xs).length=olds++news:=by
     simp only [BZ,Yz]
     rw [<-hol,<-hnl,<-Yz]
     exact KX
    rw [this]
    exact (ho.append hn).mono (JL w G))
  rw [Yz] at j1 j2
  exact ⟨j1.sub (hsub2 _),(YU.drew w G _).trans (j2.sub' (hsub2 _))⟩
 by_cases hxe:xs=[]
 ·subst hxe
  obtain ⟨ad,cap,hform⟩:=JJ.form hvec
  have hle:ls.length<=cap:=by
   rcases hvec with ⟨rfl,rfl⟩|⟨g,cap',cur,el,rfl,_,hc,_⟩
   ·simp
   ·cases hform;exact hc
  subst hform
  cases v2q:a.eval x with
  | slice ad' l' c'=>
   rw [v2q] at v2
   cases v2<;>exact finish _ _ (by rw [v2q];exact BT ht hinfo hle w) (by simpa using hh) (by simpa using YU.refl w G _)
  | _=>rw [v2q] at v2;cases v2
 ·generalize hax:a.eval x=ax at v2 finish
  cases v2 with
  | nil _=>exact absurd rfl hxe
  | sl hq hcc hm=>
   rename_i b o' k' c
   have hpos:0<xs.length:=EW.2 hxe
   have hfm:=hm.flat_mem
   rw [hflat] at hfm
   obtain ⟨news,hn,hnc⟩:=hfm.cells
   have hnl:news.length=xs.length*i.size:=by rw [hn.length,hk1,Ks]
   have hone':=hn.one_cells hone
   have hnews:∀j u,news[j]? = some u->w.cell? ((⟨b,o',none⟩:Addr).add j)=some u:=fun j u hj=>by rw [QA];exact (hnc j u hj).1
   have hbb:(ls.length+xs.length)*i.bytes<=140737488355328:=by
    have:=Nat.mul_le_mul hbound hby
    omega
   rcases hvec with ⟨rfl,rfl⟩|⟨g,cap,cur,el,rfl,hrow,hlc,hcur,hcells⟩
   ·have hr:=run_append_nil (P:=P) w t type e i z ht hinfo hz ⟨b,o',none⟩ xs.length c news hnl hnews hpos (by simp at hbound;omega) (by simp at hbb;omega)
    obtain ⟨j1,j2⟩:=grown [] news 0 .nil hn
    simp only [Xm,WQ,Array.empty_append,Av] at j1 j2
    exact finish _ _ hr (by simpa using j1) (by simpa using j2)
   ·by_cases hroom:ls.length+xs.length<=cap
    ·have hfit:ls.length*i.size+news.length<=cur.size:=by rw [hnl,hcur,hk1];omega
     have hr:=Er (P:=P) w t type e el i ht hinfo g ls.length cap cur hrow ⟨b,o',none⟩ xs.length c news hnl hnews hone' hroom hfit
     rw [hk1,Ks] at hr
     have hnl':news.length=xs.length:=by rw [hnl,hk1,Ks]
     obtain ⟨j1,j2⟩:=hh.vwrite (ls':=ls++xs) (n':=ls.length+xs.length) (cs':=(cur.toList.take ls.length++news++cur.toList.drop (ls.length+news.length)).toArray) hrow
      (by simp [hnl',hcur];omega) (by simp) (by simpa using hroom) hcur (by
       have h1:(cur.toList.take ls.length).length=ls.length:=by simp [hcur];omega
       have:(cur.toList.take ls.length++news++cur.toList.drop (ls.length+news.length)).toArray.toList.take (ls++xs).length=cur.toList.take ls.length++news:=by
        rw [C2,Yz,<-hnl']
        conv=>lhs;arg 1;rw [show ls.length+news.length=(cur.toList.take ls.length++news).length from by rw [Yz,h1]]
        exact KX
       rw [this]
       exact hcells.append hn)
     exact finish _ _ hr j1 j2
    ·have hr:=run_append_grow (P:=P) w t type e i z ht hinfo hz ⟨g,0,none⟩ ls.length cap (cur.toList.take ls.length) (by rw [hk1];simp [hcur];omega) (fun j u hj=>by
      rw [QA,cell_of_row w g _ cur el (0,0) hrow]
      rw [Qd] at hj
      split at hj
      ·simpa using hj
      ·cases hj) ⟨b,o',none⟩ xs.length c news hnl hnews om om (growslice_fits om hbb)
     obtain ⟨j1,j2⟩:=grown (cur.toList.take ls.length) news cap hcells hn
     exact finish _ _ hr j1 j2
end
inductive Qe (h:List Res):AV->Prop
 | val {v}:Qe h (.val v)
 | any:Qe h .any
 | nil {hv}:Qe h (.sl [] hv)
 | own {es:List AV} {v:Value} {k:Nat} (he:∀y∈es,∃u,y=.val u) (ht:Res.tail v k∈h):Qe h (.sl es (some v))
 | tup {vs:List AV} (hv:∀y∈vs,Qe h y):Qe h (.tup vs)
 | agg {vs:List AV} (hv:∀y∈vs,Qe h y):Qe h (.agg vs)
def C4:Res->Prop
 | .obj _ ls=>∀y∈ls,∃u,y=.val u
 | .vec _ ls=>∀y∈ls,∃u,y=.val u
 | .row _ _ ls=>∀y∈ls,∃u,y=.val u
 | _=>True
theorem YP.vals {w w':World} {G G':Yc}:∀{xs:List AV} {vs:List Value},(∀y∈xs,∃u,y=.val u)->YP w G xs vs->YP w' G' xs vs
 | _,_,_,.nil=>.nil
 | x::_,_::_,hv,.cons h t=>by
  obtain ⟨u,rfl⟩:=hv x (Xh ..)
  have:=h.val_inv
  subst this
  exact .cons .val (t.vals fun y hy=>hv y (XG _ hy))
theorem M8 {w:World} {G G':Yc} {b:Nat} (hG:∀o,G b o->G' b o):∀{o:Nat} {xs:List AV},(∀y∈xs,∃u,y=.val u)->Wf w G b o xs->Wf w G' b o xs
 | _,_,_,.nil=>.nil
 | _,x::_,hv,.cons hc hg h t=>by
  obtain ⟨u,rfl⟩:=hv x (Xh ..)
  have:=h.val_inv
  subst this
  exact .cons hc (hG _ hg) .val (M8 hG (fun y hy=>hv y (XG _ hy)) t)
theorem ID {w:World} {G G':Yc} {b k:Nat} (hG:∀o,G b o->G' b o):∀{o:Nat} {xs:List AV},(∀y∈xs,∃u,y=.val u)->WR w G k b o xs->WR w G' k b o xs
 | _,_,_,.nil=>.nil
 | _,x::_,hv,.cons hl h t=>by
  obtain ⟨u,rfl⟩:=hv x (Xh ..)
  refine .cons hl (M8 hG (fun y hy=>?_) h) (ID hG (fun y hy=>hv y (XG _ hy)) t)
  simp [AV.leaves] at hy
  exact ⟨u,hy⟩
theorem YP.clean {w:World} {G G':Yc} (P:AV->Prop) (hP:∀x v,P x->RV w G x v->RV w G' x v):∀{xs:List AV} {vs:List Value},(∀y∈xs,P y)->YP w G xs vs->YP w G' xs vs
 | _,_,_,.nil=>.nil
 | x::_,_::_,hv,.cons h t=>.cons (hP _ _ (hv x (Xh ..)) h) (t.clean P hP fun y hy=>hv y (XG _ hy))
theorem RV.clean {w:World} {G G':Yc} {h:List Res} (hG:∀v k g,Res.tail v k∈h->v.ownBlock=some g->∀o,G g o->G' g o) {r:AV} (hc:Qe h r):∀{v:Value},RV w G r v->RV w G' r v:=by
 induction hc with
 | val=>intro v hv;cases hv;exact .val
 | any=>intro v hv;exact .any
 | nil=>
  intro v hv
  cases hv with
  | nil hq=>exact .nil hq
  | sl hq hc hm=>exact .sl (k:=0) hq hc .nil
 | own he ht=>
  intro v hv
  cases hv with
  | nil hq=>exact .nil hq
  | sl hq hc hm=>
   have e:=hq _ rfl
   exact .sl hq hc (ID (fun o hg=>hG _ _ _ ht (by rw [e];rfl) o hg) he hm)
 | tup hv ih=>
  intro v hvv
  cases hvv with
  | tup hc=>exact .tup (hc.clean (fun x=>∀{v:Value},RV w G x v->RV w G' x v) (fun x v hp hx=>hp hx) ih)
 | agg hv ih=>
  intro v hvv
  cases hvv with
  | agg hc=>exact .agg (hc.clean (fun x=>∀{v:Value},RV w G x v->RV w G' x v) (fun x v hp hx=>hp hx) ih)
theorem YB.lend {w:World} {G:Yc}:∀{bs h:List Res},(∀r∈bs,∃v ls,r=.vec v ls/\∀y∈ls,∃u,y=.val u)->YB w G (h++bs) ->
  ∃Gb:Yc,(∀b o,G b o->Gb b o)/\(∀b o,Gb b o->G b o∨V3 bs b o)/\YB w Gb h /\
   (∀v ls,Res.vec v ls∈bs->∀m,m<=ls.length->RV w Gb (.sl (ls.take m) none) (KW v m)/\RV w Gb (.sl ls none) v):=by
 intro bs h hb hh
 let Gb:Yc:=fun b o=>G b o∨∃v ls,Res.vec v ls∈bs/\v.ownBlock=some b/\o<ls.length
 have hsub:∀b o,G b o->Gb b o:=fun _ _ h=>.inl h
 have hfp:∀b o,Gb b o->G b o∨V3 bs b o:=fun b o hg=>hg.imp id fun ⟨v,ls,hm,ho,_⟩=>⟨_,hm,by
  cases v with
  | slice a l c=>cases a with
   | none=>simp [Value.ownBlock] at ho
   | some a=>simp only [Value.ownBlock,XV] at ho;exact ho.symm
  | _=>simp [Value.ownBlock] at ho⟩
 have hA:Vt G w w Gb:=⟨fun _ _ _=>rfl,hsub⟩
 refine ⟨Gb,hsub,hfp,⟨fun r hr=>?_,hh.left.apart,fun r hr b o hf hg=>?_,fun b o hg=>?_⟩,fun v ls hm m hmle=>?_⟩
 ·have h0:=hh.ok r (Xr.2 (.inl hr))
  cases r with
  | obj b ls=>obtain ⟨cs,e,h1,h2⟩:=h0;exact ⟨cs,e,h1,h2.mono hA⟩
  | tail v k=>exact h0
  | ge s=>exact h0
  | vec v ls=>
   rcases h0 with ⟨rfl,h0⟩|⟨g,cap,cur,el,rfl,h1,h2,h3,h4⟩
   ·exact .inl ⟨rfl,h0⟩
   ·exact .inr ⟨g,cap,cur,el,rfl,h1,h2,h3,h4.mono hA⟩
  | many ts=>exact h0
  | own B m=>exact h0
  | row v k ls=>
   rcases h0 with ⟨rfl,h0⟩|⟨g,len,cap,cur,el,rfl,h1,h2,h3,h4,h5⟩
   ·exact .inl ⟨rfl,h0⟩
   ·exact .inr ⟨g,len,cap,cur,el,rfl,h1,h2,h3,h4,h5.mono hA⟩
 ·rcases hfp b o hg with h1|h1
  ·exact hh.prot r (Xr.2 (.inl hr)) b o hf h1
  ·exact hh.cross ⟨r,hr,hf⟩ h1
 ·rcases hfp b o hg with h1|⟨r,hr,hf⟩
  ·exact hh.lt b o h1
  ·exact (hh.ok r (Xr.2 (.inr hr))).lt b o hf
 ·have h0:=hh.ok _ (Xr.2 (.inr hm))
  obtain ⟨v',ls',e,hval⟩:=hb _ hm
  cases e
  rcases h0 with ⟨rfl,rfl⟩|⟨g,cap,cur,el,rfl,h1,h2,h3,h4⟩
  ·have:m=0:=by simpa using hmle
   subst this
   exact ⟨.nil (by simp),.nil (by simp)⟩
  ·have hmem:Wf w Gb g 0 ls:=by
    refine Wf.of_cells (h4.mono hA) fun j u hj=>?_
    have hjl:j<ls.length:=by
     have:=(XM.1 hj).1
     have h5:=h4.length
     omega
    rw [Qd,Zo hjl] at hj
    refine ⟨?_,.inr ⟨_,_,hm,rfl,by omega⟩⟩
    rw [WQ,cell_of_row w g j cur el (0,0) h1]
    simpa using hj
   have hels:∀(l:List AV),(∀y∈l,∃u,y=.val u)->Zl l=l:=by
    intro l
    induction l with
    | nil=>intro _;rfl
    | cons y r ih=>
     intro hy
     obtain ⟨u,rfl⟩:=hy y (Xh ..)
     simp only [Zl,JA,AV.leaves,List.singleton_append]
     rw [show r.flatMap AV.leaves=Zl r from rfl,ih fun z hz=>hy z (XG _ hz)]
   have hE:WR w Gb 1 g 0 ls:=WR.of_flat ls (fun y hy=>by obtain ⟨u,rfl⟩:=hval y hy;rfl) (by rw [hels ls hval];exact hmem)
   refine ⟨?_,.sl (by simp) h2 hE⟩
   have hl:(ls.take m).length=m:=by simp [hmle]
   show RV w Gb (.sl (ls.take m) none) (.slice (some ⟨g,0,none⟩) m cap)
   conv=>arg 4;rw [<-hl]
   exact .sl (by simp) om (hE.take m)
inductive UG (bs:List Res):List AV->List AV->Prop
 | nil:UG bs [] []
 | same {x as1 xs} (t:UG bs as1 xs):UG bs (x::as1) (x::xs)
 | lent {v ls as1 xs} (h:Res.vec v ls∈bs) (t:UG bs as1 xs):UG bs (.val v::as1) (.sl ls none::xs)
 | cut {v ls m as1 xs} (h:Res.vec v ls∈bs) (hm:m<=ls.length) (t:UG bs as1 xs):UG bs (.val (KW v m)::as1) (.sl (ls.take m) none::xs)
theorem UG.rcs {w:World} {G Gb:Yc} {bs:List Res} (hA:Vt G w w Gb)
  (hb:∀v ls,Res.vec v ls∈bs->∀m,m<=ls.length->RV w Gb (.sl (ls.take m) none) (KW v m)/\RV w Gb (.sl ls none) v) :
  ∀{as1 xs:List AV} {vs:List Value},UG bs as1 xs->YP w G as1 vs->YP w Gb xs vs
 | _,_,_,.nil,.nil=>.nil
 | _,_,_,.same t,.cons h r=>.cons (h.mono hA) (t.rcs hA hb r)
 | _,_,_,.lent hm t,.cons h r=>by
  have:=h.val_inv
  subst this
  exact .cons (hb _ _ hm 0 (K5 _)).2 (t.rcs hA hb r)
 | _,_,_,.cut hm hle t,.cons h r=>by
  have:=h.val_inv
  subst this
  exact .cons (hb _ _ hm _ hle).1 (t.rcs hA hb r)
theorem Zi.lend {P:Program} {f:FuncId} {as1 xs:List AV} {h1:List Res} (bs:List Res) {R:AV->List Res->Prop} (H:Zi P f xs h1 R) (hargs:UG bs as1 xs)
  (hb:∀r∈bs,∃v ls,r=.vec v ls/\∀y∈ls,∃u,y=.val u) (hclean:∀r h',R r h'->Qe h' r/\∀q∈h',C4 q) :
  Zi P f as1 (h1++bs) (fun r h'=>∃h1',R r h1'/\h'=h1'++bs):=by
 intro w G vs hvs hh
 obtain ⟨Gb,g1,g2,g3,g4⟩:=YB.lend hb hh
 have hA:Vt G w w Gb:=⟨fun _ _ _=>rfl,g1⟩
 refine (H w Gb vs (hargs.rcs hA g4 hvs) g3).mono ?_
 rintro e w' ⟨v,r,h',G',rfl,hR,hv,hh',hx⟩
 obtain ⟨c1,c2⟩:=hclean r h' hR
 let G2:Yc:=fun b o=>G' b o/\¬(V3 bs b o)
 have hbslt:∀b o,V3 bs b o->b<w.heap.size:=fun b o ⟨q,hq,hf⟩=>(hh.ok q (Xr.2 (.inr hq))).lt b o hf
 have hwhole:∀b o o',V3 bs b o->V3 bs b o':=fun b o o' ⟨q,hq,hf⟩=>⟨q,hq,by
  obtain ⟨v,ls,rfl,_⟩:=hb q hq
  cases v with
  | slice a l c=>cases a with
   | none=>exact hf.elim
   | some a=>exact hf
  | _=>exact hf.elim⟩
 have hGkeep:∀b o,G b o->G2 b o:=fun b o hg=>⟨hx.sub b o (g1 b o hg),fun ⟨q,hq,hf⟩=>hh.prot q (Xr.2 (.inr hq)) b o hf hg⟩
 have hnew:∀v k g,Res.tail v k∈h'->v.ownBlock=some g->∀o,G' g o->G2 g o:=by
  intro v k g hm hg o hgo
  refine ⟨hgo,fun hf=>?_⟩
  have hlt:=hbslt _ _ hf
  rcases hh'.ok _ hm with rfl|⟨g',len,cap,cur,el,rfl,t1,t2,t3⟩
  ·simp [Value.ownBlock] at hg
  ·simp only [Value.ownBlock,XV] at hg
   subst hg
   have hfp:V3 h' g' (len*k):=⟨_,hm,rfl,X6 _⟩
   exact hh.cross (hx.newfp g' (len*k) hlt hfp) (hwhole _ _ _ hf)
 have e1:YU w G h1 w' G2 h':=⟨hx.os,hx.tape,hx.output,hx.size,hGkeep,hx.same,fun b o hb' hg=>by
  rcases hx.newG b o hb' hg.1 with h|h
  ·rcases g2 b o h with h|h
   ·exact .inl h
   ·exact absurd h hg.2
  ·exact .inr h,hx.newfp⟩
 have e2:YB w' G2 h':=⟨fun q hq=>by
   have h0:=hh'.ok q hq
   have hcq:=c2 q hq
   cases q with
   | obj b ls=>obtain ⟨cs,el,k1,k2⟩:=h0;exact ⟨cs,el,k1,k2.vals hcq⟩
   | tail v k=>exact h0
   | ge s=>exact h0
   | vec v ls=>
    rcases h0 with ⟨rfl,h0⟩|⟨g,cap,cur,el,rfl,k1,k2,k3,k4⟩
    ·exact .inl ⟨rfl,h0⟩
    ·exact .inr ⟨g,cap,cur,el,rfl,k1,k2,k3,k4.vals hcq⟩
   | many ts=>exact h0
   | own B m=>exact h0
   | row v k ls=>
    rcases h0 with ⟨rfl,h0⟩|⟨g,len,cap,cur,el,rfl,k1,k2,k3,k4,k5⟩
    ·exact .inl ⟨rfl,h0⟩
    ·exact .inr ⟨g,len,cap,cur,el,rfl,k1,k2,k3,k4,k5.vals hcq⟩,hh'.apart,fun q hq b o hf hg=>hh'.prot q hq b o hf hg.1,fun b o hg=>hh'.lt b o hg.1⟩
 obtain ⟨f1,f2⟩:=hh.frame e1 e2
 exact ⟨v,r,h'++bs,G2,rfl,⟨h',hR,rfl⟩,RV.clean hnew c1 hv,f1,f2⟩
section
variable {P:Program} {n:Nat} {ops:Array Oper} {B:Fr->List Res->Prop} {k:Nat} {F:Fr} {h h2:List Res}
def BW (P:Program) (ops:Array Oper) (F:Fr) (k:Nat):Option (AV × Int):=
 match (ZB ops k).op with
 | .slice t x none (some hi) none=>match P.underlying t with
  | some (.slice e)=>match P.info? e with
   | some _=>match F.ev hi with
    | .val (.int _ m)=>some (F.ev x,m)
    | _=>none
   | none=>none
  | _=>none
 | _=>none
theorem Z85 (j:Nat) {v:Value} {ls:List AV} {m:Nat} (hi:BW P ops F k=some (.val v,(m:Int))) (hj:h[j]? = some (.vec v ls)) (hle:m<=ls.length) :
  Xy P (ZB ops k) F h [] (.val (KW v m)):=by
 unfold BW at hi
 generalize hoo:ZB ops k=o at hi
 obtain ⟨dst,op,type,pos,after,guard⟩:=o
 cases op<;>simp only at hi<;>try (cases hi)
 rename_i t x lo hi' mx
 cases lo with
 | some _=>simp at hi
 | none=>
  cases hi' with
  | none=>simp at hi
  | some y=>
   cases mx with
   | some _=>simp at hi
   | none=>
    simp only at hi
    split at hi
    ·rename_i e ht
     split at hi
     ·rename_i inf hinf
      split at hi
      ·rename_i ik m' hm
       simp only [XV,Prod.mk.injEq] at hi
       obtain ⟨hx,rfl⟩:=hi
       intro n w G a hF hh
       have v1:=hF.ev x
       rw [hx] at v1
       have v1:=v1.val_inv
       have v2:=hF.ev y
       rw [hm] at v2
       have v2:=v2.val_inv
       have hvec:=hh.ok _ (Y7 hj)
       obtain ⟨ad,cap,hform⟩:=JJ.form hvec
       have hcap:ls.length<=cap:=by
        rcases hvec with ⟨rfl,rfl⟩|⟨g,cap',cur,el,rfl,_,hc,_⟩
        ·simp
        ·cases hform;exact hc
       subst hform
       refine ⟨_,.val,fun w' _ _=>?_⟩
       have Za:=fun c=>BU (P:=P) (c:=c) (v:=.int ik (m:Int)) (y:=cap) rfl om om w'
       simp only [execOp,v1,v2,Ax,Option.map_none]
       refine V0 ?_
       simp only [Instr.sliceAt,Sem.run_bind,Vs ht,Result.andThen_ok,Instr.slice]
       have hmm:(Instr.sliceBounds true ls.length cap none (some (.int ik (m:Int))) none).run P w'=.ok (0,m,cap) w':=by simp [Instr.sliceBounds,Za]
       rw [hmm]
       have hz:∀a:Addr,a.add 0=a:=fun a=>by simp [Addr.add]
       simp only [Result.andThen_ok,TL hinf,Nat.zero_mul,hz,KW]
       simp
      ·cases hi
     ·cases hi
    ·cases hi
theorem Z8y {w:World} {G:Yc} {v:Value} {ls:List AV} {m:Nat} (hh:YB w G (.vec v ls::h2)) (hle:m<=ls.length) :
  YB w G (.vec (KW v m) (ls.take m)::h2)/\YU w G (.vec v ls::h2) w G (.vec (KW v m) (ls.take m)::h2):=by
 have hpw:=WP.1 hh.apart
 have hfp:∀b o,Res.fp (.vec (KW v m) (ls.take m)) b o->Res.fp (.vec v ls) b o:=by
  intro b o hf
  cases v with
  | slice a l c=>cases a with
   | none=>exact hf.elim
   | some a=>exact hf
  | _=>exact hf
 refine ⟨⟨fun r hr=>?_,WP.2 ⟨fun r hr b o h1 h2=>hpw.1 r hr b o (hfp b o h1) h2,hpw.2⟩,fun r hr b o hf hg=>?_,hh.lt⟩,⟨rfl,rfl,rfl,X6 _,fun _ _ h=>h,fun _ _=>.inl rfl,fun _ _ _ h=>.inl h,?_⟩⟩
 ·rcases YQ.1 hr with rfl|hr
  ·rcases hh.ok _ (Xh ..) with ⟨rfl,rfl⟩|⟨g,cap,cur,e,rfl,h1,h3,h4,h5⟩
   ·have:m=0:=by simpa using hle
    subst this
    exact .inl ⟨rfl,rfl⟩
   ·refine .inr ⟨g,cap,cur,e,by simp [KW,hle],h1,by simp;omega,h4,?_⟩
    have:=h5.take m
    rw [List.take_take,Vq hle] at this
    simpa [hle] using this
  ·exact hh.ok r (XG _ hr)
 ·rcases YQ.1 hr with rfl|hr
  ·exact hh.prot _ (Xh ..) b o (hfp b o hf) hg
  ·exact hh.prot r (XG _ hr) b o hf hg
 ·rintro b o _ ⟨r,hr,hf⟩
  rcases YQ.1 hr with rfl|hr
  ·exact ⟨_,Xh ..,hfp b o hf⟩
  ·exact ⟨r,XG _ hr,hf⟩
theorem Z8v {w:World} {G:Yc} {v:Value} {ls:List AV} (hh:YB w G (.vec v ls::h2)) (hls:∀y∈ls,y.leaves=[y]) :
  ∃G',YB w G' (.tail v 1::h2)/\YU w G (.vec v ls::h2) w G' (.tail v 1::h2)/\RV w G' (.sl ls (some v)) v:=by
 have hpw:=WP.1 hh.apart
 rcases hh.ok _ (Xh ..) with ⟨rfl,rfl⟩|⟨g,cap,cur,e,rfl,h1,h3,h4,h5⟩
 ·obtain ⟨k1,k2⟩:=Ht (sz:=1) (hh.sub (Aw _ _))
  refine ⟨G,k1,⟨rfl,rfl,rfl,X6 _,fun _ _ h=>h,fun _ _=>.inl rfl,fun _ _ _ h=>.inl h,?_⟩,.nil (by simp)⟩
  rintro b o _ ⟨r,hr,hf⟩
  rcases YQ.1 hr with rfl|hr
  ·exact hf.elim
  ·exact ⟨r,XG _ hr,hf⟩
 ·let G':Yc:=fun b o=>G b o∨(b=g/\o<ls.length)
  have hA:Vt G w w G':=⟨fun _ _ _=>rfl,fun _ _ h=>.inl h⟩
  have hmem:Res.vec (.slice (some ⟨g,0,none⟩) ls.length cap) ls∈Res.vec (.slice (some ⟨g,0,none⟩) ls.length cap) ls::h2:=Xh ..
  refine ⟨G',⟨fun r hr=>?_,WP.2 ⟨fun r hr b o f1 f2=>hpw.1 r hr b o f1.1 f2,hpw.2⟩,fun r hr b o hf hg=>?_,fun b o hg=>?_⟩,
   ⟨rfl,rfl,rfl,X6 _,fun _ _ h=>.inl h,fun _ _=>.inl rfl,fun b o _ hg=>hg.imp id fun ⟨e1,_⟩=>⟨_,hmem,e1⟩,?_⟩,?_⟩
  ·rcases YQ.1 hr with rfl|hr
   ·exact .inr ⟨g,ls.length,cap,cur,e,rfl,h1,h3,by rw [h4,Ks]⟩
   ·have h0:=hh.ok r (XG _ hr)
    cases r with
    | obj b ks=>obtain ⟨cs,el,k1,k2⟩:=h0;exact ⟨cs,el,k1,k2.mono hA⟩
    | tail v k=>exact h0
    | ge s=>exact h0
    | vec v ks=>
     rcases h0 with ⟨rfl,h0⟩|⟨g2,cap2,cur2,el,rfl,k1,k2,k3,k4⟩
     ·exact .inl ⟨rfl,h0⟩
     ·exact .inr ⟨g2,cap2,cur2,el,rfl,k1,k2,k3,k4.mono hA⟩
    | many ts=>exact h0
    | own B m=>exact h0
    | row v k ks=>
     rcases h0 with ⟨rfl,h0⟩|⟨g2,len2,cap2,cur2,el,rfl,k1,k2,k3,k4,k5⟩
     ·exact .inl ⟨rfl,h0⟩
     ·exact .inr ⟨g2,len2,cap2,cur2,el,rfl,k1,k2,k3,k4,k5.mono hA⟩
  ·rcases YQ.1 hr with rfl|hr2
   ·obtain ⟨hbg,hf2⟩:=hf
    rcases hg with hg|⟨_,hg⟩
    ·exact hh.prot _ hmem b o hbg hg
    ·rw [Ks] at hf2;omega
   ·rcases hg with hg|⟨hbg,_⟩
    ·exact hh.prot r (XG _ hr2) b o hf hg
    ·exact hpw.1 r hr2 b o hbg hf
  ·rcases hg with hg|⟨rfl,_⟩
   ·exact hh.lt b o hg
   ·exact (Ua.1 h1).1
  ·rintro b o _ ⟨r,hr,hf⟩
   rcases YQ.1 hr with rfl|hr
   ·exact ⟨_,hmem,hf.1⟩
   ·exact ⟨r,XG _ hr,hf⟩
  ·have hflat:Zl ls=ls:=by
    clear h5 h3 hh hpw hmem hA h4
    induction ls with
    | nil=>rfl
    | cons y r ih=>
     simp only [Zl,JA,hls y (Xh ..),List.singleton_append]
     rw [show r.flatMap AV.leaves=Zl r from rfl,ih fun q hq=>hls q (XG _ hq)]
   refine .sl (k:=1) (fun x hx=>by cases hx;rfl) h3 (WR.of_flat ls (fun y hy=>by rw [hls y hy];rfl) ?_)
   rw [hflat]
   refine Wf.of_cells (h5.mono hA) fun j u hj=>?_
   have hjl:j<ls.length:=by
    have:=(XM.1 hj).1
    have h6:=h5.length
    omega
   rw [Qd,Zo hjl] at hj
   refine ⟨?_,.inr ⟨rfl,by omega⟩⟩
   rw [WQ,cell_of_row w g j cur e (0,0) h1]
   simpa using hj
def A8 (P:Program) (ops:Array Oper) (F:Fr) (k:Nat):Option (Int × Int × AV):=
 match (ZB ops k).op with
 | .makeSlice t l c=>match P.underlying t with
  | some (.slice e)=>match P.info? e with
   | some i=>match i.zero with
    | some z=>match z.cells.toList,Nat.beq i.size 1&&Nat.ble i.bytes 32 with
     | [zv],true=>match F.ev l,F.ev c with
      | .val (.int _ l),.val (.int _ c)=>some (l,c,AV.ofVal zv)
      | _,_=>none
     | _,_=>none
    | none=>none
   | none=>none
  | _=>none
 | _=>none
theorem Ej {w:World} {G:Yc} {x:AV} {v:Value} (h:RV w G x v):∀n,YP w G (List.replicate n x) (List.replicate n v)
 | 0=>.nil
 | n+1=>.cons h (Ej h n)
theorem M6 (zv:Value) (n:Nat):(madeCells #[zv] n).toList=List.replicate n zv:=by
 apply List.ext_getElem
 ·simp [madeCells]
 ·intro i h1 h2
  simp [madeCells,Nat.mod_one]
theorem Nf {w:World} {G:Yc} {a:Act} (hF:FR w G n F a) {l c:Nat} {zv:AV} (hm:A8 P ops F k=some ((l:Int),(c:Int),zv)) (hlc:l<=c) (hc:c<=4294967296) :
  ∃(e:TypeId) (z:Value),zv=AV.ofVal z/\(execOp a.eval (ZB ops k)).run P w=.ok (.value (.slice (some ⟨w.heap.size,0,none⟩) l c)) (w.alloc (.cells (madeCells #[z] c) e)):=by
 unfold A8 at hm
 generalize hoo:ZB ops k=o at hm
 obtain ⟨dst,op,type,pos,after,guard⟩:=o
 cases op<;>simp only at hm<;>try (cases hm)
 rename_i t lo co
 split at hm
 case h_2=>cases hm
 rename_i e ht
 split at hm
 case h_2=>cases hm
 rename_i i hi
 split at hm
 case h_2=>cases hm
 rename_i z hz
 split at hm
 case h_2=>cases hm
 rename_i z1 hzl hb
 simp only [XL] at hb
 split at hm
 case h_2=>cases hm
 rename_i k1 l' k2 c' hl hco
 simp only [XV,Prod.mk.injEq] at hm
 obtain ⟨rfl,rfl,rfl⟩:=hm
 have v1:=hF.ev lo
 have v2:=hF.ev co
 rw [hl] at v1
 rw [hco] at v2
 have v1:=v1.val_inv
 have v2:=v2.val_inv
 have hs:=U0 hb.1
 have hbytes:=WF hb.2
 have hzc:z.cells=#[z1]:=by rw [<-VJ (xs:=z.cells),hzl]
 have hr:=run_make (P:=P) w t e i z ht hi hz k1 k2 (l:Int) (c:Int) om om (by
  have h1:(i.bytes:Int)<=32:=by omega
  have h2:(i.bytes:Int)*(c:Int)<=32*(c:Int):=Int.mul_le_mul_of_nonneg_right h1 om
  omega) om
 rw [hzc,hs,Ks] at hr
 simp only [VR] at hr
 refine ⟨e,z1,rfl,?_⟩
 simp only [execOp,v1,v2]
 exact V0 hr
theorem Z43 {K:Fr->List Res->Prop} {l c:Nat} {zv:AV} (hd:WW n (ZB ops k)=true) (hm:A8 P ops F k=some ((l:Int),(c:Int),zv)) (hlc:l<=c) (hc:c<=4294967296)
  (hK:∀v,K (F.put (ZB ops k).dst (.val v)) (.vec v (List.replicate l zv)::h)):We P n (ZB ops k) F h K:=by
 intro Q w G a hF hh
 obtain ⟨e,z,rfl,hr⟩:=Nf hF hm hlc hc
 unfold Oper.wp
 rw [hr]
 obtain ⟨j1,j2⟩:=hh.alloc_vec (madeCells #[z] c) e (ls:=List.replicate l (AV.ofVal z)) (cap:=c) (by simpa using hlc) (by simp [madeCells]) (by
  rw [M6,List.take_replicate,List.length_replicate,Vq hlc]
  exact Ej (RV.ofVal z) l)
 rw [List.length_replicate] at j1 j2
 exact ⟨_,_,G,hK _,(hF.mono (j2.agree hh)).put (U4 hd) .val,j1,j2⟩
end
section
variable {P:Program} {n:Nat} {ops:Array Oper} {B:Fr->List Res->Prop} {k:Nat} {F:Fr} {h h2:List Res}
variable {T:List (Nat × List Nat)} {fuel fuel':Nat} {done:List Nat}
theorem Z3x {K:Fr->List Res->Prop} {ls:List AV} {len:Nat} (hd:WW n (ZB ops k)=true) (ha:UQ P ops F k=some (ls,len,1)) (hlen:ls.length=len)
  (hK:∀v,K (F.put (ZB ops k).dst (.val v)) (.vec v ls::h)):We P n (ZB ops k) F h K:=by
 unfold UQ at ha
 generalize hoo:ZB ops k=q at ha hd hK
 obtain ⟨dst,op,type,pos,after,guard⟩:=q
 cases op<;>simp only at ha<;>try (cases ha)
 rename_i t ln parts
 split at ha
 case h_2=>cases ha
 rename_i e ht
 split at ha
 case h_2=>cases ha
 rename_i i hi
 split at ha
 case h_2=>cases ha
 rename_i hc
 simp only [XL] at hc
 split at ha
 case h_2=>cases ha
 rename_i ls' hf
 simp only [XV,Prod.mk.injEq] at ha
 obtain ⟨rfl,rfl,Xq⟩:=ha
 subst hlen
 intro Q w G a hF hh
 obtain ⟨cs,h1,h2⟩:=Es hF parts ht hi rfl hc.1 hc.2 hf
 have hr:(execOp a.eval { dst:=dst,op:=.buildSlice t ls'.length parts,type:=type,pos:=pos,after:=after,guard:=guard }).run P w =
   .ok (.value (.slice (some ⟨w.heap.size,0,none⟩) ls'.length ls'.length)) (w.alloc (.cells cs e)):=by
  simp only [execOp]
  exact V0 h2
 unfold Oper.wp
 rw [hr]
 have hlc:=h1.length
 simp only [Qv] at hlc
 obtain ⟨j1,j2⟩:=hh.alloc_vec cs e (ls:=ls') (cap:=ls'.length) (X6 _) hlc (by rw [<-hlc];simpa [Vg] using h1)
 exact ⟨_,_,G,hK _,(hF.mono (j2.agree hh)).put (U4 hd) .val,j1,j2⟩
theorem Z13 (ls:List AV) {len:Nat} (hk:YY n ops F k=true) (ha:UQ P ops F k=some (ls,len,1)) (hlen:ls.length=len)
  (hK:∀v,SI P n ops B (k+1) (F.put (ZB ops k).dst (.val v)) (.vec v ls::h)):SI P n ops B k F h:=
 UO hk (Z3x (Ve hk).2.1 ha hlen hK)
theorem Z19 (j:Nat) {v:Value} {ls:List AV} {i:Nat} {y:AV} (ls':List AV) (hk:YY n ops F k=true) (hs:storeAt P ops F k=some (TP v,i,[y])) (hp:VM [j] h=some ([.vec v ls],h2))
  (hlt:i<ls.length) (he:ls.set i y=ls') (H:SI P n ops B (k+1) F (.vec v ls'::h2)):SI P n ops B k F h:=
 UO hk (We.perm (VN hp) (Mx hs hlt (by rw [he];exact H)))
theorem Rf (i j:Nat) (js bs:List Nat) {v:Value} {ls:List AV} {q:Nat} {y:AV} (ls':List AV) (hk:YY n ops F i=true) (hs:storeAt P ops F i=some (TP v,q,[y]))
  (hp:VM [j] h=some ([.vec v ls],h2)) (hlt:q<ls.length) (he:ls.set q y=ls') (ho:Vz ops i T=bs) (hj:js.map (fun j=>(Wm h2)[j]?)=bs.map some)
  (H:YM P n ops B (T.filter fun t=>!WA ops i t.1) fuel (done++[i]) F (.vec v ls'::h2)):V2 P n ops B T fuel done F h i:=
 Ql [j] js bs hk hp ho hj (Mx (h2:=[]) hs hlt (by rw [he];exact H))
theorem Z17 (j:Nat) (ls':List AV) {v:Value} {ls xs:List AV} {hx:Option Value} (hk:YY n ops F k=true) (ha:U1 P ops F k=some (.val v,.sl xs hx,1)) (hp:VM [j] h=some ([.vec v ls],h2))
  (hxs:∀y∈xs,y.leaves=[y]) (hone:xs.all AV.one=true) (hbound:ls.length+xs.length<=4294967296) (he:ls++xs=ls')
  (hK:∀v',SI P n ops B (k+1) (F.put (ZB ops k).dst (.val v')) (.vec v' ls'::h2)):SI P n ops B k F h:=
 UO hk (We.perm (VN hp) (Mw (Ve hk).2.1 ha hxs hone hbound fun v'=>by rw [he];exact hK v'))
theorem Re (i j:Nat) (js bs:List Nat) (ls':List AV) {v:Value} {ls xs:List AV} {hx:Option Value} (hk:YY n ops F i=true) (ha:U1 P ops F i=some (.val v,.sl xs hx,1))
  (hp:VM [j] h=some ([.vec v ls],h2)) (hxs:∀y∈xs,y.leaves=[y]) (hone:xs.all AV.one=true) (hbound:ls.length+xs.length<=4294967296) (he:ls++xs=ls')
  (ho:Vz ops i T=bs) (hj:js.map (fun j=>(Wm h2)[j]?)=bs.map some)
  (hK:∀v',YM P n ops B (T.filter fun t=>!WA ops i t.1) fuel (done++[i]) (F.put (ZB ops i).dst (.val v')) (.vec v' ls'::h2)):V2 P n ops B T fuel done F h i:=
 Ql [j] js bs hk hp ho hj (Mw (h2:=[]) (Ve hk).2.1 ha hxs hone hbound fun v'=>by rw [he];exact hK v')
theorem Z18 (ls:List AV) {l c:Nat} {zv:AV} (hk:YY n ops F k=true) (hm:A8 P ops F k=some ((l:Int),(c:Int),zv)) (hlc:l<=c) (hc:c<=4294967296) (he:List.replicate l zv=ls)
  (hK:∀v,SI P n ops B (k+1) (F.put (ZB ops k).dst (.val v)) (.vec v ls::h)):SI P n ops B k F h:=
 UO hk (Z43 (Ve hk).2.1 hm hlc hc fun v=>by rw [he];exact hK v)
theorem Z0z (f:FuncId) (as1 xs:List AV) (is:List Nat) {h1:List Res} (bs:List Res) {R:AV->List Res->Prop} (hk:YY n ops F k=true) (hc:QE P ops F k=some (f,as1))
  (hp:VM is h=some (h1++bs,h2)) (H:Zi P f xs h1 R) (hargs:UG bs as1 xs) (hb:∀r∈bs,∃v ls,r=.vec v ls/\∀y∈ls,∃u,y=.val u)
  (hclean:∀r h',R r h'->Qe h' r/\∀q∈h',C4 q)
  (hK:∀r h',R r h'->SI P n ops B (k+1) (F.put (ZB ops k).dst r) (h'++bs++h2)):SI P n ops B k F h:=
 UO hk (Eg (Ve hk).2.1 hc (VN hp) (H.lend bs hargs hb hclean) fun r h' ⟨h1',hr,he⟩=>by rw [he];exact hK r h1' hr)
theorem R7 (i:Nat) (f:FuncId) (as1 xs:List AV) (is js ks:List Nat) {h1:List Res} (bs:List Res) {R:AV->List Res->Prop} (hk:YY n ops F i=true) (hc:QE P ops F i=some (f,as1))
  (hp:VM is h=some (h1++bs,h2)) (ho:Vz ops i T=ks) (hj:js.map (fun j=>(Wm h2)[j]?)=ks.map some)
  (H:Zi P f xs h1 R) (hargs:UG bs as1 xs) (hb:∀r∈bs,∃v ls,r=.vec v ls/\∀y∈ls,∃u,y=.val u)
  (hclean:∀r h',R r h'->Qe h' r/\∀q∈h',C4 q)
  (hK:∀r h',R r h'->YM P n ops B (T.filter fun t=>!WA ops i t.1) fuel (done++[i]) (F.put (ZB ops i).dst r) (h'++bs++h2)):V2 P n ops B T fuel done F h i:=
 Ql is js ks hk hp ho hj (Eg (h2:=[]) (Ve hk).2.1 hc (by simp) (H.lend bs hargs hb hclean) fun r h' ⟨h1',hr,he⟩=>by rw [he];simpa using hK r h1' hr)
def T4 (h h':List Res):Prop:=∀w G,YB w G h->∃G',YB w G' h'/\YU w G h w G' h'
theorem XK {h':List Res} (ht:T4 h h') (H:SI P n ops B k F h'):SI P n ops B k F h:=by
 intro Q w G a hF hh hk
 obtain ⟨G',h1,h2⟩:=ht w G hh
 exact H Q w G' a (hF.mono (h2.agree hh)) h1 fun F2 h2' G2 a2 w2 b1 b2 b3 b4=>hk F2 h2' G2 a2 w2 b1 b2 b3 (h2.trans b4)
theorem Fb {c:Code} {A:Vc} {h':List Res} (ht:T4 h h') (H:X1 P n c A F h'):X1 P n c A F h:=by
 intro w G a hF hh
 obtain ⟨G',h1,h2⟩:=ht w G hh
 exact wp_mono (H w G' a (hF.mono (h2.agree hh)) h1) fun e a' w' hc=>hc.trans h2
theorem Z8h:T4 h (.vec (.slice none 0 0) []::h):=fun _ _ hh=>let ⟨a,b⟩:=Z8w hh;⟨_,a,b⟩
theorem Z8i (j m:Nat) {v:Value} {ls:List AV} (hp:VM [j] h=some ([.vec v ls],h2)) (hle:m<=ls.length):T4 h (.vec (KW v m) (ls.take m)::h2):=by
 intro w G hh
 have hp':=VN hp
 obtain ⟨a,b⟩:=Z8y (hh.perm hp') hle
 exact ⟨G,a,b.perm hp'.symm (Tz _)⟩
theorem O8 (is:List Nat) {h' d:List Res} (hp:VM is h=some (h',d)):T4 h h':=by
 intro w G hh
 have hp':=VN hp
 refine ⟨G,(hh.perm hp').left,?_⟩
 exact ((YU.refl w G h).perm (Tz _) hp').sub' (List.sublist_append_left _ _)
end
theorem Oh (xs:List Int):∀y∈Z8 xs,∃u,y=AV.val u:=by intro y hy;simp only [Z8,W6] at hy;obtain ⟨x,_,rfl⟩:=hy;exact ⟨_,rfl⟩
theorem GG (xs:List Int):∀y∈Z8 xs,y.leaves=[y]:=by intro y hy;simp only [Z8,W6] at hy;obtain ⟨x,_,rfl⟩:=hy;rfl
theorem Ml (xs:List Int):(Z8 xs).all AV.one=true:=by rw [Kq];intro y hy;simp only [Z8,W6] at hy;obtain ⟨x,_,rfl⟩:=hy;rfl
theorem Np (xs:List Int) (i:Nat) (x:Int):(Z8 xs).set i (.i x)=Z8 (xs.set i x):=by simp [Z8,List.map_set]
theorem Kf:∀r∈([]:List Res),∃v ls,r=Res.vec v ls/\∀y∈ls,∃u,y=AV.val u:=by simp
theorem Qo {v:Value} {xs:List Int} {bs:List Res} (h:∀r∈bs,∃v ls,r=Res.vec v ls/\∀y∈ls,∃u,y=AV.val u) :
  ∀r∈Res.vec v (Z8 xs)::bs,∃v ls,r=Res.vec v ls/\∀y∈ls,∃u,y=AV.val u:=by
 intro r hr
 rcases YQ.1 hr with rfl|hr
 ·exact ⟨_,_,rfl,Oh xs⟩
 ·exact h r hr
section
variable {P:Program} {n:Nat} {c:Code} {A:Vc} {F:Fr} {h:List Res}
@[reducible] def Ip (K:Fr->List Res->Prop) (A:Vc):Vc:=fun e F h=>
 match e with
 | .normal=>∃F' h',K F' h'/\TD F h F' h'
 | e=>A e F h
theorem XI {y:Code} (K:Fr->List Res->Prop) (H:X1 P n c (Ip K A) F h) (hB:∀F' h',K F' h'->X1 P n y A F' h'):X1 P n c (Hu P n y A) F h:=by
 refine HL (fun e F1 h1 hq=>?_) H
 cases e with
 | normal=>obtain ⟨F',h',k1,k2⟩:=hq;exact AC k2 (hB F' h' k1)
 | exit id=>exact hq
 | goto l=>exact hq
 | ret=>exact hq
 | panic ch=>exact hq
 | outgrown=>exact hq
theorem XQ {ops:Array Oper} {B:Fr->List Res->Prop} {k:Nat} (k2:Nat) (F2:Fr) (h2:List Res) (J:SI P n ops B k2 F2 h2) (H:SI P n ops B k2 F2 h2->SI P n ops B k F h):SI P n ops B k F h:=H J
theorem YG {ops:Array Oper} {B:Fr->List Res->Prop} {k:Nat} {F2:Fr} {h2:List Res} (hw:TD F h F2 h2) (J:SI P n ops B k F2 h2):SI P n ops B k F h:=Ev hw J
theorem JK {y:Code} {A2:Vc} (K:Fr->List Res->Prop) (hA:∀F h,A .normal F h=X1 P n y A2 F h) (H:X1 P n c (Ip K A) F h) (hB:∀F' h',K F' h'->X1 P n y A2 F' h'):X1 P n c A F h:=by
 refine HL (fun e F1 h1 hq=>?_) H
 cases e with
 | normal=>obtain ⟨F',h',k1,k2⟩:=hq;rw [hA];exact AC k2 (hB F' h' k1)
 | exit id=>exact hq
 | goto l=>exact hq
 | ret=>exact hq
 | panic ch=>exact hq
 | outgrown=>exact hq
end
end Go.Abs
section
namespace Go.Abs
inductive Keep:Fr->Fr->Prop
 | z {F:Fr}:Keep F []
 | r {F:Fr}:Keep F F
 | k {F F':Fr} {x:Nat × AV} (h:Keep F F'):Keep (x::F) (x::F')
 | d {F F':Fr} {x:Nat × AV} (h:Keep F F'):Keep (x::F) F'
 | p {F F':Fr} {d:Option Tmp} {x:AV} (h:Keep F F'):Keep (F.put d x) F'
 | q {F F':Fr} {d:Option Tmp} {x:AV} (t:Nat) (h:Keep F F'):Keep (F.put d x) ((t,x)::F')
 | n {F F':Fr} (t:Nat) (x:AV) (h:Keep F F'):Keep F ((t,x)::F')
def XC (is:List Nat) (h:List Res):List Res:=((VM is h).map (·.2)).getD []
def W8 (is:List Nat) (h:List Res):Option (List Res):=(VM is h).map (·.1)
theorem V7 {is:List Nat} {h h1:List Res} (hp:W8 is h=some h1):VM is h=some (h1,XC is h):=by
 unfold W8 at hp
 unfold XC
 cases hq:VM is h with
 | none=>rw [hq] at hp;cases hp
 | some x=>rw [hq] at hp;cases hp;rfl
abbrev Z0 (xs:List Int):AV:=.sl (Z8 xs) none
abbrev WD (xs:List (List Int)):AV:=.sl (W7 xs) none
abbrev W5 (xs:List Y5):AV:=.sl (Wx xs) none
abbrev Zd (xs:List Zf):AV:=.sl (YW xs) none
abbrev Ye (xs:List Z4):AV:=.sl (Zv xs) none
abbrev Yu (xs:List Z6):AV:=.sl (YH xs) none
abbrev YZ (xs:List Yb):AV:=.sl (YN xs) none
abbrev Z7 (xs:List Int) (v:Value):AV:=.sl (Z8 xs) (some v)
abbrev T2 (xs:List (List Int)) (v:Value):AV:=.sl (W7 xs) (some v)
abbrev QQ (xs:List Y5) (v:Value):AV:=.sl (Wx xs) (some v)
abbrev Uj (xs:List Zf) (v:Value):AV:=.sl (YW xs) (some v)
abbrev ZX (xs:List Z4) (v:Value):AV:=.sl (Zv xs) (some v)
abbrev X4 (xs:List Z6) (v:Value):AV:=.sl (YH xs) (some v)
abbrev Xg (xs:List Yb) (v:Value):AV:=.sl (YN xs) (some v)
abbrev Gz (c:Y5):List AV:=[Z0 c.fields]
abbrev Wt (d:Zf):List AV:=[.i d.frm,.i d.to_,W5 d.cons]
abbrev Yg (s:Z4):List AV:=[.i s.op,.i s.num,.i s.into,Z0 s.args,Yu s.kids]
abbrev Yk (b:Z6):List AV:=[Ye b.steps,.i b.result]
abbrev VW (r:Yb):List AV:=[Z0 r.params,Z0 r.lent,.i r.result,Ye r.body.steps,.i r.body.result]
abbrev ZU (n:Zx):List AV:=[Zd n.decls,YZ n.routines]
structure Hd where
 a:Option Addr
 l:Nat
 c:Nat
abbrev Hd.v (g:Hd):Value:=.slice g.a g.l g.c
abbrev Hd.cut (g:Hd) (m:Nat):Hd:=⟨g.a,m,g.c⟩
abbrev hN:Hd:=⟨none,0,0⟩
abbrev AV.h (g:Hd):AV:=.val g.v
abbrev rV (g:Hd) (xs:List Int):Res:=.vec g.v (Z8 xs)
section
variable {P:Program} {n:Nat} {c:Code} {A:Vc} {F:Fr} {h:List Res} {ops:Array Oper} {B:Fr->List Res->Prop} {k:Nat}
variable {T:List (Nat × List Nat)} {fuel:Nat} {done:List Nat}
theorem aq (ha:X1 P n (VF c) (Hu P n (QD c) A) F h) (hk:XT c=3:=by kernel_rfl):X1 P n c A F h:=Fa hk ha
theorem ar (hs:SI P n (Tl (VF c)) (fun F h=>X1 P n (QD c) A F h) 0 F h) (hk:XT c=3:=by kernel_rfl) (hk1:XT (VF c)=1:=by kernel_rfl):X1 P n c A F h:=OC hk hk1 (Lw hs)
theorem az (hs:SI P n (Tl c) (A .normal) 0 F h) (hk:XT c=1:=by kernel_rfl):X1 P n c A F h:=HM hk (Lw hs)
theorem aD (k:Nat) (hs:YM P n (Tl (VF c)) (fun F h=>X1 P n (QD c) A F h) [] k [] F h) (hk:XT c=3:=by kernel_rfl) (hk2:XT (VF c)=2:=by kernel_rfl) (hm:P.follows .mixedOrders=true:=by kernel_rfl)
  (Xq:(Tl (VF c)).size=k:=by kernel_rfl):X1 P n c A F h:=OD hk hk2 hm Xq hs
theorem aE (k:Nat) (hs:YM P n (Tl c) (A .normal) [] k [] F h) (hk:XT c=2:=by kernel_rfl) (hm:P.follows .mixedOrders=true:=by kernel_rfl)
  (Xq:(Tl c).size=k:=by kernel_rfl):X1 P n c A F h:=HN hk hm Xq hs
theorem ak (h0:A .normal F h) (hk:XT c=0:=by kernel_rfl):X1 P n c A F h:=OG hk h0
theorem ax (id:Nat) (h0:A (.exit id) F h) (hk:XT c=7:=by kernel_rfl) (hi:Qj c=id:=by kernel_rfl):X1 P n c A F h:=OA id hk hi h0
theorem ab (id:Nat) (ha:X1 P n (VF c) (Dg id A) F h) (hk:XT c=5:=by kernel_rfl) (hi:Qj c=id:=by kernel_rfl):X1 P n c A F h:=Oz id hk hi ha
theorem ac (b:Bool) {p:Prop} (hp:b=true↔p) (h1:p->X1 P n (VF c) A F h) (h2:¬p->X1 P n (QD c) A F h) (hk:XT c=4:=by kernel_rfl) (hc:F.ev (AG c)=.val (.bool b):=by kernel_rfl) :
  X1 P n c A F h:=F9 hk hc hp h1 h2
theorem WU (h1:X1 P n (VF c) A F h) (hk:XT c=4:=by kernel_rfl) (hc:F.ev (AG c)=.val (.bool true):=by kernel_rfl):X1 P n c A F h:=
 F9 (p:=True) hk hc (by simp) (fun _=>h1) (fun q=>absurd trivial q)
theorem WT (h1:X1 P n (QD c) A F h) (hk:XT c=4:=by kernel_rfl) (hc:F.ev (AG c)=.val (.bool false):=by kernel_rfl):X1 P n c A F h:=
 F9 (p:=False) hk hc (by simp) (fun q=>q.elim) (fun _=>h1)
theorem al (Inv:Nat->Fr->List Res->Prop) (m0:Nat) (F0:Fr) (h0:List Res) (hi:Inv m0 F0 h0) (hw:TD F h F0 h0)
  (hr:∀m F h,Inv m F h->X1 P n (VF c) (M4 Inv m A) F h) (hk:XT c=6:=by kernel_rfl):X1 P n c A F h:=OB Inv hk hi hw hr
theorem wk {F':Fr} {h1 h':List Res} (is:List Nat) (hF:F.Le F') (e:h1=h':=by exact rfl) (hp:W8 is h=some h1:=by kernel_rfl):TD F h F' h':=e▸Z98 is hF (V7 hp)
theorem fl {F F':Fr} (h:F'.map (fun p=>(F.get p.1).like p.2)=F'.map (·.2):=by kernel_rfl):F.Le F':=G3 h
theorem fc {F F':Fr} {t:Nat} {x y:AV} (hxy:Zg x y) (hr:F.Le F') (hx:F.get t=x:=by kernel_rfl):F.Le ((t,y)::F'):=Bx hx hxy hr
theorem lr (x:AV):Zg x x:=Zg.refl x
abbrev nl:AV:=.sl [] (some (.slice none 0 0))
theorem Keep.w {F F':Fr} {a b c d:Nat×AV} (h:Keep F F'):Keep (a::b::c::d::F) (a::b::c::d::F'):=.k (.k (.k (.k h)))
theorem dq {p:Prop} [Decidable p]:decide p=true↔p:=decide_eq_true_iff
theorem fr {F F':Fr} {t:Nat} {x:AV} (hr:F.Le F') (hx:F.get t=x:=by kernel_rfl):F.Le ((t,x)::F'):=fc (lr _) hr hx
theorem li {a b:Int} (h:a=b:=by exact ob):Zg (.i a) (.i b):=Zg.i h
theorem lb {a b:Bool} (h:a=b):Zg (.b a) (.b b):=Zg.b h
theorem r1 {fn:Func} {R:AV->List Res->Prop} {e:Exit} {h1 h':List Res} {r:AV} (is:List Nat) (hR:R r h') (eq:h1=h':=by exact rfl) (he:(match e with|.normal|.ret=>true|_=>false)=true:=by kernel_rfl)
  (hr:QR P F h fn.results.toList []=some ([r],[]):=by kernel_rfl) (hp:W8 is h=some h1:=by kernel_rfl):Bh P fn R e F h:=
 GT he [] hr (by simp) ⟨_,eq▸VN (V7 hp)⟩ (Zg.refl _) hR
theorem r2 {fn:Func} {R:AV->List Res->Prop} {e:Exit} {h1 h':List Res} {r:AV} (is:List Nat) (xs:List AV) (hR:R r h') (hle:Zg (Ae xs) r) (eq:h1=h':=by exact rfl) (he:(match e with|.normal|.ret=>true|_=>false)=true:=by kernel_rfl)
  (hr:QR P F h fn.results.toList []=some (xs,[]):=by kernel_rfl) (hp:W8 is h=some h1:=by kernel_rfl):Bh P fn R e F h:=
 GT he [] hr (by simp) ⟨_,eq▸VN (V7 hp)⟩ hle hR
theorem r3 {fn:Func} {R:AV->List Res->Prop} {e:Exit} {h1 h':List Res} {r:AV} (is:List Nat) (xs:List AV) (hints:List Nat) (es:List (Nat × Nat)) (hR:R r h') (hle:Zg (Ae xs) r)
  (eq:h1=h':=by exact rfl) (he:(match e with|.normal|.ret=>true|_=>false)=true:=by kernel_rfl)
  (hr:QR P F h fn.results.toList hints=some (xs,es):=by kernel_rfl) (hp:W8 is h=some h1:=by kernel_rfl) (hes:∀p∈es,p.1=p.2:=by simp):Bh P fn R e F h:=
 GT he hints hr hes ⟨_,eq▸VN (V7 hp)⟩ hle hR
theorem Zb (h0:A .ret F h) (hk:XT c=8:=by kernel_rfl):X1 P n c A F h:=OE hk h0
theorem ir (m:Nat) (F':Fr) (H:SI P n ops B (k+m) F' h) (he:KO P n ops h k m F [] F'=some (F'.map (·.2),[],[]):=by kernel_rfl):SI P n ops B k F h:=DU m F' [] [] he H
theorem iR (m:Nat) (F':Fr) (hints bs:List Nat) (H:SI P n ops B (k+m) F' h) (he:KO P n ops h k m F hints F'=some (F'.map (·.2),bs,bs):=by kernel_rfl):SI P n ops B k F h:=DU m F' hints bs he H
theorem Z5 (m:Nat) {F':Fr} (q:Keep F F') (H:SI P n ops B (k+m) F' h) (he:KO P n ops h k m F [] F'=some (F'.map (·.2),[],[]):=by kernel_rfl):SI P n ops B k F h:=DU m F' [] [] he H
theorem Y2 (m:Nat) {F':Fr} (q:Keep F F') (hints bs:List Nat) (H:SI P n ops B (k+m) F' h) (he:KO P n ops h k m F hints F'=some (F'.map (·.2),bs,bs):=by kernel_rfl):SI P n ops B k F h:=DU m F' hints bs he H
theorem ie (hB:B F h) (hk:Nat.ble ops.size k=true:=by kernel_rfl):SI P n ops B k F h:=Z11 hk hB
theorem io (x':AV) (x:AV) (hx:Zg x x') (H:SI P n ops B (k+1) (F.put (ZB ops k).dst x') h) (hk:YY n ops F k=true:=by kernel_rfl) (he:Tq P (ZB ops k) F h 0=some (x,[]):=by kernel_rfl):SI P n ops B k F h:=
 Z14 x' hk he hx H
theorem Zq {x:AV} (hs:Xy P (ZB ops k) F h [] x) (H:SI P n ops B (k+1) (F.put (ZB ops k).dst x) h) (hk:YY n ops F k=true:=by kernel_rfl):SI P n ops B k F h:=Cx hk hs H
theorem ia (r s:Int) (H:SI P n ops B (k+1) (F.put (ZB ops k).dst (.i r)) h) (hb:-9223372036854775808<=r/\r<=9223372036854775807:=by omega) (hs:s=r:=by omega)
  (hk:YY n ops F k=true:=by kernel_rfl) (ha:Kv ops F k=some s:=by kernel_rfl):SI P n ops B k F h:=Z0x r hk ha hs hb H
theorem ic (is:List Nat) {f:FuncId} {xs:List AV} {h1:List Res} {R:AV->List Res->Prop} (H:Zi P f xs h1 R)
  (hK:∀r h',R r h'->SI P n ops B (k+1) (F.put (ZB ops k).dst r) (h'++XC is h)) (hk:YY n ops F k=true:=by kernel_rfl) (hc:QE P ops F k=some (f,xs):=by kernel_rfl)
  (hp:W8 is h=some h1:=by kernel_rfl):SI P n ops B k F h:=Z0y f xs is hk hc (V7 hp) H hK
theorem iA (ls:List AV) (hK:∀b,SI P n ops B (k+1) (F.put (ZB ops k).dst (.p b 0)) (.obj b ls::h)) (hk:YY n ops F k=true:=by kernel_rfl) (ha:Bi P ops F k=some ls:=by kernel_rfl):SI P n ops B k F h:=
 Z0v ls hk ha hK
theorem iS (j b o:Nat) (xs ls ls':List AV) (H:SI P n ops B (k+1) F (.obj b ls'::XC [j] h)) (hk:YY n ops F k=true:=by kernel_rfl) (hs:storeAt P ops F k=some (b,o,xs):=by kernel_rfl)
  (hp:W8 [j] h=some [.obj b ls]:=by kernel_rfl) (hle:Nat.ble (o+xs.length) ls.length=true:=by kernel_rfl) (he:ls.take o++xs++ls.drop (o+xs.length)=ls':=by kernel_rfl):SI P n ops B k F h:=
 Z16 j ls' hk hs (V7 hp) hle he H
theorem iL (es:List AV) (len sz:Nat) (hK:∀v,SI P n ops B (k+1) (F.put (ZB ops k).dst (.sl es (some v))) (.tail v sz::h)) (hk:YY n ops F k=true:=by kernel_rfl)
  (ha:UQ P ops F k=some (Zl es,len,sz):=by kernel_rfl) (hlen:es.length=len:=by kernel_rfl) (hall:J3 es sz=true:=by kernel_rfl):SI P n ops B k F h:=Z12 es hk ha hlen hall hK
theorem ip (j:Nat) (es' es xs:List AV) (hv:Value) (hx:Option Value) (sz:Nat) (hes:∀y∈es,y.leaves.length=sz) (hxs:∀y∈xs,y.leaves.length=sz)
  (hone:(Zl xs).all AV.one=true) (hbound:es.length+xs.length<=4294967296) (he:es++xs=es') (hK:∀v',SI P n ops B (k+1) (F.put (ZB ops k).dst (.sl es' (some v'))) (.tail v' sz::XC [j] h))
  (hk:YY n ops F k=true:=by kernel_rfl) (ha:U1 P ops F k=some (.sl es (some hv),.sl xs hx,sz):=by kernel_rfl) (hp:W8 [j] h=some [.tail hv sz]:=by kernel_rfl):SI P n ops B k F h:=
 Z0w j es' hk ha (V7 hp) hes hxs hone hbound he hK
theorem ib {b:Bool} (t:Nat) (h1:b=true->SI P n ops B k ((t,.b true)::F) h) (h2:b=false->SI P n ops B k ((t,.b false)::F) h) (hF:F.get t=.b b:=by kernel_rfl):SI P n ops B k F h:=Z15 t hF h1 h2
theorem dt (m:Nat) (is:List Nat) (F':Fr) (H:YM P n ops B ((Kh P n ops h is done F []).reverse++T) fuel (done++is) F' h) (hf:m=fuel+is.length:=by kernel_rfl)
  (he:Kj P n ops h is done F [] F'=some (F'.map (·.2),[],[]):=by kernel_rfl) (hs:Region.noSelect ops=true:=by kernel_rfl):YM P n ops B T m done F h:=J7 is F' [] [] hs he hf H
theorem dT (m:Nat) (is:List Nat) (F':Fr) (hints bs:List Nat) (H:YM P n ops B ((Kh P n ops h is done F hints).reverse++T) fuel (done++is) F' h) (hf:m=fuel+is.length:=by kernel_rfl)
  (he:Kj P n ops h is done F hints F'=some (F'.map (·.2),bs,bs):=by kernel_rfl) (hs:Region.noSelect ops=true:=by kernel_rfl):YM P n ops B T m done F h:=J7 is F' hints bs hs he hf H
theorem dtk (m:Nat) (is:List Nat) {F':Fr} (q:Keep F F') (H:YM P n ops B ((Kh P n ops h is done F []).reverse++T) fuel (done++is) F' h) (hf:m=fuel+is.length:=by kernel_rfl)
  (he:Kj P n ops h is done F [] F'=some (F'.map (·.2),[],[]):=by kernel_rfl) (hs:Region.noSelect ops=true:=by kernel_rfl):YM P n ops B T m done F h:=J7 is F' [] [] hs he hf H
theorem dtK (m:Nat) (is:List Nat) {F':Fr} (q:Keep F F') (hints bs:List Nat) (H:YM P n ops B ((Kh P n ops h is done F hints).reverse++T) fuel (done++is) F' h) (hf:m=fuel+is.length:=by kernel_rfl)
  (he:Kj P n ops h is done F hints F'=some (F'.map (·.2),bs,bs):=by kernel_rfl) (hs:Region.noSelect ops=true:=by kernel_rfl):YM P n ops B T m done F h:=J7 is F' hints bs hs he hf H
theorem de (hB:B F h) (hr:Region.ready .any ops (Wu ops done)=[]:=by kernel_rfl):YM P n ops B T fuel done F h:=R8 hr hB
theorem Z9 (i:Nat) (H:V2 P n ops B T fuel done F h i) (hr:Region.ready .any ops (Wu ops done)=[i]:=by kernel_rfl):YM P n ops B T (fuel+1) done F h:=Rb hr H
theorem dx (i:Nat) {x:AV} (hx:Xy P (ZB ops i) F h [] x) (H:YM P n ops B ((i,[])::T) fuel (done++[i]) (F.put (ZB ops i).dst x) h) (hs:Region.noSelect ops=true:=by kernel_rfl) (hk:YY n ops F i=true:=by kernel_rfl)
  (hf:Region.free .any ops (Wu ops done) i=true:=by kernel_rfl) (hr:(Region.ready .any ops (Wu ops done)).contains i=true:=by kernel_rfl):YM P n ops B T (fuel+1) done F h:=Dq i hs hk hf hr hx H
theorem dn (i:Nat) (x' x:AV) (hx:Zg x x') (H:YM P n ops B ((i,[])::T) fuel (done++[i]) (F.put (ZB ops i).dst x') h) (he:Tq P (ZB ops i) F h 0=some (x,[]):=by kernel_rfl) (hs:Region.noSelect ops=true:=by kernel_rfl) (hk:YY n ops F i=true:=by kernel_rfl)
  (hf:Region.free .any ops (Wu ops done) i=true:=by kernel_rfl) (hr:(Region.ready .any ops (Wu ops done)).contains i=true:=by kernel_rfl):YM P n ops B T (fuel+1) done F h:=Ra i x' hs hk hf hr he hx H
theorem da (i:Nat) (r s:Int) (H:YM P n ops B ((i,[])::T) fuel (done++[i]) (F.put (ZB ops i).dst (.i r)) h) (hb:-9223372036854775808<=r/\r<=9223372036854775807:=by omega) (hse:s=r:=by omega)
  (ha:Kv ops F i=some s:=by kernel_rfl) (hs:Region.noSelect ops=true:=by kernel_rfl) (hk:YY n ops F i=true:=by kernel_rfl)
  (hf:Region.free .any ops (Wu ops done) i=true:=by kernel_rfl) (hr:(Region.ready .any ops (Wu ops done)).contains i=true:=by kernel_rfl):YM P n ops B T (fuel+1) done F h:=R5 i r hs hk hf hr ha hse hb H
theorem dc (i:Nat) (is js bs:List Nat) {f:FuncId} {xs:List AV} {h1:List Res} {R:AV->List Res->Prop} (H:Zi P f xs h1 R)
  (hK:∀r h',R r h'->YM P n ops B (T.filter fun t=>!WA ops i t.1) fuel (done++[i]) (F.put (ZB ops i).dst r) (h'++XC is h))
  (hk:YY n ops F i=true:=by kernel_rfl) (hc:QE P ops F i=some (f,xs):=by kernel_rfl)
  (hp:W8 is h=some h1:=by kernel_rfl) (ho:Vz ops i T=bs:=by kernel_rfl) (hj:js.map (fun j=>(Wm (XC is h))[j]?)=bs.map some:=by kernel_rfl):V2 P n ops B T fuel done F h i:=
 R6 i f xs is js bs hk hc (V7 hp) ho hj H hK
theorem dA (i:Nat) (js bs:List Nat) (ls:List AV) (hK:∀b,YM P n ops B (T.filter fun t=>!WA ops i t.1) fuel (done++[i]) (F.put (ZB ops i).dst (.p b 0)) (.obj b ls::h))
  (hk:YY n ops F i=true:=by kernel_rfl) (ha:Bi P ops F i=some ls:=by kernel_rfl) (ho:Vz ops i T=bs:=by kernel_rfl) (hj:js.map (fun j=>(Wm h)[j]?)=bs.map some:=by kernel_rfl):V2 P n ops B T fuel done F h i:=
 R3 i js bs ls hk ha ho hj hK
theorem dL (i:Nat) (js bs:List Nat) (es:List AV) (len sz:Nat) (hK:∀v,YM P n ops B (T.filter fun t=>!WA ops i t.1) fuel (done++[i]) (F.put (ZB ops i).dst (.sl es (some v))) (.tail v sz::h))
  (hk:YY n ops F i=true:=by kernel_rfl) (ha:UQ P ops F i=some (Zl es,len,sz):=by kernel_rfl) (hlen:es.length=len:=by kernel_rfl) (hall:J3 es sz=true:=by kernel_rfl)
  (ho:Vz ops i T=bs:=by kernel_rfl) (hj:js.map (fun j=>(Wm h)[j]?)=bs.map some:=by kernel_rfl):V2 P n ops B T fuel done F h i:=
 R9 i js bs es hk ha hlen hall ho hj hK
theorem dp (i j:Nat) (js bs:List Nat) (es' es xs:List AV) (hv:Value) (hx:Option Value) (sz:Nat) (hes:∀y∈es,y.leaves.length=sz) (hxs:∀y∈xs,y.leaves.length=sz)
  (hone:(Zl xs).all AV.one=true) (hbound:es.length+xs.length<=4294967296) (he:es++xs=es')
  (hK:∀v',YM P n ops B (T.filter fun t=>!WA ops i t.1) fuel (done++[i]) (F.put (ZB ops i).dst (.sl es' (some v'))) (.tail v' sz::XC [j] h))
  (hk:YY n ops F i=true:=by kernel_rfl) (ha:U1 P ops F i=some (.sl es (some hv),.sl xs hx,sz):=by kernel_rfl) (hp:W8 [j] h=some [.tail hv sz]:=by kernel_rfl)
  (ho:Vz ops i T=bs:=by kernel_rfl) (hj:js.map (fun q=>(Wm (XC [j] h))[q]?)=bs.map some:=by kernel_rfl):V2 P n ops B T fuel done F h i:=
 R4 i j js bs es' hk ha (V7 hp) hes hxs hone hbound he ho hj hK
theorem dS (i j:Nat) (js bs:List Nat) (b o:Nat) (xs ls ls':List AV) (H:YM P n ops B (T.filter fun t=>!WA ops i t.1) fuel (done++[i]) F (.obj b ls'::XC [j] h))
  (hk:YY n ops F i=true:=by kernel_rfl) (hs:storeAt P ops F i=some (b,o,xs):=by kernel_rfl)
  (hp:W8 [j] h=some [.obj b ls]:=by kernel_rfl) (hle:Nat.ble (o+xs.length) ls.length=true:=by kernel_rfl) (he:ls.take o++xs++ls.drop (o+xs.length)=ls':=by kernel_rfl) (ho:Vz ops i T=bs:=by kernel_rfl)
  (hj:js.map (fun q=>(Wm (XC [j] h))[q]?)=bs.map some:=by kernel_rfl):V2 P n ops B T fuel done F h i:=
 Rd i j js bs ls' hk hs (V7 hp) hle he ho hj H
theorem db {b:Bool} (t:Nat) (h1:b=true->YM P n ops B T fuel done ((t,.b true)::F) h) (h2:b=false->YM P n ops B T fuel done ((t,.b false)::F) h) (hF:F.get t=.b b:=by kernel_rfl):YM P n ops B T fuel done F h:=Rc t hF h1 h2
theorem rz:([]:List Res)=[]:=rfl
theorem rc {x:Res} {t t':List Res} (e:t=t'):x::t=x::t':=e▸rfl
theorem rv {g:Hd} {xs xs':List Int} {t t':List Res} (h:xs=xs') (e:t=t'):rV g xs::t=rV g xs'::t':=h▸e▸rfl
theorem Ex {v:Value} {ls:List AV} (H:∀g:Hd,v=g.v->SI P n ops B k F (.vec v ls::h)):SI P n ops B k F (.vec v ls::h):=by
 intro Q w G a hF hh
 obtain ⟨a',cap,rfl⟩:=JJ.form (hh.ok _ (Xh ..))
 exact H ⟨a',_,cap⟩ rfl Q w G a hF hh
theorem Rk {v:Value} {ls:List AV} (H:∀g:Hd,v=g.v->YM P n ops B T fuel done F (.vec v ls::h)):YM P n ops B T fuel done F (.vec v ls::h):=by
 intro Q w G a SL hF hh
 obtain ⟨a',cap,rfl⟩:=JJ.form (hh.ok _ (Xh ..))
 exact H ⟨a',_,cap⟩ rfl Q w G a SL hF hh
theorem Xy.le {o:Oper} {x y:AV} {ks:List Nat} (hs:Xy P o F h ks x) (hx:Zg x y):Xy P o F h ks y:=by
 intro n w G a hF hh
 obtain ⟨v,h1,h2⟩:=hs n w G a hF hh
 exact ⟨v,hx _ _ _ h1,h2⟩
theorem Jw (j:Nat) (v:Hd) (xs:List Int) (hl:BI P ops F k=some (.h v):=by kernel_rfl) (hj:h[j]? = some (rV v xs):=by kernel_rfl):Xy P (ZB ops k) F h [] (.i xs.length):=by
 have:=Z83 (P:=P) (F:=F) j hl hj
 rwa [Yh] at this
theorem Vo (j:Nat) (v:Hd) (xs:List Int) (i:Int) (q:Nat) (h0:0<=i/\i<xs.length:=by omega) (hq:i.toNat=q:=by omega) (hi:A5 P ops F k=some (.h v,i,1):=by kernel_rfl) (hj:h[j]? = some (rV v xs):=by kernel_rfl) :
  Xy P (ZB ops k) F h [] (.val (.pointer (some ⟨TP v.v,q,none⟩))):=by
 have:=Z82 (P:=P) (F:=F) j hi hj h0.1 (by rw [Yh];exact h0.2)
 rwa [hq] at this
theorem Tj (j:Nat) (v:Hd) (xs:List Int) (q:Nat) (y:Int) (hy:xs[q]? = some y) (hl:GK P ops F k=some (.val (.pointer (some ⟨TP v.v,q,none⟩))):=by kernel_rfl) (hj:h[j]? = some (rV v xs):=by kernel_rfl) :
  Xy P (ZB ops k) F h [TP v.v] (.i y):=Z84 (P:=P) (F:=F) j hl hj (Y4 hy)
theorem VI {ks:List Nat} {x:AV} (hs:Xy P (ZB ops k) F h ks x) (H:SI P n ops B (k+1) (F.put (ZB ops k).dst x) h) (hk:YY n ops F k=true:=by kernel_rfl):SI P n ops B k F h:=Cx hk hs H
theorem VT (i:Nat) {ks:List Nat} {x:AV} (hx:Xy P (ZB ops i) F h ks x) (H:YM P n ops B ((i,ks)::T) fuel (done++[i]) (F.put (ZB ops i).dst x) h) (hs:Region.noSelect ops=true:=by kernel_rfl) (hk:YY n ops F i=true:=by kernel_rfl)
  (hf:Region.free .any ops (Wu ops done) i=true:=by kernel_rfl) (hr:(Region.ready .any ops (Wu ops done)).contains i=true:=by kernel_rfl):YM P n ops B T (fuel+1) done F h:=Dq i hs hk hf hr hx H
theorem Ap (j:Nat) (v:Hd) (xs:List Int) (m:Nat) (hle:m<=xs.length:=by omega) (hi:BW P ops F k=some (.h v,(m:Int)):=by kernel_rfl) (hj:h[j]? = some (rV v xs):=by kernel_rfl) :
  Xy P (ZB ops k) F h [] (.h (v.cut m)):=Z85 (P:=P) (F:=F) j hi hj (by rw [Yh];exact hle)
theorem Gm (j:Nat) (v:Hd) (xs:List Int) (q:Nat) (y:Int) (H:SI P n ops B (k+1) F (rV v (xs.set q y)::XC [j] h)) (hlt:q<xs.length:=by omega) (hk:YY n ops F k=true:=by kernel_rfl)
  (hs:storeAt P ops F k=some (TP v.v,q,[.i y]):=by kernel_rfl) (hp:W8 [j] h=some [rV v xs]:=by kernel_rfl):SI P n ops B k F h:=
 Z19 j _ hk hs (V7 hp) (by rw [Yh];exact hlt) (Np _ _ _) H
theorem JT (i j:Nat) (js bs:List Nat) (v:Hd) (xs:List Int) (q:Nat) (y:Int) (H:YM P n ops B (T.filter fun t=>!WA ops i t.1) fuel (done++[i]) F (rV v (xs.set q y)::XC [j] h)) (hlt:q<xs.length:=by omega)
  (hk:YY n ops F i=true:=by kernel_rfl)
  (hs:storeAt P ops F i=some (TP v.v,q,[.i y]):=by kernel_rfl) (hp:W8 [j] h=some [rV v xs]:=by kernel_rfl) (ho:Vz ops i T=bs:=by kernel_rfl)
  (hj:js.map (fun q=>(Wm (XC [j] h))[q]?)=bs.map some:=by kernel_rfl):V2 P n ops B T fuel done F h i:=
 Rf i j js bs _ hk hs (V7 hp) (by rw [Yh];exact hlt) (Np _ _ _) ho hj H
theorem KI (j:Nat) (v:Hd) (xs ys:List Int) (hx:Option Value) (hK:∀v',SI P n ops B (k+1) (F.put (ZB ops k).dst (.h v')) (rV v' (xs++ys)::XC [j] h)) (hbound:xs.length+ys.length<=4294967296:=by simp<;>omega)
  (hk:YY n ops F k=true:=by kernel_rfl) (ha:U1 P ops F k=some (.h v,.sl (Z8 ys) hx,1):=by kernel_rfl) (hp:W8 [j] h=some [rV v xs]:=by kernel_rfl):SI P n ops B k F h:=
 Z17 j _ hk ha (V7 hp) (GG _) (Ml _) (by simpa using hbound) (XW _ _).symm fun v'=>Ex fun g hg=>by subst hg;exact hK g
theorem R0 (i j:Nat) (js bs:List Nat) (v:Hd) (xs ys:List Int) (hx:Option Value) (hK:∀v',YM P n ops B (T.filter fun t=>!WA ops i t.1) fuel (done++[i]) (F.put (ZB ops i).dst (.h v')) (rV v' (xs++ys)::XC [j] h))
  (hbound:xs.length+ys.length<=4294967296:=by simp<;>omega) (hk:YY n ops F i=true:=by kernel_rfl) (ha:U1 P ops F i=some (.h v,.sl (Z8 ys) hx,1):=by kernel_rfl) (hp:W8 [j] h=some [rV v xs]:=by kernel_rfl)
  (ho:Vz ops i T=bs:=by kernel_rfl) (hj:js.map (fun q=>(Wm (XC [j] h))[q]?)=bs.map some:=by kernel_rfl):V2 P n ops B T fuel done F h i:=
 Re i j js bs _ hk ha (V7 hp) (GG _) (Ml _) (by simpa using hbound) (XW _ _).symm ho hj fun v'=>Rk fun g hg=>by subst hg;exact hK g
theorem iVL (xs:List Int) (len:Nat) (hK:∀v,SI P n ops B (k+1) (F.put (ZB ops k).dst (.h v)) (rV v xs::h)) (hk:YY n ops F k=true:=by kernel_rfl) (ha:UQ P ops F k=some (Z8 xs,len,1):=by kernel_rfl)
  (hlen:xs.length=len:=by kernel_rfl):SI P n ops B k F h:=Z13 _ hk ha (by rw [Yh];exact hlen) fun v'=>Ex fun g hg=>by subst hg;exact hK g
def D9 (R:AV->List Res->Prop):Prop:=∀r h',R r h'->Qe h' r/\∀q∈h',C4 q
theorem Cb {x:Value}:D9 fun r h=>r=.val x/\h=[]:=by rintro _ _ ⟨rfl,rfl⟩;exact ⟨.val,by simp⟩
theorem Bj {xs:List Int}:D9 fun r h=>∃v:Hd,r=.h v/\h=[rV v xs]:=by
 rintro _ _ ⟨v,rfl,rfl⟩;exact ⟨.val,by simpa [C4] using Oh xs⟩
theorem iCL (is:List Nat) {f:FuncId} {as1 xs:List AV} {h1:List Res} (bs:List Res) {R:AV->List Res->Prop} (H:Zi P f xs h1 R) (hcl:D9 R) (hargs:UG bs as1 xs)
  (hb:∀r∈bs,∃v ls,r=.vec v ls/\∀y∈ls,∃u,y=.val u)
  (hK:∀r h',R r h'->SI P n ops B (k+1) (F.put (ZB ops k).dst r) (h'++(bs++XC is h))) (hk:YY n ops F k=true:=by kernel_rfl) (hc:QE P ops F k=some (f,as1):=by kernel_rfl)
  (hp:W8 is h=some (h1++bs):=by kernel_rfl):SI P n ops B k F h:=
 Z0z f as1 xs is bs hk hc (V7 hp) H hargs hb hcl fun r h' hr=>by rw [TA];exact hK r h' hr
theorem Kz (i:Nat) (is js ks:List Nat) {f:FuncId} {as1 xs:List AV} {h1:List Res} (bs:List Res) {R:AV->List Res->Prop} (H:Zi P f xs h1 R) (hcl:D9 R) (hargs:UG bs as1 xs)
  (hb:∀r∈bs,∃v ls,r=.vec v ls/\∀y∈ls,∃u,y=.val u)
  (hK:∀r h',R r h'->YM P n ops B (T.filter fun t=>!WA ops i t.1) fuel (done++[i]) (F.put (ZB ops i).dst r) (h'++(bs++XC is h)))
  (hk:YY n ops F i=true:=by kernel_rfl) (hc:QE P ops F i=some (f,as1):=by kernel_rfl)
  (hp:W8 is h=some (h1++bs):=by kernel_rfl) (ho:Vz ops i T=ks:=by kernel_rfl) (hj:js.map (fun j=>(Wm (XC is h))[j]?)=ks.map some:=by kernel_rfl):V2 P n ops B T fuel done F h i:=
 R7 i f as1 xs is js ks bs hk hc (V7 hp) ho hj H hargs hb hcl fun r h' hr=>by rw [TA];exact hK r h' hr
theorem gN {bs:List Res}:UG bs [] []:=.nil
theorem Z3e {bs:List Res} {r:Res} (i:Nat) (h:bs[i]? = some r):r∈bs:=Y7 h
theorem gS {bs:List Res} {x:AV} {as1 xs:List AV} (t:UG bs as1 xs):UG bs (x::as1) (x::xs):=.same t
theorem gL {bs:List Res} {v:Hd} {ys:List Int} {as1 xs:List AV} (i:Nat) (t:UG bs as1 xs) (h:bs[i]? = some (rV v ys):=by kernel_rfl):UG bs (.h v::as1) (Z0 ys::xs):=.lent (Z3e i h) t
theorem Z8d (j:Nat) (b':Nat) (ls ls':List AV) (hle:Vu ls ls') (hp:W8 [j] h=some [.obj b' ls]:=by kernel_rfl):T4 h (.obj b' ls'::XC [j] h):=by
 intro w G hh
 have hp':=VN (V7 hp)
 have hh':=hh.perm hp'
 have hpw:=WP.1 hh'.apart
 refine ⟨G,⟨fun r hr=>?_,WP.2 ⟨fun r hr=>hpw.1 r hr,hpw.2⟩,fun r hr=>?_,hh'.lt⟩,?_⟩
 ·rcases YQ.1 hr with rfl|hr
  ·obtain ⟨cs,e,h1,h2⟩:=hh'.ok _ (Xh ..)
   exact ⟨cs,e,h1,Vu.cs hle h2⟩
  ·exact hh'.ok r (XG _ hr)
 ·rcases YQ.1 hr with rfl|hr
  ·exact fun b o hf hg=>hh'.prot (.obj b' ls) (Xh ..) b o hf hg
  ·exact hh'.prot r (XG _ hr)
 ·refine ⟨rfl,rfl,rfl,X6 _,fun _ _ h=>h,fun _ _=>.inl rfl,fun _ _ _ h=>.inl h,?_⟩
  rintro b2 o _ ⟨r,hr,hf⟩
  rw [AQ hp']
  rcases YQ.1 hr with rfl|hr
  ·exact ⟨_,Xh ..,hf⟩
  ·exact ⟨r,XG _ hr,hf⟩
theorem Zg.hd {es:List AV} {v:Hd}:Zg (.sl es (some v.v)) (.h v):=by
 intro w G u h
 cases h with
 | nil hh=>rw [<-hh _ rfl];exact .val
 | sl hh _ _=>rw [<-hh _ rfl];exact .val
theorem B9 (j m:Nat) (v:Hd) (xs:List Int) (hle:m<=xs.length:=by omega) (hp:W8 [j] h=some [rV v xs]:=by kernel_rfl):T4 h (rV (v.cut m) (xs.take m)::XC [j] h):=by
 have:=Z8i (h:=h) j m (V7 hp) (by rw [Yh];exact hle)
 rwa [KD] at this
theorem Ao:T4 h (rV hN []::h):=Z8h
theorem Fv {h':List Res} (ht:T4 h h') (H:YM P n ops B T fuel done F h'):YM P n ops B T fuel done F h:=by
 intro Q w G a SL hF hh hQ hcl hcov hk
 obtain ⟨G',h1,h2⟩:=ht w G hh
 exact H Q w G' a SL (hF.mono (h2.agree hh)) h1 hQ hcl (fun p hp=>let ⟨t,ht,e,f⟩:=hcov p hp;⟨t,ht,e,fun w' hw hb=>f w' (fun b o hg=>hw b o (h2.sub b o hg)) hb⟩)
  fun F2 h2' G2 a2 w2 b1 b2 b3 b4=>hk F2 h2' G2 a2 w2 b1 b2 b3 (h2.trans b4)
end
end Go.Abs
namespace Go.Abs
theorem fw {F F':Fr} {t u:Nat} {x y:AV} (hr:F.Le F') (hx:F.get t=x:=by kernel_rfl) (hy:F.get u=y:=by kernel_rfl):F.Le ((t,x)::(u,y)::F'):=fr (fr hr hy) hx
theorem fq {F F':Fr} {t u v w:Nat} {x y z q:AV} (hr:F.Le F') (hx:F.get t=x:=by kernel_rfl) (hy:F.get u=y:=by kernel_rfl) (hz:F.get v=z:=by kernel_rfl) (hq:F.get w=q:=by kernel_rfl):F.Le ((t,x)::(u,y)::(v,z)::(w,q)::F'):=fw (fw hr hz hq) hx hy
section
variable {P:Program} {n:Nat} {ops:Array Oper} {B:Fr->List Res->Prop} {k:Nat} {F:Fr} {h:List Res}
theorem iw {a b:Nat} (e:a=b) (H:SI P n ops B (k+1) (F.put (ZB ops k).dst (.i b)) h) (hk:YY n ops F k=true:=by kernel_rfl) (he:Tq P (ZB ops k) F h 0=some (.i a,[]):=by kernel_rfl):SI P n ops B k F h:=io (.i b) (.i a) (li (by rw [e])) H hk he
theorem dw (i:Nat) {T:List (Nat×List Nat)} {fuel:Nat} {done:List Nat} {a b:Nat} (e:a=b) (H:YM P n ops B ((i,[])::T) fuel (done++[i]) (F.put (ZB ops i).dst (.i b)) h) (he:Tq P (ZB ops i) F h 0=some (.i a,[]):=by kernel_rfl) (hs:Region.noSelect ops=true:=by kernel_rfl) (hk:YY n ops F i=true:=by kernel_rfl)
 (hf:Region.free .any ops (Wu ops done) i=true:=by kernel_rfl) (hr:(Region.ready .any ops (Wu ops done)).contains i=true:=by kernel_rfl):YM P n ops B T (fuel+1) done F h:=dn i (.i b) (.i a) (li (by rw [e])) H he hs hk hf hr
end
end Go.Abs
namespace Go.Abs
section
variable {P:Program} {n:Nat} {ops:Array Oper} {B:Fr->List Res->Prop} {k:Nat} {F:Fr} {h:List Res}
variable {T:List (Nat × List Nat)} {fuel:Nat} {done:List Nat} {c:Code} {A:Vc}
theorem Z1 (m t:Nat) (x:AV) (H:SI P n ops B (k+m) ((t,x)::F) h) (he:KO P n ops h k m F [] ((t,x)::F)=some (((t,x)::F).map (·.2),[],[]):=by kernel_rfl):SI P n ops B k F h:=Z5 m (.n t x .r) H he
theorem Yq (m t:Nat) (x:AV) (u:Nat) (y:AV) (H:SI P n ops B (k+m) ((t,x)::(u,y)::F) h) (he:KO P n ops h k m F [] ((t,x)::(u,y)::F)=some (((t,x)::(u,y)::F).map (·.2),[],[]):=by kernel_rfl):SI P n ops B k F h:=Z5 m (.n t x (.n u y .r)) H he
theorem Yl (m t:Nat) (x:AV) (hints bs:List Nat) (H:SI P n ops B (k+m) ((t,x)::F) h) (he:KO P n ops h k m F hints ((t,x)::F)=some (((t,x)::F).map (·.2),bs,bs):=by kernel_rfl):SI P n ops B k F h:=Y2 m (.n t x .r) hints bs H he
theorem ZY (m t:Nat) (x:AV) (u:Nat) (y:AV) (hints bs:List Nat) (H:SI P n ops B (k+m) ((t,x)::(u,y)::F) h) (he:KO P n ops h k m F hints ((t,x)::(u,y)::F)=some (((t,x)::(u,y)::F).map (·.2),bs,bs):=by kernel_rfl):SI P n ops B k F h:=Y2 m (.n t x (.n u y .r)) hints bs H he
theorem Y0 (fuel m:Nat) (is:List Nat) {F':Fr} (q:Keep F F') (H:YM P n ops B ((Kh P n ops h is done F []).reverse++T) fuel (done++is) F' h) (hf:m=fuel+is.length:=by kernel_rfl)
  (he:Kj P n ops h is done F [] F'=some (F'.map (·.2),[],[]):=by kernel_rfl) (hs:Region.noSelect ops=true:=by kernel_rfl):YM P n ops B T m done F h:=J7 is F' [] [] hs he hf H
theorem Y6 (fuel m:Nat) (is:List Nat) {F':Fr} (q:Keep F F') (hints bs:List Nat) (H:YM P n ops B ((Kh P n ops h is done F hints).reverse++T) fuel (done++is) F' h) (hf:m=fuel+is.length:=by kernel_rfl)
  (he:Kj P n ops h is done F hints F'=some (F'.map (·.2),bs,bs):=by kernel_rfl) (hs:Region.noSelect ops=true:=by kernel_rfl):YM P n ops B T m done F h:=J7 is F' hints bs hs he hf H
theorem ZZ (fuel m:Nat) (is:List Nat) (t:Nat) (x:AV) (H:YM P n ops B ((Kh P n ops h is done F []).reverse++T) fuel (done++is) ((t,x)::F) h) (hf:m=fuel+is.length:=by kernel_rfl)
  (he:Kj P n ops h is done F [] ((t,x)::F)=some (((t,x)::F).map (·.2),[],[]):=by kernel_rfl) (hs:Region.noSelect ops=true:=by kernel_rfl):YM P n ops B T m done F h:=J7 is _ [] [] hs he hf H
theorem Xa (fuel m:Nat) (is:List Nat) (F':Fr) (H:YM P n ops B ((Kh P n ops h is done F []).reverse++T) fuel (done++is) F' h) (hf:m=fuel+is.length:=by kernel_rfl)
  (he:Kj P n ops h is done F [] F'=some (F'.map (·.2),[],[]):=by kernel_rfl) (hs:Region.noSelect ops=true:=by kernel_rfl):YM P n ops B T m done F h:=J7 is F' [] [] hs he hf H
theorem W2 (fuel m:Nat) (is:List Nat) (F':Fr) (hints bs:List Nat) (H:YM P n ops B ((Kh P n ops h is done F hints).reverse++T) fuel (done++is) F' h) (hf:m=fuel+is.length:=by kernel_rfl)
  (he:Kj P n ops h is done F hints F'=some (F'.map (·.2),bs,bs):=by kernel_rfl) (hs:Region.noSelect ops=true:=by kernel_rfl):YM P n ops B T m done F h:=J7 is F' hints bs hs he hf H
theorem Zm (hv:Option Value) (j:Int) (sz:Nat) {es:List AV} {y:AV} (hget:es[j.toNat]? = some y) (hi:A5 P ops F k=some (.sl es hv,j,sz):=by kernel_rfl) (h0:0<=j:=by omega) (hy:y.leaves.length=sz:=by rfl) :
  Xy P (ZB ops k) F h [] (.rp y.leaves):=Ak hi h0 hget hy
def EI (P:Program) (ops:Array Oper) (F:Fr) (h:List Res) (j k:Nat):Option (Nat × Nat × List AV):=
 match storeAt P ops F k,W8 [j] h with
 | some (b,o,xs),some [.obj b' ls]=>match Nat.ble (o+xs.length) ls.length with | true=>some (b,b',ls.take o++xs++ls.drop (o+xs.length)) | false=>none
 | _,_=>none
theorem O6 {j k b:Nat} {l:List AV} (hs:EI P ops F h j k=some (b,b,l)):∃o xs ls,storeAt P ops F k=some (b,o,xs)/\W8 [j] h=some [.obj b ls]/\Nat.ble (o+xs.length) ls.length=true/\ls.take o++xs++ls.drop (o+xs.length)=l:=by
 unfold EI at hs
 split at hs
 ·rename_i b1 o xs b2 ls h1 h2
  split at hs
  ·rename_i h3
   cases hs
   exact ⟨o,xs,ls,h1,h2,h3,rfl⟩
  ·cases hs
 ·cases hs
theorem ZF (j b:Nat) (ls':List AV) (H:SI P n ops B (k+1) F (.obj b ls'::XC [j] h)) (hk:YY n ops F k=true:=by kernel_rfl) (hs:EI P ops F h j k=some (b,b,ls'):=by kernel_rfl):SI P n ops B k F h:=
 let ⟨_,_,_,h1,h2,h3,h4⟩:=O6 hs
 iS j b _ _ _ ls' H hk h1 h2 h3 h4
theorem YL (i j:Nat) (js bs:List Nat) (b:Nat) (ls':List AV) (H:YM P n ops B (T.filter fun t=>!WA ops i t.1) fuel (done++[i]) F (.obj b ls'::XC [j] h))
  (hk:YY n ops F i=true:=by kernel_rfl) (hs:EI P ops F h j i=some (b,b,ls'):=by kernel_rfl) (ho:Vz ops i T=bs:=by kernel_rfl)
  (hj:js.map (fun q=>(Wm (XC [j] h))[q]?)=bs.map some:=by kernel_rfl):V2 P n ops B T fuel done F h i:=
 let ⟨_,_,_,h1,h2,h3,h4⟩:=O6 hs
 dS i j js bs b _ _ _ ls' H hk h1 h2 h3 h4 ho hj
theorem ZL (q:Nat) (H:SI P n ops B (k+1) (F.put (ZB ops k).dst (.i (q+1:Nat))) h) (hb:-9223372036854775808<=((q+1:Nat):Int)/\((q+1:Nat):Int)<=9223372036854775807:=by omega)
  (hk:YY n ops F k=true:=by kernel_rfl) (ha:Kv ops F k=some ((q:Int)+1):=by kernel_rfl):SI P n ops B k F h:=ia ((q+1:Nat):Int) ((q:Int)+1) H hb om hk ha
theorem ZA (is:List Nat) {f:FuncId} {xs:List AV} {h1 h2:List Res} {r0:AV} (H:Zi P f xs h1 (fun r h=>r=r0/\h=h2)) (hK:SI P n ops B (k+1) (F.put (ZB ops k).dst r0) (h2++XC is h))
  (hk:YY n ops F k=true:=by kernel_rfl) (hc:QE P ops F k=some (f,xs):=by kernel_rfl) (hp:W8 is h=some h1:=by kernel_rfl):SI P n ops B k F h:=
 ic is H (fun r h' hr=>by obtain ⟨rfl,rfl⟩:=hr;exact hK) hk hc hp
theorem Yv (i:Nat) (is js bs:List Nat) {f:FuncId} {xs:List AV} {h1 h2:List Res} {r0:AV} (H:Zi P f xs h1 (fun r h=>r=r0/\h=h2))
  (hK:YM P n ops B (T.filter fun t=>!WA ops i t.1) fuel (done++[i]) (F.put (ZB ops i).dst r0) (h2++XC is h))
  (hk:YY n ops F i=true:=by kernel_rfl) (hc:QE P ops F i=some (f,xs):=by kernel_rfl)
  (hp:W8 is h=some h1:=by kernel_rfl) (ho:Vz ops i T=bs:=by kernel_rfl) (hj:js.map (fun j=>(Wm (XC is h))[j]?)=bs.map some:=by kernel_rfl):V2 P n ops B T fuel done F h i:=
 dc i is js bs H (fun r h' hr=>by obtain ⟨rfl,rfl⟩:=hr;exact hK) hk hc hp ho hj
theorem ZM (p:Prop) [Decidable p] (h1:p->X1 P n (VF c) A F h) (h2:¬p->X1 P n (QD c) A F h) (hk:XT c=4:=by kernel_rfl) (hc:F.ev (AG c)=.val (.bool (decide p)):=by kernel_rfl):X1 P n c A F h:=
 ac (decide p) decide_eq_true_iff h1 h2 hk hc
end
theorem ZQ (k:Nat) {F F':Fr} {t:Nat} {y:Int} (hr:F.Le F') (hx:F.get t=.i (k+1:Nat):=by kernel_rfl) (e:((k+1:Nat):Int)=y:=by exact ob):F.Le ((t,.i y)::F'):=fc (li e) hr hx
theorem Ya {F F':Fr} {t:Nat} {y:Int} (hr:F.Le F') (hx:F.get t=.i 0:=by kernel_rfl) (e:0=y:=by exact ob):F.Le ((t,.i y)::F'):=fc (li e) hr hx
theorem Zu (x:Bool) {p:Prop} (q:p) {F F':Fr} {t:Nat} {y:Bool} (hr:F.Le F') (hx:F.get t=.b x:=by kernel_rfl) (e:p->x=y:=by intro q;simp only [q];rfl):F.Le ((t,.b y)::F'):=fc (lb (e q)) hr hx
theorem ZT {F F':Fr} {h h1 h':List Res} (m:Nat) (hF:F.Le F') (e:h1=h':=by exact rfl) (hp:W8 (List.replicate m 0) h=some h1:=by kernel_rfl):TD F h F' h':=wk (List.replicate m 0) hF e hp
theorem ZW {α β:Type} {p q:α->β->Prop} {a:α} {b:β} (x:p a b) (y:q a b):∃a b,p a b/\q a b:=⟨a,b,x,y⟩
theorem ZO {α β:Type} {q:α->β->Prop} {m' m:Nat} {r:Nat->α->β->Prop} {a:α} {b:β} (x:r m' a b) (y:q a b) (e:m'<m:=by exact ob):∃m' a b,m'<m/\r m' a b/\q a b:=⟨m',a,b,e,x,y⟩
theorem ZK (m:Nat) {P:Program} {f:FuncId} {fn:Func} {xs:List AV} {h:List Res} {R:AV->List Res->Prop} (hf:P.funcs[f]? = some fn) (ha:X1 P m (Dm fn) (Bh P fn R) (AE 0 xs) h) (hb:fn.body.isSome=true:=by kernel_rfl) (hn:fn.ntmps=m:=by kernel_rfl)
  (hle:Nat.ble xs.length m=true:=by kernel_rfl):Zi P f xs h R:=enter hf hb hn hle ha
end Go.Abs
end
namespace Go.Abs
section
variable {P:Program} {n:Nat} {c:Code} {A:Vc} {F:Fr} {h h2:List Res} {ops:Array Oper} {B:Fr->List Res->Prop} {k:Nat}
variable {T:List (Nat × List Nat)} {fuel:Nat} {done:List Nat}
def GN (P:Program) (ops:Array Oper) (F:Fr) (k:Nat):Option (List AV):=
 match (ZB ops k).op with
 | .binOp .eql xt x y _=>match F.ev x,F.ev y,P.underlying xt with
  | .sl es _,.sl [] (some (.slice none 0 0)),some (.slice _)=>some es
  | _,_,_=>none
 | _=>none
theorem Z5n {t e:TypeId} (ht:P.underlying t=some (.slice e)) (a:Option Addr) (l c':Nat) (w:World):(Op.equal t (.slice a l c') (.slice none 0 0)).run P w=.ok a.isNone w:=by
 unfold Op.equal
 rw [show Op.maxDepth=(Op.maxDepth-1)+1 from rfl]
 unfold Op.equalIn
 cases a with
 | none=>simp [Vs ht]
 | some a=>simp [Vs ht]
theorem Z3y {K:Fr->List Res->Prop} {es:List AV} (hd:WW n (ZB ops k)=true) (ha:GN P ops F k=some es)
  (h1:es=[]->K (F.put (ZB ops k).dst (.b true)) h) (h0:K (F.put (ZB ops k).dst (.b false)) h):We P n (ZB ops k) F h K:=by
 unfold GN at ha
 generalize hoo:ZB ops k=o at ha hd h1 h0
 obtain ⟨dst,op,type,pos,after,guard⟩:=o
 cases op<;>simp only at ha<;>try (cases ha)
 rename_i bop xt x y yt
 cases bop<;>simp only at ha<;>try (cases ha)
 split at ha
 case h_2=>cases ha
 rename_i es' hv t hx hy ht
 cases ha
 intro Q w G a hF hh
 have vx:=hF.ev x
 have vy:=hF.ev y
 rw [hx] at vx
 rw [hy] at vy
 have vy:a.eval y=.slice none 0 0:=by
  cases hq:a.eval y<;>rw [hq] at vy<;>cases vy<;>(rename_i hh2;exact (hh2 _ rfl).symm)
 cases vq:a.eval x with
 | slice ad l cc=>
  have hrun:(execOp a.eval { dst:=dst,op:=.binOp .eql xt x y yt,type:=type,pos:=pos,after:=after,guard:=guard }).run P w=.ok (.value (.bool ad.isNone)) w:=by
   simp only [execOp,vq,vy]
   have he:=Z5n (P:=P) ht ad l cc w
   exact V0 (by simp [eqGuard,binOp,he])
  unfold Oper.wp
  rw [hrun]
  rw [vq] at vx
  cases hn:ad.isNone with
  | false=>exact ⟨_,_,G,h0,hF.put (U4 hd) .val,hh,YU.refl _ _ _⟩
  | true=>
   have:es=[]:=by
    cases vx with
    | nil=>rfl
    | sl=>cases hn
   exact ⟨_,_,G,h1 this,hF.put (U4 hd) .val,hh,YU.refl _ _ _⟩
 | _=>rw [vq] at vx;cases vx
theorem iN (es:List AV) (h1:es=[]->SI P n ops B (k+1) (F.put (ZB ops k).dst (.b true)) h) (h0:SI P n ops B (k+1) (F.put (ZB ops k).dst (.b false)) h)
  (hk:YY n ops F k=true:=by kernel_rfl) (ha:GN P ops F k=some es:=by kernel_rfl):SI P n ops B k F h:=
 UO hk (Z3y (Ve hk).2.1 ha h1 h0)
def Ig (P:Program) (ops:Array Oper) (F:Fr) (k:Nat):Option AV:=
 match (ZB ops k).op with
 | .call c=>match c.callee,c.args.toList,c.argTypes.toList with
  | .builtin .cap,[x],[t]=>match P.underlying t with
   | some (.slice _)=>some (F.ev x)
   | _=>none
  | _,_,_=>none
 | _=>none
theorem NW (g:Hd) (hl:Ig P ops F k=some (.h g):=by kernel_rfl):Xy P (ZB ops k) F h [] (.i g.c):=by
 unfold Ig at hl
 generalize hoo:ZB ops k=o at hl
 obtain ⟨dst,op,type,pos,after,guard⟩:=o
 cases op<;>simp only at hl<;>try (cases hl)
 rename_i c
 obtain ⟨callee,args,tys⟩:=c
 simp only at hl
 split at hl
 case h_2=>cases hl
 rename_i x t hargs htys
 split at hl
 case h_2=>cases hl
 rename_i e ht
 have e1:args=#[x]:=by rw [<-VJ (xs:=args),hargs]
 have e2:tys=#[t]:=by rw [<-VJ (xs:=tys),htys]
 subst e1;subst e2
 intro n w G a hF hh
 have vx:=hF.ev x
 simp only [XV] at hl
 rw [hl] at vx
 have vx:=vx.val_inv
 refine ⟨_,.val,fun w' _ _=>?_⟩
 simp only [execOp,resolve,invoke,builtin,Sem.run_bind,Sem.run_pure,Result.andThen_ok,Bc,Un,Bb,vx,Builtin.cap_]
 simp [Vs ht,goInt]
theorem Dc (t j:Nat) {v:Hd} {xs:List Int} (H:X1 P n c A ((t,Z7 xs v.v)::F) (.tail v.v 1::XC [j] h)) (hF':F.get t=.h v:=by kernel_rfl) (hp:W8 [j] h=some [rV v xs]:=by kernel_rfl):X1 P n c A F h:=by
 intro w G a hF hh
 have hp':=VN (V7 hp)
 obtain ⟨G',h1,h2',h3⟩:=Z8v (hh.perm hp') (GG xs)
 have e:=h2'.perm hp'.symm (Tz _)
 have hF2:=hF.mono (e.agree hh)
 have hv:=hF2.get t
 rw [hF'] at hv
 have hv:=hv.val_inv
 refine wp_mono (H w G' a ⟨hF2.defers,hF2.size,fun s=>?_⟩ h1) fun e' a' w' hc=>hc.trans e
 show RV w G' (match Nat.beq t s with|true=>_|false=>Fr.get F s) _
 cases hb:Nat.beq t s with
 | true=>
  have:=U0 hb
  subst this
  rw [hv]
  exact h3
 | false=>exact hF2.get s
def Fg (P:Program) (ops:Array Oper) (F:Fr) (k:Nat):Option Int:=
 match (ZB ops k).op with
 | .call c=>match c.callee,c.args.toList,c.argTypes.toList with
  | .builtin .append,[s,x],[t,t']=>match F.ev s,F.ev x,P.underlying t,P.underlying t' with
   | .val (.slice none 0 0),.val (.int .i64 m),some (.slice e),some (.int _)=>match P.info? e with
    | some i=>match i.zero with
     | some (.int .i64 0)=>match Nat.beq i.size 1&&Nat.ble i.bytes 32768 with
      | true=>some m
      | false=>none
     | _=>none
    | none=>none
   | _,_,_,_=>none
  | _,_,_=>none
 | _=>none
theorem Z3r {K:Fr->List Res->Prop} {m:Nat} (hd:WW n (ZB ops k)=true) (ha:Fg P ops F k=some (m:Int)) (h0:0<m) (hb:m<=4294967296)
  (hK:∀v,K (F.put (ZB ops k).dst (.val v)) (.vec v (Z8 (List.replicate m 0))::h)):We P n (ZB ops k) F h K:=by
 unfold Fg at ha
 generalize hoo:ZB ops k=o at ha hd hK
 obtain ⟨dst,op,type,pos,after,guard⟩:=o
 cases op<;>simp only at ha<;>try (cases ha)
 rename_i c
 obtain ⟨callee,args,tys⟩:=c
 simp only at ha
 split at ha
 case h_2=>cases ha
 rename_i s x t t' hargs htys
 split at ha
 case h_2=>cases ha
 rename_i mm e kn hs hx ht ht'
 split at ha
 case h_2=>cases ha
 rename_i i hi
 split at ha
 case h_2=>cases ha
 rename_i hz
 split at ha
 case h_2=>cases ha
 rename_i hbb
 simp only [XL] at hbb
 have Xq:=U0 hbb.1
 have hby:=WF hbb.2
 simp only [XV] at ha
 subst ha
 have e1:args=#[s,x]:=by rw [<-VJ (xs:=args),hargs]
 have e2:tys=#[t,t']:=by rw [<-VJ (xs:=tys),htys]
 subst e1;subst e2
 intro Q w G a hF hh
 have v1:=hF.ev s
 have v2:=hF.ev x
 rw [hs] at v1
 rw [hx] at v2
 have v1:=v1.val_inv
 have v2:=v2.val_inv
 have hbytes:m*i.bytes<=281474976710656:=by
  have:=Nat.mul_le_mul hb hby
  omega
 have hr:=Lib.run_append_nil_zeros (P:=P) w t t' type e i _ .i64 kn ht ht' hi hz m h0 om om hbytes
 have hrun:(execOp a.eval { dst:=dst,op:=.call { callee:=.builtin .append,args:=#[s,x],argTypes:=#[t,t'] },type:=type,pos:=pos,after:=after,guard:=guard }).run P w =
   .ok (.value (.slice (some ⟨w.heap.size,0,none⟩) m (grownCap w m 0 e))) (w.drew.alloc (.cells (Builtin.zeroCells (Value.cells (.int .i64 0)) m++Builtin.zeroCells (Value.cells (.int .i64 0)) (grownCap w m 0 e-m)) e)):=by
  simp only [execOp,resolve,invoke,builtin,Sem.run_bind,Sem.run_pure,Result.andThen_ok,Bc,Un,Bb,v1,v2,hr]
 unfold Oper.wp
 rw [hrun]
 have X2:=grownCap_ge w m 0 e
 have hzc:∀q,(Builtin.zeroCells (Value.cells (.int .i64 0)) q).toList=List.replicate q (.int .i64 0):=fun q=>by
  apply List.ext_getElem
  ·simp [Builtin.zeroCells,Value.cells]
  ·intro i h1 h2
   simp [Builtin.zeroCells,Value.cells,Nat.mod_one]
 have hl:(Z8 (List.replicate m 0)).length=m:=by simp
 obtain ⟨j1,j2⟩:=hh.drew.alloc_vec (Builtin.zeroCells (Value.cells (.int .i64 0)) m++Builtin.zeroCells (Value.cells (.int .i64 0)) (grownCap w m 0 e-m)) e
  (ls:=Z8 (List.replicate m 0)) (cap:=grownCap w m 0 e) (by rw [hl];exact X2) (by
   rw [<-Qv,BZ,hzc,hzc];simp;omega) (by
   rw [hl,BZ,hzc,hzc]
   have:(List.replicate m (Value.int .i64 0)++List.replicate (grownCap w m 0 e-m) (Value.int .i64 0)).take m=List.replicate m (Value.int .i64 0):=by
    rw [List.take_append_of_le_length (by simp),Vg (by simp)]
   rw [this,Z8,List.map_replicate]
   exact Ej .val m)
 rw [hl] at j1 j2
 have j3:=(YU.drew w G h).trans j2
 exact ⟨_,_,G,hK _,(hF.mono (j3.agree hh)).put (U4 hd) .val,j1,j3⟩
theorem iZ (m:Nat) (hK:∀v,SI P n ops B (k+1) (F.put (ZB ops k).dst (.h v)) (rV v (List.replicate m 0)::h)) (h0:0<m:=by omega) (hb:m<=4294967296:=by omega)
  (hk:YY n ops F k=true:=by kernel_rfl) (ha:Fg P ops F k=some (m:Int):=by kernel_rfl):SI P n ops B k F h:=
 UO hk (Z3r (Ve hk).2.1 ha h0 hb fun v=>Ex fun g hg=>by subst hg;exact hK g)
end
theorem ro {b:Nat} {ls ls':List AV} {t t':List Res} (h:ls=ls') (e:t=t'):Res.obj b ls::t=.obj b ls'::t':=h▸e▸rfl
section
variable {P:Program} {n:Nat} {F:Fr} {h:List Res} {ops:Array Oper} {B:Fr->List Res->Prop} {k:Nat}
variable {T:List (Nat × List Nat)} {fuel:Nat} {done:List Nat}
theorem Mr {K:Fr->List Res->Prop} {l c:Nat} {zv zv':AV} (hd:WW n (ZB ops k)=true) (hm:A8 P ops F k=some ((l:Int),(c:Int),zv)) (hlc:l<=c) (hc:c<=4294967296) (hle:Zg zv zv') (hlz:zv'.leaves=[zv'])
  (hK:∀v,K (F.put (ZB ops k).dst (.sl (List.replicate l zv') (some v))) (.tail v 1::h)):We P n (ZB ops k) F h K:=by
 intro Q w G a hF hh
 obtain ⟨e,z,rfl,hr⟩:=Nf hF hm hlc hc
 have hfl:∀m,Zl (List.replicate m zv')=List.replicate m zv':=by
  intro m
  induction m with
  | zero=>rfl
  | succ m ih=>simp only [HG,Zl,JA,hlz,List.singleton_append];rw [show (List.replicate m zv').flatMap AV.leaves=Zl (List.replicate m zv') from rfl,ih]
 unfold Oper.wp
 rw [hr]
 obtain ⟨G',j1,j2,j3⟩:=hh.alloc_row (madeCells #[z] c) e (es:=List.replicate l zv') (k:=1) (cap:=c) (fun x hx=>by rw [(List.mem_replicate.1 hx).2,hlz];rfl) (by simpa using hlc) (by simp [madeCells]) (by
  rw [M6,hfl,Ks,List.take_replicate,List.length_replicate,Vq hlc]
  exact Ej (hle _ _ _ (RV.ofVal z)) l)
 rw [List.length_replicate] at j1 j2 j3
 exact ⟨_,_,G',hK _,(hF.mono (j2.agree hh)).put (U4 hd) j3,j1,j2⟩
theorem Rx (l:Nat):List.replicate l (AV.i 0)=Z8 (List.replicate l 0):=by simp [Z8,List.map_replicate]
theorem Ry (l:Nat):List.replicate l (Z0 [])=W7 (List.replicate l []):=by simp [W7,List.map_replicate]
theorem iM (l c:Nat) (hK:∀v,SI P n ops B (k+1) (F.put (ZB ops k).dst (Z7 (List.replicate l 0) v)) (.tail v 1::h)) (hlc:l<=c:=by omega) (hc:c<=4294967296:=by omega) (hk:YY n ops F k=true:=by kernel_rfl)
  (hm:A8 P ops F k=some ((l:Int),(c:Int),.i 0):=by kernel_rfl):SI P n ops B k F h:=
 UO hk (Mr (Ve hk).2.1 hm hlc hc (Zg.refl _) rfl fun v=>by rw [Rx];exact hK v)
theorem PZ (i:Nat) (js bs:List Nat) (l c:Nat) (hK:∀v,YM P n ops B (T.filter fun t=>!WA ops i t.1) fuel (done++[i]) (F.put (ZB ops i).dst (T2 (List.replicate l []) v)) (.tail v 1::h)) (hlc:l<=c:=by omega) (hc:c<=4294967296:=by omega)
  (hk:YY n ops F i=true:=by kernel_rfl) (hm:A8 P ops F i=some ((l:Int),(c:Int),.sl [] (some (.slice none 0 0))):=by kernel_rfl) (ho:Vz ops i T=bs:=by kernel_rfl) (hj:js.map (fun j=>(Wm h)[j]?)=bs.map some:=by kernel_rfl):V2 P n ops B T fuel done F h i:=
 Ql (h1:=[]) (h2:=h) [] js bs hk rfl ho hj (Mr (Ve hk).2.1 hm hlc hc (Zg.forget _ _) rfl fun v=>by rw [show AV.sl [] none=Z0 [] from rfl,Ry];exact hK v)
end
section
variable {P:Program} {n:Nat} {F:Fr} {h:List Res} {ops:Array Oper} {B:Fr->List Res->Prop} {k:Nat}
variable {T:List (Nat × List Nat)} {fuel:Nat} {done:List Nat}
theorem dK {c:Code} {A:Vc} (K:Fr->List Res->Prop) (H:YM P n ops (fun F h=>∃F' h',K F' h'/\TD F h F' h') T fuel done F h) (hB:∀F' h',K F' h'->X1 P n c A F' h') :
  YM P n ops (fun F h=>X1 P n c A F h) T fuel done F h:=by
 intro Q w G a SL hF hh hQ hcl hcov hk
 exact H Q w G a SL hF hh hQ hcl hcov fun F2 h2 G2 a2 w2 b1 b2 b3 b4=>let ⟨_,_,k1,k2⟩:=b1;hk F2 h2 G2 a2 w2 (AC k2 (hB _ _ k1)) b2 b3 b4
theorem Vj (i j:Nat) (Hi:V2 P n ops B T fuel done F h i) (Hj:V2 P n ops B T fuel done F h j) (hr:Region.ready .any ops (Wu ops done)=[i,j]:=by kernel_rfl):YM P n ops B T (fuel+1) done F h:=
 Is hr rfl fun q hq=>by
  rcases YQ.1 hq with rfl|hq
  ·exact Hi
  ·rw [W3.1 hq];exact Hj
def Aq (s:Int):Int:=IntKind.i64.wrap s
theorem Z86 {s:Int} (ha:Kv ops F k=some s):Xy P (ZB ops k) F h [] (.val (.int .i64 (Aq s))):=by
 unfold Kv at ha
 generalize hoo:ZB ops k=o at ha
 obtain ⟨dst,op,type,pos,after,guard⟩:=o
 cases op<;>simp only at ha<;>try (cases ha)
 rename_i bop xt x y yt
 split at ha
 ·rename_i a b h1 h2
  have key:∀v,Ci bop .i64 a b=some (.int .i64 (IntKind.i64.wrap v))->v=s->Xy P { dst:=dst,op:=.binOp bop xt x y yt,type:=type,pos:=pos,after:=after,guard:=guard } F h [] (.val (.int .i64 (Aq s))):=by
   intro v hv hvs
   have he:Tq P { dst:=dst,op:=.binOp bop xt x y yt,type:=type,pos:=pos,after:=after,guard:=guard } F h 0=some (.val (.int .i64 (IntKind.i64.wrap v)),[]):=by
    simp only [Tq,h1,h2,CT,hv]
   have:=Bv he (by simp)
   rw [hvs] at this
   simpa [Aq] using this
  split at ha
  ·cases ha;exact key (a+b) rfl rfl
  ·cases ha;exact key (a-b) rfl rfl
  ·cases ha;exact key (a*b) rfl rfl
  ·cases ha
 ·cases ha
theorem iW (s:Int) (H:SI P n ops B (k+1) (F.put (ZB ops k).dst (.val (.int .i64 (Aq s)))) h) (hk:YY n ops F k=true:=by kernel_rfl) (ha:Kv ops F k=some s:=by kernel_rfl):SI P n ops B k F h:=
 Cx (ks:=[]) hk (Z86 ha) H
end
theorem Kt.mono {w:World} {G G':Yc} {v:Value} {k:Nat} {ls:List AV} (hA:Vt G w w G') (h:Kt w G v k ls):Kt w G' v k ls:=by
 rcases h with ⟨rfl,h0⟩|⟨g,len,cap,cur,el,rfl,h1,h2,h3,h4,h5⟩
 ·exact .inl ⟨rfl,h0⟩
 ·exact .inr ⟨g,len,cap,cur,el,rfl,h1,h2,h3,h4,h5.mono hA⟩
theorem TT.same {w:World} {G G':Yc} {r:Res} (hA:Vt G w w G') (h:TT w G r):TT w G' r:=by
 cases r with
 | obj b ls=>obtain ⟨cs,e,h1,h2⟩:=h;exact ⟨cs,e,h1,h2.mono hA⟩
 | tail v k=>exact h
 | ge s=>exact h
 | vec v ls=>
  rcases h with ⟨rfl,h0⟩|⟨g,cap,cur,el,rfl,h1,h2,h3,h4⟩
  ·exact .inl ⟨rfl,h0⟩
  ·exact .inr ⟨g,cap,cur,el,rfl,h1,h2,h3,h4.mono hA⟩
 | many ts=>exact h
 | own B m=>exact h
 | row v k ls=>exact h.mono hA
theorem YB.alloc_rrow {w:World} {G:Yc} {h:List Res} (hh:YB w G h) (cs:Array Value) (t:TypeId) {ls:List AV} {len cap k:Nat} (hcap:len<=cap) (Xq:cs.size=cap*k) (hl:ls.length=len*k)
  (hls:YP w G ls (cs.toList.take (len*k))) :
  YB (w.alloc (.cells cs t)) G (.row (.slice (some ⟨w.heap.size,0,none⟩) len cap) k ls::h)/\YU w G h (w.alloc (.cells cs t)) G (.row (.slice (some ⟨w.heap.size,0,none⟩) len cap) k ls::h):=by
 have hA:Vt G w (w.alloc (.cells cs t)) G:=⟨fun b j hg=>Ca w _ (hh.lt b j hg),fun _ _ h=>h⟩
 refine hh.alloc (.cells cs t) (h':=[.row (.slice (some ⟨w.heap.size,0,none⟩) len cap) k ls]) (fun _ _ h=>h) (fun _ _ h=>.inl h) ?_ ?_ (C0 _ _) ?_
 ·intro r hr
  rw [W3.1 hr]
  exact .inr ⟨_,len,cap,cs,t,rfl,DN w _,hcap,Xq,hl,hls.mono hA⟩
 ·intro r hr b j hf
  rw [W3.1 hr] at hf
  exact hf
 ·intro r hr b j hf hg
  rw [W3.1 hr] at hf
  have:=hh.lt b j hg
  have:b=w.heap.size:=hf
  omega
theorem YB.rwrite {w:World} {G:Yc} {h2:List Res} {g len cap k:Nat} {ls ls':List AV} (hh:YB w G (.row (.slice (some ⟨g,0,none⟩) len cap) k ls::h2)) {cs cs':Array Value} {e:TypeId}
  (hb:w.heap[g]? = some (.cells cs e (0,0))) (Xq:cs'.size=cs.size) (hle:len<=cap) (hcap:cs.size=cap*k) (hl:ls'.length=len*k) (hls:YP w G ls' (cs'.toList.take (len*k))) :
  YB (w.setRow g cs') G (.row (.slice (some ⟨g,0,none⟩) len cap) k ls'::h2) /\
   YU w G (.row (.slice (some ⟨g,0,none⟩) len cap) k ls::h2) (w.setRow g cs') G (.row (.slice (some ⟨g,0,none⟩) len cap) k ls'::h2):=by
 have hmem:Res.row (.slice (some ⟨g,0,none⟩) len cap) k ls∈Res.row (.slice (some ⟨g,0,none⟩) len cap) k ls::h2:=Xh ..
 have hA:Vt G w (w.setRow g cs') G:=⟨fun c j hg=>by
  have hne:c≠g:=fun he=>hh.prot _ hmem c j he hg
  simp [World.cell?,Vn w g c cs' hne],fun _ _ h=>h⟩
 have hpw:=WP.1 hh.apart
 have hother:∀r∈h2,∀c j,r.fp c j->c≠g:=fun r hr c j hf hc=>hpw.1 r hr c j hc hf
 have e1:YU w G [.row (.slice (some ⟨g,0,none⟩) len cap) k ls] (w.setRow g cs') G [.row (.slice (some ⟨g,0,none⟩) len cap) k ls']:=by
  refine ⟨rfl,rfl,rfl,by simp [World.setRow],fun _ _ h=>h,?_,fun _ _ _ h=>.inl h,?_⟩
  ·intro c hc
   by_cases hcb:c=g
   ·subst hcb
    exact .inr ⟨cs,cs',e,(0,0),hb,setRow_heap w c cs cs' e (0,0) hb,Xq,fun j hj=>absurd ⟨_,Xh ..,rfl⟩ hj⟩
   ·exact .inl (Vn w g c cs' hcb)
  ·rintro c j _ ⟨r,hr,hf⟩
   rw [W3.1 hr] at hf
   exact ⟨_,Xh ..,hf⟩
 have e2:YB (w.setRow g cs') G [.row (.slice (some ⟨g,0,none⟩) len cap) k ls']:=by
  refine ⟨fun r hr=>?_,C0 _ _,fun r hr c j hf hg=>?_,fun c j hg=>?_⟩
  ·rw [W3.1 hr]
   exact .inr ⟨g,len,cap,cs',e,rfl,setRow_heap w g cs cs' e (0,0) hb,hle,Xq.trans hcap,hl,hls.mono hA⟩
  ·rw [W3.1 hr] at hf
   exact hh.prot _ hmem c j hf hg
  ·have:=hh.lt c j hg
   simpa [World.setRow] using this
 exact YB.frame (h:=[.row (.slice (some ⟨g,0,none⟩) len cap) k ls]) (k:=h2) hh e1 e2
theorem Z59 {w:World} {G:Yc} {h:List Res} {k:Nat} (hh:YB w G h):YB w G (.row (.slice none 0 0) k []::h)/\YU w G h w G (.row (.slice none 0 0) k []::h):=
 ⟨⟨fun r hr=>by
   rcases YQ.1 hr with rfl|hr
   ·exact .inl ⟨rfl,rfl⟩
   ·exact hh.ok r hr,WP.2 ⟨fun _ _ _ _ hf=>hf.elim,hh.apart⟩,fun r hr b o hf hg=>by
   rcases YQ.1 hr with rfl|hr
   ·exact hf.elim
   ·exact hh.prot r hr b o hf hg,hh.lt⟩,
  ⟨rfl,rfl,rfl,X6 _,fun _ _ h=>h,fun _ _=>.inl rfl,fun _ _ _ h=>.inl h,fun b o _ ⟨r,hr,hf⟩=>by
   rcases YQ.1 hr with rfl|hr
   ·exact hf.elim
   ·exact ⟨r,hr,hf⟩⟩⟩
theorem Kt.form {w:World} {G:Yc} {v:Value} {k:Nat} {ls:List AV} (h:Kt w G v k ls):∃a len cap,v=.slice a len cap/\ls.length=len*k:=by
 rcases h with ⟨rfl,rfl⟩|⟨g,len,cap,cur,e,rfl,_,_,_,h4,_⟩
 ·exact ⟨none,0,0,rfl,by simp⟩
 ·exact ⟨_,len,cap,rfl,h4⟩
theorem BS {w:World} {G:Yc} {v:Value} {k:Nat} {es:List AV} {h2:List Res} (hh:YB w G (.row v k (Zl es)::h2)) (hes:∀y∈es,y.leaves.length=k) (hk:0<k) :
  ∃G',YB w G' (.tail v k::h2)/\YU w G (.row v k (Zl es)::h2) w G' (.tail v k::h2)/\RV w G' (.sl es (some v)) v:=by
 have hpw:=WP.1 hh.apart
 have hfl:=UZ es hes
 rcases hh.ok _ (Xh ..) with ⟨rfl,h0⟩|⟨g,len,cap,cur,e,rfl,h1,h3,h4,h5,h6⟩
 ·have hes0:es=[]:=by
   cases es with
   | nil=>rfl
   | cons y r=>
    have h7:0<(r.length+1)*k:=Nat.mul_pos om hk
    rw [h0,YS] at hfl
    rw [<-hfl] at h7
    simp at h7
  subst hes0
  obtain ⟨k1,k2⟩:=Ht (sz:=k) (hh.sub (Aw _ _))
  refine ⟨G,k1,⟨rfl,rfl,rfl,X6 _,fun _ _ h=>h,fun _ _=>.inl rfl,fun _ _ _ h=>.inl h,?_⟩,.nil (by simp)⟩
  rintro b o _ ⟨r,hr,hf⟩
  rcases YQ.1 hr with rfl|hr
  ·exact hf.elim
  ·exact ⟨r,XG _ hr,hf⟩
 ·have hlen:len=es.length:=EY hk (h5.symm.trans hfl)
  subst hlen
  let G':Yc:=fun b o=>G b o∨(b=g/\o<es.length*k)
  have hA:Vt G w w G':=⟨fun _ _ _=>rfl,fun _ _ h=>.inl h⟩
  have hmem:Res.row (.slice (some ⟨g,0,none⟩) es.length cap) k (Zl es)∈Res.row (.slice (some ⟨g,0,none⟩) es.length cap) k (Zl es)::h2:=Xh ..
  refine ⟨G',⟨fun r hr=>?_,WP.2 ⟨fun r hr b o f1 f2=>hpw.1 r hr b o f1.1 f2,hpw.2⟩,fun r hr b o hf hg=>?_,fun b o hg=>?_⟩,
   ⟨rfl,rfl,rfl,X6 _,fun _ _ h=>.inl h,fun _ _=>.inl rfl,fun b o _ hg=>hg.imp id fun ⟨e1,_⟩=>⟨_,hmem,e1⟩,?_⟩,?_⟩
  ·rcases YQ.1 hr with rfl|hr
   ·exact .inr ⟨g,es.length,cap,cur,e,rfl,h1,h3,h4⟩
   ·exact (hh.ok r (XG _ hr)).same hA
  ·rcases YQ.1 hr with rfl|hr2
   ·obtain ⟨hbg,hf2⟩:=hf
    rcases hg with hg|⟨_,hg⟩
    ·exact hh.prot _ hmem b o hbg hg
    ·omega
   ·rcases hg with hg|⟨hbg,_⟩
    ·exact hh.prot r (XG _ hr2) b o hf hg
    ·exact hpw.1 r hr2 b o hbg hf
  ·rcases hg with hg|⟨rfl,_⟩
   ·exact hh.lt b o hg
   ·exact (Ua.1 h1).1
  ·rintro b o _ ⟨r,hr,hf⟩
   rcases YQ.1 hr with rfl|hr
   ·exact ⟨_,hmem,hf.1⟩
   ·exact ⟨r,XG _ hr,hf⟩
  ·refine .sl (k:=k) (fun x hx=>by cases hx;rfl) h3 (WR.of_flat es hes (Wf.of_cells (h6.mono hA) fun j u hj=>?_))
   have hjl:j<es.length*k:=by
    have:=(XM.1 hj).1
    have h7:=h6.length
    omega
   rw [Qd,Zo hjl] at hj
   refine ⟨?_,.inr ⟨rfl,by omega⟩⟩
   rw [WQ,cell_of_row w g j cur e (0,0) h1]
   simpa using hj
section
variable {P:Program} {n:Nat} {ops:Array Oper} {B:Fr->List Res->Prop} {k:Nat} {F:Fr} {h h2:List Res}
theorem Z8g {k:Nat}:T4 h (.row (.slice none 0 0) k []::h):=fun _ _ hh=>let ⟨a,b⟩:=Z59 hh;⟨_,a,b⟩
theorem Z7x (j:Nat) {v:Value} {kk m:Nat} {ls:List AV} (hl:BI P ops F k=some (.val v)) (hj:h[j]? = some (.row v kk ls)) (hm:ls.length=m*kk) (hk:0<kk):Xy P (ZB ops k) F h [] (.val (.int .i64 m)):=by
 unfold BI at hl
 generalize hoo:ZB ops k=o at hl
 obtain ⟨dst,op,type,pos,after,guard⟩:=o
 cases op<;>simp only at hl<;>try (cases hl)
 rename_i c
 obtain ⟨callee,args,tys⟩:=c
 simp only at hl
 split at hl
 ·rename_i x t hargs htys
  split at hl
  ·rename_i el hu
   simp only [XV] at hl
   intro n w G a hF hh
   have hv:=hF.ev x
   rw [hl] at hv
   have hv:=hv.val_inv
   obtain ⟨ad,len,cap,rfl,hlen⟩:=Kt.form (hh.ok _ (Y7 hj))
   have:len=m:=EY hk (hlen.symm.trans hm)
   subst this
   have e1:args=#[x]:=by rw [<-VJ (xs:=args),hargs]
   have e2:tys=#[t]:=by rw [<-VJ (xs:=tys),htys]
   subst e1;subst e2
   exact ⟨_,.val,fun w' _ _=>by simp [execOp,resolve,invoke,builtin,hv,Builtin.len_,Vs hu,goInt]⟩
  ·cases hl
 ·cases hl
def GM (ops:Array Oper) (F:Fr) (k:Nat):Option (TypeId × AV):=
 match (ZB ops k).op with
 | .load t x=>some (t,F.ev x)
 | _=>none
theorem Z7y (j:Nat) {g len cap kk o:Nat} {ls zs:List AV} {t:TypeId} {y:AV} (hl:GM ops F k=some (t,.val (.pointer (some ⟨g,o,none⟩)))) (hj:h[j]? = some (.row (.slice (some ⟨g,0,none⟩) len cap) kk ls))
  (hz:(ls.drop o).take zs.length=zs) (hy:Jq P t zs=some y):Xy P (ZB ops k) F h [g] y:=by
 unfold GM at hl
 generalize hoo:ZB ops k=q at hl
 obtain ⟨dst,op,type,pos,after,guard⟩:=q
 cases op<;>simp only at hl<;>try (cases hl)
 rename_i t' x
 intro n w G a hF hh
 simp only [XV,Prod.mk.injEq] at hl
 obtain ⟨rfl,hl⟩:=hl
 have hv:=hF.ev x
 rw [hl] at hv
 have hv:=hv.val_inv
 rcases hh.ok _ (Y7 hj) with ⟨h0,_⟩|⟨g',len',cap',cur,e,h0,h1,h2,h3,h4,h5⟩
 ·cases h0
 ·cases h0
  have hc:=(h5.drop o).take zs.length
  rw [hz] at hc
  obtain ⟨v,j1,j2⟩:=Et (P:=P) (b:=g) (o:=o) hy hc
  refine ⟨v,j1,fun w' _ hw=>?_⟩
  have hrow:=hw g (by simp)
  rw [h1] at hrow
  simp only [execOp,hv]
  refine V0 ?_
  simp only [Instr.loadAt,Instr.sureAddr,Sem.run_bind,Sem.run_pure,Result.andThen_ok]
  refine j2 w' fun j u hj=>?_
  rw [cell_of_row w' g (o+j) cur e (0,0) hrow]
  rw [Qd] at hj
  split at hj
  ·rw [HF,Qd] at hj
   split at hj
   ·simpa using hj
   ·cases hj
  ·cases hj
theorem Mu {K:Fr->List Res->Prop} {g len cap kk:Nat} {ls xs:List AV} {i:Nat} (hs:storeAt P ops F k=some (g,i,xs)) (hlt:i+xs.length<=ls.length)
  (hK:K F (.row (.slice (some ⟨g,0,none⟩) len cap) kk (ls.take i++xs++ls.drop (i+xs.length))::h2)):We P n (ZB ops k) F (.row (.slice (some ⟨g,0,none⟩) len cap) kk ls::h2) K:=by
 unfold storeAt at hs
 generalize hoo:ZB ops k=q at hs
 obtain ⟨dst,op,type,pos,after,guard⟩:=q
 cases op<;>simp only at hs<;>try (cases hs)
 rename_i t x z
 split at hs
 ·rename_i b' o' inf hx hi
  split at hs
  ·rename_i hc
   simp only [XL] at hc
   simp only [XV,Prod.mk.injEq] at hs
   obtain ⟨rfl,rfl,hz⟩:=hs
   intro Q w G a hF hh
   have hvx:=hF.ev x
   rw [hx] at hvx
   have hvx:=hvx.val_inv
   have hvy:=hF.ev z
   have hcs:=hvy.cells hc.2.1
   rw [hz] at hcs hc
   have hone:=hcs.one_cells hc.2.2
   have Xq:inf.size=xs.length:=U0 hc.1
   have hlen:(a.eval z).cells.size=xs.length:=by have:=hcs.length;simpa using this
   rcases hh.ok (.row (.slice (some ⟨b',0,none⟩) len cap) kk ls) (Xh ..) with ⟨h0,_⟩|⟨g',len',cap',cur,e,h0,h1,h2',h3,h4,h5⟩
   ·cases h0
   ·cases h0
    have hlc:len*kk<=cap*kk:=TS _ h2'
    have hst:=run_storeCells_at P b' o' e (a.eval z).cells.toList 0 cur w h1 (by simp [hlen];omega) hone
    simp only [Be,Qv] at hst
    have hr:(execOp a.eval { dst:=none,op:=.store t x z,type:=type,pos:=pos,after:=after,guard:=guard }).run P w =
      .ok .skip (w.setRow b' (cur.toList.take o'++(a.eval z).cells.toList++cur.toList.drop (o'+(a.eval z).cells.size)).toArray):=by
     simp only [execOp,hvx]
     simp [Instr.storeAt,Instr.sureAddr,storeVar,TL hi,hlen,Xq,hst]
    unfold Oper.wp
    rw [hr]
    have hcl:(a.eval z).cells.toList.length=xs.length:=by simpa using hlen
    obtain ⟨j1,j2⟩:=hh.rwrite (ls':=ls.take o'++xs++ls.drop (o'+xs.length)) (cs':=(cur.toList.take o'++(a.eval z).cells.toList++cur.toList.drop (o'+(a.eval z).cells.size)).toArray) h1
     (by simp [hlen];omega) h2' h3 (by simp;omega) (by
      rw [C2,hlen]
      have e1:(cur.toList.take o'++(a.eval z).cells.toList++cur.toList.drop (o'+xs.length)).take (len*kk) =
        (cur.toList.take (len*kk)).take o'++(a.eval z).cells.toList++(cur.toList.take (len*kk)).drop (o'+xs.length):=by
       have q1:(cur.toList.take o'++(a.eval z).cells.toList).length=o'+xs.length:=by simp [hlen];omega
       rw [List.take_append,q1,Vg om,List.take_take,Vq om,List.drop_take]
      rw [e1]
      exact ((h5.take o').append hcs).append (h5.drop _))
    refine ⟨F,_,G,hK,?_,j1,j2⟩
    have:=hF.mono (j2.agree hh)
    simpa [Act.put] using this
  ·cases hs
 ·cases hs
theorem Z41 {K:Fr->List Res->Prop} {sz:Nat} (hd:WW n (ZB ops k)=true) (ha:UQ P ops F k=some ([],0,sz))
  (hK:∀g,K (F.put (ZB ops k).dst (.val (.slice (some ⟨g,0,none⟩) 0 0))) (.row (.slice (some ⟨g,0,none⟩) 0 0) sz []::h)):We P n (ZB ops k) F h K:=by
 unfold UQ at ha
 generalize hoo:ZB ops k=q at ha hd hK
 obtain ⟨dst,op,type,pos,after,guard⟩:=q
 cases op<;>simp only at ha<;>try (cases ha)
 rename_i t ln parts
 split at ha
 case h_2=>cases ha
 rename_i e ht
 split at ha
 case h_2=>cases ha
 rename_i i hi
 split at ha
 case h_2=>cases ha
 rename_i hc
 simp only [XL] at hc
 split at ha
 case h_2=>cases ha
 rename_i ls' hf
 simp only [XV,Prod.mk.injEq] at ha
 obtain ⟨rfl,rfl,Xq⟩:=ha
 intro Q w G a hF hh
 obtain ⟨cs,h1,h2⟩:=Es hF parts ht hi rfl hc.1 hc.2 hf
 have hr:(execOp a.eval { dst:=dst,op:=.buildSlice t 0 parts,type:=type,pos:=pos,after:=after,guard:=guard }).run P w =
   .ok (.value (.slice (some ⟨w.heap.size,0,none⟩) 0 0)) (w.alloc (.cells cs e)):=by
  simp only [execOp]
  exact V0 h2
 unfold Oper.wp
 rw [hr]
 have hlc:=h1.length
 simp only [Qv] at hlc
 obtain ⟨j1,j2⟩:=hh.alloc_rrow cs e (ls:=[]) (len:=0) (cap:=0) (k:=sz) (X6 _) (by simpa using hlc) (by simp) (by simpa using YP.nil)
 exact ⟨_,_,G,hK _,(hF.mono (j2.agree hh)).put (U4 hd) .val,j1,j2⟩
theorem Z3z {K:Fr->List Res->Prop} {g sz:Nat} {xs:List AV} {hx:Option Value} (hd:WW n (ZB ops k)=true) (ha:U1 P ops F k=some (.val (.slice (some ⟨g,0,none⟩) 0 0),.sl xs hx,sz))
  (hxs:∀y∈xs,y.leaves.length=sz) (hbound:xs.length<=4294967296)
  (hK:∀v:Hd,K (F.put (ZB ops k).dst (.val v.v)) (.row v.v sz (Zl xs)::h2)):We P n (ZB ops k) F (.row (.slice (some ⟨g,0,none⟩) 0 0) sz []::h2) K:=by
 unfold U1 at ha
 generalize hoo:ZB ops k=o at ha hd hK
 obtain ⟨dst,op,type,pos,after,guard⟩:=o
 cases op<;>simp only at ha<;>try (cases ha)
 rename_i c
 obtain ⟨callee,args,tys⟩:=c
 simp only at ha
 split at ha
 case h_2=>cases ha
 rename_i s x t t' hargs htys
 split at ha
 case h_2=>cases ha
 rename_i e htt ht
 have:=U0 htt
 subst this
 split at ha
 case h_2=>cases ha
 rename_i i hinfo
 split at ha
 case h_2=>cases ha
 rename_i z hz
 split at ha
 case h_2=>cases ha
 rename_i hb
 simp only [XL] at hb
 simp only [XV,Prod.mk.injEq] at ha
 obtain ⟨h3,h4,hk1⟩:=ha
 have e1:args=#[s,x]:=by rw [<-VJ (xs:=args),hargs]
 have e2:tys=#[t,t]:=by rw [<-VJ (xs:=tys),htys]
 subst e1;subst e2
 have hzs:z.cells.size=sz:=by rw [U0 hb.1,hk1]
 have hby:=WF hb.2
 intro Q w G a hF hh
 have v1:=hF.ev s
 have v2:=hF.ev x
 rw [h3] at v1
 rw [h4] at v2
 have v1:=v1.val_inv
 have v2:=v2.forget
 have finish:∀(v':Hd) w',(Builtin.append_ #[t,t] type #[.slice (some ⟨g,0,none⟩) 0 0,a.eval x]).run P w=.ok v'.v w'->YB w' G (.row v'.v sz (Zl xs)::h2) ->
   YU w G (.row (.slice (some ⟨g,0,none⟩) 0 0) sz []::h2) w' G (.row v'.v sz (Zl xs)::h2) ->
   ({ dst:=dst,op:=.call { callee:=.builtin .append,args:=#[s,x],argTypes:=#[t,t] },type:=type,pos:=pos,after:=after,guard:=guard }:Oper).wp P a w
    (fun a' w'=>∃F' h' G',K F' h'/\FR w' G' n F' a'/\YB w' G' h'/\YU w G (.row (.slice (some ⟨g,0,none⟩) 0 0) sz []::h2) w' G' h') Q:=by
  intro v' w' hr j1 j2
  have hrun:(execOp a.eval { dst:=dst,op:=.call { callee:=.builtin .append,args:=#[s,x],argTypes:=#[t,t] },type:=type,pos:=pos,after:=after,guard:=guard }).run P w=.ok (.value v'.v) w':=by
   simp only [execOp,resolve,invoke,builtin,Sem.run_bind,Sem.run_pure,Result.andThen_ok,Bc,Un,Bb,v1,hr]
  unfold Oper.wp
  rw [hrun]
  exact ⟨_,_,G,hK v',(hF.mono (j2.agree hh)).put (U4 hd) .val,j1,j2⟩
 by_cases hxe:xs=[]
 ·subst hxe
  cases v2q:a.eval x with
  | slice ad' l' c'=>
   rw [v2q] at v2
   cases v2<;>exact finish ⟨some ⟨g,0,none⟩,0,0⟩ _ (by rw [v2q];exact BT ht hinfo (X6 _) w) hh (YU.refl w G _)
  | _=>rw [v2q] at v2;cases v2
 ·generalize hax:a.eval x=ax at v2 finish
  cases v2 with
  | nil _=>exact absurd rfl hxe
  | sl hq hcc hm=>
   rename_i b o' k' c
   have hpos:0<xs.length:=EW.2 hxe
   have hfm:=hm.flat_mem
   obtain ⟨news,hn,hnc⟩:=hfm.cells
   have hfl:=UZ xs hxs
   have hnl:news.length=xs.length*i.size:=by rw [hn.length,hfl,hk1]
   have hnews:∀j u,news[j]? = some u->w.cell? ((⟨b,o',none⟩:Addr).add j)=some u:=fun j u hj=>by rw [QA];exact (hnc j u hj).1
   have hbb:(0+xs.length)*i.bytes<=140737488355328:=by
    have:=Nat.mul_le_mul hbound hby
    rw [WQ]
    omega
   have hr:=run_append_grow (P:=P) w t type e i z ht hinfo hz ⟨g,0,none⟩ 0 0 [] (by simp) (fun j u hj=>by simp at hj) ⟨b,o',none⟩ xs.length c news hnl hnews om om (growslice_fits om hbb)
   simp only [WQ] at hr
   have X2:=grownCap_ge w xs.length 0 e
   obtain ⟨j1,j2⟩:=hh.drew.alloc_rrow ([].toArray++news.toArray++Builtin.zeroCells z.cells (grownCap w xs.length 0 e-xs.length)) e
    (ls:=Zl xs) (len:=xs.length) (cap:=grownCap w xs.length 0 e) (k:=sz) X2
    (by
     have q2:(grownCap w xs.length 0 e-xs.length)*sz=grownCap w xs.length 0 e*sz-xs.length*sz:=Nat.sub_mul ..
     have q3:xs.length*sz<=grownCap w xs.length 0 e*sz:=TS _ X2
     simp only [Array.size_append,C1,size_zeroCells,hzs,Xm,WQ,hnl,hk1]
     omega) hfl
    (by
     have q1:([].toArray++news.toArray++Builtin.zeroCells z.cells (grownCap w xs.length 0 e-xs.length)).toList.take (xs.length*sz)=news:=by
      simp only [BZ,Av]
      rw [<-hk1,<-hnl]
      exact KX
     rw [q1]
     exact hn.mono (JL w G))
   have hs:List.Sublist (.row (.slice (some ⟨w.drew.heap.size,0,none⟩) xs.length (grownCap w xs.length 0 e)) sz (Zl xs)::h2)
     (.row (.slice (some ⟨w.drew.heap.size,0,none⟩) xs.length (grownCap w xs.length 0 e)) sz (Zl xs)::.row (.slice (some ⟨g,0,none⟩) 0 0) sz []::h2):=List.Sublist.cons_cons _ (Aw _ _)
   exact finish ⟨some ⟨w.heap.size,0,none⟩,xs.length,grownCap w xs.length 0 e⟩ _ hr (j1.sub hs) ((YU.drew w G _).trans (j2.sub' hs))
theorem N3 {w:World} {G:Yc} {v:Hd} {kk m:Nat} {ls:List AV} (h:Kt w G v.v kk ls) (hm:ls.length=m*kk) (hk:0<kk) (h0:0<m):∃g c,v=⟨some ⟨g,0,none⟩,m,c⟩:=by
 obtain ⟨a,l,c⟩:=v
 rcases h with ⟨h1,h2⟩|⟨g,len,cap,cur,e,h1,h2,h3,h4,h5,h6⟩
 ·subst h2
  have:=Nat.mul_pos h0 hk
  rw [Xm] at hm
  omega
 ·cases h1
  have:l=m:=EY hk (h5.symm.trans hm)
  subst this
  exact ⟨g,c,rfl⟩
theorem OF (t j:Nat) {v:Hd} {kk:Nat} {es:List AV} {c:Code} {A:Vc} (hF':F.get t=.h v) (hp:W8 [j] h=some [.row v.v kk (Zl es)]) (hes:∀y∈es,y.leaves.length=kk) (hk:0<kk)
  (H:X1 P n c A ((t,.sl es (some v.v))::F) (.tail v.v kk::XC [j] h)):X1 P n c A F h:=by
 intro w G a hF hh
 have hp':=VN (V7 hp)
 obtain ⟨G',h1,h2',h3⟩:=BS (hh.perm hp') hes hk
 have e:=h2'.perm hp'.symm (Tz _)
 have hF2:=hF.mono (e.agree hh)
 have hv:=hF2.get t
 rw [hF'] at hv
 have hv:=hv.val_inv
 refine wp_mono (H w G' a ⟨hF2.defers,hF2.size,fun s=>?_⟩ h1) fun e' a' w' hc=>hc.trans e
 show RV w G' (match Nat.beq t s with|true=>_|false=>Fr.get F s) _
 cases hb:Nat.beq t s with
 | true=>
  have:=U0 hb
  subst this
  rw [hv]
  exact h3
 | false=>exact hF2.get s
theorem Z8f (j i p:Nat) {u v:Value} {kk kv:Nat} {es ls:List AV} (hp:W8 [j,i] h=some [.row u kk (Zl es),.row v kv ls]) (hes:∀y∈es,y.leaves.length=kk) (hk:0<kk) (hl:ls[p]? = some (.val u)) :
  T4 h (.row v kv (ls.set p (.sl es (some u)))::.tail u kk::XC [j,i] h):=by
 intro w G hh
 have hp':=VN (V7 hp)
 have hh':=hh.perm hp'
 obtain ⟨G',h1,h2',h3⟩:=BS (h2:=.row v kv ls::XC [j,i] h) hh' hes hk
 have e:=h2'.perm hp'.symm (Tz _)
 have h1:YB w G' (.tail u kk::.row v kv ls::XC [j,i] h):=h1
 have perm:(Res.tail u kk::.row v kv ls::XC [j,i] h).Perm (.row v kv ls::.tail u kk::XC [j,i] h):=List.Perm.swap ..
 have h4:=h1.perm perm
 have e4:=e.perm (Tz _) perm
 have hset:∀{w:World} {G:Yc},RV w G (.sl es (some u)) u->Kt w G v kv ls->Kt w G v kv (ls.set p (.sl es (some u))):=by
  intro w G hu hr
  rcases hr with ⟨rfl,h0⟩|⟨g,len,cap,cur,el,rfl,k1,k2,k3,k4,k5⟩
  ·exact .inl ⟨rfl,by rw [h0];rfl⟩
  ·refine .inr ⟨g,len,cap,cur,el,rfl,k1,k2,k3,by rw [UU];exact k4,?_⟩
   obtain ⟨c,c1,c2⟩:=k5.get p _ hl
   have:=c2.val_inv
   subst this
   have h6:=k5.set p hu
   rwa [show (cur.toList.take (len*kv)).set p c=cur.toList.take (len*kv) from by
    apply List.ext_getElem?
    intro q
    rw [List.getElem?_set]
    split
    ·rename_i hq;subst hq;split
     ·exact c1.symm
     ·rename_i hq2;rw [EV om]
    ·rfl] at h6
 refine ⟨G',⟨fun r hr=>?_,?_,fun r hr=>?_,h4.lt⟩,⟨e4.os,e4.tape,e4.output,e4.size,e4.sub,e4.same,e4.newG,fun b o hb ⟨r,hr,hf⟩=>e4.newfp b o hb ?_⟩⟩
 ·rcases YQ.1 hr with rfl|hr
  ·exact hset h3 (h4.ok _ (Xh ..))
  ·exact h4.ok r (XG _ hr)
 ·have:=WP.1 h4.apart
  refine WP.2 ⟨fun r hr b o f1 f2=>this.1 r hr b o ?_ f2,this.2⟩
  cases v with
  | slice a _ _=>cases a with
   | none=>exact f1.elim
   | some a=>exact f1
  | _=>exact f1.elim
 ·rcases YQ.1 hr with rfl|hr
  ·intro b o f1 hg
   refine h4.prot (.row v kv ls) (Xh ..) b o ?_ hg
   cases v with
   | slice a _ _=>cases a with
    | none=>exact f1.elim
    | some a=>exact f1
   | _=>exact f1.elim
  ·exact h4.prot r (XG _ hr)
 ·rcases YQ.1 hr with rfl|hr
  ·refine ⟨.row v kv ls,Xh ..,?_⟩
   cases v with
   | slice a _ _=>cases a with
    | none=>exact hf.elim
    | some a=>exact hf
   | _=>exact hf.elim
  ·exact ⟨r,XG _ hr,hf⟩
end
end Go.Abs
