/-
  A part of the proofs of several laws (see the last file): no condition.
-/
import Derived.OrdersHeld
import Derived.Below
import Derived.KernelRfl
import Derived.Laws.AppendOwn
import Derived.Laws.MakeOwn
import Derived.IntWalk
import Derived.Lib.AppendZeros
set_option linter.all false
set_option linter.unusedVariables false
set_option linter.unusedSimpArgs false
set_option linter.unusedSectionVars false
set_option maxRecDepth 10000
set_option maxHeartbeats 4000000
namespace Go.Abs
abbrev LI:=List Int
theorem ob {p:Prop} (h:p:=by first|assumption|omega|rfl|(simp<;>omega)):p:=h
theorem kr {p:Prop} (h:p:=by kernel_rfl):p:=h
theorem om {p:Prop} (h:p:=by omega):p:=h
def Z4:=@if_neg
def Z6:=@if_pos
def Zr:=@beq_iff_eq
def ZO:=@bne_iff_ne
def Yp:=@congrArg
def Yv:=@List.mem_append
def Yw:=@List.mem_cons
def Yz:=@List.length_append
def YA:=@List.mem_of_getElem?
def YH:=@List.mem_singleton
def YV:=@List.mem_cons_self
def YX:=@Nat.le_refl
def Xb:=@List.mem_map
def Xo:=@Option.some.injEq
def Xs:=@Bool.and_eq_true
def Xv:=@List.mem_cons_of_mem
def XF:=@List.length_cons
def XZ:=@List.getElem?_eq_some_iff
def W2:=@List.take_of_length_le
def Wk:=@Bool.eq_iff_iff
def Wr:=@Classical.not_not
def Ww:=@List.map_cons
def Vf:=@Nat.zero_add
def Vm:=@List.pairwise_cons
def Vt:=@List.length_nil
def VB:=@Array.getElem?_eq_some_iff
def VM:=@Array.toArray_toList
def VW:=@List.append_assoc
def U6:=@Nat.eq_of_beq_eq_true
def Uh:=@List.length_map
def UI:=@Nat.mul_one
def Th:=@List.getElem?_map
def Ti:=@Option.some.inj
def TM:=@List.drop_zero
def TN:=@List.getElem?_take
def TO:=@Nat.zero_le
def Qt:=@Int.toNat_natCast
def Qu:=@List.getElem?_eq_getElem
def Qv:=@List.length_set
def Qw:=@Nat.add_mul
def QP:=@List.drop_eq_nil_of_le
def QQ:=@List.map_nil
def QR:=@Nat.le_trans
def Km:=@List.Perm.refl
def Kn:=@List.cons_append
def Ko:=@List.length_take
def Kq:=@List.pairwise_singleton
def Kr:=@List.take_length
def Ks:=@Nat.le_of_ble_eq_true
def KP:=@Array.length_toList
def KQ:=@List.pairwise_append
def Ja:=@Bool.eq_false_iff
def JP:=@List.flatMap_cons
def AA:=@List.append_nil
def AB:=@List.sum_cons
def AC:=@Nat.lt_or_ge
def AD:=@Nat.min_eq_left
def Bd:=@Array.getElem?_toList
def Be:=@List.all_eq_true
def Bf:=@List.length_eq_zero_iff
def Bg:=@List.map_toArray
def Bh:=@List.replicate_succ
def Bi:=@Nat.add_zero
def Bj:=@Nat.lt_of_lt_of_le
def C8:=@List.eq_of_mem_replicate
def C9:=@List.getElem?_append_right
def Ca:=@List.getElem?_drop
def Cb:=@List.mem_flatMap
def Cc:=@List.mem_of_mem_take
def Cd:=@List.take_left
def Ce:=@Nat.mul_le_mul_right
def Cf:=@Option.map_some
def Ds:=@Array.toList_append
def Dt:=@Classical.byContradiction
def Du:=@List.getElem?_append_left
def Dv:=@List.getElem?_of_mem
def Dw:=@List.nil_append
def Dx:=@List.sublist_cons_self
def Dy:=@List.take_succ_cons
def Dz:=@Nat.add_assoc
def Fu:=@Array.getElem?_append_left
def Fv:=@List.getElem?_eq_none
def Fw:=@List.length_pos_iff
def Fx:=@List.length_singleton
def Fy:=@List.toList_toArray
def L8:=@List.length_drop
def L9:=@List.mem_filterMap
def La:=@List.size_toArray
def Lb:=@List.take_append_drop
def Lc:=@Nat.eq_of_mul_eq_mul_right
def S7:=@List.drop_eq_getElem_cons
end Go.Abs
namespace Go.Abs
inductive AV where
 | any
 | val (v:Value)
 | sl (es:List AV) (hv:Option Value)
 | agg (ls:List AV)
 | rp (ls:List AV)
 | tup (vs:List AV)
abbrev ZE:=Nat->Nat->Prop
def AV.leaves:AV->List AV
 | .agg ls=>ls
 | x=>[x]
mutual
inductive RV (w:World) (G:ZE):AV->Value->Prop
 | any {v}:RV w G .any v
 | val {v}:RV w G (.val v) v
 | nil {hv a cap} (h:∀x,hv=some x->x=.slice a 0 cap):RV w G (.sl [] hv) (.slice a 0 cap)
 | sl {es hv b o k cap} (h:∀x,hv=some x->x=.slice (some ⟨b,o,none⟩) es.length cap) (hc:es.length<=cap) (hm:XN w G k b o es) :
   RV w G (.sl es hv) (.slice (some ⟨b,o,none⟩) es.length cap)
 | agg {ls cs} (h:Y9 w G ls cs):RV w G (.agg ls) (.agg cs.toArray)
 | rp {ls b o} (h:Xi w G b o ls):RV w G (.rp ls) (.pointer (some ⟨b,o,none⟩))
 | tup {vs cs} (h:Y9 w G vs cs):RV w G (.tup vs) (.tuple cs.toArray)
inductive Y9 (w:World) (G:ZE):List AV->List Value->Prop
 | nil:Y9 w G [] []
 | cons {x v xs vs} (h:RV w G x v) (t:Y9 w G xs vs):Y9 w G (x::xs) (v::vs)
inductive Xi (w:World) (G:ZE):Nat->Nat->List AV->Prop
 | nil {b o}:Xi w G b o []
 | cons {b o x c xs} (hc:w.cell? ⟨b,o,none⟩=some c) (hg:G b o) (h:RV w G x c) (t:Xi w G b (o+1) xs):Xi w G b o (x::xs)
inductive XN (w:World) (G:ZE):Nat->Nat->Nat->List AV->Prop
 | nil {k b o}:XN w G k b o []
 | cons {k b o x xs} (hl:x.leaves.length=k) (h:Xi w G b o x.leaves) (t:XN w G k b (o+k) xs):XN w G k b o (x::xs)
end
structure Vu (G:ZE) (w w':World) (G':ZE):Prop where
 cell:∀b o,G b o->w'.cell? ⟨b,o,none⟩=w.cell? ⟨b,o,none⟩
 sub:∀b o,G b o->G' b o
section mono
variable {w w':World} {G G':ZE}
mutual
theorem RV.mono {x:AV} {v:Value} (hA:Vu G w w' G'):RV w G x v->RV w' G' x v
 | .any=>.any
 | .val=>.val
 | .nil h=>.nil h
 | .sl h hc hm=>.sl h hc (hm.mono hA)
 | .agg h=>.agg (h.mono hA)
 | .rp h=>.rp (h.mono hA)
 | .tup h=>.tup (h.mono hA)
theorem Y9.mono {xs:List AV} {vs:List Value} (hA:Vu G w w' G'):Y9 w G xs vs->Y9 w' G' xs vs
 | .nil=>.nil
 | .cons h t=>.cons (h.mono hA) (t.mono hA)
theorem Xi.mono {b o:Nat} {xs:List AV} (hA:Vu G w w' G'):Xi w G b o xs->Xi w' G' b o xs
 | .nil=>.nil
 | .cons hc hg h t=>.cons ((hA.cell _ _ hg).trans hc) (hA.sub _ _ hg) (h.mono hA) (t.mono hA)
theorem XN.mono {k b o:Nat} {xs:List AV} (hA:Vu G w w' G'):XN w G k b o xs->XN w' G' k b o xs
 | .nil=>.nil
 | .cons hl h t=>.cons hl (h.mono hA) (t.mono hA)
end
end mono
theorem Y9.length {w:World} {G:ZE}:∀{xs:List AV} {vs:List Value},Y9 w G xs vs->vs.length=xs.length
 | _,_,.nil=>rfl
 | _,_,.cons _ t=>by simp [t.length]
theorem Y9.get {w:World} {G:ZE}:∀{xs:List AV} {vs:List Value},Y9 w G xs vs->∀(i:Nat) (x:AV),xs[i]? = some x->∃v,vs[i]? = some v/\RV w G x v
 | _,_,.nil,i,x,h=>by simp at h
 | _,_,.cons h t,0,x,hx=>by simp at hx;subst hx;exact ⟨_,rfl,h⟩
 | _,_,.cons h t,i+1,x,hx=>by simpa using t.get i x (by simpa using hx)
theorem Y9.append {w:World} {G:ZE}:∀{xs ys:List AV} {vs us:List Value},Y9 w G xs vs->Y9 w G ys us->Y9 w G (xs++ys) (vs++us)
 | _,_,_,_,.nil,h=>h
 | _,_,_,_,.cons h t,h2=>.cons h (t.append h2)
theorem Y9.take {w:World} {G:ZE}:∀{xs:List AV} {vs:List Value} (n:Nat),Y9 w G xs vs->Y9 w G (xs.take n) (vs.take n)
 | _,_,0,_=>by simp;exact .nil
 | _,_,n+1,.nil=>by simp;exact .nil
 | _,_,n+1,.cons h t=>by simp;exact .cons h (t.take n)
theorem Y9.drop {w:World} {G:ZE}:∀{xs:List AV} {vs:List Value} (n:Nat),Y9 w G xs vs->Y9 w G (xs.drop n) (vs.drop n)
 | _,_,0,h=>by simpa using h
 | _,_,n+1,.nil=>by simp;exact .nil
 | _,_,n+1,.cons h t=>by simpa using t.drop n
theorem Y9.set {w:World} {G:ZE}:∀{xs:List AV} {vs:List Value} (n:Nat) {x:AV} {v:Value},Y9 w G xs vs->RV w G x v->Y9 w G (xs.set n x) (vs.set n v)
 | _,_,_,_,_,.nil,_=>by simp;exact .nil
 | _,_,0,_,_,.cons h t,hx=>by simp;exact .cons hx t
 | _,_,n+1,_,_,.cons h t,hx=>by simp;exact .cons h (t.set n hx)
theorem Xi.drop {w:World} {G:ZE}:∀(n:Nat) {b o:Nat} {xs:List AV},Xi w G b o xs->Xi w G b (o+n) (xs.drop n)
 | 0,_,_,_,h=>by simpa using h
 | n+1,_,_,_,.nil=>by simp;exact .nil
 | n+1,_,_,_,.cons hc hg h t=>by
  have:=t.drop n
  simp only [List.drop_succ_cons]
  rw [show ∀o:Nat,o+(n+1)=o+1+n from fun o=>by omega]
  exact this
theorem Xi.take {w:World} {G:ZE}:∀(n:Nat) {b o:Nat} {xs:List AV},Xi w G b o xs->Xi w G b o (xs.take n)
 | 0,_,_,_,h=>by simp;exact .nil
 | n+1,_,_,_,.nil=>by simp;exact .nil
 | n+1,_,_,_,.cons hc hg h t=>by simp;exact .cons hc hg h (t.take n)
theorem Xi.append {w:World} {G:ZE}:∀{b o:Nat} {xs ys:List AV},Xi w G b o xs->Xi w G b (o+xs.length) ys->Xi w G b o (xs++ys)
 | _,_,_,_,.nil,h=>by simpa using h
 | _,_,_,_,.cons hc hg h t,h2=>.cons hc hg h (t.append (by
   simp only [XF] at h2
   rw [show ∀(o:Nat) (l:Nat),o+1+l=o+(l+1) from fun o l=>by omega];exact h2))
theorem Xi.cells {w:World} {G:ZE}:∀{b o:Nat} {xs:List AV},Xi w G b o xs ->
  ∃cs,Y9 w G xs cs/\(∀j v,cs[j]? = some v->w.cell? ⟨b,o+j,none⟩=some v/\G b (o+j))
 | _,_,_,.nil=>⟨[],.nil,by simp⟩
 | _,o,_,.cons (c:=c) hc hg h t=>by
  obtain ⟨cs,h1,h2⟩:=t.cells
  refine ⟨c::cs,.cons h h1,fun j v hj=>?_⟩
  cases j with
  | zero=>simp at hj;subst hj;exact ⟨hc,hg⟩
  | succ j=>
   have:=h2 j v (by simpa using hj)
   rw [show o+1+j=o+(j+1) from by omega] at this
   exact this
theorem Xi.of_cells {w:World} {G:ZE} {b:Nat}:∀{o:Nat} {xs:List AV} {cs:List Value},Y9 w G xs cs ->
  (∀j v,cs[j]? = some v->w.cell? ⟨b,o+j,none⟩=some v/\G b (o+j))->Xi w G b o xs
 | _,_,_,.nil,_=>.nil
 | o,_,_,.cons (v:=c) h t,hc=>by
  have h0:=hc 0 c (by simp)
  refine .cons h0.1 h0.2 h (Xi.of_cells t fun j v hj=>?_)
  have:=hc (j+1) v (by simpa using hj)
  rw [show o+(j+1)=o+1+j from by omega] at this
  exact this
def Zu (es:List AV):List AV:=es.flatMap AV.leaves
theorem XN.flat_mem {w:World} {G:ZE} {k:Nat}:∀{b o:Nat} {xs:List AV},XN w G k b o xs->Xi w G b o (Zu xs)
 | _,_,_,.nil=>.nil
 | _,_,_,.cons hl h t=>by
  simp only [Zu,JP]
  exact h.append (by rw [hl];exact t.flat_mem)
theorem XN.of_flat {w:World} {G:ZE} {k:Nat} {b:Nat}:∀{o:Nat} (xs:List AV),(∀x∈xs,x.leaves.length=k)->Xi w G b o (Zu xs)->XN w G k b o xs
 | _,[],_,_=>.nil
 | o,x::xs,hk,h=>by
  have hx:=hk x (by simp)
  simp only [Zu,JP] at h
  have h1:=h.take x.leaves.length
  have h2:=h.drop x.leaves.length
  simp only [List.take_left',List.drop_left'] at h1 h2
  rw [hx] at h2
  exact .cons hx h1 (XN.of_flat xs (fun y hy=>hk y (by simp [hy])) h2)
theorem XN.len {w:World} {G:ZE} {k:Nat}:∀{b o:Nat} {xs:List AV},XN w G k b o xs->∀x∈xs,x.leaves.length=k
 | _,_,_,.nil,x,h=>by simp at h
 | _,_,_,.cons hl _ t,x,h=>by
  rcases Yw.1 h with rfl|h
  ·exact hl
  ·exact t.len x h
theorem Tc {k:Nat}:∀(xs:List AV),(∀x∈xs,x.leaves.length=k)->(Zu xs).length=xs.length*k
 | [],_=>by simp [Zu]
 | x::xs,h=>by
  have:=Tc xs (fun y hy=>h y (by simp [hy]))
  simp only [Zu,JP,Yz,XF] at this ⊢
  rw [this,h x (by simp),Qw];omega
theorem XN.get {w:World} {G:ZE} {k:Nat}:∀{b o:Nat} {xs:List AV},XN w G k b o xs->∀(i:Nat) (x:AV),xs[i]? = some x->Xi w G b (o+i*k) x.leaves
 | _,_,_,.nil,i,x,h=>by simp at h
 | _,_,_,.cons hl h t,0,x,hx=>by simp at hx;subst hx;simpa using h
 | _,o,_,.cons hl h t,i+1,x,hx=>by
  have:=t.get i x (by simpa using hx)
  rw [show o+(i+1)*k=o+k+i*k from by rw [Qw];omega]
  exact this
theorem XN.drop {w:World} {G:ZE} {k:Nat}:∀(n:Nat) {b o:Nat} {xs:List AV},XN w G k b o xs->XN w G k b (o+n*k) (xs.drop n)
 | 0,_,_,_,h=>by simpa using h
 | n+1,_,_,_,.nil=>by simp;exact .nil
 | n+1,_,o,_,.cons hl h t=>by
  have:=t.drop n
  simp only [List.drop_succ_cons]
  rw [show o+(n+1)*k=o+k+n*k from by rw [Qw];omega]
  exact this
theorem XN.take {w:World} {G:ZE} {k:Nat}:∀(n:Nat) {b o:Nat} {xs:List AV},XN w G k b o xs->XN w G k b o (xs.take n)
 | 0,_,_,_,h=>by simp;exact .nil
 | n+1,_,_,_,.nil=>by simp;exact .nil
 | n+1,_,_,_,.cons hl h t=>by simp;exact .cons hl h (t.take n)
inductive Res where
 | obj (b:Nat) (ls:List AV)
 | tail (v:Value) (k:Nat)
 | ge (s:Nat)
 | vec (v:Value) (ls:List AV)
 | many (ts:List (Value × Nat))
 | own (B:List Nat) (m:Nat->Nat->Option Value)
 | row (v:Value) (k:Nat) (ls:List AV)
 | mp (b:Nat) (Q:Array MapEntry->Nat->Prop)
def B8:Value->Nat->ZE
 | .slice (some a) len _,k,b',o=>b'=a.block/\len*k<=o
 | _,_,_,_=>False
def Res.fp:Res->ZE
 | .obj b _,b',_=>b'=b
 | .tail (.slice (some a) len _) k,b',o=>b'=a.block/\len*k<=o
 | .tail _ _,_,_=>False
 | .ge _,_,_=>False
 | .vec (.slice (some a) _ _) _,b',_=>b'=a.block
 | .vec _ _,_,_=>False
 | .many ts,b',o=>∃p∈ts,B8 p.1 p.2 b' o
 | .own B _,b',_=>b'∈B
 | .row (.slice (some a) _ _) _ _,b',_=>b'=a.block
 | .row _ _ _,_,_=>False
 | .mp b _,b',_=>b'=b
def Jg (w:World) (v:Value) (k:Nat):Prop:=
 v=.slice none 0 0∨∃g len cap cur e,v=.slice (some ⟨g,0,none⟩) len cap/\w.heap[g]? = some (.cells cur e (0,0))/\len<=cap/\cur.size=cap*k
def JY (w:World) (G:ZE) (v:Value) (ls:List AV):Prop:=
 (v=.slice none 0 0/\ls=[])∨∃g cap cur e,v=.slice (some ⟨g,0,none⟩) ls.length cap/\w.heap[g]? = some (.cells cur e (0,0))/\ls.length<=cap/\cur.size=cap /\
  Y9 w G ls (cur.toList.take ls.length)
def KR (w:World) (G:ZE) (v:Value) (k:Nat) (ls:List AV):Prop:=
 (v=.slice none 0 0/\ls=[])∨∃g len cap cur e,v=.slice (some ⟨g,0,none⟩) len cap/\w.heap[g]? = some (.cells cur e (0,0))/\len<=cap/\cur.size=cap*k/\ls.length=len*k /\
  Y9 w G ls (cur.toList.take (len*k))
def Ux (w:World) (G:ZE):Res->Prop
 | .obj b ls=>∃cs e,w.heap[b]? = some (.cells cs e (0,0))/\Y9 w G ls cs.toList
 | .tail v k=>Jg w v k
 | .ge s=>s<=w.heap.size
 | .vec v ls=>JY w G v ls
 | .many ts=>(∀p∈ts,Jg w p.1 p.2)/\ts.Pairwise (fun p q=>∀b o,B8 p.1 p.2 b o->B8 q.1 q.2 b o->False)
 | .own B m=>∀b∈B,∃cs e,w.heap[b]? = some (.cells cs e (0,0))/\∀o,cs[o]? = m b o
 | .row v k ls=>KR w G v k ls
 | .mp b Q=>∃es c,w.heap[b]? = some (.map es c)/\Q es c
def Wb (h:List Res):ZE:=fun b o=>∃r∈h,r.fp b o
def Je (r r':Res):Prop:=∀b o,r.fp b o->r'.fp b o->False
structure ZW (w:World) (G:ZE) (h:List Res):Prop where
 ok:∀r∈h,Ux w G r
 apart:h.Pairwise Je
 prot:∀r∈h,∀b o,r.fp b o->G b o->False
 lt:∀b o,G b o->b<w.heap.size
theorem Ux.lt {w:World} {G:ZE} {r:Res} (h:Ux w G r):∀b o,r.fp b o->b<w.heap.size:=by
 intro b o hf
 cases r with
 | obj b' ls=>obtain ⟨cs,e,h1,_⟩:=h;cases hf;exact (VB.1 h1).1
 | tail v k=>
  rcases h with rfl|⟨g,len,cap,cur,e,rfl,h1,_⟩
  ·exact hf.elim
  ·obtain ⟨rfl,_⟩:=hf;exact (VB.1 h1).1
 | ge s=>exact hf.elim
 | vec v ls=>
  rcases h with ⟨rfl,_⟩|⟨g,cap,cur,e,rfl,h1,_⟩
  ·exact hf.elim
  ·have hf:b=g:=hf
   subst hf
   exact (VB.1 h1).1
 | many ts=>
  obtain ⟨p,hp,hf⟩:=hf
  rcases h.1 p hp with h0|⟨g,len,cap,cur,e,h0,h1,_⟩
  ·rw [h0] at hf;exact hf.elim
  ·rw [h0] at hf;obtain ⟨rfl,_⟩:=hf;exact (VB.1 h1).1
 | own B m=>obtain ⟨cs,e,h1,_⟩:=h b hf;exact (VB.1 h1).1
 | row v k ls=>
  rcases h with ⟨rfl,_⟩|⟨g,len,cap,cur,e,rfl,h1,_⟩
  ·exact hf.elim
  ·have hf:b=g:=hf
   subst hf
   exact (VB.1 h1).1
 | mp b' Q=>obtain ⟨es,c,h1,_⟩:=h;cases hf;exact (VB.1 h1).1
def Q8 (O:ZE) (b:Nat) (w w':World):Prop:=
 w'.heap[b]? = w.heap[b]?∨(∃cs cs' e fr,w.heap[b]? = some (.cells cs e fr)/\w'.heap[b]? = some (.cells cs' e fr)/\cs'.size=cs.size/\(∀o,¬O b o->cs'[o]? = cs[o]?))∨∃es c es' c',w.heap[b]? = some (.map es c)/\w'.heap[b]? = some (.map es' c')/\O b 0
theorem Q8.ce {O:ZE} {b:Nat} {w w':World} (h:∃cs cs' e fr,w.heap[b]? = some (.cells cs e fr)/\w'.heap[b]? = some (.cells cs' e fr)/\cs'.size=cs.size/\∀o,¬O b o->cs'[o]? = cs[o]?):Q8 O b w w':=.inr (.inl h)
theorem Q8.eq {O:ZE} {b:Nat} {w w':World} (h:Q8 O b w w') (hn:∀o,¬O b o):w'.heap[b]? = w.heap[b]?:=by
 rcases h with h|⟨cs,cs',e,fr,h1,h2,hs,hc⟩|⟨es,c,es',c',h1,h2,h3⟩
 ·exact h
 ·have:cs'=cs:=by
   apply Array.ext hs
   intro i h1 h2
   have:=hc i (hn i)
   simpa [h1,h2] using this
  rw [h1,h2,this]
 ·exact (hn 0 h3).elim
theorem Q8.cell {O:ZE} {b:Nat} {w w':World} (h:Q8 O b w w') {o:Nat} (hn:¬O b o):w'.cell? ⟨b,o,none⟩=w.cell? ⟨b,o,none⟩:=by
 rcases h with h|⟨cs,cs',e,fr,h1,h2,hs,hc⟩|⟨es,c,es',c',h1,h2,h3⟩
 ·simp [World.cell?,h]
 ·simp [World.cell?,h1,h2,hc o hn]
 ·simp [World.cell?,h1,h2]
theorem Q8.mono {O O':ZE} {b:Nat} {w w':World} (h:Q8 O b w w') (hO:∀o,O b o->O' b o):Q8 O' b w w':=by
 rcases h with h|⟨cs,cs',e,fr,h1,h2,hs,hc⟩|⟨es,c,es',c',h1,h2,h3⟩
 ·exact .inl h
 ·exact .ce ⟨cs,cs',e,fr,h1,h2,hs,fun o hn=>hc o fun h=>hn (hO o h)⟩
 ·exact .inr (.inr ⟨es,c,es',c',h1,h2,hO 0 h3⟩)
theorem Q8.trans {O:ZE} {b:Nat} {w w' w'':World} (h:Q8 O b w w') (k:Q8 O b w' w''):Q8 O b w w'':=by
 rcases h with h|⟨cs,cs',e,fr,h1,h2,hs,hc⟩|⟨es,c,es',c',h1,h2,h3⟩
 ·rcases k with k|⟨cs,cs',e,fr,h1,h2,hs,hc⟩|⟨es,c,es',c',h1,h2,h3⟩
  ·exact .inl (k.trans h)
  ·exact .ce ⟨cs,cs',e,fr,h▸h1,h2,hs,hc⟩
  ·exact .inr (.inr ⟨es,c,es',c',h▸h1,h2,h3⟩)
 ·rcases k with k|⟨ds,ds',e',fr',k1,k2,ks,kc⟩|⟨es,c,es',c',k1,k2,k3⟩
  ·exact .ce ⟨cs,cs',e,fr,h1,k▸h2,hs,hc⟩
  ·rw [h2] at k1
   cases k1
   exact .ce ⟨cs,ds',e,fr,h1,k2,ks.trans hs,fun o hn=>(kc o hn).trans (hc o hn)⟩
  ·rw [h2] at k1;cases k1
 ·rcases k with k|⟨ds,ds',e',fr',k1,k2,ks,kc⟩|⟨es2,c2,es2',c2',k1,k2,k3⟩
  ·exact .inr (.inr ⟨es,c,es',c',h1,k▸h2,h3⟩)
  ·rw [h2] at k1;cases k1
  ·exact .inr (.inr ⟨es,c,es2',c2',h1,k2,h3⟩)
structure Yr (w:World) (G:ZE) (h:List Res) (w':World) (G':ZE) (h':List Res):Prop where
 os:w'.os=w.os
 tape:w'.tape=w.tape
 output:w'.output=w.output
 size:w.heap.size<=w'.heap.size
 sub:∀b o,G b o->G' b o
 same:∀b,b<w.heap.size->Q8 (Wb h) b w w'
 newG:∀b o,b<w.heap.size->G' b o->G b o∨Wb h b o
 newfp:∀b o,b<w.heap.size->Wb h' b o->Wb h b o
theorem Yr.refl (w:World) (G:ZE) (h:List Res):Yr w G h w G h:=
 ⟨rfl,rfl,rfl,YX _,fun _ _ h=>h,fun _ _=>.inl rfl,fun _ _ _ h=>.inl h,fun _ _ _ h=>h⟩
theorem Yr.trans {w w' w'':World} {G G' G'':ZE} {h h' h'':List Res} (a:Yr w G h w' G' h') (b:Yr w' G' h' w'' G'' h''):Yr w G h w'' G'' h'' where
 os:=b.os.trans a.os
 tape:=b.tape.trans a.tape
 output:=b.output.trans a.output
 size:=QR a.size b.size
 sub:=fun x o hg=>b.sub x o (a.sub x o hg)
 same:=fun x hx=>(a.same x hx).trans ((b.same x (Bj hx a.size)).mono fun o ho=>a.newfp x o hx ho)
 newG:=fun x o hx hg=>by
  rcases b.newG x o (Bj hx a.size) hg with h1|h1
  ·exact a.newG x o hx h1
  ·exact .inr (a.newfp x o hx h1)
 newfp:=fun x o hx ho=>a.newfp x o hx (b.newfp x o (Bj hx a.size) ho)
theorem Yr.agree {w w':World} {G G':ZE} {h h':List Res} (e:Yr w G h w' G' h') (hk:ZW w G h):Vu G w w' G' where
 cell:=fun b o hg=>(e.same b (hk.lt b o hg)).cell fun ⟨r,hr,hf⟩=>hk.prot r hr b o hf hg
 sub:=e.sub
theorem J0 {h k:List Res} {b o:Nat}:Wb (h++k) b o↔Wb h b o∨Wb k b o:=by
 unfold Wb
 constructor
 ·rintro ⟨r,hr,hf⟩
  rcases Yv.1 hr with hr|hr
  ·exact .inl ⟨r,hr,hf⟩
  ·exact .inr ⟨r,hr,hf⟩
 ·rintro (⟨r,hr,hf⟩|⟨r,hr,hf⟩)
  ·exact ⟨r,Yv.2 (.inl hr),hf⟩
  ·exact ⟨r,Yv.2 (.inr hr),hf⟩
theorem ZW.left {w:World} {G:ZE} {h k:List Res} (H:ZW w G (h++k)):ZW w G h:=
 ⟨fun r hr=>H.ok r (Yv.2 (.inl hr)),(KQ.1 H.apart).1,fun r hr=>H.prot r (Yv.2 (.inl hr)),H.lt⟩
theorem ZW.cross {w:World} {G:ZE} {h k:List Res} (H:ZW w G (h++k)) {b o:Nat} (h1:Wb h b o) (h2:Wb k b o):False:=by
 obtain ⟨r,hr,hf⟩:=h1
 obtain ⟨r',hr',hf'⟩:=h2
 exact (KQ.1 H.apart).2.2 r hr r' hr' b o hf hf'
theorem ZW.frame {w w':World} {G G':ZE} {h h' k:List Res} (H:ZW w G (h++k)) (e:Yr w G h w' G' h') (H':ZW w' G' h') :
  ZW w' G' (h'++k)/\Yr w G (h++k) w' G' (h'++k):=by
 have hA:=e.agree H.left
 have hkok:∀r∈k,Ux w G r:=fun r hr=>H.ok r (Yv.2 (.inr hr))
 have hklt:∀b o,Wb k b o->b<w.heap.size:=fun b o ⟨r,hr,hf⟩=>(hkok r hr).lt b o hf
 refine ⟨⟨?_,?_,?_,H'.lt⟩,⟨e.os,e.tape,e.output,e.size,e.sub,?_,?_,?_⟩⟩
 ·intro r hr
  rcases Yv.1 hr with hr|hr
  ·exact H'.ok r hr
  ·have h0:=hkok r hr
   cases r with
   | obj b ls=>
    obtain ⟨cs,el,h1,h2⟩:=h0
    have hb:=(VB.1 h1).1
    refine ⟨cs,el,?_,h2.mono hA⟩
    rw [(e.same b hb).eq fun _ ho=>H.cross ho ⟨_,hr,rfl⟩]
    exact h1
   | tail v kk=>
    rcases h0 with rfl|⟨g,len,cap,cur,el,rfl,h1,h2,h3⟩
    ·exact .inl rfl
    ·have hb:=(VB.1 h1).1
     rcases e.same g hb with hs|⟨cs,cs',e',fr,k1,k2,k3,_⟩|⟨_,_,_,_,k1,_⟩
     ·exact .inr ⟨g,len,cap,cur,el,rfl,hs.trans h1,h2,h3⟩
     ·rw [h1] at k1
      cases k1
      exact .inr ⟨g,len,cap,cs',el,rfl,k2,h2,k3.trans h3⟩
     ·rw [h1] at k1;cases k1
   | ge s=>exact QR h0 e.size
   | vec v ls=>
    rcases h0 with ⟨rfl,h0⟩|⟨g,cap,cur,el,rfl,h1,h2,h3,h4⟩
    ·exact .inl ⟨rfl,h0⟩
    ·have hb:=(VB.1 h1).1
     refine .inr ⟨g,cap,cur,el,rfl,?_,h2,h3,h4.mono hA⟩
     rw [(e.same g hb).eq fun o ho=>H.cross ho ⟨_,hr,rfl⟩]
     exact h1
   | many ts=>
    refine ⟨fun p hp=>?_,h0.2⟩
    rcases h0.1 p hp with q|⟨g,len,cap,cur,el,q,h1,h2,h3⟩
    ·exact .inl q
    ·have hb:=(VB.1 h1).1
     rcases e.same g hb with hs|⟨cs,cs',e',fr,k1,k2,k3,_⟩|⟨_,_,_,_,k1,_⟩
     ·exact .inr ⟨g,len,cap,cur,el,q,hs.trans h1,h2,h3⟩
     ·rw [h1] at k1
      cases k1
      exact .inr ⟨g,len,cap,cs',el,q,k2,h2,k3.trans h3⟩
     ·rw [h1] at k1;cases k1
   | own B m=>
    intro b hB
    obtain ⟨cs,el,h1,h2⟩:=h0 b hB
    have hb:=(VB.1 h1).1
    refine ⟨cs,el,?_,h2⟩
    rw [(e.same b hb).eq fun o ho=>H.cross ho ⟨_,hr,hB⟩]
    exact h1
   | row v k ls=>
    rcases h0 with ⟨rfl,h0⟩|⟨g,len,cap,cur,el,rfl,h1,h2,h3,h4,h5⟩
    ·exact .inl ⟨rfl,h0⟩
    ·have hb:=(VB.1 h1).1
     refine .inr ⟨g,len,cap,cur,el,rfl,?_,h2,h3,h4,h5.mono hA⟩
     rw [(e.same g hb).eq fun o ho=>H.cross ho ⟨_,hr,rfl⟩]
     exact h1
   | mp b Q=>
    obtain ⟨es,c,h1,h2⟩:=h0
    have hb:=(VB.1 h1).1
    refine ⟨es,c,?_,h2⟩
    rw [(e.same b hb).eq fun _ ho=>H.cross ho ⟨_,hr,rfl⟩]
    exact h1
 ·refine KQ.2 ⟨H'.apart,(KQ.1 H.apart).2.1,fun r hr r' hr' b o hf hf'=>?_⟩
  have hb:=hklt b o ⟨r',hr',hf'⟩
  exact H.cross (e.newfp b o hb ⟨r,hr,hf⟩) ⟨r',hr',hf'⟩
 ·intro r hr b o hf hg
  rcases Yv.1 hr with hr|hr
  ·exact H'.prot r hr b o hf hg
  ·have hb:=hklt b o ⟨r,hr,hf⟩
   rcases e.newG b o hb hg with h1|h1
   ·exact H.prot r (Yv.2 (.inr hr)) b o hf h1
   ·exact H.cross h1 ⟨r,hr,hf⟩
 ·exact fun b hb=>(e.same b hb).mono fun _ ho=>J0.2 (.inl ho)
 ·intro b o hb hg
  exact (e.newG b o hb hg).imp id fun h=>J0.2 (.inl h)
 ·intro b o hb hf
  rcases J0.1 hf with h1|h1
  ·exact J0.2 (.inl (e.newfp b o hb h1))
  ·exact J0.2 (.inr h1)
theorem Je.symm {r r':Res} (h:Je r r'):Je r' r:=fun b o h1 h2=>h b o h2 h1
theorem A7 {h k:List Res} (p:h.Perm k) {b o:Nat}:Wb h b o↔Wb k b o:=
 ⟨fun ⟨r,hr,hf⟩=>⟨r,p.mem_iff.1 hr,hf⟩,fun ⟨r,hr,hf⟩=>⟨r,p.mem_iff.2 hr,hf⟩⟩
theorem ZW.perm {w:World} {G:ZE} {h k:List Res} (H:ZW w G h) (p:h.Perm k):ZW w G k:=
 ⟨fun r hr=>H.ok r (p.mem_iff.2 hr),(p.pairwise_iff (fun h=>Je.symm h)).1 H.apart,fun r hr=>H.prot r (p.mem_iff.2 hr),H.lt⟩
theorem Yr.perm {w w':World} {G G':ZE} {h h' k k':List Res} (e:Yr w G h w' G' h') (p:h.Perm k) (p':h'.Perm k'):Yr w G k w' G' k':=
 ⟨e.os,e.tape,e.output,e.size,e.sub,fun b hb=>(e.same b hb).mono fun _ ho=>(A7 p).1 ho,
  fun b o hb hg=>(e.newG b o hb hg).imp id (A7 p).1,fun b o hb hf=>(A7 p).1 (e.newfp b o hb ((A7 p').2 hf))⟩
abbrev Fr:=List (Nat × AV)
def Fr.get:Fr->Nat->AV
 | [],_=>.any
 | (s,x)::r,t=>match Nat.beq s t with | true=>x | false=>Fr.get r t
def AV.ofVal:Value->AV
 | .slice none 0 0=>.sl [] (some (.slice none 0 0))
 | v=>.val v
theorem RV.ofVal {w:World} {G:ZE} (v:Value):RV w G (AV.ofVal v) v:=by
 unfold AV.ofVal
 split
 ·exact .nil (by simp)
 ·exact .val
def Fr.ev (F:Fr):Operand->AV
 | .tmp t=>F.get t
 | .const v=>AV.ofVal v
 | .global g=>.val (.pointer (some ⟨g,0,none⟩))
 | .func f=>.val (.func (.func f) #[] #[])
def Fr.put (F:Fr) (d:Option Tmp) (x:AV):Fr:=
 match d with
 | some d=>(d,x)::F
 | none=>F
structure FR (w:World) (G:ZE) (n:Nat) (F:Fr) (a:Act):Prop where
 defers:a.defers=[]
 size:a.tmps.size=n
 get:∀t,RV w G (F.get t) (a.tmps.getD t undef)
section
variable {w w':World} {G G':ZE} {n:Nat} {F:Fr} {a:Act}
theorem FR.mono (h:FR w G n F a) (hA:Vu G w w' G'):FR w' G' n F a:=⟨h.defers,h.size,fun t=>(h.get t).mono hA⟩
theorem FR.ev (h:FR w G n F a) (x:Operand):RV w G (F.ev x) (a.eval x):=by
 cases x with
 | tmp t=>exact h.get t
 | const v=>exact RV.ofVal v
 | global g=>exact .val
 | func f=>exact .val
theorem FR.put (h:FR w G n F a) {d:Option Tmp} {x:AV} {v:Value} (hd:∀t,d=some t->t<n) (hx:RV w G x v):FR w G n (F.put d x) (a.put d v):=by
 cases d with
 | none=>exact h
 | some d=>
  have hlt:=hd d rfl
  refine ⟨h.defers,by simp [Act.put,h.size],fun t=>?_⟩
  show RV w G (match Nat.beq d t with|true=>x|false=>Fr.get F t) ((a.tmps.setIfInBounds d v).getD t undef)
  by_cases e:d=t
  ·subst e
   have:Nat.beq d d=true:=Nat.beq_refl d
   rw [this]
   simp [h.size,hlt,hx]
  ·have hb:Nat.beq d t=false:=by
    cases hh:Nat.beq d t
    ·rfl
    ·exact absurd (U6 hh) e
   rw [hb]
   have:=h.get t
   simpa [Array.getElem?_setIfInBounds_ne e] using this
end
def Fr.Le (F F':Fr):Prop:=∀w G v t,RV w G (F.get t) v->RV w G (F'.get t) v
theorem FR.le {w:World} {G:ZE} {n:Nat} {F F':Fr} {a:Act} (h:FR w G n F a) (hle:F.Le F'):FR w G n F' a:=
 ⟨h.defers,h.size,fun t=>hle _ _ _ _ (h.get t)⟩
abbrev Wz:=Exit->Fr->List Res->Prop
def Jc (n:Nat) (A:Wz) (w:World) (G:ZE) (h:List Res) (e:Exit) (a':Act) (w':World):Prop:=
 ∃F' h' G',A e F' h'/\FR w' G' n F' a'/\ZW w' G' h'/\Yr w G h w' G' h'
theorem Jc.trans {n:Nat} {A:Wz} {w w' w'':World} {G G':ZE} {h h':List Res} {e:Exit} {a:Act} (x:Yr w G h w' G' h') (c:Jc n A w' G' h' e a w'') :
  Jc n A w G h e a w'':=by
 obtain ⟨F,k,G'',h1,h2,h3,h4⟩:=c
 exact ⟨F,k,G'',h1,h2,h3,x.trans h4⟩
theorem Jc.mono {n:Nat} {A B:Wz} {w w':World} {G:ZE} {h:List Res} {e:Exit} {a:Act} (hAB:∀e F h,A e F h->B e F h) (c:Jc n A w G h e a w') :
  Jc n B w G h e a w':=by
 obtain ⟨F,k,G'',h1,h2,h3,h4⟩:=c
 exact ⟨F,k,G'',hAB _ _ _ h1,h2,h3,h4⟩
def ZY (P:Program) (n:Nat) (c:Code) (A:Wz) (F:Fr) (h:List Res):Prop:=
 ∀w G a,FR w G n F a->ZW w G h->c.wp P (Jc n A w G h) a w
def Wg (P:Program) (f:FuncId) (args:List AV) (h:List Res) (R:AV->List Res->Prop):Prop:=
 ∀w G vs,Y9 w G args vs->ZW w G h ->
  Calls P f vs.toArray w fun e w'=>∃v r h' G',e=.returned v/\R r h'/\RV w' G' r v/\ZW w' G' h'/\Yr w G h w' G' h'
theorem Wg.mono {P:Program} {f:FuncId} {args:List AV} {h:List Res} {R R':AV->List Res->Prop} (H:Wg P f args h R) (hR:∀r h',R r h'->R' r h') :
  Wg P f args h R':=fun w G vs ha hh=>(H w G vs ha hh).mono fun _ _ ⟨v,r,h',G',h1,h2,h3⟩=>⟨v,r,h',G',h1,hR _ _ h2,h3⟩
def XU (P:Program) (n:Nat) (o:Oper) (F:Fr) (h:List Res) (K:Fr->List Res->Prop):Prop:=
 ∀(Q:Exit->Act->World->Prop) w G a,FR w G n F a->ZW w G h ->
  o.wp P a w (fun a' w'=>∃F' h' G',K F' h'/\FR w' G' n F' a'/\ZW w' G' h'/\Yr w G h w' G' h') Q
def V7 (n:Nat) (o:Oper):Bool:=match o.dst with|some d=>Nat.blt d n|none=>true
theorem UB {n:Nat} {o:Oper} (h:V7 n o=true):∀t,o.dst=some t->t<n:=by
 intro t ht
 simp [V7,ht] at h
 exact h
def X8 (P:Program) (o:Oper) (F:Fr) (h:List Res) (ks:List Nat) (x:AV):Prop:=
 ∀n w G a,FR w G n F a->ZW w G h->∃v,RV w G x v /\
  ∀w',(∀b o,G b o->w'.cell? ⟨b,o,none⟩=w.cell? ⟨b,o,none⟩)->(∀b∈ks,w'.heap[b]? = w.heap[b]?)->(execOp a.eval o).run P w'=.ok (.value v) w'
theorem X8.op {P:Program} {n:Nat} {o:Oper} {F:Fr} {h:List Res} {ks:List Nat} {x:AV} {K:Fr->List Res->Prop} (hs:X8 P o F h ks x) (hd:V7 n o=true)
  (hK:K (F.put o.dst x) h):XU P n o F h K:=by
 intro Q w G a hF hh
 obtain ⟨v,hv,hr⟩:=hs n w G a hF hh
 unfold Oper.wp
 rw [hr w (fun _ _ _=>rfl) (fun _ _=>rfl)]
 exact ⟨_,h,G,hK,hF.put (UB hd) hv,hh,Yr.refl _ _ _⟩
def CA (op:BinOp) (k:IntKind) (a b:Int):Option Value:=
 match op with
 | .add=>some (.int k (k.wrap (a+b)))
 | .sub=>some (.int k (k.wrap (a-b)))
 | .mul=>some (.int k (k.wrap (a*b)))
 | .eql=>some (.bool (a==b))
 | .neq=>some (.bool (a != b))
 | .lss=>some (.bool (decide (a<b)))
 | .leq=>some (.bool (decide (a<=b)))
 | .gtr=>some (.bool (decide (a>b)))
 | .geq=>some (.bool (decide (a>=b)))
 | _=>none
def D8:IntKind->IntKind->Bool
 | .i8,.i8 | .i16,.i16 | .i32,.i32 | .i64,.i64 | .u8,.u8 | .u16,.u16 | .u32,.u32 | .u64,.u64=>true
 | _,_=>false
theorem Zad {a b:IntKind} (h:D8 a b=true):a=b:=by cases a<;>cases b<;>first|rfl|(simp [D8] at h)
def AX (P:Program) (t:TypeId):Option (Array Field):=
 match P.underlying t with
 | some (.struct fs)=>some fs
 | _=>none
def BP (P:Program) (t:TypeId):Option Bool:=
 match P.underlying t with
 | some (.struct _) | some (.array _ _)=>some true
 | some _=>some false
 | none=>none
def CD (P:Program) (t:TypeId) (f:Nat):Option Nat:=
 match AX P t with
 | some fs=>match fs[f]? with
  | some fd=>match (P.info? fd.type) with
   | some i=>match Nat.beq i.size 0 with | true=>none | false=>some fd.offset
   | none=>none
  | none=>none
 | none=>none
def JD (P:Program) (t:TypeId) (ls:List AV):Option AV:=
 match BP P t,P.info? t with
 | some true,some i=>match Nat.ble i.size ls.length with | true=>some (.agg (ls.take i.size)) | false=>none
 | some false,some _=>ls.head?
 | _,_=>none
def AV.one:AV->Bool
 | .val v=>v.oneCell'
 | .sl _ _=>true
 | .rp _=>true
 | _=>false
def AV.fit:AV->Bool
 | .agg _=>true
 | x=>x.one
def Jr (place:Nat->Option (Nat × Nat)) (ls:List AV):List (Nat × AV)->Option (List AV)
 | []=>some ls
 | (i,x)::rest=>
  match place i with
  | none=>none
  | some (off,size)=>match x.fit&&(Nat.beq x.leaves.length size&&Nat.ble (off+size) ls.length) with
   | true=>Jr place (ls.take off++x.leaves++ls.drop (off+size)) rest
   | false=>none
def C7 (P:Program) (t:TypeId):Option (List AV):=
 match P.info? t with
 | some i=>match i.zero with
  | some z=>some (z.cells.toList.map AV.ofVal)
  | none=>none
 | none=>none
def D3 (P:Program) (fs:Array Field) (i:Nat):Option (Nat × Nat):=
 match fs[i]? with
 | some f=>match P.info? f.type with
  | some j=>some (f.offset,j.size)
  | none=>none
 | none=>none
def Na (P:Program) (fs:Array Field):Bool:=fs.toList.all fun f=>(P.info? f.type).isSome
def Kl:List AV->Option (List Value)
 | []=>some []
 | .val v::r=>match Kl r with | some vs=>some (v::vs) | none=>none
 | _::_=>none
def TD (P:Program) (o:Oper) (F:Fr) (h:List Res) (hint:Nat):Option (AV × List (Nat × Nat)):=
 match o.op with
 | .move x | .assign x=>some (F.ev x,[])
 | .pick c a b=>match F.ev c with
  | .val (.bool true)=>some (F.ev a,[])
  | .val (.bool false)=>some (F.ev b,[])
  | _=>none
 | .binOp op _ x y _=>match F.ev x,F.ev y with
  | .val (.int k a),.val (.int k' b)=>match D8 k k' with
   | true=>match CA op k a b with
    | some v=>some (.val v,[])
    | none=>none
   | false=>none
  | _,_=>none
 | .unOp op _ x=>match op,F.ev x with
  | .not,.val (.bool b)=>some (.val (.bool (!b)),[])
  | _,_=>none
 | .nilCheck x=>match F.ev x with
  | .val (.pointer (some a))=>some (.val (.pointer (some a)),[])
  | .rp ls=>some (.rp ls,[])
  | .val (.func (.func f) p c)=>some (.val (.func (.func f) p c),[])
  | _=>none
 | .fieldAddr s x f=>match CD P s f with
  | some off=>match F.ev x with
   | .rp ls=>some (.rp (ls.drop off),[])
   | .val (.pointer (some ⟨b,o,none⟩))=>some (.val (.pointer (some ⟨b,o+off,none⟩)),[])
   | _=>none
  | none=>none
 | .field s x f=>match CD P s f,AX P s with
  | some off,some fs=>match fs[f]? with
   | some fd=>match F.ev x with
    | .agg ls=>match JD P fd.type (ls.drop off) with
     | some v=>some (v,[])
     | none=>none
    | _=>none
   | none=>none
  | _,_=>none
 | .load t x=>match F.ev x with
  | .rp ls=>match JD P t ls with
   | some v=>some (v,[])
   | none=>none
  | .val (.pointer (some ⟨b,o,none⟩))=>match h[hint]? with
   | some (.obj b' ls)=>match JD P t (ls.drop o) with
    | some v=>some (v,[(b,b')])
    | none=>none
   | _=>none
  | _=>none
 | .extract x i=>match F.ev x with
  | .tup vs=>match vs[i]? with
   | some v=>some (v,[])
   | none=>none
  | _=>none
 | .build t parts=>match AX P t,C7 P t with
  | some fs,some z=>match Na P fs with
   | true=>match Jr (D3 P fs) z (parts.toList.map fun p=>(p.1,F.ev p.2)) with
    | some ls=>some (.agg ls,[])
    | none=>none
   | false=>none
  | _,_=>none
 | .makeFunc fn first captured=>match Kl (first.toList.map F.ev),Kl (captured.toList.map F.ev) with
  | some vs,some us=>some (.val (.func fn vs.toArray us.toArray),[])
  | _,_=>none
 | .call c=>match c.callee,c.args.toList,c.argTypes.toList with
  | .builtin .len,[x],[t]=>match P.underlying t with
   | some (.slice _)=>match F.ev x with
    | .sl es _=>some (.val (.int .i64 (es.length:Int)),[])
    | .val (.slice _ len _)=>some (.val (.int .i64 (len:Int)),[])
    | _=>none
   | _=>none
  | _,_,_=>none
 | _=>none
theorem Vr {P:Program} {t:TypeId} {d:TypeDesc} (h:P.underlying t=some d) (w:World):(underlying t).run P w=.ok d w:=by
 simp [underlying,h]
theorem D7 {P:Program} {t:TypeId} {i:TypeInfo} (h:P.info? t=some i) (w:World):(typeInfo t).run P w=.ok i w:=by
 simp [typeInfo,h]
theorem Q4 {P:Program} {t:TypeId} {i:TypeInfo} (h:P.info? t=some i) (w:World):(sizeOf t).run P w=.ok i.size w:=by
 simp [sizeOf,D7 h]
theorem Hm {P:Program} {t:TypeId} {fs:Array Field} (h:AX P t=some fs):P.underlying t=some (.struct fs):=by
 unfold AX at h
 split at h
 ·simp_all
 ·cases h
theorem C0 {P:Program} {t:TypeId} {b:Bool} (h:BP P t=some b) (w:World):(isAgg t).run P w=.ok b w:=by
 unfold BP at h
 split at h
 ·rename_i h';cases h;simp [isAgg,Vr h']
 ·rename_i h';cases h;simp [isAgg,Vr h']
 ·rename_i d hd1 hd2 h'
  cases h
  simp [isAgg,Vr h']
 ·cases h
theorem N9 {P:Program} {s:TypeId} {f off:Nat} (h:CD P s f=some off) :
  ∃fs fd i,P.underlying s=some (.struct fs)/\fs[f]? = some fd/\P.info? fd.type=some i/\i.size≠0/\fd.offset=off:=by
 unfold CD at h
 cases h1:AX P s with
 | none=>simp [h1] at h
 | some fs=>
  cases h2:fs[f]? with
  | none=>simp [h1,h2] at h
  | some fd=>
   cases h3:P.info? fd.type with
   | none=>simp [h1,h2,h3] at h
   | some i=>
    cases h4:Nat.beq i.size 0 with
    | true=>simp [h1,h2,h3,h4] at h
    | false=>
     simp [h1,h2,h3,h4] at h
     refine ⟨fs,fd,i,Hm h1,h2,h3,fun h0=>?_,h⟩
     rw [h0] at h4
     cases h4
theorem Ji (b o n:Nat):(⟨b,o,none⟩:Addr).add n=⟨b,o+n,none⟩:=by
 unfold Addr.add;split<;>simp_all
theorem PE {P:Program} {s:TypeId} {f off b o:Nat} (h:CD P s f=some off) (w:World) :
  (Instr.fieldAt s (.pointer (some ⟨b,o,none⟩)) f).run P w=.ok (.pointer (some ⟨b,o+off,none⟩)) w:=by
 obtain ⟨fs,fd,i,h1,h2,h3,h4,rfl⟩:=N9 h
 simp [Instr.fieldAt,Vr h1,h2,Instr.sureAddr,fieldPlace,Q4 h3,h4,Ji]
theorem EZ {P:Program} {t:TypeId} {ls:List AV} {x:AV} {w0:World} {G:ZE} {b o:Nat} {cs:List Value} (hx:JD P t ls=some x) (hcs:Y9 w0 G ls cs) :
  ∃v,RV w0 G x v/\∀w',(∀j u,cs[j]? = some u->w'.cell? ⟨b,o+j,none⟩=some u)->(loadVar t ⟨b,o,none⟩).run P w'=.ok v w':=by
 unfold JD at hx
 cases hb:BP P t with
 | none=>simp [hb] at hx
 | some g=>
  cases hi:P.info? t with
  | none=>cases g<;>simp [hb,hi] at hx
  | some i=>
   cases g with
   | true=>
    simp only [hb,hi] at hx
    cases hle:Nat.ble i.size ls.length with
    | false=>simp [hle] at hx
    | true=>
     simp only [hle,Xo] at hx
     subst hx
     have hlen:i.size<=ls.length:=Ks hle
     refine ⟨_,.agg (hcs.take i.size),fun w' hc=>?_⟩
     have YD:(cs.take i.size).length=i.size:=by simp [hcs.length,hlen]
     have:=run_loadCells_list (P:=P) (w:=w') ⟨b,o,none⟩ (cs.take i.size) (fun j v hj=>by
      rw [Ji]
      rw [TN] at hj
      split at hj
      ·exact hc j v hj
      ·cases hj)
     rw [YD] at this
     simp [loadVar,C0 hb,Q4 hi,this]
   | false=>
    simp only [hb,hi] at hx
    cases hcs with
    | nil=>simp at hx
    | cons h1 h2=>
     rename_i c vs xs
     simp at hx
     subst hx
     refine ⟨_,h1,fun w' hc=>?_⟩
     have:=hc 0 c (by simp)
     simp only [Bi] at this
     simp only [loadVar,Sem.run_bind,C0 hb,Result.andThen_ok]
     simp [load,Sem.run,this]
theorem Vd {P:Program} {x:Sem Value} {w w':World} {v:Value} (h:x.run P w=.ok v w') :
  (do pure (Next.value (<-x)):Sem Next).run P w=.ok (.value v) w':=by
 simp [h]
theorem IZ {w:World} {G:ZE} {a:Act} {n:Nat} {F:Fr} (hF:FR w G n F a):∀{xs:List Operand} {vs:List Value},Kl (xs.map F.ev)=some vs->xs.map a.eval=vs
 | [],vs,h=>by simp [Kl] at h;simp [h]
 | x::xs,vs,h=>by
  simp only [Ww] at h ⊢
  have hx:=hF.ev x
  cases he:F.ev x with
  | val v=>
   simp only [he,Kl] at h
   cases h2:Kl (xs.map F.ev) with
   | none=>simp [h2] at h
   | some us=>
    simp [h2] at h
    rw [he] at hx
    cases hx
    rw [IZ hF h2,h]
  | any=>simp [he,Kl] at h
  | sl es hv=>simp [he,Kl] at h
  | agg ls=>simp [he,Kl] at h
  | rp ls=>simp [he,Kl] at h
  | tup vs=>simp [he,Kl] at h
theorem Z3i {P:Program} {op:BinOp} {k:IntKind} {a b:Int} {v:Value} (h:CA op k a b=some v) (xt:TypeId) (x y:Operand) (w:World) :
  (do eqGuard op xt x y (.int k a) (.int k b);binOp op xt (.int k a) (.int k b)).run P w=.ok v w:=by
 cases op<;>simp [CA] at h<;>subst h<;>simp [eqGuard,binOp,Op.intArith,Op.intCmp]
theorem RV.val_inv {w:World} {G:ZE} {v u:Value} (h:RV w G (.val v) u):u=v:=by cases h;rfl
theorem RV.one_cell {w:World} {G:ZE} {x:AV} {v:Value} (h:RV w G x v) (hx:x.one=true):v.oneCell'=true:=by
 cases h with
 | val=>exact hx
 | nil=>rfl
 | sl=>rfl
 | rp=>rfl
 | any=>simp [AV.one] at hx
 | agg=>simp [AV.one] at hx
 | tup=>simp [AV.one] at hx
theorem Gi {v:Value} (h:v.oneCell'=true):v.cells.toList=[v]:=by
 cases v<;>first|rfl|(simp [Value.oneCell'] at h)
theorem RV.cells {w:World} {G:ZE} {x:AV} {v:Value} (h:RV w G x v) (hx:x.fit=true):Y9 w G x.leaves v.cells.toList:=by
 cases x with
 | agg ls=>cases h with | agg hh=>simpa [AV.leaves,Value.cells] using hh
 | any=>simp [AV.fit,AV.one] at hx
 | tup vs=>simp [AV.fit,AV.one] at hx
 | val u=>rw [Gi (h.one_cell hx)];exact .cons h .nil
 | sl es hv=>rw [Gi (h.one_cell rfl)];exact .cons h .nil
 | rp ls=>rw [Gi (h.one_cell rfl)];exact .cons h .nil
theorem Y9.one_cells {w:World} {G:ZE}:∀{xs:List AV} {vs:List Value},Y9 w G xs vs->xs.all AV.one=true->∀v∈vs,v.oneCell'=true
 | _,_,.nil,_,v,hv=>by simp at hv
 | _,_,.cons h t,hx,v,hv=>by
  simp only [List.all_cons,Xs] at hx
  rcases Yw.1 hv with rfl|hv
  ·exact h.one_cell hx.1
  ·exact t.one_cells hx.2 v hv
theorem PL (off:Nat):∀(vs:List Value) (i:Nat) (cs:Array Value),off+i+vs.length<=cs.size ->
  ((vs.zipIdx i).foldl (fun (cs:Array Value) (p:Value × Nat)=>cs.setIfInBounds (off+p.2) p.1) cs).toList=cs.toList.take (off+i)++vs++cs.toList.drop (off+i+vs.length)
 | [],i,cs,h=>by simp
 | v::vs,i,cs,h=>by
  simp only [List.zipIdx_cons,List.foldl_cons]
  rw [PL off vs (i+1) _ (by simp at h ⊢;omega)]
  have e:=list_seg_step cs.toList (off+i) v vs (by simp at h ⊢;omega)
  simpa [Array.toList_setIfInBounds,Dz] using e
theorem GR {w:World} {G:ZE} {place:Nat->Option (Nat × Nat)}:∀{parts:List (Nat × AV)} {vps:List (Nat × Value)} {ls out:List AV} {cs:Array Value},
  Jr place ls parts=some out->parts.map (·.1)=vps.map (·.1)->Y9 w G (parts.map (·.2)) (vps.map (·.2))->Y9 w G ls cs.toList ->
  ∃cs',Instr.fill place cs vps=some cs'/\Y9 w G out cs'.toList
 | [],vps,ls,out,cs,h,h1,h2,h3=>by
  cases vps with
  | nil=>simp [Jr] at h;subst h;exact ⟨cs,rfl,h3⟩
  | cons p r=>simp at h1
 | (i,x)::rest,vps,ls,out,cs,h,h1,h2,h3=>by
  cases vps with
  | nil=>simp at h1
  | cons p r=>
   obtain ⟨j,v⟩:=p
   simp only [Ww,List.cons.injEq] at h1 h2
   obtain ⟨rfl,h1⟩:=h1
   cases h2 with
   | cons hx ht=>
    simp only [Jr] at h
    cases hp:place i with
    | none=>simp [hp] at h
    | some os=>
     obtain ⟨off,size⟩:=os
     simp only [hp] at h
     cases hc:(x.fit&&(Nat.beq x.leaves.length size&&Nat.ble (off+size) ls.length)) with
     | false=>simp [hc] at h
     | true=>
      simp only [hc] at h
      simp only [Xs] at hc
      have e1:x.leaves.length=size:=U6 hc.2.1
      have e2:off+size<=ls.length:=Ks hc.2.2
      have hl:=h3.length
      have hxc:=hx.cells hc.1
      have hvl:v.cells.size=size:=by have:=hxc.length;simpa [e1] using this
      have hcl:cs.size=ls.length:=by simpa using hl
      have key:Y9 w G (ls.take off++x.leaves++ls.drop (off+size))
        (v.cells.zipIdx.foldl (fun (cs:Array Value) (p:Value × Nat)=>cs.setIfInBounds (off+p.2) p.1) cs).toList:=by
       have:=PL off v.cells.toList 0 cs (by simp [hvl,hcl];omega)
       rw [<-Array.foldl_toList,Array.toList_zipIdx,this]
       simp only [Bi,KP,hvl]
       exact ((h3.take off).append hxc).append (h3.drop (off+size))
      obtain ⟨cs',k1,k2⟩:=GR h h1 ht key
      refine ⟨cs',?_,k2⟩
      simp only [Instr.fill,hp]
      rw [Z4 (by simp [hvl,hcl];omega)]
      exact k1
theorem S4 {P:Program} {t:TypeId} {ls:List AV} (h:C7 P t=some ls) :
  ∃i z,P.info? t=some i/\i.zero=some z/\ls=z.cells.toList.map AV.ofVal:=by
 unfold C7 at h
 cases hi:P.info? t with
 | none=>simp [hi] at h
 | some i=>
  cases hz:i.zero with
  | none=>simp [hi,hz] at h
  | some z=>simp [hi,hz] at h;exact ⟨i,z,rfl,hz,h.symm⟩
theorem Y9.ofVals {w:World} {G:ZE}:∀(vs:List Value),Y9 w G (vs.map AV.ofVal) vs
 | []=>.nil
 | v::vs=>.cons (RV.ofVal v) (Y9.ofVals vs)
theorem Y9.map {w:World} {G:ZE} {α:Type} (f:α->AV) (g:α->Value):∀(xs:List α),(∀x∈xs,RV w G (f x) (g x))->Y9 w G (xs.map f) (xs.map g)
 | [],_=>.nil
 | x::xs,h=>.cons (h x (by simp)) (Y9.map f g xs fun y hy=>h y (by simp [hy]))
theorem PH {P:Program} (w:World):∀(l:List Field),(l.all fun f=>(P.info? f.type).isSome)=true ->
  (List.mapM (m:=Sem) (fun f=>Functor.map (Prod.mk f.offset) (sizeOf f.type)) l).run P w=.ok (l.map fun f=>(f.offset,((P.info? f.type).map (·.size)).getD 0)) w
 | [],_=>by simp
 | f::l,h=>by
  simp only [List.all_cons,Xs] at h
  cases hfi:P.info? f.type with
  | none=>simp [hfi] at h
  | some j=>simp [Q4 hfi,PH w l h.2,hfi]
theorem Za6 {P:Program} {t:TypeId} {fs:Array Field} {z ls:List AV} {w:World} {G:ZE} {n:Nat} {F:Fr} {a:Act} (hF:FR w G n F a) (parts:Array (Nat × Operand))
  (h1:AX P t=some fs) (h2:C7 P t=some z) (h4:Na P fs=true) (h3:Jr (D3 P fs) z (parts.toList.map fun p=>(p.1,F.ev p.2))=some ls) :
  ∃v,RV w G (.agg ls) v/\∀w',(Instr.build t (parts.map fun (i,x)=>(i,a.eval x))).run P w'=.ok v w':=by
 obtain ⟨i,zv,hi,hz,rfl⟩:=S4 h2
 have hu:=Hm h1
 have hpl:∀k,((fs.toList.map fun f=>(f.offset,((P.info? f.type).map (·.size)).getD 0)).toArray)[k]? = D3 P fs k:=by
  intro k
  unfold D3
  simp only [List.getElem?_toArray,Th,Bd]
  cases hk:fs[k]? with
  | none=>rfl
  | some f=>
   have hf:(P.info? f.type).isSome=true:=by
    have:=Be.1 h4 f (by rw [Array.mem_toList_iff];exact Array.mem_of_getElem? hk)
    exact this
   cases hfi:P.info? f.type with
   | none=>simp [hfi] at hf
   | some j=>simp [hfi]
 obtain ⟨cs',k1,k2⟩:=GR (w:=w) (G:=G) (vps:=parts.toList.map fun p=>(p.1,a.eval p.2)) h3 (by simp [List.map_map,Function.comp_def])
  (by simpa [List.map_map,Function.comp_def] using Y9.map (fun p:Nat × Operand=>F.ev p.2) (fun p=>a.eval p.2) parts.toList fun p _=>hF.ev p.2)
  (cs:=zv.cells) (Y9.ofVals _)
 refine ⟨_,.agg (cs:=cs'.toList) k2,fun w'=>?_⟩
 have hz':(zeroValue t).run P w'=.ok zv w':=by simp [zeroValue,D7 hi,hz]
 have hm:=PH (P:=P) w' fs.toList h4
 have hfun:(fun k=>((fs.toList.map fun f=>(f.offset,((P.info? f.type).map (·.size)).getD 0)).toArray)[k]?)=D3 P fs:=funext hpl
 simp only [Instr.build,Sem.run_bind,hz',Result.andThen_ok,Vr hu,Array.mapM_eq_mapM_toList]
 simp [hm,hpl,k1,Array.toList_map]
theorem BC {P:Program} {o:Oper} {F:Fr} {h:List Res} {hint:Nat} {x:AV} {eqs:List (Nat × Nat)} (he:TD P o F h hint=some (x,eqs))
  (heq:∀p∈eqs,p.1=p.2):X8 P o F h (eqs.map (·.1)) x:=by
 intro n w G a hF hh
 obtain ⟨dst,op,type,pos,after,guard⟩:=o
 cases op<;>simp only [TD] at he
 case move y=>
  cases he
  exact ⟨_,hF.ev y,fun w' _ _=>by simp [execOp]⟩
 case assign y=>
  cases he
  exact ⟨_,hF.ev y,fun w' _ _=>by simp [execOp]⟩
 case pick c y z=>
  have hc:=hF.ev c
  split at he
  ·rename_i hb
   cases he
   rw [hb] at hc
   have hc:=hc.val_inv
   exact ⟨_,hF.ev y,fun w' _ _=>by simp [execOp,hc,asBool]⟩
  ·rename_i hb
   cases he
   rw [hb] at hc
   have hc:=hc.val_inv
   exact ⟨_,hF.ev z,fun w' _ _=>by simp [execOp,hc,asBool]⟩
  ·cases he
 case binOp bop xt y z yt=>
  have hy:=hF.ev y
  have hz:=hF.ev z
  split at he
  ·rename_i k p k' q h1 h2
   rw [h1] at hy
   rw [h2] at hz
   have hy:=hy.val_inv
   have hz:=hz.val_inv
   split at he
   ·rename_i hk
    have hk:=Zad hk
    subst hk
    split at he
    ·rename_i v hv
     cases he
     refine ⟨v,.val,fun w' _ _=>?_⟩
     have:=Z3i (P:=P) hv xt y z w'
     simp only [execOp,hy,hz]
     exact Vd this
    ·cases he
   ·cases he
  ·cases he
 case unOp uop xt y=>
  have hy:=hF.ev y
  split at he
  ·rename_i b hb
   cases he
   rw [hb] at hy
   have hy:=hy.val_inv
   exact ⟨_,.val,fun w' _ _=>by simp [execOp,hy,Op.unary]⟩
  ·cases he
 case nilCheck y=>
  have hy:=hF.ev y
  generalize hv:a.eval y=u at hy
  split at he
  ·rename_i ad hb
   cases he
   rw [hb] at hy
   have hy:=hy.val_inv
   exact ⟨_,.val,fun w' _ _=>by simp [execOp,hv,hy]⟩
  ·rename_i ls hb
   cases he
   rw [hb] at hy
   cases hy with
   | rp hm=>exact ⟨_,.rp hm,fun w' _ _=>by simp [execOp,hv]⟩
  ·rename_i f p c hb
   cases he
   rw [hb] at hy
   have hy:=hy.val_inv
   exact ⟨_,.val,fun w' _ _=>by simp [execOp,hv,hy]⟩
  ·cases he
 case fieldAddr s y f=>
  have hy:=hF.ev y
  generalize hv:a.eval y=u at hy
  split at he
  ·rename_i off hoff
   split at he
   ·rename_i ls hb
    cases he
    rw [hb] at hy
    cases hy with
    | rp hm=>
     refine ⟨_,.rp (hm.drop off),fun w' _ _=>?_⟩
     simp only [execOp,hv]
     exact Vd (PE hoff w')
   ·rename_i b o' hb
    cases he
    rw [hb] at hy
    have hy:=hy.val_inv
    subst hy
    refine ⟨_,.val,fun w' _ _=>?_⟩
    simp only [execOp,hv]
    exact Vd (PE hoff w')
   ·cases he
  ·cases he
 case field s y f=>
  have hy:=hF.ev y
  generalize hv:a.eval y=u at hy
  split at he
  ·rename_i off fs hoff hfs
   split at he
   ·rename_i fd hfd
    split at he
    ·rename_i ls hb
     split at he
     ·rename_i v hl
      cases he
      rw [hb] at hy
      cases hy with
      | agg hc=>
       rename_i cs
       obtain ⟨fs',fd',i,k1,k2,k3,k4,rfl⟩:=N9 hoff
       have k0:=Hm hfs
       rw [k0] at k1
       cases k1
       rw [hfd] at k2
       cases k2
       have hd:=hc.drop fd.offset
       unfold JD at hl
       cases hg:BP P fd.type with
       | none=>simp [hg] at hl
       | some g=>
        cases g with
        | true=>
         simp only [hg,k3] at hl
         cases hle:Nat.ble i.size (ls.drop fd.offset).length with
         | false=>rw [hle] at hl;cases hl
         | true=>
          rw [hle] at hl
          simp only [Xo] at hl
          subst hl
          refine ⟨_,.agg (hd.take i.size),fun w' _ _=>?_⟩
          simp only [execOp,hv]
          refine Vd ?_
          simp only [Instr.field,Sem.run_bind,Vr k0,Result.andThen_ok,hfd]
          simp [asAgg,part,C0 hg,Q4 k3]
        | false=>
         simp only [hg,k3] at hl
         generalize hls:ls.drop fd.offset=ls' at hl hd
         generalize hcs:cs.drop fd.offset=cs' at hd
         cases hd with
         | nil=>simp at hl
         | cons h1 h2=>
          rename_i c vs xs
          simp at hl
          subst hl
          refine ⟨_,h1,fun w' _ _=>?_⟩
          simp only [execOp,hv]
          refine Vd ?_
          have hget:cs[fd.offset]? = some c:=by
           have:=Yp (fun l=>l[0]?) hcs
           simpa using this
          simp only [Instr.field,Sem.run_bind,Vr k0,Result.andThen_ok,hfd]
          simp [asAgg,part,C0 hg,hget]
     ·cases he
    ·cases he
   ·cases he
  ·cases he
 case load t y=>
  have hy:=hF.ev y
  generalize hv:a.eval y=u at hy
  split at he
  ·rename_i ls hb
   split at he
   ·rename_i v hl
    cases he
    rw [hb] at hy
    cases hy with
    | rp hm=>
     rename_i b o'
     obtain ⟨cs,Z5,Zd⟩:=hm.cells
     obtain ⟨v',h1,h2⟩:=EZ (b:=b) (o:=o') hl Z5
     refine ⟨v',h1,fun w' hw _=>?_⟩
     simp only [execOp,hv]
     refine Vd ?_
     simp only [Instr.loadAt,Instr.sureAddr,Sem.run_bind,Sem.run_pure,Result.andThen_ok]
     exact h2 w' fun j u hj=>(hw _ _ (Zd j u hj).2).trans (Zd j u hj).1
   ·cases he
  ·rename_i b o' hb
   split at he
   ·rename_i b' ls hh'
    split at he
    ·rename_i v hl
     cases he
     rw [hb] at hy
     have hy:=hy.val_inv
     subst hy
     have hbb:b=b':=heq (b,b') (by simp)
     subst hbb
     obtain ⟨cs,e,k1,k2⟩:=hh.ok _ (YA hh')
     obtain ⟨v',h1,h2⟩:=EZ (b:=b) (o:=o') hl (k2.drop o')
     refine ⟨v',h1,fun w' _ hw=>?_⟩
     simp only [execOp,hv]
     refine Vd ?_
     simp only [Instr.loadAt,Instr.sureAddr,Sem.run_bind,Sem.run_pure,Result.andThen_ok]
     refine h2 w' fun j u hj=>?_
     have:=hw b (by simp)
     rw [k1] at this
     rw [cell_of_row w' b (o'+j) cs e (0,0) this]
     simpa using hj
    ·cases he
   ·cases he
  ·cases he
 case extract y i=>
  have hy:=hF.ev y
  generalize hv:a.eval y=u at hy
  split at he
  ·rename_i vs hb
   split at he
   ·rename_i v hl
    cases he
    rw [hb] at hy
    cases hy with
    | tup hc=>
     rename_i cs
     obtain ⟨c,h1,h2⟩:=hc.get i _ hl
     exact ⟨c,h2,fun w' _ _=>by simp [execOp,hv,Instr.extract,h1]⟩
   ·cases he
  ·cases he
 case build t parts=>
  split at he
  ·rename_i fs z h1 h2
   split at he
   ·rename_i h4
    split at he
    ·rename_i ls h3
     cases he
     obtain ⟨v,hv1,hv2⟩:=Za6 hF parts h1 h2 h4 h3
     exact ⟨v,hv1,fun w' _ _=>by simp only [execOp];exact Vd (hv2 w')⟩
    ·cases he
   ·cases he
  ·cases he
 case makeFunc fn first captured=>
  split at he
  ·rename_i vs us h1 h2
   cases he
   have e1:=IZ hF h1
   have e2:=IZ hF h2
   refine ⟨_,.val,fun w' _ _=>?_⟩
   have e1':first.map a.eval=vs.toArray:=by rw [<-e1,<-Array.toList_map,VM]
   have e2':captured.map a.eval=us.toArray:=by rw [<-e2,<-Array.toList_map,VM]
   simp only [execOp]
   exact Vd (by simp only [Instr.makeFunc,e1',e2'];simp)
  ·cases he
 case call c=>
  obtain ⟨callee,args,argTypes⟩:=c
  simp only at he
  split at he
  ·rename_i y t hargs htys
   split at he
   ·rename_i el hu
    have hy:=hF.ev y
    generalize hv:a.eval y=u at hy
    have ha:args=#[y]:=by rw [<-VM (xs:=args),hargs]
    have ht:argTypes=#[t]:=by rw [<-VM (xs:=argTypes),htys]
    subst ha;subst ht
    split at he
    ·rename_i es hv' hb
     cases he
     rw [hb] at hy
     refine ⟨.int .i64 es.length,.val,fun w' _ _=>?_⟩
     cases hy with
     | nil hx=>simp [execOp,resolve,invoke,builtin,hv,Builtin.len_,Vr hu,goInt]
     | sl hx hc hm=>simp [execOp,resolve,invoke,builtin,hv,Builtin.len_,Vr hu,goInt]
    ·rename_i ad len cap hb
     cases he
     rw [hb] at hy
     have hy:=hy.val_inv
     subst hy
     exact ⟨.int .i64 len,.val,fun w' _ _=>by simp [execOp,resolve,invoke,builtin,hv,Builtin.len_,Vr hu,goInt]⟩
    ·cases he
   ·cases he
  ·cases he
 all_goals (cases he)
def JT (h:List Res) (b:Nat):Prop:=∀s,Res.ge s∈h->s<=b
theorem H4 {w:World} {G:ZE} {h:List Res} (hh:ZW w G h):JT h w.heap.size:=fun _ hs=>hh.ok _ hs
theorem Aa (w:World) (o:Obj):(w.alloc o).heap[w.heap.size]? = some o:=heap_alloc_new w o
theorem KF (w:World) (o:Obj) {b:Nat} (hb:b<w.heap.size):(w.alloc o).heap[b]? = w.heap[b]?:=heap_alloc_old w o b hb
theorem Cm (w:World) (o:Obj) {b j:Nat} (hb:b<w.heap.size):(w.alloc o).cell? ⟨b,j,none⟩=w.cell? ⟨b,j,none⟩:=by
 simp [World.cell?,KF w o hb]
theorem ZW.alloc {w:World} {G:ZE} {h:List Res} (hh:ZW w G h) (o:Obj) {G':ZE} {h':List Res}
  (hsub:∀b o,G b o->G' b o) (hG:∀b o,G' b o->G b o∨b=w.heap.size) (hnew:∀r∈h',Ux (w.alloc o) G' r)
  (hfp:∀r∈h',∀b o,r.fp b o->b=w.heap.size) (hap:h'.Pairwise Je) (hpr:∀r∈h',∀b o,r.fp b o->G' b o->False) :
  ZW (w.alloc o) G' (h'++h)/\Yr w G h (w.alloc o) G' (h'++h):=by
 have hA:Vu G w (w.alloc o) G':=⟨fun b j hg=>Cm w o (hh.lt b j hg),hsub⟩
 have YD:(w.alloc o).heap.size=w.heap.size+1:=by simp
 refine ⟨⟨?_,?_,?_,?_⟩,⟨rfl,rfl,rfl,by omega,hsub,fun b hb=>.inl (KF w o hb),?_,?_⟩⟩
 ·intro r hr
  rcases Yv.1 hr with hr|hr
  ·exact hnew r hr
  ·have h0:=hh.ok r hr
   cases r with
   | obj b ls=>
    obtain ⟨cs,el,h1,h2⟩:=h0
    exact ⟨cs,el,(KF w o (VB.1 h1).1).trans h1,h2.mono hA⟩
   | tail v k=>
    rcases h0 with rfl|⟨g,len,cap,cur,el,rfl,h1,h2,h3⟩
    ·exact .inl rfl
    ·exact .inr ⟨g,len,cap,cur,el,rfl,(KF w o (VB.1 h1).1).trans h1,h2,h3⟩
   | ge s=>exact QR h0 om
   | vec v ls=>
    rcases h0 with ⟨rfl,h0⟩|⟨g,cap,cur,el,rfl,h1,h2,h3,h4⟩
    ·exact .inl ⟨rfl,h0⟩
    ·exact .inr ⟨g,cap,cur,el,rfl,(KF w o (VB.1 h1).1).trans h1,h2,h3,h4.mono hA⟩
   | many ts=>
    refine ⟨fun p hp=>?_,h0.2⟩
    rcases h0.1 p hp with q|⟨g,len,cap,cur,el,q,h1,h2,h3⟩
    ·exact .inl q
    ·exact .inr ⟨g,len,cap,cur,el,q,(KF w o (VB.1 h1).1).trans h1,h2,h3⟩
   | own B m=>
    intro b hB
    obtain ⟨cs,el,h1,h2⟩:=h0 b hB
    exact ⟨cs,el,(KF w o (VB.1 h1).1).trans h1,h2⟩
   | row v k ls=>
    rcases h0 with ⟨rfl,h0⟩|⟨g,len,cap,cur,el,rfl,h1,h2,h3,h4,h5⟩
    ·exact .inl ⟨rfl,h0⟩
    ·exact .inr ⟨g,len,cap,cur,el,rfl,(KF w o (VB.1 h1).1).trans h1,h2,h3,h4,h5.mono hA⟩
   | mp b Q=>obtain ⟨es,c,h1,h2⟩:=h0;exact ⟨es,c,(KF w o (VB.1 h1).1).trans h1,h2⟩
 ·refine KQ.2 ⟨hap,hh.apart,fun r hr r' hr' b j hf hf'=>?_⟩
  have e:=hfp r hr b j hf
  have:=(hh.ok r' hr').lt b j hf'
  omega
 ·intro r hr b j hf hg
  rcases Yv.1 hr with hr|hr
  ·exact hpr r hr b j hf hg
  ·rcases hG b j hg with h1|h1
   ·exact hh.prot r hr b j hf h1
   ·have:=(hh.ok r hr).lt b j hf
    omega
 ·intro b j hg
  rcases hG b j hg with h1|h1
  ·have:=hh.lt b j h1;omega
  ·omega
 ·intro b j hb hg
  rcases hG b j hg with h1|h1
  ·exact .inl h1
  ·omega
 ·intro b j hb hf
  rcases J0.1 hf with ⟨r,hr,h1⟩|h1
  ·have:=hfp r hr b j h1;omega
  ·exact h1
theorem ZW.alloc_obj {w:World} {G:ZE} {h:List Res} (hh:ZW w G h) (cs:Array Value) (t:TypeId) {ls:List AV} (hls:Y9 w G ls cs.toList) :
  ZW (w.alloc (.cells cs t)) G (.obj w.heap.size ls::h)/\Yr w G h (w.alloc (.cells cs t)) G (.obj w.heap.size ls::h):=by
 have hA:Vu G w (w.alloc (.cells cs t)) G:=⟨fun b j hg=>Cm w _ (hh.lt b j hg),fun _ _ h=>h⟩
 refine hh.alloc (.cells cs t) (h':=[.obj w.heap.size ls]) (fun _ _ h=>h) (fun _ _ h=>.inl h) ?_ ?_ (Kq _ _) ?_
 ·intro r hr
  rw [YH.1 hr]
  exact ⟨cs,t,Aa w _,hls.mono hA⟩
 ·intro r hr b j hf
  rw [YH.1 hr] at hf
  exact hf
 ·intro r hr b j hf hg
  rw [YH.1 hr] at hf
  have:=hh.lt b j hg
  have:b=w.heap.size:=hf
  omega
section
variable {P:Program} {n:Nat} {o:Oper} {F:Fr} {h:List Res} {K:Fr->List Res->Prop}
theorem Z8h (t:TypeId) {ls:List AV} (ho:o.op=.alloc t) (hz:C7 P t=some ls) (hd:V7 n o=true)
  (hK:∀b,JT h b->K (F.put o.dst (.val (.pointer (some ⟨b,0,none⟩)))) (.obj b ls::h)):XU P n o F h K:=by
 intro Q w G a hF hh
 obtain ⟨i,z,hi,hzz,rfl⟩:=S4 hz
 have hr:(execOp a.eval o).run P w=.ok (.value (.pointer (some ⟨w.heap.size,0,none⟩))) (w.alloc (.cells z.cells t)):=by
  simp only [execOp,ho]
  simp [Instr.alloc,zeroValue,D7 hi,hzz,newVar,newRow]
 unfold Oper.wp
 rw [hr]
 have hls:Y9 w G (z.cells.toList.map AV.ofVal) z.cells.toList:=Y9.ofVals _
 obtain ⟨h1,h2⟩:=hh.alloc_obj z.cells t hls
 exact ⟨_,_,G,hK _ (H4 hh),(hF.mono (h2.agree hh)).put (UB hd) .val,h1,h2⟩
theorem Z8k (t:TypeId) (x:Operand) {X:AV} (ho:o.op=.box t x) (hx:F.ev x=X) (hfit:X.fit=true) (hd:V7 n o=true)
  (hK:∀b,JT h b->K (F.put o.dst (.val (.pointer (some ⟨b,0,none⟩)))) (.obj b X.leaves::h)):XU P n o F h K:=by
 intro Q w G a hF hh
 have hv:=hF.ev x
 rw [hx] at hv
 have hr:(execOp a.eval o).run P w=.ok (.value (.pointer (some ⟨w.heap.size,0,none⟩))) (w.alloc (.cells (a.eval x).cells t)):=by
  simp only [execOp,ho]
  simp [Instr.box,newVar,newRow]
 unfold Oper.wp
 rw [hr]
 obtain ⟨h1,h2⟩:=hh.alloc_obj (a.eval x).cells t (hv.cells hfit)
 exact ⟨_,_,G,hK _ (H4 hh),(hF.mono (h2.agree hh)).put (UB hd) .val,h1,h2⟩
end
theorem WZ (w:World) (g b:Nat) (cs:Array Value) (hb:b≠g):(w.setRow g cs).heap[b]? = w.heap[b]?:=setRow_other w g b cs hb
theorem ZW.write {w:World} {G:ZE} {h1 h2:List Res} {b:Nat} {ls ls':List AV} (hh:ZW w G (h1++.obj b ls::h2)) {cs cs':Array Value} {e:TypeId}
  (hb:w.heap[b]? = some (.cells cs e (0,0))) (YD:cs'.size=cs.size) (hls:Y9 w G ls' cs'.toList) :
  ZW (w.setRow b cs') G (h1++.obj b ls'::h2)/\Yr w G (h1++.obj b ls::h2) (w.setRow b cs') G (h1++.obj b ls'::h2):=by
 have hmem:Res.obj b ls∈h1++.obj b ls::h2:=by simp
 have hA:Vu G w (w.setRow b cs') G:=⟨fun c j hg=>by
  have hne:c≠b:=fun he=>hh.prot _ hmem c j he hg
  simp [World.cell?,WZ w b c cs' hne],fun _ _ h=>h⟩
 have hfpe:∀c j,Wb (h1++.obj b ls'::h2) c j↔Wb (h1++.obj b ls::h2) c j:=by
  intro c j
  simp only [Wb,Yv,Yw]
  constructor
  ·rintro ⟨r,hr|rfl|hr,hf⟩
   ·exact ⟨r,.inl hr,hf⟩
   ·exact ⟨_,.inr (.inl rfl),hf⟩
   ·exact ⟨r,.inr (.inr hr),hf⟩
  ·rintro ⟨r,hr|rfl|hr,hf⟩
   ·exact ⟨r,.inl hr,hf⟩
   ·exact ⟨_,.inr (.inl rfl),hf⟩
   ·exact ⟨r,.inr (.inr hr),hf⟩
 have hpw:=KQ.1 hh.apart
 have hpw2:=Vm.1 hpw.2.1
 have hother:∀r,(r∈h1∨r∈h2)->∀c j,r.fp c j->c≠b:=by
  intro r hr c j hf hc
  subst hc
  rcases hr with hr|hr
  ·exact hpw.2.2 r hr (.obj c ls) (by simp) c j hf rfl
  ·exact hpw2.1 r hr c j rfl hf
 have hkeep:∀r,(r∈h1∨r∈h2)->Ux w G r->Ux (w.setRow b cs') G r:=by
  intro r hr h0
  cases r with
  | obj c ks=>
   obtain ⟨ds,el,k1,k2⟩:=h0
   have hne:c≠b:=hother _ hr c 0 rfl
   exact ⟨ds,el,(WZ w b c cs' hne).trans k1,k2.mono hA⟩
  | tail v k=>
   rcases h0 with rfl|⟨g,len,cap,cur,el,rfl,k1,k2,k3⟩
   ·exact .inl rfl
   ·have hne:g≠b:=hother _ hr g (len*k) ⟨rfl,YX _⟩
    exact .inr ⟨g,len,cap,cur,el,rfl,(WZ w b g cs' hne).trans k1,k2,k3⟩
  | ge s=>exact QR h0 (by simp [World.setRow])
  | vec v ks=>
   rcases h0 with ⟨rfl,h0⟩|⟨g,cap,cur,el,rfl,k1,k2,k3,k4⟩
   ·exact .inl ⟨rfl,h0⟩
   ·have hne:g≠b:=hother _ hr g 0 rfl
    exact .inr ⟨g,cap,cur,el,rfl,(WZ w b g cs' hne).trans k1,k2,k3,k4.mono hA⟩
  | many ts=>
   refine ⟨fun p hp=>?_,h0.2⟩
   rcases h0.1 p hp with q|⟨g,len,cap,cur,el,q,k1,k2,k3⟩
   ·exact .inl q
   ·have hne:g≠b:=hother _ hr g (len*p.2) ⟨p,hp,by rw [q];exact ⟨rfl,YX _⟩⟩
    exact .inr ⟨g,len,cap,cur,el,q,(WZ w b g cs' hne).trans k1,k2,k3⟩
  | own B m=>
   intro c hc
   obtain ⟨ds,el,k1,k2⟩:=h0 c hc
   have hne:c≠b:=hother _ hr c 0 hc
   exact ⟨ds,el,(WZ w b c cs' hne).trans k1,k2⟩
  | row v k ks=>
   rcases h0 with ⟨rfl,h0⟩|⟨g,len,cap,cur,el,rfl,k1,k2,k3,k4,k5⟩
   ·exact .inl ⟨rfl,h0⟩
   ·have hne:g≠b:=hother _ hr g 0 rfl
    exact .inr ⟨g,len,cap,cur,el,rfl,(WZ w b g cs' hne).trans k1,k2,k3,k4,k5.mono hA⟩
  | mp c Q=>
   obtain ⟨es,q,k1,k2⟩:=h0
   have hne:c≠b:=hother _ hr c 0 rfl
   exact ⟨es,q,(WZ w b c cs' hne).trans k1,k2⟩
 refine ⟨⟨?_,?_,?_,?_⟩,⟨rfl,rfl,rfl,by simp [World.setRow],fun _ _ h=>h,?_,fun _ _ _ h=>.inl h,fun c j _ hf=>(hfpe c j).1 hf⟩⟩
 ·intro r hr
  rcases Yv.1 hr with hr|hr
  ·exact hkeep r (.inl hr) (hh.ok r (by simp [hr]))
  ·rcases Yw.1 hr with rfl|hr
   ·exact ⟨cs',e,setRow_heap w b cs cs' e (0,0) hb,hls.mono hA⟩
   ·exact hkeep r (.inr hr) (hh.ok r (by simp [hr]))
 ·refine KQ.2 ⟨hpw.1,Vm.2 ⟨hpw2.1,hpw2.2⟩,fun r hr r' hr'=>?_⟩
  rcases Yw.1 hr' with rfl|hr'
  ·exact hpw.2.2 r hr (.obj b ls) (by simp)
  ·exact hpw.2.2 r hr r' (by simp [hr'])
 ·intro r hr c j hf hg
  rcases Yv.1 hr with hr|hr
  ·exact hh.prot r (by simp [hr]) c j hf hg
  ·rcases Yw.1 hr with rfl|hr
   ·exact hh.prot _ hmem c j hf hg
   ·exact hh.prot r (by simp [hr]) c j hf hg
 ·intro c j hg
  have:=hh.lt c j hg
  simpa [World.setRow] using this
 ·intro c hc
  by_cases hcb:c=b
  ·subst hcb
   exact .ce ⟨cs,cs',e,(0,0),hb,setRow_heap w c cs cs' e (0,0) hb,YD,fun j hj=>absurd ⟨_,hmem,rfl⟩ hj⟩
  ·exact .inl (WZ w b c cs' hcb)
section
variable {P:Program} {n:Nat} {o:Oper} {F:Fr} {h1 h2:List Res} {K:Fr->List Res->Prop}
theorem Z8x (t:TypeId) (x y:Operand) {b off:Nat} {ls:List AV} {X:AV} (ho:o.op=.store t x y) (hdst:o.dst=none)
  (hx:F.ev x=.val (.pointer (some ⟨b,off,none⟩))) (hy:F.ev y=X) (hX:(X.fit&&X.leaves.all AV.one)=true)
  (YD:(P.info? t).map (·.size)=some X.leaves.length) (hle:Nat.ble (off+X.leaves.length) ls.length=true)
  (hK:K F (h1++.obj b (ls.take off++X.leaves++ls.drop (off+X.leaves.length))::h2)):XU P n o F (h1++.obj b ls::h2) K:=by
 intro Q w G a hF hh
 have hvx:=hF.ev x
 rw [hx] at hvx
 have hvx:=hvx.val_inv
 have hvy:=hF.ev y
 rw [hy] at hvy
 simp only [Xs] at hX
 have hcs:=hvy.cells hX.1
 have hone:=hcs.one_cells hX.2
 have hlen:=hcs.length
 obtain ⟨cs,e,k1,k2⟩:=hh.ok (.obj b ls) (by simp)
 have hle:=Ks hle
 have hcl:=k2.length
 simp only [KP] at hlen hcl
 cases hi:P.info? t with
 | none=>simp [hi] at YD
 | some i=>
  have YD:i.size=X.leaves.length:=by simpa [hi] using YD
  have hst:=run_storeCells_at P b off e (a.eval y).cells.toList 0 cs w k1 (by simp [hlen,hcl];omega) hone
  simp only [Bi,KP] at hst
  have hr:(execOp a.eval o).run P w=.ok .skip (w.setRow b (cs.toList.take off++(a.eval y).cells.toList++cs.toList.drop (off+(a.eval y).cells.size)).toArray):=by
   simp only [execOp,ho,hvx]
   simp [Instr.storeAt,Instr.sureAddr,storeVar,Q4 hi,hlen,YD,hst]
  unfold Oper.wp
  rw [hr]
  obtain ⟨j1,j2⟩:=hh.write (ls':=ls.take off++X.leaves++ls.drop (off+X.leaves.length)) (cs':=(cs.toList.take off++(a.eval y).cells.toList++cs.toList.drop (off+(a.eval y).cells.size)).toArray)
   k1 (by simp [hlen,hcl];omega) (by rw [Fy,hlen];exact ((k2.take off).append hcs).append (k2.drop _))
  refine ⟨F,_,G,hK,?_,j1,j2⟩
  have:=hF.mono (j2.agree hh)
  simpa [Act.put,hdst] using this
end
theorem Z3o {h h':List Res} (s:∀r∈h',r∈h) {b o:Nat} (hf:Wb h' b o):Wb h b o:=
 let ⟨r,hr,h⟩:=hf;⟨r,s r hr,h⟩
theorem ZW.sub {w:World} {G:ZE} {h h':List Res} (hh:ZW w G h) (s:h'.Sublist h):ZW w G h':=
 ⟨fun r hr=>hh.ok r (s.subset hr),hh.apart.sublist s,fun r hr=>hh.prot r (s.subset hr),hh.lt⟩
theorem Yr.sub' {w w':World} {G G':ZE} {h h' h'':List Res} (e:Yr w G h w' G' h') (s:h''.Sublist h'):Yr w G h w' G' h'':=
 ⟨e.os,e.tape,e.output,e.size,e.sub,e.same,e.newG,fun b o hb hf=>e.newfp b o hb (Z3o (fun _ hr=>s.subset hr) hf)⟩
theorem AJ (w:World) (G:ZE):Vu G w w.drew G:=⟨fun _ _ _=>rfl,fun _ _ h=>h⟩
theorem ZW.drew {w:World} {G:ZE} {h:List Res} (hh:ZW w G h):ZW w.drew G h where
 ok:=fun r hr=>by
  have h0:=hh.ok r hr
  cases r with
  | obj b ls=>obtain ⟨cs,e,h1,h2⟩:=h0;exact ⟨cs,e,h1,h2.mono (AJ w G)⟩
  | tail v k=>exact h0
  | ge s=>exact h0
  | vec v ls=>
   rcases h0 with ⟨rfl,h0⟩|⟨g,cap,cur,el,rfl,h1,h2,h3,h4⟩
   ·exact .inl ⟨rfl,h0⟩
   ·exact .inr ⟨g,cap,cur,el,rfl,h1,h2,h3,h4.mono (AJ w G)⟩
  | many ts=>exact h0
  | own B m=>exact h0
  | row v k ls=>
   rcases h0 with ⟨rfl,h0⟩|⟨g,len,cap,cur,el,rfl,h1,h2,h3,h4,h5⟩
   ·exact .inl ⟨rfl,h0⟩
   ·exact .inr ⟨g,len,cap,cur,el,rfl,h1,h2,h3,h4,h5.mono (AJ w G)⟩
  | mp b Q=>exact h0
 apart:=hh.apart
 prot:=hh.prot
 lt:=hh.lt
theorem Yr.drew (w:World) (G:ZE) (h:List Res):Yr w G h w.drew G h:=
 ⟨rfl,rfl,rfl,YX _,fun _ _ h=>h,fun _ _=>.inl rfl,fun _ _ _ h=>.inl h,fun _ _ _ h=>h⟩
theorem ZW.alloc_row {w:World} {G:ZE} {h:List Res} (hh:ZW w G h) (cs:Array Value) (t:TypeId) {es:List AV} {k cap:Nat}
  (hk:∀x∈es,x.leaves.length=k) (hcap:es.length<=cap) (YD:cs.size=cap*k) (hls:Y9 w G (Zu es) (cs.toList.take (es.length*k))) :
  ∃G',ZW (w.alloc (.cells cs t)) G' (.tail (.slice (some ⟨w.heap.size,0,none⟩) es.length cap) k::h) /\
   Yr w G h (w.alloc (.cells cs t)) G' (.tail (.slice (some ⟨w.heap.size,0,none⟩) es.length cap) k::h) /\
   RV (w.alloc (.cells cs t)) G' (.sl es (some (.slice (some ⟨w.heap.size,0,none⟩) es.length cap))) (.slice (some ⟨w.heap.size,0,none⟩) es.length cap):=by
 let G':ZE:=fun b o=>G b o∨(b=w.heap.size/\o<es.length*k)
 have hA:Vu G w (w.alloc (.cells cs t)) G':=⟨fun b j hg=>Cm w _ (hh.lt b j hg),fun _ _ h=>.inl h⟩
 have hrow:(w.alloc (.cells cs t)).heap[w.heap.size]? = some (.cells cs t (0,0)):=Aa w _
 obtain ⟨h1,h2⟩:=hh.alloc (.cells cs t) (G':=G') (h':=[.tail (.slice (some ⟨w.heap.size,0,none⟩) es.length cap) k]) (fun _ _ h=>.inl h)
  (fun _ _ h=>h.imp id (·.1))
  (fun r hr=>by rw [YH.1 hr];exact .inr ⟨_,_,_,cs,t,rfl,hrow,hcap,YD⟩)
  (fun r hr b j hf=>by rw [YH.1 hr] at hf;exact hf.1)
  (Kq _ _)
  (fun r hr b j hf hg=>by
   rw [YH.1 hr] at hf
   obtain ⟨rfl,hf2⟩:=hf
   rcases hg with hg|hg
   ·exact Nat.lt_irrefl _ (hh.lt _ _ hg)
   ·exact absurd hg.2 om)
 refine ⟨G',h1,h2,.sl (fun x hx=>by cases hx;rfl) hcap (XN.of_flat es hk (Xi.of_cells (hls.mono hA) fun j v hj=>?_))⟩
 have hj2:=hj
 rw [TN] at hj2
 split at hj2
 ·rename_i hlt
  refine ⟨?_,.inr ⟨rfl,by omega⟩⟩
  rw [Vf,cell_of_row _ _ j cs t (0,0) hrow]
  simpa using hj2
 ·cases hj2
theorem Pg {w:World} {G:ZE}:∀(vs:List Value),Y9 w G (List.replicate vs.length AV.any) vs
 | []=>.nil
 | v::vs=>by simp only [XF,Bh];exact .cons .any (Pg vs)
def Jj (es:List AV) (k:Nat):Bool:=es.all fun x=>Nat.beq x.leaves.length k
theorem SA {es:List AV} {k:Nat} (h:Jj es k=true):∀x∈es,x.leaves.length=k:=fun x hx=>
 U6 (Be.1 h x hx)
section
variable {P:Program} {n:Nat} {o:Oper} {F:Fr} {h:List Res} {K:Fr->List Res->Prop}
theorem Ig {w:World} {G:ZE} {a:Act} (hF:FR w G n F a) {t len:Nat} (parts:Array (Nat × Operand)) {e size:Nat} {i:TypeInfo} {ls:List AV}
  (ht:P.underlying t=some (.slice e)) (hi:P.info? e=some i) (hs:i.size=size) (hz:i.zero.isSome=true) (hle:Nat.ble (len*size) (2 ^ 24)=true)
  (hfill:Jr (fun i=>some (i*size,size)) (List.replicate (len*size) .any) (parts.toList.map fun p=>(p.1,F.ev p.2))=some ls) :
  ∃cs:Array Value,Y9 w G ls cs.toList /\
   (Instr.buildSlice t len (parts.map fun (i,x)=>(i,a.eval x))).run P w=.ok (.slice (some ⟨w.heap.size,0,none⟩) len len) (w.alloc (.cells cs e)):=by
 subst hs
 have hle:=Ks hle
 cases hzz:i.zero with
 | none=>simp [hzz] at hz
 | some z=>
  let zero:Array Value:=if len*i.size=0 then #[] else z.cells
  have hzlen:((Array.range (len*i.size)).map (zero[· % zero.size]!)).toList.length=len*i.size:=by simp
  obtain ⟨cs',k1,k2⟩:=GR (w:=w) (G:=G) (vps:=parts.toList.map fun p=>(p.1,a.eval p.2)) hfill (by simp [List.map_map,Function.comp_def])
   (by simpa [List.map_map,Function.comp_def] using Y9.map (fun p:Nat × Operand=>F.ev p.2) (fun p=>a.eval p.2) parts.toList fun p _=>hF.ev p.2)
   (cs:=(Array.range (len*i.size)).map (zero[· % zero.size]!)) (by have:=Pg (w:=w) (G:=G) ((Array.range (len*i.size)).map (zero[· % zero.size]!)).toList;rwa [hzlen] at this)
  refine ⟨cs',k2,?_⟩
  have hnot:¬(len*i.size>2 ^ 24):=by omega
  have hzv:(zeroValue e).run P w=.ok z w:=by simp [zeroValue,D7 hi,hzz]
  have hmap:(parts.map fun (x:Nat × Operand)=>(x.1,a.eval x.2)).toList=parts.toList.map fun p=>(p.1,a.eval p.2):=by simp
  simp only [Instr.buildSlice,Sem.run_bind,Vr ht,Result.andThen_ok,Q4 hi,hnot,if_false]
  by_cases h0:len*i.size=0
  ·have hz0:zero=#[]:=Z6 h0
   rw [hz0] at k1
   rw [Z6 h0]
   simp only [Sem.run_bind,Sem.run_pure,Result.andThen_ok,hmap,k1]
   simp [newRow]
  ·have hz0:zero=z.cells:=Z4 h0
   rw [hz0] at k1
   rw [Z4 h0]
   simp only [Sem.run_bind,Sem.run_pure,Result.andThen_ok,hzv,hmap,k1]
   simp [newRow]
theorem Z8o (t len:Nat) (parts:Array (Nat × Operand)) {e size:Nat} {i:TypeInfo} {es:List AV} (ho:o.op=.buildSlice t len parts)
  (ht:P.underlying t=some (.slice e)) (hi:P.info? e=some i) (hs:i.size=size) (hz:i.zero.isSome=true) (hle:Nat.ble (len*size) (2 ^ 24)=true)
  (hfill:Jr (fun i=>some (i*size,size)) (List.replicate (len*size) .any) (parts.toList.map fun p=>(p.1,F.ev p.2))=some (Zu es))
  (hlen:es.length=len) (hall:Jj es size=true) (hd:V7 n o=true)
  (hK:∀b,JT h b->K (F.put o.dst (.sl es (some (.slice (some ⟨b,0,none⟩) len len)))) (.tail (.slice (some ⟨b,0,none⟩) len len) size::h)):XU P n o F h K:=by
 intro Q w G a hF hh
 obtain ⟨cs,h1,h2⟩:=Ig hF parts ht hi hs hz hle hfill
 have hr:(execOp a.eval o).run P w=.ok (.value (.slice (some ⟨w.heap.size,0,none⟩) len len)) (w.alloc (.cells cs e)):=by
  simp only [execOp,ho]
  exact Vd h2
 unfold Oper.wp
 rw [hr]
 subst hlen
 have hk:=SA hall
 have hcs:cs.size=es.length*size:=by have:=h1.length;rw [Tc es hk] at this;simpa using this
 obtain ⟨G',j1,j2,j3⟩:=hh.alloc_row cs e hk (YX _) hcs (by rw [<-hcs];simpa [W2] using h1)
 exact ⟨_,_,G',hK _ (H4 hh),(hF.mono (j2.agree hh)).put (UB hd) j3,j1,j2⟩
end
structure DA (w:World) (G:ZE) (h1 h2:List Res) (k:Nat) (v:Value) (es:List AV) (v':Value) (w':World) (G':ZE):Prop where
 ok:ZW w' G' (h1++.tail v' k::h2)
 ext:Yr w G (h1++.tail v k::h2) w' G' (h1++.tail v' k::h2)
 rv:RV w' G' (.sl es (some v')) v'
 own:v'.ownBlock=v.ownBlock∨∃b,v'.ownBlock=some b/\w.heap.size<=b
theorem SE {w:World} {G:ZE} {h1 h2:List Res} {k:Nat} {v:Value} (hh:ZW w G (h1++.tail v k::h2)) (cs:Array Value) (t:TypeId) {es:List AV} {cap:Nat}
  (hk:∀x∈es,x.leaves.length=k) (hcap:es.length<=cap) (YD:cs.size=cap*k) (hls:Y9 w G (Zu es) (cs.toList.take (es.length*k))) :
  ∃G',DA w G h1 h2 k v es (.slice (some ⟨w.heap.size,0,none⟩) es.length cap) (w.drew.alloc (.cells cs t)) G':=by
 obtain ⟨G',j1,j2,j3⟩:=hh.drew.alloc_row cs t hk hcap YD (hls.mono (AJ w G))
 have hsub:(h1++.tail (.slice (some ⟨w.heap.size,0,none⟩) es.length cap) k::h2).Perm (.tail (.slice (some ⟨w.heap.size,0,none⟩) es.length cap) k::(h1++h2)):=List.perm_middle
 have hs2:(Res.tail (.slice (some ⟨w.heap.size,0,none⟩) es.length cap) k::(h1++h2)).Sublist (.tail (.slice (some ⟨w.heap.size,0,none⟩) es.length cap) k::(h1++.tail v k::h2)):=
  List.Sublist.cons_cons _ (List.Sublist.append (List.Sublist.refl _) (Dx _ _))
 refine ⟨G',(j1.sub hs2).perm hsub.symm,?_,j3,.inr ⟨_,rfl,YX _⟩⟩
 exact (Yr.drew w G _).trans ((j2.sub' hs2).perm (Km _) hsub.symm)
theorem BZ {P:Program} {t ty e:TypeId} {i:TypeInfo} (ht:P.underlying t=some (.slice e)) (hi:P.info? e=some i) {ad:Option Addr} {len cap:Nat} {a:Option Addr} {c:Nat}
  (hle:len<=cap) (w:World):(Builtin.append_ #[t,t] ty #[.slice ad len cap,.slice a 0 c]).run P w=.ok (.slice ad len cap) w:=by
 cases ad with
 | none=>cases a<;>simp [Builtin.append_,Vr ht,Q4 hi,Builtin.lenOf,hle,Builtin.firstCells,loadCells,loadCellsFrom]
 | some ad=>cases a<;>simp [Builtin.append_,Vr ht,Q4 hi,Builtin.lenOf,hle,Builtin.firstCells,loadCells,loadCellsFrom,storeCells]
theorem SF {w:World} {G:ZE} {h1 h2:List Res} {k g cap:Nat} {es xs:List AV} {cur:Array Value} {e:TypeId} {news:List Value}
  (hh:ZW w G (h1++.tail (.slice (some ⟨g,0,none⟩) es.length cap) k::h2)) (hrow:w.heap[g]? = some (.cells cur e (0,0))) (hcur:cur.size=cap*k)
  (hm:Xi w G g 0 (Zu es)) (hes:∀y∈es,y.leaves.length=k) (hxs:∀y∈xs,y.leaves.length=k) (hn:Y9 w G (Zu xs) news)
  (hroom:es.length+xs.length<=cap) :
  ∃G',DA w G h1 h2 k (.slice (some ⟨g,0,none⟩) es.length cap) (es++xs) (.slice (some ⟨g,0,none⟩) (es.length+xs.length) cap)
   (w.setRow g (cur.toList.take (es.length*k)++news++cur.toList.drop (es.length*k+news.length)).toArray) G':=by
 have hnl:news.length=xs.length*k:=by rw [hn.length,Tc xs hxs]
 have hfit:es.length*k+news.length<=cur.size:=by rw [hnl,hcur,<-Qw];exact Ce _ hroom
 generalize hcs':(cur.toList.take (es.length*k)++news++cur.toList.drop (es.length*k+news.length)).toArray=cs'
 have hlist:cs'.toList=cur.toList.take (es.length*k)++news++cur.toList.drop (es.length*k+news.length):=by rw [<-hcs']
 have YD:cs'.size=cur.size:=by
  have:=Yp List.length hlist
  simp only [KP,Yz,Ko,L8] at this
  omega
 have hlow:∀j,j<es.length*k->cs'[j]? = cur[j]?:=by
  intro j hj
  have h1:(cur.toList.take (es.length*k)).length=es.length*k:=by simp;omega
  rw [<-Bd,hlist,VW,Du om,TN,Z6 hj,Bd]
 have hmid:∀j u,news[j]? = some u->cs'[es.length*k+j]? = some u:=by
  intro j u hj
  have h1:(cur.toList.take (es.length*k)).length=es.length*k:=by simp;omega
  have hjl:j<news.length:=(XZ.1 hj).1
  rw [<-Bd,hlist,VW,C9 om,h1,Nat.add_sub_cancel_left,Du hjl,hj]
 have hmem:Res.tail (.slice (some ⟨g,0,none⟩) es.length cap) k∈h1++.tail (.slice (some ⟨g,0,none⟩) es.length cap) k::h2:=by simp
 let G':ZE:=fun b o=>G b o∨(b=g/\es.length*k<=o/\o<(es.length+xs.length)*k)
 have hA:Vu G w (w.setRow g cs') G':=⟨fun b j hg=>by
  by_cases hbg:b=g
  ·subst hbg
   have hj:j<es.length*k:=by
    rcases AC j (es.length*k) with h|h
    ·exact h
    ·exact (hh.prot _ hmem b j ⟨rfl,h⟩ hg).elim
   rw [cell_of_row _ b j cs' e (0,0) (setRow_heap w b cur cs' e (0,0) hrow),cell_of_row w b j cur e (0,0) hrow,hlow j hj]
  ·simp [World.cell?,WZ w g b cs' hbg],fun _ _ h=>.inl h⟩
 have hpw:=KQ.1 hh.apart
 have hpw2:=Vm.1 hpw.2.1
 have hbig:∀j,es.length*k<=j->Res.fp (.tail (.slice (some ⟨g,0,none⟩) es.length cap) k) g j:=fun j hj=>⟨rfl,hj⟩
 have hother:∀r,(r∈h1∨r∈h2)->∀c j,r.fp c j->c=g->j<es.length*k:=by
  intro r hr c j hf hc
  subst hc
  rcases AC j (es.length*k) with h|h
  ·exact h
  ·rcases hr with hr|hr
   ·exact (hpw.2.2 r hr _ (YV ..) c j hf (hbig j h)).elim
   ·exact (hpw2.1 r hr c j (hbig j h) hf).elim
 have hkeep:∀r,(r∈h1∨r∈h2)->Ux w G r->Ux (w.setRow g cs') G' r:=by
  intro r hr h0
  cases r with
  | obj c ks=>
   obtain ⟨ds,el,k1,k2⟩:=h0
   have hne:c≠g:=fun hc=>by have:=hother _ hr c (es.length*k) rfl hc;omega
   exact ⟨ds,el,(WZ w g c cs' hne).trans k1,k2.mono hA⟩
  | tail v kk=>
   rcases h0 with rfl|⟨g2,len,cap2,cur2,el,rfl,k1,k2,k3⟩
   ·exact .inl rfl
   ·have hne:g2≠g:=fun hc=>by have:=hother _ hr g2 (len*kk+es.length*k) ⟨rfl,by omega⟩ hc;omega
    exact .inr ⟨g2,len,cap2,cur2,el,rfl,(WZ w g g2 cs' hne).trans k1,k2,k3⟩
  | ge s=>exact QR h0 (by simp [World.setRow])
  | vec v ks=>
   rcases h0 with ⟨rfl,h0⟩|⟨g2,cap2,cur2,el,rfl,k1,k2,k3,k4⟩
   ·exact .inl ⟨rfl,h0⟩
   ·have hne:g2≠g:=fun hc=>by have:=hother _ hr g2 (es.length*k) rfl hc;omega
    exact .inr ⟨g2,cap2,cur2,el,rfl,(WZ w g g2 cs' hne).trans k1,k2,k3,k4.mono hA⟩
  | many ts=>
   refine ⟨fun p hp=>?_,h0.2⟩
   rcases h0.1 p hp with q|⟨g2,len,cap2,cur2,el,q,k1,k2,k3⟩
   ·exact .inl q
   ·have hne:g2≠g:=fun hc=>by have:=hother _ hr g2 (len*p.2+es.length*k) ⟨p,hp,by rw [q];exact ⟨rfl,by omega⟩⟩ hc;omega
    exact .inr ⟨g2,len,cap2,cur2,el,q,(WZ w g g2 cs' hne).trans k1,k2,k3⟩
  | own B m=>
   intro c hc
   obtain ⟨ds,el,k1,k2⟩:=h0 c hc
   have hne:c≠g:=fun hq=>by have:=hother _ hr c (es.length*k) hc hq;omega
   exact ⟨ds,el,(WZ w g c cs' hne).trans k1,k2⟩
  | row v kk ks=>
   rcases h0 with ⟨rfl,h0⟩|⟨g2,len2,cap2,cur2,el,rfl,k1,k2,k3,k4,k5⟩
   ·exact .inl ⟨rfl,h0⟩
   ·have hne:g2≠g:=fun hc=>by have:=hother _ hr g2 (es.length*k) rfl hc;omega
    exact .inr ⟨g2,len2,cap2,cur2,el,rfl,(WZ w g g2 cs' hne).trans k1,k2,k3,k4,k5.mono hA⟩
  | mp c Q=>
   obtain ⟨es2,c2,k1,k2⟩:=h0
   have hne:c≠g:=fun hc=>by have:=hother _ hr c (es.length*k) rfl hc;omega
   exact ⟨es2,c2,(WZ w g c cs' hne).trans k1,k2⟩
 have hle:es.length*k<=(es.length+xs.length)*k:=Ce _ om
 have hfpe:∀r,r∈h1++.tail (.slice (some ⟨g,0,none⟩) (es.length+xs.length) cap) k::h2->∀b o,r.fp b o ->
   Wb (h1++.tail (.slice (some ⟨g,0,none⟩) es.length cap) k::h2) b o:=by
  intro r hr b o hf
  rcases Yv.1 hr with hr|hr
  ·exact ⟨r,by simp [hr],hf⟩
  ·rcases Yw.1 hr with rfl|hr
   ·obtain ⟨rfl,hf2⟩:=hf
    exact ⟨_,hmem,rfl,QR hle hf2⟩
   ·exact ⟨r,by simp [hr],hf⟩
 refine ⟨G',⟨?_,?_,?_,?_⟩,⟨rfl,rfl,rfl,by simp [World.setRow],fun _ _ h=>.inl h,?_,?_,fun b o _ ⟨r,hr,hf⟩=>hfpe r hr b o hf⟩,?_,.inl rfl⟩
 ·intro r hr
  rcases Yv.1 hr with hr|hr
  ·exact hkeep r (.inl hr) (hh.ok r (by simp [hr]))
  ·rcases Yw.1 hr with rfl|hr
   ·exact .inr ⟨g,_,cap,cs',e,rfl,setRow_heap w g cur cs' e (0,0) hrow,hroom,YD.trans hcur⟩
   ·exact hkeep r (.inr hr) (hh.ok r (by simp [hr]))
 ·have htt:∀r,Je r (.tail (.slice (some ⟨g,0,none⟩) es.length cap) k)->Je r (.tail (.slice (some ⟨g,0,none⟩) (es.length+xs.length) cap) k):=
   fun r hd b o hf ⟨e1,e2⟩=>hd b o hf ⟨e1,QR hle e2⟩
  refine KQ.2 ⟨hpw.1,Vm.2 ⟨fun r hr=>(htt r (hpw2.1 r hr).symm).symm,hpw2.2⟩,fun r hr r' hr'=>?_⟩
  rcases Yw.1 hr' with rfl|hr'
  ·exact htt r (hpw.2.2 r hr _ (YV ..))
  ·exact hpw.2.2 r hr r' (by simp [hr'])
 ·intro r hr b o hf hg
  obtain ⟨r0,hr0,hf0⟩:=hfpe r hr b o hf
  rcases hg with hg|⟨rfl,hg1,hg2⟩
  ·exact hh.prot r0 hr0 b o hf0 hg
  ·rcases Yv.1 hr with hr|hr
   ·have:=hother r (.inl hr) b o hf rfl;omega
   ·rcases Yw.1 hr with rfl|hr
    ·have:=hf.2;omega
    ·have:=hother r (.inr hr) b o hf rfl;omega
 ·intro b o hg
  have hs:(w.setRow g cs').heap.size=w.heap.size:=by simp [World.setRow]
  rw [hs]
  rcases hg with hg|⟨rfl,_,_⟩
  ·exact hh.lt b o hg
  ·exact (VB.1 hrow).1
 ·intro b hb
  by_cases hbg:b=g
  ·subst hbg
   refine .ce ⟨cur,cs',e,(0,0),hrow,setRow_heap w b cur cs' e (0,0) hrow,YD,fun o ho=>hlow o ?_⟩
   rcases AC o (es.length*k) with h|h
   ·exact h
   ·exact absurd ⟨_,hmem,rfl,h⟩ ho
  ·exact .inl (WZ w g b cs' hbg)
 ·intro b o hb hg
  rcases hg with hg|⟨rfl,hg1,hg2⟩
  ·exact .inl hg
  ·exact .inr ⟨_,hmem,rfl,hg1⟩
 ·rw [<-Yz]
  refine .sl (k:=k) (fun x hx=>by cases hx;rfl) (by simpa using hroom) (XN.of_flat _ (fun y hy=>?_) ?_)
  ·rcases Yv.1 hy with hy|hy
   ·exact hes y hy
   ·exact hxs y hy
  ·have e1:Zu (es++xs)=Zu es++Zu xs:=by simp [Zu]
   rw [e1]
   refine (hm.mono hA).append ?_
   rw [Tc es hes,Vf]
   refine Xi.of_cells (hn.mono hA) fun j u hj=>⟨?_,.inr ⟨rfl,by omega,?_⟩⟩
   ·rw [cell_of_row _ g _ cs' e (0,0) (setRow_heap w g cur cs' e (0,0) hrow),hmid j u hj]
   ·have hjl:j<news.length:=(XZ.1 hj).1
    rw [Qw]
    omega
theorem PD {P:Program} (w:World) (t ty e el:TypeId) (i:TypeInfo) (ht:P.underlying t=some (.slice e)) (hi:P.info? e=some i)
  (g sLen sCap:Nat) (cur:Array Value) (hg:w.heap[g]? = some (.cells cur el (0,0)))
  (a:Addr) (m c:Nat) (news:List Value) (hl:news.length=m*i.size) (hnews:∀j u,news[j]? = some u->w.cell? (a.add j)=some u) (h1:∀u∈news,u.oneCell'=true)
  (hroom:sLen+m<=sCap) (hfit:sLen*i.size+news.length<=cur.size) :
  (Builtin.append_ #[t,t] ty #[.slice (some ⟨g,0,none⟩) sLen sCap,.slice (some a) m c]).run P w =
   .ok (.slice (some ⟨g,0,none⟩) (sLen+m) sCap) (w.setRow g (cur.toList.take (sLen*i.size)++news++cur.toList.drop (sLen*i.size+news.length)).toArray):=by
 have hf:=run_firstCells_some (P:=P) w i.size m a m c news hl hnews
 have hst:=run_storeCells_at P g (sLen*i.size) el news 0 cur w hg (by simpa using hfit) h1
 simp only [Bi] at hst
 simp [Builtin.append_,run_underlying ht,sizeOf,typeInfo,hi,Builtin.lenOf,hroom,hf,Addr.add_lit,hst]
theorem SD {P:Program} {w:World} {G:ZE} {h1 h2:List Res} {t ty e k:Nat} {i:TypeInfo} {v x:Value} {es xs:List AV}
  (ht:P.underlying t=some (.slice e)) (hi:P.info? e=some i) (hk:i.size=k) (hzs:(i.zero.map (·.cells.size))=some k) (hb:Nat.ble i.bytes 128=true)
  (hh:ZW w G (h1++.tail v k::h2)) (hv:RV w G (.sl es (some v)) v) (hx:RV w G (.sl xs none) x)
  (hes:∀y∈es,y.leaves.length=k) (hxs:∀y∈xs,y.leaves.length=k) (hone:(Zu xs).all AV.one=true) (hbound:es.length+xs.length<=1099511627776) :
  ∃v' w' G',(Builtin.append_ #[t,t] ty #[v,x]).run P w=.ok v' w'/\DA w G h1 h2 k v (es++xs) v' w' G':=by
 have htail:Jg w v k:=hh.ok (.tail v k) (by simp)
 have hb:=Ks hb
 cases hz:i.zero with
 | none=>simp [hz] at hzs
 | some z=>
  have hzs:z.cells.size=k:=by simpa [hz] using hzs
  have hlen:v=.slice none 0 0->es=[]:=by
   intro he
   subst he
   cases hv with
   | nil=>rfl
  have grown:∀(olds news:List Value) (old:Nat),Y9 w G (Zu es) olds->Y9 w G (Zu xs) news ->
    ∃G',DA w G h1 h2 k v (es++xs) (.slice (some ⟨w.heap.size,0,none⟩) (es.length+xs.length) (grownCap w (es.length+xs.length) old e))
     (w.drew.alloc (.cells (olds.toArray++news.toArray++Builtin.zeroCells z.cells (grownCap w (es.length+xs.length) old e-(es.length+xs.length))) e)) G':=by
   intro olds news old ho hn
   have hge:=grownCap_ge w (es.length+xs.length) old e
   have hall:∀y∈es++xs,y.leaves.length=k:=fun y hy=>by
    rcases Yv.1 hy with hy|hy
    ·exact hes y hy
    ·exact hxs y hy
   have e1:Zu (es++xs)=Zu es++Zu xs:=by simp [Zu]
   have hol:olds.length=es.length*k:=by rw [ho.length,Tc es hes]
   have hnl:news.length=xs.length*k:=by rw [hn.length,Tc xs hxs]
   have:=SE hh (olds.toArray++news.toArray++Builtin.zeroCells z.cells (grownCap w (es.length+xs.length) old e-(es.length+xs.length))) e
    (es:=es++xs) (cap:=grownCap w (es.length+xs.length) old e) hall (by simpa using hge)
    (by
     simp only [Array.size_append,La,size_zeroCells,hzs,hol,hnl,<-Qw]
     congr 1
     omega)
    (by
     rw [e1]
     have:(olds.toArray++news.toArray++Builtin.zeroCells z.cells (grownCap w (es.length+xs.length) old e-(es.length+xs.length))).toList.take ((es++xs).length*k)=olds++news:=by
      simp only [Ds,VW,Yz]
      rw [<-VW,Qw,<-hol,<-hnl,<-Yz]
      exact Cd
     rw [this]
     exact ho.append hn)
   simpa using this
  by_cases hxe:xs=[]
  ·subst hxe
   cases hx with
   | nil _=>
    refine ⟨v,w,G,?_,by simpa using hh,Yr.refl _ _ _,by simpa using hv,.inl rfl⟩
    rcases htail with rfl|⟨g,len,cap,cur,el,rfl,_,hle,_⟩
    ·exact BZ ht hi (YX _) w
    ·exact BZ ht hi hle w
   | sl _ _ _=>
    refine ⟨v,w,G,?_,by simpa using hh,Yr.refl _ _ _,by simpa using hv,.inl rfl⟩
    rcases htail with rfl|⟨g,len,cap,cur,el,rfl,_,hle,_⟩
    ·exact BZ ht hi (YX _) w
    ·exact BZ ht hi hle w
  ·cases hx with
   | nil _=>exact absurd rfl hxe
   | sl hq hcc hm=>
    rename_i b o' k' c
    have hpos:0<xs.length:=Fw.2 hxe
    obtain ⟨news,hn,hnc⟩:=hm.flat_mem.cells
    have hnl:news.length=xs.length*i.size:=by rw [hn.length,hk,Tc xs hxs]
    have hone':=hn.one_cells hone
    have hnews:∀j u,news[j]? = some u->w.cell? ((⟨b,o',none⟩:Addr).add j)=some u:=fun j u hj=>by rw [Ji];exact (hnc j u hj).1
    have hby:(es.length+xs.length)*i.bytes<=140737488355328:=by
     have:=Nat.mul_le_mul hbound hb
     omega
    rcases htail with rfl|⟨g,len,cap,cur,el,rfl,hrow,hlc,hcur⟩
    ·have he:=hlen rfl
     subst he
     have hr:=run_append_nil (P:=P) w t ty e i z ht hi hz ⟨b,o',none⟩ xs.length c news hnl hnews hpos (by simp at hbound;omega) (by simp at hby;omega)
     obtain ⟨G',hG'⟩:=grown [] news 0 .nil hn
     simp only [Vt,Vf,Array.empty_append] at hG'
     exact ⟨_,_,G',hr,by simpa using hG'⟩
    ·have hle:len=es.length:=by cases hv<;>rfl
     subst hle
     have hmem:Xi w G g 0 (Zu es):=by
      cases hv with
      | nil=>exact .nil
      | sl _ _ hm=>exact hm.flat_mem
     obtain ⟨olds,ho,hoc⟩:=hmem.cells
     by_cases hroom:es.length+xs.length<=cap
     ·have hfit:es.length*i.size+news.length<=cur.size:=by rw [hnl,hcur,hk,<-Qw];exact Ce _ hroom
      have hr:=PD (P:=P) w t ty e el i ht hi g es.length cap cur hrow ⟨b,o',none⟩ xs.length c news hnl hnews hone' hroom hfit
      obtain ⟨G',hG'⟩:=SF (h1:=h1) (h2:=h2) hh hrow hcur hmem hes hxs hn hroom
      rw [hk] at hr
      exact ⟨_,_,G',hr,hG'⟩
     ·have hol:olds.length=es.length*i.size:=by rw [ho.length,hk,Tc es hes]
      have hr:=run_append_grow (P:=P) w t ty e i z ht hi hz ⟨g,0,none⟩ es.length cap olds hol (fun j u hj=>by rw [Ji];simpa using (hoc j u hj).1) ⟨b,o',none⟩ xs.length c news hnl hnews
       om om (growslice_fits om hby)
      obtain ⟨G',hG'⟩:=grown olds news cap ho hn
      exact ⟨_,_,G',hr,hG'⟩
section
variable {P:Program} {n:Nat} {o:Oper} {F:Fr} {h h1 h2:List Res} {K:Fr->List Res->Prop}
theorem RV.forget {w:World} {G:ZE} {es:List AV} {hv:Option Value} {v:Value} (h:RV w G (.sl es hv) v):RV w G (.sl es none) v:=by
 cases h with
 | nil _=>exact .nil (by simp)
 | sl _ hc hm=>exact .sl (by simp) hc hm
theorem RV.header {w:World} {G:ZE} {es:List AV} {x v:Value} (h:RV w G (.sl es (some x)) v):v=x:=by
 cases h with
 | nil hq=>exact (hq x rfl).symm
 | sl hq _ _=>exact (hq x rfl).symm
theorem Z8j (s x:Operand) (t:TypeId) {e k:Nat} {i:TypeInfo} {hv:Value} {hx:Option Value} {es xs:List AV}
  (ho:o.op=.call { callee:=.builtin .append,args:=#[s,x],argTypes:=#[t,t] })
  (ht:P.underlying t=some (.slice e)) (hi:P.info? e=some i) (hk:i.size=k) (hzs:(i.zero.map (·.cells.size))=some k) (hb:Nat.ble i.bytes 128=true)
  (hs:F.ev s=.sl es (some hv)) (hx:F.ev x=.sl xs hx) (hd:V7 n o=true)
  (hes:∀y∈es,y.leaves.length=k) (hxs:∀y∈xs,y.leaves.length=k) (hone:(Zu xs).all AV.one=true) (hbound:es.length+xs.length<=1099511627776)
  (hK:∀v',(v'.ownBlock=hv.ownBlock∨∃b,v'.ownBlock=some b/\JT (h1++.tail hv k::h2) b) ->
   K (F.put o.dst (.sl (es++xs) (some v'))) (h1++.tail v' k::h2)):XU P n o F (h1++.tail hv k::h2) K:=by
 intro Q w G a hF hh
 have v1:=hF.ev s
 have v2:=hF.ev x
 rw [hs] at v1
 rw [hx] at v2
 have e1:=v1.header
 rw [e1] at v1
 obtain ⟨v',w',G',hr,hA⟩:=SD (P:=P) (ty:=o.type) ht hi hk hzs hb hh v1 v2.forget hes hxs hone hbound
 have hrun:(execOp a.eval o).run P w=.ok (.value v') w':=by
  simp only [execOp,ho,resolve,invoke,builtin,Sem.run_bind,Sem.run_pure,Result.andThen_ok,Bg,Ww,QQ,e1,hr]
 unfold Oper.wp
 rw [hrun]
 refine ⟨_,_,G',hK v' ?_,(hF.mono (hA.ext.agree hh)).put (UB hd) hA.rv,hA.ok,hA.ext⟩
 rcases hA.own with h|⟨b,h,hle⟩
 ·exact .inl h
 ·exact .inr ⟨b,h,fun s hs=>QR (hh.ok _ hs) hle⟩
theorem PF {t e k:Nat} {i:TypeInfo} {b off len cap:Nat} {ik:IntKind} {j:Int} (ht:P.underlying t=some (.slice e)) (hi:P.info? e=some i) (hk:i.size=k)
  (h0:0<=j) (hlt:j<len) (w:World) :
  (Instr.indexAt t (.slice (some ⟨b,off,none⟩) len cap) (.int ik j)).run P w=.ok (.pointer (some ⟨b,off+j.toNat * k,none⟩)) w:=by
 subst hk
 have hu:=Vr ht w
 simp only [Instr.indexAt,asIntOf,Sem.run_bind,Sem.run_pure,Result.andThen_ok,hu]
 simp [h0,hlt,Q4 hi,Ji]
theorem Zcd (t:TypeId) (x ix:Operand) {e k:Nat} {i:TypeInfo} {es:List AV} {hv:Option Value} {ik:IntKind} {j:Int} {y:AV}
  (ho:o.op=.indexAddr t x ix) (ht:P.underlying t=some (.slice e)) (hi:P.info? e=some i) (hk:i.size=k) (hx:F.ev x=.sl es hv) (hix:F.ev ix=.val (.int ik j))
  (h0:0<=j) (hget:es[j.toNat]? = some y) (hy:y.leaves.length=k):X8 P o F h [] (.rp y.leaves):=by
 intro n w G a hF hh
 have v1:=hF.ev x
 have v2:=hF.ev ix
 rw [hx] at v1
 rw [hix] at v2
 have v2:=v2.val_inv
 generalize hv1:a.eval x=u at v1
 cases v1 with
 | nil _=>simp at hget
 | sl hq hc hm=>
  rename_i b off kk cap
  have hlt:j.toNat<es.length:=(XZ.1 hget).1
  have hkk:kk=k:=by
   have:=hm.len y (YA hget)
   omega
  subst hkk
  refine ⟨_,.rp (hm.get _ _ hget),fun w' _ _=>?_⟩
  simp only [execOp,ho,hv1,v2]
  exact Vd (PF ht hi hk h0 om w')
theorem Zce (t:TypeId) (x ix:Operand) {e k:Nat} {i:TypeInfo} {b off len cap:Nat} {ik:IntKind} {j:Int}
  (ho:o.op=.indexAddr t x ix) (ht:P.underlying t=some (.slice e)) (hi:P.info? e=some i) (hk:i.size=k) (hx:F.ev x=.val (.slice (some ⟨b,off,none⟩) len cap)) (hix:F.ev ix=.val (.int ik j))
  (h0:0<=j) (hlt:j<len):X8 P o F h [] (.val (.pointer (some ⟨b,off+j.toNat * k,none⟩))):=by
 intro n w G a hF hh
 have v1:=hF.ev x
 have v2:=hF.ev ix
 rw [hx] at v1
 rw [hix] at v2
 have v1:=v1.val_inv
 have v2:=v2.val_inv
 refine ⟨_,.val,fun w' _ _=>?_⟩
 simp only [execOp,ho,v1,v2]
 exact Vd (PF ht hi hk h0 hlt w')
def Am (F:Fr) (o:Option Operand) (d:Int):Option Int:=
 match o with
 | none=>some d
 | some x=>match F.ev x with
  | .val (.int _ j)=>some j
  | _=>none
theorem F3 {v:Value} {ik:IntKind} {j:Int} {y:Nat} {c:BoundsCode} (hv:v=.int ik j) (h0:0<=j) (h1:j<=y) (w:World):(Instr.sliceBound v y c).run P w=.ok j.toNat w:=by
 subst hv
 simp [Instr.sliceBound,asIntOf,h0,h1]
theorem Zcl (t:TypeId) (x:Operand) (lo hi:Option Operand) {e k:Nat} {i:TypeInfo} {es:List AV} {hv:Option Value} {l m:Int}
  (ho:o.op=.slice t x lo hi none) (ht:P.underlying t=some (.slice e)) (hi':P.info? e=some i) (hk:i.size=k) (hx:F.ev x=.sl es hv)
  (hlo:Am F lo 0=some l) (hhi:Am F hi es.length=some m) (h0:0<=l) (h1:l<=m) (h2:m<=es.length) (hes:∀y∈es,y.leaves.length=k) :
  X8 P o F h [] (.sl ((es.take m.toNat).drop l.toNat) none):=by
 intro n w G a hF hh
 have v1:=hF.ev x
 rw [hx] at v1
 generalize hv1:a.eval x=u at v1
 have hlo':lo.map a.eval=none/\l=0∨∃ik,lo.map a.eval=some (.int ik l):=by
  cases lo with
  | none=>simp [Am] at hlo;exact .inl ⟨rfl,hlo.symm⟩
  | some y=>
   simp only [Am] at hlo
   split at hlo
   ·rename_i k j hj
    cases hlo
    have:=hF.ev y
    rw [hj] at this
    exact .inr ⟨k,by simp [this.val_inv]⟩
   ·cases hlo
 have hhi':hi.map a.eval=none/\m=es.length∨∃ik,hi.map a.eval=some (.int ik m):=by
  cases hi with
  | none=>simp [Am] at hhi;exact .inl ⟨rfl,hhi.symm⟩
  | some y=>
   simp only [Am] at hhi
   split at hhi
   ·rename_i k j hj
    cases hhi
    have:=hF.ev y
    rw [hj] at this
    exact .inr ⟨k,by simp [this.val_inv]⟩
   ·cases hhi
 have hrun:∀(ad:Option Addr) (cap:Nat),m<=cap->∀w':World,(Instr.sliceAt t (.slice ad es.length cap) (lo.map a.eval) (hi.map a.eval) none).run P w' =
   .ok (.slice (if cap=l.toNat then ad else ad.map (·.add (l.toNat * k))) (m.toNat-l.toNat) (cap-l.toNat)) w':=by
  intro ad cap hcap w'
  subst hk
  have hmm:(Instr.sliceBounds true es.length cap (lo.map a.eval) (hi.map a.eval) none).run P w'=.ok (l.toNat,m.toNat,cap) w':=by
   rcases hhi' with ⟨e1,rfl⟩|⟨ik,e1⟩
   ·rcases hlo' with ⟨e2,rfl⟩|⟨ik2,e2⟩
    ·simp [Instr.sliceBounds,e1,e2]
    ·simp [Instr.sliceBounds,e1,e2,F3 (P:=P) (v:=.int ik2 l) rfl h0 (by omega:l<=(es.length:Int))]
   ·have Zb:=fun c=>F3 (P:=P) (c:=c) (v:=.int ik m) (y:=cap) rfl om hcap w'
    rcases hlo' with ⟨e2,rfl⟩|⟨ik2,e2⟩
    ·simp [Instr.sliceBounds,e1,e2,Zb]
    ·have ZD:=fun c=>F3 (P:=P) (c:=c) (v:=.int ik2 l) (y:=m.toNat) rfl h0 om w'
     simp [Instr.sliceBounds,e1,e2,Zb,ZD]
  simp only [Instr.sliceAt,Sem.run_bind,Vr ht,Result.andThen_ok,Instr.slice,hmm]
  simp [Q4 hi']
 cases v1 with
 | nil hq=>
  rename_i ad cap
  simp only [Vt,Int.natCast_zero] at h2
  have hl:l=0:=by omega
  have hm:m=0:=by omega
  subst hl
  subst hm
  have hr:=hrun ad cap om
  refine ⟨_,?_,fun w' _ _=>by simp only [execOp,ho,hv1,Option.map_none];exact Vd (hr w')⟩
  exact .nil (by simp)
 | sl hq hc hm=>
  rename_i b off kk cap
  by_cases hemp:m.toNat<=l.toNat
  ·refine ⟨_,?_,fun w' _ _=>by simp only [execOp,ho,hv1,Option.map_none];exact Vd (hrun _ cap om w')⟩
   have e1:(es.take m.toNat).drop l.toNat=[]:=QP (by simp;omega)
   have e2:m.toNat-l.toNat=0:=by omega
   rw [e1,e2]
   exact .nil (by simp)
  ·have hne:0<es.length:=by omega
   have hkk:kk=k:=by
    have hy:=hm.len es[0] (List.getElem_mem hne)
    have:=hes es[0] (List.getElem_mem hne)
    omega
   subst hkk
   refine ⟨_,?_,fun w' _ _=>by simp only [execOp,ho,hv1,Option.map_none];exact Vd (hrun _ cap om w')⟩
   rw [Z4 om]
   have hlen:((es.take m.toNat).drop l.toNat).length=m.toNat-l.toNat:=by simp;omega
   rw [<-hlen]
   simp only [Cf,Ji]
   exact .sl (k:=kk) (by simp) om ((hm.take m.toNat).drop l.toNat)
theorem Z8l (f:FuncId) (args:Array Operand) (tys:Array TypeId) {fn:Func} {h1 h2:List Res} {xs:List AV} {R:AV->List Res->Prop}
  (ho:o.op=.call { callee:=.value (.func f),args:=args,argTypes:=tys }) (hf:P.funcs[f]? = some fn) (hb:fn.body.isSome=true) (hn:(fn.name== "runtime.NumGoroutine")=false)
  (hargs:args.toList.map F.ev=xs) (hd:V7 n o=true) (hp:h.Perm (h1++h2)) (hc:Wg P f xs h1 R)
  (hK:∀r h',R r h'->K (F.put o.dst r) (h'++h2)):XU P n o F h K:=by
 intro Q w G a hF hh
 have hh':=hh.perm hp
 have hvs:Y9 w G xs (args.toList.map a.eval):=by rw [<-hargs];exact Y9.map F.ev a.eval args.toList fun x _=>hF.ev x
 have hcl:=hc w G _ hvs hh'.left
 have hbn:¬fn.body=none:=by intro hq;simp [hq] at hb
 have hn':¬fn.name= "runtime.NumGoroutine":=by simpa using hn
 have hrun:(execOp a.eval o).run P w=.ok (.enter f (args.map a.eval)) w:=by
  simp only [execOp,ho,resolve,Act.eval,Deferred.ofValue,Sem.run_bind,Sem.run_pure,Result.andThen_ok,invoke,callFunc]
  simp [program,Sem.run,hf,hn',hbn]
 unfold Oper.wp
 rw [hrun]
 show Calls P f (args.map a.eval) w _
 have hav:args.map a.eval=(args.toList.map a.eval).toArray:=by rw [<-Array.toList_map,VM]
 rw [hav]
 refine hcl.mono fun e w' ⟨v,r,h',G',he,hR,hv,hh2,hx⟩=>?_
 subst he
 obtain ⟨j1,j2⟩:=hh'.frame hx hh2
 have j3:=j2.perm hp.symm (Km _)
 exact ⟨_,_,G',hK r h' hR,(hF.mono (j3.agree hh)).put (UB hd) hv,j1,j3⟩
theorem Z8m (t:Operand) (args:Array Operand) (tys:Array TypeId) {f:FuncId} {caps:Array Value} {fn:Func} {h1 h2:List Res} {xs:List AV} {R:AV->List Res->Prop}
  (ho:o.op=.call { callee:=.value t,args:=args,argTypes:=tys }) (ht:F.ev t=.val (.func (.func f) #[] caps)) (hf:P.funcs[f]? = some fn) (hb:fn.body.isSome=true)
  (hn:(fn.name== "runtime.NumGoroutine")=false)
  (hargs:args.toList.map F.ev++caps.toList.map AV.val=xs) (hd:V7 n o=true) (hp:h.Perm (h1++h2)) (hc:Wg P f xs h1 R)
  (hK:∀r h',R r h'->K (F.put o.dst r) (h'++h2)):XU P n o F h K:=by
 intro Q w G a hF hh
 have hh':=hh.perm hp
 have htv:=hF.ev t
 rw [ht] at htv
 have htv:=htv.val_inv
 have hcv:∀(l:List Value),Y9 w G (l.map AV.val) l:=fun l=>by
  induction l with
  | nil=>exact .nil
  | cons v l ih=>exact .cons .val ih
 have hvs:Y9 w G xs (args.toList.map a.eval++caps.toList):=by
  rw [<-hargs];exact (Y9.map F.ev a.eval args.toList fun x _=>hF.ev x).append (hcv _)
 have hcl:=hc w G _ hvs hh'.left
 have hbn:¬fn.body=none:=by intro hq;simp [hq] at hb
 have hn':¬fn.name= "runtime.NumGoroutine":=by simpa using hn
 have hrun:(execOp a.eval o).run P w=.ok (.enter f (args.map a.eval++caps)) w:=by
  simp only [execOp,ho,resolve,htv,Deferred.ofValue,Sem.run_bind,Sem.run_pure,Result.andThen_ok,invoke,callFunc]
  simp [program,Sem.run,hf,hn',hbn]
 unfold Oper.wp
 rw [hrun]
 show Calls P f (args.map a.eval++caps) w _
 have hav:args.map a.eval++caps=(args.toList.map a.eval++caps.toList).toArray:=by
  apply Array.ext'
  simp
 rw [hav]
 refine hcl.mono fun e w' ⟨v,r,h',G',he,hR,hv,hh2,hx⟩=>?_
 subst he
 obtain ⟨j1,j2⟩:=hh'.frame hx hh2
 have j3:=j2.perm hp.symm (Km _)
 exact ⟨_,_,G',hK r h' hR,(hF.mono (j3.agree hh)).put (UB hd) hv,j1,j3⟩
end
def Ye:Code->Code
 | .seq a _=>a
 | .cond _ a _=>a
 | .block _ a=>a
 | .loop a=>a
 | .scope a=>a
 | c=>c
def VF:Code->Code
 | .seq _ b=>b
 | .cond _ _ b=>b
 | c=>c
def YK:Code->Nat
 | .skip=>0
 | .region _ _ false=>1
 | .region _ _ true=>2
 | .seq _ _=>3
 | .cond _ _ _=>4
 | .block _ _=>5
 | .loop _=>6
 | .exit _=>7
 | .ret=>8
 | _=>9
def QF:Code->Nat
 | .region id _ _=>id
 | .block id _=>id
 | .exit id=>id
 | _=>0
def X9:Code->Array Oper
 | .region _ ops _=>ops
 | _=>#[]
def Jk:Code->Operand
 | .cond x _ _=>x
 | _=>.tmp 0
def DL (fn:Func):Code:=fn.body.getD .skip
theorem Z0f {c:Code} (h:YK c=0):c=.skip:=by unfold YK at h;split at h<;>first|rfl|cases h
theorem Z0g {c:Code} (h:YK c=1):c=.region (QF c) (X9 c) false:=by unfold YK at h;split at h<;>first|rfl|cases h
theorem Z0h {c:Code} (h:YK c=2):c=.region (QF c) (X9 c) true:=by unfold YK at h;split at h<;>first|rfl|cases h
theorem Z0i {c:Code} (h:YK c=3):c=.seq (Ye c) (VF c):=by unfold YK at h;split at h<;>first|rfl|cases h
theorem Z0j {c:Code} (h:YK c=4):c=.cond (Jk c) (Ye c) (VF c):=by unfold YK at h;split at h<;>first|rfl|cases h
theorem Z0k {c:Code} (h:YK c=5):c=.block (QF c) (Ye c):=by unfold YK at h;split at h<;>first|rfl|cases h
theorem Z0l {c:Code} (h:YK c=6):c=.loop (Ye c):=by unfold YK at h;split at h<;>first|rfl|cases h
theorem Z0m {c:Code} (h:YK c=7):c=.exit (QF c):=by unfold YK at h;split at h<;>first|rfl|cases h
theorem Z0n {c:Code} (h:YK c=8):c=.ret:=by unfold YK at h;split at h<;>first|rfl|cases h
def Qy (P:Program) (n:Nat) (ops:Array Oper) (B:Fr->List Res->Prop) (l:List Oper) (F:Fr) (h:List Res):Prop:=
 ∀(Q:Exit->Act->World->Prop) w G a,FR w G n F a->ZW w G h ->
  (∀F' h' G' a' w',B F' h'->FR w' G' n F' a'->ZW w' G' h'->Yr w G h w' G' h'->Q .normal a' w')->wpList P ops Q l a w
section
variable {P:Program} {n:Nat} {ops:Array Oper} {B:Fr->List Res->Prop} {l:List Oper} {F:Fr} {h:List Res} {A:Wz} {c:Code}
theorem Zab (hB:B F h):Qy P n ops B [] F h:=fun _ w G a hF hh hk=>hk F h G a w hB hF hh (Yr.refl _ _ _)
def K3 (ops:Array Oper) (F:Fr) (o:Oper):Option Bool:=
 match o.guard with
 | none=>some true
 | some (j,want)=>match (ops[j]?).bind (·.dst) with
  | none=>none
  | some t=>match F.get t with
   | .val (.bool b)=>some (b==want)
   | .tup []=>some false
   | _=>none
theorem BE {w:World} {G:ZE} {a:Act} {o:Oper} {b:Bool} (hF:FR w G n F a) (hlt:(match o.guard with|none=>true|some (j,_)=>match (ops[j]?).bind (·.dst) with|some t=>Nat.blt t n|none=>true)=true)
  (hg:K3 ops F o=some b):Region.wanted o (yielded ops a.tmps)=b:=by
 unfold K3 at hg
 unfold Region.wanted
 cases hq:o.guard with
 | none=>simp [hq] at hg;simp [hg]
 | some jw=>
  obtain ⟨j,want⟩:=jw
  simp only [hq] at hg hlt ⊢
  cases ht:(ops[j]?).bind (·.dst) with
  | none=>simp [ht] at hg
  | some t=>
   simp only [ht] at hg hlt
   have hlt':t<n:=by simpa using hlt
   have hv:=hF.get t
   have hget:a.tmps[t]? = some (a.tmps.getD t undef):=by
    have:t<a.tmps.size:=by rw [hF.size];exact hlt'
    simp [Array.getD,this]
   unfold yielded
   simp only [ht,Option.bind_some,hget]
   split at hg
   ·rename_i b' hb
    rw [hb] at hv
    have hv:=hv.val_inv
    cases hg
    rw [hv]
    cases b'<;>cases want<;>rfl
   ·rename_i hb
    rw [hb] at hv
    cases hg
    generalize a.tmps.getD t undef=u at hv
    cases hv with
    | tup hc=>cases hc;cases want<;>rfl
   ·cases hg
def Ju (n:Nat) (ops:Array Oper) (o:Oper):Bool:=
 match o.guard with|none=>true|some (j,_)=>match (ops[j]?).bind (·.dst) with|some t=>Nat.blt t n|none=>true
def Q3 (P:Program) (n:Nat) (ops:Array Oper) (h:List Res):Nat->List Oper->Fr->List Nat->Option (List Oper × Fr × List (Nat × Nat))
 | 0,l,F,_=>some (l,F,[])
 | _+1,[],_,_=>none
 | k+1,o::l,F,hints=>
  match V7 n o&&Ju n ops o with
  | false=>none
  | true=>match K3 ops F o with
   | none=>none
   | some false=>Q3 P n ops h k l (F.put o.dst (.tup [])) hints
   | some true=>match TD P o F h (hints.headD 0) with
    | none=>none
    | some (x,eqs)=>match Q3 P n ops h k l (F.put o.dst x) (match eqs with | []=>hints | _=>hints.tail) with
     | none=>none
     | some (l',F',es)=>some (l',F',eqs++es)
theorem Ze7 {o:Oper} {Q:Exit->Act->World->Prop} {a:Act} {w:World} (hw:Region.wanted o (yielded ops a.tmps)=false)
  (hk:wpList P ops Q l (a.put o.dst undef) w):wpList P ops Q (o::l) a w:=by
 unfold wpList
 rw [Z4 (by simp [hw])]
 exact hk
theorem Ij:∀(k:Nat) {l:List Oper} {F:Fr} {hints:List Nat} {l':List Oper} {F':Fr} {eqs:List (Nat × Nat)},Q3 P n ops h k l F hints=some (l',F',eqs) ->
  (∀p∈eqs,p.1=p.2)->Qy P n ops B l' F' h->Qy P n ops B l F h
 | 0,l,F,hints,l',F',eqs,he,_,hs=>by
  simp only [Q3,Xo,Prod.mk.injEq] at he
  obtain ⟨rfl,rfl,rfl⟩:=he
  exact hs
 | k+1,[],F,hints,l',F',eqs,he,_,hs=>by simp [Q3] at he
 | k+1,o::l,F,hints,l',F',eqs,he,heq,hs=>by
  simp only [Q3] at he
  cases hd:V7 n o&&Ju n ops o with
  | false=>rw [hd] at he;cases he
  | true=>
   rw [hd] at he
   simp only [Xs] at hd
   simp only at he
   cases hg:K3 ops F o with
   | none=>rw [hg] at he;cases he
   | some b=>
    rw [hg] at he
    cases b with
    | false=>
     simp only at he
     have ih:=Ij k he heq hs
     intro Q w G a hF hh hk
     have hw:=BE hF hd.2 hg
     exact Ze7 hw (ih Q w G _ (hF.put (UB hd.1) (.tup (cs:=[]) .nil)) hh hk)
    | true=>
     simp only at he
     cases hev:TD P o F h (hints.headD 0) with
     | none=>rw [hev] at he;cases he
     | some xe=>
      obtain ⟨x,es⟩:=xe
      rw [hev] at he
      simp only at he
      generalize hhint:(match es with|[]=>hints|_=>hints.tail)=hints' at he
      cases hr:Q3 P n ops h k l (F.put o.dst x) hints' with
      | none=>rw [hr] at he;cases he
      | some y=>
       obtain ⟨l2,F2,es2⟩:=y
       rw [hr] at he
       simp only [Xo,Prod.mk.injEq] at he
       obtain ⟨rfl,rfl,rfl⟩:=he
       have ih:=Ij k hr (fun p hp=>heq p (Yv.2 (.inr hp))) hs
       have hst:=BC hev (fun p hp=>heq p (Yv.2 (.inl hp)))
       intro Q w G a hF hh hk
       have hw:=BE hF hd.2 hg
       obtain ⟨v,hv,hrun⟩:=hst n w G a hF hh
       unfold wpList
       rw [Z6 hw]
       refine .inl ?_
       unfold Oper.wp
       rw [hrun w (fun _ _ _=>rfl) (fun _ _=>rfl)]
       exact ih Q w G _ (hF.put (UB hd.1) hv) hh hk
theorem Zac {o:Oper} (hg:K3 ops F o=some true) (hlt:Ju n ops o=true) (ho:XU P n o F h fun F' h'=>Qy P n ops B l F' h'):Qy P n ops B (o::l) F h:=by
 intro Q w G a hF hh hk
 have hw:=BE hF hlt hg
 unfold wpList
 rw [Z6 hw]
 refine .inl (Oper.wp_mono ?_ (ho Q w G a hF hh))
 intro a' w' ⟨F',h',G',h1,h2,h3,h4⟩
 exact h1 Q w' G' a' h2 h3 fun F2 h2' G2 a2 w2 b1 b2 b3 b4=>hk F2 h2' G2 a2 w2 b1 b2 b3 (h4.trans b4)
theorem Fr.Le.refl (F:Fr):F.Le F:=fun _ _ _ _ h=>h
def Zk (x y:AV):Prop:=∀w G v,RV w G x v->RV w G y v
theorem Zk.refl (x:AV):Zk x x:=fun _ _ _ h=>h
theorem Zk.any (x:AV):Zk x .any:=fun _ _ _ _=>.any
theorem Zk.forget (es:List AV) (hv:Option Value):Zk (.sl es hv) (.sl es none):=fun _ _ _ h=>h.forget
theorem Nm (F:Fr):F.Le []:=fun _ _ _ _ _=>.any
theorem BD {F F':Fr} {t:Nat} {x y:AV} (hx:F.get t=x) (hxy:Zk x y) (hr:F.Le F'):F.Le ((t,y)::F'):=by
 intro w G v s hv
 show RV w G (match Nat.beq t s with|true=>y|false=>Fr.get F' s) v
 cases hb:Nat.beq t s with
 | true=>
  have:=U6 hb
  subst this
  rw [hx] at hv
  exact hxy _ _ _ hv
 | false=>exact hr w G v s hv
theorem Zk.sl {es es':List AV} (hv:Option Value) (h:es=es'):Zk (.sl es hv) (.sl es' none):=h▸Zk.forget es hv
theorem Zk.slh {es es':List AV} (hv:Option Value) (h:es=es'):Zk (.sl es hv) (.sl es' hv):=h▸Zk.refl _
theorem Zk.i {a b:Int} (h:a=b):Zk (.val (.int .i64 a)) (.val (.int .i64 b)):=h▸Zk.refl _
theorem Zk.b {a b:Bool} (h:a=b):Zk (.val (.bool a)) (.val (.bool b)):=h▸Zk.refl _
inductive VD:List AV->List AV->Prop
 | nil:VD [] []
 | cons {x y:AV} {xs ys:List AV} (h:Zk x y) (t:VD xs ys):VD (x::xs) (y::ys)
theorem VD.refl:∀(xs:List AV),VD xs xs
 | []=>.nil
 | x::xs=>.cons (Zk.refl x) (VD.refl xs)
theorem VD.cs {w:World} {G:ZE}:∀{xs ys:List AV} {vs:List Value},VD xs ys->Y9 w G xs vs->Y9 w G ys vs
 | _,_,_,.nil,.nil=>.nil
 | _,_,_,.cons h t,.cons a b=>.cons (h _ _ _ a) (t.cs b)
theorem VD.mem {w:World} {G:ZE}:∀{xs ys:List AV} {b o:Nat},VD xs ys->Xi w G b o xs->Xi w G b o ys
 | _,_,_,_,.nil,.nil=>.nil
 | _,_,_,_,.cons h t,.cons a1 a2 a3 a4=>.cons a1 a2 (h _ _ _ a3) (t.mem a4)
theorem Zk.agg {xs ys:List AV} (h:VD xs ys):Zk (.agg xs) (.agg ys):=fun _ _ _ hv=>by
 cases hv with
 | agg hc=>exact .agg (h.cs hc)
theorem Zk.tup {xs ys:List AV} (h:VD xs ys):Zk (.tup xs) (.tup ys):=fun _ _ _ hv=>by
 cases hv with
 | tup hc=>exact .tup (h.cs hc)
theorem Zk.rp {xs ys:List AV} (h:VD xs ys):Zk (.rp xs) (.rp ys):=fun _ _ _ hv=>by
 cases hv with
 | rp hc=>exact .rp (h.mem hc)
mutual
def AV.like:AV->AV->AV
 | .sl es hv,y=>match y with | .sl _ none=>.sl es none | _=>.sl es hv
 | .agg ls,y=>match y with | .agg ms=>.agg (Ah ls ms) | _=>.agg ls
 | .rp ls,y=>match y with | .rp ms=>.rp (Ah ls ms) | _=>.rp ls
 | .tup ls,y=>match y with | .tup ms=>.tup (Ah ls ms) | _=>.tup ls
 | .any,_=>.any
 | .val v,y=>match y with | .any=>.any | _=>.val v
def Ah:List AV->List AV->List AV
 | [],_=>[]
 | x::xs,ys=>match ys with | y::ys=>x.like y::Ah xs ys | []=>x::xs
end
mutual
theorem AV.like_le:∀(x y:AV),Zk x (x.like y)
 | .sl es hv,y=>by
  cases y with
  | sl es' hv'=>cases hv'<;>simp only [AV.like]<;>first | exact Zk.forget es hv | exact Zk.refl _
  | _=>simp only [AV.like];exact Zk.refl _
 | .agg ls,y=>by
  cases y with
  | agg ms=>simp only [AV.like];exact Zk.agg (EI ls ms)
  | _=>simp only [AV.like];exact Zk.refl _
 | .rp ls,y=>by
  cases y with
  | rp ms=>simp only [AV.like];exact Zk.rp (EI ls ms)
  | _=>simp only [AV.like];exact Zk.refl _
 | .tup ls,y=>by
  cases y with
  | tup ms=>simp only [AV.like];exact Zk.tup (EI ls ms)
  | _=>simp only [AV.like];exact Zk.refl _
 | .any,y=>by simp only [AV.like];exact Zk.refl _
 | .val v,y=>by
  cases y with
  | any=>simp only [AV.like];exact Zk.any _
  | _=>simp only [AV.like];exact Zk.refl _
theorem EI:∀(xs ys:List AV),VD xs (Ah xs ys)
 | [],ys=>by simp only [Ah];exact .nil
 | x::xs,ys=>by
  cases ys with
  | nil=>simp only [Ah];exact VD.refl _
  | cons y ys=>simp only [Ah];exact .cons (AV.like_le x y) (EI xs ys)
end
theorem GW {F F':Fr} (h:F'.map (fun p=>(F.get p.1).like p.2)=F'.map (·.2)):F.Le F':=by
 induction F' with
 | nil=>exact Nm F
 | cons p r ih=>
  simp only [Ww,List.cons.injEq] at h
  refine BD rfl ?_ (ih h.2)
  have:=AV.like_le (F.get p.1) p.2
  rwa [h.1] at this
structure UY (F:Fr) (h:List Res) (F':Fr) (h':List Res):Prop where
 fr:F.Le F'
 res:∃d,h.Perm (h'++d)
theorem ZW.weak {w:World} {G:ZE} {h':List Res} (hh:ZW w G h) (hw:∃d,h.Perm (h'++d)):ZW w G h':=by
 obtain ⟨d,hp⟩:=hw
 exact (hh.perm hp).left
theorem Yr.weak_left {w w':World} {G G':ZE} {h' k:List Res} (hw:∃d,h.Perm (h'++d)) (e:Yr w G h' w' G' k):Yr w G h w' G' k:=by
 obtain ⟨d,hp⟩:=hw
 have hs:∀b o,Wb h' b o->Wb h b o:=fun b o hf=>(A7 hp).2 (J0.2 (.inl hf))
 exact ⟨e.os,e.tape,e.output,e.size,e.sub,fun b hb=>(e.same b hb).mono fun _ ho=>hs _ _ ho,fun b o hb hg=>(e.newG b o hb hg).imp id (hs b o),fun b o hb hf=>hs b o (e.newfp b o hb hf)⟩
theorem AG {F':Fr} {h':List Res} (hw:UY F h F' h') (ha:ZY P n c A F' h'):ZY P n c A F h:=by
 intro w G a hF hh
 refine wp_mono (ha w G a (hF.le hw.fr) (hh.weak hw.res)) ?_
 intro e a' w' ⟨F2,h2,G2,b1,b2,b3,b4⟩
 exact ⟨F2,h2,G2,b1,b2,b3,b4.weak_left hw.res⟩
theorem F4 {F':Fr} {h':List Res} (hw:UY F h F' h') (ha:Qy P n ops B l F' h'):Qy P n ops B l F h:=by
 intro Q w G a hF hh hk
 exact ha Q w G a (hF.le hw.fr) (hh.weak hw.res) fun F2 h2 G2 a2 w2 b1 b2 b3 b4=>hk F2 h2 G2 a2 w2 b1 b2 b3 (b4.weak_left hw.res)
theorem Lg {A':Wz} (hA:∀e F h,A e F h->A' e F h) (ha:ZY P n c A F h):ZY P n c A' F h:=by
 intro w G a hF hh
 exact wp_mono (ha w G a hF hh) fun e a' w' hc=>hc.mono hA
@[reducible] def Ay (P:Program) (n:Nat) (y:Code) (A:Wz):Wz:=fun e F h=>
 match e with
 | .normal=>ZY P n y A F h
 | e=>A e F h
@[reducible] def DH (id:Nat) (A:Wz):Wz:=fun e F h=>
 match e with
 | .exit i=>match Nat.beq i id with
  | true=>A .normal F h
  | false=>A (.exit i) F h
 | e=>A e F h
@[reducible] def HF (Inv:Nat->Fr->List Res->Prop) (m:Nat) (A:Wz):Wz:=fun e F h=>
 match e with
 | .normal=>∃m' F' h',m'<m/\Inv m' F' h'/\UY F h F' h'
 | e=>A e F h
theorem FE (hk:YK c=3) (ha:ZY P n (Ye c) (Ay P n (VF c) A) F h):ZY P n c A F h:=by
 rw [Z0i hk]
 intro w G a hF hh
 refine wp_seq (wp_mono (ha w G a hF hh) ?_)
 intro e a' w' ⟨F',h',G',h1,h2,h3,h4⟩
 cases e with
 | normal=>exact wp_mono (h1 w' G' a' h2 h3) fun e a2 w2 hc=>hc.trans h4
 | exit id=>exact ⟨F',h',G',h1,h2,h3,h4⟩
 | goto l=>exact ⟨F',h',G',h1,h2,h3,h4⟩
 | ret=>exact ⟨F',h',G',h1,h2,h3,h4⟩
 | panic ch=>exact ⟨F',h',G',h1,h2,h3,h4⟩
 | outgrown=>exact ⟨F',h',G',h1,h2,h3,h4⟩
theorem Lh (hk:YK c=1) (hs:Qy P n (X9 c) (A .normal) (X9 c).toList F h):ZY P n c A F h:=by
 rw [Z0g hk]
 intro w G a hF hh
 exact wp_region_list (hs _ w G a hF hh fun F' h' G' a' w' b1 b2 b3 b4=>⟨F',h',G',b1,b2,b3,b4⟩)
theorem Si (hk:YK c=3) (hk1:YK (Ye c)=1) (hs:Qy P n (X9 (Ye c)) (fun F h=>ZY P n (VF c) A F h) (X9 (Ye c)).toList F h):ZY P n c A F h:=
 FE hk (Lh hk1 hs)
theorem Sn (hk:YK c=0) (h0:A .normal F h):ZY P n c A F h:=by
 rw [Z0f hk]
 intro w G a hF hh
 exact wp_skip ⟨F,h,G,h0,hF,hh,Yr.refl _ _ _⟩
theorem Se (id:Nat) (hk:YK c=7) (hi:QF c=id) (h0:A (.exit id) F h):ZY P n c A F h:=by
 subst hi
 rw [Z0m hk]
 intro w G a hF hh
 exact wp_exit ⟨F,h,G,h0,hF,hh,Yr.refl _ _ _⟩
theorem Sk (hk:YK c=8) (h0:A .ret F h):ZY P n c A F h:=by
 rw [Z0n hk]
 intro w G a hF hh
 exact wp_ret ⟨F,h,G,h0,hF,hh,Yr.refl _ _ _⟩
theorem FD {b:Bool} {p:Prop} (hk:YK c=4) (hc:F.ev (Jk c)=.val (.bool b)) (hp:b=true↔p) (h1:p->ZY P n (Ye c) A F h) (h2:¬p->ZY P n (VF c) A F h) :
  ZY P n c A F h:=by
 rw [Z0j hk]
 intro w G a hF hh
 have hv:=hF.ev (Jk c)
 rw [hc] at hv
 exact wp_cond_split hv.val_inv (fun e=>h1 (hp.1 e) w G a hF hh) fun e=>h2 (fun q=>by have:=hp.2 q;rw [e] at this;cases this) w G a hF hh
theorem Sb (id:Nat) (hk:YK c=5) (hi:QF c=id) (ha:ZY P n (Ye c) (DH id A) F h):ZY P n c A F h:=by
 subst hi
 rw [Z0k hk]
 intro w G a hF hh
 refine wp_block (wp_mono (ha w G a hF hh) ?_)
 intro e a' w' ⟨F',h',G',h1,h2,h3,h4⟩
 cases e with
 | normal=>exact ⟨F',h',G',h1,h2,h3,h4⟩
 | exit id=>
  simp only [Exit.inBlock]
  by_cases hid:id=QF c
  ·subst hid
   rw [Z6 rfl]
   have hb:Nat.beq (QF c) (QF c)=true:=Nat.beq_refl _
   simp only [DH,hb] at h1
   exact ⟨F',h',G',h1,h2,h3,h4⟩
  ·rw [Z4 hid]
   have hb:Nat.beq id (QF c)=false:=by
    cases hq:Nat.beq id (QF c)
    ·rfl
    ·exact absurd (U6 hq) hid
   simp only [DH,hb] at h1
   exact ⟨F',h',G',h1,h2,h3,h4⟩
 | goto l=>exact ⟨F',h',G',h1,h2,h3,h4⟩
 | ret=>exact ⟨F',h',G',h1,h2,h3,h4⟩
 | panic ch=>exact ⟨F',h',G',h1,h2,h3,h4⟩
 | outgrown=>exact ⟨F',h',G',h1,h2,h3,h4⟩
theorem CN (p:Nat->Prop) (h:∃n,p n):∃n,p n/\∀m,p m->n<=m:=by
 obtain ⟨k,hk⟩:=h
 induction k using Nat.strongRecOn with
 | _ k ih=>
  by_cases hx:∃m,m<k/\p m
  ·obtain ⟨m,h1,h2⟩:=hx
   exact ih m h1 h2
  ·refine ⟨k,hk,fun m hm=>?_⟩
   rcases AC m k with h|h
   ·exact absurd ⟨m,h,hm⟩ hx
   ·exact h
open Classical in
theorem Sh (Inv:Nat->Fr->List Res->Prop) {m0:Nat} {F0:Fr} {h0:List Res} (hk:YK c=6) (hi:Inv m0 F0 h0) (hw:UY F h F0 h0)
  (hr:∀m F h,Inv m F h->ZY P n (Ye c) (HF Inv m A) F h):ZY P n c A F h:=by
 refine AG hw ?_
 rw [Z0l hk]
 intro w G a hF hh
 let J:Nat->Act->World->Prop:=fun m a' w'=>∃F' h' G',Inv m F' h'/\FR w' G' n F' a'/\ZW w' G' h'/\Yr w G h0 w' G' h'
 let mu:Act->World->Nat:=fun a' w'=>if hx:∃m,J m a' w' then Classical.choose (CN (fun m=>J m a' w') hx) else 0
 refine wp_loop (fun a' w'=>∃m,J m a' w') mu ⟨m0,F0,h0,G,hi,hF,hh,Yr.refl _ _ _⟩ ?_
 intro a1 w1 hx
 have hsp:=Classical.choose_spec (CN (fun m=>J m a1 w1) hx)
 have hmu:mu a1 w1=Classical.choose (CN (fun m=>J m a1 w1) hx):=dif_pos hx
 rw [<-hmu] at hsp
 obtain ⟨⟨F1,h1,G1,i1,i2,i3,i4⟩,_⟩:=hsp
 refine wp_mono (hr _ F1 h1 i1 w1 G1 a1 i2 i3) ?_
 intro e a' w' ⟨F',h',G',k1,k2,k3,k4⟩
 have keep:∀{e},A e F' h'->Jc n A w G h0 e a' w':=fun hA=>⟨F',h',G',hA,k2,k3,i4.trans k4⟩
 cases e with
 | normal=>
  obtain ⟨m',F2,h2,j1,j2,j3⟩:=k1
  have hj:J m' a' w':=by
   refine ⟨F2,h2,G',j2,k2.le j3.fr,k3.weak j3.res,i4.trans ?_⟩
   obtain ⟨d,hp⟩:=j3.res
   have hsub:∀b o,Wb h2 b o->Wb h' b o:=fun b o hf=>(A7 hp).2 (J0.2 (.inl hf))
   exact ⟨k4.os,k4.tape,k4.output,k4.size,k4.sub,k4.same,k4.newG,fun b o hb hf=>k4.newfp b o hb (hsub b o hf)⟩
  have hx':∃m,J m a' w':=⟨m',hj⟩
  refine ⟨hx',?_⟩
  show mu a' w'<mu a1 w1
  have hsp':=Classical.choose_spec (CN (fun m=>J m a' w') hx')
  rw [show mu a' w'=Classical.choose (CN (fun m=>J m a' w') hx') from dif_pos hx']
  exact Nat.lt_of_le_of_lt (hsp'.2 m' hj) j1
 | exit id=>exact keep k1
 | goto l=>exact keep k1
 | ret=>exact keep k1
 | panic ch=>exact keep k1
 | outgrown=>exact keep k1
end
def AK:Nat->List AV->Fr
 | _,[]=>[]
 | i,x::xs=>(i,x)::AK (i+1) xs
theorem LH {w:World} {G:ZE}:∀{xs:List AV} {vs:List Value} (i t:Nat) (tl:List Value),Y9 w G xs vs->RV w G ((AK i xs).get (i+t)) ((vs++tl).getD t undef)
 | _,_,i,t,tl,.nil=>.any
 | _,_,i,0,tl,.cons (x:=x) (xs:=xs) h hr=>by
  show RV w G (match Nat.beq i (i+0) with|true=>x|false=>Fr.get (AK (i+1) xs) (i+0)) _
  have:Nat.beq i (i+0)=true:=Nat.beq_refl i
  rw [this]
  simpa using h
 | _,_,i,t+1,tl,.cons (x:=x) (xs:=xs) h hr=>by
  show RV w G (match Nat.beq i (i+(t+1)) with|true=>x|false=>Fr.get (AK (i+1) xs) (i+(t+1))) _
  have hb:Nat.beq i (i+(t+1))=false:=by
   cases hq:Nat.beq i (i+(t+1))
   ·rfl
   ·have:=U6 hq;omega
  rw [hb]
  have:=LH (i+1) t tl hr
  rw [show i+1+t=i+(t+1) from by omega] at this
  simpa using this
def Qn (P:Program) (F:Fr) (h:List Res):List ResultVar->List Nat->Option (List AV × List (Nat × Nat))
 | [],_=>some ([],[])
 | .tmp t::r,hints=>match Qn P F h r hints with
  | some (xs,es)=>some (F.get t::xs,es)
  | none=>none
 | .cell t ty::r,hints=>match F.get t with
  | .val (.pointer (some ⟨b,o,none⟩))=>match h[hints.headD 0]? with
   | some (.obj b' ls)=>match JD P ty (ls.drop o) with
    | some x=>match Qn P F h r hints.tail with
     | some (xs,es)=>some (x::xs,(b,b')::es)
     | none=>none
    | none=>none
   | _=>none
  | _=>none
def JI:List AV->AV
 | [x]=>x
 | xs=>.tup xs
theorem SP (a:Addr):asAddr (.pointer (some a))=pure a:=rfl
theorem I7 {P:Program} {w:World} {G:ZE} {n:Nat} {F:Fr} {h:List Res} {a:Act} (hF:FR w G n F a) (hh:ZW w G h) :
  ∀{rs:List ResultVar} {hints:List Nat} {xs:List AV} {es:List (Nat × Nat)},Qn P F h rs hints=some (xs,es)->(∀p∈es,p.1=p.2) ->
  ∃vs,Y9 w G xs vs/\(List.mapM (m:=Sem) (fun r=>match r with|.tmp t=>pure (a.tmps.getD t undef)|.cell b t=>do loadVar t (<-asAddr (a.tmps.getD b undef))) rs).run P w=.ok vs w
 | [],hints,xs,es,he,_=>by
  simp only [Qn,Xo,Prod.mk.injEq] at he
  obtain ⟨rfl,rfl⟩:=he
  exact ⟨[],.nil,by simp⟩
 | .tmp t::r,hints,xs,es,he,heq=>by
  simp only [Qn] at he
  cases hr:Qn P F h r hints with
  | none=>rw [hr] at he;cases he
  | some y=>
   obtain ⟨ys,es2⟩:=y
   rw [hr] at he
   simp only [Xo,Prod.mk.injEq] at he
   obtain ⟨rfl,rfl⟩:=he
   obtain ⟨vs,h1,h2⟩:=I7 hF hh hr heq
   refine ⟨a.tmps.getD t undef::vs,.cons (hF.get t) h1,?_⟩
   simp only [List.mapM_cons,Sem.run_bind,Sem.run_pure,Result.andThen_ok,h2]
 | .cell t ty::r,hints,xs,es,he,heq=>by
  simp only [Qn] at he
  split at he
  ·rename_i b off hg
   split at he
   ·rename_i b' ls hl
    split at he
    ·rename_i x hx
     split at he
     ·rename_i ys es2 hr
      simp only [Xo,Prod.mk.injEq] at he
      obtain ⟨rfl,rfl⟩:=he
      have hbb:b=b':=heq (b,b') (by simp)
      subst hbb
      obtain ⟨vs,h1,h2⟩:=I7 hF hh hr fun p hp=>heq p (by simp [hp])
      have hv:=hF.get t
      rw [hg] at hv
      have hv:=hv.val_inv
      obtain ⟨cs,e,k1,k2⟩:=hh.ok _ (YA hl)
      obtain ⟨v,j1,j2⟩:=EZ (P:=P) (b:=b) (o:=off) hx (k2.drop off)
      have j3:=j2 w fun j u hj=>by
       rw [cell_of_row w b (off+j) cs e (0,0) k1]
       simpa using hj
      refine ⟨v::vs,.cons j1 h1,?_⟩
      simp only [List.mapM_cons,Sem.run_bind,Sem.run_pure,Result.andThen_ok,hv,SP,j3,h2]
     ·cases he
    ·cases he
   ·cases he
  ·cases he
def JW (P:Program) (fn:Func) (R:AV->List Res->Prop):Wz:=fun e F h=>
 (e=.normal∨e=.ret)/\∃hints xs es h' r,Qn P F h fn.results.toList hints=some (xs,es)/\(∀p∈es,p.1=p.2)/\(∃d,h.Perm (h'++d))/\Zk (JI xs) r/\R r h'
theorem I4 {P:Program} {fn:Func} {R:AV->List Res->Prop} {F:Fr} {h h':List Res} {e:Exit} (he:(match e with|.normal|.ret=>true|_=>false)=true) (hints:List Nat) {xs:List AV}
  {es:List (Nat × Nat)} {r:AV} (hr:Qn P F h fn.results.toList hints=some (xs,es)) (heq:∀p∈es,p.1=p.2) (hw:∃d,h.Perm (h'++d)) (hle:Zk (JI xs) r) (hR:R r h'):JW P fn R e F h:=
 ⟨by cases e<;>first|exact .inl rfl|exact .inr rfl|(cases he),hints,xs,es,h',r,hr,heq,hw,hle,hR⟩
theorem Z9k {P:Program} {fn:Func} {tmps:Array Value} {w:World} {vs:List Value}
  (h:(List.mapM (m:=Sem) (fun r=>match r with|.tmp t=>pure (tmps.getD t undef)|.cell b t=>do loadVar t (<-asAddr (tmps.getD b undef))) fn.results.toList).run P w=.ok vs w) :
  (results fn tmps).run P w=.ok (if h:vs.toArray.size=1 then vs.toArray[0] else .tuple vs.toArray) w:=by
 unfold results
 rw [Array.mapM_eq_mapM_toList]
 simp only [Sem.run_bind,Sem.run_map,Sem.run_pure]
 exact Yp (fun r=>(Result.andThen (Result.andThen r fun a w'=>Result.ok a.toArray w') fun a w'=>Result.ok (if h:a.size=1 then a[0] else Value.tuple a) w')) h
theorem enter {P:Program} {f:FuncId} {fn:Func} {xs:List AV} {h:List Res} {R:AV->List Res->Prop} {n:Nat} (hf:P.funcs[f]? = some fn) (hb:fn.body.isSome=true) (hn:fn.ntmps=n)
  (hle:Nat.ble xs.length n=true) (ha:ZY P n (DL fn) (JW P fn R) (AK 0 xs) h):Wg P f xs h R:=by
 intro w G vs hvs hh
 have hbody:fn.body=some (DL fn):=by
  unfold DL
  cases hq:fn.body with
  | none=>simp [hq] at hb
  | some c=>rfl
 have hlen:=hvs.length
 have hle:=Ks hle
 refine calls_of_wp hf hbody ?_
 have hF:FR w G n (AK 0 xs) { tmps:=vs.toArray++Array.replicate (fn.ntmps-vs.toArray.size) undef,defers:=[] }:=by
  refine ⟨rfl,by simp [hn,hlen];omega,fun t=>?_⟩
  have:=LH (w:=w) (G:=G) 0 t (List.replicate (fn.ntmps-vs.toArray.size) undef) hvs
  rw [Vf] at this
  have e:(vs.toArray++Array.replicate (fn.ntmps-vs.toArray.size) undef).getD t undef=(vs++List.replicate (fn.ntmps-vs.toArray.size) undef).getD t undef:=by
   simp [Array.getElem?_append,List.getElem?_append,List.getElem?_replicate,Array.getElem?_replicate]
  rw [e]
  exact this
 refine wp_mono (ha w G _ hF hh) ?_
 intro e a w' ⟨F',h',G',hA,k1,k2,k3⟩
 obtain ⟨he,hints,ys,es,h2,r,hr,heq,hwk,hle,hR⟩:=hA
 obtain ⟨us,u1,u2⟩:=I7 k1 k2 hr heq
 have hres:=Z9k u2
 have hval:RV w' G' (JI ys) (if h:us.toArray.size=1 then us.toArray[0] else .tuple us.toArray):=by
  cases u1 with
  | nil=>simp [JI];exact .tup (cs:=[]) .nil
  | cons a1 a2=>
   cases a2 with
   | nil=>simpa [JI] using a1
   | cons b1 b2=>simpa [JI] using RV.tup (.cons a1 (.cons b1 b2))
 obtain ⟨d,hp⟩:=hwk
 have k2':=(k2.perm hp).left
 have k3':Yr w G h w' G' h2:=(k3.perm (Km _) hp).sub' (List.sublist_append_left _ _)
 rcases he with rfl|rfl
 ·exact ⟨k1.defers,_,hres,_,_,h2,G',rfl,hR,hle _ _ _ hval,k2',k3'⟩
 ·exact ⟨k1.defers,_,hres,_,_,h2,G',rfl,hR,hle _ _ _ hval,k2',k3'⟩
def Jq (ops:Array Oper) (j i:Nat):Bool:=
 match ops[j]? with
 | some o=>o.after.any fun e=>Region.binds .any e&&e.on==i
 | none=>false
inductive QS (ops:Array Oper):Nat->Nat->Prop
 | one {j i} (h:Jq ops j i=true):QS ops j i
 | more {j m i} (h:Jq ops j m=true) (t:QS ops m i):QS ops j i
def EX (ops:Array Oper):Nat->Nat->Nat->Bool
 | 0,j,i=>Jq ops j i
 | f+1,j,i=>match ops[j]? with
  | some o=>o.after.any fun e=>Region.binds .any e&&(e.on==i||(Nat.ble i e.on&&EX ops f e.on i))
  | none=>false
def V6 (ops:Array Oper) (j i:Nat):Bool:=EX ops 9 j i
theorem MZ {ops:Array Oper} {j:Nat} {o:Oper} {e:Edge} (ho:ops[j]? = some o) (he:e∈o.after) (hb:Region.binds .any e=true):Jq ops j e.on=true:=by
 unfold Jq
 rw [ho]
 simp only [Array.any_eq_true',Xs,Zr]
 exact ⟨e,he,hb,rfl⟩
theorem Pl {ops:Array Oper}:∀{f j i:Nat},EX ops f j i=true->QS ops j i
 | 0,j,i,h=>.one h
 | f+1,j,i,h=>by
  rw [EX] at h
  split at h
  ·rename_i o ho
   simp only [Array.any_eq_true',Xs,Bool.or_eq_true,Zr] at h
   obtain ⟨e,he,hb,h1|⟨_,h1⟩⟩:=h
   ·exact .one (h1▸MZ ho he hb)
   ·exact .more (MZ ho he hb) (Pl h1)
  ·cases h
theorem Z07 {ops:Array Oper} {j i:Nat} (h:V6 ops j i=true):QS ops j i:=Pl h
def Jb (ops:Array Oper) (listed:Array Bool):Prop:=∀m i,listed.getD m false=true->Jq ops m i=true->listed.getD i false=true
theorem Jb.bef {ops:Array Oper} {listed:Array Bool} (hc:Jb ops listed) {j i:Nat} (hb:QS ops j i):listed.getD j false=true->listed.getD i false=true:=by
 induction hb with
 | one h=>exact fun hj=>hc _ _ hj h
 | more h _ ih=>exact fun hj=>ih (hc _ _ hj h)
theorem GN {ops:Array Oper} {listed:Array Bool} {j i:Nat} (hj:j∈Region.ready .any ops listed) (h:Jq ops j i=true):listed.getD i false=true:=by
 obtain ⟨_,o,ho,hall⟩:=mem_ready.1 hj
 simp only [Jq,ho] at h
 obtain ⟨e,he,hb⟩:=Array.any_eq_true'.1 h
 simp only [Xs,Zr] at hb
 exact hb.2▸hall e he hb.1
theorem Z89 {ops:Array Oper} {listed:Array Bool} {j i:Nat} (hc:Jb ops listed) (hj:j∈Region.ready .any ops listed) (hi:listed.getD i true=false):¬QS ops j i:=by
 intro hb
 have hi':listed.getD i false=false:=by
  cases hq:listed.getD i false
  ·rfl
  ·rcases AC i listed.size with h|h
   ·simp [h] at hi hq;rw [hi] at hq;cases hq
   ·simp [Array.getElem?_eq_none h] at hi
 have hl:listed.getD i false=true:=by
  cases hb with
  | one h=>exact GN hj h
  | more h t=>exact hc.bef t (GN hj h)
 rw [hi'] at hl
 cases hl
theorem Jb.add {ops:Array Oper} {listed:Array Bool} {j:Nat} (hc:Jb ops listed) (hj:j∈Region.ready .any ops listed):Jb ops (listed.setIfInBounds j true):=by
 intro m i hm he
 by_cases hmj:m=j
 ·subst hmj
  exact getD_set_true (GN hj he)
 ·rw [getD_set_ne false (Ne.symm hmj)] at hm
  exact getD_set_true (hc m i hm he)
abbrev Cg:=Nat × (World->Prop)->Prop
def Bb (P:Program) (ops:Array Oper) (Q:Exit->Act->World->Prop):Nat->Cg->Array Bool->Act->World->Prop
 | 0,_,listed,a,w=>Region.ready .any ops listed=[]/\Q .normal a w
 | fuel+1,T,listed,a,w=>
  (Region.ready .any ops listed=[]->Q .normal a w) /\
  ∀i∈Region.ready .any ops listed,wpOp P ops Q i (fun a' w'=>(∀p,T p->¬QS ops i p.1->p.2 w') /\
   Bb P ops Q fuel (fun p=>T p/\¬QS ops i p.1) (listed.setIfInBounds i true) a' w') a w
section
variable {P:Program} {ops:Array Oper} {Q:Exit->Act->World->Prop} {S:World->Prop}
theorem S0:∀(fuel:Nat) (T:Cg) (listed:Array Bool) (a:Act) (w:World),Bb P ops Q fuel T listed a w->wpAny P .any ops Q fuel listed a w
 | 0,_,_,_,_,h=>h
 | fuel+1,_,_,_,_,h=>⟨h.1,fun i hi=>wpOp_mono (fun _ _ h'=>S0 fuel _ _ _ _ h'.2) (h.2 i hi)⟩
theorem L6:∀(fuel:Nat) {T T':Cg} (listed:Array Bool) (a:Act) (w:World),(∀p,T' p->T p)->Bb P ops Q fuel T listed a w->Bb P ops Q fuel T' listed a w
 | 0,_,_,_,_,_,_,h=>h
 | fuel+1,_,_,_,_,_,hT,h=>⟨h.1,fun i hi=>wpOp_mono (fun _ _ h'=>⟨fun p hp=>h'.1 p (hT p hp),L6 fuel _ _ _ (fun p hp=>⟨hT p hp.1,hp.2⟩) h'.2⟩) (h.2 i hi)⟩
theorem Ze6 {i:Nat} {oi:Oper} {v:Value} (hi:ops[i]? = some oi) (hsel:∀(j:Nat) (o:Oper) cs b,ops[j]? = some o->o.op≠.select cs b)
  (hQ:∀c a w,¬Q (.panic c) a w) :
  ∀(fuel:Nat) (T:Cg) (listed:Array Bool) (a:Act) (w:World),Jb ops listed ->
   (∀j oj,ops[j]? = some oj->j≠i->listed.getD j true=false->(∀e∈oj.after,Region.binds .any e=true->e.on≠i)->oi.apart ops oj=true) ->
   i∈Region.ready .any ops listed->YieldsIf P ops S oi v a->S w->(∀p,T p->p.2 w) ->
   Bb P ops Q fuel (fun p=>T p∨p=(i,S)) (listed.setIfInBounds i true) (a.put oi.dst v) w->Bb P ops Q (fuel+1) T listed a w:=by
 intro fuel
 have hQ':∀c a w,Q (.panic c) (a.put oi.dst v) w->Q (.panic c) a w:=fun c a w h=>(hQ c _ w h).elim
 induction fuel with
 | zero=>
  intro T listed a w _ hfree hr hy hS hT H
  refine ⟨fun h=>(by rw [h] at hr;cases hr),fun j hj=>?_⟩
  by_cases hji:j=i
  ·subst hji
   exact hy.wpOp hi hS ⟨fun p hp _=>hT p hp,H⟩
  ·have:=ready_mono hj hji
   rw [H.1] at this
   cases this
 | succ fuel ih=>
  intro T listed a w hcl hfree hr hy hS hT H
  refine ⟨fun h=>(by rw [h] at hr;cases hr),fun j hj=>?_⟩
  by_cases hji:j=i
  ·subst hji
   exact hy.wpOp hi hS ⟨fun p hp _=>hT p hp,L6 (fuel+1) _ _ _ (fun p hp=>.inl hp.1) H⟩
  ·have h1:=H.2 j (ready_mono hj hji)
   obtain ⟨hjun,oj,hoj,hall⟩:=mem_ready.1 hj
   have hiun:=(mem_ready.1 hr).1
   have hnb:¬QS ops j i:=Z89 hcl hj hiun
   have hnot:∀e∈oj.after,Region.binds .any e=true->e.on≠i:=fun e he hb heq=>
    hnb (.one (by simp only [Jq,hoj];exact Array.any_eq_true'.2 ⟨e,he,by simp [hb,heq]⟩))
   have h2:=wpOp_putIf hoj (hfree j oj hoj hji hjun hnot) (fun cs b=>hsel i oi cs b hi) (fun cs b=>hsel j oj cs b hoj) hQ' hy h1
   have hfree':∀k ok,ops[k]? = some ok->k≠i->(listed.setIfInBounds j true).getD k true=false ->
     (∀e∈ok.after,Region.binds .any e=true->e.on≠i)->oi.apart ops ok=true:=fun k ok hk hki hun hno=>by
    refine hfree k ok hk hki ?_ hno
    by_cases hjk:j=k
    ·subst hjk;exact hjun
    ·rw [getD_set_ne true hjk] at hun;exact hun
   refine wpOp_mono (fun a' w' h3=>?_) h2
   obtain ⟨hy',hT',hrest⟩:=h3
   have hTp:∀p,T p/\¬QS ops j p.1->p.2 w':=fun p hp=>hT' p (.inl hp.1) hp.2
   refine ⟨fun p hp hb=>hTp p ⟨hp,hb⟩,ih _ (listed.setIfInBounds j true) a' w' (hcl.add hj) hfree' (ready_mono hr (Ne.symm hji)) hy' (hT' (i,S) (.inr rfl) hnb) hTp ?_⟩
   rw [Array.setIfInBounds_comm _ _ hji]
   refine L6 fuel _ _ _ (fun p hp=>?_) hrest
   rcases hp with hp|rfl
   ·exact ⟨.inl hp.1,hp.2⟩
   ·exact ⟨.inr rfl,hnb⟩
end
def Wt (ops:Array Oper) (done:List Nat):Array Bool:=done.foldl (fun l i=>l.setIfInBounds i true) (Array.replicate ops.size false)
theorem EK (ops:Array Oper) (done:List Nat) (i:Nat):Wt ops (done++[i])=(Wt ops done).setIfInBounds i true:=by simp [Wt]
theorem Z10 (ops:Array Oper):Jb ops (Wt ops []):=by
 intro m i hm _
 simp only [Wt,List.foldl_nil] at hm
 by_cases h:m<ops.size
 ·simp [h] at hm
 ·simp [h] at hm
def Yu (P:Program) (n:Nat) (ops:Array Oper) (B:Fr->List Res->Prop) (T:List (Nat × List Nat)) (fuel:Nat) (done:List Nat) (F:Fr) (h:List Res):Prop:=
 ∀(Q:Exit->Act->World->Prop) w G a (SL:Cg),FR w G n F a->ZW w G h->(∀c a w,¬Q (.panic c) a w)->Jb ops (Wt ops done) ->
  (∀p,SL p->∃t∈T,t.1=p.1/\∀w',(∀b o,G b o->w'.cell? ⟨b,o,none⟩=w.cell? ⟨b,o,none⟩)->(∀b∈t.2,w'.heap[b]? = w.heap[b]?)->p.2 w') ->
  (∀F' h' G' a' w',B F' h'->FR w' G' n F' a'->ZW w' G' h'->Yr w G h w' G' h'->Q .normal a' w')->Bb P ops Q fuel SL (Wt ops done) a w
section
variable {P:Program} {n:Nat} {ops:Array Oper} {B:Fr->List Res->Prop} {T:List (Nat × List Nat)} {fuel:Nat} {done:List Nat} {F:Fr} {h:List Res}
theorem Z1u (hr:Region.ready .any ops (Wt ops done)=[]) (hB:B F h):Yu P n ops B T fuel done F h:=by
 intro Q w G a SL hF hh _ _ _ hk
 have hq:=hk F h G a w hB hF hh (Yr.refl _ _ _)
 cases fuel with
 | zero=>exact ⟨hr,hq⟩
 | succ f=>exact ⟨fun _=>hq,by rw [hr];simp⟩
def Qo (P:Program) (n:Nat) (ops:Array Oper) (h:List Res):List Nat->List Nat->Fr->List Nat->Option (Fr × List (Nat × List (Nat × Nat)))
 | [],_,F,_=>some (F,[])
 | i::is,done,F,hints=>
  match ops[i]? with
  | none=>none
  | some o=>
   match V7 n o&&(Ju n ops o&&(Region.free .any ops (Wt ops done) i&&(Region.ready .any ops (Wt ops done)).contains i)) with
   | false=>none
   | true=>match K3 ops F o with
    | none=>none
    | some false=>match Qo P n ops h is (done++[i]) (F.put o.dst (.tup [])) hints with
     | none=>none
     | some (F',es)=>some (F',(i,[])::es)
    | some true=>match TD P o F h (hints.headD 0) with
     | none=>none
     | some (x,eqs)=>match Qo P n ops h is (done++[i]) (F.put o.dst x) (match eqs with | []=>hints | _=>hints.tail) with
      | none=>none
      | some (F',es)=>some (F',(i,eqs)::es)
def CX (es:List (Nat × List (Nat × Nat))):List (Nat × List Nat):=es.map fun e=>(e.1,e.2.map (·.1))
theorem Gt {i:Nat} {o:Oper} {ks:List Nat} {x:AV} (hs:Region.noSelect ops=true) (hi:ops[i]? = some o) (hd:V7 n o=true) (hgl:Ju n ops o=true)
  (hf:Region.free .any ops (Wt ops done) i=true) (hr:(Region.ready .any ops (Wt ops done)).contains i=true)
  (hx:(K3 ops F o=some false/\x=.tup []/\ks=[])∨(K3 ops F o=some true/\X8 P o F h ks x))
  (H:Yu P n ops B ((i,ks)::T) fuel (done++[i]) (F.put o.dst x) h):Yu P n ops B T (fuel+1) done F h:=by
 intro Q w G a SL hF hh hQ hcl hcov hk
 have hready:i∈Region.ready .any ops (Wt ops done):=by simpa using hr
 let S:World->Prop:=fun w'=>(∀b o,G b o->w'.cell? ⟨b,o,none⟩=w.cell? ⟨b,o,none⟩)/\(∀b∈ks,w'.heap[b]? = w.heap[b]?)
 have hSL:∀p,SL p->p.2 w:=fun p hp=>by
  obtain ⟨t,_,_,h3⟩:=hcov p hp
  exact h3 w (fun _ _ _=>rfl) fun _ _=>rfl
 have key:∃v,RV w G x v/\YieldsIf P ops S o v a:=by
  rcases hx with ⟨hg,rfl,rfl⟩|⟨hg,hst⟩
  ·exact ⟨undef,.tup (cs:=[]) .nil,.inr ⟨BE hF hgl hg,rfl⟩⟩
  ·obtain ⟨v,h1,h2⟩:=hst n w G a hF hh
   exact ⟨v,h1,.inl ⟨BE hF hgl hg,fun w' hw'=>h2 w' hw'.1 hw'.2⟩⟩
 obtain ⟨v,hv,hy⟩:=key
 refine Ze6 hi (Region.noSelect_spec hs) hQ fuel SL _ a w hcl (Region.free_spec hi hf) hready hy ⟨fun _ _ _=>rfl,fun _ _=>rfl⟩ hSL ?_
 rw [<-EK]
 refine H Q w G _ _ (hF.put (UB hd) hv) hh hQ (by rw [EK];exact hcl.add hready) ?_ hk
 rintro p (hp|rfl)
 ·obtain ⟨t,h1,h2,h3⟩:=hcov p hp
  exact ⟨t,Xv _ h1,h2,h3⟩
 ·exact ⟨(i,ks),YV ..,rfl,fun w' h1 h2=>⟨h1,h2⟩⟩
theorem DY:∀(is:List Nat) {T:List (Nat × List Nat)} {done:List Nat} {F F':Fr} {hints:List Nat} {es:List (Nat × List (Nat × Nat))} {fuel':Nat},Region.noSelect ops=true ->
  Qo P n ops h is done F hints=some (F',es)->(∀e∈es,∀p∈e.2,p.1=p.2)->fuel'=fuel+is.length ->
  Yu P n ops B ((CX es).reverse++T) fuel (done++is) F' h->Yu P n ops B T fuel' done F h
 | [],T,done,F,F',hints,es,fuel',_,he,_,hf,H=>by
  simp only [Qo,Xo,Prod.mk.injEq] at he
  obtain ⟨rfl,rfl⟩:=he
  subst hf
  simpa [CX] using H
 | i::is,T,done,F,F',hints,es,fuel',hs,he,heq,hf,H=>by
  simp only [Qo] at he
  cases ho:ops[i]? with
  | none=>rw [ho] at he;cases he
  | some o=>
   rw [ho] at he
   simp only at he
   cases hc:V7 n o&&(Ju n ops o&&(Region.free .any ops (Wt ops done) i&&(Region.ready .any ops (Wt ops done)).contains i)) with
   | false=>rw [hc] at he;cases he
   | true=>
    rw [hc] at he
    simp only [Xs] at hc
    obtain ⟨c1,c2,c3,c4⟩:=hc
    simp only at he
    have hfuel:fuel'=fuel+is.length+1:=by simp at hf;omega
    subst hfuel
    cases hg:K3 ops F o with
    | none=>rw [hg] at he;cases he
    | some b=>
     rw [hg] at he
     cases b with
     | false=>
      simp only at he
      cases hr:Qo P n ops h is (done++[i]) (F.put o.dst (.tup [])) hints with
      | none=>rw [hr] at he;cases he
      | some y=>
       obtain ⟨F2,es2⟩:=y
       rw [hr] at he
       simp only [Xo,Prod.mk.injEq] at he
       obtain ⟨rfl,rfl⟩:=he
       refine Gt hs ho c1 c2 c3 c4 (.inl ⟨hg,rfl,rfl⟩) (DY is hs hr (fun e he=>heq e (Xv _ he)) rfl ?_)
       simpa [CX] using H
     | true=>
      simp only at he
      cases hev:TD P o F h (hints.headD 0) with
      | none=>rw [hev] at he;cases he
      | some xe=>
       obtain ⟨x,eqs⟩:=xe
       rw [hev] at he
       simp only at he
       generalize (match eqs with|[]=>hints|_=>hints.tail)=hints' at he
       cases hr:Qo P n ops h is (done++[i]) (F.put o.dst x) hints' with
       | none=>rw [hr] at he;cases he
       | some y=>
        obtain ⟨F2,es2⟩:=y
        rw [hr] at he
        simp only [Xo,Prod.mk.injEq] at he
        obtain ⟨rfl,rfl⟩:=he
        have hst:=BC hev (heq (i,eqs) (YV ..))
        refine Gt hs ho c1 c2 c3 c4 (.inr ⟨hg,hst⟩) (DY is hs hr (fun e he=>heq e (Xv _ he)) rfl ?_)
        simpa [CX] using H
def WD:List Res->List Nat
 | []=>[]
 | .obj b _::r=>b::WD r
 | .row (.slice (some a) _ _) _ _::r=>a.block::WD r
 | .mp b _::r=>b::WD r
 | _::r=>WD r
theorem OT {b:Nat}:∀{h:List Res},b∈WD h->∃r∈h,∀o,r.fp b o
 | [],hb=>by simp [WD] at hb
 | x::r,hb=>by
  have up:b∈WD r->∃q∈x::r,∀o,q.fp b o:=fun hb=>by obtain ⟨l,hl,hf⟩:=OT (h:=r) hb;exact ⟨l,Xv _ hl,hf⟩
  unfold WD at hb
  split at hb
  ·rename_i he;cases he
  ·rename_i he
   cases he
   rcases Yw.1 hb with rfl|hb
   ·exact ⟨_,YV ..,fun _=>rfl⟩
   ·exact up hb
  ·rename_i he
   cases he
   rcases Yw.1 hb with rfl|hb
   ·exact ⟨_,YV ..,fun _=>rfl⟩
   ·exact up hb
  ·rename_i he
   cases he
   rcases Yw.1 hb with rfl|hb
   ·exact ⟨_,YV ..,fun _=>rfl⟩
   ·exact up hb
  ·rename_i he
   cases he
   exact up hb
def VC (P:Program) (n:Nat) (ops:Array Oper) (B:Fr->List Res->Prop) (T:List (Nat × List Nat)) (fuel:Nat) (done:List Nat) (F:Fr) (h:List Res) (i:Nat):Prop:=
 ∃o h1 h2,ops[i]? = some o/\K3 ops F o=some true/\Ju n ops o=true/\h.Perm (h1++h2) /\
  (∀t∈T,V6 ops i t.1=true∨∀b∈t.2,b∈WD h2) /\
  XU P n o F h1 fun F' h1'=>Yu P n ops B (T.filter fun t=>!V6 ops i t.1) fuel (done++[i]) F' (h1'++h2)
theorem MB {is:List Nat} (hr:Region.ready .any ops (Wt ops done)=is) (hne:is.isEmpty=false) (H:∀i∈is,VC P n ops B T fuel done F h i):Yu P n ops B T (fuel+1) done F h:=by
 intro Q w G a SL hF hh hQ hcl hcov hk
 refine ⟨fun h0=>(by rw [hr] at h0;subst h0;simp at hne),fun i hi=>?_⟩
 obtain ⟨o,h1,h2,ho,hg,hgl,hp,hT,hop⟩:=H i (hr▸hi)
 have hh':=hh.perm hp
 have hw:=BE hF hgl hg
 unfold wpOp
 simp only [ho,hw,if_true]
 refine .inl (Oper.wp_mono ?_ (hop Q w G a hF hh'.left))
 intro a' w' ⟨F',h1',G',b1,b2,b3,b4⟩
 obtain ⟨j1,j2⟩:=hh'.frame b4 b3
 have hA:=b4.agree hh'.left
 have hsame:∀b∈WD h2,w'.heap[b]? = w.heap[b]?:=fun b hb=>by
  obtain ⟨r,hl,hr⟩:=OT hb
  exact (b4.same b ((hh'.ok r (Yv.2 (.inr hl))).lt b 0 (hr 0))).eq fun o hf=>hh'.cross hf ⟨_,hl,hr o⟩
 have hcov':∀p,SL p/\¬QS ops i p.1->∃t∈T.filter fun t=>!V6 ops i t.1,t.1=p.1 /\
   ∀w'',(∀b o,G' b o->w''.cell? ⟨b,o,none⟩=w'.cell? ⟨b,o,none⟩)->(∀b∈t.2,w''.heap[b]? = w'.heap[b]?)->p.2 w'':=by
  rintro p ⟨hp,hb⟩
  obtain ⟨t,t1,t2,t3⟩:=hcov p hp
  have hbb:V6 ops i t.1=false:=by
   cases hq:V6 ops i t.1
   ·rfl
   ·exact absurd (t2▸Z07 hq) hb
  refine ⟨t,List.mem_filter.2 ⟨t1,by simp [hbb]⟩,t2,fun w'' c1 c2=>t3 w'' (fun b o hg=>(c1 b o (hA.sub b o hg)).trans (hA.cell b o hg)) fun b hb'=>?_⟩
  rcases hT t t1 with h|h
  ·rw [hbb] at h;cases h
  ·exact (c2 b hb').trans (hsame b (h b hb'))
 refine ⟨fun p hp hb=>?_,?_⟩
 ·obtain ⟨t,_,_,t3⟩:=hcov' p ⟨hp,hb⟩
  exact t3 w' (fun _ _ _=>rfl) fun _ _=>rfl
 ·rw [<-EK]
  exact b1 Q w' G' a' _ b2 j1 hQ (by rw [EK];exact hcl.add hi) hcov' fun F2 h2' G2 a2 w2 c1 c2 c3 c4=>hk F2 h2' G2 a2 w2 c1 c2 c3 ((j2.perm hp.symm (Km _)).trans c4)
theorem Z1x {i:Nat} (hr:Region.ready .any ops (Wt ops done)=[i]) (H:VC P n ops B T fuel done F h i):Yu P n ops B T (fuel+1) done F h:=
 MB hr rfl fun j hj=>by rw [YH.1 hj];exact H
theorem E0 {F':Fr} (hw:F.Le F') (H:Yu P n ops B T fuel done F' h):Yu P n ops B T fuel done F h:=by
 intro Q w G a SL hF hh hQ hcl hcov hk
 exact H Q w G a SL (hF.le hw) hh hQ hcl hcov hk
end
theorem Li {P:Program} {n:Nat} {c:Code} {A:Wz} {F:Fr} {h:List Res} (hk:YK c=2) (hm:P.follows .mixedOrders=true) {k:Nat} (YD:(X9 c).size=k)
  (hs:Yu P n (X9 c) (A .normal) [] k [] F h):ZY P n c A F h:=by
 rw [Z0h hk]
 intro w G a hF hh
 subst YD
 let Q:Exit->Act->World->Prop:=fun e a' w'=>match e with
  | .normal=>Jc n A w G h .normal a' w'
  | _=>False
 have hx:=hs Q w.drew G a (fun _=>False) (hF.mono (AJ w G)) hh.drew (fun _ _ _ hq=>hq) (Z10 _) (fun p hp=>hp.elim)
  fun F' h' G' a' w' b1 b2 b3 b4=>⟨F',h',G',b1,b2,b3,(Yr.drew w G h).trans b4⟩
 refine wp_mono (wp_region_any (Q:=Q) hm (S0 _ _ _ _ _ hx)) ?_
 intro e a' w' hq
 cases e with
 | normal=>exact hq
 | _=>exact hq.elim
theorem Sj {P:Program} {n:Nat} {c:Code} {A:Wz} {F:Fr} {h:List Res} (hk:YK c=3) (hk2:YK (Ye c)=2) (hm:P.follows .mixedOrders=true) {k:Nat}
  (YD:(X9 (Ye c)).size=k) (hs:Yu P n (X9 (Ye c)) (fun F h=>ZY P n (VF c) A F h) [] k [] F h):ZY P n c A F h:=
 FE hk (Li hk2 hm YD hs)
abbrev AV.i (n:Int):AV:=.val (.int .i64 n)
abbrev AV.b (b:Bool):AV:=.val (.bool b)
abbrev AV.p (b:Nat) (o:Nat):AV:=.val (.pointer (some ⟨b,o,none⟩))
abbrev AV.ms (b off len cap:Nat):AV:=.val (.slice (some ⟨b,off,none⟩) len cap)
def Zj (ops:Array Oper) (k:Nat):Oper:=ops.toList.getD k default
def YE (n:Nat) (ops:Array Oper) (F:Fr) (k:Nat):Bool:=
 Nat.blt k ops.size&&(V7 n (Zj ops k)&&(Ju n ops (Zj ops k)&&(match K3 ops F (Zj ops k) with|some true=>true|_=>false)))
abbrev SI (P:Program) (n:Nat) (ops:Array Oper) (B:Fr->List Res->Prop) (k:Nat) (F:Fr) (h:List Res):Prop:=Qy P n ops B (ops.toList.drop k) F h
theorem Z29 {ops:Array Oper} {k:Nat} (h:k<ops.size):ops.toList.drop k=Zj ops k::ops.toList.drop (k+1):=by
 have this:k<ops.toList.length:=by simpa using h
 rw [S7 this]
 simp [Zj,List.getD,h]
section
variable {P:Program} {n:Nat} {ops:Array Oper} {B:Fr->List Res->Prop} {k:Nat} {F:Fr} {h:List Res}
theorem VL (hk:YE n ops F k=true):k<ops.size/\V7 n (Zj ops k)=true/\Ju n ops (Zj ops k)=true/\K3 ops F (Zj ops k)=some true:=by
 simp only [YE,Xs] at hk
 obtain ⟨h1,h2,h3,h4⟩:=hk
 refine ⟨by simpa using h1,h2,h3,?_⟩
 split at h4
 ·assumption
 ·cases h4
theorem Uq (hk:YE n ops F k=true) (ho:XU P n (Zj ops k) F h fun F' h'=>SI P n ops B (k+1) F' h'):SI P n ops B k F h:=by
 obtain ⟨h1,h2,h3,h4⟩:=VL hk
 show Qy P n ops B (ops.toList.drop k) F h
 rw [Z29 h1]
 exact Zac h4 h3 ho
theorem AW {ks:List Nat} {x:AV} (hk:YE n ops F k=true) (hs:X8 P (Zj ops k) F h ks x) (H:SI P n ops B (k+1) (F.put (Zj ops k).dst x) h):SI P n ops B k F h:=
 Uq hk (hs.op (VL hk).2.1 H)
theorem If:∀(m:Nat) {l:List Oper} {F:Fr} {hints:List Nat} {l':List Oper} {F':Fr} {es:List (Nat × Nat)},Q3 P n ops h m l F hints=some (l',F',es)->l'=l.drop m
 | 0,l,F,hints,l',F',es,he=>by
  simp only [Q3,Xo,Prod.mk.injEq] at he
  simp [he.1]
 | m+1,[],F,hints,l',F',es,he=>by simp [Q3] at he
 | m+1,o::l,F,hints,l',F',es,he=>by
  simp only [Q3] at he
  split at he
  ·cases he
  ·split at he
   ·cases he
   ·simpa using If m he
   ·split at he
    ·cases he
    ·split at he
     ·cases he
     ·rename_i hr
      simp only [Xo,Prod.mk.injEq] at he
      obtain ⟨rfl,_,_⟩:=he
      simpa using If m hr
theorem HW:∀{es:List (Nat × Nat)},es.map (·.1)=es.map (·.2)->∀p∈es,p.1=p.2
 | [],_,p,hp=>by simp at hp
 | e::es,h,p,hp=>by
  simp only [Ww,List.cons.injEq] at h
  rcases Yw.1 hp with rfl|hp
  ·exact h.1
  ·exact HW h.2 p hp
theorem Z4n (x':AV) {x:AV} (hk:YE n ops F k=true) (he:TD P (Zj ops k) F h 0=some (x,[])) (hx:Zk x x') (H:SI P n ops B (k+1) (F.put (Zj ops k).dst x') h):SI P n ops B k F h:=by
 refine AW (ks:=[]) hk ?_ H
 have hs:=BC he (by simp)
 intro n w G a hF hh
 obtain ⟨v,h1,h2⟩:=hs n w G a hF hh
 exact ⟨v,hx _ _ _ h1,by simpa using h2⟩
theorem Ny (hk:Nat.ble ops.size k=true) (hB:B F h):SI P n ops B k F h:=by
 have:ops.toList.drop k=[]:=QP (by simpa using Ks hk)
 show Qy P n ops B (ops.toList.drop k) F h
 rw [this]
 exact Zab hB
theorem Nz (H:SI P n ops B 0 F h):Qy P n ops B ops.toList F h:=H
theorem Z4j (F':Fr) (h':List Res) (H:SI P n ops (fun F h=>UY F h F' h') k F h) (hB:B F' h') (hB':∀F h,UY F h F' h'->B F' h'->B F h):SI P n ops B k F h:=by
 intro Q w G a hF hh hk
 exact H Q w G a hF hh fun F2 h2 G2 a2 w2 b1 b2 b3 b4=>hk F2 h2 G2 a2 w2 (hB' _ _ b1 hB) b2 b3 b4
theorem Z4k {c:Code} {A:Wz} (F':Fr) (h':List Res) (H:SI P n ops (fun F h=>UY F h F' h') k F h) (hB:ZY P n c A F' h'):SI P n ops (fun F h=>ZY P n c A F h) k F h:=
 Z4j F' h' H hB fun _ _ hw ha=>AG hw ha
theorem Z4o {b:Bool} (t:Nat) (hF:F.get t=.val (.bool b)) (h1:b=true->SI P n ops B k ((t,.val (.bool true))::F) h)
  (h2:b=false->SI P n ops B k ((t,.val (.bool false))::F) h):SI P n ops B k F h:=by
 cases b with
 | true=>exact F4 ⟨BD hF (Zk.refl _) (Fr.Le.refl F),[],by simp⟩ (h1 rfl)
 | false=>exact F4 ⟨BD hF (Zk.refl _) (Fr.Le.refl F),[],by simp⟩ (h2 rfl)
theorem ZZ {b:Bool} {p:Prop} (h:b=true↔p) (hb:b=false):¬p:=fun q=>by have:=h.2 q;rw [hb] at this;cases this
theorem QH {α:Type} {xs:List α} {j:Nat} (h:j<xs.length):∃x,xs[j]? = some x:=⟨_,Qu h⟩
theorem Yy {a b:Bool} {p q:Prop} (h1:a=true↔p) (h2:b=true↔q):(a&&b)=true↔p/\q:=by rw [Xs,h1,h2]
theorem Yg {a b:Bool} {p q:Prop} (h1:a=true↔p) (h2:b=true↔q):(a||b)=true↔p∨q:=by rw [Bool.or_eq_true,h1,h2]
theorem Yi {a:Bool} {p:Prop} (h1:a=true↔p):(!a)=true↔¬p:=by rw [<-h1];cases a<;>simp
def KT (ops:Array Oper) (F:Fr) (k:Nat):Option Int:=
 match (Zj ops k).op with
 | .binOp op _ x y _=>match F.ev x,F.ev y with
  | .val (.int .i64 a),.val (.int .i64 b)=>match op with
   | .add=>some (a+b)
   | .sub=>some (a-b)
   | .mul=>some (a*b)
   | _=>none
  | _,_=>none
 | _=>none
theorem Rn {r s:Int} (ha:KT ops F k=some s) (hs:s=r) (hb:-9223372036854775808<=r/\r<=9223372036854775807) :
  X8 P (Zj ops k) F h [] (.val (.int .i64 r)):=by
 subst hs
 unfold KT at ha
 generalize hoo:Zj ops k=o at ha
 obtain ⟨dst,op,type,pos,after,guard⟩:=o
 cases op<;>simp only at ha<;>try (cases ha)
 rename_i bop xt x y yt
 split at ha
 ·rename_i a b h1 h2
  have key:∀v,CA bop .i64 a b=some (.int .i64 (IntKind.i64.wrap v))->v=s->X8 P { dst:=dst,op:=.binOp bop xt x y yt,type:=type,pos:=pos,after:=after,guard:=guard } F h [] (.val (.int .i64 s)):=by
   intro v hv hvs
   have he:TD P { dst:=dst,op:=.binOp bop xt x y yt,type:=type,pos:=pos,after:=after,guard:=guard } F h 0=some (.val (.int .i64 (IntKind.i64.wrap v)),[]):=by
    simp only [TD,h1,h2,D8,hv]
   have:=BC he (by simp)
   rw [hvs,IntWalk.i64_in s hb] at this
   simpa using this
  split at ha
  ·cases ha;exact key (a+b) rfl rfl
  ·cases ha;exact key (a-b) rfl rfl
  ·cases ha;exact key (a*b) rfl rfl
  ·cases ha
 ·cases ha
theorem Z4g (r:Int) {s:Int} (hk:YE n ops F k=true) (ha:KT ops F k=some s) (hs:s=r) (hb:-9223372036854775808<=r/\r<=9223372036854775807)
  (H:SI P n ops B (k+1) (F.put (Zj ops k).dst (.val (.int .i64 r))) h):SI P n ops B k F h:=
 AW (ks:=[]) hk (Rn ha hs hb) H
def Ut:List Nat->List Res->Option (List Res × List Res)
 | [],l=>some ([],l)
 | i::is,l=>match l[i]? with
  | some r=>match Ut is (l.eraseIdx i) with
   | some (a,b)=>some (r::a,b)
   | none=>none
  | none=>none
theorem N3:∀{l:List Res} {i:Nat} {r:Res},l[i]? = some r->l.Perm (r::l.eraseIdx i)
 | [],i,r,h=>by simp at h
 | x::l,0,r,h=>by simp at h;subst h;simp
 | x::l,i+1,r,h=>by
  have:=N3 (l:=l) (i:=i) (r:=r) (by simpa using h)
  simp only [List.eraseIdx_cons_succ]
  exact (List.Perm.cons x this).trans (List.Perm.swap r x _)
theorem Ue:∀{is:List Nat} {l a b:List Res},Ut is l=some (a,b)->l.Perm (a++b)
 | [],l,a,b,h=>by
  simp only [Ut,Xo,Prod.mk.injEq] at h
  obtain ⟨rfl,rfl⟩:=h
  simp
 | i::is,l,a,b,h=>by
  simp only [Ut] at h
  split at h
  ·rename_i r hr
   split at h
   ·rename_i a' b' hp
    simp only [Xo,Prod.mk.injEq] at h
    obtain ⟨rfl,rfl⟩:=h
    exact (N3 hr).trans (List.Perm.cons r (Ue hp))
   ·cases h
  ·cases h
theorem Ze5 {F':Fr} {h' d:List Res} (is:List Nat) (hF:F.Le F') (hp:Ut is h=some (h',d)):UY F h F' h':=⟨hF,d,Ue hp⟩
def QZ (P:Program) (ops:Array Oper) (F:Fr) (k:Nat):Option (FuncId × List AV):=
 match (Zj ops k).op with
 | .call c=>match c.callee with
  | .value (.func f)=>match P.funcs[f]? with
   | some fn=>match fn.body.isSome&&!(fn.name== "runtime.NumGoroutine") with
    | true=>some (f,c.args.toList.map F.ev)
    | false=>none
   | none=>none
  | .value t=>match F.ev t with
   | .val (.func (.func f) vs caps)=>match vs.toList,P.funcs[f]? with
    | [],some fn=>match fn.body.isSome&&!(fn.name== "runtime.NumGoroutine") with
     | true=>some (f,c.args.toList.map F.ev++caps.toList.map AV.val)
     | false=>none
    | _,_=>none
   | _=>none
  | _=>none
 | _=>none
theorem ES {K:Fr->List Res->Prop} {f:FuncId} {xs:List AV} {h1 h2:List Res} {R:AV->List Res->Prop} (hd:V7 n (Zj ops k)=true) (hc:QZ P ops F k=some (f,xs))
  (hp:h.Perm (h1++h2)) (H:Wg P f xs h1 R) (hK:∀r h',R r h'->K (F.put (Zj ops k).dst r) (h'++h2)):XU P n (Zj ops k) F h K:=by
 unfold QZ at hc
 generalize hoo:Zj ops k=o at hc hd hK
 obtain ⟨dst,op,type,pos,after,guard⟩:=o
 cases op<;>simp only at hc<;>try (cases hc)
 rename_i c
 obtain ⟨callee,args,tys⟩:=c
 cases callee with
 | builtin b=>cases hc
 | invoke r m=>cases hc
 | value t=>
  simp only at hc
  split at hc
  ·rename_i g hg
   cases hg
   split at hc
   ·rename_i fn hf
    split at hc
    ·rename_i hb
     simp only [Xs,Bool.not_eq_true'] at hb
     simp only [Xo,Prod.mk.injEq] at hc
     obtain ⟨rfl,rfl⟩:=hc
     exact Z8l _ args tys rfl hf hb.1 hb.2 rfl hd hp H hK
    ·cases hc
   ·cases hc
  ·rename_i t' hnf ht'
   cases ht'
   split at hc
   ·rename_i g vs caps hv
    split at hc
    ·rename_i fn hvs hf
     split at hc
     ·rename_i hb
      simp only [Xs,Bool.not_eq_true'] at hb
      simp only [Xo,Prod.mk.injEq] at hc
      obtain ⟨rfl,rfl⟩:=hc
      have:vs=#[]:=by rw [<-VM (xs:=vs),hvs]
      subst this
      exact Z8m t args tys rfl hv hf hb.1 hb.2 rfl hd hp H hK
     ·cases hc
    ·cases hc
   ·cases hc
  ·cases hc
theorem Z4h (f:FuncId) (xs:List AV) (is:List Nat) {h1 h2:List Res} {R:AV->List Res->Prop} (hk:YE n ops F k=true) (hc:QZ P ops F k=some (f,xs))
  (hp:Ut is h=some (h1,h2)) (H:Wg P f xs h1 R) (hK:∀r h',R r h'->SI P n ops B (k+1) (F.put (Zj ops k).dst r) (h'++h2)):SI P n ops B k F h:=
 Uq hk (ES (VL hk).2.1 hc (Ue hp) H hK)
def Jz (P:Program) (ops:Array Oper) (F:Fr) (k:Nat):Option (AV × Int × Nat):=
 match (Zj ops k).op with
 | .indexAddr t x ix=>match P.underlying t with
  | some (.slice e)=>match P.info? e with
   | some i=>match F.ev ix with
    | .val (.int _ j)=>some (F.ev x,j,i.size)
    | _=>none
   | none=>none
  | _=>none
 | _=>none
theorem JK {es:List AV} {hv:Option Value} {j:Int} {sz:Nat} {y:AV} (hi:Jz P ops F k=some (.sl es hv,j,sz)) (h0:0<=j) (hget:es[j.toNat]? = some y)
  (hy:y.leaves.length=sz):X8 P (Zj ops k) F h [] (.rp y.leaves):=by
 unfold Jz at hi
 generalize hoo:Zj ops k=o at hi
 obtain ⟨dst,op,type,pos,after,guard⟩:=o
 cases op<;>simp only at hi<;>try (cases hi)
 rename_i t x ix
 split at hi
 ·rename_i e ht
  split at hi
  ·rename_i i hinfo
   split at hi
   ·rename_i ik j' hix
    simp only [Xo,Prod.mk.injEq] at hi
    obtain ⟨h1,rfl,rfl⟩:=hi
    exact Zcd t x ix rfl ht hinfo rfl h1 hix h0 hget hy
   ·cases hi
  ·cases hi
 ·cases hi
theorem IK {b off len cap:Nat} {j:Int} {sz:Nat} (hi:Jz P ops F k=some (.val (.slice (some ⟨b,off,none⟩) len cap),j,sz)) (h0:0<=j) (hlt:j<len) :
  X8 P (Zj ops k) F h [] (.val (.pointer (some ⟨b,off+j.toNat * sz,none⟩))):=by
 unfold Jz at hi
 generalize hoo:Zj ops k=o at hi
 obtain ⟨dst,op,type,pos,after,guard⟩:=o
 cases op<;>simp only at hi<;>try (cases hi)
 rename_i t x ix
 split at hi
 ·rename_i e ht
  split at hi
  ·rename_i i hinfo
   split at hi
   ·rename_i ik j' hix
    simp only [Xo,Prod.mk.injEq] at hi
    obtain ⟨h1,rfl,rfl⟩:=hi
    exact Zce t x ix rfl ht hinfo rfl h1 hix h0 hlt
   ·cases hi
  ·cases hi
 ·cases hi
def IB (P:Program) (ops:Array Oper) (F:Fr) (k:Nat) (len:Int):Option (AV × Int × Int × Nat):=
 match (Zj ops k).op with
 | .slice t x lo hi none=>match P.underlying t with
  | some (.slice e)=>match P.info? e with
   | some i=>match Am F lo 0,Am F hi len with
    | some l,some m=>some (F.ev x,l,m,i.size)
    | _,_=>none
   | none=>none
  | _=>none
 | _=>none
theorem Zcm {es:List AV} {hv:Option Value} {l m:Int} {sz:Nat} (hi:IB P ops F k es.length=some (.sl es hv,l,m,sz)) (h0:0<=l) (h1:l<=m) (h2:m<=es.length)
  (hes:∀y∈es,y.leaves.length=sz):X8 P (Zj ops k) F h [] (.sl ((es.take m.toNat).drop l.toNat) none):=by
 unfold IB at hi
 generalize hoo:Zj ops k=o at hi
 obtain ⟨dst,op,type,pos,after,guard⟩:=o
 cases op<;>simp only at hi<;>try (cases hi)
 rename_i t x lo hi' mx
 cases mx with
 | some _=>simp at hi
 | none=>
  simp only at hi
  split at hi
  ·rename_i e ht
   split at hi
   ·rename_i i hinfo
    split at hi
    ·rename_i l' m' hl hm
     simp only [Xo,Prod.mk.injEq] at hi
     obtain ⟨hx,rfl,rfl,rfl⟩:=hi
     exact Zcl t x lo hi' rfl ht hinfo rfl hx hl hm h0 h1 h2 hes
    ·cases hi
   ·cases hi
  ·cases hi
theorem De {es es':List AV} {hv:Option Value} {l m:Int} {sz:Nat} (hi:IB P ops F k es.length=some (.sl es hv,l,m,sz)) (h0:0<=l) (h1:l<=m) (h2:m<=es.length)
  (hes:∀y∈es,y.leaves.length=sz) (he:(es.take m.toNat).drop l.toNat=es'):X8 P (Zj ops k) F h [] (.sl es' none):=he▸Zcm hi h0 h1 h2 hes
def QB (P:Program) (ops:Array Oper) (F:Fr) (k:Nat):Option (AV × AV × Nat):=
 match (Zj ops k).op with
 | .call c=>match c.callee,c.args.toList,c.argTypes.toList with
  | .builtin .append,[s,x],[t,t']=>match Nat.beq t t',P.underlying t with
   | true,some (.slice e)=>match P.info? e with
    | some i=>match i.zero with
     | some z=>match Nat.beq z.cells.size i.size&&Nat.ble i.bytes 128 with
      | true=>some (F.ev s,F.ev x,i.size)
      | false=>none
     | none=>none
    | none=>none
   | _,_=>none
  | _,_,_=>none
 | _=>none
theorem P1 {K:Fr->List Res->Prop} {es xs:List AV} {hv:Value} {hx:Option Value} {sz:Nat} {h1 h2:List Res} (hd:V7 n (Zj ops k)=true)
  (ha:QB P ops F k=some (.sl es (some hv),.sl xs hx,sz)) (hes:∀y∈es,y.leaves.length=sz) (hxs:∀y∈xs,y.leaves.length=sz) (hone:(Zu xs).all AV.one=true)
  (hbound:es.length+xs.length<=1099511627776)
  (hK:∀v',(v'.ownBlock=hv.ownBlock∨∃b,v'.ownBlock=some b/\JT (h1++.tail hv sz::h2) b)->K (F.put (Zj ops k).dst (.sl (es++xs) (some v'))) (h1++.tail v' sz::h2)) :
  XU P n (Zj ops k) F (h1++.tail hv sz::h2) K:=by
 unfold QB at ha
 generalize hoo:Zj ops k=o at ha hd hK
 obtain ⟨dst,op,type,pos,after,guard⟩:=o
 cases op<;>simp only at ha<;>try (cases ha)
 rename_i c
 obtain ⟨callee,args,tys⟩:=c
 simp only at ha
 split at ha
 ·rename_i s x t t' hargs htys
  split at ha
  ·rename_i e htt ht
   have:=U6 htt
   subst this
   split at ha
   ·rename_i i hinfo
    split at ha
    ·rename_i z hz
     split at ha
     ·rename_i hb
      simp only [Xs] at hb
      simp only [Xo,Prod.mk.injEq] at ha
      obtain ⟨h3,h4,rfl⟩:=ha
      have e1:args=#[s,x]:=by rw [<-VM (xs:=args),hargs]
      have e2:tys=#[t,t]:=by rw [<-VM (xs:=tys),htys]
      subst e1;subst e2
      exact Z8j s x t rfl ht hinfo rfl (by rw [hz];simp [U6 hb.1]) hb.2 h3 h4 hd hes hxs hone hbound hK
     ·cases ha
    ·cases ha
   ·cases ha
  ·cases ha
 ·cases ha
theorem XU.perm {K:Fr->List Res->Prop} {o:Oper} {h':List Res} (hp:h.Perm h') (H:XU P n o F h' K):XU P n o F h K:=by
 intro Q w G a hF hh
 refine Oper.wp_mono ?_ (H Q w G a hF (hh.perm hp))
 intro a' w' ⟨F',h2,G',b1,b2,b3,b4⟩
 exact ⟨F',h2,G',b1,b2,b3,b4.perm hp.symm (Km _)⟩
theorem Z4f (j:Nat) (es':List AV) {es xs:List AV} {hv:Value} {hx:Option Value} {sz:Nat} {h2:List Res} (hk:YE n ops F k=true)
  (ha:QB P ops F k=some (.sl es (some hv),.sl xs hx,sz)) (hp:Ut [j] h=some ([.tail hv sz],h2)) (hes:∀y∈es,y.leaves.length=sz) (hxs:∀y∈xs,y.leaves.length=sz)
  (hone:(Zu xs).all AV.one=true) (hbound:es.length+xs.length<=1099511627776) (he:es++xs=es')
  (hK:∀v',SI P n ops B (k+1) (F.put (Zj ops k).dst (.sl es' (some v'))) (.tail v' sz::h2)):SI P n ops B k F h:=
 Uq hk (XU.perm (Ue hp) (P1 (h1:=[]) (VL hk).2.1 ha hes hxs hone hbound fun v' _=>by rw [he];exact hK v'))
theorem Fj {w:World} {G:ZE} {sz:Nat} (hh:ZW w G h):ZW w G (.tail (.slice none 0 0) sz::h)/\Yr w G h w G (.tail (.slice none 0 0) sz::h):=
 ⟨⟨fun r hr=>by
   rcases Yw.1 hr with rfl|hr
   ·exact .inl rfl
   ·exact hh.ok r hr,Vm.2 ⟨fun _ _ _ _ hf=>hf.elim,hh.apart⟩,fun r hr b o hf hg=>by
   rcases Yw.1 hr with rfl|hr
   ·exact hf.elim
   ·exact hh.prot r hr b o hf hg,hh.lt⟩,
  ⟨rfl,rfl,rfl,YX _,fun _ _ h=>h,fun _ _=>.inl rfl,fun _ _ _ h=>.inl h,fun b o _ ⟨r,hr,hf⟩=>by
   rcases Yw.1 hr with rfl|hr
   ·exact hf.elim
   ·exact ⟨r,hr,hf⟩⟩⟩
theorem TP {c:Code} {A:Wz} (sz:Nat) (H:ZY P n c A F (.tail (.slice none 0 0) sz::h)):ZY P n c A F h:=by
 intro w G a hF hh
 obtain ⟨h1,h2⟩:=Fj (sz:=sz) hh
 exact wp_mono (H w G a hF h1) fun e a' w' hc=>hc.trans h2
end
section
variable {P:Program} {n:Nat} {ops:Array Oper} {B:Fr->List Res->Prop} {k:Nat} {F:Fr} {h:List Res}
def Bl (P:Program) (ops:Array Oper) (F:Fr) (k:Nat):Option (List AV):=
 match (Zj ops k).op with
 | .alloc t=>C7 P t
 | .box _ x=>match (F.ev x).fit with
  | true=>some (F.ev x).leaves
  | false=>none
 | _=>none
theorem P0 {K:Fr->List Res->Prop} {ls:List AV} (hd:V7 n (Zj ops k)=true) (ha:Bl P ops F k=some ls)
  (hK:∀b,JT h b->K (F.put (Zj ops k).dst (.val (.pointer (some ⟨b,0,none⟩)))) (.obj b ls::h)):XU P n (Zj ops k) F h K:=by
 unfold Bl at ha
 generalize hoo:Zj ops k=o at ha hd hK
 obtain ⟨dst,op,type,pos,after,guard⟩:=o
 cases op<;>simp only at ha<;>try (cases ha)
 case alloc t=>exact Z8h t rfl ha hd hK
 case box t x=>
  split at ha
  ·rename_i hf
   cases ha
   exact Z8k t x rfl rfl hf hd hK
  ·cases ha
def storeAt (P:Program) (ops:Array Oper) (F:Fr) (k:Nat):Option (Nat × Nat × List AV):=
 match (Zj ops k).op with
 | .store t x y=>match F.ev x,(Zj ops k).dst,P.info? t with
  | .val (.pointer (some ⟨b,o,none⟩)),none,some i=>match Nat.beq i.size (F.ev y).leaves.length&&((F.ev y).fit&&(F.ev y).leaves.all AV.one) with
   | true=>some (b,o,(F.ev y).leaves)
   | false=>none
  | _,_,_=>none
 | _=>none
theorem P4 {K:Fr->List Res->Prop} {b o:Nat} {xs ls:List AV} {h2:List Res} (hs:storeAt P ops F k=some (b,o,xs)) (hle:Nat.ble (o+xs.length) ls.length=true)
  (hK:K F (.obj b (ls.take o++xs++ls.drop (o+xs.length))::h2)):XU P n (Zj ops k) F (.obj b ls::h2) K:=by
 unfold storeAt at hs
 generalize hoo:Zj ops k=q at hs
 obtain ⟨dst,op,type,pos,after,guard⟩:=q
 cases op<;>simp only at hs<;>try (cases hs)
 rename_i t x y
 split at hs
 ·rename_i b' o' i hx hi
  split at hs
  ·rename_i hc
   simp only [Xs] at hc
   simp only [Xo,Prod.mk.injEq] at hs
   obtain ⟨rfl,rfl,rfl⟩:=hs
   exact Z8x (h1:=[]) t x y rfl rfl hx rfl (by simp only [Xs];exact hc.2) (by rw [hi];simp [U6 hc.1]) hle hK
  ·cases hs
 ·cases hs
def Q0 (P:Program) (ops:Array Oper) (F:Fr) (k:Nat):Option (List AV × Nat × Nat):=
 match (Zj ops k).op with
 | .buildSlice t len parts=>match P.underlying t with
  | some (.slice e)=>match P.info? e with
   | some i=>match i.zero.isSome&&Nat.ble (len*i.size) (2 ^ 24) with
    | true=>match Jr (fun j=>some (j*i.size,i.size)) (List.replicate (len*i.size) .any) (parts.toList.map fun p=>(p.1,F.ev p.2)) with
     | some ls=>some (ls,len,i.size)
     | none=>none
    | false=>none
   | none=>none
  | _=>none
 | _=>none
theorem P2 {K:Fr->List Res->Prop} {es:List AV} {len sz:Nat} (hd:V7 n (Zj ops k)=true) (ha:Q0 P ops F k=some (Zu es,len,sz)) (hlen:es.length=len) (hall:Jj es sz=true)
  (hK:∀b,JT h b->K (F.put (Zj ops k).dst (.sl es (some (.slice (some ⟨b,0,none⟩) len len)))) (.tail (.slice (some ⟨b,0,none⟩) len len) sz::h)):XU P n (Zj ops k) F h K:=by
 unfold Q0 at ha
 generalize hoo:Zj ops k=q at ha hd hK
 obtain ⟨dst,op,type,pos,after,guard⟩:=q
 cases op<;>simp only at ha<;>try (cases ha)
 rename_i t ln parts
 split at ha
 ·rename_i e ht
  split at ha
  ·rename_i i hi
   split at ha
   ·rename_i hc
    simp only [Xs] at hc
    split at ha
    ·rename_i ls hf
     simp only [Xo,Prod.mk.injEq] at ha
     obtain ⟨rfl,rfl,rfl⟩:=ha
     exact Z8o t _ parts rfl ht hi rfl hc.1 hc.2 hf hlen hall hd hK
    ·cases ha
   ·cases ha
  ·cases ha
 ·cases ha
theorem Z4e (ls:List AV) (hk:YE n ops F k=true) (ha:Bl P ops F k=some ls)
  (hK:∀b,SI P n ops B (k+1) (F.put (Zj ops k).dst (.val (.pointer (some ⟨b,0,none⟩)))) (.obj b ls::h)):SI P n ops B k F h:=
 Uq hk (P0 (VL hk).2.1 ha fun b _=>hK b)
theorem Z4p (j:Nat) {b o:Nat} {xs ls:List AV} {h2:List Res} (ls':List AV) (hk:YE n ops F k=true) (hs:storeAt P ops F k=some (b,o,xs)) (hp:Ut [j] h=some ([.obj b ls],h2))
  (hle:Nat.ble (o+xs.length) ls.length=true) (he:ls.take o++xs++ls.drop (o+xs.length)=ls') (H:SI P n ops B (k+1) F (.obj b ls'::h2)):SI P n ops B k F h:=
 Uq hk (XU.perm (Ue hp) (P4 hs hle (by rw [he];exact H)))
theorem Z4l (es:List AV) {len sz:Nat} (hk:YE n ops F k=true) (ha:Q0 P ops F k=some (Zu es,len,sz)) (hlen:es.length=len) (hall:Jj es sz=true)
  (hK:∀v,SI P n ops B (k+1) (F.put (Zj ops k).dst (.sl es (some v))) (.tail v sz::h)):SI P n ops B k F h:=
 Uq hk (P2 (VL hk).2.1 ha hlen hall fun _ _=>hK _)
variable {T:List (Nat × List Nat)} {fuel fuel':Nat} {done:List Nat}
def Ic (P:Program) (n:Nat) (ops:Array Oper) (h:List Res) (is done:List Nat) (F:Fr) (hints:List Nat) (F':Fr):Option (List AV × List Nat × List Nat):=
 match Qo P n ops h is done F hints with
 | some (F1,es)=>some (F'.map (fun p=>(F1.get p.1).like p.2),es.flatMap (fun e=>e.2.map (·.1)),es.flatMap (fun e=>e.2.map (·.2)))
 | none=>none
def Al (P:Program) (n:Nat) (ops:Array Oper) (h:List Res) (is done:List Nat) (F:Fr) (hints:List Nat):List (Nat × List Nat):=
 match Qo P n ops h is done F hints with
 | some (_,es)=>CX es
 | none=>[]
theorem HX:∀{es:List (Nat × List (Nat × Nat))},es.flatMap (fun e=>e.2.map (·.1))=es.flatMap (fun e=>e.2.map (·.2))->∀e∈es,∀p∈e.2,p.1=p.2
 | [],_,e,he=>by simp at he
 | x::es,hq,e,he=>by
  simp only [JP] at hq
  have h1:=List.append_inj hq (by simp)
  rcases Yw.1 he with rfl|he
  ·exact HW h1.1
  ·exact HX h1.2 e he
theorem Z20 (is:List Nat) (F':Fr) (hints bs:List Nat) (hs:Region.noSelect ops=true) (he:Ic P n ops h is done F hints F'=some (F'.map (·.2),bs,bs)) (hf:fuel'=fuel+is.length)
  (H:Yu P n ops B ((Al P n ops h is done F hints).reverse++T) fuel (done++is) F' h):Yu P n ops B T fuel' done F h:=by
 unfold Ic at he
 unfold Al at H
 cases hr:Qo P n ops h is done F hints with
 | none=>rw [hr] at he;cases he
 | some y=>
  obtain ⟨F1,es⟩:=y
  rw [hr] at he H
  simp only [Xo,Prod.mk.injEq] at he
  obtain ⟨h1,h2,h3⟩:=he
  exact DY is hs hr (HX (h2.trans h3.symm)) hf (E0 (GW h1) H)
def Us (ops:Array Oper) (i:Nat) (T:List (Nat × List Nat)):List Nat:=(T.filter fun t=>!V6 ops i t.1).flatMap (·.2)
theorem Z8e {i:Nat} {h2:List Res} (js bs:List Nat) (h1:Us ops i T=bs) (h3:js.map (fun j=>(WD h2)[j]?)=bs.map some) :
  ∀t∈T,V6 ops i t.1=true∨∀b∈t.2,b∈WD h2:=by
 have hall:∀(js bs:List Nat),js.map (fun j=>(WD h2)[j]?)=bs.map some->∀b∈bs,b∈WD h2:=by
  intro js
  induction js with
  | nil=>intro bs hb b hm;cases bs with
   | nil=>simp at hm
   | cons _ _=>simp at hb
  | cons j js ih=>intro bs hb b hm;cases bs with
   | nil=>simp at hm
   | cons c bs=>
    simp only [Ww,List.cons.injEq] at hb
    rcases Yw.1 hm with rfl|hm
    ·exact YA hb.1
    ·exact ih bs hb.2 b hm
 intro t ht
 cases hq:V6 ops i t.1 with
 | true=>exact .inl rfl
 | false=>
  refine .inr fun b hb=>hall js bs h3 b ?_
  rw [<-h1]
  exact Cb.2 ⟨t,List.mem_filter.2 ⟨ht,by simp [hq]⟩,hb⟩
theorem OZ {i:Nat} (hi:i<ops.size):ops[i]? = some (Zj ops i):=by
 simp [Zj,List.getD,hi]
theorem KX {i:Nat} (is js bs:List Nat) {h1 h2:List Res} (hk:YE n ops F i=true) (hp:Ut is h=some (h1,h2)) (ho:Us ops i T=bs) (hj:js.map (fun j=>(WD h2)[j]?)=bs.map some)
  (H:XU P n (Zj ops i) F h1 fun F' h1'=>Yu P n ops B (T.filter fun t=>!V6 ops i t.1) fuel (done++[i]) F' (h1'++h2)):VC P n ops B T fuel done F h i:=by
 obtain ⟨q1,_,q3,q4⟩:=VL hk
 exact ⟨_,h1,h2,OZ q1,q4,q3,Ue hp,Z8e js bs ho hj,H⟩
theorem Z1r (i:Nat) (f:FuncId) (xs:List AV) (is js bs:List Nat) {h1 h2:List Res} {R:AV->List Res->Prop} (hk:YE n ops F i=true) (hc:QZ P ops F i=some (f,xs))
  (hp:Ut is h=some (h1,h2)) (ho:Us ops i T=bs) (hj:js.map (fun j=>(WD h2)[j]?)=bs.map some) (H:Wg P f xs h1 R)
  (hK:∀r h',R r h'->Yu P n ops B (T.filter fun t=>!V6 ops i t.1) fuel (done++[i]) (F.put (Zj ops i).dst r) (h'++h2)):VC P n ops B T fuel done F h i:=
 KX is js bs hk hp ho hj (ES (h2:=[]) (VL hk).2.1 hc (by simp) H fun r h' hr=>by simpa using hK r h' hr)
theorem Z1o (i:Nat) (js bs:List Nat) (ls:List AV) (hk:YE n ops F i=true) (ha:Bl P ops F i=some ls) (ho:Us ops i T=bs) (hj:js.map (fun j=>(WD h)[j]?)=bs.map some)
  (hK:∀b,Yu P n ops B (T.filter fun t=>!V6 ops i t.1) fuel (done++[i]) (F.put (Zj ops i).dst (.val (.pointer (some ⟨b,0,none⟩)))) (.obj b ls::h)):VC P n ops B T fuel done F h i:=
 KX (h1:=[]) (h2:=h) [] js bs hk rfl ho hj (P0 (VL hk).2.1 ha fun b _=>hK b)
theorem Z1v (i:Nat) (js bs:List Nat) (es:List AV) {len sz:Nat} (hk:YE n ops F i=true) (ha:Q0 P ops F i=some (Zu es,len,sz)) (hlen:es.length=len) (hall:Jj es sz=true)
  (ho:Us ops i T=bs) (hj:js.map (fun j=>(WD h)[j]?)=bs.map some)
  (hK:∀v,Yu P n ops B (T.filter fun t=>!V6 ops i t.1) fuel (done++[i]) (F.put (Zj ops i).dst (.sl es (some v))) (.tail v sz::h)):VC P n ops B T fuel done F h i:=
 KX (h1:=[]) (h2:=h) [] js bs hk rfl ho hj (P2 (VL hk).2.1 ha hlen hall fun _ _=>hK _)
theorem Z1p (i j:Nat) (js bs:List Nat) (es':List AV) {es xs:List AV} {hv:Value} {hx:Option Value} {sz:Nat} {h2:List Res} (hk:YE n ops F i=true)
  (ha:QB P ops F i=some (.sl es (some hv),.sl xs hx,sz)) (hp:Ut [j] h=some ([.tail hv sz],h2)) (hes:∀y∈es,y.leaves.length=sz) (hxs:∀y∈xs,y.leaves.length=sz)
  (hone:(Zu xs).all AV.one=true) (hbound:es.length+xs.length<=1099511627776) (he:es++xs=es') (ho:Us ops i T=bs) (hj:js.map (fun j=>(WD h2)[j]?)=bs.map some)
  (hK:∀v',Yu P n ops B (T.filter fun t=>!V6 ops i t.1) fuel (done++[i]) (F.put (Zj ops i).dst (.sl es' (some v'))) (.tail v' sz::h2)):VC P n ops B T fuel done F h i:=
 KX [j] js bs hk hp ho hj (P1 (h1:=[]) (h2:=[]) (VL hk).2.1 ha hes hxs hone hbound fun v' _=>by rw [he];exact hK v')
theorem Z1z (i j:Nat) (js bs:List Nat) {b o:Nat} {xs ls:List AV} {h2:List Res} (ls':List AV) (hk:YE n ops F i=true) (hs:storeAt P ops F i=some (b,o,xs))
  (hp:Ut [j] h=some ([.obj b ls],h2)) (hle:Nat.ble (o+xs.length) ls.length=true) (he:ls.take o++xs++ls.drop (o+xs.length)=ls') (ho:Us ops i T=bs)
  (hj:js.map (fun j=>(WD h2)[j]?)=bs.map some) (H:Yu P n ops B (T.filter fun t=>!V6 ops i t.1) fuel (done++[i]) F (.obj b ls'::h2)):VC P n ops B T fuel done F h i:=
 KX [j] js bs hk hp ho hj (P4 (h2:=[]) hs hle (by rw [he];exact H))
theorem DZ (i:Nat) {ks:List Nat} {x:AV} (hs:Region.noSelect ops=true) (hk:YE n ops F i=true)
  (hf:Region.free .any ops (Wt ops done) i=true) (hr:(Region.ready .any ops (Wt ops done)).contains i=true) (hx:X8 P (Zj ops i) F h ks x)
  (H:Yu P n ops B ((i,ks)::T) fuel (done++[i]) (F.put (Zj ops i).dst x) h):Yu P n ops B T (fuel+1) done F h:=by
 obtain ⟨q1,q2,q3,q4⟩:=VL hk
 exact Gt hs (OZ q1) q2 q3 hf hr (.inr ⟨q4,hx⟩) H
theorem Z1w (i:Nat) (x':AV) {x:AV} (hs:Region.noSelect ops=true) (hk:YE n ops F i=true)
  (hf:Region.free .any ops (Wt ops done) i=true) (hr:(Region.ready .any ops (Wt ops done)).contains i=true) (he:TD P (Zj ops i) F h 0=some (x,[])) (hx:Zk x x')
  (H:Yu P n ops B ((i,[])::T) fuel (done++[i]) (F.put (Zj ops i).dst x') h):Yu P n ops B T (fuel+1) done F h:=by
 refine DZ i (ks:=[]) hs hk hf hr ?_ H
 have hst:=BC he (by simp)
 intro n w G a hF hh
 obtain ⟨v,h1,h2⟩:=hst n w G a hF hh
 exact ⟨v,hx _ _ _ h1,by simpa using h2⟩
theorem Z1q (i:Nat) (r:Int) {s:Int} (hns:Region.noSelect ops=true) (hk:YE n ops F i=true)
  (hf:Region.free .any ops (Wt ops done) i=true) (hr:(Region.ready .any ops (Wt ops done)).contains i=true) (ha:KT ops F i=some s) (hs:s=r)
  (hb:-9223372036854775808<=r/\r<=9223372036854775807)
  (H:Yu P n ops B ((i,[])::T) fuel (done++[i]) (F.put (Zj ops i).dst (.val (.int .i64 r))) h):Yu P n ops B T (fuel+1) done F h:=
 DZ i (ks:=[]) hns hk hf hr (Rn ha hs hb) H
theorem Z1y {b:Bool} (t:Nat) (hF:F.get t=.val (.bool b)) (h1:b=true->Yu P n ops B T fuel done ((t,.val (.bool true))::F) h)
  (h2:b=false->Yu P n ops B T fuel done ((t,.val (.bool false))::F) h):Yu P n ops B T fuel done F h:=by
 cases b with
 | true=>exact E0 (BD hF (Zk.refl _) (Fr.Le.refl F)) (h1 rfl)
 | false=>exact E0 (BD hF (Zk.refl _) (Fr.Le.refl F)) (h2 rfl)
theorem MC (sz:Nat) (H:Yu P n ops B T fuel done F (.tail (.slice none 0 0) sz::h)):Yu P n ops B T fuel done F h:=by
 intro Q w G a SL hF hh hQ hcl hcov hk
 obtain ⟨h1,h2⟩:=Fj (sz:=sz) hh
 exact H Q w G a SL hF h1 hQ hcl hcov fun F2 h2' G2 a2 w2 b1 b2 b3 b4=>hk F2 h2' G2 a2 w2 b1 b2 b3 (h2.trans b4)
theorem Z1t {c:Code} {A:Wz} (F':Fr) (h':List Res) (H:Yu P n ops (fun F h=>UY F h F' h') T fuel done F h) (hB:ZY P n c A F' h'):Yu P n ops (fun F h=>ZY P n c A F h) T fuel done F h:=by
 intro Q w G a SL hF hh hQ hcl hcov hk
 exact H Q w G a SL hF hh hQ hcl hcov fun F2 h2 G2 a2 w2 b1 b2 b3 b4=>hk F2 h2 G2 a2 w2 (AG b1 hB) b2 b3 b4
end
end Go.Abs
section
namespace Go.Abs
structure Xp where
 fields:LI
structure Zs where
 frm:Int
 to_:Int
 cons:List Xp
mutual
inductive Z8 where
 | mk (op num into:Int) (args:LI) (kids:List Zh)
inductive Zh where
 | mk (steps:List Z8) (result:Int)
end
namespace Z8
def op:Z8->Int|.mk a _ _ _ _=>a
def num:Z8->Int|.mk _ a _ _ _=>a
def into:Z8->Int|.mk _ _ a _ _=>a
def args:Z8->LI|.mk _ _ _ a _=>a
def kids:Z8->List Zh|.mk _ _ _ _ a=>a
end Z8
namespace Zh
def steps:Zh->List Z8|.mk a _=>a
def result:Zh->Int|.mk _ a=>a
end Zh
structure YB where
 params:LI
 lent:LI
 result:Int
 body:Zh
structure Zl where
 decls:List Zs
 routines:List YB
def Zi (xs:LI):List AV:=xs.map AV.i
def Ub (xs:List LI):List AV:=xs.map fun l=>.sl (Zi l) none
abbrev KS (c:Xp):AV:=.agg [.sl (Zi c.fields) none]
def Wa (cs:List Xp):List AV:=cs.map KS
abbrev QT (d:Zs):AV:=.agg [.i d.frm,.i d.to_,.sl (Wa d.cons) none]
def X1 (ds:List Zs):List AV:=ds.map QT
mutual
def GM:Z8->AV
 | .mk op num into args kids=>.agg [.i op,.i num,.i into,.sl (Zi args) none,.sl (VG kids) none]
def GE:Zh->AV
 | .mk steps result=>.agg [.sl (Xj steps) none,.i result]
def Xj:List Z8->List AV
 | []=>[]
 | s::ss=>GM s::Xj ss
def VG:List Zh->List AV
 | []=>[]
 | b::bs=>GE b::VG bs
end
abbrev XO (s:Z8):AV:=.agg [.i s.op,.i s.num,.i s.into,.sl (Zi s.args) none,.sl (VG s.kids) none]
abbrev YC (b:Zh):AV:=.agg [.sl (Xj b.steps) none,.i b.result]
abbrev QU (r:YB):AV:=.agg [.sl (Zi r.params) none,.sl (Zi r.lent) none,.i r.result,.sl (Xj r.body.steps) none,.i r.body.result]
def UP (rs:List YB):List AV:=rs.map QU
abbrev X3 (n:Zl):AV:=.agg [.sl (X1 n.decls) none,.sl (UP n.routines) none]
theorem MW (s:Z8):GM s=XO s:=by cases s;rw [GM];rfl
theorem MI (b:Zh):GE b=YC b:=by cases b;rw [GE];rfl
theorem KZ:∀xs:List Z8,Xj xs=xs.map XO
 | []=>by rw [Xj];rfl
 | s::ss=>by rw [Xj,KZ ss,MW];rfl
theorem A5:∀xs:List Zh,VG xs=xs.map YC
 | []=>by rw [VG];rfl
 | b::bs=>by rw [VG,A5 bs,MI];rfl
section
theorem Yc {xs:LI} {j:Nat} {x:Int} (h:xs[j]? = some x):(Zi xs)[j]? = some (.i x):=by simp [Zi,h]
theorem AO {xs:List LI} {j:Nat} {x:LI} (h:xs[j]? = some x):(Ub xs)[j]? = some (.sl (Zi x) none):=by simp [Ub,h]
theorem Ky {xs:List Xp} {j:Nat} {x:Xp} (h:xs[j]? = some x):(Wa xs)[j]? = some (KS x):=by simp [Wa,h]
theorem Vh {xs:List Zs} {j:Nat} {x:Zs} (h:xs[j]? = some x):(X1 xs)[j]? = some (QT x):=by simp [X1,h]
theorem U2 {xs:List Z8} {j:Nat} {x:Z8} (h:xs[j]? = some x):(Xj xs)[j]? = some (XO x):=by simp [KZ,h]
theorem TA {xs:List Zh} {j:Nat} {x:Zh} (h:xs[j]? = some x):(VG xs)[j]? = some (YC x):=by simp [A5,h]
theorem Um {xs:List YB} {j:Nat} {x:YB} (h:xs[j]? = some x):(UP xs)[j]? = some (QU x):=by simp [UP,h]
@[simp] theorem Yk (xs:LI):(Zi xs).length=xs.length:=by simp [Zi]
@[simp] theorem E7 (xs:List LI):(Ub xs).length=xs.length:=by simp [Ub]
@[simp] theorem Vg (xs:List Xp):(Wa xs).length=xs.length:=by simp [Wa]
@[simp] theorem Vw (xs:List Zs):(X1 xs).length=xs.length:=by simp [X1]
@[simp] theorem T2 (xs:List Z8):(Xj xs).length=xs.length:=by simp [KZ]
@[simp] theorem Ua (xs:List Zh):(VG xs).length=xs.length:=by simp [A5]
@[simp] theorem UD (xs:List YB):(UP xs).length=xs.length:=by simp [UP]
theorem TX (xs ys:LI):Zi (xs++ys)=Zi xs++Zi ys:=by simp [Zi]
theorem Cw (xs ys:List Z8):Xj (xs++ys)=Xj xs++Xj ys:=by simp [KZ]
theorem Z2h (xs ys:List Zh):VG (xs++ys)=VG xs++VG ys:=by simp [A5]
theorem Kz (xs:LI) (n:Nat):(Zi xs).take n=Zi (xs.take n):=by simp [Zi]
theorem Jp (xs:LI) (n:Nat):(Zi xs).drop n=Zi (xs.drop n):=by simp [Zi]
theorem BA (xs:List Zs) (n:Nat):(X1 xs).take n=X1 (xs.take n):=by simp [X1]
theorem By (xs:List Zs) (n:Nat):(X1 xs).drop n=X1 (xs.drop n):=by simp [X1]
theorem Wq (xs:LI):∀y∈Zi xs,y.leaves.length=1:=by intro y hy;simp only [Zi,Xb] at hy;obtain ⟨x,_,rfl⟩:=hy;rfl
theorem MP (xs:List LI):∀y∈Ub xs,y.leaves.length=1:=by intro y hy;simp only [Ub,Xb] at hy;obtain ⟨x,_,rfl⟩:=hy;rfl
theorem E2 (xs:List Xp):∀y∈Wa xs,y.leaves.length=1:=by intro y hy;simp only [Wa,Xb] at hy;obtain ⟨x,_,rfl⟩:=hy;rfl
theorem Bz (xs:List Zs):∀y∈X1 xs,y.leaves.length=3:=by intro y hy;simp only [X1,Xb] at hy;obtain ⟨x,_,rfl⟩:=hy;rfl
theorem KA (xs:List Z8):∀y∈Xj xs,y.leaves.length=5:=by intro y hy;simp only [KZ,Xb] at hy;obtain ⟨x,_,rfl⟩:=hy;rfl
theorem MJ (xs:List Zh):∀y∈VG xs,y.leaves.length=2:=by intro y hy;simp only [A5,Xb] at hy;obtain ⟨x,_,rfl⟩:=hy;rfl
theorem MS (xs:List YB):∀y∈UP xs,y.leaves.length=5:=by intro y hy;simp only [UP,Xb] at hy;obtain ⟨x,_,rfl⟩:=hy;rfl
theorem KB {es:List AV} (h:∀y∈es,y.leaves.all AV.one=true):(Zu es).all AV.one=true:=by
 simp only [Zu,List.all_flatMap,Be]
 intro y hy
 exact Be.1 (h y hy)
theorem TY (xs:LI):(Zu (Zi xs)).all AV.one=true:=KB fun y hy=>by simp only [Zi,Xb] at hy;obtain ⟨x,_,rfl⟩:=hy;rfl
theorem Z2t (xs:List LI):(Zu (Ub xs)).all AV.one=true:=KB fun y hy=>by simp only [Ub,Xb] at hy;obtain ⟨x,_,rfl⟩:=hy;rfl
theorem Z2k (xs:List Xp):(Zu (Wa xs)).all AV.one=true:=KB fun y hy=>by simp only [Wa,Xb] at hy;obtain ⟨x,_,rfl⟩:=hy;rfl
theorem Z2m (xs:List Zs):(Zu (X1 xs)).all AV.one=true:=KB fun y hy=>by simp only [X1,Xb] at hy;obtain ⟨x,_,rfl⟩:=hy;rfl
theorem Cx (xs:List Z8):(Zu (Xj xs)).all AV.one=true:=KB fun y hy=>by simp only [KZ,Xb] at hy;obtain ⟨x,_,rfl⟩:=hy;rfl
theorem Z2i (xs:List Zh):(Zu (VG xs)).all AV.one=true:=KB fun y hy=>by simp only [A5,Xb] at hy;obtain ⟨x,_,rfl⟩:=hy;rfl
theorem Z2u (xs:List YB):(Zu (UP xs)).all AV.one=true:=KB fun y hy=>by simp only [UP,Xb] at hy;obtain ⟨x,_,rfl⟩:=hy;rfl
end
end Go.Abs
end
namespace Go.Abs
def Z3 (v:Value):Nat:=v.ownBlock.getD 0
def J8 (v:Value) (m:Nat):Value:=
 match v with
 | .slice a _ cap=>.slice a m cap
 | v=>v
theorem Im {α:Type} (l:List α) (n:Nat) (x:α) (h:n<l.length):l.take n++[x]++l.drop (n+1)=l.set n x:=by
 rw [List.set_eq_take_append_cons_drop,Z6 h];simp
theorem ZW.vwrite {w:World} {G:ZE} {h2:List Res} {g cap n':Nat} {ls ls':List AV} (hh:ZW w G (.vec (.slice (some ⟨g,0,none⟩) ls.length cap) ls::h2)) {cs cs':Array Value} {e:TypeId}
  (hb:w.heap[g]? = some (.cells cs e (0,0))) (YD:cs'.size=cs.size) (hn:n'=ls'.length) (hle:ls'.length<=cap) (hcap:cs.size=cap) (hls:Y9 w G ls' (cs'.toList.take ls'.length)) :
  ZW (w.setRow g cs') G (.vec (.slice (some ⟨g,0,none⟩) n' cap) ls'::h2) /\
   Yr w G (.vec (.slice (some ⟨g,0,none⟩) ls.length cap) ls::h2) (w.setRow g cs') G (.vec (.slice (some ⟨g,0,none⟩) n' cap) ls'::h2):=by
 subst hn
 have hmem:Res.vec (.slice (some ⟨g,0,none⟩) ls.length cap) ls∈Res.vec (.slice (some ⟨g,0,none⟩) ls.length cap) ls::h2:=YV ..
 have hA:Vu G w (w.setRow g cs') G:=⟨fun c j hg=>by
  have hne:c≠g:=fun he=>hh.prot _ hmem c j he hg
  simp [World.cell?,WZ w g c cs' hne],fun _ _ h=>h⟩
 have hpw:=Vm.1 hh.apart
 have hother:∀r∈h2,∀c j,r.fp c j->c≠g:=fun r hr c j hf hc=>hpw.1 r hr c j hc hf
 refine ⟨⟨?_,Vm.2 ⟨fun r hr=>hpw.1 r hr,hpw.2⟩,?_,?_⟩,⟨rfl,rfl,rfl,by simp [World.setRow],fun _ _ h=>h,?_,fun _ _ _ h=>.inl h,?_⟩⟩
 ·intro r hr
  rcases Yw.1 hr with rfl|hr
  ·exact .inr ⟨g,cap,cs',e,rfl,setRow_heap w g cs cs' e (0,0) hb,hle,YD.trans hcap,hls.mono hA⟩
  ·have h0:=hh.ok r (Xv _ hr)
   cases r with
   | obj c ks=>
    obtain ⟨ds,el,k1,k2⟩:=h0
    exact ⟨ds,el,(WZ w g c cs' (hother _ hr c 0 rfl)).trans k1,k2.mono hA⟩
   | tail v k=>
    rcases h0 with rfl|⟨g2,len,cap2,cur,el,rfl,k1,k2,k3⟩
    ·exact .inl rfl
    ·exact .inr ⟨g2,len,cap2,cur,el,rfl,(WZ w g g2 cs' (hother _ hr g2 (len*k) ⟨rfl,YX _⟩)).trans k1,k2,k3⟩
   | ge s=>exact QR h0 (by simp [World.setRow])
   | vec v ks=>
    rcases h0 with ⟨rfl,h0⟩|⟨g2,cap2,cur2,el,rfl,k1,k2,k3,k4⟩
    ·exact .inl ⟨rfl,h0⟩
    ·exact .inr ⟨g2,cap2,cur2,el,rfl,(WZ w g g2 cs' (hother _ hr g2 0 rfl)).trans k1,k2,k3,k4.mono hA⟩
   | many ts=>
    refine ⟨fun p hp=>?_,h0.2⟩
    rcases h0.1 p hp with q|⟨g2,len,cap2,cur,el,q,k1,k2,k3⟩
    ·exact .inl q
    ·exact .inr ⟨g2,len,cap2,cur,el,q,(WZ w g g2 cs' (hother _ hr g2 (len*p.2) ⟨p,hp,by rw [q];exact ⟨rfl,YX _⟩⟩)).trans k1,k2,k3⟩
   | own B m=>
    intro c hc
    obtain ⟨ds,el,k1,k2⟩:=h0 c hc
    exact ⟨ds,el,(WZ w g c cs' (hother _ hr c 0 hc)).trans k1,k2⟩
   | row v k ks=>
    rcases h0 with ⟨rfl,h0⟩|⟨g2,len2,cap2,cur2,el,rfl,k1,k2,k3,k4,k5⟩
    ·exact .inl ⟨rfl,h0⟩
    ·exact .inr ⟨g2,len2,cap2,cur2,el,rfl,(WZ w g g2 cs' (hother _ hr g2 0 rfl)).trans k1,k2,k3,k4,k5.mono hA⟩
   | mp c Q=>obtain ⟨es,q,k1,k2⟩:=h0;exact ⟨es,q,(WZ w g c cs' (hother _ hr c 0 rfl)).trans k1,k2⟩
 ·intro r hr c j hf hg
  rcases Yw.1 hr with rfl|hr
  ·exact hh.prot _ hmem c j hf hg
  ·exact hh.prot r (Xv _ hr) c j hf hg
 ·intro c j hg
  have:=hh.lt c j hg
  simpa [World.setRow] using this
 ·intro c hc
  by_cases hcb:c=g
  ·subst hcb
   exact .ce ⟨cs,cs',e,(0,0),hb,setRow_heap w c cs cs' e (0,0) hb,YD,fun j hj=>absurd ⟨_,hmem,rfl⟩ hj⟩
  ·exact .inl (WZ w g c cs' hcb)
 ·rintro c j _ ⟨r,hr,hf⟩
  rcases Yw.1 hr with rfl|hr
  ·exact ⟨_,hmem,hf⟩
  ·exact ⟨r,Xv _ hr,hf⟩
theorem ZW.alloc_vec {w:World} {G:ZE} {h:List Res} (hh:ZW w G h) (cs:Array Value) (t:TypeId) {ls:List AV} {cap:Nat} (hcap:ls.length<=cap) (YD:cs.size=cap)
  (hls:Y9 w G ls (cs.toList.take ls.length)) :
  ZW (w.alloc (.cells cs t)) G (.vec (.slice (some ⟨w.heap.size,0,none⟩) ls.length cap) ls::h)/\Yr w G h (w.alloc (.cells cs t)) G (.vec (.slice (some ⟨w.heap.size,0,none⟩) ls.length cap) ls::h):=by
 have hA:Vu G w (w.alloc (.cells cs t)) G:=⟨fun b j hg=>Cm w _ (hh.lt b j hg),fun _ _ h=>h⟩
 refine hh.alloc (.cells cs t) (h':=[.vec (.slice (some ⟨w.heap.size,0,none⟩) ls.length cap) ls]) (fun _ _ h=>h) (fun _ _ h=>.inl h) ?_ ?_ (Kq _ _) ?_
 ·intro r hr
  rw [YH.1 hr]
  exact .inr ⟨_,cap,cs,t,rfl,Aa w _,hcap,YD,hls.mono hA⟩
 ·intro r hr b j hf
  rw [YH.1 hr] at hf
  exact hf
 ·intro r hr b j hf hg
  rw [YH.1 hr] at hf
  have:=hh.lt b j hg
  have:b=w.heap.size:=hf
  omega
theorem Ze0 {w:World} {G:ZE} {h:List Res} (hh:ZW w G h):ZW w G (.vec (.slice none 0 0) []::h)/\Yr w G h w G (.vec (.slice none 0 0) []::h):=
 ⟨⟨fun r hr=>by
   rcases Yw.1 hr with rfl|hr
   ·exact .inl ⟨rfl,rfl⟩
   ·exact hh.ok r hr,Vm.2 ⟨fun _ _ _ _ hf=>hf.elim,hh.apart⟩,fun r hr b o hf hg=>by
   rcases Yw.1 hr with rfl|hr
   ·exact hf.elim
   ·exact hh.prot r hr b o hf hg,hh.lt⟩,
  ⟨rfl,rfl,rfl,YX _,fun _ _ h=>h,fun _ _=>.inl rfl,fun _ _ _ h=>.inl h,fun b o _ ⟨r,hr,hf⟩=>by
   rcases Yw.1 hr with rfl|hr
   ·exact hf.elim
   ·exact ⟨r,hr,hf⟩⟩⟩
section
variable {P:Program} {n:Nat} {ops:Array Oper} {B:Fr->List Res->Prop} {k:Nat} {F:Fr} {h h2:List Res}
def JC (P:Program) (ops:Array Oper) (F:Fr) (k:Nat):Option AV:=
 match (Zj ops k).op with
 | .call c=>match c.callee,c.args.toList,c.argTypes.toList with
  | .builtin .len,[x],[t]=>match P.underlying t with
   | some (.slice _)=>some (F.ev x)
   | _=>none
  | _,_,_=>none
 | _=>none
theorem JY.form {w:World} {G:ZE} {v:Value} {ls:List AV} (h:JY w G v ls):∃a cap,v=.slice a ls.length cap:=by
 rcases h with ⟨rfl,rfl⟩|⟨g,cap,cur,e,rfl,_⟩
 ·exact ⟨none,0,rfl⟩
 ·exact ⟨_,cap,rfl⟩
theorem Zco (j:Nat) {v:Value} {ls:List AV} (hl:JC P ops F k=some (.val v)) (hj:h[j]? = some (.vec v ls)):X8 P (Zj ops k) F h [] (.val (.int .i64 ls.length)):=by
 unfold JC at hl
 generalize hoo:Zj ops k=o at hl
 obtain ⟨dst,op,type,pos,after,guard⟩:=o
 cases op<;>simp only at hl<;>try (cases hl)
 rename_i c
 obtain ⟨callee,args,tys⟩:=c
 simp only at hl
 split at hl
 ·rename_i x t hargs htys
  split at hl
  ·rename_i el hu
   simp only [Xo] at hl
   intro n w G a hF hh
   have hv:=hF.ev x
   rw [hl] at hv
   have hv:=hv.val_inv
   obtain ⟨ad,cap,rfl⟩:=JY.form (hh.ok _ (YA hj))
   have e1:args=#[x]:=by rw [<-VM (xs:=args),hargs]
   have e2:tys=#[t]:=by rw [<-VM (xs:=tys),htys]
   subst e1;subst e2
   exact ⟨_,.val,fun w' _ _=>by simp [execOp,resolve,invoke,builtin,hv,Builtin.len_,Vr hu,goInt]⟩
  ·cases hl
 ·cases hl
theorem Zcn (j:Nat) {v:Value} {ls:List AV} {i:Int} (hi:Jz P ops F k=some (.val v,i,1)) (hj:h[j]? = some (.vec v ls)) (h0:0<=i) (hlt:i<ls.length) :
  X8 P (Zj ops k) F h [] (.val (.pointer (some ⟨Z3 v,i.toNat,none⟩))):=by
 intro n w G a hF hh
 rcases hh.ok _ (YA hj) with ⟨rfl,rfl⟩|⟨g,cap,cur,e,rfl,_⟩
 ·simp at hlt;omega
 ·have:=IK (P:=P) (F:=F) (h:=h) hi h0 hlt n w G a hF hh
  simpa [Z3,Value.ownBlock] using this
def CQ (P:Program) (ops:Array Oper) (F:Fr) (k:Nat):Option AV:=
 match (Zj ops k).op with
 | .load t x=>match BP P t with
  | some false=>some (F.ev x)
  | _=>none
 | _=>none
theorem Zcp (j:Nat) {v:Value} {ls:List AV} {i:Nat} {y:AV} (hl:CQ P ops F k=some (.val (.pointer (some ⟨Z3 v,i,none⟩)))) (hj:h[j]? = some (.vec v ls)) (hy:ls[i]? = some y) :
  X8 P (Zj ops k) F h [Z3 v] y:=by
 unfold CQ at hl
 generalize hoo:Zj ops k=o at hl
 obtain ⟨dst,op,type,pos,after,guard⟩:=o
 cases op<;>simp only at hl<;>try (cases hl)
 rename_i t x
 split at hl
 ·rename_i hagg
  simp only [Xo] at hl
  intro n w G a hF hh
  have hv:=hF.ev x
  rw [hl] at hv
  have hv:=hv.val_inv
  have hlt:i<ls.length:=(XZ.1 hy).1
  rcases hh.ok _ (YA hj) with ⟨rfl,rfl⟩|⟨g,cap,cur,e,rfl,h1,h2,h3,h4⟩
  ·simp at hlt
  ·obtain ⟨c,c1,c2⟩:=h4.get i y hy
   refine ⟨c,c2,fun w' _ hw=>?_⟩
   have hrow:=hw (Z3 (.slice (some ⟨g,0,none⟩) ls.length cap)) (by simp)
   simp only [Z3,Value.ownBlock,Option.getD_some] at hrow hv
   rw [h1] at hrow
   have hc:cur[i]? = some c:=by
    rw [TN,Z6 hlt] at c1
    simpa using c1
   simp only [execOp,hv]
   refine Vd ?_
   simp only [Instr.loadAt,Instr.sureAddr,Sem.run_bind,Sem.run_pure,Result.andThen_ok,loadVar,C0 hagg]
   have:=cell_of_row w' g i cur e (0,0) hrow
   rw [hc] at this
   simp [load,Sem.run,this]
 ·cases hl
theorem P5 {K:Fr->List Res->Prop} {v:Value} {ls:List AV} {i:Nat} {y:AV} (hs:storeAt P ops F k=some (Z3 v,i,[y])) (hlt:i<ls.length)
  (hK:K F (.vec v (ls.set i y)::h2)):XU P n (Zj ops k) F (.vec v ls::h2) K:=by
 unfold storeAt at hs
 generalize hoo:Zj ops k=q at hs
 obtain ⟨dst,op,type,pos,after,guard⟩:=q
 cases op<;>simp only at hs<;>try (cases hs)
 rename_i t x z
 split at hs
 ·rename_i b' o' inf hx hi
  split at hs
  ·rename_i hc
   simp only [Xs] at hc
   simp only [Xo,Prod.mk.injEq] at hs
   obtain ⟨rfl,rfl,hz⟩:=hs
   intro Q w G a hF hh
   have hvx:=hF.ev x
   rw [hx] at hvx
   have hvx:=hvx.val_inv
   have hvy:=hF.ev z
   have hcs:=hvy.cells hc.2.1
   rw [hz] at hcs hc
   have hone:=hcs.one_cells hc.2.2
   have YD:inf.size=1:=U6 hc.1
   have hlen:(a.eval z).cells.size=1:=by have:=hcs.length;simpa using this
   rcases hh.ok (.vec v ls) (YV ..) with ⟨rfl,rfl⟩|⟨g,cap,cur,e,rfl,h1,h3,h4,h5⟩
   ·simp at hlt
   ·simp only [Z3,Value.ownBlock,Option.getD_some] at hvx
    have hst:=run_storeCells_at P g o' e (a.eval z).cells.toList 0 cur w h1 (by simp [hlen];omega) hone
    simp only [Bi,KP] at hst
    have hr:(execOp a.eval { dst:=none,op:=.store t x z,type:=type,pos:=pos,after:=after,guard:=guard }).run P w =
      .ok .skip (w.setRow g (cur.toList.take o'++(a.eval z).cells.toList++cur.toList.drop (o'+(a.eval z).cells.size)).toArray):=by
     simp only [execOp,hvx]
     simp [Instr.storeAt,Instr.sureAddr,storeVar,Q4 hi,hlen,YD,hst]
    unfold Oper.wp
    rw [hr]
    have hset:ls.set o' y=ls.take o'++[y]++ls.drop (o'+1):=(Im ls o' y hlt).symm
    obtain ⟨j1,j2⟩:=hh.vwrite (ls':=ls.set o' y) (n':=ls.length) (cs':=(cur.toList.take o'++(a.eval z).cells.toList++cur.toList.drop (o'+(a.eval z).cells.size)).toArray) h1
     (by simp [hlen];omega) (by simp) (by simpa using h3) h4 (by
      obtain ⟨c,Z5⟩:∃c,(a.eval z).cells.toList=[c]:=by
       have:=hcs.length
       cases hq:(a.eval z).cells.toList with
       | nil=>rw [hq] at this;simp at this
       | cons c r=>cases r with
        | nil=>exact ⟨c,rfl⟩
        | cons _ _=>rw [hq] at this;simp at this
      rw [Z5] at hcs
      have hlt':o'<cur.toList.length:=by simp [h4];omega
      rw [Fy,Z5,hlen,Im cur.toList o' c hlt',Qv,List.take_set]
      cases hcs with
      | cons hcc _=>exact h5.set o' hcc)
    refine ⟨F,_,G,hK,?_,j1,j2⟩
    have:=hF.mono (j2.agree hh)
    simpa [Act.put] using this
  ·cases hs
 ·cases hs
theorem Z8y {K:Fr->List Res->Prop} {v:Value} {ls xs:List AV} {hx:Option Value} (hd:V7 n (Zj ops k)=true) (ha:QB P ops F k=some (.val v,.sl xs hx,1))
  (hxs:∀y∈xs,y.leaves=[y]) (hone:xs.all AV.one=true) (hbound:ls.length+xs.length<=1099511627776)
  (hK:∀v',K (F.put (Zj ops k).dst (.val v')) (.vec v' (ls++xs)::h2)):XU P n (Zj ops k) F (.vec v ls::h2) K:=by
 unfold QB at ha
 generalize hoo:Zj ops k=o at ha hd hK
 obtain ⟨dst,op,type,pos,after,guard⟩:=o
 cases op<;>simp only at ha<;>try (cases ha)
 rename_i c
 obtain ⟨callee,args,tys⟩:=c
 simp only at ha
 split at ha
 case h_2=>cases ha
 rename_i s x t t' hargs htys
 split at ha
 case h_2=>cases ha
 rename_i e htt ht
 have:=U6 htt
 subst this
 split at ha
 case h_2=>cases ha
 rename_i i hinfo
 split at ha
 case h_2=>cases ha
 rename_i z hz
 split at ha
 case h_2=>cases ha
 rename_i hb
 simp only [Xs] at hb
 simp only [Xo,Prod.mk.injEq] at ha
 obtain ⟨h3,h4,hk1⟩:=ha
 have e1:args=#[s,x]:=by rw [<-VM (xs:=args),hargs]
 have e2:tys=#[t,t]:=by rw [<-VM (xs:=tys),htys]
 subst e1;subst e2
 have hzs:z.cells.size=1:=by rw [U6 hb.1,hk1]
 have hby:=Ks hb.2
 have hflat:Zu xs=xs:=by
  clear hone hbound hK h4
  induction xs with
  | nil=>rfl
  | cons y r ih=>simp only [Zu,JP,hxs y (by simp),List.singleton_append];rw [show r.flatMap AV.leaves=Zu r from rfl,ih fun q hq=>hxs q (by simp [hq])]
 have hlen1:∀y∈xs,y.leaves.length=1:=fun y hy=>by rw [hxs y hy];rfl
 intro Q w G a hF hh
 have v1:=hF.ev s
 have v2:=hF.ev x
 rw [h3] at v1
 rw [h4] at v2
 have v1:=v1.val_inv
 have v2:=v2.forget
 have finish:∀v' w',(Builtin.append_ #[t,t] type #[v,a.eval x]).run P w=.ok v' w'->ZW w' G (.vec v' (ls++xs)::h2)->Yr w G (.vec v ls::h2) w' G (.vec v' (ls++xs)::h2) ->
   ({ dst:=dst,op:=.call { callee:=.builtin .append,args:=#[s,x],argTypes:=#[t,t] },type:=type,pos:=pos,after:=after,guard:=guard }:Oper).wp P a w
    (fun a' w'=>∃F' h' G',K F' h'/\FR w' G' n F' a'/\ZW w' G' h'/\Yr w G (.vec v ls::h2) w' G' h') Q:=by
  intro v' w' hr j1 j2
  have hrun:(execOp a.eval { dst:=dst,op:=.call { callee:=.builtin .append,args:=#[s,x],argTypes:=#[t,t] },type:=type,pos:=pos,after:=after,guard:=guard }).run P w=.ok (.value v') w':=by
   simp only [execOp,resolve,invoke,builtin,Sem.run_bind,Sem.run_pure,Result.andThen_ok,Bg,Ww,QQ,v1,hr]
  unfold Oper.wp
  rw [hrun]
  exact ⟨_,_,G,hK v',(hF.mono (j2.agree hh)).put (UB hd) .val,j1,j2⟩
 have hvec:=hh.ok (.vec v ls) (YV ..)
 have hsub2:∀r:Res,List.Sublist (r::h2) (r::.vec v ls::h2):=fun r=>List.Sublist.cons_cons _ (Dx _ _)
 have grown:∀(olds news:List Value) (old:Nat),Y9 w G ls olds->Y9 w G xs news ->
   ZW (w.drew.alloc (.cells (olds.toArray++news.toArray++Builtin.zeroCells z.cells (grownCap w (ls.length+xs.length) old e-(ls.length+xs.length))) e)) G
    (.vec (.slice (some ⟨w.heap.size,0,none⟩) (ls.length+xs.length) (grownCap w (ls.length+xs.length) old e)) (ls++xs)::h2) /\
   Yr w G (.vec v ls::h2) (w.drew.alloc (.cells (olds.toArray++news.toArray++Builtin.zeroCells z.cells (grownCap w (ls.length+xs.length) old e-(ls.length+xs.length))) e)) G
    (.vec (.slice (some ⟨w.heap.size,0,none⟩) (ls.length+xs.length) (grownCap w (ls.length+xs.length) old e)) (ls++xs)::h2):=by
  intro olds news old ho hn
  have hge:=grownCap_ge w (ls.length+xs.length) old e
  have hol:=ho.length
  have hnl:=hn.length
  obtain ⟨j1,j2⟩:=hh.drew.alloc_vec (olds.toArray++news.toArray++Builtin.zeroCells z.cells (grownCap w (ls.length+xs.length) old e-(ls.length+xs.length))) e
   (ls:=ls++xs) (cap:=grownCap w (ls.length+xs.length) old e) (by simpa using hge)
   (by simp only [Array.size_append,La,size_zeroCells,hzs,hol,hnl,UI];omega)
   (by
    have:(olds.toArray++news.toArray++Builtin.zeroCells z.cells (grownCap w (ls.length+xs.length) old e-(ls.length+xs.length))).toList.take (ls++xs).length=olds++news:=by
     simp only [Ds,Yz]
     rw [<-hol,<-hnl,<-Yz]
     exact Cd
    rw [this]
    exact (ho.append hn).mono (AJ w G))
  rw [Yz] at j1 j2
  exact ⟨j1.sub (hsub2 _),(Yr.drew w G _).trans (j2.sub' (hsub2 _))⟩
 by_cases hxe:xs=[]
 ·subst hxe
  obtain ⟨ad,cap,hform⟩:=JY.form hvec
  have hle:ls.length<=cap:=by
   rcases hvec with ⟨rfl,rfl⟩|⟨g,cap',cur,el,rfl,_,hc,_⟩
   ·simp
   ·cases hform;exact hc
  subst hform
  cases v2q:a.eval x with
  | slice ad' l' c'=>
   rw [v2q] at v2
   cases v2<;>exact finish _ _ (by rw [v2q];exact BZ ht hinfo hle w) (by simpa using hh) (by simpa using Yr.refl w G _)
  | _=>rw [v2q] at v2;cases v2
 ·generalize hax:a.eval x=ax at v2 finish
  cases v2 with
  | nil _=>exact absurd rfl hxe
  | sl hq hcc hm=>
   rename_i b o' k' c
   have hpos:0<xs.length:=Fw.2 hxe
   have hfm:=hm.flat_mem
   rw [hflat] at hfm
   obtain ⟨news,hn,hnc⟩:=hfm.cells
   have hnl:news.length=xs.length*i.size:=by rw [hn.length,hk1,UI]
   have hone':=hn.one_cells hone
   have hnews:∀j u,news[j]? = some u->w.cell? ((⟨b,o',none⟩:Addr).add j)=some u:=fun j u hj=>by rw [Ji];exact (hnc j u hj).1
   have hbb:(ls.length+xs.length)*i.bytes<=140737488355328:=by
    have:=Nat.mul_le_mul hbound hby
    omega
   rcases hvec with ⟨rfl,rfl⟩|⟨g,cap,cur,el,rfl,hrow,hlc,hcur,hcells⟩
   ·have hr:=run_append_nil (P:=P) w t type e i z ht hinfo hz ⟨b,o',none⟩ xs.length c news hnl hnews hpos (by simp at hbound;omega) (by simp at hbb;omega)
    obtain ⟨j1,j2⟩:=grown [] news 0 .nil hn
    simp only [Vt,Vf,Array.empty_append,Dw] at j1 j2
    exact finish _ _ hr (by simpa using j1) (by simpa using j2)
   ·by_cases hroom:ls.length+xs.length<=cap
    ·have hfit:ls.length*i.size+news.length<=cur.size:=by rw [hnl,hcur,hk1];omega
     have hr:=PD (P:=P) w t type e el i ht hinfo g ls.length cap cur hrow ⟨b,o',none⟩ xs.length c news hnl hnews hone' hroom hfit
     rw [hk1,UI] at hr
     have hnl':news.length=xs.length:=by rw [hnl,hk1,UI]
     obtain ⟨j1,j2⟩:=hh.vwrite (ls':=ls++xs) (n':=ls.length+xs.length) (cs':=(cur.toList.take ls.length++news++cur.toList.drop (ls.length+news.length)).toArray) hrow
      (by simp [hnl',hcur];omega) (by simp) (by simpa using hroom) hcur (by
       have h1:(cur.toList.take ls.length).length=ls.length:=by simp [hcur];omega
       have:(cur.toList.take ls.length++news++cur.toList.drop (ls.length+news.length)).toArray.toList.take (ls++xs).length=cur.toList.take ls.length++news:=by
        rw [Fy,Yz,<-hnl']
        conv=>lhs;arg 1;rw [show ls.length+news.length=(cur.toList.take ls.length++news).length from by rw [Yz,h1]]
        exact Cd
       rw [this]
       exact hcells.append hn)
     exact finish _ _ hr j1 j2
    ·have hr:=run_append_grow (P:=P) w t type e i z ht hinfo hz ⟨g,0,none⟩ ls.length cap (cur.toList.take ls.length) (by rw [hk1];simp [hcur];omega) (fun j u hj=>by
      rw [Ji,cell_of_row w g _ cur el (0,0) hrow]
      rw [TN] at hj
      split at hj
      ·simpa using hj
      ·cases hj) ⟨b,o',none⟩ xs.length c news hnl hnews om om (growslice_fits om hbb)
     obtain ⟨j1,j2⟩:=grown (cur.toList.take ls.length) news cap hcells hn
     exact finish _ _ hr j1 j2
end
inductive Q7 (h:List Res):AV->Prop
 | val {v}:Q7 h (.val v)
 | any:Q7 h .any
 | nil {hv}:Q7 h (.sl [] hv)
 | own {es:List AV} {v:Value} {k:Nat} (he:∀y∈es,∃u,y=.val u) (ht:Res.tail v k∈h):Q7 h (.sl es (some v))
 | tup {vs:List AV} (hv:∀y∈vs,Q7 h y):Q7 h (.tup vs)
 | agg {vs:List AV} (hv:∀y∈vs,Q7 h y):Q7 h (.agg vs)
def JS:Res->Prop
 | .obj _ ls=>∀y∈ls,∃u,y=.val u
 | .vec _ ls=>∀y∈ls,∃u,y=.val u
 | .row _ _ ls=>∀y∈ls,∃u,y=.val u
 | _=>True
theorem Y9.vals {w w':World} {G G':ZE}:∀{xs:List AV} {vs:List Value},(∀y∈xs,∃u,y=.val u)->Y9 w G xs vs->Y9 w' G' xs vs
 | _,_,_,.nil=>.nil
 | x::_,_::_,hv,.cons h t=>by
  obtain ⟨u,rfl⟩:=hv x (YV ..)
  have:=h.val_inv
  subst this
  exact .cons .val (t.vals fun y hy=>hv y (Xv _ hy))
theorem OE {w:World} {G G':ZE} {b:Nat} (hG:∀o,G b o->G' b o):∀{o:Nat} {xs:List AV},(∀y∈xs,∃u,y=.val u)->Xi w G b o xs->Xi w G' b o xs
 | _,_,_,.nil=>.nil
 | _,x::_,hv,.cons hc hg h t=>by
  obtain ⟨u,rfl⟩:=hv x (YV ..)
  have:=h.val_inv
  subst this
  exact .cons hc (hG _ hg) .val (OE hG (fun y hy=>hv y (Xv _ hy)) t)
theorem N0 {w:World} {G G':ZE} {b k:Nat} (hG:∀o,G b o->G' b o):∀{o:Nat} {xs:List AV},(∀y∈xs,∃u,y=.val u)->XN w G k b o xs->XN w G' k b o xs
 | _,_,_,.nil=>.nil
 | _,x::_,hv,.cons hl h t=>by
  obtain ⟨u,rfl⟩:=hv x (YV ..)
  refine .cons hl (OE hG (fun y hy=>?_) h) (N0 hG (fun y hy=>hv y (Xv _ hy)) t)
  simp [AV.leaves] at hy
  exact ⟨u,hy⟩
theorem Y9.clean {w:World} {G G':ZE} (P:AV->Prop) (hP:∀x v,P x->RV w G x v->RV w G' x v):∀{xs:List AV} {vs:List Value},(∀y∈xs,P y)->Y9 w G xs vs->Y9 w G' xs vs
 | _,_,_,.nil=>.nil
 | x::_,_::_,hv,.cons h t=>.cons (hP _ _ (hv x (YV ..)) h) (t.clean P hP fun y hy=>hv y (Xv _ hy))
theorem RV.clean {w:World} {G G':ZE} {h:List Res} (hG:∀v k g,Res.tail v k∈h->v.ownBlock=some g->∀o,G g o->G' g o) {r:AV} (hc:Q7 h r):∀{v:Value},RV w G r v->RV w G' r v:=by
 induction hc with
 | val=>intro v hv;cases hv;exact .val
 | any=>intro v hv;exact .any
 | nil=>
  intro v hv
  cases hv with
  | nil hq=>exact .nil hq
  | sl hq hc hm=>exact .sl (k:=0) hq hc .nil
 | own he ht=>
  intro v hv
  cases hv with
  | nil hq=>exact .nil hq
  | sl hq hc hm=>
   have e:=hq _ rfl
   exact .sl hq hc (N0 (fun o hg=>hG _ _ _ ht (by rw [e];rfl) o hg) he hm)
 | tup hv ih=>
  intro v hvv
  cases hvv with
  | tup hc=>exact .tup (hc.clean (fun x=>∀{v:Value},RV w G x v->RV w G' x v) (fun x v hp hx=>hp hx) ih)
 | agg hv ih=>
  intro v hvv
  cases hvv with
  | agg hc=>exact .agg (hc.clean (fun x=>∀{v:Value},RV w G x v->RV w G' x v) (fun x v hp hx=>hp hx) ih)
theorem ZW.lend {w:World} {G:ZE}:∀{bs h:List Res},(∀r∈bs,∃v ls,r=.vec v ls/\∀y∈ls,∃u,y=.val u)->ZW w G (h++bs) ->
  ∃Gb:ZE,(∀b o,G b o->Gb b o)/\(∀b o,Gb b o->G b o∨Wb bs b o)/\ZW w Gb h /\
   (∀v ls,Res.vec v ls∈bs->∀m,m<=ls.length->RV w Gb (.sl (ls.take m) none) (J8 v m)/\RV w Gb (.sl ls none) v):=by
 intro bs h hb hh
 let Gb:ZE:=fun b o=>G b o∨∃v ls,Res.vec v ls∈bs/\v.ownBlock=some b/\o<ls.length
 have hsub:∀b o,G b o->Gb b o:=fun _ _ h=>.inl h
 have hfp:∀b o,Gb b o->G b o∨Wb bs b o:=fun b o hg=>hg.imp id fun ⟨v,ls,hm,ho,_⟩=>⟨_,hm,by
  cases v with
  | slice a l c=>cases a with
   | none=>simp [Value.ownBlock] at ho
   | some a=>simp only [Value.ownBlock,Xo] at ho;exact ho.symm
  | _=>simp [Value.ownBlock] at ho⟩
 have hA:Vu G w w Gb:=⟨fun _ _ _=>rfl,hsub⟩
 refine ⟨Gb,hsub,hfp,⟨fun r hr=>?_,hh.left.apart,fun r hr b o hf hg=>?_,fun b o hg=>?_⟩,fun v ls hm m hmle=>?_⟩
 ·have h0:=hh.ok r (Yv.2 (.inl hr))
  cases r with
  | obj b ls=>obtain ⟨cs,e,h1,h2⟩:=h0;exact ⟨cs,e,h1,h2.mono hA⟩
  | tail v k=>exact h0
  | ge s=>exact h0
  | vec v ls=>
   rcases h0 with ⟨rfl,h0⟩|⟨g,cap,cur,el,rfl,h1,h2,h3,h4⟩
   ·exact .inl ⟨rfl,h0⟩
   ·exact .inr ⟨g,cap,cur,el,rfl,h1,h2,h3,h4.mono hA⟩
  | many ts=>exact h0
  | own B m=>exact h0
  | row v k ls=>
   rcases h0 with ⟨rfl,h0⟩|⟨g,len,cap,cur,el,rfl,h1,h2,h3,h4,h5⟩
   ·exact .inl ⟨rfl,h0⟩
   ·exact .inr ⟨g,len,cap,cur,el,rfl,h1,h2,h3,h4,h5.mono hA⟩
  | mp b Q=>exact h0
 ·rcases hfp b o hg with h1|h1
  ·exact hh.prot r (Yv.2 (.inl hr)) b o hf h1
  ·exact hh.cross ⟨r,hr,hf⟩ h1
 ·rcases hfp b o hg with h1|⟨r,hr,hf⟩
  ·exact hh.lt b o h1
  ·exact (hh.ok r (Yv.2 (.inr hr))).lt b o hf
 ·have h0:=hh.ok _ (Yv.2 (.inr hm))
  obtain ⟨v',ls',e,hval⟩:=hb _ hm
  cases e
  rcases h0 with ⟨rfl,rfl⟩|⟨g,cap,cur,el,rfl,h1,h2,h3,h4⟩
  ·have:m=0:=by simpa using hmle
   subst this
   exact ⟨.nil (by simp),.nil (by simp)⟩
  ·have hmem:Xi w Gb g 0 ls:=by
    refine Xi.of_cells (h4.mono hA) fun j u hj=>?_
    have hjl:j<ls.length:=by
     have:=(XZ.1 hj).1
     have h5:=h4.length
     omega
    rw [TN,Z6 hjl] at hj
    refine ⟨?_,.inr ⟨_,_,hm,rfl,by omega⟩⟩
    rw [Vf,cell_of_row w g j cur el (0,0) h1]
    simpa using hj
   have hels:∀(l:List AV),(∀y∈l,∃u,y=.val u)->Zu l=l:=by
    intro l
    induction l with
    | nil=>intro _;rfl
    | cons y r ih=>
     intro hy
     obtain ⟨u,rfl⟩:=hy y (YV ..)
     simp only [Zu,JP,AV.leaves,List.singleton_append]
     rw [show r.flatMap AV.leaves=Zu r from rfl,ih fun z hz=>hy z (Xv _ hz)]
   have hE:XN w Gb 1 g 0 ls:=XN.of_flat ls (fun y hy=>by obtain ⟨u,rfl⟩:=hval y hy;rfl) (by rw [hels ls hval];exact hmem)
   refine ⟨?_,.sl (by simp) h2 hE⟩
   have hl:(ls.take m).length=m:=by simp [hmle]
   show RV w Gb (.sl (ls.take m) none) (.slice (some ⟨g,0,none⟩) m cap)
   conv=>arg 4;rw [<-hl]
   exact .sl (by simp) om (hE.take m)
inductive Ui (bs:List Res):List AV->List AV->Prop
 | nil:Ui bs [] []
 | same {x as1 xs} (t:Ui bs as1 xs):Ui bs (x::as1) (x::xs)
 | lent {v ls as1 xs} (h:Res.vec v ls∈bs) (t:Ui bs as1 xs):Ui bs (.val v::as1) (.sl ls none::xs)
 | cut {v ls m as1 xs} (h:Res.vec v ls∈bs) (hm:m<=ls.length) (t:Ui bs as1 xs):Ui bs (.val (J8 v m)::as1) (.sl (ls.take m) none::xs)
theorem Ui.rcs {w:World} {G Gb:ZE} {bs:List Res} (hA:Vu G w w Gb)
  (hb:∀v ls,Res.vec v ls∈bs->∀m,m<=ls.length->RV w Gb (.sl (ls.take m) none) (J8 v m)/\RV w Gb (.sl ls none) v) :
  ∀{as1 xs:List AV} {vs:List Value},Ui bs as1 xs->Y9 w G as1 vs->Y9 w Gb xs vs
 | _,_,_,.nil,.nil=>.nil
 | _,_,_,.same t,.cons h r=>.cons (h.mono hA) (t.rcs hA hb r)
 | _,_,_,.lent hm t,.cons h r=>by
  have:=h.val_inv
  subst this
  exact .cons (hb _ _ hm 0 (TO _)).2 (t.rcs hA hb r)
 | _,_,_,.cut hm hle t,.cons h r=>by
  have:=h.val_inv
  subst this
  exact .cons (hb _ _ hm _ hle).1 (t.rcs hA hb r)
theorem Wg.lend {P:Program} {f:FuncId} {as1 xs:List AV} {h1:List Res} (bs:List Res) {R:AV->List Res->Prop} (H:Wg P f xs h1 R) (hargs:Ui bs as1 xs)
  (hb:∀r∈bs,∃v ls,r=.vec v ls/\∀y∈ls,∃u,y=.val u) (hclean:∀r h',R r h'->Q7 h' r/\∀q∈h',JS q) :
  Wg P f as1 (h1++bs) (fun r h'=>∃h1',R r h1'/\h'=h1'++bs):=by
 intro w G vs hvs hh
 obtain ⟨Gb,g1,g2,g3,g4⟩:=ZW.lend hb hh
 have hA:Vu G w w Gb:=⟨fun _ _ _=>rfl,g1⟩
 refine (H w Gb vs (hargs.rcs hA g4 hvs) g3).mono ?_
 rintro e w' ⟨v,r,h',G',rfl,hR,hv,hh',hx⟩
 obtain ⟨c1,c2⟩:=hclean r h' hR
 let G2:ZE:=fun b o=>G' b o/\¬(Wb bs b o)
 have hbslt:∀b o,Wb bs b o->b<w.heap.size:=fun b o ⟨q,hq,hf⟩=>(hh.ok q (Yv.2 (.inr hq))).lt b o hf
 have hwhole:∀b o o',Wb bs b o->Wb bs b o':=fun b o o' ⟨q,hq,hf⟩=>⟨q,hq,by
  obtain ⟨v,ls,rfl,_⟩:=hb q hq
  cases v with
  | slice a l c=>cases a with
   | none=>exact hf.elim
   | some a=>exact hf
  | _=>exact hf.elim⟩
 have hGkeep:∀b o,G b o->G2 b o:=fun b o hg=>⟨hx.sub b o (g1 b o hg),fun ⟨q,hq,hf⟩=>hh.prot q (Yv.2 (.inr hq)) b o hf hg⟩
 have hnew:∀v k g,Res.tail v k∈h'->v.ownBlock=some g->∀o,G' g o->G2 g o:=by
  intro v k g hm hg o hgo
  refine ⟨hgo,fun hf=>?_⟩
  have hlt:=hbslt _ _ hf
  rcases hh'.ok _ hm with rfl|⟨g',len,cap,cur,el,rfl,t1,t2,t3⟩
  ·simp [Value.ownBlock] at hg
  ·simp only [Value.ownBlock,Xo] at hg
   subst hg
   have hfp:Wb h' g' (len*k):=⟨_,hm,rfl,YX _⟩
   exact hh.cross (hx.newfp g' (len*k) hlt hfp) (hwhole _ _ _ hf)
 have e1:Yr w G h1 w' G2 h':=⟨hx.os,hx.tape,hx.output,hx.size,hGkeep,hx.same,fun b o hb' hg=>by
  rcases hx.newG b o hb' hg.1 with h|h
  ·rcases g2 b o h with h|h
   ·exact .inl h
   ·exact absurd h hg.2
  ·exact .inr h,hx.newfp⟩
 have e2:ZW w' G2 h':=⟨fun q hq=>by
   have h0:=hh'.ok q hq
   have hcq:=c2 q hq
   cases q with
   | obj b ls=>obtain ⟨cs,el,k1,k2⟩:=h0;exact ⟨cs,el,k1,k2.vals hcq⟩
   | tail v k=>exact h0
   | ge s=>exact h0
   | vec v ls=>
    rcases h0 with ⟨rfl,h0⟩|⟨g,cap,cur,el,rfl,k1,k2,k3,k4⟩
    ·exact .inl ⟨rfl,h0⟩
    ·exact .inr ⟨g,cap,cur,el,rfl,k1,k2,k3,k4.vals hcq⟩
   | many ts=>exact h0
   | own B m=>exact h0
   | row v k ls=>
    rcases h0 with ⟨rfl,h0⟩|⟨g,len,cap,cur,el,rfl,k1,k2,k3,k4,k5⟩
    ·exact .inl ⟨rfl,h0⟩
    ·exact .inr ⟨g,len,cap,cur,el,rfl,k1,k2,k3,k4,k5.vals hcq⟩
   | mp b Q=>exact h0,hh'.apart,fun q hq b o hf hg=>hh'.prot q hq b o hf hg.1,fun b o hg=>hh'.lt b o hg.1⟩
 obtain ⟨f1,f2⟩:=hh.frame e1 e2
 exact ⟨v,r,h'++bs,G2,rfl,⟨h',hR,rfl⟩,RV.clean hnew c1 hv,f1,f2⟩
section
variable {P:Program} {n:Nat} {ops:Array Oper} {B:Fr->List Res->Prop} {k:Nat} {F:Fr} {h h2:List Res}
def IC (P:Program) (ops:Array Oper) (F:Fr) (k:Nat):Option (AV × Int):=
 match (Zj ops k).op with
 | .slice t x none (some hi) none=>match P.underlying t with
  | some (.slice e)=>match P.info? e with
   | some _=>match F.ev hi with
    | .val (.int _ m)=>some (F.ev x,m)
    | _=>none
   | none=>none
  | _=>none
 | _=>none
theorem Zcq (j:Nat) {v:Value} {ls:List AV} {m:Nat} (hi:IC P ops F k=some (.val v,(m:Int))) (hj:h[j]? = some (.vec v ls)) (hle:m<=ls.length) :
  X8 P (Zj ops k) F h [] (.val (J8 v m)):=by
 unfold IC at hi
 generalize hoo:Zj ops k=o at hi
 obtain ⟨dst,op,type,pos,after,guard⟩:=o
 cases op<;>simp only at hi<;>try (cases hi)
 rename_i t x lo hi' mx
 cases lo with
 | some _=>simp at hi
 | none=>
  cases hi' with
  | none=>simp at hi
  | some y=>
   cases mx with
   | some _=>simp at hi
   | none=>
    simp only at hi
    split at hi
    ·rename_i e ht
     split at hi
     ·rename_i inf hinf
      split at hi
      ·rename_i ik m' hm
       simp only [Xo,Prod.mk.injEq] at hi
       obtain ⟨hx,rfl⟩:=hi
       intro n w G a hF hh
       have v1:=hF.ev x
       rw [hx] at v1
       have v1:=v1.val_inv
       have v2:=hF.ev y
       rw [hm] at v2
       have v2:=v2.val_inv
       have hvec:=hh.ok _ (YA hj)
       obtain ⟨ad,cap,hform⟩:=JY.form hvec
       have hcap:ls.length<=cap:=by
        rcases hvec with ⟨rfl,rfl⟩|⟨g,cap',cur,el,rfl,_,hc,_⟩
        ·simp
        ·cases hform;exact hc
       subst hform
       refine ⟨_,.val,fun w' _ _=>?_⟩
       have Zb:=fun c=>F3 (P:=P) (c:=c) (v:=.int ik (m:Int)) (y:=cap) rfl om om w'
       simp only [execOp,v1,v2,Cf,Option.map_none]
       refine Vd ?_
       simp only [Instr.sliceAt,Sem.run_bind,Vr ht,Result.andThen_ok,Instr.slice]
       have hmm:(Instr.sliceBounds true ls.length cap none (some (.int ik (m:Int))) none).run P w'=.ok (0,m,cap) w':=by simp [Instr.sliceBounds,Zb]
       rw [hmm]
       have hz:∀a:Addr,a.add 0=a:=fun a=>by simp [Addr.add]
       simp only [Result.andThen_ok,Q4 hinf,Nat.zero_mul,hz,J8]
       simp
      ·cases hi
     ·cases hi
    ·cases hi
theorem Ze1 {w:World} {G:ZE} {v:Value} {ls:List AV} {m:Nat} (hh:ZW w G (.vec v ls::h2)) (hle:m<=ls.length) :
  ZW w G (.vec (J8 v m) (ls.take m)::h2)/\Yr w G (.vec v ls::h2) w G (.vec (J8 v m) (ls.take m)::h2):=by
 have hpw:=Vm.1 hh.apart
 have hfp:∀b o,Res.fp (.vec (J8 v m) (ls.take m)) b o->Res.fp (.vec v ls) b o:=by
  intro b o hf
  cases v with
  | slice a l c=>cases a with
   | none=>exact hf.elim
   | some a=>exact hf
  | _=>exact hf
 refine ⟨⟨fun r hr=>?_,Vm.2 ⟨fun r hr b o h1 h2=>hpw.1 r hr b o (hfp b o h1) h2,hpw.2⟩,fun r hr b o hf hg=>?_,hh.lt⟩,⟨rfl,rfl,rfl,YX _,fun _ _ h=>h,fun _ _=>.inl rfl,fun _ _ _ h=>.inl h,?_⟩⟩
 ·rcases Yw.1 hr with rfl|hr
  ·rcases hh.ok _ (YV ..) with ⟨rfl,rfl⟩|⟨g,cap,cur,e,rfl,h1,h3,h4,h5⟩
   ·have:m=0:=by simpa using hle
    subst this
    exact .inl ⟨rfl,rfl⟩
   ·refine .inr ⟨g,cap,cur,e,by simp [J8,hle],h1,by simp;omega,h4,?_⟩
    have:=h5.take m
    rw [List.take_take,AD hle] at this
    simpa [hle] using this
  ·exact hh.ok r (Xv _ hr)
 ·rcases Yw.1 hr with rfl|hr
  ·exact hh.prot _ (YV ..) b o (hfp b o hf) hg
  ·exact hh.prot r (Xv _ hr) b o hf hg
 ·rintro b o _ ⟨r,hr,hf⟩
  rcases Yw.1 hr with rfl|hr
  ·exact ⟨_,YV ..,hfp b o hf⟩
  ·exact ⟨r,Xv _ hr,hf⟩
theorem Zdz {w:World} {G:ZE} {v:Value} {ls:List AV} (hh:ZW w G (.vec v ls::h2)) (hls:∀y∈ls,y.leaves=[y]) :
  ∃G',ZW w G' (.tail v 1::h2)/\Yr w G (.vec v ls::h2) w G' (.tail v 1::h2)/\RV w G' (.sl ls (some v)) v:=by
 have hpw:=Vm.1 hh.apart
 rcases hh.ok _ (YV ..) with ⟨rfl,rfl⟩|⟨g,cap,cur,e,rfl,h1,h3,h4,h5⟩
 ·obtain ⟨k1,k2⟩:=Fj (sz:=1) (hh.sub (Dx _ _))
  refine ⟨G,k1,⟨rfl,rfl,rfl,YX _,fun _ _ h=>h,fun _ _=>.inl rfl,fun _ _ _ h=>.inl h,?_⟩,.nil (by simp)⟩
  rintro b o _ ⟨r,hr,hf⟩
  rcases Yw.1 hr with rfl|hr
  ·exact hf.elim
  ·exact ⟨r,Xv _ hr,hf⟩
 ·let G':ZE:=fun b o=>G b o∨(b=g/\o<ls.length)
  have hA:Vu G w w G':=⟨fun _ _ _=>rfl,fun _ _ h=>.inl h⟩
  have hmem:Res.vec (.slice (some ⟨g,0,none⟩) ls.length cap) ls∈Res.vec (.slice (some ⟨g,0,none⟩) ls.length cap) ls::h2:=YV ..
  refine ⟨G',⟨fun r hr=>?_,Vm.2 ⟨fun r hr b o f1 f2=>hpw.1 r hr b o f1.1 f2,hpw.2⟩,fun r hr b o hf hg=>?_,fun b o hg=>?_⟩,
   ⟨rfl,rfl,rfl,YX _,fun _ _ h=>.inl h,fun _ _=>.inl rfl,fun b o _ hg=>hg.imp id fun ⟨e1,_⟩=>⟨_,hmem,e1⟩,?_⟩,?_⟩
  ·rcases Yw.1 hr with rfl|hr
   ·exact .inr ⟨g,ls.length,cap,cur,e,rfl,h1,h3,by rw [h4,UI]⟩
   ·have h0:=hh.ok r (Xv _ hr)
    cases r with
    | obj b ks=>obtain ⟨cs,el,k1,k2⟩:=h0;exact ⟨cs,el,k1,k2.mono hA⟩
    | tail v k=>exact h0
    | ge s=>exact h0
    | vec v ks=>
     rcases h0 with ⟨rfl,h0⟩|⟨g2,cap2,cur2,el,rfl,k1,k2,k3,k4⟩
     ·exact .inl ⟨rfl,h0⟩
     ·exact .inr ⟨g2,cap2,cur2,el,rfl,k1,k2,k3,k4.mono hA⟩
    | many ts=>exact h0
    | own B m=>exact h0
    | row v k ks=>
     rcases h0 with ⟨rfl,h0⟩|⟨g2,len2,cap2,cur2,el,rfl,k1,k2,k3,k4,k5⟩
     ·exact .inl ⟨rfl,h0⟩
     ·exact .inr ⟨g2,len2,cap2,cur2,el,rfl,k1,k2,k3,k4,k5.mono hA⟩
    | mp b Q=>exact h0
  ·rcases Yw.1 hr with rfl|hr2
   ·obtain ⟨hbg,hf2⟩:=hf
    rcases hg with hg|⟨_,hg⟩
    ·exact hh.prot _ hmem b o hbg hg
    ·rw [UI] at hf2;omega
   ·rcases hg with hg|⟨hbg,_⟩
    ·exact hh.prot r (Xv _ hr2) b o hf hg
    ·exact hpw.1 r hr2 b o hbg hf
  ·rcases hg with hg|⟨rfl,_⟩
   ·exact hh.lt b o hg
   ·exact (VB.1 h1).1
  ·rintro b o _ ⟨r,hr,hf⟩
   rcases Yw.1 hr with rfl|hr
   ·exact ⟨_,hmem,hf.1⟩
   ·exact ⟨r,Xv _ hr,hf⟩
  ·have hflat:Zu ls=ls:=by
    clear h5 h3 hh hpw hmem hA h4
    induction ls with
    | nil=>rfl
    | cons y r ih=>
     simp only [Zu,JP,hls y (YV ..),List.singleton_append]
     rw [show r.flatMap AV.leaves=Zu r from rfl,ih fun q hq=>hls q (Xv _ hq)]
   refine .sl (k:=1) (fun x hx=>by cases hx;rfl) h3 (XN.of_flat ls (fun y hy=>by rw [hls y hy];rfl) ?_)
   rw [hflat]
   refine Xi.of_cells (h5.mono hA) fun j u hj=>?_
   have hjl:j<ls.length:=by
    have:=(XZ.1 hj).1
    have h6:=h5.length
    omega
   rw [TN,Z6 hjl] at hj
   refine ⟨?_,.inr ⟨rfl,by omega⟩⟩
   rw [Vf,cell_of_row w g j cur e (0,0) h1]
   simpa using hj
def JE (P:Program) (ops:Array Oper) (F:Fr) (k:Nat):Option (Int × Int × AV):=
 match (Zj ops k).op with
 | .makeSlice t l c=>match P.underlying t with
  | some (.slice e)=>match P.info? e with
   | some i=>match i.zero with
    | some z=>match z.cells.toList,Nat.beq i.size 1&&Nat.ble i.bytes 32 with
     | [zv],true=>match F.ev l,F.ev c with
      | .val (.int _ l),.val (.int _ c)=>some (l,c,AV.ofVal zv)
      | _,_=>none
     | _,_=>none
    | none=>none
   | none=>none
  | _=>none
 | _=>none
theorem EV {w:World} {G:ZE} {x:AV} {v:Value} (h:RV w G x v):∀n,Y9 w G (List.replicate n x) (List.replicate n v)
 | 0=>.nil
 | n+1=>.cons h (EV h n)
theorem Oz (zv:Value) (n:Nat):(madeCells #[zv] n).toList=List.replicate n zv:=by
 apply List.ext_getElem
 ·simp [madeCells]
 ·intro i h1 h2
  simp [madeCells,Nat.mod_one]
theorem PG {w:World} {G:ZE} {a:Act} (hF:FR w G n F a) {l c:Nat} {zv:AV} (hm:JE P ops F k=some ((l:Int),(c:Int),zv)) (hlc:l<=c) (hc:c<=4294967296) :
  ∃(e:TypeId) (z:Value),zv=AV.ofVal z/\(execOp a.eval (Zj ops k)).run P w=.ok (.value (.slice (some ⟨w.heap.size,0,none⟩) l c)) (w.alloc (.cells (madeCells #[z] c) e)):=by
 unfold JE at hm
 generalize hoo:Zj ops k=o at hm
 obtain ⟨dst,op,type,pos,after,guard⟩:=o
 cases op<;>simp only at hm<;>try (cases hm)
 rename_i t lo co
 split at hm
 case h_2=>cases hm
 rename_i e ht
 split at hm
 case h_2=>cases hm
 rename_i i hi
 split at hm
 case h_2=>cases hm
 rename_i z hz
 split at hm
 case h_2=>cases hm
 rename_i z1 hzl hb
 simp only [Xs] at hb
 split at hm
 case h_2=>cases hm
 rename_i k1 l' k2 c' hl hco
 simp only [Xo,Prod.mk.injEq] at hm
 obtain ⟨rfl,rfl,rfl⟩:=hm
 have v1:=hF.ev lo
 have v2:=hF.ev co
 rw [hl] at v1
 rw [hco] at v2
 have v1:=v1.val_inv
 have v2:=v2.val_inv
 have hs:=U6 hb.1
 have hbytes:=Ks hb.2
 have hzc:z.cells=#[z1]:=by rw [<-VM (xs:=z.cells),hzl]
 have hr:=run_make (P:=P) w t e i z ht hi hz k1 k2 (l:Int) (c:Int) om om (by
  have h1:(i.bytes:Int)<=32:=by omega
  have h2:(i.bytes:Int)*(c:Int)<=32*(c:Int):=Int.mul_le_mul_of_nonneg_right h1 om
  omega) om
 rw [hzc,hs,UI] at hr
 simp only [Qt] at hr
 refine ⟨e,z1,rfl,?_⟩
 simp only [execOp,v1,v2]
 exact Vd hr
theorem Z8z {K:Fr->List Res->Prop} {l c:Nat} {zv:AV} (hd:V7 n (Zj ops k)=true) (hm:JE P ops F k=some ((l:Int),(c:Int),zv)) (hlc:l<=c) (hc:c<=4294967296)
  (hK:∀v,K (F.put (Zj ops k).dst (.val v)) (.vec v (List.replicate l zv)::h)):XU P n (Zj ops k) F h K:=by
 intro Q w G a hF hh
 obtain ⟨e,z,rfl,hr⟩:=PG hF hm hlc hc
 unfold Oper.wp
 rw [hr]
 obtain ⟨j1,j2⟩:=hh.alloc_vec (madeCells #[z] c) e (ls:=List.replicate l (AV.ofVal z)) (cap:=c) (by simpa using hlc) (by simp [madeCells]) (by
  rw [Oz,List.take_replicate,List.length_replicate,AD hlc]
  exact EV (RV.ofVal z) l)
 rw [List.length_replicate] at j1 j2
 exact ⟨_,_,G,hK _,(hF.mono (j2.agree hh)).put (UB hd) .val,j1,j2⟩
end
section
variable {P:Program} {n:Nat} {ops:Array Oper} {B:Fr->List Res->Prop} {k:Nat} {F:Fr} {h h2:List Res}
variable {T:List (Nat × List Nat)} {fuel fuel':Nat} {done:List Nat}
theorem Z8p {K:Fr->List Res->Prop} {ls:List AV} {len:Nat} (hd:V7 n (Zj ops k)=true) (ha:Q0 P ops F k=some (ls,len,1)) (hlen:ls.length=len)
  (hK:∀v,K (F.put (Zj ops k).dst (.val v)) (.vec v ls::h)):XU P n (Zj ops k) F h K:=by
 unfold Q0 at ha
 generalize hoo:Zj ops k=q at ha hd hK
 obtain ⟨dst,op,type,pos,after,guard⟩:=q
 cases op<;>simp only at ha<;>try (cases ha)
 rename_i t ln parts
 split at ha
 case h_2=>cases ha
 rename_i e ht
 split at ha
 case h_2=>cases ha
 rename_i i hi
 split at ha
 case h_2=>cases ha
 rename_i hc
 simp only [Xs] at hc
 split at ha
 case h_2=>cases ha
 rename_i ls' hf
 simp only [Xo,Prod.mk.injEq] at ha
 obtain ⟨rfl,rfl,YD⟩:=ha
 subst hlen
 intro Q w G a hF hh
 obtain ⟨cs,h1,h2⟩:=Ig hF parts ht hi rfl hc.1 hc.2 hf
 have hr:(execOp a.eval { dst:=dst,op:=.buildSlice t ls'.length parts,type:=type,pos:=pos,after:=after,guard:=guard }).run P w =
   .ok (.value (.slice (some ⟨w.heap.size,0,none⟩) ls'.length ls'.length)) (w.alloc (.cells cs e)):=by
  simp only [execOp]
  exact Vd h2
 unfold Oper.wp
 rw [hr]
 have hlc:=h1.length
 simp only [KP] at hlc
 obtain ⟨j1,j2⟩:=hh.alloc_vec cs e (ls:=ls') (cap:=ls'.length) (YX _) hlc (by rw [<-hlc];simpa [W2] using h1)
 exact ⟨_,_,G,hK _,(hF.mono (j2.agree hh)).put (UB hd) .val,j1,j2⟩
theorem Z4m (ls:List AV) {len:Nat} (hk:YE n ops F k=true) (ha:Q0 P ops F k=some (ls,len,1)) (hlen:ls.length=len)
  (hK:∀v,SI P n ops B (k+1) (F.put (Zj ops k).dst (.val v)) (.vec v ls::h)):SI P n ops B k F h:=
 Uq hk (Z8p (VL hk).2.1 ha hlen hK)
theorem Z4s (j:Nat) {v:Value} {ls:List AV} {i:Nat} {y:AV} (ls':List AV) (hk:YE n ops F k=true) (hs:storeAt P ops F k=some (Z3 v,i,[y])) (hp:Ut [j] h=some ([.vec v ls],h2))
  (hlt:i<ls.length) (he:ls.set i y=ls') (H:SI P n ops B (k+1) F (.vec v ls'::h2)):SI P n ops B k F h:=
 Uq hk (XU.perm (Ue hp) (P5 hs hlt (by rw [he];exact H)))
theorem Z21 (i j:Nat) (js bs:List Nat) {v:Value} {ls:List AV} {q:Nat} {y:AV} (ls':List AV) (hk:YE n ops F i=true) (hs:storeAt P ops F i=some (Z3 v,q,[y]))
  (hp:Ut [j] h=some ([.vec v ls],h2)) (hlt:q<ls.length) (he:ls.set q y=ls') (ho:Us ops i T=bs) (hj:js.map (fun j=>(WD h2)[j]?)=bs.map some)
  (H:Yu P n ops B (T.filter fun t=>!V6 ops i t.1) fuel (done++[i]) F (.vec v ls'::h2)):VC P n ops B T fuel done F h i:=
 KX [j] js bs hk hp ho hj (P5 (h2:=[]) hs hlt (by rw [he];exact H))
theorem Z4q (j:Nat) (ls':List AV) {v:Value} {ls xs:List AV} {hx:Option Value} (hk:YE n ops F k=true) (ha:QB P ops F k=some (.val v,.sl xs hx,1)) (hp:Ut [j] h=some ([.vec v ls],h2))
  (hxs:∀y∈xs,y.leaves=[y]) (hone:xs.all AV.one=true) (hbound:ls.length+xs.length<=1099511627776) (he:ls++xs=ls')
  (hK:∀v',SI P n ops B (k+1) (F.put (Zj ops k).dst (.val v')) (.vec v' ls'::h2)):SI P n ops B k F h:=
 Uq hk (XU.perm (Ue hp) (Z8y (VL hk).2.1 ha hxs hone hbound fun v'=>by rw [he];exact hK v'))
theorem Z4r (ls:List AV) {l c:Nat} {zv:AV} (hk:YE n ops F k=true) (hm:JE P ops F k=some ((l:Int),(c:Int),zv)) (hlc:l<=c) (hc:c<=4294967296) (he:List.replicate l zv=ls)
  (hK:∀v,SI P n ops B (k+1) (F.put (Zj ops k).dst (.val v)) (.vec v ls::h)):SI P n ops B k F h:=
 Uq hk (Z8z (VL hk).2.1 hm hlc hc fun v=>by rw [he];exact hK v)
theorem Z4i (f:FuncId) (as1 xs:List AV) (is:List Nat) {h1:List Res} (bs:List Res) {R:AV->List Res->Prop} (hk:YE n ops F k=true) (hc:QZ P ops F k=some (f,as1))
  (hp:Ut is h=some (h1++bs,h2)) (H:Wg P f xs h1 R) (hargs:Ui bs as1 xs) (hb:∀r∈bs,∃v ls,r=.vec v ls/\∀y∈ls,∃u,y=.val u)
  (hclean:∀r h',R r h'->Q7 h' r/\∀q∈h',JS q)
  (hK:∀r h',R r h'->SI P n ops B (k+1) (F.put (Zj ops k).dst r) (h'++bs++h2)):SI P n ops B k F h:=
 Uq hk (ES (VL hk).2.1 hc (Ue hp) (H.lend bs hargs hb hclean) fun r h' ⟨h1',hr,he⟩=>by rw [he];exact hK r h1' hr)
theorem Z1s (i:Nat) (f:FuncId) (as1 xs:List AV) (is js ks:List Nat) {h1:List Res} (bs:List Res) {R:AV->List Res->Prop} (hk:YE n ops F i=true) (hc:QZ P ops F i=some (f,as1))
  (hp:Ut is h=some (h1++bs,h2)) (ho:Us ops i T=ks) (hj:js.map (fun j=>(WD h2)[j]?)=ks.map some)
  (H:Wg P f xs h1 R) (hargs:Ui bs as1 xs) (hb:∀r∈bs,∃v ls,r=.vec v ls/\∀y∈ls,∃u,y=.val u)
  (hclean:∀r h',R r h'->Q7 h' r/\∀q∈h',JS q)
  (hK:∀r h',R r h'->Yu P n ops B (T.filter fun t=>!V6 ops i t.1) fuel (done++[i]) (F.put (Zj ops i).dst r) (h'++bs++h2)):VC P n ops B T fuel done F h i:=
 KX is js ks hk hp ho hj (ES (h2:=[]) (VL hk).2.1 hc (by simp) (H.lend bs hargs hb hclean) fun r h' ⟨h1',hr,he⟩=>by rw [he];simpa using hK r h1' hr)
def Q9 (h h':List Res):Prop:=∀w G,ZW w G h->∃G',ZW w G' h'/\Yr w G h w G' h'
theorem T4 {h':List Res} (ht:Q9 h h') (H:SI P n ops B k F h'):SI P n ops B k F h:=by
 intro Q w G a hF hh hk
 obtain ⟨G',h1,h2⟩:=ht w G hh
 exact H Q w G' a (hF.mono (h2.agree hh)) h1 fun F2 h2' G2 a2 w2 b1 b2 b3 b4=>hk F2 h2' G2 a2 w2 b1 b2 b3 (h2.trans b4)
theorem Wl {c:Code} {A:Wz} {h':List Res} (ht:Q9 h h') (H:ZY P n c A F h'):ZY P n c A F h:=by
 intro w G a hF hh
 obtain ⟨G',h1,h2⟩:=ht w G hh
 exact wp_mono (H w G' a (hF.mono (h2.agree hh)) h1) fun e a' w' hc=>hc.trans h2
theorem Zdo:Q9 h (.vec (.slice none 0 0) []::h):=fun _ _ hh=>let ⟨a,b⟩:=Ze0 hh;⟨_,a,b⟩
theorem Zdp (j m:Nat) {v:Value} {ls:List AV} (hp:Ut [j] h=some ([.vec v ls],h2)) (hle:m<=ls.length):Q9 h (.vec (J8 v m) (ls.take m)::h2):=by
 intro w G hh
 have hp':=Ue hp
 obtain ⟨a,b⟩:=Ze1 (hh.perm hp') hle
 exact ⟨G,a,b.perm hp'.symm (Km _)⟩
end
theorem Fp (xs:LI):∀y∈Zi xs,∃u,y=AV.val u:=by intro y hy;simp only [Zi,Xb] at hy;obtain ⟨x,_,rfl⟩:=hy;exact ⟨_,rfl⟩
theorem Of (xs:LI):∀y∈Zi xs,y.leaves=[y]:=by intro y hy;simp only [Zi,Xb] at hy;obtain ⟨x,_,rfl⟩:=hy;rfl
theorem Z8g (xs:LI):(Zi xs).all AV.one=true:=by rw [Be];intro y hy;simp only [Zi,Xb] at hy;obtain ⟨x,_,rfl⟩:=hy;rfl
theorem PM (xs:LI) (i:Nat) (x:Int):(Zi xs).set i (.i x)=Zi (xs.set i x):=by simp [Zi,List.map_set]
theorem VQ:∀r∈([]:List Res),∃v ls,r=Res.vec v ls/\∀y∈ls,∃u,y=AV.val u:=by simp
theorem Vk {v:Value} {xs:LI} {bs:List Res} (h:∀r∈bs,∃v ls,r=Res.vec v ls/\∀y∈ls,∃u,y=AV.val u) :
  ∀r∈Res.vec v (Zi xs)::bs,∃v ls,r=Res.vec v ls/\∀y∈ls,∃u,y=AV.val u:=by
 intro r hr
 rcases Yw.1 hr with rfl|hr
 ·exact ⟨_,_,rfl,Fp xs⟩
 ·exact h r hr
section
variable {P:Program} {n:Nat} {c:Code} {A:Wz} {F:Fr} {h:List Res}
@[reducible] def DW (K:Fr->List Res->Prop) (A:Wz):Wz:=fun e F h=>
 match e with
 | .normal=>∃F' h',K F' h'/\UY F h F' h'
 | e=>A e F h
theorem Sd {y:Code} (K:Fr->List Res->Prop) (H:ZY P n c (DW K A) F h) (hB:∀F' h',K F' h'->ZY P n y A F' h'):ZY P n c (Ay P n y A) F h:=by
 refine Lg (fun e F1 h1 hq=>?_) H
 cases e with
 | normal=>obtain ⟨F',h',k1,k2⟩:=hq;exact AG k2 (hB F' h' k1)
 | exit id=>exact hq
 | goto l=>exact hq
 | ret=>exact hq
 | panic ch=>exact hq
 | outgrown=>exact hq
theorem Yb {ops:Array Oper} {B:Fr->List Res->Prop} {k:Nat} {F2:Fr} {h2:List Res} (hw:UY F h F2 h2) (J:SI P n ops B k F2 h2):SI P n ops B k F h:=F4 hw J
theorem Sc {y:Code} {A2:Wz} (K:Fr->List Res->Prop) (hA:∀F h,A .normal F h=ZY P n y A2 F h) (H:ZY P n c (DW K A) F h) (hB:∀F' h',K F' h'->ZY P n y A2 F' h'):ZY P n c A F h:=by
 refine Lg (fun e F1 h1 hq=>?_) H
 cases e with
 | normal=>obtain ⟨F',h',k1,k2⟩:=hq;rw [hA];exact AG k2 (hB F' h' k1)
 | exit id=>exact hq
 | goto l=>exact hq
 | ret=>exact hq
 | panic ch=>exact hq
 | outgrown=>exact hq
end
end Go.Abs
section
namespace Go.Abs
inductive Keep:Fr->Fr->Prop
 | z {F:Fr}:Keep F []
 | r {F:Fr}:Keep F F
 | k {F F':Fr} {x:Nat × AV} (h:Keep F F'):Keep (x::F) (x::F')
 | d {F F':Fr} {x:Nat × AV} (h:Keep F F'):Keep (x::F) F'
 | p {F F':Fr} {d:Option Tmp} {x:AV} (h:Keep F F'):Keep (F.put d x) F'
 | q {F F':Fr} {d:Option Tmp} {x:AV} (t:Nat) (h:Keep F F'):Keep (F.put d x) ((t,x)::F')
 | n {F F':Fr} (t:Nat) (x:AV) (h:Keep F F'):Keep F ((t,x)::F')
def XH (is:List Nat) (h:List Res):List Res:=((Ut is h).map (·.2)).getD []
def Wo (is:List Nat) (h:List Res):Option (List Res):=(Ut is h).map (·.1)
theorem Vp {is:List Nat} {h h1:List Res} (hp:Wo is h=some h1):Ut is h=some (h1,XH is h):=by
 unfold Wo at hp
 unfold XH
 cases hq:Ut is h with
 | none=>rw [hq] at hp;cases hp
 | some x=>rw [hq] at hp;cases hp;rfl
abbrev Ze (xs:LI):AV:=.sl (Zi xs) none
abbrev Ak (xs:List LI):AV:=.sl (Ub xs) none
abbrev JF (xs:List Xp):AV:=.sl (Wa xs) none
abbrev ZI (xs:List Zs):AV:=.sl (X1 xs) none
abbrev VR (xs:List Z8):AV:=.sl (Xj xs) none
abbrev KI (xs:List Zh):AV:=.sl (VG xs) none
abbrev BS (xs:List YB):AV:=.sl (UP xs) none
abbrev ZV (xs:LI) (v:Value):AV:=.sl (Zi xs) (some v)
abbrev CV (xs:List LI) (v:Value):AV:=.sl (Ub xs) (some v)
abbrev OS (xs:List Xp) (v:Value):AV:=.sl (Wa xs) (some v)
abbrev HS (xs:List Zs) (v:Value):AV:=.sl (X1 xs) (some v)
abbrev Kd (xs:List Z8) (v:Value):AV:=.sl (Xj xs) (some v)
abbrev HR (xs:List Zh) (v:Value):AV:=.sl (VG xs) (some v)
abbrev CW (xs:List YB) (v:Value):AV:=.sl (UP xs) (some v)
abbrev KH (c:Xp):List AV:=[Ze c.fields]
abbrev Uc (d:Zs):List AV:=[.i d.frm,.i d.to_,JF d.cons]
abbrev WO (s:Z8):List AV:=[.i s.op,.i s.num,.i s.into,Ze s.args,KI s.kids]
abbrev Vz (b:Zh):List AV:=[VR b.steps,.i b.result]
abbrev TH (r:YB):List AV:=[Ze r.params,Ze r.lent,.i r.result,VR r.body.steps,.i r.body.result]
abbrev W8 (n:Zl):List AV:=[ZI n.decls,BS n.routines]
abbrev OL:Value:=.slice none 0 0
structure Hd where
 a:Option Addr
 l:Nat
 c:Nat
abbrev Hd.v (g:Hd):Value:=.slice g.a g.l g.c
abbrev Hd.cut (g:Hd) (m:Nat):Hd:=⟨g.a,m,g.c⟩
abbrev hN:Hd:=⟨none,0,0⟩
abbrev AV.h (g:Hd):AV:=.val g.v
abbrev rV (g:Hd) (xs:LI):Res:=.vec g.v (Zi xs)
section
variable {P:Program} {n:Nat} {c:Code} {A:Wz} {F:Fr} {h:List Res} {ops:Array Oper} {B:Fr->List Res->Prop} {k:Nat}
variable {T:List (Nat × List Nat)} {fuel:Nat} {done:List Nat}
theorem aq (ha:ZY P n (Ye c) (Ay P n (VF c) A) F h) (hk:YK c=3:=by kernel_rfl):ZY P n c A F h:=FE hk ha
theorem ar (hs:SI P n (X9 (Ye c)) (fun F h=>ZY P n (VF c) A F h) 0 F h) (hk:YK c=3:=by kernel_rfl) (hk1:YK (Ye c)=1:=by kernel_rfl):ZY P n c A F h:=Si hk hk1 (Nz hs)
theorem az (hs:SI P n (X9 c) (A .normal) 0 F h) (hk:YK c=1:=by kernel_rfl):ZY P n c A F h:=Lh hk (Nz hs)
theorem aD (k:Nat) (hs:Yu P n (X9 (Ye c)) (fun F h=>ZY P n (VF c) A F h) [] k [] F h) (hk:YK c=3:=by kernel_rfl) (hk2:YK (Ye c)=2:=by kernel_rfl) (hm:P.follows .mixedOrders=true:=by kernel_rfl)
  (YD:(X9 (Ye c)).size=k:=by kernel_rfl):ZY P n c A F h:=Sj hk hk2 hm YD hs
theorem aE (k:Nat) (hs:Yu P n (X9 c) (A .normal) [] k [] F h) (hk:YK c=2:=by kernel_rfl) (hm:P.follows .mixedOrders=true:=by kernel_rfl)
  (YD:(X9 c).size=k:=by kernel_rfl):ZY P n c A F h:=Li hk hm YD hs
theorem ak (h0:A .normal F h) (hk:YK c=0:=by kernel_rfl):ZY P n c A F h:=Sn hk h0
theorem ax (id:Nat) (h0:A (.exit id) F h) (hk:YK c=7:=by kernel_rfl) (hi:QF c=id:=by kernel_rfl):ZY P n c A F h:=Se id hk hi h0
theorem ab (id:Nat) (ha:ZY P n (Ye c) (DH id A) F h) (hk:YK c=5:=by kernel_rfl) (hi:QF c=id:=by kernel_rfl):ZY P n c A F h:=Sb id hk hi ha
theorem ac (b:Bool) {p:Prop} (hp:b=true↔p) (h1:p->ZY P n (Ye c) A F h) (h2:¬p->ZY P n (VF c) A F h) (hk:YK c=4:=by kernel_rfl) (hc:F.ev (Jk c)=.val (.bool b):=by kernel_rfl) :
  ZY P n c A F h:=FD hk hc hp h1 h2
theorem W4 (h1:ZY P n (Ye c) A F h) (hk:YK c=4:=by kernel_rfl) (hc:F.ev (Jk c)=.val (.bool true):=by kernel_rfl):ZY P n c A F h:=
 FD (p:=True) hk hc (by simp) (fun _=>h1) (fun q=>absurd trivial q)
theorem XC (h1:ZY P n (VF c) A F h) (hk:YK c=4:=by kernel_rfl) (hc:F.ev (Jk c)=.val (.bool false):=by kernel_rfl):ZY P n c A F h:=
 FD (p:=False) hk hc (by simp) (fun q=>q.elim) (fun _=>h1)
theorem al (Inv:Nat->Fr->List Res->Prop) (m0:Nat) (F0:Fr) (h0:List Res) (hi:Inv m0 F0 h0) (hw:UY F h F0 h0)
  (hr:∀m F h,Inv m F h->ZY P n (Ye c) (HF Inv m A) F h) (hk:YK c=6:=by kernel_rfl):ZY P n c A F h:=Sh Inv hk hi hw hr
theorem wk {F':Fr} {h1 h':List Res} (is:List Nat) (hF:F.Le F') (e:h1=h':=by exact rfl) (hp:Wo is h=some h1:=by kernel_rfl):UY F h F' h':=e▸Ze5 is hF (Vp hp)
theorem fl {F F':Fr} (h:F'.map (fun p=>(F.get p.1).like p.2)=F'.map (·.2):=by kernel_rfl):F.Le F':=GW h
theorem fc {F F':Fr} {t:Nat} {x y:AV} (hxy:Zk x y) (hr:F.Le F') (hx:F.get t=x:=by kernel_rfl):F.Le ((t,y)::F'):=BD hx hxy hr
theorem lr (x:AV):Zk x x:=Zk.refl x
abbrev nl:AV:=.sl [] (some (.slice none 0 0))
theorem Keep.w {F F':Fr} {a b c d:Nat×AV} (h:Keep F F'):Keep (a::b::c::d::F) (a::b::c::d::F'):=.k (.k (.k (.k h)))
theorem dq {p:Prop} [Decidable p]:decide p=true↔p:=decide_eq_true_iff
theorem fr {F F':Fr} {t:Nat} {x:AV} (hr:F.Le F') (hx:F.get t=x:=by kernel_rfl):F.Le ((t,x)::F'):=fc (lr _) hr hx
theorem li {a b:Int} (h:a=b:=by exact ob):Zk (.i a) (.i b):=Zk.i h
theorem lb {a b:Bool} (h:a=b:=by exact ob):Zk (.b a) (.b b):=Zk.b h
theorem r1 {fn:Func} {R:AV->List Res->Prop} {e:Exit} {h1 h':List Res} {r:AV} (is:List Nat) (hR:R r h') (eq:h1=h':=by exact rfl) (he:(match e with|.normal|.ret=>true|_=>false)=true:=by kernel_rfl)
  (hr:Qn P F h fn.results.toList []=some ([r],[]):=by kernel_rfl) (hp:Wo is h=some h1:=by kernel_rfl):JW P fn R e F h:=
 I4 he [] hr (by simp) ⟨_,eq▸Ue (Vp hp)⟩ (Zk.refl _) hR
theorem r2 {fn:Func} {R:AV->List Res->Prop} {e:Exit} {h1 h':List Res} {r:AV} (is:List Nat) (xs:List AV) (hR:R r h') (hle:Zk (JI xs) r) (eq:h1=h':=by exact rfl) (he:(match e with|.normal|.ret=>true|_=>false)=true:=by kernel_rfl)
  (hr:Qn P F h fn.results.toList []=some (xs,[]):=by kernel_rfl) (hp:Wo is h=some h1:=by kernel_rfl):JW P fn R e F h:=
 I4 he [] hr (by simp) ⟨_,eq▸Ue (Vp hp)⟩ hle hR
theorem r3 {fn:Func} {R:AV->List Res->Prop} {e:Exit} {h1 h':List Res} {r:AV} (is:List Nat) (xs:List AV) (hints:List Nat) (es:List (Nat × Nat)) (hR:R r h') (hle:Zk (JI xs) r)
  (eq:h1=h':=by exact rfl) (he:(match e with|.normal|.ret=>true|_=>false)=true:=by kernel_rfl)
  (hr:Qn P F h fn.results.toList hints=some (xs,es):=by kernel_rfl) (hp:Wo is h=some h1:=by kernel_rfl) (hes:∀p∈es,p.1=p.2:=by simp):JW P fn R e F h:=
 I4 he hints hr hes ⟨_,eq▸Ue (Vp hp)⟩ hle hR
theorem ZG (h0:A .ret F h) (hk:YK c=8:=by kernel_rfl):ZY P n c A F h:=Sk hk h0
theorem ie (hB:B F h) (hk:Nat.ble ops.size k=true:=by kernel_rfl):SI P n ops B k F h:=Ny hk hB
theorem io (x':AV) (x:AV) (hx:Zk x x') (H:SI P n ops B (k+1) (F.put (Zj ops k).dst x') h) (hk:YE n ops F k=true:=by kernel_rfl) (he:TD P (Zj ops k) F h 0=some (x,[]):=by kernel_rfl):SI P n ops B k F h:=
 Z4n x' hk he hx H
theorem Zg {x:AV} (hs:X8 P (Zj ops k) F h [] x) (H:SI P n ops B (k+1) (F.put (Zj ops k).dst x) h) (hk:YE n ops F k=true:=by kernel_rfl):SI P n ops B k F h:=AW hk hs H
theorem ia (r s:Int) (H:SI P n ops B (k+1) (F.put (Zj ops k).dst (.i r)) h) (hb:-9223372036854775808<=r/\r<=9223372036854775807:=by omega) (hs:s=r:=by omega)
  (hk:YE n ops F k=true:=by kernel_rfl) (ha:KT ops F k=some s:=by kernel_rfl):SI P n ops B k F h:=Z4g r hk ha hs hb H
theorem ic (is:List Nat) {f:FuncId} {xs:List AV} {h1:List Res} {R:AV->List Res->Prop} (H:Wg P f xs h1 R)
  (hK:∀r h',R r h'->SI P n ops B (k+1) (F.put (Zj ops k).dst r) (h'++XH is h)) (hk:YE n ops F k=true:=by kernel_rfl) (hc:QZ P ops F k=some (f,xs):=by kernel_rfl)
  (hp:Wo is h=some h1:=by kernel_rfl):SI P n ops B k F h:=Z4h f xs is hk hc (Vp hp) H hK
theorem iA (ls:List AV) (hK:∀b,SI P n ops B (k+1) (F.put (Zj ops k).dst (.p b 0)) (.obj b ls::h)) (hk:YE n ops F k=true:=by kernel_rfl) (ha:Bl P ops F k=some ls:=by kernel_rfl):SI P n ops B k F h:=
 Z4e ls hk ha hK
theorem iS (j b o:Nat) (xs ls ls':List AV) (H:SI P n ops B (k+1) F (.obj b ls'::XH [j] h)) (hk:YE n ops F k=true:=by kernel_rfl) (hs:storeAt P ops F k=some (b,o,xs):=by kernel_rfl)
  (hp:Wo [j] h=some [.obj b ls]:=by kernel_rfl) (hle:Nat.ble (o+xs.length) ls.length=true:=by kernel_rfl) (he:ls.take o++xs++ls.drop (o+xs.length)=ls':=by kernel_rfl):SI P n ops B k F h:=
 Z4p j ls' hk hs (Vp hp) hle he H
theorem iL (es:List AV) (len sz:Nat) (hK:∀v,SI P n ops B (k+1) (F.put (Zj ops k).dst (.sl es (some v))) (.tail v sz::h)) (hk:YE n ops F k=true:=by kernel_rfl)
  (ha:Q0 P ops F k=some (Zu es,len,sz):=by kernel_rfl) (hlen:es.length=len:=by kernel_rfl) (hall:Jj es sz=true:=by kernel_rfl):SI P n ops B k F h:=Z4l es hk ha hlen hall hK
theorem ip (j:Nat) (es' es xs:List AV) (hv:Value) (hx:Option Value) (sz:Nat) (hes:∀y∈es,y.leaves.length=sz) (hxs:∀y∈xs,y.leaves.length=sz)
  (hone:(Zu xs).all AV.one=true) (hbound:es.length+xs.length<=1099511627776) (he:es++xs=es') (hK:∀v',SI P n ops B (k+1) (F.put (Zj ops k).dst (.sl es' (some v'))) (.tail v' sz::XH [j] h))
  (hk:YE n ops F k=true:=by kernel_rfl) (ha:QB P ops F k=some (.sl es (some hv),.sl xs hx,sz):=by kernel_rfl) (hp:Wo [j] h=some [.tail hv sz]:=by kernel_rfl):SI P n ops B k F h:=
 Z4f j es' hk ha (Vp hp) hes hxs hone hbound he hK
theorem ib {b:Bool} (t:Nat) (h1:b=true->SI P n ops B k ((t,.b true)::F) h) (h2:b=false->SI P n ops B k ((t,.b false)::F) h) (hF:F.get t=.b b:=by kernel_rfl):SI P n ops B k F h:=Z4o t hF h1 h2
theorem dT (m:Nat) (is:List Nat) (F':Fr) (hints bs:List Nat) (H:Yu P n ops B ((Al P n ops h is done F hints).reverse++T) fuel (done++is) F' h) (hf:m=fuel+is.length:=by kernel_rfl)
  (he:Ic P n ops h is done F hints F'=some (F'.map (·.2),bs,bs):=by kernel_rfl) (hs:Region.noSelect ops=true:=by kernel_rfl):Yu P n ops B T m done F h:=Z20 is F' hints bs hs he hf H
theorem de (hB:B F h) (hr:Region.ready .any ops (Wt ops done)=[]:=by kernel_rfl):Yu P n ops B T fuel done F h:=Z1u hr hB
theorem ZF (i:Nat) (H:VC P n ops B T fuel done F h i) (hr:Region.ready .any ops (Wt ops done)=[i]:=by kernel_rfl):Yu P n ops B T (fuel+1) done F h:=Z1x hr H
theorem dx (i:Nat) {x:AV} (hx:X8 P (Zj ops i) F h [] x) (H:Yu P n ops B ((i,[])::T) fuel (done++[i]) (F.put (Zj ops i).dst x) h) (hs:Region.noSelect ops=true:=by kernel_rfl) (hk:YE n ops F i=true:=by kernel_rfl)
  (hf:Region.free .any ops (Wt ops done) i=true:=by kernel_rfl) (hr:(Region.ready .any ops (Wt ops done)).contains i=true:=by kernel_rfl):Yu P n ops B T (fuel+1) done F h:=DZ i hs hk hf hr hx H
theorem dn (i:Nat) (x' x:AV) (hx:Zk x x') (H:Yu P n ops B ((i,[])::T) fuel (done++[i]) (F.put (Zj ops i).dst x') h) (he:TD P (Zj ops i) F h 0=some (x,[]):=by kernel_rfl) (hs:Region.noSelect ops=true:=by kernel_rfl) (hk:YE n ops F i=true:=by kernel_rfl)
  (hf:Region.free .any ops (Wt ops done) i=true:=by kernel_rfl) (hr:(Region.ready .any ops (Wt ops done)).contains i=true:=by kernel_rfl):Yu P n ops B T (fuel+1) done F h:=Z1w i x' hs hk hf hr he hx H
theorem da (i:Nat) (r s:Int) (H:Yu P n ops B ((i,[])::T) fuel (done++[i]) (F.put (Zj ops i).dst (.i r)) h) (hb:-9223372036854775808<=r/\r<=9223372036854775807:=by omega) (hse:s=r:=by omega)
  (ha:KT ops F i=some s:=by kernel_rfl) (hs:Region.noSelect ops=true:=by kernel_rfl) (hk:YE n ops F i=true:=by kernel_rfl)
  (hf:Region.free .any ops (Wt ops done) i=true:=by kernel_rfl) (hr:(Region.ready .any ops (Wt ops done)).contains i=true:=by kernel_rfl):Yu P n ops B T (fuel+1) done F h:=Z1q i r hs hk hf hr ha hse hb H
theorem dc (i:Nat) (is js bs:List Nat) {f:FuncId} {xs:List AV} {h1:List Res} {R:AV->List Res->Prop} (H:Wg P f xs h1 R)
  (hK:∀r h',R r h'->Yu P n ops B (T.filter fun t=>!V6 ops i t.1) fuel (done++[i]) (F.put (Zj ops i).dst r) (h'++XH is h))
  (hk:YE n ops F i=true:=by kernel_rfl) (hc:QZ P ops F i=some (f,xs):=by kernel_rfl)
  (hp:Wo is h=some h1:=by kernel_rfl) (ho:Us ops i T=bs:=by kernel_rfl) (hj:js.map (fun j=>(WD (XH is h))[j]?)=bs.map some:=by kernel_rfl):VC P n ops B T fuel done F h i:=
 Z1r i f xs is js bs hk hc (Vp hp) ho hj H hK
theorem dA (i:Nat) (js bs:List Nat) (ls:List AV) (hK:∀b,Yu P n ops B (T.filter fun t=>!V6 ops i t.1) fuel (done++[i]) (F.put (Zj ops i).dst (.p b 0)) (.obj b ls::h))
  (hk:YE n ops F i=true:=by kernel_rfl) (ha:Bl P ops F i=some ls:=by kernel_rfl) (ho:Us ops i T=bs:=by kernel_rfl) (hj:js.map (fun j=>(WD h)[j]?)=bs.map some:=by kernel_rfl):VC P n ops B T fuel done F h i:=
 Z1o i js bs ls hk ha ho hj hK
theorem dL (i:Nat) (js bs:List Nat) (es:List AV) (len sz:Nat) (hK:∀v,Yu P n ops B (T.filter fun t=>!V6 ops i t.1) fuel (done++[i]) (F.put (Zj ops i).dst (.sl es (some v))) (.tail v sz::h))
  (hk:YE n ops F i=true:=by kernel_rfl) (ha:Q0 P ops F i=some (Zu es,len,sz):=by kernel_rfl) (hlen:es.length=len:=by kernel_rfl) (hall:Jj es sz=true:=by kernel_rfl)
  (ho:Us ops i T=bs:=by kernel_rfl) (hj:js.map (fun j=>(WD h)[j]?)=bs.map some:=by kernel_rfl):VC P n ops B T fuel done F h i:=
 Z1v i js bs es hk ha hlen hall ho hj hK
theorem dp (i j:Nat) (js bs:List Nat) (es' es xs:List AV) (hv:Value) (hx:Option Value) (sz:Nat) (hes:∀y∈es,y.leaves.length=sz) (hxs:∀y∈xs,y.leaves.length=sz)
  (hone:(Zu xs).all AV.one=true) (hbound:es.length+xs.length<=1099511627776) (he:es++xs=es')
  (hK:∀v',Yu P n ops B (T.filter fun t=>!V6 ops i t.1) fuel (done++[i]) (F.put (Zj ops i).dst (.sl es' (some v'))) (.tail v' sz::XH [j] h))
  (hk:YE n ops F i=true:=by kernel_rfl) (ha:QB P ops F i=some (.sl es (some hv),.sl xs hx,sz):=by kernel_rfl) (hp:Wo [j] h=some [.tail hv sz]:=by kernel_rfl)
  (ho:Us ops i T=bs:=by kernel_rfl) (hj:js.map (fun q=>(WD (XH [j] h))[q]?)=bs.map some:=by kernel_rfl):VC P n ops B T fuel done F h i:=
 Z1p i j js bs es' hk ha (Vp hp) hes hxs hone hbound he ho hj hK
theorem dS (i j:Nat) (js bs:List Nat) (b o:Nat) (xs ls ls':List AV) (H:Yu P n ops B (T.filter fun t=>!V6 ops i t.1) fuel (done++[i]) F (.obj b ls'::XH [j] h))
  (hk:YE n ops F i=true:=by kernel_rfl) (hs:storeAt P ops F i=some (b,o,xs):=by kernel_rfl)
  (hp:Wo [j] h=some [.obj b ls]:=by kernel_rfl) (hle:Nat.ble (o+xs.length) ls.length=true:=by kernel_rfl) (he:ls.take o++xs++ls.drop (o+xs.length)=ls':=by kernel_rfl) (ho:Us ops i T=bs:=by kernel_rfl)
  (hj:js.map (fun q=>(WD (XH [j] h))[q]?)=bs.map some:=by kernel_rfl):VC P n ops B T fuel done F h i:=
 Z1z i j js bs ls' hk hs (Vp hp) hle he ho hj H
theorem db {b:Bool} (t:Nat) (h1:b=true->Yu P n ops B T fuel done ((t,.b true)::F) h) (h2:b=false->Yu P n ops B T fuel done ((t,.b false)::F) h) (hF:F.get t=.b b:=by kernel_rfl):Yu P n ops B T fuel done F h:=Z1y t hF h1 h2
theorem rz:([]:List Res)=[]:=rfl
theorem rc {x:Res} {t t':List Res} (e:t=t'):x::t=x::t':=e▸rfl
theorem rv {g:Hd} {xs xs':LI} {t t':List Res} (h:xs=xs') (e:t=t'):rV g xs::t=rV g xs'::t':=h▸e▸rfl
theorem F7 {v:Value} {ls:List AV} (H:∀g:Hd,v=g.v->SI P n ops B k F (.vec v ls::h)):SI P n ops B k F (.vec v ls::h):=by
 intro Q w G a hF hh
 obtain ⟨a',cap,rfl⟩:=JY.form (hh.ok _ (YV ..))
 exact H ⟨a',_,cap⟩ rfl Q w G a hF hh
theorem X8.le {o:Oper} {x y:AV} {ks:List Nat} (hs:X8 P o F h ks x) (hx:Zk x y):X8 P o F h ks y:=by
 intro n w G a hF hh
 obtain ⟨v,h1,h2⟩:=hs n w G a hF hh
 exact ⟨v,hx _ _ _ h1,h2⟩
theorem KN (j:Nat) (v:Hd) (xs:LI) (hl:JC P ops F k=some (.h v):=by kernel_rfl) (hj:h[j]? = some (rV v xs):=by kernel_rfl):X8 P (Zj ops k) F h [] (.i xs.length):=by
 have:=Zco (P:=P) (F:=F) j hl hj
 rwa [Yk] at this
theorem XB (j:Nat) (v:Hd) (xs:LI) (i:Int) (q:Nat) (h0:0<=i/\i<xs.length:=by omega) (hq:i.toNat=q:=by omega) (hi:Jz P ops F k=some (.h v,i,1):=by kernel_rfl) (hj:h[j]? = some (rV v xs):=by kernel_rfl) :
  X8 P (Zj ops k) F h [] (.val (.pointer (some ⟨Z3 v.v,q,none⟩))):=by
 have:=Zcn (P:=P) (F:=F) j hi hj h0.1 (by rw [Yk];exact h0.2)
 rwa [hq] at this
theorem WQ (j:Nat) (v:Hd) (xs:LI) (q:Nat) (y:Int) (hy:xs[q]? = some y) (hl:CQ P ops F k=some (.val (.pointer (some ⟨Z3 v.v,q,none⟩))):=by kernel_rfl) (hj:h[j]? = some (rV v xs):=by kernel_rfl) :
  X8 P (Zj ops k) F h [Z3 v.v] (.i y):=Zcp (P:=P) (F:=F) j hl hj (Yc hy)
theorem Xu {ks:List Nat} {x:AV} (hs:X8 P (Zj ops k) F h ks x) (H:SI P n ops B (k+1) (F.put (Zj ops k).dst x) h) (hk:YE n ops F k=true:=by kernel_rfl):SI P n ops B k F h:=AW hk hs H
theorem Qh (i:Nat) {ks:List Nat} {x:AV} (hx:X8 P (Zj ops i) F h ks x) (H:Yu P n ops B ((i,ks)::T) fuel (done++[i]) (F.put (Zj ops i).dst x) h) (hs:Region.noSelect ops=true:=by kernel_rfl) (hk:YE n ops F i=true:=by kernel_rfl)
  (hf:Region.free .any ops (Wt ops done) i=true:=by kernel_rfl) (hr:(Region.ready .any ops (Wt ops done)).contains i=true:=by kernel_rfl):Yu P n ops B T (fuel+1) done F h:=DZ i hs hk hf hr hx H
theorem Qr (j:Nat) (v:Hd) (xs:LI) (m:Nat) (hle:m<=xs.length:=by omega) (hi:IC P ops F k=some (.h v,(m:Int)):=by kernel_rfl) (hj:h[j]? = some (rV v xs):=by kernel_rfl) :
  X8 P (Zj ops k) F h [] (.h (v.cut m)):=Zcq (P:=P) (F:=F) j hi hj (by rw [Yk];exact hle)
theorem BL (j:Nat) (v:Hd) (xs:LI) (q:Nat) (y:Int) (H:SI P n ops B (k+1) F (rV v (xs.set q y)::XH [j] h)) (hlt:q<xs.length:=by omega) (hk:YE n ops F k=true:=by kernel_rfl)
  (hs:storeAt P ops F k=some (Z3 v.v,q,[.i y]):=by kernel_rfl) (hp:Wo [j] h=some [rV v xs]:=by kernel_rfl):SI P n ops B k F h:=
 Z4s j _ hk hs (Vp hp) (by rw [Yk];exact hlt) (PM _ _ _) H
theorem Jn (i j:Nat) (js bs:List Nat) (v:Hd) (xs:LI) (q:Nat) (y:Int) (H:Yu P n ops B (T.filter fun t=>!V6 ops i t.1) fuel (done++[i]) F (rV v (xs.set q y)::XH [j] h)) (hlt:q<xs.length:=by omega)
  (hk:YE n ops F i=true:=by kernel_rfl)
  (hs:storeAt P ops F i=some (Z3 v.v,q,[.i y]):=by kernel_rfl) (hp:Wo [j] h=some [rV v xs]:=by kernel_rfl) (ho:Us ops i T=bs:=by kernel_rfl)
  (hj:js.map (fun q=>(WD (XH [j] h))[q]?)=bs.map some:=by kernel_rfl):VC P n ops B T fuel done F h i:=
 Z21 i j js bs _ hk hs (Vp hp) (by rw [Yk];exact hlt) (PM _ _ _) ho hj H
theorem K9 (j:Nat) (v:Hd) (xs ys:LI) (hx:Option Value) (hK:∀v',SI P n ops B (k+1) (F.put (Zj ops k).dst (.h v')) (rV v' (xs++ys)::XH [j] h)) (hbound:xs.length+ys.length<=1099511627776:=by simp<;>omega)
  (hk:YE n ops F k=true:=by kernel_rfl) (ha:QB P ops F k=some (.h v,.sl (Zi ys) hx,1):=by kernel_rfl) (hp:Wo [j] h=some [rV v xs]:=by kernel_rfl):SI P n ops B k F h:=
 Z4q j _ hk ha (Vp hp) (Of _) (Z8g _) (by simpa using hbound) (TX _ _).symm fun v'=>F7 fun g hg=>by subst hg;exact hK g
theorem He (xs:LI) (len:Nat) (hK:∀v,SI P n ops B (k+1) (F.put (Zj ops k).dst (.h v)) (rV v xs::h)) (hk:YE n ops F k=true:=by kernel_rfl) (ha:Q0 P ops F k=some (Zi xs,len,1):=by kernel_rfl)
  (hlen:xs.length=len:=by kernel_rfl):SI P n ops B k F h:=Z4m _ hk ha (by rw [Yk];exact hlen) fun v'=>F7 fun g hg=>by subst hg;exact hK g
def Bk (R:AV->List Res->Prop):Prop:=∀r h',R r h'->Q7 h' r/\∀q∈h',JS q
theorem A3 {x:Value}:Bk fun r h=>r=.val x/\h=[]:=by rintro _ _ ⟨rfl,rfl⟩;exact ⟨.val,by simp⟩
theorem QG {xs:LI}:Bk fun r h=>∃v:Hd,r=.h v/\h=[rV v xs]:=by
 rintro _ _ ⟨v,rfl,rfl⟩;exact ⟨.val,by simpa [JS] using Fp xs⟩
theorem Nw (is:List Nat) {f:FuncId} {as1 xs:List AV} {h1:List Res} (bs:List Res) {R:AV->List Res->Prop} (H:Wg P f xs h1 R) (hcl:Bk R) (hargs:Ui bs as1 xs)
  (hb:∀r∈bs,∃v ls,r=.vec v ls/\∀y∈ls,∃u,y=.val u)
  (hK:∀r h',R r h'->SI P n ops B (k+1) (F.put (Zj ops k).dst r) (h'++(bs++XH is h))) (hk:YE n ops F k=true:=by kernel_rfl) (hc:QZ P ops F k=some (f,as1):=by kernel_rfl)
  (hp:Wo is h=some (h1++bs):=by kernel_rfl):SI P n ops B k F h:=
 Z4i f as1 xs is bs hk hc (Vp hp) H hargs hb hcl fun r h' hr=>by rw [VW];exact hK r h' hr
theorem U9 (i:Nat) (is js ks:List Nat) {f:FuncId} {as1 xs:List AV} {h1:List Res} (bs:List Res) {R:AV->List Res->Prop} (H:Wg P f xs h1 R) (hcl:Bk R) (hargs:Ui bs as1 xs)
  (hb:∀r∈bs,∃v ls,r=.vec v ls/\∀y∈ls,∃u,y=.val u)
  (hK:∀r h',R r h'->Yu P n ops B (T.filter fun t=>!V6 ops i t.1) fuel (done++[i]) (F.put (Zj ops i).dst r) (h'++(bs++XH is h)))
  (hk:YE n ops F i=true:=by kernel_rfl) (hc:QZ P ops F i=some (f,as1):=by kernel_rfl)
  (hp:Wo is h=some (h1++bs):=by kernel_rfl) (ho:Us ops i T=ks:=by kernel_rfl) (hj:js.map (fun j=>(WD (XH is h))[j]?)=ks.map some:=by kernel_rfl):VC P n ops B T fuel done F h i:=
 Z1s i f as1 xs is js ks bs hk hc (Vp hp) ho hj H hargs hb hcl fun r h' hr=>by rw [VW];exact hK r h' hr
theorem gN {bs:List Res}:Ui bs [] []:=.nil
theorem OD {bs:List Res} {r:Res} (i:Nat) (h:bs[i]? = some r):r∈bs:=YA h
theorem gS {bs:List Res} {x:AV} {as1 xs:List AV} (t:Ui bs as1 xs):Ui bs (x::as1) (x::xs):=.same t
theorem gL {bs:List Res} {v:Hd} {ys:LI} {as1 xs:List AV} (i:Nat) (t:Ui bs as1 xs) (h:bs[i]? = some (rV v ys):=by kernel_rfl):Ui bs (.h v::as1) (Ze ys::xs):=.lent (OD i h) t
theorem gC {bs:List Res} {v:Hd} {ys:LI} {as1 xs:List AV} (i m:Nat) (t:Ui bs as1 xs) (hm:m<=ys.length:=by omega) (h:bs[i]? = some (rV v ys):=by kernel_rfl) :
  Ui bs (.h (v.cut m)::as1) (Ze (ys.take m)::xs):=by
 have:=Ui.cut (OD i h) (m:=m) (by rw [Yk];exact hm) t
 rwa [Kz] at this
theorem RJ (j:Nat) (b':Nat) (ls ls':List AV) (hle:VD ls ls') (hp:Wo [j] h=some [.obj b' ls]:=by kernel_rfl):Q9 h (.obj b' ls'::XH [j] h):=by
 intro w G hh
 have hp':=Ue (Vp hp)
 have hh':=hh.perm hp'
 have hpw:=Vm.1 hh'.apart
 refine ⟨G,⟨fun r hr=>?_,Vm.2 ⟨fun r hr=>hpw.1 r hr,hpw.2⟩,fun r hr=>?_,hh'.lt⟩,?_⟩
 ·rcases Yw.1 hr with rfl|hr
  ·obtain ⟨cs,e,h1,h2⟩:=hh'.ok _ (YV ..)
   exact ⟨cs,e,h1,VD.cs hle h2⟩
  ·exact hh'.ok r (Xv _ hr)
 ·rcases Yw.1 hr with rfl|hr
  ·exact fun b o hf hg=>hh'.prot (.obj b' ls) (YV ..) b o hf hg
  ·exact hh'.prot r (Xv _ hr)
 ·refine ⟨rfl,rfl,rfl,YX _,fun _ _ h=>h,fun _ _=>.inl rfl,fun _ _ _ h=>.inl h,?_⟩
  rintro b2 o _ ⟨r,hr,hf⟩
  rw [A7 hp']
  rcases Yw.1 hr with rfl|hr
  ·exact ⟨_,YV ..,hf⟩
  ·exact ⟨r,Xv _ hr,hf⟩
theorem Zk.hd {es:List AV} {v:Hd}:Zk (.sl es (some v.v)) (.h v):=by
 intro w G u h
 cases h with
 | nil hh=>rw [<-hh _ rfl];exact .val
 | sl hh _ _=>rw [<-hh _ rfl];exact .val
theorem B7 (j m:Nat) (v:Hd) (xs:LI) (hle:m<=xs.length:=by omega) (hp:Wo [j] h=some [rV v xs]:=by kernel_rfl):Q9 h (rV (v.cut m) (xs.take m)::XH [j] h):=by
 have:=Zdp (h:=h) j m (Vp hp) (by rw [Yk];exact hle)
 rwa [Kz] at this
theorem Ki:Q9 h (rV hN []::h):=Zdo
theorem Jo {h':List Res} (ht:Q9 h h') (H:Yu P n ops B T fuel done F h'):Yu P n ops B T fuel done F h:=by
 intro Q w G a SL hF hh hQ hcl hcov hk
 obtain ⟨G',h1,h2⟩:=ht w G hh
 exact H Q w G' a SL (hF.mono (h2.agree hh)) h1 hQ hcl (fun p hp=>let ⟨t,ht,e,f⟩:=hcov p hp;⟨t,ht,e,fun w' hw hb=>f w' (fun b o hg=>hw b o (h2.sub b o hg)) hb⟩)
  fun F2 h2' G2 a2 w2 b1 b2 b3 b4=>hk F2 h2' G2 a2 w2 b1 b2 b3 (h2.trans b4)
end
end Go.Abs
namespace Go.Abs
section
variable {P:Program} {n:Nat} {ops:Array Oper} {B:Fr->List Res->Prop} {k:Nat} {F:Fr} {h:List Res}
variable {T:List (Nat × List Nat)} {fuel:Nat} {done:List Nat} {c:Code} {A:Wz}
def qF (P:Program) (n:Nat) (ops:Array Oper) (h:List Res) (k m:Nat) (F:Fr) (hints:List Nat):Fr:=
 match Q3 P n ops h m (ops.toList.drop k) F hints with|some (_,F1,_)=>F1|none=>F
def qA (P:Program) (n:Nat) (ops:Array Oper) (h:List Res) (k m:Nat) (F:Fr) (hints:List Nat):List Nat:=
 match Q3 P n ops h m (ops.toList.drop k) F hints with|some (_,_,es)=>es.map (·.1)|none=>[0]
def qB (P:Program) (n:Nat) (ops:Array Oper) (h:List Res) (k m:Nat) (F:Fr) (hints:List Nat):List Nat:=
 match Q3 P n ops h m (ops.toList.drop k) F hints with|some (_,_,es)=>es.map (·.2)|none=>[1]
theorem Y3 (m:Nat) (hints:List Nat) (H:SI P n ops B (k+m) (qF P n ops h k m F hints) h) (he:qA P n ops h k m F hints=qB P n ops h k m F hints:=by kernel_rfl):SI P n ops B k F h:=by
 unfold qA qB at he
 unfold qF at H
 cases hr:Q3 P n ops h m (ops.toList.drop k) F hints with
 | none=>rw [hr] at he;cases he
 | some y=>
  obtain ⟨l,F1,es⟩:=y
  rw [hr] at he H
  have hd:=If m hr
  rw [List.drop_drop] at hd
  refine Ij m hr (HW he) ?_
  rw [hd]
  exact H
theorem Z1 (m:Nat) (H:SI P n ops B (k+m) (qF P n ops h k m F []) h) (he:qA P n ops h k m F []=qB P n ops h k m F []:=by kernel_rfl):SI P n ops B k F h:=Y3 m [] H he
theorem Vq (hints:List Nat) (H:B (qF P n ops h k (ops.size-k) F hints) h) (he:qA P n ops h k (ops.size-k) F hints=qB P n ops h k (ops.size-k) F hints:=by kernel_rfl):SI P n ops B k F h:=
 Y3 (ops.size-k) hints (Ny (Nat.ble_eq_true_of_le om) H) he
theorem Z0 (H:B (qF P n ops h k (ops.size-k) F []) h) (he:qA P n ops h k (ops.size-k) F []=qB P n ops h k (ops.size-k) F []:=by kernel_rfl):SI P n ops B k F h:=Vq [] H he
def B2 (P:Program) (n:Nat) (ops:Array Oper) (h:List Res) (is done:List Nat) (F:Fr) (hints:List Nat):Fr:=
 match Qo P n ops h is done F hints with|some (F1,_)=>F1|none=>F
def D4 (P:Program) (n:Nat) (ops:Array Oper) (h:List Res) (is done:List Nat) (F:Fr) (hints:List Nat):List Nat:=
 match Qo P n ops h is done F hints with|some (_,es)=>es.flatMap (fun e=>e.2.map (·.1))|none=>[0]
def D5 (P:Program) (n:Nat) (ops:Array Oper) (h:List Res) (is done:List Nat) (F:Fr) (hints:List Nat):List Nat:=
 match Qo P n ops h is done F hints with|some (_,es)=>es.flatMap (fun e=>e.2.map (·.2))|none=>[1]
theorem Y7 (f m:Nat) (is:List Nat) (hints:List Nat) (H:Yu P n ops B ((Al P n ops h is done F hints).reverse++T) f (done++is) (B2 P n ops h is done F hints) h) (hf:m=f+is.length:=by kernel_rfl)
  (he:D4 P n ops h is done F hints=D5 P n ops h is done F hints:=by kernel_rfl) (hs:Region.noSelect ops=true:=by kernel_rfl):Yu P n ops B T m done F h:=by
 unfold D4 D5 at he
 unfold Al B2 at H
 cases hr:Qo P n ops h is done F hints with
 | none=>rw [hr] at he;cases he
 | some y=>
  obtain ⟨F1,es⟩:=y
  rw [hr] at he H
  exact DY is hs hr (HX he) hf H
theorem Zm (f m:Nat) (is:List Nat) (H:Yu P n ops B ((Al P n ops h is done F []).reverse++T) f (done++is) (B2 P n ops h is done F []) h) (hf:m=f+is.length:=by kernel_rfl)
  (he:D4 P n ops h is done F []=D5 P n ops h is done F []:=by kernel_rfl) (hs:Region.noSelect ops=true:=by kernel_rfl):Yu P n ops B T m done F h:=Y7 f m is [] H hf he hs
def D1 (ov F:Fr):Fr:=ov++F
theorem GX {F':Fr} (hr:F.Le F'):∀(ov:Fr),ov.map (fun p=>(F.get p.1).like p.2)=ov.map (·.2)->F.Le (D1 ov F')
 | [],_=>hr
 | (t,y)::ov,he=>by
  simp only [Ww,List.cons.injEq] at he
  have h1:F.Le [(t,y)]:=GW (by simp [he.1])
  intro w G v s hv
  have h2:=h1 w G v s hv
  have h3:=GX hr ov he.2 w G v s hv
  show RV w G (match Nat.beq t s with|true=>y|false=>Fr.get (ov++F') s) v
  change RV w G (match Nat.beq t s with|true=>y|false=>Fr.get [] s) v at h2
  cases hq:Nat.beq t s with
  | true=>rw [hq] at h2;exact h2
  | false=>exact h3
theorem Ie (m:Nat) (ov:Fr) (hints:List Nat) (H:SI P n ops B (k+m) (D1 ov (qF P n ops h k m F hints)) h) (he:qA P n ops h k m F hints=qB P n ops h k m F hints:=by kernel_rfl)
  (ho:ov.map (fun p=>((qF P n ops h k m F hints).get p.1).like p.2)=ov.map (·.2):=by kernel_rfl):SI P n ops B k F h:=
 Y3 m hints (F4 (h':=h) ⟨GX (Fr.Le.refl _) ov ho,[],by simp⟩ H) he
theorem XX (m:Nat) (ov:Fr) (H:SI P n ops B (k+m) (D1 ov (qF P n ops h k m F [])) h) (he:qA P n ops h k m F []=qB P n ops h k m F []:=by kernel_rfl)
  (ho:ov.map (fun p=>((qF P n ops h k m F []).get p.1).like p.2)=ov.map (·.2):=by kernel_rfl):SI P n ops B k F h:=Ie m ov [] H he ho
theorem Gs (f m:Nat) (is:List Nat) (ov:Fr) (hints:List Nat) (H:Yu P n ops B ((Al P n ops h is done F hints).reverse++T) f (done++is) (D1 ov (B2 P n ops h is done F hints)) h) (hf:m=f+is.length:=by kernel_rfl)
  (he:D4 P n ops h is done F hints=D5 P n ops h is done F hints:=by kernel_rfl) (hs:Region.noSelect ops=true:=by kernel_rfl)
  (ho:ov.map (fun p=>((B2 P n ops h is done F hints).get p.1).like p.2)=ov.map (·.2):=by kernel_rfl):Yu P n ops B T m done F h:=
 Y7 f m is hints (E0 (GX (Fr.Le.refl _) ov ho) H) hf he hs
theorem UN (f m:Nat) (is:List Nat) (ov:Fr) (H:Yu P n ops B ((Al P n ops h is done F []).reverse++T) f (done++is) (D1 ov (B2 P n ops h is done F [])) h) (hf:m=f+is.length:=by kernel_rfl)
  (he:D4 P n ops h is done F []=D5 P n ops h is done F []:=by kernel_rfl) (hs:Region.noSelect ops=true:=by kernel_rfl)
  (ho:ov.map (fun p=>((B2 P n ops h is done F []).get p.1).like p.2)=ov.map (·.2):=by kernel_rfl):Yu P n ops B T m done F h:=Gs f m is ov [] H hf he hs ho
def sF (ts:List Nat) (F ov:Fr):Fr:=ov++ts.map (fun t=>(t,F.get t))
def Zy (h:List Res) (i:Nat):Res:=match h[i]? with|some r=>r|none=>.tail OL 0
theorem ZR (Inv:Fr->List Res->Nat->Fr->List Res->Prop) (m0:Nat) (F0:Fr) (h0:List Res) (hi:Inv F h m0 F0 h0) (hw:UY F h F0 h0)
  (hr:∀m F' h',Inv F h m F' h'->ZY P n (Ye c) (HF (Inv F h) m A) F' h') (hk:YK c=6:=by kernel_rfl):ZY P n c A F h:=al (Inv F h) m0 F0 h0 hi hw hr hk
theorem Tz {y:Code} (K:Fr->List Res->Fr->List Res->Prop) (H:ZY P n c (DW (K F h) A) F h) (hB:∀F' h',K F h F' h'->ZY P n y A F' h'):ZY P n c (Ay P n y A) F h:=Sd (K F h) H hB
theorem DX {y:Code} {A2:Wz} (K:Fr->List Res->Fr->List Res->Prop) (hA:∀F h,A .normal F h=ZY P n y A2 F h) (H:ZY P n c (DW (K F h) A) F h) (hB:∀F' h',K F h F' h'->ZY P n y A2 F' h'):ZY P n c A F h:=Sc (K F h) hA H hB
theorem W7 {c:Code} {A:Wz} (ts:List Nat) (ov:Fr) (K:List Res->List Res) (H:SI P n ops (fun F1 h1=>UY F1 h1 (sF ts F ov) (K h)) k F h) (hB:ZY P n c A (sF ts F ov) (K h)):SI P n ops (fun F h=>ZY P n c A F h) k F h:=Z4k (sF ts F ov) (K h) H hB
theorem Jm {c:Code} {A:Wz} (ts:List Nat) (ov:Fr) (K:List Res->List Res) (H:Yu P n ops (fun F1 h1=>UY F1 h1 (sF ts F ov) (K h)) T fuel done F h) (hB:ZY P n c A (sF ts F ov) (K h)):Yu P n ops (fun F h=>ZY P n c A F h) T fuel done F h:=Z1t (sF ts F ov) (K h) H hB
theorem Xz (k2:Nat) (ts:List Nat) (ov:Fr) (K:List Res->List Res) (J:SI P n ops B k2 (sF ts F ov) (K h)) (H:SI P n ops B k2 (sF ts F ov) (K h)->SI P n ops B k F h):SI P n ops B k F h:=H J
end
end Go.Abs
namespace Go.Abs
theorem fw {F F':Fr} {t u:Nat} {x y:AV} (hr:F.Le F') (hx:F.get t=x:=by kernel_rfl) (hy:F.get u=y:=by kernel_rfl):F.Le ((t,x)::(u,y)::F'):=fr (fr hr hy) hx
theorem fq {F F':Fr} {t u v w:Nat} {x y z q:AV} (hr:F.Le F') (hx:F.get t=x:=by kernel_rfl) (hy:F.get u=y:=by kernel_rfl) (hz:F.get v=z:=by kernel_rfl) (hq:F.get w=q:=by kernel_rfl):F.Le ((t,x)::(u,y)::(v,z)::(w,q)::F'):=fw (fw hr hz hq) hx hy
section
variable {P:Program} {n:Nat} {ops:Array Oper} {B:Fr->List Res->Prop} {k:Nat} {F:Fr} {h:List Res}
theorem iw {a b:Nat} (e:a=b) (H:SI P n ops B (k+1) (F.put (Zj ops k).dst (.i b)) h) (hk:YE n ops F k=true:=by kernel_rfl) (he:TD P (Zj ops k) F h 0=some (.i a,[]):=by kernel_rfl):SI P n ops B k F h:=io (.i b) (.i a) (li (by rw [e])) H hk he
theorem dw (i:Nat) {T:List (Nat×List Nat)} {fuel:Nat} {done:List Nat} {a b:Nat} (e:a=b) (H:Yu P n ops B ((i,[])::T) fuel (done++[i]) (F.put (Zj ops i).dst (.i b)) h) (he:TD P (Zj ops i) F h 0=some (.i a,[]):=by kernel_rfl) (hs:Region.noSelect ops=true:=by kernel_rfl) (hk:YE n ops F i=true:=by kernel_rfl)
 (hf:Region.free .any ops (Wt ops done) i=true:=by kernel_rfl) (hr:(Region.ready .any ops (Wt ops done)).contains i=true:=by kernel_rfl):Yu P n ops B T (fuel+1) done F h:=dn i (.i b) (.i a) (li (by rw [e])) H he hs hk hf hr
end
end Go.Abs
namespace Go.Abs
section
variable {P:Program} {n:Nat} {ops:Array Oper} {B:Fr->List Res->Prop} {k:Nat} {F:Fr} {h:List Res}
variable {T:List (Nat × List Nat)} {fuel:Nat} {done:List Nat} {c:Code} {A:Wz}
theorem Zq (hv:Option Value) (j:Int) (sz:Nat) {es:List AV} {y:AV} (hget:es[j.toNat]? = some y) (hi:Jz P ops F k=some (.sl es hv,j,sz):=by kernel_rfl) (h0:0<=j:=by omega) (hy:y.leaves.length=sz:=by rfl) :
  X8 P (Zj ops k) F h [] (.rp y.leaves):=JK hi h0 hget hy
def Fl (P:Program) (ops:Array Oper) (F:Fr) (h:List Res) (j k:Nat):Option (Nat × Nat × List AV):=
 match storeAt P ops F k,Wo [j] h with
 | some (b,o,xs),some [.obj b' ls]=>match Nat.ble (o+xs.length) ls.length with | true=>some (b,b',ls.take o++xs++ls.drop (o+xs.length)) | false=>none
 | _,_=>none
theorem RI {j k b:Nat} {l:List AV} (hs:Fl P ops F h j k=some (b,b,l)):∃o xs ls,storeAt P ops F k=some (b,o,xs)/\Wo [j] h=some [.obj b ls]/\Nat.ble (o+xs.length) ls.length=true/\ls.take o++xs++ls.drop (o+xs.length)=l:=by
 unfold Fl at hs
 split at hs
 ·rename_i b1 o xs b2 ls h1 h2
  split at hs
  ·rename_i h3
   cases hs
   exact ⟨o,xs,ls,h1,h2,h3,rfl⟩
  ·cases hs
 ·cases hs
theorem Y0 (j b:Nat) (ls':List AV) (H:SI P n ops B (k+1) F (.obj b ls'::XH [j] h)) (hk:YE n ops F k=true:=by kernel_rfl) (hs:Fl P ops F h j k=some (b,b,ls'):=by kernel_rfl):SI P n ops B k F h:=
 let ⟨_,_,_,h1,h2,h3,h4⟩:=RI hs
 iS j b _ _ _ ls' H hk h1 h2 h3 h4
theorem Uw (i j:Nat) (js bs:List Nat) (b:Nat) (ls':List AV) (H:Yu P n ops B (T.filter fun t=>!V6 ops i t.1) fuel (done++[i]) F (.obj b ls'::XH [j] h))
  (hk:YE n ops F i=true:=by kernel_rfl) (hs:Fl P ops F h j i=some (b,b,ls'):=by kernel_rfl) (ho:Us ops i T=bs:=by kernel_rfl)
  (hj:js.map (fun q=>(WD (XH [j] h))[q]?)=bs.map some:=by kernel_rfl):VC P n ops B T fuel done F h i:=
 let ⟨_,_,_,h1,h2,h3,h4⟩:=RI hs
 dS i j js bs b _ _ _ ls' H hk h1 h2 h3 h4 ho hj
theorem ZK (q:Nat) (H:SI P n ops B (k+1) (F.put (Zj ops k).dst (.i (q+1:Nat))) h) (hb:-9223372036854775808<=((q+1:Nat):Int)/\((q+1:Nat):Int)<=9223372036854775807:=by omega)
  (hk:YE n ops F k=true:=by kernel_rfl) (ha:KT ops F k=some ((q:Int)+1):=by kernel_rfl):SI P n ops B k F h:=ia ((q+1:Nat):Int) ((q:Int)+1) H hb om hk ha
theorem ZC (is:List Nat) {f:FuncId} {xs:List AV} {h1 h2:List Res} {r0:AV} (H:Wg P f xs h1 (fun r h=>r=r0/\h=h2)) (hK:SI P n ops B (k+1) (F.put (Zj ops k).dst r0) (h2++XH is h))
  (hk:YE n ops F k=true:=by kernel_rfl) (hc:QZ P ops F k=some (f,xs):=by kernel_rfl) (hp:Wo is h=some h1:=by kernel_rfl):SI P n ops B k F h:=
 ic is H (fun r h' hr=>by obtain ⟨rfl,rfl⟩:=hr;exact hK) hk hc hp
theorem XY (i:Nat) (is js bs:List Nat) {f:FuncId} {xs:List AV} {h1 h2:List Res} {r0:AV} (H:Wg P f xs h1 (fun r h=>r=r0/\h=h2))
  (hK:Yu P n ops B (T.filter fun t=>!V6 ops i t.1) fuel (done++[i]) (F.put (Zj ops i).dst r0) (h2++XH is h))
  (hk:YE n ops F i=true:=by kernel_rfl) (hc:QZ P ops F i=some (f,xs):=by kernel_rfl)
  (hp:Wo is h=some h1:=by kernel_rfl) (ho:Us ops i T=bs:=by kernel_rfl) (hj:js.map (fun j=>(WD (XH is h))[j]?)=bs.map some:=by kernel_rfl):VC P n ops B T fuel done F h i:=
 dc i is js bs H (fun r h' hr=>by obtain ⟨rfl,rfl⟩:=hr;exact hK) hk hc hp ho hj
theorem Xf (p:Prop) [Decidable p] (h1:p->ZY P n (Ye c) A F h) (h2:¬p->ZY P n (VF c) A F h) (hk:YK c=4:=by kernel_rfl) (hc:F.ev (Jk c)=.val (.bool (decide p)):=by kernel_rfl):ZY P n c A F h:=
 ac (decide p) decide_eq_true_iff h1 h2 hk hc
theorem Zf (H:ZY P n (VF c) A (qF P n (X9 (Ye c)) h 0 ((X9 (Ye c)).size-0) F []) h) (hk:YK c=3:=by kernel_rfl) (hk1:YK (Ye c)=1:=by kernel_rfl)
  (he:qA P n (X9 (Ye c)) h 0 ((X9 (Ye c)).size-0) F []=qB P n (X9 (Ye c)) h 0 ((X9 (Ye c)).size-0) F []:=by kernel_rfl):ZY P n c A F h:=ar (Z0 H he) hk hk1
theorem Jt (hints:List Nat) (H:ZY P n (VF c) A (qF P n (X9 (Ye c)) h 0 ((X9 (Ye c)).size-0) F hints) h) (hk:YK c=3:=by kernel_rfl) (hk1:YK (Ye c)=1:=by kernel_rfl)
  (he:qA P n (X9 (Ye c)) h 0 ((X9 (Ye c)).size-0) F hints=qB P n (X9 (Ye c)) h 0 ((X9 (Ye c)).size-0) F hints:=by kernel_rfl):ZY P n c A F h:=ar (Vq hints H he) hk hk1
theorem Qj (H:A .normal (qF P n (X9 c) h 0 ((X9 c).size-0) F []) h) (hk:YK c=1:=by kernel_rfl) (he:qA P n (X9 c) h 0 ((X9 c).size-0) F []=qB P n (X9 c) h 0 ((X9 c).size-0) F []:=by kernel_rfl):ZY P n c A F h:=az (Z0 H he) hk
theorem ZM (m:Nat) (H:SI P n (X9 (Ye c)) (fun F h=>ZY P n (VF c) A F h) (0+m) (qF P n (X9 (Ye c)) h 0 m F []) h) (hk:YK c=3:=by kernel_rfl) (hk1:YK (Ye c)=1:=by kernel_rfl)
  (he:qA P n (X9 (Ye c)) h 0 m F []=qB P n (X9 (Ye c)) h 0 m F []:=by kernel_rfl):ZY P n c A F h:=ar (Z1 m H he) hk hk1
theorem ZB (m:Nat) (hints:List Nat) (H:SI P n (X9 (Ye c)) (fun F h=>ZY P n (VF c) A F h) (0+m) (qF P n (X9 (Ye c)) h 0 m F hints) h) (hk:YK c=3:=by kernel_rfl) (hk1:YK (Ye c)=1:=by kernel_rfl)
  (he:qA P n (X9 (Ye c)) h 0 m F hints=qB P n (X9 (Ye c)) h 0 m F hints:=by kernel_rfl):ZY P n c A F h:=ar (Y3 m hints H he) hk hk1
theorem Yq (hs:SI P n (X9 (Ye (Ye c))) (fun F h=>ZY P n (VF (Ye c)) (Ay P n (VF c) A) F h) 0 F h) (hk:YK c=3:=by kernel_rfl) (hk0:YK (Ye c)=3:=by kernel_rfl) (hk1:YK (Ye (Ye c))=1:=by kernel_rfl):ZY P n c A F h:=
 aq (ar hs hk0 hk1) hk
theorem Y8 (m:Nat) (H:SI P n (X9 (Ye (Ye c))) (fun F h=>ZY P n (VF (Ye c)) (Ay P n (VF c) A) F h) (0+m) (qF P n (X9 (Ye (Ye c))) h 0 m F []) h) (hk:YK c=3:=by kernel_rfl) (hk0:YK (Ye c)=3:=by kernel_rfl) (hk1:YK (Ye (Ye c))=1:=by kernel_rfl)
  (he:qA P n (X9 (Ye (Ye c))) h 0 m F []=qB P n (X9 (Ye (Ye c))) h 0 m F []:=by kernel_rfl):ZY P n c A F h:=Yq (Z1 m H he) hk hk0 hk1
theorem Ym (m:Nat) (hints:List Nat) (H:SI P n (X9 (Ye (Ye c))) (fun F h=>ZY P n (VF (Ye c)) (Ay P n (VF c) A) F h) (0+m) (qF P n (X9 (Ye (Ye c))) h 0 m F hints) h) (hk:YK c=3:=by kernel_rfl) (hk0:YK (Ye c)=3:=by kernel_rfl) (hk1:YK (Ye (Ye c))=1:=by kernel_rfl)
  (he:qA P n (X9 (Ye (Ye c))) h 0 m F hints=qB P n (X9 (Ye (Ye c))) h 0 m F hints:=by kernel_rfl):ZY P n c A F h:=Yq (Y3 m hints H he) hk hk0 hk1
theorem Yj (H:ZY P n (VF (Ye c)) (Ay P n (VF c) A) (qF P n (X9 (Ye (Ye c))) h 0 ((X9 (Ye (Ye c))).size-0) F []) h) (hk:YK c=3:=by kernel_rfl) (hk0:YK (Ye c)=3:=by kernel_rfl) (hk1:YK (Ye (Ye c))=1:=by kernel_rfl)
  (he:qA P n (X9 (Ye (Ye c))) h 0 ((X9 (Ye (Ye c))).size-0) F []=qB P n (X9 (Ye (Ye c))) h 0 ((X9 (Ye (Ye c))).size-0) F []:=by kernel_rfl):ZY P n c A F h:=aq (Zf H hk0 hk1 he) hk
theorem Z7 (h0:A .ret (qF P n ops h k (ops.size-k) F []) h) (hk:YK c=8:=by kernel_rfl) (he:qA P n ops h k (ops.size-k) F []=qB P n ops h k (ops.size-k) F []:=by kernel_rfl):SI P n ops (fun F h=>ZY P n c A F h) k F h:=Z0 (ZG h0 hk) he
theorem ZN (p:Prop) [Decidable p] (h1:p->ZY P n (Ye c) A (qF P n ops h k (ops.size-k) F []) h) (h2:¬p->ZY P n (VF c) A (qF P n ops h k (ops.size-k) F []) h) (hk:YK c=4:=by kernel_rfl)
  (hc:Fr.ev (qF P n ops h k (ops.size-k) F []) (Jk c)=.val (.bool (decide p)):=by kernel_rfl) (he:qA P n ops h k (ops.size-k) F []=qB P n ops h k (ops.size-k) F []:=by kernel_rfl):SI P n ops (fun F h=>ZY P n c A F h) k F h:=Z0 (Xf p h1 h2 hk hc) he
theorem Yt (b:Bool) {p:Prop} (hp:b=true↔p) (h1:p->ZY P n (Ye c) A (qF P n ops h k (ops.size-k) F []) h) (h2:¬p->ZY P n (VF c) A (qF P n ops h k (ops.size-k) F []) h) (hk:YK c=4:=by kernel_rfl)
  (hc:Fr.ev (qF P n ops h k (ops.size-k) F []) (Jk c)=.val (.bool b):=by kernel_rfl) (he:qA P n ops h k (ops.size-k) F []=qB P n ops h k (ops.size-k) F []:=by kernel_rfl):SI P n ops (fun F h=>ZY P n c A F h) k F h:=Z0 (ac b hp h1 h2 hk hc) he
end
abbrev ZP (x:AV):AV->List Res->Prop:=fun r h=>r=x/\h=[]
theorem Zv {α:Type} (xs:List α) (j:Nat) (h:j<xs.length):∃x,xs[j]? = some x:=QH h
theorem T8 {P:Program} {F:Fr} {h:List Res} {fn:Func} {e:Exit} {r:AV} (he:(match e with|.normal|.ret=>true|_=>false)=true:=by kernel_rfl) (hr:Qn P F h fn.results.toList []=some ([r],[]):=by kernel_rfl) :
  JW P fn (fun r' h'=>r'=r/\h'=[]) e F h:=r1 [] ⟨rfl,rfl⟩ rfl he hr
theorem Zo {P:Program} {F:Fr} {h:List Res} {fn:Func} {e:Exit} {r:AV} (x:AV) (hle:Zk (JI [x]) r) (he:(match e with|.normal|.ret=>true|_=>false)=true:=by kernel_rfl) (hr:Qn P F h fn.results.toList []=some ([x],[]):=by kernel_rfl) :
  JW P fn (fun r' h'=>r'=r/\h'=[]) e F h:=r2 [] [x] ⟨rfl,rfl⟩ hle rfl he hr
theorem ZL (k:Nat) {F F':Fr} {t:Nat} {y:Int} (hr:F.Le F') (hx:F.get t=.i (k+1:Nat):=by kernel_rfl) (e:((k+1:Nat):Int)=y:=by exact ob):F.Le ((t,.i y)::F'):=fc (li e) hr hx
theorem ZT {F F':Fr} {t:Nat} {y:Int} (hr:F.Le F') (hx:F.get t=.i 0:=by kernel_rfl) (e:0=y:=by exact ob):F.Le ((t,.i y)::F'):=fc (li e) hr hx
theorem Zp (x:Bool) {p:Prop} (q:p) {F F':Fr} {t:Nat} {y:Bool} (hr:F.Le F') (hx:F.get t=.b x:=by kernel_rfl) (e:p->x=y:=by intro q;simp only [q];rfl):F.Le ((t,.b y)::F'):=fc (lb (e q)) hr hx
theorem Y1 {F F':Fr} {h h1 h':List Res} (m:Nat) (hF:F.Le F') (e:h1=h':=by exact rfl) (hp:Wo (List.replicate m 0) h=some h1:=by kernel_rfl):UY F h F' h':=wk (List.replicate m 0) hF e hp
theorem Xk {α β:Type} {p q:α->β->Prop} {a:α} {b:β} (x:p a b) (y:q a b):∃a b,p a b/\q a b:=⟨a,b,x,y⟩
theorem ZJ {α β:Type} {q:α->β->Prop} {m' m:Nat} {r:Nat->α->β->Prop} {a:α} {b:β} (x:r m' a b) (y:q a b) (e:m'<m:=by exact ob):∃m' a b,m'<m/\r m' a b/\q a b:=⟨m',a,b,e,x,y⟩
theorem Zx (m:Nat) {P:Program} {f:FuncId} {fn:Func} {xs:List AV} {h:List Res} {R:AV->List Res->Prop} (hf:P.funcs[f]? = some fn) (ha:ZY P m (DL fn) (JW P fn R) (AK 0 xs) h) (hb:fn.body.isSome=true:=by kernel_rfl) (hn:fn.ntmps=m:=by kernel_rfl)
  (hle:Nat.ble xs.length m=true:=by kernel_rfl):Wg P f xs h R:=enter hf hb hn hle ha
end Go.Abs
end
namespace Go.Abs
section
variable {P:Program} {n:Nat} {c:Code} {A:Wz} {F:Fr} {h h2:List Res} {ops:Array Oper} {B:Fr->List Res->Prop} {k:Nat}
variable {T:List (Nat × List Nat)} {fuel:Nat} {done:List Nat}
def HO (P:Program) (ops:Array Oper) (F:Fr) (k:Nat):Option (List AV):=
 match (Zj ops k).op with
 | .binOp .eql xt x y _=>match F.ev x,F.ev y,P.underlying xt with
  | .sl es _,.sl [] (some (.slice none 0 0)),some (.slice _)=>some es
  | _,_,_=>none
 | _=>none
theorem Za7 {t e:TypeId} (ht:P.underlying t=some (.slice e)) (a:Option Addr) (l c':Nat) (w:World):(Op.equal t (.slice a l c') (.slice none 0 0)).run P w=.ok a.isNone w:=by
 unfold Op.equal
 rw [show Op.maxDepth=(Op.maxDepth-1)+1 from rfl]
 unfold Op.equalIn
 cases a with
 | none=>simp [Vr ht]
 | some a=>simp [Vr ht]
theorem Z8s {K:Fr->List Res->Prop} {es:List AV} (hd:V7 n (Zj ops k)=true) (ha:HO P ops F k=some es)
  (h1:es=[]->K (F.put (Zj ops k).dst (.b true)) h) (h0:K (F.put (Zj ops k).dst (.b false)) h):XU P n (Zj ops k) F h K:=by
 unfold HO at ha
 generalize hoo:Zj ops k=o at ha hd h1 h0
 obtain ⟨dst,op,type,pos,after,guard⟩:=o
 cases op<;>simp only at ha<;>try (cases ha)
 rename_i bop xt x y yt
 cases bop<;>simp only at ha<;>try (cases ha)
 split at ha
 case h_2=>cases ha
 rename_i es' hv t hx hy ht
 cases ha
 intro Q w G a hF hh
 have vx:=hF.ev x
 have vy:=hF.ev y
 rw [hx] at vx
 rw [hy] at vy
 have vy:a.eval y=.slice none 0 0:=by
  cases hq:a.eval y<;>rw [hq] at vy<;>cases vy<;>(rename_i hh2;exact (hh2 _ rfl).symm)
 cases vq:a.eval x with
 | slice ad l cc=>
  have hrun:(execOp a.eval { dst:=dst,op:=.binOp .eql xt x y yt,type:=type,pos:=pos,after:=after,guard:=guard }).run P w=.ok (.value (.bool ad.isNone)) w:=by
   simp only [execOp,vq,vy]
   have he:=Za7 (P:=P) ht ad l cc w
   exact Vd (by simp [eqGuard,binOp,he])
  unfold Oper.wp
  rw [hrun]
  rw [vq] at vx
  cases hn:ad.isNone with
  | false=>exact ⟨_,_,G,h0,hF.put (UB hd) .val,hh,Yr.refl _ _ _⟩
  | true=>
   have:es=[]:=by
    cases vx with
    | nil=>rfl
    | sl=>cases hn
   exact ⟨_,_,G,h1 this,hF.put (UB hd) .val,hh,Yr.refl _ _ _⟩
 | _=>rw [vq] at vx;cases vx
theorem iN (es:List AV) (h1:es=[]->SI P n ops B (k+1) (F.put (Zj ops k).dst (.b true)) h) (h0:SI P n ops B (k+1) (F.put (Zj ops k).dst (.b false)) h)
  (hk:YE n ops F k=true:=by kernel_rfl) (ha:HO P ops F k=some es:=by kernel_rfl):SI P n ops B k F h:=
 Uq hk (Z8s (VL hk).2.1 ha h1 h0)
def Me (P:Program) (ops:Array Oper) (F:Fr) (k:Nat):Option AV:=
 match (Zj ops k).op with
 | .call c=>match c.callee,c.args.toList,c.argTypes.toList with
  | .builtin .cap,[x],[t]=>match P.underlying t with
   | some (.slice _)=>some (F.ev x)
   | _=>none
  | _,_,_=>none
 | _=>none
theorem Ro (g:Hd) (hl:Me P ops F k=some (.h g):=by kernel_rfl):X8 P (Zj ops k) F h [] (.i g.c):=by
 unfold Me at hl
 generalize hoo:Zj ops k=o at hl
 obtain ⟨dst,op,type,pos,after,guard⟩:=o
 cases op<;>simp only at hl<;>try (cases hl)
 rename_i c
 obtain ⟨callee,args,tys⟩:=c
 simp only at hl
 split at hl
 case h_2=>cases hl
 rename_i x t hargs htys
 split at hl
 case h_2=>cases hl
 rename_i e ht
 have e1:args=#[x]:=by rw [<-VM (xs:=args),hargs]
 have e2:tys=#[t]:=by rw [<-VM (xs:=tys),htys]
 subst e1;subst e2
 intro n w G a hF hh
 have vx:=hF.ev x
 simp only [Xo] at hl
 rw [hl] at vx
 have vx:=vx.val_inv
 refine ⟨_,.val,fun w' _ _=>?_⟩
 simp only [execOp,resolve,invoke,builtin,Sem.run_bind,Sem.run_pure,Result.andThen_ok,Bg,Ww,QQ,vx,Builtin.cap_]
 simp [Vr ht,goInt]
theorem Sf (t j:Nat) {v:Hd} {xs:LI} (H:ZY P n c A ((t,ZV xs v.v)::F) (.tail v.v 1::XH [j] h)) (hF':F.get t=.h v:=by kernel_rfl) (hp:Wo [j] h=some [rV v xs]:=by kernel_rfl):ZY P n c A F h:=by
 intro w G a hF hh
 have hp':=Ue (Vp hp)
 obtain ⟨G',h1,h2',h3⟩:=Zdz (hh.perm hp') (Of xs)
 have e:=h2'.perm hp'.symm (Km _)
 have hF2:=hF.mono (e.agree hh)
 have hv:=hF2.get t
 rw [hF'] at hv
 have hv:=hv.val_inv
 refine wp_mono (H w G' a ⟨hF2.defers,hF2.size,fun s=>?_⟩ h1) fun e' a' w' hc=>hc.trans e
 show RV w G' (match Nat.beq t s with|true=>_|false=>Fr.get F s) _
 cases hb:Nat.beq t s with
 | true=>
  have:=U6 hb
  subst this
  rw [hv]
  exact h3
 | false=>exact hF2.get s
def FW (P:Program) (ops:Array Oper) (F:Fr) (k:Nat):Option Int:=
 match (Zj ops k).op with
 | .call c=>match c.callee,c.args.toList,c.argTypes.toList with
  | .builtin .append,[s,x],[t,t']=>match F.ev s,F.ev x,P.underlying t,P.underlying t' with
   | .val (.slice none 0 0),.val (.int .i64 m),some (.slice e),some (.int _)=>match P.info? e with
    | some i=>match i.zero with
     | some (.int .i64 0)=>match Nat.beq i.size 1&&Nat.ble i.bytes 32768 with
      | true=>some m
      | false=>none
     | _=>none
    | none=>none
   | _,_,_,_=>none
  | _,_,_=>none
 | _=>none
theorem Z8i {K:Fr->List Res->Prop} {m:Nat} (hd:V7 n (Zj ops k)=true) (ha:FW P ops F k=some (m:Int)) (h0:0<m) (hb:m<=4294967296)
  (hK:∀v,K (F.put (Zj ops k).dst (.val v)) (.vec v (Zi (List.replicate m 0))::h)):XU P n (Zj ops k) F h K:=by
 unfold FW at ha
 generalize hoo:Zj ops k=o at ha hd hK
 obtain ⟨dst,op,type,pos,after,guard⟩:=o
 cases op<;>simp only at ha<;>try (cases ha)
 rename_i c
 obtain ⟨callee,args,tys⟩:=c
 simp only at ha
 split at ha
 case h_2=>cases ha
 rename_i s x t t' hargs htys
 split at ha
 case h_2=>cases ha
 rename_i mm e kn hs hx ht ht'
 split at ha
 case h_2=>cases ha
 rename_i i hi
 split at ha
 case h_2=>cases ha
 rename_i hz
 split at ha
 case h_2=>cases ha
 rename_i hbb
 simp only [Xs] at hbb
 have YD:=U6 hbb.1
 have hby:=Ks hbb.2
 simp only [Xo] at ha
 subst ha
 have e1:args=#[s,x]:=by rw [<-VM (xs:=args),hargs]
 have e2:tys=#[t,t']:=by rw [<-VM (xs:=tys),htys]
 subst e1;subst e2
 intro Q w G a hF hh
 have v1:=hF.ev s
 have v2:=hF.ev x
 rw [hs] at v1
 rw [hx] at v2
 have v1:=v1.val_inv
 have v2:=v2.val_inv
 have hbytes:m*i.bytes<=281474976710656:=by
  have:=Nat.mul_le_mul hb hby
  omega
 have hr:=Lib.run_append_nil_zeros (P:=P) w t t' type e i _ .i64 kn ht ht' hi hz m h0 om om hbytes
 have hrun:(execOp a.eval { dst:=dst,op:=.call { callee:=.builtin .append,args:=#[s,x],argTypes:=#[t,t'] },type:=type,pos:=pos,after:=after,guard:=guard }).run P w =
   .ok (.value (.slice (some ⟨w.heap.size,0,none⟩) m (grownCap w m 0 e))) (w.drew.alloc (.cells (Builtin.zeroCells (Value.cells (.int .i64 0)) m++Builtin.zeroCells (Value.cells (.int .i64 0)) (grownCap w m 0 e-m)) e)):=by
  simp only [execOp,resolve,invoke,builtin,Sem.run_bind,Sem.run_pure,Result.andThen_ok,Bg,Ww,QQ,v1,v2,hr]
 unfold Oper.wp
 rw [hrun]
 have hge:=grownCap_ge w m 0 e
 have hzc:∀q,(Builtin.zeroCells (Value.cells (.int .i64 0)) q).toList=List.replicate q (.int .i64 0):=fun q=>by
  apply List.ext_getElem
  ·simp [Builtin.zeroCells,Value.cells]
  ·intro i h1 h2
   simp [Builtin.zeroCells,Value.cells,Nat.mod_one]
 have hl:(Zi (List.replicate m 0)).length=m:=by simp
 obtain ⟨j1,j2⟩:=hh.drew.alloc_vec (Builtin.zeroCells (Value.cells (.int .i64 0)) m++Builtin.zeroCells (Value.cells (.int .i64 0)) (grownCap w m 0 e-m)) e
  (ls:=Zi (List.replicate m 0)) (cap:=grownCap w m 0 e) (by rw [hl];exact hge) (by
   rw [<-KP,Ds,hzc,hzc];simp;omega) (by
   rw [hl,Ds,hzc,hzc]
   have:(List.replicate m (Value.int .i64 0)++List.replicate (grownCap w m 0 e-m) (Value.int .i64 0)).take m=List.replicate m (Value.int .i64 0):=by
    rw [List.take_append_of_le_length (by simp),W2 (by simp)]
   rw [this,Zi,List.map_replicate]
   exact EV .val m)
 rw [hl] at j1 j2
 have j3:=(Yr.drew w G h).trans j2
 exact ⟨_,_,G,hK _,(hF.mono (j3.agree hh)).put (UB hd) .val,j1,j3⟩
theorem iZ (m:Nat) (hK:∀v,SI P n ops B (k+1) (F.put (Zj ops k).dst (.h v)) (rV v (List.replicate m 0)::h)) (h0:0<m:=by omega) (hb:m<=4294967296:=by omega)
  (hk:YE n ops F k=true:=by kernel_rfl) (ha:FW P ops F k=some (m:Int):=by kernel_rfl):SI P n ops B k F h:=
 Uq hk (Z8i (VL hk).2.1 ha h0 hb fun v=>F7 fun g hg=>by subst hg;exact hK g)
end
theorem ro {b:Nat} {ls ls':List AV} {t t':List Res} (h:ls=ls') (e:t=t'):Res.obj b ls::t=.obj b ls'::t':=h▸e▸rfl
section
variable {P:Program} {n:Nat} {F:Fr} {h:List Res} {ops:Array Oper} {B:Fr->List Res->Prop} {k:Nat}
variable {T:List (Nat × List Nat)} {fuel:Nat} {done:List Nat}
theorem HT {K:Fr->List Res->Prop} {l c:Nat} {zv zv':AV} (hd:V7 n (Zj ops k)=true) (hm:JE P ops F k=some ((l:Int),(c:Int),zv)) (hlc:l<=c) (hc:c<=4294967296) (hle:Zk zv zv') (hlz:zv'.leaves=[zv'])
  (hK:∀v,K (F.put (Zj ops k).dst (.sl (List.replicate l zv') (some v))) (.tail v 1::h)):XU P n (Zj ops k) F h K:=by
 intro Q w G a hF hh
 obtain ⟨e,z,rfl,hr⟩:=PG hF hm hlc hc
 have hfl:∀m,Zu (List.replicate m zv')=List.replicate m zv':=by
  intro m
  induction m with
  | zero=>rfl
  | succ m ih=>simp only [Bh,Zu,JP,hlz,List.singleton_append];rw [show (List.replicate m zv').flatMap AV.leaves=Zu (List.replicate m zv') from rfl,ih]
 unfold Oper.wp
 rw [hr]
 obtain ⟨G',j1,j2,j3⟩:=hh.alloc_row (madeCells #[z] c) e (es:=List.replicate l zv') (k:=1) (cap:=c) (fun x hx=>by rw [(List.mem_replicate.1 hx).2,hlz];rfl) (by simpa using hlc) (by simp [madeCells]) (by
  rw [Oz,hfl,UI,List.take_replicate,List.length_replicate,AD hlc]
  exact EV (hle _ _ _ (RV.ofVal z)) l)
 rw [List.length_replicate] at j1 j2 j3
 exact ⟨_,_,G',hK _,(hF.mono (j2.agree hh)).put (UB hd) j3,j1,j2⟩
theorem Z2s (l:Nat):List.replicate l (AV.i 0)=Zi (List.replicate l 0):=by simp [Zi,List.map_replicate]
theorem MR (l:Nat):List.replicate l (Ze [])=Ub (List.replicate l []):=by simp [Ub,List.map_replicate]
theorem iM (l c:Nat) (hK:∀v,SI P n ops B (k+1) (F.put (Zj ops k).dst (ZV (List.replicate l 0) v)) (.tail v 1::h)) (hlc:l<=c:=by omega) (hc:c<=4294967296:=by omega) (hk:YE n ops F k=true:=by kernel_rfl)
  (hm:JE P ops F k=some ((l:Int),(c:Int),.i 0):=by kernel_rfl):SI P n ops B k F h:=
 Uq hk (HT (VL hk).2.1 hm hlc hc (Zk.refl _) rfl fun v=>by rw [Z2s];exact hK v)
theorem iMN (l c:Nat) (hK:∀v,SI P n ops B (k+1) (F.put (Zj ops k).dst (CV (List.replicate l []) v)) (.tail v 1::h)) (hlc:l<=c:=by omega) (hc:c<=4294967296:=by omega) (hk:YE n ops F k=true:=by kernel_rfl)
  (hm:JE P ops F k=some ((l:Int),(c:Int),.sl [] (some (.slice none 0 0))):=by kernel_rfl):SI P n ops B k F h:=
 Uq hk (HT (VL hk).2.1 hm hlc hc (Zk.forget _ _) rfl fun v=>by rw [show AV.sl [] none=Ze [] from rfl,MR];exact hK v)
theorem dMN (i:Nat) (js bs:List Nat) (l c:Nat) (hK:∀v,Yu P n ops B (T.filter fun t=>!V6 ops i t.1) fuel (done++[i]) (F.put (Zj ops i).dst (CV (List.replicate l []) v)) (.tail v 1::h)) (hlc:l<=c:=by omega) (hc:c<=4294967296:=by omega)
  (hk:YE n ops F i=true:=by kernel_rfl) (hm:JE P ops F i=some ((l:Int),(c:Int),.sl [] (some (.slice none 0 0))):=by kernel_rfl) (ho:Us ops i T=bs:=by kernel_rfl) (hj:js.map (fun j=>(WD h)[j]?)=bs.map some:=by kernel_rfl):VC P n ops B T fuel done F h i:=
 KX (h1:=[]) (h2:=h) [] js bs hk rfl ho hj (HT (VL hk).2.1 hm hlc hc (Zk.forget _ _) rfl fun v=>by rw [show AV.sl [] none=Ze [] from rfl,MR];exact hK v)
end
section
variable {P:Program} {n:Nat} {F:Fr} {h:List Res} {ops:Array Oper} {B:Fr->List Res->Prop} {k:Nat}
variable {T:List (Nat × List Nat)} {fuel:Nat} {done:List Nat}
theorem dK {c:Code} {A:Wz} (K:Fr->List Res->Prop) (H:Yu P n ops (fun F h=>∃F' h',K F' h'/\UY F h F' h') T fuel done F h) (hB:∀F' h',K F' h'->ZY P n c A F' h') :
  Yu P n ops (fun F h=>ZY P n c A F h) T fuel done F h:=by
 intro Q w G a SL hF hh hQ hcl hcov hk
 exact H Q w G a SL hF hh hQ hcl hcov fun F2 h2 G2 a2 w2 b1 b2 b3 b4=>let ⟨_,_,k1,k2⟩:=b1;hk F2 h2 G2 a2 w2 (AG k2 (hB _ _ k1)) b2 b3 b4
theorem Gr {c:Code} {A:Wz} (K:Fr->List Res->Fr->List Res->Prop) (H:Yu P n ops (fun F1 h1=>∃F' h',K F h F' h'/\UY F1 h1 F' h') T fuel done F h) (hB:∀F' h',K F h F' h'->ZY P n c A F' h') :
  Yu P n ops (fun F h=>ZY P n c A F h) T fuel done F h:=dK (K F h) H hB
theorem Gu (i j:Nat) (Hi:VC P n ops B T fuel done F h i) (Hj:VC P n ops B T fuel done F h j) (hr:Region.ready .any ops (Wt ops done)=[i,j]:=by kernel_rfl):Yu P n ops B T (fuel+1) done F h:=
 MB hr rfl fun q hq=>by
  rcases Yw.1 hq with rfl|hq
  ·exact Hi
  ·rw [YH.1 hq];exact Hj
def Bc (s:Int):Int:=IntKind.i64.wrap s
theorem Zcr {s:Int} (ha:KT ops F k=some s):X8 P (Zj ops k) F h [] (.val (.int .i64 (Bc s))):=by
 unfold KT at ha
 generalize hoo:Zj ops k=o at ha
 obtain ⟨dst,op,type,pos,after,guard⟩:=o
 cases op<;>simp only at ha<;>try (cases ha)
 rename_i bop xt x y yt
 split at ha
 ·rename_i a b h1 h2
  have key:∀v,CA bop .i64 a b=some (.int .i64 (IntKind.i64.wrap v))->v=s->X8 P { dst:=dst,op:=.binOp bop xt x y yt,type:=type,pos:=pos,after:=after,guard:=guard } F h [] (.val (.int .i64 (Bc s))):=by
   intro v hv hvs
   have he:TD P { dst:=dst,op:=.binOp bop xt x y yt,type:=type,pos:=pos,after:=after,guard:=guard } F h 0=some (.val (.int .i64 (IntKind.i64.wrap v)),[]):=by
    simp only [TD,h1,h2,D8,hv]
   have:=BC he (by simp)
   rw [hvs] at this
   simpa [Bc] using this
  split at ha
  ·cases ha;exact key (a+b) rfl rfl
  ·cases ha;exact key (a-b) rfl rfl
  ·cases ha;exact key (a*b) rfl rfl
  ·cases ha
 ·cases ha
theorem iW (s:Int) (H:SI P n ops B (k+1) (F.put (Zj ops k).dst (.val (.int .i64 (Bc s)))) h) (hk:YE n ops F k=true:=by kernel_rfl) (ha:KT ops F k=some s:=by kernel_rfl):SI P n ops B k F h:=
 AW (ks:=[]) hk (Zcr ha) H
def I5 (P:Program) (ops:Array Oper) (F:Fr) (k:Nat):Option Bool:=
 match (Zj ops k).op with
 | .binOp .eql xt x y _=>match F.ev x,F.ev y,P.underlying xt with
  | .val (.pointer a),.val (.pointer none),some (.pointer _)=>some a.isNone
  | _,_,_=>none
 | _=>none
theorem Za8 {t e:TypeId} (ht:P.underlying t=some (.pointer e)) (a:Option Addr) (w:World):(Op.equal t (.pointer a) (.pointer none)).run P w=.ok a.isNone w:=by
 unfold Op.equal
 rw [show Op.maxDepth=(Op.maxDepth-1)+1 from rfl]
 unfold Op.equalIn
 cases a with
 | none=>simp [Vr ht]
 | some a=>simp [Vr ht]
theorem Zci {b:Bool} (ha:I5 P ops F k=some b):X8 P (Zj ops k) F h [] (.b b):=by
 unfold I5 at ha
 generalize hoo:Zj ops k=o at ha
 obtain ⟨dst,op,type,pos,after,guard⟩:=o
 cases op<;>simp only at ha<;>try (cases ha)
 rename_i bop xt x y yt
 cases bop<;>simp only at ha<;>try (cases ha)
 split at ha
 case h_2=>cases ha
 rename_i ad t hx hy ht
 cases ha
 intro nn w G a hF hh
 have vx:=hF.ev x
 have vy:=hF.ev y
 rw [hx] at vx
 rw [hy] at vy
 have vx:a.eval x=.pointer ad:=by cases hq:a.eval x<;>rw [hq] at vx<;>cases vx<;>rfl
 have vy:a.eval y=.pointer none:=by cases hq:a.eval y<;>rw [hq] at vy<;>cases vy<;>rfl
 refine ⟨_,.val,fun w' _ _=>?_⟩
 simp only [execOp,vx,vy]
 have he:=Za8 (P:=P) ht ad w'
 exact Vd (by cases ad<;>simp [eqGuard,binOp,he])
theorem iQ (b:Bool) (H:SI P n ops B (k+1) (F.put (Zj ops k).dst (.b b)) h) (hk:YE n ops F k=true:=by kernel_rfl) (ha:I5 P ops F k=some b:=by kernel_rfl):SI P n ops B k F h:=
 AW (ks:=[]) hk (Zci ha) H
def HJ (ops:Array Oper) (F:Fr) (k:Nat):Option (Int × Int):=
 match (Zj ops k).op with
 | .call c=>match c.callee,c.args.toList with
  | .builtin .min,[x,y]=>match F.ev x,F.ev y with
   | .val (.int .i64 a),.val (.int .i64 b)=>some (a,b)
   | _,_=>none
  | _,_=>none
 | _=>none
theorem Zcg {a b:Int} (hl:HJ ops F k=some (a,b)):X8 P (Zj ops k) F h [] (.i (min a b)):=by
 unfold HJ at hl
 generalize hoo:Zj ops k=o at hl
 obtain ⟨dst,op,type,pos,after,guard⟩:=o
 cases op<;>simp only at hl<;>try (cases hl)
 rename_i c
 obtain ⟨callee,args,tys⟩:=c
 simp only at hl
 split at hl
 case h_2=>cases hl
 rename_i x y hargs
 split at hl
 case h_2=>cases hl
 rename_i u v hx hy
 cases hl
 have e1:args=#[x,y]:=by rw [<-VM (xs:=args),hargs]
 subst e1
 intro n w G a' hF hh
 have vx:=hF.ev x
 have vy:=hF.ev y
 rw [hx] at vx
 rw [hy] at vy
 have vx:=vx.val_inv
 have vy:=vy.val_inv
 refine ⟨_,.val,fun w' _ _=>?_⟩
 simp only [execOp,resolve,invoke,builtin,Sem.run_bind,Sem.run_pure,Result.andThen_ok,Bg,Ww,QQ,vx,vy]
 have e:(if b<a then b else a)=min a b:=by
  rw [Int.min_def]
  split<;>split<;>omega
 simp [Builtin.min_,Builtin.min2,Sem.run_pure,List.foldlM,e]
theorem iI (a b:Int) (H:SI P n ops B (k+1) (F.put (Zj ops k).dst (.i (min a b))) h) (hk:YE n ops F k=true:=by kernel_rfl) (ha:HJ ops F k=some (a,b):=by kernel_rfl):SI P n ops B k F h:=
 AW (ks:=[]) hk (Zcg ha) H
end
end Go.Abs
