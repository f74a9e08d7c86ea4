/-
  A part of the proofs of several laws (see the last file): no condition.
-/
import Derived.OrdersHeld
import Derived.Below
import Derived.KernelRfl
import Derived.Laws.AppendOwn
import Derived.Laws.MakeOwn
import Derived.IntWalk
import Derived.Lib.AppendZeros
set_option linter.all false
set_option linter.unusedVariables false
set_option linter.unusedSimpArgs false
set_option linter.unusedSectionVars false
set_option maxRecDepth 10000
set_option maxHeartbeats 4000000
namespace Go.Abs
abbrev LI:=List Int
theorem ob {p:Prop} (h:p:=by first|assumption|omega|rfl|(simp<;>omega)):p:=h
theorem kr {p:Prop} (h:p:=by kernel_rfl):p:=h
theorem om {p:Prop} (h:p:=by omega):p:=h
def Za:=@if_neg
def Zf:=@if_pos
def Zg:=@beq_iff_eq
def ZH:=@List.length_append
def Y4:=@List.mem_of_getElem?
def Ye:=@Bool.eq_iff_iff
def Yh:=@bne_iff_ne
def Yn:=@congrArg
def Ys:=@List.length_cons
def YF:=@List.length_nil
def X0:=@List.mem_cons
def X1:=@Bool.and_eq_true
def X2:=@Nat.le_refl
def Xf:=@List.mem_cons_self
def Xg:=@List.mem_append
def Xr:=@List.mem_cons_of_mem
def Xs:=@List.mem_singleton
def Xu:=@List.getElem?_eq_some_iff
def XA:=@List.mem_map
def XM:=@List.append_assoc
def Wj:=@Nat.zero_add
def Wk:=@Option.some.injEq
def V7:=@Nat.le_trans
def Vc:=@List.length_take
def Vd:=@Nat.le_of_ble_eq_true
def Vy:=@Classical.not_not
def U7:=@List.take_length
def U8:=@List.take_of_length_le
def Uh:=@List.pairwise_cons
def Uy:=@Bool.eq_false_iff
def UM:=@Array.getElem?_eq_some_iff
def UN:=@List.append_nil
def UZ:=@Array.toArray_toList
def T0:=@Int.toNat_natCast
def T1:=@Nat.eq_of_beq_eq_true
def T2:=@Nat.zero_le
def Tm:=@List.map_cons
def TM:=@List.length_set
def TN:=@Nat.add_mul
def Qj:=@List.take_append_drop
def Qk:=@Nat.min_eq_left
def QA:=@List.mem_of_mem_take
def QS:=@List.drop_zero
def QT:=@List.length_map
def KR:=@List.getElem?_take
def Jm:=@List.Perm.refl
def Jn:=@List.getElem?_eq_none
def Jo:=@List.getElem?_map
def Jp:=@List.length_singleton
def Jq:=@List.nil_append
def Jr:=@Nat.mul_le_mul_right
def JZ:=@Array.length_toList
def A0:=@List.all_eq_true
def A1:=@List.getElem?_append_left
def AQ:=@Classical.byContradiction
def AR:=@List.take_succ_cons
def AS:=@Nat.add_assoc
def Bu:=@List.cons_append
def Bv:=@List.pairwise_append
def Bx:=@List.take_left
def Cl:=@List.flatMap_cons
def Cm:=@List.length_drop
def Co:=@List.sublist_cons_self
def Cp:=@Nat.add_zero
def Dh:=@List.getElem?_eq_getElem
def Di:=@Nat.mul_one
def Dj:=@Option.some.inj
def Ek:=@List.getElem?_append_right
def El:=@List.length_pos_iff
def Em:=@List.pairwise_singleton
def En:=@List.replicate_succ
def G3:=@List.map_nil
def G4:=@List.map_toArray
def G5:=@List.size_toArray
def G6:=@List.toList_toArray
def G7:=@Nat.lt_or_ge
def G8:=@Option.map_some
def Ic:=@Array.getElem?_toList
def Ie:=@Array.toList_append
def If:=@List.set_eq_take_append_cons_drop
def Ig:=@Nat.eq_of_mul_eq_mul_right
def Na:=@List.drop_eq_getElem_cons
def Nb:=@List.drop_eq_nil_of_le
def Nc:=@Nat.lt_of_lt_of_le
end Go.Abs
namespace Go.Abs
inductive AV where
 | any
 | val (v:Value)
 | sl (es:List AV) (hv:Option Value)
 | agg (ls:List AV)
 | rp (ls:List AV)
 | tup (vs:List AV)
abbrev Yl:=Nat->Nat->Prop
def AV.leaves:AV->List AV
 | .agg ls=>ls
 | x=>[x]
mutual
inductive RV (w:World) (G:Yl):AV->Value->Prop
 | any {v}:RV w G .any v
 | val {v}:RV w G (.val v) v
 | nil {hv a cap} (h:∀x,hv=some x->x=.slice a 0 cap):RV w G (.sl [] hv) (.slice a 0 cap)
 | sl {es hv b o k cap} (h:∀x,hv=some x->x=.slice (some ⟨b,o,none⟩) es.length cap) (hc:es.length<=cap) (hm:Vg w G k b o es) :
   RV w G (.sl es hv) (.slice (some ⟨b,o,none⟩) es.length cap)
 | agg {ls cs} (h:YT w G ls cs):RV w G (.agg ls) (.agg cs.toArray)
 | rp {ls b o} (h:Wu w G b o ls):RV w G (.rp ls) (.pointer (some ⟨b,o,none⟩))
 | tup {vs cs} (h:YT w G vs cs):RV w G (.tup vs) (.tuple cs.toArray)
inductive YT (w:World) (G:Yl):List AV->List Value->Prop
 | nil:YT w G [] []
 | cons {x v xs vs} (h:RV w G x v) (t:YT w G xs vs):YT w G (x::xs) (v::vs)
inductive Wu (w:World) (G:Yl):Nat->Nat->List AV->Prop
 | nil {b o}:Wu w G b o []
 | cons {b o x c xs} (hc:w.cell? ⟨b,o,none⟩=some c) (hg:G b o) (h:RV w G x c) (t:Wu w G b (o+1) xs):Wu w G b o (x::xs)
inductive Vg (w:World) (G:Yl):Nat->Nat->Nat->List AV->Prop
 | nil {k b o}:Vg w G k b o []
 | cons {k b o x xs} (hl:x.leaves.length=k) (h:Wu w G b o x.leaves) (t:Vg w G k b (o+k) xs):Vg w G k b o (x::xs)
end
structure VZ (G:Yl) (w w':World) (G':Yl):Prop where
 cell:∀b o,G b o->w'.cell? ⟨b,o,none⟩=w.cell? ⟨b,o,none⟩
 sub:∀b o,G b o->G' b o
section mono
variable {w w':World} {G G':Yl}
mutual
theorem RV.mono {x:AV} {v:Value} (hA:VZ G w w' G'):RV w G x v->RV w' G' x v
 | .any=>.any
 | .val=>.val
 | .nil h=>.nil h
 | .sl h hc hm=>.sl h hc (hm.mono hA)
 | .agg h=>.agg (h.mono hA)
 | .rp h=>.rp (h.mono hA)
 | .tup h=>.tup (h.mono hA)
theorem YT.mono {xs:List AV} {vs:List Value} (hA:VZ G w w' G'):YT w G xs vs->YT w' G' xs vs
 | .nil=>.nil
 | .cons h t=>.cons (h.mono hA) (t.mono hA)
theorem Wu.mono {b o:Nat} {xs:List AV} (hA:VZ G w w' G'):Wu w G b o xs->Wu w' G' b o xs
 | .nil=>.nil
 | .cons hc hg h t=>.cons ((hA.cell _ _ hg).trans hc) (hA.sub _ _ hg) (h.mono hA) (t.mono hA)
theorem Vg.mono {k b o:Nat} {xs:List AV} (hA:VZ G w w' G'):Vg w G k b o xs->Vg w' G' k b o xs
 | .nil=>.nil
 | .cons hl h t=>.cons hl (h.mono hA) (t.mono hA)
end
end mono
theorem YT.length {w:World} {G:Yl}:∀{xs:List AV} {vs:List Value},YT w G xs vs->vs.length=xs.length
 | _,_,.nil=>rfl
 | _,_,.cons _ t=>by simp [t.length]
theorem YT.get {w:World} {G:Yl}:∀{xs:List AV} {vs:List Value},YT w G xs vs->∀(i:Nat) (x:AV),xs[i]? = some x->∃v,vs[i]? = some v/\RV w G x v
 | _,_,.nil,i,x,h=>by simp at h
 | _,_,.cons h t,0,x,hx=>by simp at hx;subst hx;exact ⟨_,rfl,h⟩
 | _,_,.cons h t,i+1,x,hx=>by simpa using t.get i x (by simpa using hx)
theorem YT.append {w:World} {G:Yl}:∀{xs ys:List AV} {vs us:List Value},YT w G xs vs->YT w G ys us->YT w G (xs++ys) (vs++us)
 | _,_,_,_,.nil,h=>h
 | _,_,_,_,.cons h t,h2=>.cons h (t.append h2)
theorem YT.take {w:World} {G:Yl}:∀{xs:List AV} {vs:List Value} (n:Nat),YT w G xs vs->YT w G (xs.take n) (vs.take n)
 | _,_,0,_=>by simp;exact .nil
 | _,_,n+1,.nil=>by simp;exact .nil
 | _,_,n+1,.cons h t=>by simp;exact .cons h (t.take n)
theorem YT.drop {w:World} {G:Yl}:∀{xs:List AV} {vs:List Value} (n:Nat),YT w G xs vs->YT w G (xs.drop n) (vs.drop n)
 | _,_,0,h=>by simpa using h
 | _,_,n+1,.nil=>by simp;exact .nil
 | _,_,n+1,.cons h t=>by simpa using t.drop n
theorem YT.set {w:World} {G:Yl}:∀{xs:List AV} {vs:List Value} (n:Nat) {x:AV} {v:Value},YT w G xs vs->RV w G x v->YT w G (xs.set n x) (vs.set n v)
 | _,_,_,_,_,.nil,_=>by simp;exact .nil
 | _,_,0,_,_,.cons h t,hx=>by simp;exact .cons hx t
 | _,_,n+1,_,_,.cons h t,hx=>by simp;exact .cons h (t.set n hx)
theorem Wu.drop {w:World} {G:Yl}:∀(n:Nat) {b o:Nat} {xs:List AV},Wu w G b o xs->Wu w G b (o+n) (xs.drop n)
 | 0,_,_,_,h=>by simpa using h
 | n+1,_,_,_,.nil=>by simp;exact .nil
 | n+1,_,_,_,.cons hc hg h t=>by
  have:=t.drop n
  simp only [List.drop_succ_cons]
  rw [show ∀o:Nat,o+(n+1)=o+1+n from fun o=>by omega]
  exact this
theorem Wu.take {w:World} {G:Yl}:∀(n:Nat) {b o:Nat} {xs:List AV},Wu w G b o xs->Wu w G b o (xs.take n)
 | 0,_,_,_,h=>by simp;exact .nil
 | n+1,_,_,_,.nil=>by simp;exact .nil
 | n+1,_,_,_,.cons hc hg h t=>by simp;exact .cons hc hg h (t.take n)
theorem Wu.append {w:World} {G:Yl}:∀{b o:Nat} {xs ys:List AV},Wu w G b o xs->Wu w G b (o+xs.length) ys->Wu w G b o (xs++ys)
 | _,_,_,_,.nil,h=>by simpa using h
 | _,_,_,_,.cons hc hg h t,h2=>.cons hc hg h (t.append (by
   simp only [Ys] at h2
   rw [show ∀(o:Nat) (l:Nat),o+1+l=o+(l+1) from fun o l=>by omega];exact h2))
theorem Wu.cells {w:World} {G:Yl}:∀{b o:Nat} {xs:List AV},Wu w G b o xs ->
  ∃cs,YT w G xs cs/\(∀j v,cs[j]? = some v->w.cell? ⟨b,o+j,none⟩=some v/\G b (o+j))
 | _,_,_,.nil=>⟨[],.nil,by simp⟩
 | _,o,_,.cons (c:=c) hc hg h t=>by
  obtain ⟨cs,h1,h2⟩:=t.cells
  refine ⟨c::cs,.cons h h1,fun j v hj=>?_⟩
  cases j with
  | zero=>simp at hj;subst hj;exact ⟨hc,hg⟩
  | succ j=>
   have:=h2 j v (by simpa using hj)
   rw [show o+1+j=o+(j+1) from by omega] at this
   exact this
theorem Wu.of_cells {w:World} {G:Yl} {b:Nat}:∀{o:Nat} {xs:List AV} {cs:List Value},YT w G xs cs ->
  (∀j v,cs[j]? = some v->w.cell? ⟨b,o+j,none⟩=some v/\G b (o+j))->Wu w G b o xs
 | _,_,_,.nil,_=>.nil
 | o,_,_,.cons (v:=c) h t,hc=>by
  have h0:=hc 0 c (by simp)
  refine .cons h0.1 h0.2 h (Wu.of_cells t fun j v hj=>?_)
  have:=hc (j+1) v (by simpa using hj)
  rw [show o+(j+1)=o+1+j from by omega] at this
  exact this
def Zu (es:List AV):List AV:=es.flatMap AV.leaves
theorem Vg.flat_mem {w:World} {G:Yl} {k:Nat}:∀{b o:Nat} {xs:List AV},Vg w G k b o xs->Wu w G b o (Zu xs)
 | _,_,_,.nil=>.nil
 | _,_,_,.cons hl h t=>by
  simp only [Zu,Cl]
  exact h.append (by rw [hl];exact t.flat_mem)
theorem Vg.of_flat {w:World} {G:Yl} {k:Nat} {b:Nat}:∀{o:Nat} (xs:List AV),(∀x∈xs,x.leaves.length=k)->Wu w G b o (Zu xs)->Vg w G k b o xs
 | _,[],_,_=>.nil
 | o,x::xs,hk,h=>by
  have hx:=hk x (by simp)
  simp only [Zu,Cl] at h
  have h1:=h.take x.leaves.length
  have h2:=h.drop x.leaves.length
  simp only [List.take_left',List.drop_left'] at h1 h2
  rw [hx] at h2
  exact .cons hx h1 (Vg.of_flat xs (fun y hy=>hk y (by simp [hy])) h2)
theorem Vg.len {w:World} {G:Yl} {k:Nat}:∀{b o:Nat} {xs:List AV},Vg w G k b o xs->∀x∈xs,x.leaves.length=k
 | _,_,_,.nil,x,h=>by simp at h
 | _,_,_,.cons hl _ t,x,h=>by
  rcases X0.1 h with rfl|h
  ·exact hl
  ·exact t.len x h
theorem TZ {k:Nat}:∀(xs:List AV),(∀x∈xs,x.leaves.length=k)->(Zu xs).length=xs.length*k
 | [],_=>by simp [Zu]
 | x::xs,h=>by
  have:=TZ xs (fun y hy=>h y (by simp [hy]))
  simp only [Zu,Cl,ZH,Ys] at this ⊢
  rw [this,h x (by simp),TN];omega
theorem Vg.get {w:World} {G:Yl} {k:Nat}:∀{b o:Nat} {xs:List AV},Vg w G k b o xs->∀(i:Nat) (x:AV),xs[i]? = some x->Wu w G b (o+i*k) x.leaves
 | _,_,_,.nil,i,x,h=>by simp at h
 | _,_,_,.cons hl h t,0,x,hx=>by simp at hx;subst hx;simpa using h
 | _,o,_,.cons hl h t,i+1,x,hx=>by
  have:=t.get i x (by simpa using hx)
  rw [show o+(i+1)*k=o+k+i*k from by rw [TN];omega]
  exact this
theorem Vg.drop {w:World} {G:Yl} {k:Nat}:∀(n:Nat) {b o:Nat} {xs:List AV},Vg w G k b o xs->Vg w G k b (o+n*k) (xs.drop n)
 | 0,_,_,_,h=>by simpa using h
 | n+1,_,_,_,.nil=>by simp;exact .nil
 | n+1,_,o,_,.cons hl h t=>by
  have:=t.drop n
  simp only [List.drop_succ_cons]
  rw [show o+(n+1)*k=o+k+n*k from by rw [TN];omega]
  exact this
theorem Vg.take {w:World} {G:Yl} {k:Nat}:∀(n:Nat) {b o:Nat} {xs:List AV},Vg w G k b o xs->Vg w G k b o (xs.take n)
 | 0,_,_,_,h=>by simp;exact .nil
 | n+1,_,_,_,.nil=>by simp;exact .nil
 | n+1,_,_,_,.cons hl h t=>by simp;exact .cons hl h (t.take n)
inductive Res where
 | obj (b:Nat) (ls:List AV)
 | tail (v:Value) (k:Nat)
 | ge (s:Nat)
 | vec (v:Value) (ls:List AV)
 | many (ts:List (Value × Nat))
 | own (B:List Nat) (m:Nat->Nat->Option Value)
 | row (v:Value) (k:Nat) (ls:List AV)
def MX:Value->Nat->Yl
 | .slice (some a) len _,k,b',o=>b'=a.block/\len*k<=o
 | _,_,_,_=>False
def Res.fp:Res->Yl
 | .obj b _,b',_=>b'=b
 | .tail (.slice (some a) len _) k,b',o=>b'=a.block/\len*k<=o
 | .tail _ _,_,_=>False
 | .ge _,_,_=>False
 | .vec (.slice (some a) _ _) _,b',_=>b'=a.block
 | .vec _ _,_,_=>False
 | .many ts,b',o=>∃p∈ts,MX p.1 p.2 b' o
 | .own B _,b',_=>b'∈B
 | .row (.slice (some a) _ _) _ _,b',_=>b'=a.block
 | .row _ _ _,_,_=>False
def Ip (w:World) (v:Value) (k:Nat):Prop:=
 v=.slice none 0 0∨∃g len cap cur e,v=.slice (some ⟨g,0,none⟩) len cap/\w.heap[g]? = some (.cells cur e (0,0))/\len<=cap/\cur.size=cap*k
def Ct (w:World) (G:Yl) (v:Value) (ls:List AV):Prop:=
 (v=.slice none 0 0/\ls=[])∨∃g cap cur e,v=.slice (some ⟨g,0,none⟩) ls.length cap/\w.heap[g]? = some (.cells cur e (0,0))/\ls.length<=cap/\cur.size=cap /\
  YT w G ls (cur.toList.take ls.length)
def BE (w:World) (G:Yl) (v:Value) (k:Nat) (ls:List AV):Prop:=
 (v=.slice none 0 0/\ls=[])∨∃g len cap cur e,v=.slice (some ⟨g,0,none⟩) len cap/\w.heap[g]? = some (.cells cur e (0,0))/\len<=cap/\cur.size=cap*k/\ls.length=len*k /\
  YT w G ls (cur.toList.take (len*k))
def QU (w:World) (G:Yl):Res->Prop
 | .obj b ls=>∃cs e,w.heap[b]? = some (.cells cs e (0,0))/\YT w G ls cs.toList
 | .tail v k=>Ip w v k
 | .ge s=>s<=w.heap.size
 | .vec v ls=>Ct w G v ls
 | .many ts=>(∀p∈ts,Ip w p.1 p.2)/\ts.Pairwise (fun p q=>∀b o,MX p.1 p.2 b o->MX q.1 q.2 b o->False)
 | .own B m=>∀b∈B,∃cs e,w.heap[b]? = some (.cells cs e (0,0))/\∀o,cs[o]? = m b o
 | .row v k ls=>BE w G v k ls
def Vu (h:List Res):Yl:=fun b o=>∃r∈h,r.fp b o
def Bz (r r':Res):Prop:=∀b o,r.fp b o->r'.fp b o->False
structure YL (w:World) (G:Yl) (h:List Res):Prop where
 ok:∀r∈h,QU w G r
 apart:h.Pairwise Bz
 prot:∀r∈h,∀b o,r.fp b o->G b o->False
 lt:∀b o,G b o->b<w.heap.size
theorem QU.lt {w:World} {G:Yl} {r:Res} (h:QU w G r):∀b o,r.fp b o->b<w.heap.size:=by
 intro b o hf
 cases r with
 | obj b' ls=>obtain ⟨cs,e,h1,_⟩:=h;cases hf;exact (UM.1 h1).1
 | tail v k=>
  rcases h with rfl|⟨g,len,cap,cur,e,rfl,h1,_⟩
  ·exact hf.elim
  ·obtain ⟨rfl,_⟩:=hf;exact (UM.1 h1).1
 | ge s=>exact hf.elim
 | vec v ls=>
  rcases h with ⟨rfl,_⟩|⟨g,cap,cur,e,rfl,h1,_⟩
  ·exact hf.elim
  ·have hf:b=g:=hf
   subst hf
   exact (UM.1 h1).1
 | many ts=>
  obtain ⟨p,hp,hf⟩:=hf
  rcases h.1 p hp with h0|⟨g,len,cap,cur,e,h0,h1,_⟩
  ·rw [h0] at hf;exact hf.elim
  ·rw [h0] at hf;obtain ⟨rfl,_⟩:=hf;exact (UM.1 h1).1
 | own B m=>obtain ⟨cs,e,h1,_⟩:=h b hf;exact (UM.1 h1).1
 | row v k ls=>
  rcases h with ⟨rfl,_⟩|⟨g,len,cap,cur,e,rfl,h1,_⟩
  ·exact hf.elim
  ·have hf:b=g:=hf
   subst hf
   exact (UM.1 h1).1
def KW (O:Yl) (b:Nat) (w w':World):Prop:=
 w'.heap[b]? = w.heap[b]?∨∃cs cs' e fr,w.heap[b]? = some (.cells cs e fr)/\w'.heap[b]? = some (.cells cs' e fr)/\cs'.size=cs.size/\∀o,¬O b o->cs'[o]? = cs[o]?
theorem KW.eq {O:Yl} {b:Nat} {w w':World} (h:KW O b w w') (hn:∀o,¬O b o):w'.heap[b]? = w.heap[b]?:=by
 rcases h with h|⟨cs,cs',e,fr,h1,h2,hs,hc⟩
 ·exact h
 ·have:cs'=cs:=by
   apply Array.ext hs
   intro i h1 h2
   have:=hc i (hn i)
   simpa [h1,h2] using this
  rw [h1,h2,this]
theorem KW.cell {O:Yl} {b:Nat} {w w':World} (h:KW O b w w') {o:Nat} (hn:¬O b o):w'.cell? ⟨b,o,none⟩=w.cell? ⟨b,o,none⟩:=by
 rcases h with h|⟨cs,cs',e,fr,h1,h2,hs,hc⟩
 ·simp [World.cell?,h]
 ·simp [World.cell?,h1,h2,hc o hn]
theorem KW.mono {O O':Yl} {b:Nat} {w w':World} (h:KW O b w w') (hO:∀o,O b o->O' b o):KW O' b w w':=by
 rcases h with h|⟨cs,cs',e,fr,h1,h2,hs,hc⟩
 ·exact .inl h
 ·exact .inr ⟨cs,cs',e,fr,h1,h2,hs,fun o hn=>hc o fun h=>hn (hO o h)⟩
theorem KW.trans {O:Yl} {b:Nat} {w w' w'':World} (h:KW O b w w') (k:KW O b w' w''):KW O b w w'':=by
 rcases h with h|⟨cs,cs',e,fr,h1,h2,hs,hc⟩
 ·rcases k with k|⟨cs,cs',e,fr,h1,h2,hs,hc⟩
  ·exact .inl (k.trans h)
  ·exact .inr ⟨cs,cs',e,fr,h▸h1,h2,hs,hc⟩
 ·rcases k with k|⟨ds,ds',e',fr',k1,k2,ks,kc⟩
  ·exact .inr ⟨cs,cs',e,fr,h1,k▸h2,hs,hc⟩
  ·rw [h2] at k1
   cases k1
   exact .inr ⟨cs,ds',e,fr,h1,k2,ks.trans hs,fun o hn=>(kc o hn).trans (hc o hn)⟩
structure Xb (w:World) (G:Yl) (h:List Res) (w':World) (G':Yl) (h':List Res):Prop where
 os:w'.os=w.os
 tape:w'.tape=w.tape
 output:w'.output=w.output
 size:w.heap.size<=w'.heap.size
 sub:∀b o,G b o->G' b o
 same:∀b,b<w.heap.size->KW (Vu h) b w w'
 newG:∀b o,b<w.heap.size->G' b o->G b o∨Vu h b o
 newfp:∀b o,b<w.heap.size->Vu h' b o->Vu h b o
theorem Xb.refl (w:World) (G:Yl) (h:List Res):Xb w G h w G h:=
 ⟨rfl,rfl,rfl,X2 _,fun _ _ h=>h,fun _ _=>.inl rfl,fun _ _ _ h=>.inl h,fun _ _ _ h=>h⟩
theorem Xb.trans {w w' w'':World} {G G' G'':Yl} {h h' h'':List Res} (a:Xb w G h w' G' h') (b:Xb w' G' h' w'' G'' h''):Xb w G h w'' G'' h'' where
 os:=b.os.trans a.os
 tape:=b.tape.trans a.tape
 output:=b.output.trans a.output
 size:=V7 a.size b.size
 sub:=fun x o hg=>b.sub x o (a.sub x o hg)
 same:=fun x hx=>(a.same x hx).trans ((b.same x (Nc hx a.size)).mono fun o ho=>a.newfp x o hx ho)
 newG:=fun x o hx hg=>by
  rcases b.newG x o (Nc hx a.size) hg with h1|h1
  ·exact a.newG x o hx h1
  ·exact .inr (a.newfp x o hx h1)
 newfp:=fun x o hx ho=>a.newfp x o hx (b.newfp x o (Nc hx a.size) ho)
theorem Xb.agree {w w':World} {G G':Yl} {h h':List Res} (e:Xb w G h w' G' h') (hk:YL w G h):VZ G w w' G' where
 cell:=fun b o hg=>(e.same b (hk.lt b o hg)).cell fun ⟨r,hr,hf⟩=>hk.prot r hr b o hf hg
 sub:=e.sub
theorem BW {h k:List Res} {b o:Nat}:Vu (h++k) b o↔Vu h b o∨Vu k b o:=by
 unfold Vu
 constructor
 ·rintro ⟨r,hr,hf⟩
  rcases Xg.1 hr with hr|hr
  ·exact .inl ⟨r,hr,hf⟩
  ·exact .inr ⟨r,hr,hf⟩
 ·rintro (⟨r,hr,hf⟩|⟨r,hr,hf⟩)
  ·exact ⟨r,Xg.2 (.inl hr),hf⟩
  ·exact ⟨r,Xg.2 (.inr hr),hf⟩
theorem YL.left {w:World} {G:Yl} {h k:List Res} (H:YL w G (h++k)):YL w G h:=
 ⟨fun r hr=>H.ok r (Xg.2 (.inl hr)),(Bv.1 H.apart).1,fun r hr=>H.prot r (Xg.2 (.inl hr)),H.lt⟩
theorem YL.cross {w:World} {G:Yl} {h k:List Res} (H:YL w G (h++k)) {b o:Nat} (h1:Vu h b o) (h2:Vu k b o):False:=by
 obtain ⟨r,hr,hf⟩:=h1
 obtain ⟨r',hr',hf'⟩:=h2
 exact (Bv.1 H.apart).2.2 r hr r' hr' b o hf hf'
theorem YL.frame {w w':World} {G G':Yl} {h h' k:List Res} (H:YL w G (h++k)) (e:Xb w G h w' G' h') (H':YL w' G' h') :
  YL w' G' (h'++k)/\Xb w G (h++k) w' G' (h'++k):=by
 have hA:=e.agree H.left
 have hkok:∀r∈k,QU w G r:=fun r hr=>H.ok r (Xg.2 (.inr hr))
 have hklt:∀b o,Vu k b o->b<w.heap.size:=fun b o ⟨r,hr,hf⟩=>(hkok r hr).lt b o hf
 refine ⟨⟨?_,?_,?_,H'.lt⟩,⟨e.os,e.tape,e.output,e.size,e.sub,?_,?_,?_⟩⟩
 ·intro r hr
  rcases Xg.1 hr with hr|hr
  ·exact H'.ok r hr
  ·have h0:=hkok r hr
   cases r with
   | obj b ls=>
    obtain ⟨cs,el,h1,h2⟩:=h0
    have hb:=(UM.1 h1).1
    refine ⟨cs,el,?_,h2.mono hA⟩
    rw [(e.same b hb).eq fun _ ho=>H.cross ho ⟨_,hr,rfl⟩]
    exact h1
   | tail v kk=>
    rcases h0 with rfl|⟨g,len,cap,cur,el,rfl,h1,h2,h3⟩
    ·exact .inl rfl
    ·have hb:=(UM.1 h1).1
     rcases e.same g hb with hs|⟨cs,cs',e',fr,k1,k2,k3,_⟩
     ·exact .inr ⟨g,len,cap,cur,el,rfl,hs.trans h1,h2,h3⟩
     ·rw [h1] at k1
      cases k1
      exact .inr ⟨g,len,cap,cs',el,rfl,k2,h2,k3.trans h3⟩
   | ge s=>exact V7 h0 e.size
   | vec v ls=>
    rcases h0 with ⟨rfl,h0⟩|⟨g,cap,cur,el,rfl,h1,h2,h3,h4⟩
    ·exact .inl ⟨rfl,h0⟩
    ·have hb:=(UM.1 h1).1
     refine .inr ⟨g,cap,cur,el,rfl,?_,h2,h3,h4.mono hA⟩
     rw [(e.same g hb).eq fun o ho=>H.cross ho ⟨_,hr,rfl⟩]
     exact h1
   | many ts=>
    refine ⟨fun p hp=>?_,h0.2⟩
    rcases h0.1 p hp with q|⟨g,len,cap,cur,el,q,h1,h2,h3⟩
    ·exact .inl q
    ·have hb:=(UM.1 h1).1
     rcases e.same g hb with hs|⟨cs,cs',e',fr,k1,k2,k3,_⟩
     ·exact .inr ⟨g,len,cap,cur,el,q,hs.trans h1,h2,h3⟩
     ·rw [h1] at k1
      cases k1
      exact .inr ⟨g,len,cap,cs',el,q,k2,h2,k3.trans h3⟩
   | own B m=>
    intro b hB
    obtain ⟨cs,el,h1,h2⟩:=h0 b hB
    have hb:=(UM.1 h1).1
    refine ⟨cs,el,?_,h2⟩
    rw [(e.same b hb).eq fun o ho=>H.cross ho ⟨_,hr,hB⟩]
    exact h1
   | row v k ls=>
    rcases h0 with ⟨rfl,h0⟩|⟨g,len,cap,cur,el,rfl,h1,h2,h3,h4,h5⟩
    ·exact .inl ⟨rfl,h0⟩
    ·have hb:=(UM.1 h1).1
     refine .inr ⟨g,len,cap,cur,el,rfl,?_,h2,h3,h4,h5.mono hA⟩
     rw [(e.same g hb).eq fun o ho=>H.cross ho ⟨_,hr,rfl⟩]
     exact h1
 ·refine Bv.2 ⟨H'.apart,(Bv.1 H.apart).2.1,fun r hr r' hr' b o hf hf'=>?_⟩
  have hb:=hklt b o ⟨r',hr',hf'⟩
  exact H.cross (e.newfp b o hb ⟨r,hr,hf⟩) ⟨r',hr',hf'⟩
 ·intro r hr b o hf hg
  rcases Xg.1 hr with hr|hr
  ·exact H'.prot r hr b o hf hg
  ·have hb:=hklt b o ⟨r,hr,hf⟩
   rcases e.newG b o hb hg with h1|h1
   ·exact H.prot r (Xg.2 (.inr hr)) b o hf h1
   ·exact H.cross h1 ⟨r,hr,hf⟩
 ·exact fun b hb=>(e.same b hb).mono fun _ ho=>BW.2 (.inl ho)
 ·intro b o hb hg
  exact (e.newG b o hb hg).imp id fun h=>BW.2 (.inl h)
 ·intro b o hb hf
  rcases BW.1 hf with h1|h1
  ·exact BW.2 (.inl (e.newfp b o hb h1))
  ·exact BW.2 (.inr h1)
theorem Bz.symm {r r':Res} (h:Bz r r'):Bz r' r:=fun b o h1 h2=>h b o h2 h1
theorem CH {h k:List Res} (p:h.Perm k) {b o:Nat}:Vu h b o↔Vu k b o:=
 ⟨fun ⟨r,hr,hf⟩=>⟨r,p.mem_iff.1 hr,hf⟩,fun ⟨r,hr,hf⟩=>⟨r,p.mem_iff.2 hr,hf⟩⟩
theorem YL.perm {w:World} {G:Yl} {h k:List Res} (H:YL w G h) (p:h.Perm k):YL w G k:=
 ⟨fun r hr=>H.ok r (p.mem_iff.2 hr),(p.pairwise_iff (fun h=>Bz.symm h)).1 H.apart,fun r hr=>H.prot r (p.mem_iff.2 hr),H.lt⟩
theorem Xb.perm {w w':World} {G G':Yl} {h h' k k':List Res} (e:Xb w G h w' G' h') (p:h.Perm k) (p':h'.Perm k'):Xb w G k w' G' k':=
 ⟨e.os,e.tape,e.output,e.size,e.sub,fun b hb=>(e.same b hb).mono fun _ ho=>(CH p).1 ho,
  fun b o hb hg=>(e.newG b o hb hg).imp id (CH p).1,fun b o hb hf=>(CH p).1 (e.newfp b o hb ((CH p').2 hf))⟩
abbrev Fr:=List (Nat × AV)
def Fr.get:Fr->Nat->AV
 | [],_=>.any
 | (s,x)::r,t=>match Nat.beq s t with | true=>x | false=>Fr.get r t
def AV.ofVal:Value->AV
 | .slice none 0 0=>.sl [] (some (.slice none 0 0))
 | v=>.val v
theorem RV.ofVal {w:World} {G:Yl} (v:Value):RV w G (AV.ofVal v) v:=by
 unfold AV.ofVal
 split
 ·exact .nil (by simp)
 ·exact .val
def Fr.ev (F:Fr):Operand->AV
 | .tmp t=>F.get t
 | .const v=>AV.ofVal v
 | .global g=>.val (.pointer (some ⟨g,0,none⟩))
 | .func f=>.val (.func (.func f) #[] #[])
def Fr.put (F:Fr) (d:Option Tmp) (x:AV):Fr:=
 match d with
 | some d=>(d,x)::F
 | none=>F
structure FR (w:World) (G:Yl) (n:Nat) (F:Fr) (a:Act):Prop where
 defers:a.defers=[]
 size:a.tmps.size=n
 get:∀t,RV w G (F.get t) (a.tmps.getD t undef)
section
variable {w w':World} {G G':Yl} {n:Nat} {F:Fr} {a:Act}
theorem FR.mono (h:FR w G n F a) (hA:VZ G w w' G'):FR w' G' n F a:=⟨h.defers,h.size,fun t=>(h.get t).mono hA⟩
theorem FR.ev (h:FR w G n F a) (x:Operand):RV w G (F.ev x) (a.eval x):=by
 cases x with
 | tmp t=>exact h.get t
 | const v=>exact RV.ofVal v
 | global g=>exact .val
 | func f=>exact .val
theorem FR.put (h:FR w G n F a) {d:Option Tmp} {x:AV} {v:Value} (hd:∀t,d=some t->t<n) (hx:RV w G x v):FR w G n (F.put d x) (a.put d v):=by
 cases d with
 | none=>exact h
 | some d=>
  have hlt:=hd d rfl
  refine ⟨h.defers,by simp [Act.put,h.size],fun t=>?_⟩
  show RV w G (match Nat.beq d t with|true=>x|false=>Fr.get F t) ((a.tmps.setIfInBounds d v).getD t undef)
  by_cases e:d=t
  ·subst e
   have:Nat.beq d d=true:=Nat.beq_refl d
   rw [this]
   simp [h.size,hlt,hx]
  ·have hb:Nat.beq d t=false:=by
    cases hh:Nat.beq d t
    ·rfl
    ·exact absurd (T1 hh) e
   rw [hb]
   have:=h.get t
   simpa [Array.getElem?_setIfInBounds_ne e] using this
end
def Fr.Le (F F':Fr):Prop:=∀w G v t,RV w G (F.get t) v->RV w G (F'.get t) v
theorem FR.le {w:World} {G:Yl} {n:Nat} {F F':Fr} {a:Act} (h:FR w G n F a) (hle:F.Le F'):FR w G n F' a:=
 ⟨h.defers,h.size,fun t=>hle _ _ _ _ (h.get t)⟩
abbrev WW:=Exit->Fr->List Res->Prop
def AW (n:Nat) (A:WW) (w:World) (G:Yl) (h:List Res) (e:Exit) (a':Act) (w':World):Prop:=
 ∃F' h' G',A e F' h'/\FR w' G' n F' a'/\YL w' G' h'/\Xb w G h w' G' h'
theorem AW.trans {n:Nat} {A:WW} {w w' w'':World} {G G':Yl} {h h':List Res} {e:Exit} {a:Act} (x:Xb w G h w' G' h') (c:AW n A w' G' h' e a w'') :
  AW n A w G h e a w'':=by
 obtain ⟨F,k,G'',h1,h2,h3,h4⟩:=c
 exact ⟨F,k,G'',h1,h2,h3,x.trans h4⟩
theorem AW.mono {n:Nat} {A B:WW} {w w':World} {G:Yl} {h:List Res} {e:Exit} {a:Act} (hAB:∀e F h,A e F h->B e F h) (c:AW n A w G h e a w') :
  AW n B w G h e a w':=by
 obtain ⟨F,k,G'',h1,h2,h3,h4⟩:=c
 exact ⟨F,k,G'',hAB _ _ _ h1,h2,h3,h4⟩
def Yw (P:Program) (n:Nat) (c:Code) (A:WW) (F:Fr) (h:List Res):Prop:=
 ∀w G a,FR w G n F a->YL w G h->c.wp P (AW n A w G h) a w
def V1 (P:Program) (f:FuncId) (args:List AV) (h:List Res) (R:AV->List Res->Prop):Prop:=
 ∀w G vs,YT w G args vs->YL w G h ->
  Calls P f vs.toArray w fun e w'=>∃v r h' G',e=.returned v/\R r h'/\RV w' G' r v/\YL w' G' h'/\Xb w G h w' G' h'
theorem V1.mono {P:Program} {f:FuncId} {args:List AV} {h:List Res} {R R':AV->List Res->Prop} (H:V1 P f args h R) (hR:∀r h',R r h'->R' r h') :
  V1 P f args h R':=fun w G vs ha hh=>(H w G vs ha hh).mono fun _ _ ⟨v,r,h',G',h1,h2,h3⟩=>⟨v,r,h',G',h1,hR _ _ h2,h3⟩
def WO (P:Program) (n:Nat) (o:Oper) (F:Fr) (h:List Res) (K:Fr->List Res->Prop):Prop:=
 ∀(Q:Exit->Act->World->Prop) w G a,FR w G n F a->YL w G h ->
  o.wp P a w (fun a' w'=>∃F' h' G',K F' h'/\FR w' G' n F' a'/\YL w' G' h'/\Xb w G h w' G' h') Q
def VR (n:Nat) (o:Oper):Bool:=match o.dst with|some d=>Nat.blt d n|none=>true
theorem TT {n:Nat} {o:Oper} (h:VR n o=true):∀t,o.dst=some t->t<n:=by
 intro t ht
 simp [VR,ht] at h
 exact h
def XS (P:Program) (o:Oper) (F:Fr) (h:List Res) (ks:List Nat) (x:AV):Prop:=
 ∀n w G a,FR w G n F a->YL w G h->∃v,RV w G x v /\
  ∀w',(∀b o,G b o->w'.cell? ⟨b,o,none⟩=w.cell? ⟨b,o,none⟩)->(∀b∈ks,w'.heap[b]? = w.heap[b]?)->(execOp a.eval o).run P w'=.ok (.value v) w'
theorem XS.op {P:Program} {n:Nat} {o:Oper} {F:Fr} {h:List Res} {ks:List Nat} {x:AV} {K:Fr->List Res->Prop} (hs:XS P o F h ks x) (hd:VR n o=true)
  (hK:K (F.put o.dst x) h):WO P n o F h K:=by
 intro Q w G a hF hh
 obtain ⟨v,hv,hr⟩:=hs n w G a hF hh
 unfold Oper.wp
 rw [hr w (fun _ _ _=>rfl) (fun _ _=>rfl)]
 exact ⟨_,h,G,hK,hF.put (TT hd) hv,hh,Xb.refl _ _ _⟩
def EK (op:BinOp) (k:IntKind) (a b:Int):Option Value:=
 match op with
 | .add=>some (.int k (k.wrap (a+b)))
 | .sub=>some (.int k (k.wrap (a-b)))
 | .mul=>some (.int k (k.wrap (a*b)))
 | .eql=>some (.bool (a==b))
 | .neq=>some (.bool (a != b))
 | .lss=>some (.bool (decide (a<b)))
 | .leq=>some (.bool (decide (a<=b)))
 | .gtr=>some (.bool (decide (a>b)))
 | .geq=>some (.bool (decide (a>=b)))
 | _=>none
def FI:IntKind->IntKind->Bool
 | .i8,.i8 | .i16,.i16 | .i32,.i32 | .i64,.i64 | .u8,.u8 | .u16,.u16 | .u32,.u32 | .u64,.u64=>true
 | _,_=>false
theorem Zfr {a b:IntKind} (h:FI a b=true):a=b:=by cases a<;>cases b<;>first|rfl|(simp [FI] at h)
def CQ (P:Program) (t:TypeId):Option (Array Field):=
 match P.underlying t with
 | some (.struct fs)=>some fs
 | _=>none
def DR (P:Program) (t:TypeId):Option Bool:=
 match P.underlying t with
 | some (.struct _) | some (.array _ _)=>some true
 | some _=>some false
 | none=>none
def EL (P:Program) (t:TypeId) (f:Nat):Option Nat:=
 match CQ P t with
 | some fs=>match fs[f]? with
  | some fd=>match (P.info? fd.type) with
   | some i=>match Nat.beq i.size 0 with | true=>none | false=>some fd.offset
   | none=>none
  | none=>none
 | none=>none
def Bk (P:Program) (t:TypeId) (ls:List AV):Option AV:=
 match DR P t,P.info? t with
 | some true,some i=>match Nat.ble i.size ls.length with | true=>some (.agg (ls.take i.size)) | false=>none
 | some false,some _=>ls.head?
 | _,_=>none
def AV.one:AV->Bool
 | .val v=>v.oneCell'
 | .sl _ _=>true
 | .rp _=>true
 | _=>false
def AV.fit:AV->Bool
 | .agg _=>true
 | x=>x.one
def Bc (place:Nat->Option (Nat × Nat)) (ls:List AV):List (Nat × AV)->Option (List AV)
 | []=>some ls
 | (i,x)::rest=>
  match place i with
  | none=>none
  | some (off,size)=>match x.fit&&(Nat.beq x.leaves.length size&&Nat.ble (off+size) ls.length) with
   | true=>Bc place (ls.take off++x.leaves++ls.drop (off+size)) rest
   | false=>none
def Ej (P:Program) (t:TypeId):Option (List AV):=
 match P.info? t with
 | some i=>match i.zero with
  | some z=>some (z.cells.toList.map AV.ofVal)
  | none=>none
 | none=>none
def Fj (P:Program) (fs:Array Field) (i:Nat):Option (Nat × Nat):=
 match fs[i]? with
 | some f=>match P.info? f.type with
  | some j=>some (f.offset,j.size)
  | none=>none
 | none=>none
def P1 (P:Program) (fs:Array Field):Bool:=fs.toList.all fun f=>(P.info? f.type).isSome
def Jj:List AV->Option (List Value)
 | []=>some []
 | .val v::r=>match Jj r with | some vs=>some (v::vs) | none=>none
 | _::_=>none
def Qm (P:Program) (o:Oper) (F:Fr) (h:List Res) (hint:Nat):Option (AV × List (Nat × Nat)):=
 match o.op with
 | .move x | .assign x=>some (F.ev x,[])
 | .pick c a b=>match F.ev c with
  | .val (.bool true)=>some (F.ev a,[])
  | .val (.bool false)=>some (F.ev b,[])
  | _=>none
 | .binOp op _ x y _=>match F.ev x,F.ev y with
  | .val (.int k a),.val (.int k' b)=>match FI k k' with
   | true=>match EK op k a b with
    | some v=>some (.val v,[])
    | none=>none
   | false=>none
  | _,_=>none
 | .unOp op _ x=>match op,F.ev x with
  | .not,.val (.bool b)=>some (.val (.bool (!b)),[])
  | _,_=>none
 | .nilCheck x=>match F.ev x with
  | .val (.pointer (some a))=>some (.val (.pointer (some a)),[])
  | .rp ls=>some (.rp ls,[])
  | .val (.func (.func f) p c)=>some (.val (.func (.func f) p c),[])
  | _=>none
 | .fieldAddr s x f=>match EL P s f with
  | some off=>match F.ev x with
   | .rp ls=>some (.rp (ls.drop off),[])
   | .val (.pointer (some ⟨b,o,none⟩))=>some (.val (.pointer (some ⟨b,o+off,none⟩)),[])
   | _=>none
  | none=>none
 | .field s x f=>match EL P s f,CQ P s with
  | some off,some fs=>match fs[f]? with
   | some fd=>match F.ev x with
    | .agg ls=>match Bk P fd.type (ls.drop off) with
     | some v=>some (v,[])
     | none=>none
    | _=>none
   | none=>none
  | _,_=>none
 | .load t x=>match F.ev x with
  | .rp ls=>match Bk P t ls with
   | some v=>some (v,[])
   | none=>none
  | .val (.pointer (some ⟨b,o,none⟩))=>match h[hint]? with
   | some (.obj b' ls)=>match Bk P t (ls.drop o) with
    | some v=>some (v,[(b,b')])
    | none=>none
   | _=>none
  | _=>none
 | .extract x i=>match F.ev x with
  | .tup vs=>match vs[i]? with
   | some v=>some (v,[])
   | none=>none
  | _=>none
 | .build t parts=>match CQ P t,Ej P t with
  | some fs,some z=>match P1 P fs with
   | true=>match Bc (Fj P fs) z (parts.toList.map fun p=>(p.1,F.ev p.2)) with
    | some ls=>some (.agg ls,[])
    | none=>none
   | false=>none
  | _,_=>none
 | .makeFunc fn first captured=>match Jj (first.toList.map F.ev),Jj (captured.toList.map F.ev) with
  | some vs,some us=>some (.val (.func fn vs.toArray us.toArray),[])
  | _,_=>none
 | .call c=>match c.callee,c.args.toList,c.argTypes.toList with
  | .builtin .len,[x],[t]=>match P.underlying t with
   | some (.slice _)=>match F.ev x with
    | .sl es _=>some (.val (.int .i64 (es.length:Int)),[])
    | .val (.slice _ len _)=>some (.val (.int .i64 (len:Int)),[])
    | _=>none
   | _=>none
  | _,_,_=>none
 | _=>none
theorem U6 {P:Program} {t:TypeId} {d:TypeDesc} (h:P.underlying t=some d) (w:World):(underlying t).run P w=.ok d w:=by
 simp [underlying,h]
theorem FH {P:Program} {t:TypeId} {i:TypeInfo} (h:P.info? t=some i) (w:World):(typeInfo t).run P w=.ok i w:=by
 simp [typeInfo,h]
theorem Qx {P:Program} {t:TypeId} {i:TypeInfo} (h:P.info? t=some i) (w:World):(sizeOf t).run P w=.ok i.size w:=by
 simp [sizeOf,FH h]
theorem LV {P:Program} {t:TypeId} {fs:Array Field} (h:CQ P t=some fs):P.underlying t=some (.struct fs):=by
 unfold CQ at h
 split at h
 ·simp_all
 ·cases h
theorem FF {P:Program} {t:TypeId} {b:Bool} (h:DR P t=some b) (w:World):(isAgg t).run P w=.ok b w:=by
 unfold DR at h
 split at h
 ·rename_i h';cases h;simp [isAgg,U6 h']
 ·rename_i h';cases h;simp [isAgg,U6 h']
 ·rename_i d hd1 hd2 h'
  cases h
  simp [isAgg,U6 h']
 ·cases h
theorem P0 {P:Program} {s:TypeId} {f off:Nat} (h:EL P s f=some off) :
  ∃fs fd i,P.underlying s=some (.struct fs)/\fs[f]? = some fd/\P.info? fd.type=some i/\i.size≠0/\fd.offset=off:=by
 unfold EL at h
 cases h1:CQ P s with
 | none=>simp [h1] at h
 | some fs=>
  cases h2:fs[f]? with
  | none=>simp [h1,h2] at h
  | some fd=>
   cases h3:P.info? fd.type with
   | none=>simp [h1,h2,h3] at h
   | some i=>
    cases h4:Nat.beq i.size 0 with
    | true=>simp [h1,h2,h3,h4] at h
    | false=>
     simp [h1,h2,h3,h4] at h
     refine ⟨fs,fd,i,LV h1,h2,h3,fun h0=>?_,h⟩
     rw [h0] at h4
     cases h4
theorem Jt (b o n:Nat):(⟨b,o,none⟩:Addr).add n=⟨b,o+n,none⟩:=by
 unfold Addr.add;split<;>simp_all
theorem Z0t {P:Program} {s:TypeId} {f off b o:Nat} (h:EL P s f=some off) (w:World) :
  (Instr.fieldAt s (.pointer (some ⟨b,o,none⟩)) f).run P w=.ok (.pointer (some ⟨b,o+off,none⟩)) w:=by
 obtain ⟨fs,fd,i,h1,h2,h3,h4,rfl⟩:=P0 h
 simp [Instr.fieldAt,U6 h1,h2,Instr.sureAddr,fieldPlace,Qx h3,h4,Jt]
theorem HN {P:Program} {t:TypeId} {ls:List AV} {x:AV} {w0:World} {G:Yl} {b o:Nat} {cs:List Value} (hx:Bk P t ls=some x) (hcs:YT w0 G ls cs) :
  ∃v,RV w0 G x v/\∀w',(∀j u,cs[j]? = some u->w'.cell? ⟨b,o+j,none⟩=some u)->(loadVar t ⟨b,o,none⟩).run P w'=.ok v w':=by
 unfold Bk at hx
 cases hb:DR P t with
 | none=>simp [hb] at hx
 | some g=>
  cases hi:P.info? t with
  | none=>cases g<;>simp [hb,hi] at hx
  | some i=>
   cases g with
   | true=>
    simp only [hb,hi] at hx
    cases hle:Nat.ble i.size ls.length with
    | false=>simp [hle] at hx
    | true=>
     simp only [hle,Wk] at hx
     subst hx
     have hlen:i.size<=ls.length:=Vd hle
     refine ⟨_,.agg (hcs.take i.size),fun w' hc=>?_⟩
     have Xo:(cs.take i.size).length=i.size:=by simp [hcs.length,hlen]
     have:=run_loadCells_list (P:=P) (w:=w') ⟨b,o,none⟩ (cs.take i.size) (fun j v hj=>by
      rw [Jt]
      rw [KR] at hj
      split at hj
      ·exact hc j v hj
      ·cases hj)
     rw [Xo] at this
     simp [loadVar,FF hb,Qx hi,this]
   | false=>
    simp only [hb,hi] at hx
    cases hcs with
    | nil=>simp at hx
    | cons h1 h2=>
     rename_i c vs xs
     simp at hx
     subst hx
     refine ⟨_,h1,fun w' hc=>?_⟩
     have:=hc 0 c (by simp)
     simp only [Cp] at this
     simp only [loadVar,Sem.run_bind,FF hb,Result.andThen_ok]
     simp [load,Sem.run,this]
theorem Vp {P:Program} {x:Sem Value} {w w':World} {v:Value} (h:x.run P w=.ok v w') :
  (do pure (Next.value (<-x)):Sem Next).run P w=.ok (.value v) w':=by
 simp [h]
theorem N3 {w:World} {G:Yl} {a:Act} {n:Nat} {F:Fr} (hF:FR w G n F a):∀{xs:List Operand} {vs:List Value},Jj (xs.map F.ev)=some vs->xs.map a.eval=vs
 | [],vs,h=>by simp [Jj] at h;simp [h]
 | x::xs,vs,h=>by
  simp only [Tm] at h ⊢
  have hx:=hF.ev x
  cases he:F.ev x with
  | val v=>
   simp only [he,Jj] at h
   cases h2:Jj (xs.map F.ev) with
   | none=>simp [h2] at h
   | some us=>
    simp [h2] at h
    rw [he] at hx
    cases hx
    rw [N3 hF h2,h]
  | any=>simp [he,Jj] at h
  | sl es hv=>simp [he,Jj] at h
  | agg ls=>simp [he,Jj] at h
  | rp ls=>simp [he,Jj] at h
  | tup vs=>simp [he,Jj] at h
theorem Z6q {P:Program} {op:BinOp} {k:IntKind} {a b:Int} {v:Value} (h:EK op k a b=some v) (xt:TypeId) (x y:Operand) (w:World) :
  (do eqGuard op xt x y (.int k a) (.int k b);binOp op xt (.int k a) (.int k b)).run P w=.ok v w:=by
 cases op<;>simp [EK] at h<;>subst h<;>simp [eqGuard,binOp,Op.intArith,Op.intCmp]
theorem RV.val_inv {w:World} {G:Yl} {v u:Value} (h:RV w G (.val v) u):u=v:=by cases h;rfl
theorem RV.one_cell {w:World} {G:Yl} {x:AV} {v:Value} (h:RV w G x v) (hx:x.one=true):v.oneCell'=true:=by
 cases h with
 | val=>exact hx
 | nil=>rfl
 | sl=>rfl
 | rp=>rfl
 | any=>simp [AV.one] at hx
 | agg=>simp [AV.one] at hx
 | tup=>simp [AV.one] at hx
theorem IL {v:Value} (h:v.oneCell'=true):v.cells.toList=[v]:=by
 cases v<;>first|rfl|(simp [Value.oneCell'] at h)
theorem RV.cells {w:World} {G:Yl} {x:AV} {v:Value} (h:RV w G x v) (hx:x.fit=true):YT w G x.leaves v.cells.toList:=by
 cases x with
 | agg ls=>cases h with | agg hh=>simpa [AV.leaves,Value.cells] using hh
 | any=>simp [AV.fit,AV.one] at hx
 | tup vs=>simp [AV.fit,AV.one] at hx
 | val u=>rw [IL (h.one_cell hx)];exact .cons h .nil
 | sl es hv=>rw [IL (h.one_cell rfl)];exact .cons h .nil
 | rp ls=>rw [IL (h.one_cell rfl)];exact .cons h .nil
theorem YT.one_cells {w:World} {G:Yl}:∀{xs:List AV} {vs:List Value},YT w G xs vs->xs.all AV.one=true->∀v∈vs,v.oneCell'=true
 | _,_,.nil,_,v,hv=>by simp at hv
 | _,_,.cons h t,hx,v,hv=>by
  simp only [List.all_cons,X1] at hx
  rcases X0.1 hv with rfl|hv
  ·exact h.one_cell hx.1
  ·exact t.one_cells hx.2 v hv
theorem Z11 (off:Nat):∀(vs:List Value) (i:Nat) (cs:Array Value),off+i+vs.length<=cs.size ->
  ((vs.zipIdx i).foldl (fun (cs:Array Value) (p:Value × Nat)=>cs.setIfInBounds (off+p.2) p.1) cs).toList=cs.toList.take (off+i)++vs++cs.toList.drop (off+i+vs.length)
 | [],i,cs,h=>by simp
 | v::vs,i,cs,h=>by
  simp only [List.zipIdx_cons,List.foldl_cons]
  rw [Z11 off vs (i+1) _ (by simp at h ⊢;omega)]
  have e:=list_seg_step cs.toList (off+i) v vs (by simp at h ⊢;omega)
  simpa [Array.toList_setIfInBounds,AS] using e
theorem Lu {w:World} {G:Yl} {place:Nat->Option (Nat × Nat)}:∀{parts:List (Nat × AV)} {vps:List (Nat × Value)} {ls out:List AV} {cs:Array Value},
  Bc place ls parts=some out->parts.map (·.1)=vps.map (·.1)->YT w G (parts.map (·.2)) (vps.map (·.2))->YT w G ls cs.toList ->
  ∃cs',Instr.fill place cs vps=some cs'/\YT w G out cs'.toList
 | [],vps,ls,out,cs,h,h1,h2,h3=>by
  cases vps with
  | nil=>simp [Bc] at h;subst h;exact ⟨cs,rfl,h3⟩
  | cons p r=>simp at h1
 | (i,x)::rest,vps,ls,out,cs,h,h1,h2,h3=>by
  cases vps with
  | nil=>simp at h1
  | cons p r=>
   obtain ⟨j,v⟩:=p
   simp only [Tm,List.cons.injEq] at h1 h2
   obtain ⟨rfl,h1⟩:=h1
   cases h2 with
   | cons hx ht=>
    simp only [Bc] at h
    cases hp:place i with
    | none=>simp [hp] at h
    | some os=>
     obtain ⟨off,size⟩:=os
     simp only [hp] at h
     cases hc:(x.fit&&(Nat.beq x.leaves.length size&&Nat.ble (off+size) ls.length)) with
     | false=>simp [hc] at h
     | true=>
      simp only [hc] at h
      simp only [X1] at hc
      have e1:x.leaves.length=size:=T1 hc.2.1
      have e2:off+size<=ls.length:=Vd hc.2.2
      have hl:=h3.length
      have hxc:=hx.cells hc.1
      have hvl:v.cells.size=size:=by have:=hxc.length;simpa [e1] using this
      have hcl:cs.size=ls.length:=by simpa using hl
      have key:YT w G (ls.take off++x.leaves++ls.drop (off+size))
        (v.cells.zipIdx.foldl (fun (cs:Array Value) (p:Value × Nat)=>cs.setIfInBounds (off+p.2) p.1) cs).toList:=by
       have:=Z11 off v.cells.toList 0 cs (by simp [hvl,hcl];omega)
       rw [<-Array.foldl_toList,Array.toList_zipIdx,this]
       simp only [Cp,JZ,hvl]
       exact ((h3.take off).append hxc).append (h3.drop (off+size))
      obtain ⟨cs',k1,k2⟩:=Lu h h1 ht key
      refine ⟨cs',?_,k2⟩
      simp only [Instr.fill,hp]
      rw [Za (by simp [hvl,hcl];omega)]
      exact k1
theorem Z2x {P:Program} {t:TypeId} {ls:List AV} (h:Ej P t=some ls) :
  ∃i z,P.info? t=some i/\i.zero=some z/\ls=z.cells.toList.map AV.ofVal:=by
 unfold Ej at h
 cases hi:P.info? t with
 | none=>simp [hi] at h
 | some i=>
  cases hz:i.zero with
  | none=>simp [hi,hz] at h
  | some z=>simp [hi,hz] at h;exact ⟨i,z,rfl,hz,h.symm⟩
theorem YT.ofVals {w:World} {G:Yl}:∀(vs:List Value),YT w G (vs.map AV.ofVal) vs
 | []=>.nil
 | v::vs=>.cons (RV.ofVal v) (YT.ofVals vs)
theorem YT.map {w:World} {G:Yl} {α:Type} (f:α->AV) (g:α->Value):∀(xs:List α),(∀x∈xs,RV w G (f x) (g x))->YT w G (xs.map f) (xs.map g)
 | [],_=>.nil
 | x::xs,h=>.cons (h x (by simp)) (YT.map f g xs fun y hy=>h y (by simp [hy]))
theorem Z0v {P:Program} (w:World):∀(l:List Field),(l.all fun f=>(P.info? f.type).isSome)=true ->
  (List.mapM (m:=Sem) (fun f=>Functor.map (Prod.mk f.offset) (sizeOf f.type)) l).run P w=.ok (l.map fun f=>(f.offset,((P.info? f.type).map (·.size)).getD 0)) w
 | [],_=>by simp
 | f::l,h=>by
  simp only [List.all_cons,X1] at h
  cases hfi:P.info? f.type with
  | none=>simp [hfi] at h
  | some j=>simp [Qx hfi,Z0v w l h.2,hfi]
theorem Zfm {P:Program} {t:TypeId} {fs:Array Field} {z ls:List AV} {w:World} {G:Yl} {n:Nat} {F:Fr} {a:Act} (hF:FR w G n F a) (parts:Array (Nat × Operand))
  (h1:CQ P t=some fs) (h2:Ej P t=some z) (h4:P1 P fs=true) (h3:Bc (Fj P fs) z (parts.toList.map fun p=>(p.1,F.ev p.2))=some ls) :
  ∃v,RV w G (.agg ls) v/\∀w',(Instr.build t (parts.map fun (i,x)=>(i,a.eval x))).run P w'=.ok v w':=by
 obtain ⟨i,zv,hi,hz,rfl⟩:=Z2x h2
 have hu:=LV h1
 have hpl:∀k,((fs.toList.map fun f=>(f.offset,((P.info? f.type).map (·.size)).getD 0)).toArray)[k]? = Fj P fs k:=by
  intro k
  unfold Fj
  simp only [List.getElem?_toArray,Jo,Ic]
  cases hk:fs[k]? with
  | none=>rfl
  | some f=>
   have hf:(P.info? f.type).isSome=true:=by
    have:=A0.1 h4 f (by rw [Array.mem_toList_iff];exact Array.mem_of_getElem? hk)
    exact this
   cases hfi:P.info? f.type with
   | none=>simp [hfi] at hf
   | some j=>simp [hfi]
 obtain ⟨cs',k1,k2⟩:=Lu (w:=w) (G:=G) (vps:=parts.toList.map fun p=>(p.1,a.eval p.2)) h3 (by simp [List.map_map,Function.comp_def])
  (by simpa [List.map_map,Function.comp_def] using YT.map (fun p:Nat × Operand=>F.ev p.2) (fun p=>a.eval p.2) parts.toList fun p _=>hF.ev p.2)
  (cs:=zv.cells) (YT.ofVals _)
 refine ⟨_,.agg (cs:=cs'.toList) k2,fun w'=>?_⟩
 have hz':(zeroValue t).run P w'=.ok zv w':=by simp [zeroValue,FH hi,hz]
 have hm:=Z0v (P:=P) w' fs.toList h4
 have hfun:(fun k=>((fs.toList.map fun f=>(f.offset,((P.info? f.type).map (·.size)).getD 0)).toArray)[k]?)=Fj P fs:=funext hpl
 simp only [Instr.build,Sem.run_bind,hz',Result.andThen_ok,U6 hu,Array.mapM_eq_mapM_toList]
 simp [hm,hpl,k1,Array.toList_map]
theorem DH {P:Program} {o:Oper} {F:Fr} {h:List Res} {hint:Nat} {x:AV} {eqs:List (Nat × Nat)} (he:Qm P o F h hint=some (x,eqs))
  (heq:∀p∈eqs,p.1=p.2):XS P o F h (eqs.map (·.1)) x:=by
 intro n w G a hF hh
 obtain ⟨dst,op,type,pos,after,guard⟩:=o
 cases op<;>simp only [Qm] at he
 case move y=>
  cases he
  exact ⟨_,hF.ev y,fun w' _ _=>by simp [execOp]⟩
 case assign y=>
  cases he
  exact ⟨_,hF.ev y,fun w' _ _=>by simp [execOp]⟩
 case pick c y z=>
  have hc:=hF.ev c
  split at he
  ·rename_i hb
   cases he
   rw [hb] at hc
   have hc:=hc.val_inv
   exact ⟨_,hF.ev y,fun w' _ _=>by simp [execOp,hc,asBool]⟩
  ·rename_i hb
   cases he
   rw [hb] at hc
   have hc:=hc.val_inv
   exact ⟨_,hF.ev z,fun w' _ _=>by simp [execOp,hc,asBool]⟩
  ·cases he
 case binOp bop xt y z yt=>
  have hy:=hF.ev y
  have hz:=hF.ev z
  split at he
  ·rename_i k p k' q h1 h2
   rw [h1] at hy
   rw [h2] at hz
   have hy:=hy.val_inv
   have hz:=hz.val_inv
   split at he
   ·rename_i hk
    have hk:=Zfr hk
    subst hk
    split at he
    ·rename_i v hv
     cases he
     refine ⟨v,.val,fun w' _ _=>?_⟩
     have:=Z6q (P:=P) hv xt y z w'
     simp only [execOp,hy,hz]
     exact Vp this
    ·cases he
   ·cases he
  ·cases he
 case unOp uop xt y=>
  have hy:=hF.ev y
  split at he
  ·rename_i b hb
   cases he
   rw [hb] at hy
   have hy:=hy.val_inv
   exact ⟨_,.val,fun w' _ _=>by simp [execOp,hy,Op.unary]⟩
  ·cases he
 case nilCheck y=>
  have hy:=hF.ev y
  generalize hv:a.eval y=u at hy
  split at he
  ·rename_i ad hb
   cases he
   rw [hb] at hy
   have hy:=hy.val_inv
   exact ⟨_,.val,fun w' _ _=>by simp [execOp,hv,hy]⟩
  ·rename_i ls hb
   cases he
   rw [hb] at hy
   cases hy with
   | rp hm=>exact ⟨_,.rp hm,fun w' _ _=>by simp [execOp,hv]⟩
  ·rename_i f p c hb
   cases he
   rw [hb] at hy
   have hy:=hy.val_inv
   exact ⟨_,.val,fun w' _ _=>by simp [execOp,hv,hy]⟩
  ·cases he
 case fieldAddr s y f=>
  have hy:=hF.ev y
  generalize hv:a.eval y=u at hy
  split at he
  ·rename_i off hoff
   split at he
   ·rename_i ls hb
    cases he
    rw [hb] at hy
    cases hy with
    | rp hm=>
     refine ⟨_,.rp (hm.drop off),fun w' _ _=>?_⟩
     simp only [execOp,hv]
     exact Vp (Z0t hoff w')
   ·rename_i b o' hb
    cases he
    rw [hb] at hy
    have hy:=hy.val_inv
    subst hy
    refine ⟨_,.val,fun w' _ _=>?_⟩
    simp only [execOp,hv]
    exact Vp (Z0t hoff w')
   ·cases he
  ·cases he
 case field s y f=>
  have hy:=hF.ev y
  generalize hv:a.eval y=u at hy
  split at he
  ·rename_i off fs hoff hfs
   split at he
   ·rename_i fd hfd
    split at he
    ·rename_i ls hb
     split at he
     ·rename_i v hl
      cases he
      rw [hb] at hy
      cases hy with
      | agg hc=>
       rename_i cs
       obtain ⟨fs',fd',i,k1,k2,k3,k4,rfl⟩:=P0 hoff
       have k0:=LV hfs
       rw [k0] at k1
       cases k1
       rw [hfd] at k2
       cases k2
       have hd:=hc.drop fd.offset
       unfold Bk at hl
       cases hg:DR P fd.type with
       | none=>simp [hg] at hl
       | some g=>
        cases g with
        | true=>
         simp only [hg,k3] at hl
         cases hle:Nat.ble i.size (ls.drop fd.offset).length with
         | false=>rw [hle] at hl;cases hl
         | true=>
          rw [hle] at hl
          simp only [Wk] at hl
          subst hl
          refine ⟨_,.agg (hd.take i.size),fun w' _ _=>?_⟩
          simp only [execOp,hv]
          refine Vp ?_
          simp only [Instr.field,Sem.run_bind,U6 k0,Result.andThen_ok,hfd]
          simp [asAgg,part,FF hg,Qx k3]
        | false=>
         simp only [hg,k3] at hl
         generalize hls:ls.drop fd.offset=ls' at hl hd
         generalize hcs:cs.drop fd.offset=cs' at hd
         cases hd with
         | nil=>simp at hl
         | cons h1 h2=>
          rename_i c vs xs
          simp at hl
          subst hl
          refine ⟨_,h1,fun w' _ _=>?_⟩
          simp only [execOp,hv]
          refine Vp ?_
          have hget:cs[fd.offset]? = some c:=by
           have:=Yn (fun l=>l[0]?) hcs
           simpa using this
          simp only [Instr.field,Sem.run_bind,U6 k0,Result.andThen_ok,hfd]
          simp [asAgg,part,FF hg,hget]
     ·cases he
    ·cases he
   ·cases he
  ·cases he
 case load t y=>
  have hy:=hF.ev y
  generalize hv:a.eval y=u at hy
  split at he
  ·rename_i ls hb
   split at he
   ·rename_i v hl
    cases he
    rw [hb] at hy
    cases hy with
    | rp hm=>
     rename_i b o'
     obtain ⟨cs,Z9,Zh⟩:=hm.cells
     obtain ⟨v',h1,h2⟩:=HN (b:=b) (o:=o') hl Z9
     refine ⟨v',h1,fun w' hw _=>?_⟩
     simp only [execOp,hv]
     refine Vp ?_
     simp only [Instr.loadAt,Instr.sureAddr,Sem.run_bind,Sem.run_pure,Result.andThen_ok]
     exact h2 w' fun j u hj=>(hw _ _ (Zh j u hj).2).trans (Zh j u hj).1
   ·cases he
  ·rename_i b o' hb
   split at he
   ·rename_i b' ls hh'
    split at he
    ·rename_i v hl
     cases he
     rw [hb] at hy
     have hy:=hy.val_inv
     subst hy
     have hbb:b=b':=heq (b,b') (by simp)
     subst hbb
     obtain ⟨cs,e,k1,k2⟩:=hh.ok _ (Y4 hh')
     obtain ⟨v',h1,h2⟩:=HN (b:=b) (o:=o') hl (k2.drop o')
     refine ⟨v',h1,fun w' _ hw=>?_⟩
     simp only [execOp,hv]
     refine Vp ?_
     simp only [Instr.loadAt,Instr.sureAddr,Sem.run_bind,Sem.run_pure,Result.andThen_ok]
     refine h2 w' fun j u hj=>?_
     have:=hw b (by simp)
     rw [k1] at this
     rw [cell_of_row w' b (o'+j) cs e (0,0) this]
     simpa using hj
    ·cases he
   ·cases he
  ·cases he
 case extract y i=>
  have hy:=hF.ev y
  generalize hv:a.eval y=u at hy
  split at he
  ·rename_i vs hb
   split at he
   ·rename_i v hl
    cases he
    rw [hb] at hy
    cases hy with
    | tup hc=>
     rename_i cs
     obtain ⟨c,h1,h2⟩:=hc.get i _ hl
     exact ⟨c,h2,fun w' _ _=>by simp [execOp,hv,Instr.extract,h1]⟩
   ·cases he
  ·cases he
 case build t parts=>
  split at he
  ·rename_i fs z h1 h2
   split at he
   ·rename_i h4
    split at he
    ·rename_i ls h3
     cases he
     obtain ⟨v,hv1,hv2⟩:=Zfm hF parts h1 h2 h4 h3
     exact ⟨v,hv1,fun w' _ _=>by simp only [execOp];exact Vp (hv2 w')⟩
    ·cases he
   ·cases he
  ·cases he
 case makeFunc fn first captured=>
  split at he
  ·rename_i vs us h1 h2
   cases he
   have e1:=N3 hF h1
   have e2:=N3 hF h2
   refine ⟨_,.val,fun w' _ _=>?_⟩
   have e1':first.map a.eval=vs.toArray:=by rw [<-e1,<-Array.toList_map,UZ]
   have e2':captured.map a.eval=us.toArray:=by rw [<-e2,<-Array.toList_map,UZ]
   simp only [execOp]
   exact Vp (by simp only [Instr.makeFunc,e1',e2'];simp)
  ·cases he
 case call c=>
  obtain ⟨callee,args,argTypes⟩:=c
  simp only at he
  split at he
  ·rename_i y t hargs htys
   split at he
   ·rename_i el hu
    have hy:=hF.ev y
    generalize hv:a.eval y=u at hy
    have ha:args=#[y]:=by rw [<-UZ (xs:=args),hargs]
    have ht:argTypes=#[t]:=by rw [<-UZ (xs:=argTypes),htys]
    subst ha;subst ht
    split at he
    ·rename_i es hv' hb
     cases he
     rw [hb] at hy
     refine ⟨.int .i64 es.length,.val,fun w' _ _=>?_⟩
     cases hy with
     | nil hx=>simp [execOp,resolve,invoke,builtin,hv,Builtin.len_,U6 hu,goInt]
     | sl hx hc hm=>simp [execOp,resolve,invoke,builtin,hv,Builtin.len_,U6 hu,goInt]
    ·rename_i ad len cap hb
     cases he
     rw [hb] at hy
     have hy:=hy.val_inv
     subst hy
     exact ⟨.int .i64 len,.val,fun w' _ _=>by simp [execOp,resolve,invoke,builtin,hv,Builtin.len_,U6 hu,goInt]⟩
    ·cases he
   ·cases he
  ·cases he
 all_goals (cases he)
def BA (h:List Res) (b:Nat):Prop:=∀s,Res.ge s∈h->s<=b
theorem LH {w:World} {G:Yl} {h:List Res} (hh:YL w G h):BA h w.heap.size:=fun _ hs=>hh.ok _ hs
theorem H0 (w:World) (o:Obj):(w.alloc o).heap[w.heap.size]? = some o:=heap_alloc_new w o
theorem C1 (w:World) (o:Obj) {b:Nat} (hb:b<w.heap.size):(w.alloc o).heap[b]? = w.heap[b]?:=heap_alloc_old w o b hb
theorem Ez (w:World) (o:Obj) {b j:Nat} (hb:b<w.heap.size):(w.alloc o).cell? ⟨b,j,none⟩=w.cell? ⟨b,j,none⟩:=by
 simp [World.cell?,C1 w o hb]
theorem YL.alloc {w:World} {G:Yl} {h:List Res} (hh:YL w G h) (o:Obj) {G':Yl} {h':List Res}
  (hsub:∀b o,G b o->G' b o) (hG:∀b o,G' b o->G b o∨b=w.heap.size) (hnew:∀r∈h',QU (w.alloc o) G' r)
  (hfp:∀r∈h',∀b o,r.fp b o->b=w.heap.size) (hap:h'.Pairwise Bz) (hpr:∀r∈h',∀b o,r.fp b o->G' b o->False) :
  YL (w.alloc o) G' (h'++h)/\Xb w G h (w.alloc o) G' (h'++h):=by
 have hA:VZ G w (w.alloc o) G':=⟨fun b j hg=>Ez w o (hh.lt b j hg),hsub⟩
 have Xo:(w.alloc o).heap.size=w.heap.size+1:=by simp
 refine ⟨⟨?_,?_,?_,?_⟩,⟨rfl,rfl,rfl,by omega,hsub,fun b hb=>.inl (C1 w o hb),?_,?_⟩⟩
 ·intro r hr
  rcases Xg.1 hr with hr|hr
  ·exact hnew r hr
  ·have h0:=hh.ok r hr
   cases r with
   | obj b ls=>
    obtain ⟨cs,el,h1,h2⟩:=h0
    exact ⟨cs,el,(C1 w o (UM.1 h1).1).trans h1,h2.mono hA⟩
   | tail v k=>
    rcases h0 with rfl|⟨g,len,cap,cur,el,rfl,h1,h2,h3⟩
    ·exact .inl rfl
    ·exact .inr ⟨g,len,cap,cur,el,rfl,(C1 w o (UM.1 h1).1).trans h1,h2,h3⟩
   | ge s=>exact V7 h0 om
   | vec v ls=>
    rcases h0 with ⟨rfl,h0⟩|⟨g,cap,cur,el,rfl,h1,h2,h3,h4⟩
    ·exact .inl ⟨rfl,h0⟩
    ·exact .inr ⟨g,cap,cur,el,rfl,(C1 w o (UM.1 h1).1).trans h1,h2,h3,h4.mono hA⟩
   | many ts=>
    refine ⟨fun p hp=>?_,h0.2⟩
    rcases h0.1 p hp with q|⟨g,len,cap,cur,el,q,h1,h2,h3⟩
    ·exact .inl q
    ·exact .inr ⟨g,len,cap,cur,el,q,(C1 w o (UM.1 h1).1).trans h1,h2,h3⟩
   | own B m=>
    intro b hB
    obtain ⟨cs,el,h1,h2⟩:=h0 b hB
    exact ⟨cs,el,(C1 w o (UM.1 h1).1).trans h1,h2⟩
   | row v k ls=>
    rcases h0 with ⟨rfl,h0⟩|⟨g,len,cap,cur,el,rfl,h1,h2,h3,h4,h5⟩
    ·exact .inl ⟨rfl,h0⟩
    ·exact .inr ⟨g,len,cap,cur,el,rfl,(C1 w o (UM.1 h1).1).trans h1,h2,h3,h4,h5.mono hA⟩
 ·refine Bv.2 ⟨hap,hh.apart,fun r hr r' hr' b j hf hf'=>?_⟩
  have e:=hfp r hr b j hf
  have:=(hh.ok r' hr').lt b j hf'
  omega
 ·intro r hr b j hf hg
  rcases Xg.1 hr with hr|hr
  ·exact hpr r hr b j hf hg
  ·rcases hG b j hg with h1|h1
   ·exact hh.prot r hr b j hf h1
   ·have:=(hh.ok r hr).lt b j hf
    omega
 ·intro b j hg
  rcases hG b j hg with h1|h1
  ·have:=hh.lt b j h1;omega
  ·omega
 ·intro b j hb hg
  rcases hG b j hg with h1|h1
  ·exact .inl h1
  ·omega
 ·intro b j hb hf
  rcases BW.1 hf with ⟨r,hr,h1⟩|h1
  ·have:=hfp r hr b j h1;omega
  ·exact h1
theorem YL.alloc_obj {w:World} {G:Yl} {h:List Res} (hh:YL w G h) (cs:Array Value) (t:TypeId) {ls:List AV} (hls:YT w G ls cs.toList) :
  YL (w.alloc (.cells cs t)) G (.obj w.heap.size ls::h)/\Xb w G h (w.alloc (.cells cs t)) G (.obj w.heap.size ls::h):=by
 have hA:VZ G w (w.alloc (.cells cs t)) G:=⟨fun b j hg=>Ez w _ (hh.lt b j hg),fun _ _ h=>h⟩
 refine hh.alloc (.cells cs t) (h':=[.obj w.heap.size ls]) (fun _ _ h=>h) (fun _ _ h=>.inl h) ?_ ?_ (Em _ _) ?_
 ·intro r hr
  rw [Xs.1 hr]
  exact ⟨cs,t,H0 w _,hls.mono hA⟩
 ·intro r hr b j hf
  rw [Xs.1 hr] at hf
  exact hf
 ·intro r hr b j hf hg
  rw [Xs.1 hr] at hf
  have:=hh.lt b j hg
  have:b=w.heap.size:=hf
  omega
section
variable {P:Program} {n:Nat} {o:Oper} {F:Fr} {h:List Res} {K:Fr->List Res->Prop}
theorem Zd6 (t:TypeId) {ls:List AV} (ho:o.op=.alloc t) (hz:Ej P t=some ls) (hd:VR n o=true)
  (hK:∀b,BA h b->K (F.put o.dst (.val (.pointer (some ⟨b,0,none⟩)))) (.obj b ls::h)):WO P n o F h K:=by
 intro Q w G a hF hh
 obtain ⟨i,z,hi,hzz,rfl⟩:=Z2x hz
 have hr:(execOp a.eval o).run P w=.ok (.value (.pointer (some ⟨w.heap.size,0,none⟩))) (w.alloc (.cells z.cells t)):=by
  simp only [execOp,ho]
  simp [Instr.alloc,zeroValue,FH hi,hzz,newVar,newRow]
 unfold Oper.wp
 rw [hr]
 have hls:YT w G (z.cells.toList.map AV.ofVal) z.cells.toList:=YT.ofVals _
 obtain ⟨h1,h2⟩:=hh.alloc_obj z.cells t hls
 exact ⟨_,_,G,hK _ (LH hh),(hF.mono (h2.agree hh)).put (TT hd) .val,h1,h2⟩
theorem Zd8 (t:TypeId) (x:Operand) {X:AV} (ho:o.op=.box t x) (hx:F.ev x=X) (hfit:X.fit=true) (hd:VR n o=true)
  (hK:∀b,BA h b->K (F.put o.dst (.val (.pointer (some ⟨b,0,none⟩)))) (.obj b X.leaves::h)):WO P n o F h K:=by
 intro Q w G a hF hh
 have hv:=hF.ev x
 rw [hx] at hv
 have hr:(execOp a.eval o).run P w=.ok (.value (.pointer (some ⟨w.heap.size,0,none⟩))) (w.alloc (.cells (a.eval x).cells t)):=by
  simp only [execOp,ho]
  simp [Instr.box,newVar,newRow]
 unfold Oper.wp
 rw [hr]
 obtain ⟨h1,h2⟩:=hh.alloc_obj (a.eval x).cells t (hv.cells hfit)
 exact ⟨_,_,G,hK _ (LH hh),(hF.mono (h2.agree hh)).put (TT hd) .val,h1,h2⟩
end
theorem VN (w:World) (g b:Nat) (cs:Array Value) (hb:b≠g):(w.setRow g cs).heap[b]? = w.heap[b]?:=setRow_other w g b cs hb
theorem YL.write {w:World} {G:Yl} {h1 h2:List Res} {b:Nat} {ls ls':List AV} (hh:YL w G (h1++.obj b ls::h2)) {cs cs':Array Value} {e:TypeId}
  (hb:w.heap[b]? = some (.cells cs e (0,0))) (Xo:cs'.size=cs.size) (hls:YT w G ls' cs'.toList) :
  YL (w.setRow b cs') G (h1++.obj b ls'::h2)/\Xb w G (h1++.obj b ls::h2) (w.setRow b cs') G (h1++.obj b ls'::h2):=by
 have hmem:Res.obj b ls∈h1++.obj b ls::h2:=by simp
 have hA:VZ G w (w.setRow b cs') G:=⟨fun c j hg=>by
  have hne:c≠b:=fun he=>hh.prot _ hmem c j he hg
  simp [World.cell?,VN w b c cs' hne],fun _ _ h=>h⟩
 have hfpe:∀c j,Vu (h1++.obj b ls'::h2) c j↔Vu (h1++.obj b ls::h2) c j:=by
  intro c j
  simp only [Vu,Xg,X0]
  constructor
  ·rintro ⟨r,hr|rfl|hr,hf⟩
   ·exact ⟨r,.inl hr,hf⟩
   ·exact ⟨_,.inr (.inl rfl),hf⟩
   ·exact ⟨r,.inr (.inr hr),hf⟩
  ·rintro ⟨r,hr|rfl|hr,hf⟩
   ·exact ⟨r,.inl hr,hf⟩
   ·exact ⟨_,.inr (.inl rfl),hf⟩
   ·exact ⟨r,.inr (.inr hr),hf⟩
 have hpw:=Bv.1 hh.apart
 have hpw2:=Uh.1 hpw.2.1
 have hother:∀r,(r∈h1∨r∈h2)->∀c j,r.fp c j->c≠b:=by
  intro r hr c j hf hc
  subst hc
  rcases hr with hr|hr
  ·exact hpw.2.2 r hr (.obj c ls) (by simp) c j hf rfl
  ·exact hpw2.1 r hr c j rfl hf
 have hkeep:∀r,(r∈h1∨r∈h2)->QU w G r->QU (w.setRow b cs') G r:=by
  intro r hr h0
  cases r with
  | obj c ks=>
   obtain ⟨ds,el,k1,k2⟩:=h0
   have hne:c≠b:=hother _ hr c 0 rfl
   exact ⟨ds,el,(VN w b c cs' hne).trans k1,k2.mono hA⟩
  | tail v k=>
   rcases h0 with rfl|⟨g,len,cap,cur,el,rfl,k1,k2,k3⟩
   ·exact .inl rfl
   ·have hne:g≠b:=hother _ hr g (len*k) ⟨rfl,X2 _⟩
    exact .inr ⟨g,len,cap,cur,el,rfl,(VN w b g cs' hne).trans k1,k2,k3⟩
  | ge s=>exact V7 h0 (by simp [World.setRow])
  | vec v ks=>
   rcases h0 with ⟨rfl,h0⟩|⟨g,cap,cur,el,rfl,k1,k2,k3,k4⟩
   ·exact .inl ⟨rfl,h0⟩
   ·have hne:g≠b:=hother _ hr g 0 rfl
    exact .inr ⟨g,cap,cur,el,rfl,(VN w b g cs' hne).trans k1,k2,k3,k4.mono hA⟩
  | many ts=>
   refine ⟨fun p hp=>?_,h0.2⟩
   rcases h0.1 p hp with q|⟨g,len,cap,cur,el,q,k1,k2,k3⟩
   ·exact .inl q
   ·have hne:g≠b:=hother _ hr g (len*p.2) ⟨p,hp,by rw [q];exact ⟨rfl,X2 _⟩⟩
    exact .inr ⟨g,len,cap,cur,el,q,(VN w b g cs' hne).trans k1,k2,k3⟩
  | own B m=>
   intro c hc
   obtain ⟨ds,el,k1,k2⟩:=h0 c hc
   have hne:c≠b:=hother _ hr c 0 hc
   exact ⟨ds,el,(VN w b c cs' hne).trans k1,k2⟩
  | row v k ks=>
   rcases h0 with ⟨rfl,h0⟩|⟨g,len,cap,cur,el,rfl,k1,k2,k3,k4,k5⟩
   ·exact .inl ⟨rfl,h0⟩
   ·have hne:g≠b:=hother _ hr g 0 rfl
    exact .inr ⟨g,len,cap,cur,el,rfl,(VN w b g cs' hne).trans k1,k2,k3,k4,k5.mono hA⟩
 refine ⟨⟨?_,?_,?_,?_⟩,⟨rfl,rfl,rfl,by simp [World.setRow],fun _ _ h=>h,?_,fun _ _ _ h=>.inl h,fun c j _ hf=>(hfpe c j).1 hf⟩⟩
 ·intro r hr
  rcases Xg.1 hr with hr|hr
  ·exact hkeep r (.inl hr) (hh.ok r (by simp [hr]))
  ·rcases X0.1 hr with rfl|hr
   ·exact ⟨cs',e,setRow_heap w b cs cs' e (0,0) hb,hls.mono hA⟩
   ·exact hkeep r (.inr hr) (hh.ok r (by simp [hr]))
 ·refine Bv.2 ⟨hpw.1,Uh.2 ⟨hpw2.1,hpw2.2⟩,fun r hr r' hr'=>?_⟩
  rcases X0.1 hr' with rfl|hr'
  ·exact hpw.2.2 r hr (.obj b ls) (by simp)
  ·exact hpw.2.2 r hr r' (by simp [hr'])
 ·intro r hr c j hf hg
  rcases Xg.1 hr with hr|hr
  ·exact hh.prot r (by simp [hr]) c j hf hg
  ·rcases X0.1 hr with rfl|hr
   ·exact hh.prot _ hmem c j hf hg
   ·exact hh.prot r (by simp [hr]) c j hf hg
 ·intro c j hg
  have:=hh.lt c j hg
  simpa [World.setRow] using this
 ·intro c hc
  by_cases hcb:c=b
  ·subst hcb
   exact .inr ⟨cs,cs',e,(0,0),hb,setRow_heap w c cs cs' e (0,0) hb,Xo,fun j hj=>absurd ⟨_,hmem,rfl⟩ hj⟩
  ·exact .inl (VN w b c cs' hcb)
section
variable {P:Program} {n:Nat} {o:Oper} {F:Fr} {h1 h2:List Res} {K:Fr->List Res->Prop}
theorem Zdg (t:TypeId) (x y:Operand) {b off:Nat} {ls:List AV} {X:AV} (ho:o.op=.store t x y) (hdst:o.dst=none)
  (hx:F.ev x=.val (.pointer (some ⟨b,off,none⟩))) (hy:F.ev y=X) (hX:(X.fit&&X.leaves.all AV.one)=true)
  (Xo:(P.info? t).map (·.size)=some X.leaves.length) (hle:Nat.ble (off+X.leaves.length) ls.length=true)
  (hK:K F (h1++.obj b (ls.take off++X.leaves++ls.drop (off+X.leaves.length))::h2)):WO P n o F (h1++.obj b ls::h2) K:=by
 intro Q w G a hF hh
 have hvx:=hF.ev x
 rw [hx] at hvx
 have hvx:=hvx.val_inv
 have hvy:=hF.ev y
 rw [hy] at hvy
 simp only [X1] at hX
 have hcs:=hvy.cells hX.1
 have hone:=hcs.one_cells hX.2
 have hlen:=hcs.length
 obtain ⟨cs,e,k1,k2⟩:=hh.ok (.obj b ls) (by simp)
 have hle:=Vd hle
 have hcl:=k2.length
 simp only [JZ] at hlen hcl
 cases hi:P.info? t with
 | none=>simp [hi] at Xo
 | some i=>
  have Xo:i.size=X.leaves.length:=by simpa [hi] using Xo
  have hst:=run_storeCells_at P b off e (a.eval y).cells.toList 0 cs w k1 (by simp [hlen,hcl];omega) hone
  simp only [Cp,JZ] at hst
  have hr:(execOp a.eval o).run P w=.ok .skip (w.setRow b (cs.toList.take off++(a.eval y).cells.toList++cs.toList.drop (off+(a.eval y).cells.size)).toArray):=by
   simp only [execOp,ho,hvx]
   simp [Instr.storeAt,Instr.sureAddr,storeVar,Qx hi,hlen,Xo,hst]
  unfold Oper.wp
  rw [hr]
  obtain ⟨j1,j2⟩:=hh.write (ls':=ls.take off++X.leaves++ls.drop (off+X.leaves.length)) (cs':=(cs.toList.take off++(a.eval y).cells.toList++cs.toList.drop (off+(a.eval y).cells.size)).toArray)
   k1 (by simp [hlen,hcl];omega) (by rw [G6,hlen];exact ((k2.take off).append hcs).append (k2.drop _))
  refine ⟨F,_,G,hK,?_,j1,j2⟩
  have:=hF.mono (j2.agree hh)
  simpa [Act.put,hdst] using this
end
theorem Z89 {h h':List Res} (s:∀r∈h',r∈h) {b o:Nat} (hf:Vu h' b o):Vu h b o:=
 let ⟨r,hr,h⟩:=hf;⟨r,s r hr,h⟩
theorem YL.sub {w:World} {G:Yl} {h h':List Res} (hh:YL w G h) (s:h'.Sublist h):YL w G h':=
 ⟨fun r hr=>hh.ok r (s.subset hr),hh.apart.sublist s,fun r hr=>hh.prot r (s.subset hr),hh.lt⟩
theorem Xb.sub' {w w':World} {G G':Yl} {h h' h'':List Res} (e:Xb w G h w' G' h') (s:h''.Sublist h'):Xb w G h w' G' h'':=
 ⟨e.os,e.tape,e.output,e.size,e.sub,e.same,e.newG,fun b o hb hf=>e.newfp b o hb (Z89 (fun _ hr=>s.subset hr) hf)⟩
theorem BG (w:World) (G:Yl):VZ G w w.drew G:=⟨fun _ _ _=>rfl,fun _ _ h=>h⟩
theorem YL.drew {w:World} {G:Yl} {h:List Res} (hh:YL w G h):YL w.drew G h where
 ok:=fun r hr=>by
  have h0:=hh.ok r hr
  cases r with
  | obj b ls=>obtain ⟨cs,e,h1,h2⟩:=h0;exact ⟨cs,e,h1,h2.mono (BG w G)⟩
  | tail v k=>exact h0
  | ge s=>exact h0
  | vec v ls=>
   rcases h0 with ⟨rfl,h0⟩|⟨g,cap,cur,el,rfl,h1,h2,h3,h4⟩
   ·exact .inl ⟨rfl,h0⟩
   ·exact .inr ⟨g,cap,cur,el,rfl,h1,h2,h3,h4.mono (BG w G)⟩
  | many ts=>exact h0
  | own B m=>exact h0
  | row v k ls=>
   rcases h0 with ⟨rfl,h0⟩|⟨g,len,cap,cur,el,rfl,h1,h2,h3,h4,h5⟩
   ·exact .inl ⟨rfl,h0⟩
   ·exact .inr ⟨g,len,cap,cur,el,rfl,h1,h2,h3,h4,h5.mono (BG w G)⟩
 apart:=hh.apart
 prot:=hh.prot
 lt:=hh.lt
theorem Xb.drew (w:World) (G:Yl) (h:List Res):Xb w G h w.drew G h:=
 ⟨rfl,rfl,rfl,X2 _,fun _ _ h=>h,fun _ _=>.inl rfl,fun _ _ _ h=>.inl h,fun _ _ _ h=>h⟩
theorem YL.alloc_row {w:World} {G:Yl} {h:List Res} (hh:YL w G h) (cs:Array Value) (t:TypeId) {es:List AV} {k cap:Nat}
  (hk:∀x∈es,x.leaves.length=k) (hcap:es.length<=cap) (Xo:cs.size=cap*k) (hls:YT w G (Zu es) (cs.toList.take (es.length*k))) :
  ∃G',YL (w.alloc (.cells cs t)) G' (.tail (.slice (some ⟨w.heap.size,0,none⟩) es.length cap) k::h) /\
   Xb w G h (w.alloc (.cells cs t)) G' (.tail (.slice (some ⟨w.heap.size,0,none⟩) es.length cap) k::h) /\
   RV (w.alloc (.cells cs t)) G' (.sl es (some (.slice (some ⟨w.heap.size,0,none⟩) es.length cap))) (.slice (some ⟨w.heap.size,0,none⟩) es.length cap):=by
 let G':Yl:=fun b o=>G b o∨(b=w.heap.size/\o<es.length*k)
 have hA:VZ G w (w.alloc (.cells cs t)) G':=⟨fun b j hg=>Ez w _ (hh.lt b j hg),fun _ _ h=>.inl h⟩
 have hrow:(w.alloc (.cells cs t)).heap[w.heap.size]? = some (.cells cs t (0,0)):=H0 w _
 obtain ⟨h1,h2⟩:=hh.alloc (.cells cs t) (G':=G') (h':=[.tail (.slice (some ⟨w.heap.size,0,none⟩) es.length cap) k]) (fun _ _ h=>.inl h)
  (fun _ _ h=>h.imp id (·.1))
  (fun r hr=>by rw [Xs.1 hr];exact .inr ⟨_,_,_,cs,t,rfl,hrow,hcap,Xo⟩)
  (fun r hr b j hf=>by rw [Xs.1 hr] at hf;exact hf.1)
  (Em _ _)
  (fun r hr b j hf hg=>by
   rw [Xs.1 hr] at hf
   obtain ⟨rfl,hf2⟩:=hf
   rcases hg with hg|hg
   ·exact Nat.lt_irrefl _ (hh.lt _ _ hg)
   ·exact absurd hg.2 om)
 refine ⟨G',h1,h2,.sl (fun x hx=>by cases hx;rfl) hcap (Vg.of_flat es hk (Wu.of_cells (hls.mono hA) fun j v hj=>?_))⟩
 have hj2:=hj
 rw [KR] at hj2
 split at hj2
 ·rename_i hlt
  refine ⟨?_,.inr ⟨rfl,by omega⟩⟩
  rw [Wj,cell_of_row _ _ j cs t (0,0) hrow]
  simpa using hj2
 ·cases hj2
theorem SM {w:World} {G:Yl}:∀(vs:List Value),YT w G (List.replicate vs.length AV.any) vs
 | []=>.nil
 | v::vs=>by simp only [Ys,En];exact .cons .any (SM vs)
def B0 (es:List AV) (k:Nat):Bool:=es.all fun x=>Nat.beq x.leaves.length k
theorem Z3q {es:List AV} {k:Nat} (h:B0 es k=true):∀x∈es,x.leaves.length=k:=fun x hx=>
 T1 (A0.1 h x hx)
section
variable {P:Program} {n:Nat} {o:Oper} {F:Fr} {h:List Res} {K:Fr->List Res->Prop}
theorem HM {w:World} {G:Yl} {a:Act} (hF:FR w G n F a) {t len:Nat} (parts:Array (Nat × Operand)) {e size:Nat} {i:TypeInfo} {ls:List AV}
  (ht:P.underlying t=some (.slice e)) (hi:P.info? e=some i) (hs:i.size=size) (hz:i.zero.isSome=true) (hle:Nat.ble (len*size) (2 ^ 24)=true)
  (hfill:Bc (fun i=>some (i*size,size)) (List.replicate (len*size) .any) (parts.toList.map fun p=>(p.1,F.ev p.2))=some ls) :
  ∃cs:Array Value,YT w G ls cs.toList /\
   (Instr.buildSlice t len (parts.map fun (i,x)=>(i,a.eval x))).run P w=.ok (.slice (some ⟨w.heap.size,0,none⟩) len len) (w.alloc (.cells cs e)):=by
 subst hs
 have hle:=Vd hle
 cases hzz:i.zero with
 | none=>simp [hzz] at hz
 | some z=>
  let zero:Array Value:=if len*i.size=0 then #[] else z.cells
  have hzlen:((Array.range (len*i.size)).map (zero[· % zero.size]!)).toList.length=len*i.size:=by simp
  obtain ⟨cs',k1,k2⟩:=Lu (w:=w) (G:=G) (vps:=parts.toList.map fun p=>(p.1,a.eval p.2)) hfill (by simp [List.map_map,Function.comp_def])
   (by simpa [List.map_map,Function.comp_def] using YT.map (fun p:Nat × Operand=>F.ev p.2) (fun p=>a.eval p.2) parts.toList fun p _=>hF.ev p.2)
   (cs:=(Array.range (len*i.size)).map (zero[· % zero.size]!)) (by have:=SM (w:=w) (G:=G) ((Array.range (len*i.size)).map (zero[· % zero.size]!)).toList;rwa [hzlen] at this)
  refine ⟨cs',k2,?_⟩
  have hnot:¬(len*i.size>2 ^ 24):=by omega
  have hzv:(zeroValue e).run P w=.ok z w:=by simp [zeroValue,FH hi,hzz]
  have hmap:(parts.map fun (x:Nat × Operand)=>(x.1,a.eval x.2)).toList=parts.toList.map fun p=>(p.1,a.eval p.2):=by simp
  simp only [Instr.buildSlice,Sem.run_bind,U6 ht,Result.andThen_ok,Qx hi,hnot,if_false]
  by_cases h0:len*i.size=0
  ·have hz0:zero=#[]:=Zf h0
   rw [hz0] at k1
   rw [Zf h0]
   simp only [Sem.run_bind,Sem.run_pure,Result.andThen_ok,hmap,k1]
   simp [newRow]
  ·have hz0:zero=z.cells:=Za h0
   rw [hz0] at k1
   rw [Za h0]
   simp only [Sem.run_bind,Sem.run_pure,Result.andThen_ok,hzv,hmap,k1]
   simp [newRow]
theorem Zdb (t len:Nat) (parts:Array (Nat × Operand)) {e size:Nat} {i:TypeInfo} {es:List AV} (ho:o.op=.buildSlice t len parts)
  (ht:P.underlying t=some (.slice e)) (hi:P.info? e=some i) (hs:i.size=size) (hz:i.zero.isSome=true) (hle:Nat.ble (len*size) (2 ^ 24)=true)
  (hfill:Bc (fun i=>some (i*size,size)) (List.replicate (len*size) .any) (parts.toList.map fun p=>(p.1,F.ev p.2))=some (Zu es))
  (hlen:es.length=len) (hall:B0 es size=true) (hd:VR n o=true)
  (hK:∀b,BA h b->K (F.put o.dst (.sl es (some (.slice (some ⟨b,0,none⟩) len len)))) (.tail (.slice (some ⟨b,0,none⟩) len len) size::h)):WO P n o F h K:=by
 intro Q w G a hF hh
 obtain ⟨cs,h1,h2⟩:=HM hF parts ht hi hs hz hle hfill
 have hr:(execOp a.eval o).run P w=.ok (.value (.slice (some ⟨w.heap.size,0,none⟩) len len)) (w.alloc (.cells cs e)):=by
  simp only [execOp,ho]
  exact Vp h2
 unfold Oper.wp
 rw [hr]
 subst hlen
 have hk:=Z3q hall
 have hcs:cs.size=es.length*size:=by have:=h1.length;rw [TZ es hk] at this;simpa using this
 obtain ⟨G',j1,j2,j3⟩:=hh.alloc_row cs e hk (X2 _) hcs (by rw [<-hcs];simpa [U8] using h1)
 exact ⟨_,_,G',hK _ (LH hh),(hF.mono (j2.agree hh)).put (TT hd) j3,j1,j2⟩
end
structure G9 (w:World) (G:Yl) (h1 h2:List Res) (k:Nat) (v:Value) (es:List AV) (v':Value) (w':World) (G':Yl):Prop where
 ok:YL w' G' (h1++.tail v' k::h2)
 ext:Xb w G (h1++.tail v k::h2) w' G' (h1++.tail v' k::h2)
 rv:RV w' G' (.sl es (some v')) v'
 own:v'.ownBlock=v.ownBlock∨∃b,v'.ownBlock=some b/\w.heap.size<=b
theorem Z3x {w:World} {G:Yl} {h1 h2:List Res} {k:Nat} {v:Value} (hh:YL w G (h1++.tail v k::h2)) (cs:Array Value) (t:TypeId) {es:List AV} {cap:Nat}
  (hk:∀x∈es,x.leaves.length=k) (hcap:es.length<=cap) (Xo:cs.size=cap*k) (hls:YT w G (Zu es) (cs.toList.take (es.length*k))) :
  ∃G',G9 w G h1 h2 k v es (.slice (some ⟨w.heap.size,0,none⟩) es.length cap) (w.drew.alloc (.cells cs t)) G':=by
 obtain ⟨G',j1,j2,j3⟩:=hh.drew.alloc_row cs t hk hcap Xo (hls.mono (BG w G))
 have hsub:(h1++.tail (.slice (some ⟨w.heap.size,0,none⟩) es.length cap) k::h2).Perm (.tail (.slice (some ⟨w.heap.size,0,none⟩) es.length cap) k::(h1++h2)):=List.perm_middle
 have hs2:(Res.tail (.slice (some ⟨w.heap.size,0,none⟩) es.length cap) k::(h1++h2)).Sublist (.tail (.slice (some ⟨w.heap.size,0,none⟩) es.length cap) k::(h1++.tail v k::h2)):=
  List.Sublist.cons_cons _ (List.Sublist.append (List.Sublist.refl _) (Co _ _))
 refine ⟨G',(j1.sub hs2).perm hsub.symm,?_,j3,.inr ⟨_,rfl,X2 _⟩⟩
 exact (Xb.drew w G _).trans ((j2.sub' hs2).perm (Jm _) hsub.symm)
theorem E9 {P:Program} {t ty e:TypeId} {i:TypeInfo} (ht:P.underlying t=some (.slice e)) (hi:P.info? e=some i) {ad:Option Addr} {len cap:Nat} {a:Option Addr} {c:Nat}
  (hle:len<=cap) (w:World):(Builtin.append_ #[t,t] ty #[.slice ad len cap,.slice a 0 c]).run P w=.ok (.slice ad len cap) w:=by
 cases ad with
 | none=>cases a<;>simp [Builtin.append_,U6 ht,Qx hi,Builtin.lenOf,hle,Builtin.firstCells,loadCells,loadCellsFrom]
 | some ad=>cases a<;>simp [Builtin.append_,U6 ht,Qx hi,Builtin.lenOf,hle,Builtin.firstCells,loadCells,loadCellsFrom,storeCells]
theorem Z3y {w:World} {G:Yl} {h1 h2:List Res} {k g cap:Nat} {es xs:List AV} {cur:Array Value} {e:TypeId} {news:List Value}
  (hh:YL w G (h1++.tail (.slice (some ⟨g,0,none⟩) es.length cap) k::h2)) (hrow:w.heap[g]? = some (.cells cur e (0,0))) (hcur:cur.size=cap*k)
  (hm:Wu w G g 0 (Zu es)) (hes:∀y∈es,y.leaves.length=k) (hxs:∀y∈xs,y.leaves.length=k) (hn:YT w G (Zu xs) news)
  (hroom:es.length+xs.length<=cap) :
  ∃G',G9 w G h1 h2 k (.slice (some ⟨g,0,none⟩) es.length cap) (es++xs) (.slice (some ⟨g,0,none⟩) (es.length+xs.length) cap)
   (w.setRow g (cur.toList.take (es.length*k)++news++cur.toList.drop (es.length*k+news.length)).toArray) G':=by
 have hnl:news.length=xs.length*k:=by rw [hn.length,TZ xs hxs]
 have hfit:es.length*k+news.length<=cur.size:=by rw [hnl,hcur,<-TN];exact Jr _ hroom
 generalize hcs':(cur.toList.take (es.length*k)++news++cur.toList.drop (es.length*k+news.length)).toArray=cs'
 have hlist:cs'.toList=cur.toList.take (es.length*k)++news++cur.toList.drop (es.length*k+news.length):=by rw [<-hcs']
 have Xo:cs'.size=cur.size:=by
  have:=Yn List.length hlist
  simp only [JZ,ZH,Vc,Cm] at this
  omega
 have hlow:∀j,j<es.length*k->cs'[j]? = cur[j]?:=by
  intro j hj
  have h1:(cur.toList.take (es.length*k)).length=es.length*k:=by simp;omega
  rw [<-Ic,hlist,XM,A1 om,KR,Zf hj,Ic]
 have hmid:∀j u,news[j]? = some u->cs'[es.length*k+j]? = some u:=by
  intro j u hj
  have h1:(cur.toList.take (es.length*k)).length=es.length*k:=by simp;omega
  have hjl:j<news.length:=(Xu.1 hj).1
  rw [<-Ic,hlist,XM,Ek om,h1,Nat.add_sub_cancel_left,A1 hjl,hj]
 have hmem:Res.tail (.slice (some ⟨g,0,none⟩) es.length cap) k∈h1++.tail (.slice (some ⟨g,0,none⟩) es.length cap) k::h2:=by simp
 let G':Yl:=fun b o=>G b o∨(b=g/\es.length*k<=o/\o<(es.length+xs.length)*k)
 have hA:VZ G w (w.setRow g cs') G':=⟨fun b j hg=>by
  by_cases hbg:b=g
  ·subst hbg
   have hj:j<es.length*k:=by
    rcases G7 j (es.length*k) with h|h
    ·exact h
    ·exact (hh.prot _ hmem b j ⟨rfl,h⟩ hg).elim
   rw [cell_of_row _ b j cs' e (0,0) (setRow_heap w b cur cs' e (0,0) hrow),cell_of_row w b j cur e (0,0) hrow,hlow j hj]
  ·simp [World.cell?,VN w g b cs' hbg],fun _ _ h=>.inl h⟩
 have hpw:=Bv.1 hh.apart
 have hpw2:=Uh.1 hpw.2.1
 have hbig:∀j,es.length*k<=j->Res.fp (.tail (.slice (some ⟨g,0,none⟩) es.length cap) k) g j:=fun j hj=>⟨rfl,hj⟩
 have hother:∀r,(r∈h1∨r∈h2)->∀c j,r.fp c j->c=g->j<es.length*k:=by
  intro r hr c j hf hc
  subst hc
  rcases G7 j (es.length*k) with h|h
  ·exact h
  ·rcases hr with hr|hr
   ·exact (hpw.2.2 r hr _ (Xf ..) c j hf (hbig j h)).elim
   ·exact (hpw2.1 r hr c j (hbig j h) hf).elim
 have hkeep:∀r,(r∈h1∨r∈h2)->QU w G r->QU (w.setRow g cs') G' r:=by
  intro r hr h0
  cases r with
  | obj c ks=>
   obtain ⟨ds,el,k1,k2⟩:=h0
   have hne:c≠g:=fun hc=>by have:=hother _ hr c (es.length*k) rfl hc;omega
   exact ⟨ds,el,(VN w g c cs' hne).trans k1,k2.mono hA⟩
  | tail v kk=>
   rcases h0 with rfl|⟨g2,len,cap2,cur2,el,rfl,k1,k2,k3⟩
   ·exact .inl rfl
   ·have hne:g2≠g:=fun hc=>by have:=hother _ hr g2 (len*kk+es.length*k) ⟨rfl,by omega⟩ hc;omega
    exact .inr ⟨g2,len,cap2,cur2,el,rfl,(VN w g g2 cs' hne).trans k1,k2,k3⟩
  | ge s=>exact V7 h0 (by simp [World.setRow])
  | vec v ks=>
   rcases h0 with ⟨rfl,h0⟩|⟨g2,cap2,cur2,el,rfl,k1,k2,k3,k4⟩
   ·exact .inl ⟨rfl,h0⟩
   ·have hne:g2≠g:=fun hc=>by have:=hother _ hr g2 (es.length*k) rfl hc;omega
    exact .inr ⟨g2,cap2,cur2,el,rfl,(VN w g g2 cs' hne).trans k1,k2,k3,k4.mono hA⟩
  | many ts=>
   refine ⟨fun p hp=>?_,h0.2⟩
   rcases h0.1 p hp with q|⟨g2,len,cap2,cur2,el,q,k1,k2,k3⟩
   ·exact .inl q
   ·have hne:g2≠g:=fun hc=>by have:=hother _ hr g2 (len*p.2+es.length*k) ⟨p,hp,by rw [q];exact ⟨rfl,by omega⟩⟩ hc;omega
    exact .inr ⟨g2,len,cap2,cur2,el,q,(VN w g g2 cs' hne).trans k1,k2,k3⟩
  | own B m=>
   intro c hc
   obtain ⟨ds,el,k1,k2⟩:=h0 c hc
   have hne:c≠g:=fun hq=>by have:=hother _ hr c (es.length*k) hc hq;omega
   exact ⟨ds,el,(VN w g c cs' hne).trans k1,k2⟩
  | row v kk ks=>
   rcases h0 with ⟨rfl,h0⟩|⟨g2,len2,cap2,cur2,el,rfl,k1,k2,k3,k4,k5⟩
   ·exact .inl ⟨rfl,h0⟩
   ·have hne:g2≠g:=fun hc=>by have:=hother _ hr g2 (es.length*k) rfl hc;omega
    exact .inr ⟨g2,len2,cap2,cur2,el,rfl,(VN w g g2 cs' hne).trans k1,k2,k3,k4,k5.mono hA⟩
 have hle:es.length*k<=(es.length+xs.length)*k:=Jr _ om
 have hfpe:∀r,r∈h1++.tail (.slice (some ⟨g,0,none⟩) (es.length+xs.length) cap) k::h2->∀b o,r.fp b o ->
   Vu (h1++.tail (.slice (some ⟨g,0,none⟩) es.length cap) k::h2) b o:=by
  intro r hr b o hf
  rcases Xg.1 hr with hr|hr
  ·exact ⟨r,by simp [hr],hf⟩
  ·rcases X0.1 hr with rfl|hr
   ·obtain ⟨rfl,hf2⟩:=hf
    exact ⟨_,hmem,rfl,V7 hle hf2⟩
   ·exact ⟨r,by simp [hr],hf⟩
 refine ⟨G',⟨?_,?_,?_,?_⟩,⟨rfl,rfl,rfl,by simp [World.setRow],fun _ _ h=>.inl h,?_,?_,fun b o _ ⟨r,hr,hf⟩=>hfpe r hr b o hf⟩,?_,.inl rfl⟩
 ·intro r hr
  rcases Xg.1 hr with hr|hr
  ·exact hkeep r (.inl hr) (hh.ok r (by simp [hr]))
  ·rcases X0.1 hr with rfl|hr
   ·exact .inr ⟨g,_,cap,cs',e,rfl,setRow_heap w g cur cs' e (0,0) hrow,hroom,Xo.trans hcur⟩
   ·exact hkeep r (.inr hr) (hh.ok r (by simp [hr]))
 ·have htt:∀r,Bz r (.tail (.slice (some ⟨g,0,none⟩) es.length cap) k)->Bz r (.tail (.slice (some ⟨g,0,none⟩) (es.length+xs.length) cap) k):=
   fun r hd b o hf ⟨e1,e2⟩=>hd b o hf ⟨e1,V7 hle e2⟩
  refine Bv.2 ⟨hpw.1,Uh.2 ⟨fun r hr=>(htt r (hpw2.1 r hr).symm).symm,hpw2.2⟩,fun r hr r' hr'=>?_⟩
  rcases X0.1 hr' with rfl|hr'
  ·exact htt r (hpw.2.2 r hr _ (Xf ..))
  ·exact hpw.2.2 r hr r' (by simp [hr'])
 ·intro r hr b o hf hg
  obtain ⟨r0,hr0,hf0⟩:=hfpe r hr b o hf
  rcases hg with hg|⟨rfl,hg1,hg2⟩
  ·exact hh.prot r0 hr0 b o hf0 hg
  ·rcases Xg.1 hr with hr|hr
   ·have:=hother r (.inl hr) b o hf rfl;omega
   ·rcases X0.1 hr with rfl|hr
    ·have:=hf.2;omega
    ·have:=hother r (.inr hr) b o hf rfl;omega
 ·intro b o hg
  have hs:(w.setRow g cs').heap.size=w.heap.size:=by simp [World.setRow]
  rw [hs]
  rcases hg with hg|⟨rfl,_,_⟩
  ·exact hh.lt b o hg
  ·exact (UM.1 hrow).1
 ·intro b hb
  by_cases hbg:b=g
  ·subst hbg
   refine .inr ⟨cur,cs',e,(0,0),hrow,setRow_heap w b cur cs' e (0,0) hrow,Xo,fun o ho=>hlow o ?_⟩
   rcases G7 o (es.length*k) with h|h
   ·exact h
   ·exact absurd ⟨_,hmem,rfl,h⟩ ho
  ·exact .inl (VN w g b cs' hbg)
 ·intro b o hb hg
  rcases hg with hg|⟨rfl,hg1,hg2⟩
  ·exact .inl hg
  ·exact .inr ⟨_,hmem,rfl,hg1⟩
 ·rw [<-ZH]
  refine .sl (k:=k) (fun x hx=>by cases hx;rfl) (by simpa using hroom) (Vg.of_flat _ (fun y hy=>?_) ?_)
  ·rcases Xg.1 hy with hy|hy
   ·exact hes y hy
   ·exact hxs y hy
  ·have e1:Zu (es++xs)=Zu es++Zu xs:=by simp [Zu]
   rw [e1]
   refine (hm.mono hA).append ?_
   rw [TZ es hes,Wj]
   refine Wu.of_cells (hn.mono hA) fun j u hj=>⟨?_,.inr ⟨rfl,by omega,?_⟩⟩
   ·rw [cell_of_row _ g _ cs' e (0,0) (setRow_heap w g cur cs' e (0,0) hrow),hmid j u hj]
   ·have hjl:j<news.length:=(Xu.1 hj).1
    rw [TN]
    omega
theorem ME {P:Program} (w:World) (t ty e el:TypeId) (i:TypeInfo) (ht:P.underlying t=some (.slice e)) (hi:P.info? e=some i)
  (g sLen sCap:Nat) (cur:Array Value) (hg:w.heap[g]? = some (.cells cur el (0,0)))
  (a:Addr) (m c:Nat) (news:List Value) (hl:news.length=m*i.size) (hnews:∀j u,news[j]? = some u->w.cell? (a.add j)=some u) (h1:∀u∈news,u.oneCell'=true)
  (hroom:sLen+m<=sCap) (hfit:sLen*i.size+news.length<=cur.size) :
  (Builtin.append_ #[t,t] ty #[.slice (some ⟨g,0,none⟩) sLen sCap,.slice (some a) m c]).run P w =
   .ok (.slice (some ⟨g,0,none⟩) (sLen+m) sCap) (w.setRow g (cur.toList.take (sLen*i.size)++news++cur.toList.drop (sLen*i.size+news.length)).toArray):=by
 have hf:=run_firstCells_some (P:=P) w i.size m a m c news hl hnews
 have hst:=run_storeCells_at P g (sLen*i.size) el news 0 cur w hg (by simpa using hfit) h1
 simp only [Cp] at hst
 simp [Builtin.append_,run_underlying ht,sizeOf,typeInfo,hi,Builtin.lenOf,hroom,hf,Addr.add_lit,hst]
theorem Z3w {P:Program} {w:World} {G:Yl} {h1 h2:List Res} {t ty e k:Nat} {i:TypeInfo} {v x:Value} {es xs:List AV}
  (ht:P.underlying t=some (.slice e)) (hi:P.info? e=some i) (hk:i.size=k) (hzs:(i.zero.map (·.cells.size))=some k) (hb:Nat.ble i.bytes 128=true)
  (hh:YL w G (h1++.tail v k::h2)) (hv:RV w G (.sl es (some v)) v) (hx:RV w G (.sl xs none) x)
  (hes:∀y∈es,y.leaves.length=k) (hxs:∀y∈xs,y.leaves.length=k) (hone:(Zu xs).all AV.one=true) (hbound:es.length+xs.length<=1099511627776) :
  ∃v' w' G',(Builtin.append_ #[t,t] ty #[v,x]).run P w=.ok v' w'/\G9 w G h1 h2 k v (es++xs) v' w' G':=by
 have htail:Ip w v k:=hh.ok (.tail v k) (by simp)
 have hb:=Vd hb
 cases hz:i.zero with
 | none=>simp [hz] at hzs
 | some z=>
  have hzs:z.cells.size=k:=by simpa [hz] using hzs
  have hlen:v=.slice none 0 0->es=[]:=by
   intro he
   subst he
   cases hv with
   | nil=>rfl
  have grown:∀(olds news:List Value) (old:Nat),YT w G (Zu es) olds->YT w G (Zu xs) news ->
    ∃G',G9 w G h1 h2 k v (es++xs) (.slice (some ⟨w.heap.size,0,none⟩) (es.length+xs.length) (grownCap w (es.length+xs.length) old e))
     (w.drew.alloc (.cells (olds.toArray++news.toArray++Builtin.zeroCells z.cells (grownCap w (es.length+xs.length) old e-(es.length+xs.length))) e)) G':=by
   intro olds news old ho hn
   have Xh:=grownCap_ge w (es.length+xs.length) old e
   have hall:∀y∈es++xs,y.leaves.length=k:=fun y hy=>by
    rcases Xg.1 hy with hy|hy
    ·exact hes y hy
    ·exact hxs y hy
   have e1:Zu (es++xs)=Zu es++Zu xs:=by simp [Zu]
   have hol:olds.length=es.length*k:=by rw [ho.length,TZ es hes]
   have hnl:news.length=xs.length*k:=by rw [hn.length,TZ xs hxs]
   have:=Z3x hh (olds.toArray++news.toArray++Builtin.zeroCells z.cells (grownCap w (es.length+xs.length) old e-(es.length+xs.length))) e
    (es:=es++xs) (cap:=grownCap w (es.length+xs.length) old e) hall (by simpa using Xh)
    (by
     simp only [Array.size_append,G5,size_zeroCells,hzs,hol,hnl,<-TN]
     congr 1
     omega)
    (by
     rw [e1]
     have:(olds.toArray++news.toArray++Builtin.zeroCells z.cells (grownCap w (es.length+xs.length) old e-(es.length+xs.length))).toList.take ((es++xs).length*k)=olds++news:=by
      simp only [Ie,XM,ZH]
      rw [<-XM,TN,<-hol,<-hnl,<-ZH]
      exact Bx
     rw [this]
     exact ho.append hn)
   simpa using this
  by_cases hxe:xs=[]
  ·subst hxe
   cases hx with
   | nil _=>
    refine ⟨v,w,G,?_,by simpa using hh,Xb.refl _ _ _,by simpa using hv,.inl rfl⟩
    rcases htail with rfl|⟨g,len,cap,cur,el,rfl,_,hle,_⟩
    ·exact E9 ht hi (X2 _) w
    ·exact E9 ht hi hle w
   | sl _ _ _=>
    refine ⟨v,w,G,?_,by simpa using hh,Xb.refl _ _ _,by simpa using hv,.inl rfl⟩
    rcases htail with rfl|⟨g,len,cap,cur,el,rfl,_,hle,_⟩
    ·exact E9 ht hi (X2 _) w
    ·exact E9 ht hi hle w
  ·cases hx with
   | nil _=>exact absurd rfl hxe
   | sl hq hcc hm=>
    rename_i b o' k' c
    have hpos:0<xs.length:=El.2 hxe
    obtain ⟨news,hn,hnc⟩:=hm.flat_mem.cells
    have hnl:news.length=xs.length*i.size:=by rw [hn.length,hk,TZ xs hxs]
    have hone':=hn.one_cells hone
    have hnews:∀j u,news[j]? = some u->w.cell? ((⟨b,o',none⟩:Addr).add j)=some u:=fun j u hj=>by rw [Jt];exact (hnc j u hj).1
    have hby:(es.length+xs.length)*i.bytes<=140737488355328:=by
     have:=Nat.mul_le_mul hbound hb
     omega
    rcases htail with rfl|⟨g,len,cap,cur,el,rfl,hrow,hlc,hcur⟩
    ·have he:=hlen rfl
     subst he
     have hr:=run_append_nil (P:=P) w t ty e i z ht hi hz ⟨b,o',none⟩ xs.length c news hnl hnews hpos (by simp at hbound;omega) (by simp at hby;omega)
     obtain ⟨G',hG'⟩:=grown [] news 0 .nil hn
     simp only [YF,Wj,Array.empty_append] at hG'
     exact ⟨_,_,G',hr,by simpa using hG'⟩
    ·have hle:len=es.length:=by cases hv<;>rfl
     subst hle
     have hmem:Wu w G g 0 (Zu es):=by
      cases hv with
      | nil=>exact .nil
      | sl _ _ hm=>exact hm.flat_mem
     obtain ⟨olds,ho,hoc⟩:=hmem.cells
     by_cases hroom:es.length+xs.length<=cap
     ·have hfit:es.length*i.size+news.length<=cur.size:=by rw [hnl,hcur,hk,<-TN];exact Jr _ hroom
      have hr:=ME (P:=P) w t ty e el i ht hi g es.length cap cur hrow ⟨b,o',none⟩ xs.length c news hnl hnews hone' hroom hfit
      obtain ⟨G',hG'⟩:=Z3y (h1:=h1) (h2:=h2) hh hrow hcur hmem hes hxs hn hroom
      rw [hk] at hr
      exact ⟨_,_,G',hr,hG'⟩
     ·have hol:olds.length=es.length*i.size:=by rw [ho.length,hk,TZ es hes]
      have hr:=run_append_grow (P:=P) w t ty e i z ht hi hz ⟨g,0,none⟩ es.length cap olds hol (fun j u hj=>by rw [Jt];simpa using (hoc j u hj).1) ⟨b,o',none⟩ xs.length c news hnl hnews
       om om (growslice_fits om hby)
      obtain ⟨G',hG'⟩:=grown olds news cap ho hn
      exact ⟨_,_,G',hr,hG'⟩
section
variable {P:Program} {n:Nat} {o:Oper} {F:Fr} {h h1 h2:List Res} {K:Fr->List Res->Prop}
theorem RV.forget {w:World} {G:Yl} {es:List AV} {hv:Option Value} {v:Value} (h:RV w G (.sl es hv) v):RV w G (.sl es none) v:=by
 cases h with
 | nil _=>exact .nil (by simp)
 | sl _ hc hm=>exact .sl (by simp) hc hm
theorem RV.header {w:World} {G:Yl} {es:List AV} {x v:Value} (h:RV w G (.sl es (some x)) v):v=x:=by
 cases h with
 | nil hq=>exact (hq x rfl).symm
 | sl hq _ _=>exact (hq x rfl).symm
theorem Zd7 (s x:Operand) (t:TypeId) {e k:Nat} {i:TypeInfo} {hv:Value} {hx:Option Value} {es xs:List AV}
  (ho:o.op=.call { callee:=.builtin .append,args:=#[s,x],argTypes:=#[t,t] })
  (ht:P.underlying t=some (.slice e)) (hi:P.info? e=some i) (hk:i.size=k) (hzs:(i.zero.map (·.cells.size))=some k) (hb:Nat.ble i.bytes 128=true)
  (hs:F.ev s=.sl es (some hv)) (hx:F.ev x=.sl xs hx) (hd:VR n o=true)
  (hes:∀y∈es,y.leaves.length=k) (hxs:∀y∈xs,y.leaves.length=k) (hone:(Zu xs).all AV.one=true) (hbound:es.length+xs.length<=1099511627776)
  (hK:∀v',(v'.ownBlock=hv.ownBlock∨∃b,v'.ownBlock=some b/\BA (h1++.tail hv k::h2) b) ->
   K (F.put o.dst (.sl (es++xs) (some v'))) (h1++.tail v' k::h2)):WO P n o F (h1++.tail hv k::h2) K:=by
 intro Q w G a hF hh
 have v1:=hF.ev s
 have v2:=hF.ev x
 rw [hs] at v1
 rw [hx] at v2
 have e1:=v1.header
 rw [e1] at v1
 obtain ⟨v',w',G',hr,hA⟩:=Z3w (P:=P) (ty:=o.type) ht hi hk hzs hb hh v1 v2.forget hes hxs hone hbound
 have hrun:(execOp a.eval o).run P w=.ok (.value v') w':=by
  simp only [execOp,ho,resolve,invoke,builtin,Sem.run_bind,Sem.run_pure,Result.andThen_ok,G4,Tm,G3,e1,hr]
 unfold Oper.wp
 rw [hrun]
 refine ⟨_,_,G',hK v' ?_,(hF.mono (hA.ext.agree hh)).put (TT hd) hA.rv,hA.ok,hA.ext⟩
 rcases hA.own with h|⟨b,h,hle⟩
 ·exact .inl h
 ·exact .inr ⟨b,h,fun s hs=>V7 (hh.ok _ hs) hle⟩
theorem Z0u {t e k:Nat} {i:TypeInfo} {b off len cap:Nat} {ik:IntKind} {j:Int} (ht:P.underlying t=some (.slice e)) (hi:P.info? e=some i) (hk:i.size=k)
  (h0:0<=j) (hlt:j<len) (w:World) :
  (Instr.indexAt t (.slice (some ⟨b,off,none⟩) len cap) (.int ik j)).run P w=.ok (.pointer (some ⟨b,off+j.toNat * k,none⟩)) w:=by
 subst hk
 have hu:=U6 ht w
 simp only [Instr.indexAt,asIntOf,Sem.run_bind,Sem.run_pure,Result.andThen_ok,hu]
 simp [h0,hlt,Qx hi,Jt]
theorem Zhv (t:TypeId) (x ix:Operand) {e k:Nat} {i:TypeInfo} {es:List AV} {hv:Option Value} {ik:IntKind} {j:Int} {y:AV}
  (ho:o.op=.indexAddr t x ix) (ht:P.underlying t=some (.slice e)) (hi:P.info? e=some i) (hk:i.size=k) (hx:F.ev x=.sl es hv) (hix:F.ev ix=.val (.int ik j))
  (h0:0<=j) (hget:es[j.toNat]? = some y) (hy:y.leaves.length=k):XS P o F h [] (.rp y.leaves):=by
 intro n w G a hF hh
 have v1:=hF.ev x
 have v2:=hF.ev ix
 rw [hx] at v1
 rw [hix] at v2
 have v2:=v2.val_inv
 generalize hv1:a.eval x=u at v1
 cases v1 with
 | nil _=>simp at hget
 | sl hq hc hm=>
  rename_i b off kk cap
  have hlt:j.toNat<es.length:=(Xu.1 hget).1
  have hkk:kk=k:=by
   have:=hm.len y (Y4 hget)
   omega
  subst hkk
  refine ⟨_,.rp (hm.get _ _ hget),fun w' _ _=>?_⟩
  simp only [execOp,ho,hv1,v2]
  exact Vp (Z0u ht hi hk h0 om w')
theorem Zhw (t:TypeId) (x ix:Operand) {e k:Nat} {i:TypeInfo} {b off len cap:Nat} {ik:IntKind} {j:Int}
  (ho:o.op=.indexAddr t x ix) (ht:P.underlying t=some (.slice e)) (hi:P.info? e=some i) (hk:i.size=k) (hx:F.ev x=.val (.slice (some ⟨b,off,none⟩) len cap)) (hix:F.ev ix=.val (.int ik j))
  (h0:0<=j) (hlt:j<len):XS P o F h [] (.val (.pointer (some ⟨b,off+j.toNat * k,none⟩))):=by
 intro n w G a hF hh
 have v1:=hF.ev x
 have v2:=hF.ev ix
 rw [hx] at v1
 rw [hix] at v2
 have v1:=v1.val_inv
 have v2:=v2.val_inv
 refine ⟨_,.val,fun w' _ _=>?_⟩
 simp only [execOp,ho,v1,v2]
 exact Vp (Z0u ht hi hk h0 hlt w')
def C9 (F:Fr) (o:Option Operand) (d:Int):Option Int:=
 match o with
 | none=>some d
 | some x=>match F.ev x with
  | .val (.int _ j)=>some j
  | _=>none
theorem FG {v:Value} {ik:IntKind} {j:Int} {y:Nat} {c:BoundsCode} (hv:v=.int ik j) (h0:0<=j) (h1:j<=y) (w:World):(Instr.sliceBound v y c).run P w=.ok j.toNat w:=by
 subst hv
 simp [Instr.sliceBound,asIntOf,h0,h1]
theorem Zi1 (t:TypeId) (x:Operand) (lo hi:Option Operand) {e k:Nat} {i:TypeInfo} {es:List AV} {hv:Option Value} {l m:Int}
  (ho:o.op=.slice t x lo hi none) (ht:P.underlying t=some (.slice e)) (hi':P.info? e=some i) (hk:i.size=k) (hx:F.ev x=.sl es hv)
  (hlo:C9 F lo 0=some l) (hhi:C9 F hi es.length=some m) (h0:0<=l) (h1:l<=m) (h2:m<=es.length) (hes:∀y∈es,y.leaves.length=k) :
  XS P o F h [] (.sl ((es.take m.toNat).drop l.toNat) none):=by
 intro n w G a hF hh
 have v1:=hF.ev x
 rw [hx] at v1
 generalize hv1:a.eval x=u at v1
 have hlo':lo.map a.eval=none/\l=0∨∃ik,lo.map a.eval=some (.int ik l):=by
  cases lo with
  | none=>simp [C9] at hlo;exact .inl ⟨rfl,hlo.symm⟩
  | some y=>
   simp only [C9] at hlo
   split at hlo
   ·rename_i k j hj
    cases hlo
    have:=hF.ev y
    rw [hj] at this
    exact .inr ⟨k,by simp [this.val_inv]⟩
   ·cases hlo
 have hhi':hi.map a.eval=none/\m=es.length∨∃ik,hi.map a.eval=some (.int ik m):=by
  cases hi with
  | none=>simp [C9] at hhi;exact .inl ⟨rfl,hhi.symm⟩
  | some y=>
   simp only [C9] at hhi
   split at hhi
   ·rename_i k j hj
    cases hhi
    have:=hF.ev y
    rw [hj] at this
    exact .inr ⟨k,by simp [this.val_inv]⟩
   ·cases hhi
 have hrun:∀(ad:Option Addr) (cap:Nat),m<=cap->∀w':World,(Instr.sliceAt t (.slice ad es.length cap) (lo.map a.eval) (hi.map a.eval) none).run P w' =
   .ok (.slice (if cap=l.toNat then ad else ad.map (·.add (l.toNat * k))) (m.toNat-l.toNat) (cap-l.toNat)) w':=by
  intro ad cap hcap w'
  subst hk
  have hmm:(Instr.sliceBounds true es.length cap (lo.map a.eval) (hi.map a.eval) none).run P w'=.ok (l.toNat,m.toNat,cap) w':=by
   rcases hhi' with ⟨e1,rfl⟩|⟨ik,e1⟩
   ·rcases hlo' with ⟨e2,rfl⟩|⟨ik2,e2⟩
    ·simp [Instr.sliceBounds,e1,e2]
    ·simp [Instr.sliceBounds,e1,e2,FG (P:=P) (v:=.int ik2 l) rfl h0 (by omega:l<=(es.length:Int))]
   ·have Zb:=fun c=>FG (P:=P) (c:=c) (v:=.int ik m) (y:=cap) rfl om hcap w'
    rcases hlo' with ⟨e2,rfl⟩|⟨ik2,e2⟩
    ·simp [Instr.sliceBounds,e1,e2,Zb]
    ·have Zy:=fun c=>FG (P:=P) (c:=c) (v:=.int ik2 l) (y:=m.toNat) rfl h0 om w'
     simp [Instr.sliceBounds,e1,e2,Zb,Zy]
  simp only [Instr.sliceAt,Sem.run_bind,U6 ht,Result.andThen_ok,Instr.slice,hmm]
  simp [Qx hi']
 cases v1 with
 | nil hq=>
  rename_i ad cap
  simp only [YF,Int.natCast_zero] at h2
  have hl:l=0:=by omega
  have hm:m=0:=by omega
  subst hl
  subst hm
  have hr:=hrun ad cap om
  refine ⟨_,?_,fun w' _ _=>by simp only [execOp,ho,hv1,Option.map_none];exact Vp (hr w')⟩
  exact .nil (by simp)
 | sl hq hc hm=>
  rename_i b off kk cap
  by_cases hemp:m.toNat<=l.toNat
  ·refine ⟨_,?_,fun w' _ _=>by simp only [execOp,ho,hv1,Option.map_none];exact Vp (hrun _ cap om w')⟩
   have e1:(es.take m.toNat).drop l.toNat=[]:=Nb (by simp;omega)
   have e2:m.toNat-l.toNat=0:=by omega
   rw [e1,e2]
   exact .nil (by simp)
  ·have hne:0<es.length:=by omega
   have hkk:kk=k:=by
    have hy:=hm.len es[0] (List.getElem_mem hne)
    have:=hes es[0] (List.getElem_mem hne)
    omega
   subst hkk
   refine ⟨_,?_,fun w' _ _=>by simp only [execOp,ho,hv1,Option.map_none];exact Vp (hrun _ cap om w')⟩
   rw [Za om]
   have hlen:((es.take m.toNat).drop l.toNat).length=m.toNat-l.toNat:=by simp;omega
   rw [<-hlen]
   simp only [G8,Jt]
   exact .sl (k:=kk) (by simp) om ((hm.take m.toNat).drop l.toNat)
theorem Zd9 (f:FuncId) (args:Array Operand) (tys:Array TypeId) {fn:Func} {h1 h2:List Res} {xs:List AV} {R:AV->List Res->Prop}
  (ho:o.op=.call { callee:=.value (.func f),args:=args,argTypes:=tys }) (hf:P.funcs[f]? = some fn) (hb:fn.body.isSome=true) (hn:(fn.name== "runtime.NumGoroutine")=false)
  (hargs:args.toList.map F.ev=xs) (hd:VR n o=true) (hp:h.Perm (h1++h2)) (hc:V1 P f xs h1 R)
  (hK:∀r h',R r h'->K (F.put o.dst r) (h'++h2)):WO P n o F h K:=by
 intro Q w G a hF hh
 have hh':=hh.perm hp
 have hvs:YT w G xs (args.toList.map a.eval):=by rw [<-hargs];exact YT.map F.ev a.eval args.toList fun x _=>hF.ev x
 have hcl:=hc w G _ hvs hh'.left
 have hbn:¬fn.body=none:=by intro hq;simp [hq] at hb
 have hn':¬fn.name= "runtime.NumGoroutine":=by simpa using hn
 have hrun:(execOp a.eval o).run P w=.ok (.enter f (args.map a.eval)) w:=by
  simp only [execOp,ho,resolve,Act.eval,Deferred.ofValue,Sem.run_bind,Sem.run_pure,Result.andThen_ok,invoke,callFunc]
  simp [program,Sem.run,hf,hn',hbn]
 unfold Oper.wp
 rw [hrun]
 show Calls P f (args.map a.eval) w _
 have hav:args.map a.eval=(args.toList.map a.eval).toArray:=by rw [<-Array.toList_map,UZ]
 rw [hav]
 refine hcl.mono fun e w' ⟨v,r,h',G',he,hR,hv,hh2,hx⟩=>?_
 subst he
 obtain ⟨j1,j2⟩:=hh'.frame hx hh2
 have j3:=j2.perm hp.symm (Jm _)
 exact ⟨_,_,G',hK r h' hR,(hF.mono (j3.agree hh)).put (TT hd) hv,j1,j3⟩
theorem Zda (t:Operand) (args:Array Operand) (tys:Array TypeId) {f:FuncId} {caps:Array Value} {fn:Func} {h1 h2:List Res} {xs:List AV} {R:AV->List Res->Prop}
  (ho:o.op=.call { callee:=.value t,args:=args,argTypes:=tys }) (ht:F.ev t=.val (.func (.func f) #[] caps)) (hf:P.funcs[f]? = some fn) (hb:fn.body.isSome=true)
  (hn:(fn.name== "runtime.NumGoroutine")=false)
  (hargs:args.toList.map F.ev++caps.toList.map AV.val=xs) (hd:VR n o=true) (hp:h.Perm (h1++h2)) (hc:V1 P f xs h1 R)
  (hK:∀r h',R r h'->K (F.put o.dst r) (h'++h2)):WO P n o F h K:=by
 intro Q w G a hF hh
 have hh':=hh.perm hp
 have htv:=hF.ev t
 rw [ht] at htv
 have htv:=htv.val_inv
 have hcv:∀(l:List Value),YT w G (l.map AV.val) l:=fun l=>by
  induction l with
  | nil=>exact .nil
  | cons v l ih=>exact .cons .val ih
 have hvs:YT w G xs (args.toList.map a.eval++caps.toList):=by
  rw [<-hargs];exact (YT.map F.ev a.eval args.toList fun x _=>hF.ev x).append (hcv _)
 have hcl:=hc w G _ hvs hh'.left
 have hbn:¬fn.body=none:=by intro hq;simp [hq] at hb
 have hn':¬fn.name= "runtime.NumGoroutine":=by simpa using hn
 have hrun:(execOp a.eval o).run P w=.ok (.enter f (args.map a.eval++caps)) w:=by
  simp only [execOp,ho,resolve,htv,Deferred.ofValue,Sem.run_bind,Sem.run_pure,Result.andThen_ok,invoke,callFunc]
  simp [program,Sem.run,hf,hn',hbn]
 unfold Oper.wp
 rw [hrun]
 show Calls P f (args.map a.eval++caps) w _
 have hav:args.map a.eval++caps=(args.toList.map a.eval++caps.toList).toArray:=by
  apply Array.ext'
  simp
 rw [hav]
 refine hcl.mono fun e w' ⟨v,r,h',G',he,hR,hv,hh2,hx⟩=>?_
 subst he
 obtain ⟨j1,j2⟩:=hh'.frame hx hh2
 have j3:=j2.perm hp.symm (Jm _)
 exact ⟨_,_,G',hK r h' hR,(hF.mono (j3.agree hh)).put (TT hd) hv,j1,j3⟩
end
def YO:Code->Code
 | .seq a _=>a
 | .cond _ a _=>a
 | .block _ a=>a
 | .loop a=>a
 | .scope a=>a
 | c=>c
def U2:Code->Code
 | .seq _ b=>b
 | .cond _ _ b=>b
 | c=>c
def Xc:Code->Nat
 | .skip=>0
 | .region _ _ false=>1
 | .region _ _ true=>2
 | .seq _ _=>3
 | .cond _ _ _=>4
 | .block _ _=>5
 | .loop _=>6
 | .exit _=>7
 | .ret=>8
 | _=>9
def Kx:Code->Nat
 | .region id _ _=>id
 | .block id _=>id
 | .exit id=>id
 | _=>0
def XI:Code->Array Oper
 | .region _ ops _=>ops
 | _=>#[]
def B3:Code->Operand
 | .cond x _ _=>x
 | _=>.tmp 0
def Gq (fn:Func):Code:=fn.body.getD .skip
theorem Z4i {c:Code} (h:Xc c=0):c=.skip:=by unfold Xc at h;split at h<;>first|rfl|cases h
theorem Z4j {c:Code} (h:Xc c=1):c=.region (Kx c) (XI c) false:=by unfold Xc at h;split at h<;>first|rfl|cases h
theorem Z4k {c:Code} (h:Xc c=2):c=.region (Kx c) (XI c) true:=by unfold Xc at h;split at h<;>first|rfl|cases h
theorem Z4l {c:Code} (h:Xc c=3):c=.seq (YO c) (U2 c):=by unfold Xc at h;split at h<;>first|rfl|cases h
theorem Z4m {c:Code} (h:Xc c=4):c=.cond (B3 c) (YO c) (U2 c):=by unfold Xc at h;split at h<;>first|rfl|cases h
theorem Z4n {c:Code} (h:Xc c=5):c=.block (Kx c) (YO c):=by unfold Xc at h;split at h<;>first|rfl|cases h
theorem Z4o {c:Code} (h:Xc c=6):c=.loop (YO c):=by unfold Xc at h;split at h<;>first|rfl|cases h
theorem Z4p {c:Code} (h:Xc c=7):c=.exit (Kx c):=by unfold Xc at h;split at h<;>first|rfl|cases h
theorem Z4q {c:Code} (h:Xc c=8):c=.ret:=by unfold Xc at h;split at h<;>first|rfl|cases h
def Kt (P:Program) (n:Nat) (ops:Array Oper) (B:Fr->List Res->Prop) (l:List Oper) (F:Fr) (h:List Res):Prop:=
 ∀(Q:Exit->Act->World->Prop) w G a,FR w G n F a->YL w G h ->
  (∀F' h' G' a' w',B F' h'->FR w' G' n F' a'->YL w' G' h'->Xb w G h w' G' h'->Q .normal a' w')->wpList P ops Q l a w
section
variable {P:Program} {n:Nat} {ops:Array Oper} {B:Fr->List Res->Prop} {l:List Oper} {F:Fr} {h:List Res} {A:WW} {c:Code}
theorem Zfp (hB:B F h):Kt P n ops B [] F h:=fun _ w G a hF hh hk=>hk F h G a w hB hF hh (Xb.refl _ _ _)
def J5 (ops:Array Oper) (F:Fr) (o:Oper):Option Bool:=
 match o.guard with
 | none=>some true
 | some (j,want)=>match (ops[j]?).bind (·.dst) with
  | none=>none
  | some t=>match F.get t with
   | .val (.bool b)=>some (b==want)
   | .tup []=>some false
   | _=>none
theorem DO {w:World} {G:Yl} {a:Act} {o:Oper} {b:Bool} (hF:FR w G n F a) (hlt:(match o.guard with|none=>true|some (j,_)=>match (ops[j]?).bind (·.dst) with|some t=>Nat.blt t n|none=>true)=true)
  (hg:J5 ops F o=some b):Region.wanted o (yielded ops a.tmps)=b:=by
 unfold J5 at hg
 unfold Region.wanted
 cases hq:o.guard with
 | none=>simp [hq] at hg;simp [hg]
 | some jw=>
  obtain ⟨j,want⟩:=jw
  simp only [hq] at hg hlt ⊢
  cases ht:(ops[j]?).bind (·.dst) with
  | none=>simp [ht] at hg
  | some t=>
   simp only [ht] at hg hlt
   have hlt':t<n:=by simpa using hlt
   have hv:=hF.get t
   have hget:a.tmps[t]? = some (a.tmps.getD t undef):=by
    have:t<a.tmps.size:=by rw [hF.size];exact hlt'
    simp [Array.getD,this]
   unfold yielded
   simp only [ht,Option.bind_some,hget]
   split at hg
   ·rename_i b' hb
    rw [hb] at hv
    have hv:=hv.val_inv
    cases hg
    rw [hv]
    cases b'<;>cases want<;>rfl
   ·rename_i hb
    rw [hb] at hv
    cases hg
    generalize a.tmps.getD t undef=u at hv
    cases hv with
    | tup hc=>cases hc;cases want<;>rfl
   ·cases hg
def Bf (n:Nat) (ops:Array Oper) (o:Oper):Bool:=
 match o.guard with|none=>true|some (j,_)=>match (ops[j]?).bind (·.dst) with|some t=>Nat.blt t n|none=>true
def QN (P:Program) (n:Nat) (ops:Array Oper) (h:List Res):Nat->List Oper->Fr->List Nat->Option (List Oper × Fr × List (Nat × Nat))
 | 0,l,F,_=>some (l,F,[])
 | _+1,[],_,_=>none
 | k+1,o::l,F,hints=>
  match VR n o&&Bf n ops o with
  | false=>none
  | true=>match J5 ops F o with
   | none=>none
   | some false=>QN P n ops h k l (F.put o.dst (.tup [])) hints
   | some true=>match Qm P o F h (hints.headD 0) with
    | none=>none
    | some (x,eqs)=>match QN P n ops h k l (F.put o.dst x) (match eqs with | []=>hints | _=>hints.tail) with
     | none=>none
     | some (l',F',es)=>some (l',F',eqs++es)
theorem Zjf {o:Oper} {Q:Exit->Act->World->Prop} {a:Act} {w:World} (hw:Region.wanted o (yielded ops a.tmps)=false)
  (hk:wpList P ops Q l (a.put o.dst undef) w):wpList P ops Q (o::l) a w:=by
 unfold wpList
 rw [Za (by simp [hw])]
 exact hk
theorem MG:∀(k:Nat) {l:List Oper} {F:Fr} {hints:List Nat} {l':List Oper} {F':Fr} {eqs:List (Nat × Nat)},QN P n ops h k l F hints=some (l',F',eqs) ->
  (∀p∈eqs,p.1=p.2)->Kt P n ops B l' F' h->Kt P n ops B l F h
 | 0,l,F,hints,l',F',eqs,he,_,hs=>by
  simp only [QN,Wk,Prod.mk.injEq] at he
  obtain ⟨rfl,rfl,rfl⟩:=he
  exact hs
 | k+1,[],F,hints,l',F',eqs,he,_,hs=>by simp [QN] at he
 | k+1,o::l,F,hints,l',F',eqs,he,heq,hs=>by
  simp only [QN] at he
  cases hd:VR n o&&Bf n ops o with
  | false=>rw [hd] at he;cases he
  | true=>
   rw [hd] at he
   simp only [X1] at hd
   simp only at he
   cases hg:J5 ops F o with
   | none=>rw [hg] at he;cases he
   | some b=>
    rw [hg] at he
    cases b with
    | false=>
     simp only at he
     have ih:=MG k he heq hs
     intro Q w G a hF hh hk
     have hw:=DO hF hd.2 hg
     exact Zjf hw (ih Q w G _ (hF.put (TT hd.1) (.tup (cs:=[]) .nil)) hh hk)
    | true=>
     simp only at he
     cases hev:Qm P o F h (hints.headD 0) with
     | none=>rw [hev] at he;cases he
     | some xe=>
      obtain ⟨x,es⟩:=xe
      rw [hev] at he
      simp only at he
      generalize hhint:(match es with|[]=>hints|_=>hints.tail)=hints' at he
      cases hr:QN P n ops h k l (F.put o.dst x) hints' with
      | none=>rw [hr] at he;cases he
      | some y=>
       obtain ⟨l2,F2,es2⟩:=y
       rw [hr] at he
       simp only [Wk,Prod.mk.injEq] at he
       obtain ⟨rfl,rfl,rfl⟩:=he
       have ih:=MG k hr (fun p hp=>heq p (Xg.2 (.inr hp))) hs
       have hst:=DH hev (fun p hp=>heq p (Xg.2 (.inl hp)))
       intro Q w G a hF hh hk
       have hw:=DO hF hd.2 hg
       obtain ⟨v,hv,hrun⟩:=hst n w G a hF hh
       unfold wpList
       rw [Zf hw]
       refine .inl ?_
       unfold Oper.wp
       rw [hrun w (fun _ _ _=>rfl) (fun _ _=>rfl)]
       exact ih Q w G _ (hF.put (TT hd.1) hv) hh hk
theorem Zfq {o:Oper} (hg:J5 ops F o=some true) (hlt:Bf n ops o=true) (ho:WO P n o F h fun F' h'=>Kt P n ops B l F' h'):Kt P n ops B (o::l) F h:=by
 intro Q w G a hF hh hk
 have hw:=DO hF hlt hg
 unfold wpList
 rw [Zf hw]
 refine .inl (Oper.wp_mono ?_ (ho Q w G a hF hh))
 intro a' w' ⟨F',h',G',h1,h2,h3,h4⟩
 exact h1 Q w' G' a' h2 h3 fun F2 h2' G2 a2 w2 b1 b2 b3 b4=>hk F2 h2' G2 a2 w2 b1 b2 b3 (h4.trans b4)
theorem Fr.Le.refl (F:Fr):F.Le F:=fun _ _ _ _ h=>h
def Zl (x y:AV):Prop:=∀w G v,RV w G x v->RV w G y v
theorem Zl.refl (x:AV):Zl x x:=fun _ _ _ h=>h
theorem Zl.any (x:AV):Zl x .any:=fun _ _ _ _=>.any
theorem Zl.forget (es:List AV) (hv:Option Value):Zl (.sl es hv) (.sl es none):=fun _ _ _ h=>h.forget
theorem Z88 (F:Fr):F.Le []:=fun _ _ _ _ _=>.any
theorem DL {F F':Fr} {t:Nat} {x y:AV} (hx:F.get t=x) (hxy:Zl x y) (hr:F.Le F'):F.Le ((t,y)::F'):=by
 intro w G v s hv
 show RV w G (match Nat.beq t s with|true=>y|false=>Fr.get F' s) v
 cases hb:Nat.beq t s with
 | true=>
  have:=T1 hb
  subst this
  rw [hx] at hv
  exact hxy _ _ _ hv
 | false=>exact hr w G v s hv
theorem Zl.sl {es es':List AV} (hv:Option Value) (h:es=es'):Zl (.sl es hv) (.sl es' none):=h▸Zl.forget es hv
theorem Zl.slh {es es':List AV} (hv:Option Value) (h:es=es'):Zl (.sl es hv) (.sl es' hv):=h▸Zl.refl _
theorem Zl.i {a b:Int} (h:a=b):Zl (.val (.int .i64 a)) (.val (.int .i64 b)):=h▸Zl.refl _
theorem Zl.b {a b:Bool} (h:a=b):Zl (.val (.bool a)) (.val (.bool b)):=h▸Zl.refl _
inductive TD:List AV->List AV->Prop
 | nil:TD [] []
 | cons {x y:AV} {xs ys:List AV} (h:Zl x y) (t:TD xs ys):TD (x::xs) (y::ys)
theorem TD.refl:∀(xs:List AV),TD xs xs
 | []=>.nil
 | x::xs=>.cons (Zl.refl x) (TD.refl xs)
theorem TD.cs {w:World} {G:Yl}:∀{xs ys:List AV} {vs:List Value},TD xs ys->YT w G xs vs->YT w G ys vs
 | _,_,_,.nil,.nil=>.nil
 | _,_,_,.cons h t,.cons a b=>.cons (h _ _ _ a) (t.cs b)
theorem TD.mem {w:World} {G:Yl}:∀{xs ys:List AV} {b o:Nat},TD xs ys->Wu w G b o xs->Wu w G b o ys
 | _,_,_,_,.nil,.nil=>.nil
 | _,_,_,_,.cons h t,.cons a1 a2 a3 a4=>.cons a1 a2 (h _ _ _ a3) (t.mem a4)
theorem Zl.agg {xs ys:List AV} (h:TD xs ys):Zl (.agg xs) (.agg ys):=fun _ _ _ hv=>by
 cases hv with
 | agg hc=>exact .agg (h.cs hc)
theorem Zl.tup {xs ys:List AV} (h:TD xs ys):Zl (.tup xs) (.tup ys):=fun _ _ _ hv=>by
 cases hv with
 | tup hc=>exact .tup (h.cs hc)
theorem Zl.rp {xs ys:List AV} (h:TD xs ys):Zl (.rp xs) (.rp ys):=fun _ _ _ hv=>by
 cases hv with
 | rp hc=>exact .rp (h.mem hc)
mutual
def AV.like:AV->AV->AV
 | .sl es hv,y=>match y with | .sl _ none=>.sl es none | _=>.sl es hv
 | .agg ls,y=>match y with | .agg ms=>.agg (C4 ls ms) | _=>.agg ls
 | .rp ls,y=>match y with | .rp ms=>.rp (C4 ls ms) | _=>.rp ls
 | .tup ls,y=>match y with | .tup ms=>.tup (C4 ls ms) | _=>.tup ls
 | .any,_=>.any
 | .val v,y=>match y with | .any=>.any | _=>.val v
def C4:List AV->List AV->List AV
 | [],_=>[]
 | x::xs,ys=>match ys with | y::ys=>x.like y::C4 xs ys | []=>x::xs
end
mutual
theorem AV.like_le:∀(x y:AV),Zl x (x.like y)
 | .sl es hv,y=>by
  cases y with
  | sl es' hv'=>cases hv'<;>simp only [AV.like]<;>first | exact Zl.forget es hv | exact Zl.refl _
  | _=>simp only [AV.like];exact Zl.refl _
 | .agg ls,y=>by
  cases y with
  | agg ms=>simp only [AV.like];exact Zl.agg (Ho ls ms)
  | _=>simp only [AV.like];exact Zl.refl _
 | .rp ls,y=>by
  cases y with
  | rp ms=>simp only [AV.like];exact Zl.rp (Ho ls ms)
  | _=>simp only [AV.like];exact Zl.refl _
 | .tup ls,y=>by
  cases y with
  | tup ms=>simp only [AV.like];exact Zl.tup (Ho ls ms)
  | _=>simp only [AV.like];exact Zl.refl _
 | .any,y=>by simp only [AV.like];exact Zl.refl _
 | .val v,y=>by
  cases y with
  | any=>simp only [AV.like];exact Zl.any _
  | _=>simp only [AV.like];exact Zl.refl _
theorem Ho:∀(xs ys:List AV),TD xs (C4 xs ys)
 | [],ys=>by simp only [C4];exact .nil
 | x::xs,ys=>by
  cases ys with
  | nil=>simp only [C4];exact TD.refl _
  | cons y ys=>simp only [C4];exact .cons (AV.like_le x y) (Ho xs ys)
end
theorem Pm {F F':Fr} (h:F'.map (fun p=>(F.get p.1).like p.2)=F'.map (·.2)):F.Le F':=by
 induction F' with
 | nil=>exact Z88 F
 | cons p r ih=>
  simp only [Tm,List.cons.injEq] at h
  refine DL rfl ?_ (ih h.2)
  have:=AV.like_le (F.get p.1) p.2
  rwa [h.1] at this
structure Tp (F:Fr) (h:List Res) (F':Fr) (h':List Res):Prop where
 fr:F.Le F'
 res:∃d,h.Perm (h'++d)
theorem YL.weak {w:World} {G:Yl} {h':List Res} (hh:YL w G h) (hw:∃d,h.Perm (h'++d)):YL w G h':=by
 obtain ⟨d,hp⟩:=hw
 exact (hh.perm hp).left
theorem Xb.weak_left {w w':World} {G G':Yl} {h' k:List Res} (hw:∃d,h.Perm (h'++d)) (e:Xb w G h' w' G' k):Xb w G h w' G' k:=by
 obtain ⟨d,hp⟩:=hw
 have hs:∀b o,Vu h' b o->Vu h b o:=fun b o hf=>(CH hp).2 (BW.2 (.inl hf))
 exact ⟨e.os,e.tape,e.output,e.size,e.sub,fun b hb=>(e.same b hb).mono fun _ ho=>hs _ _ ho,fun b o hb hg=>(e.newG b o hb hg).imp id (hs b o),fun b o hb hf=>hs b o (e.newfp b o hb hf)⟩
theorem Dl {F':Fr} {h':List Res} (hw:Tp F h F' h') (ha:Yw P n c A F' h'):Yw P n c A F h:=by
 intro w G a hF hh
 refine wp_mono (ha w G a (hF.le hw.fr) (hh.weak hw.res)) ?_
 intro e a' w' ⟨F2,h2,G2,b1,b2,b3,b4⟩
 exact ⟨F2,h2,G2,b1,b2,b3,b4.weak_left hw.res⟩
theorem HO {F':Fr} {h':List Res} (hw:Tp F h F' h') (ha:Kt P n ops B l F' h'):Kt P n ops B l F h:=by
 intro Q w G a hF hh hk
 exact ha Q w G a (hF.le hw.fr) (hh.weak hw.res) fun F2 h2 G2 a2 w2 b1 b2 b3 b4=>hk F2 h2 G2 a2 w2 b1 b2 b3 (b4.weak_left hw.res)
theorem Nl {A':WW} (hA:∀e F h,A e F h->A' e F h) (ha:Yw P n c A F h):Yw P n c A' F h:=by
 intro w G a hF hh
 exact wp_mono (ha w G a hF hh) fun e a' w' hc=>hc.mono hA
@[reducible] def Cj (P:Program) (n:Nat) (y:Code) (A:WW):WW:=fun e F h=>
 match e with
 | .normal=>Yw P n y A F h
 | e=>A e F h
@[reducible] def Gj (id:Nat) (A:WW):WW:=fun e F h=>
 match e with
 | .exit i=>match Nat.beq i id with
  | true=>A .normal F h
  | false=>A (.exit i) F h
 | e=>A e F h
@[reducible] def Me (Inv:Nat->Fr->List Res->Prop) (m:Nat) (A:WW):WW:=fun e F h=>
 match e with
 | .normal=>∃m' F' h',m'<m/\Inv m' F' h'/\Tp F h F' h'
 | e=>A e F h
theorem Iu (hk:Xc c=3) (ha:Yw P n (YO c) (Cj P n (U2 c) A) F h):Yw P n c A F h:=by
 rw [Z4l hk]
 intro w G a hF hh
 refine wp_seq (wp_mono (ha w G a hF hh) ?_)
 intro e a' w' ⟨F',h',G',h1,h2,h3,h4⟩
 cases e with
 | normal=>exact wp_mono (h1 w' G' a' h2 h3) fun e a2 w2 hc=>hc.trans h4
 | exit id=>exact ⟨F',h',G',h1,h2,h3,h4⟩
 | goto l=>exact ⟨F',h',G',h1,h2,h3,h4⟩
 | ret=>exact ⟨F',h',G',h1,h2,h3,h4⟩
 | panic ch=>exact ⟨F',h',G',h1,h2,h3,h4⟩
 | outgrown=>exact ⟨F',h',G',h1,h2,h3,h4⟩
theorem Nm (hk:Xc c=1) (hs:Kt P n (XI c) (A .normal) (XI c).toList F h):Yw P n c A F h:=by
 rw [Z4j hk]
 intro w G a hF hh
 exact wp_region_list (hs _ w G a hF hh fun F' h' G' a' w' b1 b2 b3 b4=>⟨F',h',G',b1,b2,b3,b4⟩)
theorem Z3c (hk:Xc c=3) (hk1:Xc (YO c)=1) (hs:Kt P n (XI (YO c)) (fun F h=>Yw P n (U2 c) A F h) (XI (YO c)).toList F h):Yw P n c A F h:=
 Iu hk (Nm hk1 hs)
theorem Z3h (hk:Xc c=0) (h0:A .normal F h):Yw P n c A F h:=by
 rw [Z4i hk]
 intro w G a hF hh
 exact wp_skip ⟨F,h,G,h0,hF,hh,Xb.refl _ _ _⟩
theorem Z3a (id:Nat) (hk:Xc c=7) (hi:Kx c=id) (h0:A (.exit id) F h):Yw P n c A F h:=by
 subst hi
 rw [Z4p hk]
 intro w G a hF hh
 exact wp_exit ⟨F,h,G,h0,hF,hh,Xb.refl _ _ _⟩
theorem Z3e (hk:Xc c=8) (h0:A .ret F h):Yw P n c A F h:=by
 rw [Z4q hk]
 intro w G a hF hh
 exact wp_ret ⟨F,h,G,h0,hF,hh,Xb.refl _ _ _⟩
theorem It {b:Bool} {p:Prop} (hk:Xc c=4) (hc:F.ev (B3 c)=.val (.bool b)) (hp:b=true↔p) (h1:p->Yw P n (YO c) A F h) (h2:¬p->Yw P n (U2 c) A F h) :
  Yw P n c A F h:=by
 rw [Z4m hk]
 intro w G a hF hh
 have hv:=hF.ev (B3 c)
 rw [hc] at hv
 exact wp_cond_split hv.val_inv (fun e=>h1 (hp.1 e) w G a hF hh) fun e=>h2 (fun q=>by have:=hp.2 q;rw [e] at this;cases this) w G a hF hh
theorem Z37 (id:Nat) (hk:Xc c=5) (hi:Kx c=id) (ha:Yw P n (YO c) (Gj id A) F h):Yw P n c A F h:=by
 subst hi
 rw [Z4n hk]
 intro w G a hF hh
 refine wp_block (wp_mono (ha w G a hF hh) ?_)
 intro e a' w' ⟨F',h',G',h1,h2,h3,h4⟩
 cases e with
 | normal=>exact ⟨F',h',G',h1,h2,h3,h4⟩
 | exit id=>
  simp only [Exit.inBlock]
  by_cases hid:id=Kx c
  ·subst hid
   rw [Zf rfl]
   have hb:Nat.beq (Kx c) (Kx c)=true:=Nat.beq_refl _
   simp only [Gj,hb] at h1
   exact ⟨F',h',G',h1,h2,h3,h4⟩
  ·rw [Za hid]
   have hb:Nat.beq id (Kx c)=false:=by
    cases hq:Nat.beq id (Kx c)
    ·rfl
    ·exact absurd (T1 hq) hid
   simp only [Gj,hb] at h1
   exact ⟨F',h',G',h1,h2,h3,h4⟩
 | goto l=>exact ⟨F',h',G',h1,h2,h3,h4⟩
 | ret=>exact ⟨F',h',G',h1,h2,h3,h4⟩
 | panic ch=>exact ⟨F',h',G',h1,h2,h3,h4⟩
 | outgrown=>exact ⟨F',h',G',h1,h2,h3,h4⟩
theorem F7 (p:Nat->Prop) (h:∃n,p n):∃n,p n/\∀m,p m->n<=m:=by
 obtain ⟨k,hk⟩:=h
 induction k using Nat.strongRecOn with
 | _ k ih=>
  by_cases hx:∃m,m<k/\p m
  ·obtain ⟨m,h1,h2⟩:=hx
   exact ih m h1 h2
  ·refine ⟨k,hk,fun m hm=>?_⟩
   rcases G7 m k with h|h
   ·exact absurd ⟨m,h,hm⟩ hx
   ·exact h
open Classical in
theorem Z3b (Inv:Nat->Fr->List Res->Prop) {m0:Nat} {F0:Fr} {h0:List Res} (hk:Xc c=6) (hi:Inv m0 F0 h0) (hw:Tp F h F0 h0)
  (hr:∀m F h,Inv m F h->Yw P n (YO c) (Me Inv m A) F h):Yw P n c A F h:=by
 refine Dl hw ?_
 rw [Z4o hk]
 intro w G a hF hh
 let J:Nat->Act->World->Prop:=fun m a' w'=>∃F' h' G',Inv m F' h'/\FR w' G' n F' a'/\YL w' G' h'/\Xb w G h0 w' G' h'
 let mu:Act->World->Nat:=fun a' w'=>if hx:∃m,J m a' w' then Classical.choose (F7 (fun m=>J m a' w') hx) else 0
 refine wp_loop (fun a' w'=>∃m,J m a' w') mu ⟨m0,F0,h0,G,hi,hF,hh,Xb.refl _ _ _⟩ ?_
 intro a1 w1 hx
 have hsp:=Classical.choose_spec (F7 (fun m=>J m a1 w1) hx)
 have hmu:mu a1 w1=Classical.choose (F7 (fun m=>J m a1 w1) hx):=dif_pos hx
 rw [<-hmu] at hsp
 obtain ⟨⟨F1,h1,G1,i1,i2,i3,i4⟩,_⟩:=hsp
 refine wp_mono (hr _ F1 h1 i1 w1 G1 a1 i2 i3) ?_
 intro e a' w' ⟨F',h',G',k1,k2,k3,k4⟩
 have keep:∀{e},A e F' h'->AW n A w G h0 e a' w':=fun hA=>⟨F',h',G',hA,k2,k3,i4.trans k4⟩
 cases e with
 | normal=>
  obtain ⟨m',F2,h2,j1,j2,j3⟩:=k1
  have hj:J m' a' w':=by
   refine ⟨F2,h2,G',j2,k2.le j3.fr,k3.weak j3.res,i4.trans ?_⟩
   obtain ⟨d,hp⟩:=j3.res
   have hsub:∀b o,Vu h2 b o->Vu h' b o:=fun b o hf=>(CH hp).2 (BW.2 (.inl hf))
   exact ⟨k4.os,k4.tape,k4.output,k4.size,k4.sub,k4.same,k4.newG,fun b o hb hf=>k4.newfp b o hb (hsub b o hf)⟩
  have hx':∃m,J m a' w':=⟨m',hj⟩
  refine ⟨hx',?_⟩
  show mu a' w'<mu a1 w1
  have hsp':=Classical.choose_spec (F7 (fun m=>J m a' w') hx')
  rw [show mu a' w'=Classical.choose (F7 (fun m=>J m a' w') hx') from dif_pos hx']
  exact Nat.lt_of_le_of_lt (hsp'.2 m' hj) j1
 | exit id=>exact keep k1
 | goto l=>exact keep k1
 | ret=>exact keep k1
 | panic ch=>exact keep k1
 | outgrown=>exact keep k1
end
def Cv:Nat->List AV->Fr
 | _,[]=>[]
 | i,x::xs=>(i,x)::Cv (i+1) xs
theorem Nu {w:World} {G:Yl}:∀{xs:List AV} {vs:List Value} (i t:Nat) (tl:List Value),YT w G xs vs->RV w G ((Cv i xs).get (i+t)) ((vs++tl).getD t undef)
 | _,_,i,t,tl,.nil=>.any
 | _,_,i,0,tl,.cons (x:=x) (xs:=xs) h hr=>by
  show RV w G (match Nat.beq i (i+0) with|true=>x|false=>Fr.get (Cv (i+1) xs) (i+0)) _
  have:Nat.beq i (i+0)=true:=Nat.beq_refl i
  rw [this]
  simpa using h
 | _,_,i,t+1,tl,.cons (x:=x) (xs:=xs) h hr=>by
  show RV w G (match Nat.beq i (i+(t+1)) with|true=>x|false=>Fr.get (Cv (i+1) xs) (i+(t+1))) _
  have hb:Nat.beq i (i+(t+1))=false:=by
   cases hq:Nat.beq i (i+(t+1))
   ·rfl
   ·have:=T1 hq;omega
  rw [hb]
  have:=Nu (i+1) t tl hr
  rw [show i+1+t=i+(t+1) from by omega] at this
  simpa using this
def Kk (P:Program) (F:Fr) (h:List Res):List ResultVar->List Nat->Option (List AV × List (Nat × Nat))
 | [],_=>some ([],[])
 | .tmp t::r,hints=>match Kk P F h r hints with
  | some (xs,es)=>some (F.get t::xs,es)
  | none=>none
 | .cell t ty::r,hints=>match F.get t with
  | .val (.pointer (some ⟨b,o,none⟩))=>match h[hints.headD 0]? with
   | some (.obj b' ls)=>match Bk P ty (ls.drop o) with
    | some x=>match Kk P F h r hints.tail with
     | some (xs,es)=>some (x::xs,(b,b')::es)
     | none=>none
    | none=>none
   | _=>none
  | _=>none
def Bp:List AV->AV
 | [x]=>x
 | xs=>.tup xs
theorem Z48 (a:Addr):asAddr (.pointer (some a))=pure a:=rfl
theorem Mv {P:Program} {w:World} {G:Yl} {n:Nat} {F:Fr} {h:List Res} {a:Act} (hF:FR w G n F a) (hh:YL w G h) :
  ∀{rs:List ResultVar} {hints:List Nat} {xs:List AV} {es:List (Nat × Nat)},Kk P F h rs hints=some (xs,es)->(∀p∈es,p.1=p.2) ->
  ∃vs,YT w G xs vs/\(List.mapM (m:=Sem) (fun r=>match r with|.tmp t=>pure (a.tmps.getD t undef)|.cell b t=>do loadVar t (<-asAddr (a.tmps.getD b undef))) rs).run P w=.ok vs w
 | [],hints,xs,es,he,_=>by
  simp only [Kk,Wk,Prod.mk.injEq] at he
  obtain ⟨rfl,rfl⟩:=he
  exact ⟨[],.nil,by simp⟩
 | .tmp t::r,hints,xs,es,he,heq=>by
  simp only [Kk] at he
  cases hr:Kk P F h r hints with
  | none=>rw [hr] at he;cases he
  | some y=>
   obtain ⟨ys,es2⟩:=y
   rw [hr] at he
   simp only [Wk,Prod.mk.injEq] at he
   obtain ⟨rfl,rfl⟩:=he
   obtain ⟨vs,h1,h2⟩:=Mv hF hh hr heq
   refine ⟨a.tmps.getD t undef::vs,.cons (hF.get t) h1,?_⟩
   simp only [List.mapM_cons,Sem.run_bind,Sem.run_pure,Result.andThen_ok,h2]
 | .cell t ty::r,hints,xs,es,he,heq=>by
  simp only [Kk] at he
  split at he
  ·rename_i b off hg
   split at he
   ·rename_i b' ls hl
    split at he
    ·rename_i x hx
     split at he
     ·rename_i ys es2 hr
      simp only [Wk,Prod.mk.injEq] at he
      obtain ⟨rfl,rfl⟩:=he
      have hbb:b=b':=heq (b,b') (by simp)
      subst hbb
      obtain ⟨vs,h1,h2⟩:=Mv hF hh hr fun p hp=>heq p (by simp [hp])
      have hv:=hF.get t
      rw [hg] at hv
      have hv:=hv.val_inv
      obtain ⟨cs,e,k1,k2⟩:=hh.ok _ (Y4 hl)
      obtain ⟨v,j1,j2⟩:=HN (P:=P) (b:=b) (o:=off) hx (k2.drop off)
      have j3:=j2 w fun j u hj=>by
       rw [cell_of_row w b (off+j) cs e (0,0) k1]
       simpa using hj
      refine ⟨v::vs,.cons j1 h1,?_⟩
      simp only [List.mapM_cons,Sem.run_bind,Sem.run_pure,Result.andThen_ok,hv,Z48,j3,h2]
     ·cases he
    ·cases he
   ·cases he
  ·cases he
def BD (P:Program) (fn:Func) (R:AV->List Res->Prop):WW:=fun e F h=>
 (e=.normal∨e=.ret)/\∃hints xs es h' r,Kk P F h fn.results.toList hints=some (xs,es)/\(∀p∈es,p.1=p.2)/\(∃d,h.Perm (h'++d))/\Zl (Bp xs) r/\R r h'
theorem Mm {P:Program} {fn:Func} {R:AV->List Res->Prop} {F:Fr} {h h':List Res} {e:Exit} (he:(match e with|.normal|.ret=>true|_=>false)=true) (hints:List Nat) {xs:List AV}
  {es:List (Nat × Nat)} {r:AV} (hr:Kk P F h fn.results.toList hints=some (xs,es)) (heq:∀p∈es,p.1=p.2) (hw:∃d,h.Perm (h'++d)) (hle:Zl (Bp xs) r) (hR:R r h'):BD P fn R e F h:=
 ⟨by cases e<;>first|exact .inl rfl|exact .inr rfl|(cases he),hints,xs,es,h',r,hr,heq,hw,hle,hR⟩
theorem Zev {P:Program} {fn:Func} {tmps:Array Value} {w:World} {vs:List Value}
  (h:(List.mapM (m:=Sem) (fun r=>match r with|.tmp t=>pure (tmps.getD t undef)|.cell b t=>do loadVar t (<-asAddr (tmps.getD b undef))) fn.results.toList).run P w=.ok vs w) :
  (results fn tmps).run P w=.ok (if h:vs.toArray.size=1 then vs.toArray[0] else .tuple vs.toArray) w:=by
 unfold results
 rw [Array.mapM_eq_mapM_toList]
 simp only [Sem.run_bind,Sem.run_map,Sem.run_pure]
 exact Yn (fun r=>(Result.andThen (Result.andThen r fun a w'=>Result.ok a.toArray w') fun a w'=>Result.ok (if h:a.size=1 then a[0] else Value.tuple a) w')) h
theorem enter {P:Program} {f:FuncId} {fn:Func} {xs:List AV} {h:List Res} {R:AV->List Res->Prop} {n:Nat} (hf:P.funcs[f]? = some fn) (hb:fn.body.isSome=true) (hn:fn.ntmps=n)
  (hle:Nat.ble xs.length n=true) (ha:Yw P n (Gq fn) (BD P fn R) (Cv 0 xs) h):V1 P f xs h R:=by
 intro w G vs hvs hh
 have hbody:fn.body=some (Gq fn):=by
  unfold Gq
  cases hq:fn.body with
  | none=>simp [hq] at hb
  | some c=>rfl
 have hlen:=hvs.length
 have hle:=Vd hle
 refine calls_of_wp hf hbody ?_
 have hF:FR w G n (Cv 0 xs) { tmps:=vs.toArray++Array.replicate (fn.ntmps-vs.toArray.size) undef,defers:=[] }:=by
  refine ⟨rfl,by simp [hn,hlen];omega,fun t=>?_⟩
  have:=Nu (w:=w) (G:=G) 0 t (List.replicate (fn.ntmps-vs.toArray.size) undef) hvs
  rw [Wj] at this
  have e:(vs.toArray++Array.replicate (fn.ntmps-vs.toArray.size) undef).getD t undef=(vs++List.replicate (fn.ntmps-vs.toArray.size) undef).getD t undef:=by
   simp [Array.getElem?_append,List.getElem?_append,List.getElem?_replicate,Array.getElem?_replicate]
  rw [e]
  exact this
 refine wp_mono (ha w G _ hF hh) ?_
 intro e a w' ⟨F',h',G',hA,k1,k2,k3⟩
 obtain ⟨he,hints,ys,es,h2,r,hr,heq,hwk,hle,hR⟩:=hA
 obtain ⟨us,u1,u2⟩:=Mv k1 k2 hr heq
 have hres:=Zev u2
 have hval:RV w' G' (Bp ys) (if h:us.toArray.size=1 then us.toArray[0] else .tuple us.toArray):=by
  cases u1 with
  | nil=>simp [Bp];exact .tup (cs:=[]) .nil
  | cons a1 a2=>
   cases a2 with
   | nil=>simpa [Bp] using a1
   | cons b1 b2=>simpa [Bp] using RV.tup (.cons a1 (.cons b1 b2))
 obtain ⟨d,hp⟩:=hwk
 have k2':=(k2.perm hp).left
 have k3':Xb w G h w' G' h2:=(k3.perm (Jm _) hp).sub' (List.sublist_append_left _ _)
 rcases he with rfl|rfl
 ·exact ⟨k1.defers,_,hres,_,_,h2,G',rfl,hR,hle _ _ _ hval,k2',k3'⟩
 ·exact ⟨k1.defers,_,hres,_,_,h2,G',rfl,hR,hle _ _ _ hval,k2',k3'⟩
def B9 (ops:Array Oper) (j i:Nat):Bool:=
 match ops[j]? with
 | some o=>o.after.any fun e=>Region.binds .any e&&e.on==i
 | none=>false
inductive KS (ops:Array Oper):Nat->Nat->Prop
 | one {j i} (h:B9 ops j i=true):KS ops j i
 | more {j m i} (h:B9 ops j m=true) (t:KS ops m i):KS ops j i
def HF (ops:Array Oper):Nat->Nat->Nat->Bool
 | 0,j,i=>B9 ops j i
 | f+1,j,i=>match ops[j]? with
  | some o=>o.after.any fun e=>Region.binds .any e&&(e.on==i||(Nat.ble i e.on&&HF ops f e.on i))
  | none=>false
def Vs (ops:Array Oper) (j i:Nat):Bool:=HF ops 9 j i
theorem Ok {ops:Array Oper} {j:Nat} {o:Oper} {e:Edge} (ho:ops[j]? = some o) (he:e∈o.after) (hb:Region.binds .any e=true):B9 ops j e.on=true:=by
 unfold B9
 rw [ho]
 simp only [Array.any_eq_true',X1,Zg]
 exact ⟨e,he,hb,rfl⟩
theorem Z00 {ops:Array Oper}:∀{f j i:Nat},HF ops f j i=true->KS ops j i
 | 0,j,i,h=>.one h
 | f+1,j,i,h=>by
  rw [HF] at h
  split at h
  ·rename_i o ho
   simp only [Array.any_eq_true',X1,Bool.or_eq_true,Zg] at h
   obtain ⟨e,he,hb,h1|⟨_,h1⟩⟩:=h
   ·exact .one (h1▸Ok ho he hb)
   ·exact .more (Ok ho he hb) (Z00 h1)
  ·cases h
theorem Z4e {ops:Array Oper} {j i:Nat} (h:Vs ops j i=true):KS ops j i:=Z00 h
def AU (ops:Array Oper) (listed:Array Bool):Prop:=∀m i,listed.getD m false=true->B9 ops m i=true->listed.getD i false=true
theorem AU.bef {ops:Array Oper} {listed:Array Bool} (hc:AU ops listed) {j i:Nat} (hb:KS ops j i):listed.getD j false=true->listed.getD i false=true:=by
 induction hb with
 | one h=>exact fun hj=>hc _ _ hj h
 | more h _ ih=>exact fun hj=>ih (hc _ _ hj h)
theorem Lk {ops:Array Oper} {listed:Array Bool} {j i:Nat} (hj:j∈Region.ready .any ops listed) (h:B9 ops j i=true):listed.getD i false=true:=by
 obtain ⟨_,o,ho,hall⟩:=mem_ready.1 hj
 simp only [B9,ho] at h
 obtain ⟨e,he,hb⟩:=Array.any_eq_true'.1 h
 simp only [X1,Zg] at hb
 exact hb.2▸hall e he hb.1
theorem Zct {ops:Array Oper} {listed:Array Bool} {j i:Nat} (hc:AU ops listed) (hj:j∈Region.ready .any ops listed) (hi:listed.getD i true=false):¬KS ops j i:=by
 intro hb
 have hi':listed.getD i false=false:=by
  cases hq:listed.getD i false
  ·rfl
  ·rcases G7 i listed.size with h|h
   ·simp [h] at hi hq;rw [hi] at hq;cases hq
   ·simp [Array.getElem?_eq_none h] at hi
 have hl:listed.getD i false=true:=by
  cases hb with
  | one h=>exact Lk hj h
  | more h t=>exact hc.bef t (Lk hj h)
 rw [hi'] at hl
 cases hl
theorem AU.add {ops:Array Oper} {listed:Array Bool} {j:Nat} (hc:AU ops listed) (hj:j∈Region.ready .any ops listed):AU ops (listed.setIfInBounds j true):=by
 intro m i hm he
 by_cases hmj:m=j
 ·subst hmj
  exact getD_set_true (Lk hj he)
 ·rw [getD_set_ne false (Ne.symm hmj)] at hm
  exact getD_set_true (hc m i hm he)
abbrev Er:=Nat × (World->Prop)->Prop
def Df (P:Program) (ops:Array Oper) (Q:Exit->Act->World->Prop):Nat->Er->Array Bool->Act->World->Prop
 | 0,_,listed,a,w=>Region.ready .any ops listed=[]/\Q .normal a w
 | fuel+1,T,listed,a,w=>
  (Region.ready .any ops listed=[]->Q .normal a w) /\
  ∀i∈Region.ready .any ops listed,wpOp P ops Q i (fun a' w'=>(∀p,T p->¬KS ops i p.1->p.2 w') /\
   Df P ops Q fuel (fun p=>T p/\¬KS ops i p.1) (listed.setIfInBounds i true) a' w') a w
section
variable {P:Program} {ops:Array Oper} {Q:Exit->Act->World->Prop} {S:World->Prop}
theorem Z2v:∀(fuel:Nat) (T:Er) (listed:Array Bool) (a:Act) (w:World),Df P ops Q fuel T listed a w->wpAny P .any ops Q fuel listed a w
 | 0,_,_,_,_,h=>h
 | fuel+1,_,_,_,_,h=>⟨h.1,fun i hi=>wpOp_mono (fun _ _ h'=>Z2v fuel _ _ _ _ h'.2) (h.2 i hi)⟩
theorem N8:∀(fuel:Nat) {T T':Er} (listed:Array Bool) (a:Act) (w:World),(∀p,T' p->T p)->Df P ops Q fuel T listed a w->Df P ops Q fuel T' listed a w
 | 0,_,_,_,_,_,_,h=>h
 | fuel+1,_,_,_,_,_,hT,h=>⟨h.1,fun i hi=>wpOp_mono (fun _ _ h'=>⟨fun p hp=>h'.1 p (hT p hp),N8 fuel _ _ _ (fun p hp=>⟨hT p hp.1,hp.2⟩) h'.2⟩) (h.2 i hi)⟩
theorem Zje {i:Nat} {oi:Oper} {v:Value} (hi:ops[i]? = some oi) (hsel:∀(j:Nat) (o:Oper) cs b,ops[j]? = some o->o.op≠.select cs b)
  (hQ:∀c a w,¬Q (.panic c) a w) :
  ∀(fuel:Nat) (T:Er) (listed:Array Bool) (a:Act) (w:World),AU ops listed ->
   (∀j oj,ops[j]? = some oj->j≠i->listed.getD j true=false->(∀e∈oj.after,Region.binds .any e=true->e.on≠i)->oi.apart ops oj=true) ->
   i∈Region.ready .any ops listed->YieldsIf P ops S oi v a->S w->(∀p,T p->p.2 w) ->
   Df P ops Q fuel (fun p=>T p∨p=(i,S)) (listed.setIfInBounds i true) (a.put oi.dst v) w->Df P ops Q (fuel+1) T listed a w:=by
 intro fuel
 have hQ':∀c a w,Q (.panic c) (a.put oi.dst v) w->Q (.panic c) a w:=fun c a w h=>(hQ c _ w h).elim
 induction fuel with
 | zero=>
  intro T listed a w _ hfree hr hy hS hT H
  refine ⟨fun h=>(by rw [h] at hr;cases hr),fun j hj=>?_⟩
  by_cases hji:j=i
  ·subst hji
   exact hy.wpOp hi hS ⟨fun p hp _=>hT p hp,H⟩
  ·have:=ready_mono hj hji
   rw [H.1] at this
   cases this
 | succ fuel ih=>
  intro T listed a w hcl hfree hr hy hS hT H
  refine ⟨fun h=>(by rw [h] at hr;cases hr),fun j hj=>?_⟩
  by_cases hji:j=i
  ·subst hji
   exact hy.wpOp hi hS ⟨fun p hp _=>hT p hp,N8 (fuel+1) _ _ _ (fun p hp=>.inl hp.1) H⟩
  ·have h1:=H.2 j (ready_mono hj hji)
   obtain ⟨hjun,oj,hoj,hall⟩:=mem_ready.1 hj
   have hiun:=(mem_ready.1 hr).1
   have hnb:¬KS ops j i:=Zct hcl hj hiun
   have hnot:∀e∈oj.after,Region.binds .any e=true->e.on≠i:=fun e he hb heq=>
    hnb (.one (by simp only [B9,hoj];exact Array.any_eq_true'.2 ⟨e,he,by simp [hb,heq]⟩))
   have h2:=wpOp_putIf hoj (hfree j oj hoj hji hjun hnot) (fun cs b=>hsel i oi cs b hi) (fun cs b=>hsel j oj cs b hoj) hQ' hy h1
   have hfree':∀k ok,ops[k]? = some ok->k≠i->(listed.setIfInBounds j true).getD k true=false ->
     (∀e∈ok.after,Region.binds .any e=true->e.on≠i)->oi.apart ops ok=true:=fun k ok hk hki hun LN=>by
    refine hfree k ok hk hki ?_ LN
    by_cases hjk:j=k
    ·subst hjk;exact hjun
    ·rw [getD_set_ne true hjk] at hun;exact hun
   refine wpOp_mono (fun a' w' h3=>?_) h2
   obtain ⟨hy',hT',hrest⟩:=h3
   have hTp:∀p,T p/\¬KS ops j p.1->p.2 w':=fun p hp=>hT' p (.inl hp.1) hp.2
   refine ⟨fun p hp hb=>hTp p ⟨hp,hb⟩,ih _ (listed.setIfInBounds j true) a' w' (hcl.add hj) hfree' (ready_mono hr (Ne.symm hji)) hy' (hT' (i,S) (.inr rfl) hnb) hTp ?_⟩
   rw [Array.setIfInBounds_comm _ _ hji]
   refine N8 fuel _ _ _ (fun p hp=>?_) hrest
   rcases hp with hp|rfl
   ·exact ⟨.inl hp.1,hp.2⟩
   ·exact ⟨.inr rfl,hnb⟩
end
def WT (ops:Array Oper) (done:List Nat):Array Bool:=done.foldl (fun l i=>l.setIfInBounds i true) (Array.replicate ops.size false)
theorem Hq (ops:Array Oper) (done:List Nat) (i:Nat):WT ops (done++[i])=(WT ops done).setIfInBounds i true:=by simp [WT]
theorem Z4s (ops:Array Oper):AU ops (WT ops []):=by
 intro m i hm _
 simp only [WT,List.foldl_nil] at hm
 by_cases h:m<ops.size
 ·simp [h] at hm
 ·simp [h] at hm
def Xa (P:Program) (n:Nat) (ops:Array Oper) (B:Fr->List Res->Prop) (T:List (Nat × List Nat)) (fuel:Nat) (done:List Nat) (F:Fr) (h:List Res):Prop:=
 ∀(Q:Exit->Act->World->Prop) w G a (SL:Er),FR w G n F a->YL w G h->(∀c a w,¬Q (.panic c) a w)->AU ops (WT ops done) ->
  (∀p,SL p->∃t∈T,t.1=p.1/\∀w',(∀b o,G b o->w'.cell? ⟨b,o,none⟩=w.cell? ⟨b,o,none⟩)->(∀b∈t.2,w'.heap[b]? = w.heap[b]?)->p.2 w') ->
  (∀F' h' G' a' w',B F' h'->FR w' G' n F' a'->YL w' G' h'->Xb w G h w' G' h'->Q .normal a' w')->Df P ops Q fuel SL (WT ops done) a w
section
variable {P:Program} {n:Nat} {ops:Array Oper} {B:Fr->List Res->Prop} {T:List (Nat × List Nat)} {fuel:Nat} {done:List Nat} {F:Fr} {h:List Res}
theorem Z5j (hr:Region.ready .any ops (WT ops done)=[]) (hB:B F h):Xa P n ops B T fuel done F h:=by
 intro Q w G a SL hF hh _ _ _ hk
 have hq:=hk F h G a w hB hF hh (Xb.refl _ _ _)
 cases fuel with
 | zero=>exact ⟨hr,hq⟩
 | succ f=>exact ⟨fun _=>hq,by rw [hr];simp⟩
def Jc (P:Program) (n:Nat) (ops:Array Oper) (h:List Res):List Nat->List Nat->Fr->List Nat->Option (Fr × List (Nat × List (Nat × Nat)))
 | [],_,F,_=>some (F,[])
 | i::is,done,F,hints=>
  match ops[i]? with
  | none=>none
  | some o=>
   match VR n o&&(Bf n ops o&&(Region.free .any ops (WT ops done) i&&(Region.ready .any ops (WT ops done)).contains i)) with
   | false=>none
   | true=>match J5 ops F o with
    | none=>none
    | some false=>match Jc P n ops h is (done++[i]) (F.put o.dst (.tup [])) hints with
     | none=>none
     | some (F',es)=>some (F',(i,[])::es)
    | some true=>match Qm P o F h (hints.headD 0) with
     | none=>none
     | some (x,eqs)=>match Jc P n ops h is (done++[i]) (F.put o.dst x) (match eqs with | []=>hints | _=>hints.tail) with
      | none=>none
      | some (F',es)=>some (F',(i,eqs)::es)
def Fd (es:List (Nat × List (Nat × Nat))):List (Nat × List Nat):=es.map fun e=>(e.1,e.2.map (·.1))
theorem IU {i:Nat} {o:Oper} {ks:List Nat} {x:AV} (hs:Region.noSelect ops=true) (hi:ops[i]? = some o) (hd:VR n o=true) (hgl:Bf n ops o=true)
  (hf:Region.free .any ops (WT ops done) i=true) (hr:(Region.ready .any ops (WT ops done)).contains i=true)
  (hx:(J5 ops F o=some false/\x=.tup []/\ks=[])∨(J5 ops F o=some true/\XS P o F h ks x))
  (H:Xa P n ops B ((i,ks)::T) fuel (done++[i]) (F.put o.dst x) h):Xa P n ops B T (fuel+1) done F h:=by
 intro Q w G a SL hF hh hQ hcl hcov hk
 have hready:i∈Region.ready .any ops (WT ops done):=by simpa using hr
 let S:World->Prop:=fun w'=>(∀b o,G b o->w'.cell? ⟨b,o,none⟩=w.cell? ⟨b,o,none⟩)/\(∀b∈ks,w'.heap[b]? = w.heap[b]?)
 have hSL:∀p,SL p->p.2 w:=fun p hp=>by
  obtain ⟨t,_,_,h3⟩:=hcov p hp
  exact h3 w (fun _ _ _=>rfl) fun _ _=>rfl
 have key:∃v,RV w G x v/\YieldsIf P ops S o v a:=by
  rcases hx with ⟨hg,rfl,rfl⟩|⟨hg,hst⟩
  ·exact ⟨undef,.tup (cs:=[]) .nil,.inr ⟨DO hF hgl hg,rfl⟩⟩
  ·obtain ⟨v,h1,h2⟩:=hst n w G a hF hh
   exact ⟨v,h1,.inl ⟨DO hF hgl hg,fun w' hw'=>h2 w' hw'.1 hw'.2⟩⟩
 obtain ⟨v,hv,hy⟩:=key
 refine Zje hi (Region.noSelect_spec hs) hQ fuel SL _ a w hcl (Region.free_spec hi hf) hready hy ⟨fun _ _ _=>rfl,fun _ _=>rfl⟩ hSL ?_
 rw [<-Hq]
 refine H Q w G _ _ (hF.put (TT hd) hv) hh hQ (by rw [Hq];exact hcl.add hready) ?_ hk
 rintro p (hp|rfl)
 ·obtain ⟨t,h1,h2,h3⟩:=hcov p hp
  exact ⟨t,Xr _ h1,h2,h3⟩
 ·exact ⟨(i,ks),Xf ..,rfl,fun w' h1 h2=>⟨h1,h2⟩⟩
theorem IT:∀(is:List Nat) {T:List (Nat × List Nat)} {done:List Nat} {F F':Fr} {hints:List Nat} {es:List (Nat × List (Nat × Nat))} {fuel':Nat},Region.noSelect ops=true ->
  Jc P n ops h is done F hints=some (F',es)->(∀e∈es,∀p∈e.2,p.1=p.2)->fuel'=fuel+is.length ->
  Xa P n ops B ((Fd es).reverse++T) fuel (done++is) F' h->Xa P n ops B T fuel' done F h
 | [],T,done,F,F',hints,es,fuel',_,he,_,hf,H=>by
  simp only [Jc,Wk,Prod.mk.injEq] at he
  obtain ⟨rfl,rfl⟩:=he
  subst hf
  simpa [Fd] using H
 | i::is,T,done,F,F',hints,es,fuel',hs,he,heq,hf,H=>by
  simp only [Jc] at he
  cases ho:ops[i]? with
  | none=>rw [ho] at he;cases he
  | some o=>
   rw [ho] at he
   simp only at he
   cases hc:VR n o&&(Bf n ops o&&(Region.free .any ops (WT ops done) i&&(Region.ready .any ops (WT ops done)).contains i)) with
   | false=>rw [hc] at he;cases he
   | true=>
    rw [hc] at he
    simp only [X1] at hc
    obtain ⟨c1,c2,c3,c4⟩:=hc
    simp only at he
    have hfuel:fuel'=fuel+is.length+1:=by simp at hf;omega
    subst hfuel
    cases hg:J5 ops F o with
    | none=>rw [hg] at he;cases he
    | some b=>
     rw [hg] at he
     cases b with
     | false=>
      simp only at he
      cases hr:Jc P n ops h is (done++[i]) (F.put o.dst (.tup [])) hints with
      | none=>rw [hr] at he;cases he
      | some y=>
       obtain ⟨F2,es2⟩:=y
       rw [hr] at he
       simp only [Wk,Prod.mk.injEq] at he
       obtain ⟨rfl,rfl⟩:=he
       refine IU hs ho c1 c2 c3 c4 (.inl ⟨hg,rfl,rfl⟩) (IT is hs hr (fun e he=>heq e (Xr _ he)) rfl ?_)
       simpa [Fd] using H
     | true=>
      simp only at he
      cases hev:Qm P o F h (hints.headD 0) with
      | none=>rw [hev] at he;cases he
      | some xe=>
       obtain ⟨x,eqs⟩:=xe
       rw [hev] at he
       simp only at he
       generalize (match eqs with|[]=>hints|_=>hints.tail)=hints' at he
       cases hr:Jc P n ops h is (done++[i]) (F.put o.dst x) hints' with
       | none=>rw [hr] at he;cases he
       | some y=>
        obtain ⟨F2,es2⟩:=y
        rw [hr] at he
        simp only [Wk,Prod.mk.injEq] at he
        obtain ⟨rfl,rfl⟩:=he
        have hst:=DH hev (heq (i,eqs) (Xf ..))
        refine IU hs ho c1 c2 c3 c4 (.inr ⟨hg,hst⟩) (IT is hs hr (fun e he=>heq e (Xr _ he)) rfl ?_)
        simpa [Fd] using H
def V5:List Res->List Nat
 | []=>[]
 | .obj b _::r=>b::V5 r
 | .row (.slice (some a) _ _) _ _::r=>a.block::V5 r
 | _::r=>V5 r
theorem S9 {b:Nat}:∀{h:List Res},b∈V5 h->∃r∈h,∀o,r.fp b o
 | [],hb=>by simp [V5] at hb
 | x::r,hb=>by
  have up:b∈V5 r->∃q∈x::r,∀o,q.fp b o:=fun hb=>by obtain ⟨l,hl,hf⟩:=S9 (h:=r) hb;exact ⟨l,Xr _ hl,hf⟩
  unfold V5 at hb
  split at hb
  ·rename_i he;cases he
  ·rename_i he
   cases he
   rcases X0.1 hb with rfl|hb
   ·exact ⟨_,Xf ..,fun _=>rfl⟩
   ·exact up hb
  ·rename_i he
   cases he
   rcases X0.1 hb with rfl|hb
   ·exact ⟨_,Xf ..,fun _=>rfl⟩
   ·exact up hb
  ·rename_i he
   cases he
   exact up hb
def U0 (P:Program) (n:Nat) (ops:Array Oper) (B:Fr->List Res->Prop) (T:List (Nat × List Nat)) (fuel:Nat) (done:List Nat) (F:Fr) (h:List Res) (i:Nat):Prop:=
 ∃o h1 h2,ops[i]? = some o/\J5 ops F o=some true/\Bf n ops o=true/\h.Perm (h1++h2) /\
  (∀t∈T,Vs ops i t.1=true∨∀b∈t.2,b∈V5 h2) /\
  WO P n o F h1 fun F' h1'=>Xa P n ops B (T.filter fun t=>!Vs ops i t.1) fuel (done++[i]) F' (h1'++h2)
theorem O4 {is:List Nat} (hr:Region.ready .any ops (WT ops done)=is) (hne:is.isEmpty=false) (H:∀i∈is,U0 P n ops B T fuel done F h i):Xa P n ops B T (fuel+1) done F h:=by
 intro Q w G a SL hF hh hQ hcl hcov hk
 refine ⟨fun h0=>(by rw [hr] at h0;subst h0;simp at hne),fun i hi=>?_⟩
 obtain ⟨o,h1,h2,ho,hg,hgl,hp,hT,hop⟩:=H i (hr▸hi)
 have hh':=hh.perm hp
 have hw:=DO hF hgl hg
 unfold wpOp
 simp only [ho,hw,if_true]
 refine .inl (Oper.wp_mono ?_ (hop Q w G a hF hh'.left))
 intro a' w' ⟨F',h1',G',b1,b2,b3,b4⟩
 obtain ⟨j1,j2⟩:=hh'.frame b4 b3
 have hA:=b4.agree hh'.left
 have hsame:∀b∈V5 h2,w'.heap[b]? = w.heap[b]?:=fun b hb=>by
  obtain ⟨r,hl,hr⟩:=S9 hb
  exact (b4.same b ((hh'.ok r (Xg.2 (.inr hl))).lt b 0 (hr 0))).eq fun o hf=>hh'.cross hf ⟨_,hl,hr o⟩
 have hcov':∀p,SL p/\¬KS ops i p.1->∃t∈T.filter fun t=>!Vs ops i t.1,t.1=p.1 /\
   ∀w'',(∀b o,G' b o->w''.cell? ⟨b,o,none⟩=w'.cell? ⟨b,o,none⟩)->(∀b∈t.2,w''.heap[b]? = w'.heap[b]?)->p.2 w'':=by
  rintro p ⟨hp,hb⟩
  obtain ⟨t,t1,t2,t3⟩:=hcov p hp
  have hbb:Vs ops i t.1=false:=by
   cases hq:Vs ops i t.1
   ·rfl
   ·exact absurd (t2▸Z4e hq) hb
  refine ⟨t,List.mem_filter.2 ⟨t1,by simp [hbb]⟩,t2,fun w'' c1 c2=>t3 w'' (fun b o hg=>(c1 b o (hA.sub b o hg)).trans (hA.cell b o hg)) fun b hb'=>?_⟩
  rcases hT t t1 with h|h
  ·rw [hbb] at h;cases h
  ·exact (c2 b hb').trans (hsame b (h b hb'))
 refine ⟨fun p hp hb=>?_,?_⟩
 ·obtain ⟨t,_,_,t3⟩:=hcov' p ⟨hp,hb⟩
  exact t3 w' (fun _ _ _=>rfl) fun _ _=>rfl
 ·rw [<-Hq]
  exact b1 Q w' G' a' _ b2 j1 hQ (by rw [Hq];exact hcl.add hi) hcov' fun F2 h2' G2 a2 w2 c1 c2 c3 c4=>hk F2 h2' G2 a2 w2 c1 c2 c3 ((j2.perm hp.symm (Jm _)).trans c4)
theorem Z5m {i:Nat} (hr:Region.ready .any ops (WT ops done)=[i]) (H:U0 P n ops B T fuel done F h i):Xa P n ops B T (fuel+1) done F h:=
 O4 hr rfl fun j hj=>by rw [Xs.1 hj];exact H
theorem IV {F':Fr} (hw:F.Le F') (H:Xa P n ops B T fuel done F' h):Xa P n ops B T fuel done F h:=by
 intro Q w G a SL hF hh hQ hcl hcov hk
 exact H Q w G a SL (hF.le hw) hh hQ hcl hcov hk
end
theorem Nn {P:Program} {n:Nat} {c:Code} {A:WW} {F:Fr} {h:List Res} (hk:Xc c=2) (hm:P.follows .mixedOrders=true) {k:Nat} (Xo:(XI c).size=k)
  (hs:Xa P n (XI c) (A .normal) [] k [] F h):Yw P n c A F h:=by
 rw [Z4k hk]
 intro w G a hF hh
 subst Xo
 let Q:Exit->Act->World->Prop:=fun e a' w'=>match e with
  | .normal=>AW n A w G h .normal a' w'
  | _=>False
 have hx:=hs Q w.drew G a (fun _=>False) (hF.mono (BG w G)) hh.drew (fun _ _ _ hq=>hq) (Z4s _) (fun p hp=>hp.elim)
  fun F' h' G' a' w' b1 b2 b3 b4=>⟨F',h',G',b1,b2,b3,(Xb.drew w G h).trans b4⟩
 refine wp_mono (wp_region_any (Q:=Q) hm (Z2v _ _ _ _ _ hx)) ?_
 intro e a' w' hq
 cases e with
 | normal=>exact hq
 | _=>exact hq.elim
theorem Z3d {P:Program} {n:Nat} {c:Code} {A:WW} {F:Fr} {h:List Res} (hk:Xc c=3) (hk2:Xc (YO c)=2) (hm:P.follows .mixedOrders=true) {k:Nat}
  (Xo:(XI (YO c)).size=k) (hs:Xa P n (XI (YO c)) (fun F h=>Yw P n (U2 c) A F h) [] k [] F h):Yw P n c A F h:=
 Iu hk (Nn hk2 hm Xo hs)
abbrev AV.i (n:Int):AV:=.val (.int .i64 n)
abbrev AV.b (b:Bool):AV:=.val (.bool b)
abbrev AV.p (b:Nat) (o:Nat):AV:=.val (.pointer (some ⟨b,o,none⟩))
abbrev AV.ms (b off len cap:Nat):AV:=.val (.slice (some ⟨b,off,none⟩) len cap)
def ZL (ops:Array Oper) (k:Nat):Oper:=ops.toList.getD k default
def Xk (n:Nat) (ops:Array Oper) (F:Fr) (k:Nat):Bool:=
 Nat.blt k ops.size&&(VR n (ZL ops k)&&(Bf n ops (ZL ops k)&&(match J5 ops F (ZL ops k) with|some true=>true|_=>false)))
abbrev SI (P:Program) (n:Nat) (ops:Array Oper) (B:Fr->List Res->Prop) (k:Nat) (F:Fr) (h:List Res):Prop:=Kt P n ops B (ops.toList.drop k) F h
theorem Z5z {ops:Array Oper} {k:Nat} (h:k<ops.size):ops.toList.drop k=ZL ops k::ops.toList.drop (k+1):=by
 have this:k<ops.toList.length:=by simpa using h
 rw [Na this]
 simp [ZL,List.getD,h]
section
variable {P:Program} {n:Nat} {ops:Array Oper} {B:Fr->List Res->Prop} {k:Nat} {F:Fr} {h:List Res}
theorem UI (hk:Xk n ops F k=true):k<ops.size/\VR n (ZL ops k)=true/\Bf n ops (ZL ops k)=true/\J5 ops F (ZL ops k)=some true:=by
 simp only [Xk,X1] at hk
 obtain ⟨h1,h2,h3,h4⟩:=hk
 refine ⟨by simpa using h1,h2,h3,?_⟩
 split at h4
 ·assumption
 ·cases h4
theorem QG (hk:Xk n ops F k=true) (ho:WO P n (ZL ops k) F h fun F' h'=>SI P n ops B (k+1) F' h'):SI P n ops B k F h:=by
 obtain ⟨h1,h2,h3,h4⟩:=UI hk
 show Kt P n ops B (ops.toList.drop k) F h
 rw [Z5z h1]
 exact Zfq h4 h3 ho
theorem EV {ks:List Nat} {x:AV} (hk:Xk n ops F k=true) (hs:XS P (ZL ops k) F h ks x) (H:SI P n ops B (k+1) (F.put (ZL ops k).dst x) h):SI P n ops B k F h:=
 QG hk (hs.op (UI hk).2.1 H)
theorem MD:∀(m:Nat) {l:List Oper} {F:Fr} {hints:List Nat} {l':List Oper} {F':Fr} {es:List (Nat × Nat)},QN P n ops h m l F hints=some (l',F',es)->l'=l.drop m
 | 0,l,F,hints,l',F',es,he=>by
  simp only [QN,Wk,Prod.mk.injEq] at he
  simp [he.1]
 | m+1,[],F,hints,l',F',es,he=>by simp [QN] at he
 | m+1,o::l,F,hints,l',F',es,he=>by
  simp only [QN] at he
  split at he
  ·cases he
  ·split at he
   ·cases he
   ·simpa using MD m he
   ·split at he
    ·cases he
    ·split at he
     ·cases he
     ·rename_i hr
      simp only [Wk,Prod.mk.injEq] at he
      obtain ⟨rfl,_,_⟩:=he
      simpa using MD m hr
theorem Ml:∀{es:List (Nat × Nat)},es.map (·.1)=es.map (·.2)->∀p∈es,p.1=p.2
 | [],_,p,hp=>by simp at hp
 | e::es,h,p,hp=>by
  simp only [Tm,List.cons.injEq] at h
  rcases X0.1 hp with rfl|hp
  ·exact h.1
  ·exact Ml h.2 p hp
theorem Zai (x':AV) {x:AV} (hk:Xk n ops F k=true) (he:Qm P (ZL ops k) F h 0=some (x,[])) (hx:Zl x x') (H:SI P n ops B (k+1) (F.put (ZL ops k).dst x') h):SI P n ops B k F h:=by
 refine EV (ks:=[]) hk ?_ H
 have hs:=DH he (by simp)
 intro n w G a hF hh
 obtain ⟨v,h1,h2⟩:=hs n w G a hF hh
 exact ⟨v,hx _ _ _ h1,by simpa using h2⟩
theorem R0 (hk:Nat.ble ops.size k=true) (hB:B F h):SI P n ops B k F h:=by
 have:ops.toList.drop k=[]:=Nb (by simpa using Vd hk)
 show Kt P n ops B (ops.toList.drop k) F h
 rw [this]
 exact Zfp hB
theorem R3 (H:SI P n ops B 0 F h):Kt P n ops B ops.toList F h:=H
theorem Zae (F':Fr) (h':List Res) (H:SI P n ops (fun F h=>Tp F h F' h') k F h) (hB:B F' h') (hB':∀F h,Tp F h F' h'->B F' h'->B F h):SI P n ops B k F h:=by
 intro Q w G a hF hh hk
 exact H Q w G a hF hh fun F2 h2 G2 a2 w2 b1 b2 b3 b4=>hk F2 h2 G2 a2 w2 (hB' _ _ b1 hB) b2 b3 b4
theorem Zaf {c:Code} {A:WW} (F':Fr) (h':List Res) (H:SI P n ops (fun F h=>Tp F h F' h') k F h) (hB:Yw P n c A F' h'):SI P n ops (fun F h=>Yw P n c A F h) k F h:=
 Zae F' h' H hB fun _ _ hw ha=>Dl hw ha
theorem Zaj {b:Bool} (t:Nat) (hF:F.get t=.val (.bool b)) (h1:b=true->SI P n ops B k ((t,.val (.bool true))::F) h)
  (h2:b=false->SI P n ops B k ((t,.val (.bool false))::F) h):SI P n ops B k F h:=by
 cases b with
 | true=>exact HO ⟨DL hF (Zl.refl _) (Fr.Le.refl F),[],by simp⟩ (h1 rfl)
 | false=>exact HO ⟨DL hF (Zl.refl _) (Fr.Le.refl F),[],by simp⟩ (h2 rfl)
theorem Y2 {b:Bool} {p:Prop} (h:b=true↔p) (hb:b=false):¬p:=fun q=>by have:=h.2 q;rw [hb] at this;cases this
theorem BZ {α:Type} {xs:List α} {j:Nat} (h:j<xs.length):∃x,xs[j]? = some x:=⟨_,Dh h⟩
theorem Yo {a b:Bool} {p q:Prop} (h1:a=true↔p) (h2:b=true↔q):(a&&b)=true↔p/\q:=by rw [X1,h1,h2]
theorem ZJ {a b:Bool} {p q:Prop} (h1:a=true↔p) (h2:b=true↔q):(a||b)=true↔p∨q:=by rw [Bool.or_eq_true,h1,h2]
theorem Y8 {a:Bool} {p:Prop} (h1:a=true↔p):(!a)=true↔¬p:=by rw [<-h1];cases a<;>simp
def A8 (ops:Array Oper) (F:Fr) (k:Nat):Option Int:=
 match (ZL ops k).op with
 | .binOp op _ x y _=>match F.ev x,F.ev y with
  | .val (.int .i64 a),.val (.int .i64 b)=>match op with
   | .add=>some (a+b)
   | .sub=>some (a-b)
   | .mul=>some (a*b)
   | _=>none
  | _,_=>none
 | _=>none
theorem Z22 {r s:Int} (ha:A8 ops F k=some s) (hs:s=r) (hb:-9223372036854775808<=r/\r<=9223372036854775807) :
  XS P (ZL ops k) F h [] (.val (.int .i64 r)):=by
 subst hs
 unfold A8 at ha
 generalize hoo:ZL ops k=o at ha
 obtain ⟨dst,op,type,pos,after,guard⟩:=o
 cases op<;>simp only at ha<;>try (cases ha)
 rename_i bop xt x y yt
 split at ha
 ·rename_i a b h1 h2
  have key:∀v,EK bop .i64 a b=some (.int .i64 (IntKind.i64.wrap v))->v=s->XS P { dst:=dst,op:=.binOp bop xt x y yt,type:=type,pos:=pos,after:=after,guard:=guard } F h [] (.val (.int .i64 s)):=by
   intro v hv hvs
   have he:Qm P { dst:=dst,op:=.binOp bop xt x y yt,type:=type,pos:=pos,after:=after,guard:=guard } F h 0=some (.val (.int .i64 (IntKind.i64.wrap v)),[]):=by
    simp only [Qm,h1,h2,FI,hv]
   have:=DH he (by simp)
   rw [hvs,IntWalk.i64_in s hb] at this
   simpa using this
  split at ha
  ·cases ha;exact key (a+b) rfl rfl
  ·cases ha;exact key (a-b) rfl rfl
  ·cases ha;exact key (a*b) rfl rfl
  ·cases ha
 ·cases ha
theorem Zac (r:Int) {s:Int} (hk:Xk n ops F k=true) (ha:A8 ops F k=some s) (hs:s=r) (hb:-9223372036854775808<=r/\r<=9223372036854775807)
  (H:SI P n ops B (k+1) (F.put (ZL ops k).dst (.val (.int .i64 r))) h):SI P n ops B k F h:=
 EV (ks:=[]) hk (Z22 ha hs hb) H
def UV:List Nat->List Res->Option (List Res × List Res)
 | [],l=>some ([],l)
 | i::is,l=>match l[i]? with
  | some r=>match UV is (l.eraseIdx i) with
   | some (a,b)=>some (r::a,b)
   | none=>none
  | none=>none
theorem OO:∀{l:List Res} {i:Nat} {r:Res},l[i]? = some r->l.Perm (r::l.eraseIdx i)
 | [],i,r,h=>by simp at h
 | x::l,0,r,h=>by simp at h;subst h;simp
 | x::l,i+1,r,h=>by
  have:=OO (l:=l) (i:=i) (r:=r) (by simpa using h)
  simp only [List.eraseIdx_cons_succ]
  exact (List.Perm.cons x this).trans (List.Perm.swap r x _)
theorem Th:∀{is:List Nat} {l a b:List Res},UV is l=some (a,b)->l.Perm (a++b)
 | [],l,a,b,h=>by
  simp only [UV,Wk,Prod.mk.injEq] at h
  obtain ⟨rfl,rfl⟩:=h
  simp
 | i::is,l,a,b,h=>by
  simp only [UV] at h
  split at h
  ·rename_i r hr
   split at h
   ·rename_i a' b' hp
    simp only [Wk,Prod.mk.injEq] at h
    obtain ⟨rfl,rfl⟩:=h
    exact (OO hr).trans (List.Perm.cons r (Th hp))
   ·cases h
  ·cases h
theorem Zjd {F':Fr} {h' d:List Res} (is:List Nat) (hF:F.Le F') (hp:UV is h=some (h',d)):Tp F h F' h':=⟨hF,d,Th hp⟩
def Af (P:Program) (ops:Array Oper) (F:Fr) (k:Nat):Option (FuncId × List AV):=
 match (ZL ops k).op with
 | .call c=>match c.callee with
  | .value (.func f)=>match P.funcs[f]? with
   | some fn=>match fn.body.isSome&&!(fn.name== "runtime.NumGoroutine") with
    | true=>some (f,c.args.toList.map F.ev)
    | false=>none
   | none=>none
  | .value t=>match F.ev t with
   | .val (.func (.func f) vs caps)=>match vs.toList,P.funcs[f]? with
    | [],some fn=>match fn.body.isSome&&!(fn.name== "runtime.NumGoroutine") with
     | true=>some (f,c.args.toList.map F.ev++caps.toList.map AV.val)
     | false=>none
    | _,_=>none
   | _=>none
  | _=>none
 | _=>none
theorem Mj {K:Fr->List Res->Prop} {f:FuncId} {xs:List AV} {h1 h2:List Res} {R:AV->List Res->Prop} (hd:VR n (ZL ops k)=true) (hc:Af P ops F k=some (f,xs))
  (hp:h.Perm (h1++h2)) (H:V1 P f xs h1 R) (hK:∀r h',R r h'->K (F.put (ZL ops k).dst r) (h'++h2)):WO P n (ZL ops k) F h K:=by
 unfold Af at hc
 generalize hoo:ZL ops k=o at hc hd hK
 obtain ⟨dst,op,type,pos,after,guard⟩:=o
 cases op<;>simp only at hc<;>try (cases hc)
 rename_i c
 obtain ⟨callee,args,tys⟩:=c
 cases callee with
 | builtin b=>cases hc
 | invoke r m=>cases hc
 | value t=>
  simp only at hc
  split at hc
  ·rename_i g hg
   cases hg
   split at hc
   ·rename_i fn hf
    split at hc
    ·rename_i hb
     simp only [X1,Bool.not_eq_true'] at hb
     simp only [Wk,Prod.mk.injEq] at hc
     obtain ⟨rfl,rfl⟩:=hc
     exact Zd9 _ args tys rfl hf hb.1 hb.2 rfl hd hp H hK
    ·cases hc
   ·cases hc
  ·rename_i t' hnf ht'
   cases ht'
   split at hc
   ·rename_i g vs caps hv
    split at hc
    ·rename_i fn hvs hf
     split at hc
     ·rename_i hb
      simp only [X1,Bool.not_eq_true'] at hb
      simp only [Wk,Prod.mk.injEq] at hc
      obtain ⟨rfl,rfl⟩:=hc
      have:vs=#[]:=by rw [<-UZ (xs:=vs),hvs]
      subst this
      exact Zda t args tys rfl hv hf hb.1 hb.2 rfl hd hp H hK
     ·cases hc
    ·cases hc
   ·cases hc
  ·cases hc
theorem Zad (f:FuncId) (xs:List AV) (is:List Nat) {h1 h2:List Res} {R:AV->List Res->Prop} (hk:Xk n ops F k=true) (hc:Af P ops F k=some (f,xs))
  (hp:UV is h=some (h1,h2)) (H:V1 P f xs h1 R) (hK:∀r h',R r h'->SI P n ops B (k+1) (F.put (ZL ops k).dst r) (h'++h2)):SI P n ops B k F h:=
 QG hk (Mj (UI hk).2.1 hc (Th hp) H hK)
def C2 (P:Program) (ops:Array Oper) (F:Fr) (k:Nat):Option (AV × Int × Nat):=
 match (ZL ops k).op with
 | .indexAddr t x ix=>match P.underlying t with
  | some (.slice e)=>match P.info? e with
   | some i=>match F.ev ix with
    | .val (.int _ j)=>some (F.ev x,j,i.size)
    | _=>none
   | none=>none
  | _=>none
 | _=>none
theorem Ef {es:List AV} {hv:Option Value} {j:Int} {sz:Nat} {y:AV} (hi:C2 P ops F k=some (.sl es hv,j,sz)) (h0:0<=j) (hget:es[j.toNat]? = some y)
  (hy:y.leaves.length=sz):XS P (ZL ops k) F h [] (.rp y.leaves):=by
 unfold C2 at hi
 generalize hoo:ZL ops k=o at hi
 obtain ⟨dst,op,type,pos,after,guard⟩:=o
 cases op<;>simp only at hi<;>try (cases hi)
 rename_i t x ix
 split at hi
 ·rename_i e ht
  split at hi
  ·rename_i i hinfo
   split at hi
   ·rename_i ik j' hix
    simp only [Wk,Prod.mk.injEq] at hi
    obtain ⟨h1,rfl,rfl⟩:=hi
    exact Zhv t x ix rfl ht hinfo rfl h1 hix h0 hget hy
   ·cases hi
  ·cases hi
 ·cases hi
theorem Z23 {b off len cap:Nat} {j:Int} {sz:Nat} (hi:C2 P ops F k=some (.val (.slice (some ⟨b,off,none⟩) len cap),j,sz)) (h0:0<=j) (hlt:j<len) :
  XS P (ZL ops k) F h [] (.val (.pointer (some ⟨b,off+j.toNat * sz,none⟩))):=by
 unfold C2 at hi
 generalize hoo:ZL ops k=o at hi
 obtain ⟨dst,op,type,pos,after,guard⟩:=o
 cases op<;>simp only at hi<;>try (cases hi)
 rename_i t x ix
 split at hi
 ·rename_i e ht
  split at hi
  ·rename_i i hinfo
   split at hi
   ·rename_i ik j' hix
    simp only [Wk,Prod.mk.injEq] at hi
    obtain ⟨h1,rfl,rfl⟩:=hi
    exact Zhw t x ix rfl ht hinfo rfl h1 hix h0 hlt
   ·cases hi
  ·cases hi
 ·cases hi
def MM (P:Program) (ops:Array Oper) (F:Fr) (k:Nat) (len:Int):Option (AV × Int × Int × Nat):=
 match (ZL ops k).op with
 | .slice t x lo hi none=>match P.underlying t with
  | some (.slice e)=>match P.info? e with
   | some i=>match C9 F lo 0,C9 F hi len with
    | some l,some m=>some (F.ev x,l,m,i.size)
    | _,_=>none
   | none=>none
  | _=>none
 | _=>none
theorem Zi2 {es:List AV} {hv:Option Value} {l m:Int} {sz:Nat} (hi:MM P ops F k es.length=some (.sl es hv,l,m,sz)) (h0:0<=l) (h1:l<=m) (h2:m<=es.length)
  (hes:∀y∈es,y.leaves.length=sz):XS P (ZL ops k) F h [] (.sl ((es.take m.toNat).drop l.toNat) none):=by
 unfold MM at hi
 generalize hoo:ZL ops k=o at hi
 obtain ⟨dst,op,type,pos,after,guard⟩:=o
 cases op<;>simp only at hi<;>try (cases hi)
 rename_i t x lo hi' mx
 cases mx with
 | some _=>simp at hi
 | none=>
  simp only at hi
  split at hi
  ·rename_i e ht
   split at hi
   ·rename_i i hinfo
    split at hi
    ·rename_i l' m' hl hm
     simp only [Wk,Prod.mk.injEq] at hi
     obtain ⟨hx,rfl,rfl,rfl⟩:=hi
     exact Zi1 t x lo hi' rfl ht hinfo rfl hx hl hm h0 h1 h2 hes
    ·cases hi
   ·cases hi
  ·cases hi
theorem AO {es es':List AV} {hv:Option Value} {l m:Int} {sz:Nat} (hi:MM P ops F k es.length=some (.sl es hv,l,m,sz)) (h0:0<=l) (h1:l<=m) (h2:m<=es.length)
  (hes:∀y∈es,y.leaves.length=sz) (he:(es.take m.toNat).drop l.toNat=es'):XS P (ZL ops k) F h [] (.sl es' none):=he▸Zi2 hi h0 h1 h2 hes
def TS (P:Program) (ops:Array Oper) (F:Fr) (k:Nat):Option (AV × AV × Nat):=
 match (ZL ops k).op with
 | .call c=>match c.callee,c.args.toList,c.argTypes.toList with
  | .builtin .append,[s,x],[t,t']=>match Nat.beq t t',P.underlying t with
   | true,some (.slice e)=>match P.info? e with
    | some i=>match i.zero with
     | some z=>match Nat.beq z.cells.size i.size&&Nat.ble i.bytes 128 with
      | true=>some (F.ev s,F.ev x,i.size)
      | false=>none
     | none=>none
    | none=>none
   | _,_=>none
  | _,_,_=>none
 | _=>none
theorem Se {K:Fr->List Res->Prop} {es xs:List AV} {hv:Value} {hx:Option Value} {sz:Nat} {h1 h2:List Res} (hd:VR n (ZL ops k)=true)
  (ha:TS P ops F k=some (.sl es (some hv),.sl xs hx,sz)) (hes:∀y∈es,y.leaves.length=sz) (hxs:∀y∈xs,y.leaves.length=sz) (hone:(Zu xs).all AV.one=true)
  (hbound:es.length+xs.length<=1099511627776)
  (hK:∀v',(v'.ownBlock=hv.ownBlock∨∃b,v'.ownBlock=some b/\BA (h1++.tail hv sz::h2) b)->K (F.put (ZL ops k).dst (.sl (es++xs) (some v'))) (h1++.tail v' sz::h2)) :
  WO P n (ZL ops k) F (h1++.tail hv sz::h2) K:=by
 unfold TS at ha
 generalize hoo:ZL ops k=o at ha hd hK
 obtain ⟨dst,op,type,pos,after,guard⟩:=o
 cases op<;>simp only at ha<;>try (cases ha)
 rename_i c
 obtain ⟨callee,args,tys⟩:=c
 simp only at ha
 split at ha
 ·rename_i s x t t' hargs htys
  split at ha
  ·rename_i e htt ht
   have:=T1 htt
   subst this
   split at ha
   ·rename_i i hinfo
    split at ha
    ·rename_i z hz
     split at ha
     ·rename_i hb
      simp only [X1] at hb
      simp only [Wk,Prod.mk.injEq] at ha
      obtain ⟨h3,h4,rfl⟩:=ha
      have e1:args=#[s,x]:=by rw [<-UZ (xs:=args),hargs]
      have e2:tys=#[t,t]:=by rw [<-UZ (xs:=tys),htys]
      subst e1;subst e2
      exact Zd7 s x t rfl ht hinfo rfl (by rw [hz];simp [T1 hb.1]) hb.2 h3 h4 hd hes hxs hone hbound hK
     ·cases ha
    ·cases ha
   ·cases ha
  ·cases ha
 ·cases ha
theorem WO.perm {K:Fr->List Res->Prop} {o:Oper} {h':List Res} (hp:h.Perm h') (H:WO P n o F h' K):WO P n o F h K:=by
 intro Q w G a hF hh
 refine Oper.wp_mono ?_ (H Q w G a hF (hh.perm hp))
 intro a' w' ⟨F',h2,G',b1,b2,b3,b4⟩
 exact ⟨F',h2,G',b1,b2,b3,b4.perm hp.symm (Jm _)⟩
theorem Zab (j:Nat) (es':List AV) {es xs:List AV} {hv:Value} {hx:Option Value} {sz:Nat} {h2:List Res} (hk:Xk n ops F k=true)
  (ha:TS P ops F k=some (.sl es (some hv),.sl xs hx,sz)) (hp:UV [j] h=some ([.tail hv sz],h2)) (hes:∀y∈es,y.leaves.length=sz) (hxs:∀y∈xs,y.leaves.length=sz)
  (hone:(Zu xs).all AV.one=true) (hbound:es.length+xs.length<=1099511627776) (he:es++xs=es')
  (hK:∀v',SI P n ops B (k+1) (F.put (ZL ops k).dst (.sl es' (some v'))) (.tail v' sz::h2)):SI P n ops B k F h:=
 QG hk (WO.perm (Th hp) (Se (h1:=[]) (UI hk).2.1 ha hes hxs hone hbound fun v' _=>by rw [he];exact hK v'))
theorem HZ {w:World} {G:Yl} {sz:Nat} (hh:YL w G h):YL w G (.tail (.slice none 0 0) sz::h)/\Xb w G h w G (.tail (.slice none 0 0) sz::h):=
 ⟨⟨fun r hr=>by
   rcases X0.1 hr with rfl|hr
   ·exact .inl rfl
   ·exact hh.ok r hr,Uh.2 ⟨fun _ _ _ _ hf=>hf.elim,hh.apart⟩,fun r hr b o hf hg=>by
   rcases X0.1 hr with rfl|hr
   ·exact hf.elim
   ·exact hh.prot r hr b o hf hg,hh.lt⟩,
  ⟨rfl,rfl,rfl,X2 _,fun _ _ h=>h,fun _ _=>.inl rfl,fun _ _ _ h=>.inl h,fun b o _ ⟨r,hr,hf⟩=>by
   rcases X0.1 hr with rfl|hr
   ·exact hf.elim
   ·exact ⟨r,hr,hf⟩⟩⟩
theorem Zal (sz:Nat) (H:SI P n ops B k F (.tail (.slice none 0 0) sz::h)):SI P n ops B k F h:=by
 intro Q w G a hF hh hk
 obtain ⟨h1,h2⟩:=HZ (sz:=sz) hh
 exact H Q w G a hF h1 fun F2 h2' G2 a2 w2 b1 b2 b3 b4=>hk F2 h2' G2 a2 w2 b1 b2 b3 (h2.trans b4)
theorem Dk {c:Code} {A:WW} (sz:Nat) (H:Yw P n c A F (.tail (.slice none 0 0) sz::h)):Yw P n c A F h:=by
 intro w G a hF hh
 obtain ⟨h1,h2⟩:=HZ (sz:=sz) hh
 exact wp_mono (H w G a hF h1) fun e a' w' hc=>hc.trans h2
end
section
variable {P:Program} {n:Nat} {ops:Array Oper} {B:Fr->List Res->Prop} {k:Nat} {F:Fr} {h:List Res}
def Dm (P:Program) (ops:Array Oper) (F:Fr) (k:Nat):Option (List AV):=
 match (ZL ops k).op with
 | .alloc t=>Ej P t
 | .box _ x=>match (F.ev x).fit with
  | true=>some (F.ev x).leaves
  | false=>none
 | _=>none
theorem Sd {K:Fr->List Res->Prop} {ls:List AV} (hd:VR n (ZL ops k)=true) (ha:Dm P ops F k=some ls)
  (hK:∀b,BA h b->K (F.put (ZL ops k).dst (.val (.pointer (some ⟨b,0,none⟩)))) (.obj b ls::h)):WO P n (ZL ops k) F h K:=by
 unfold Dm at ha
 generalize hoo:ZL ops k=o at ha hd hK
 obtain ⟨dst,op,type,pos,after,guard⟩:=o
 cases op<;>simp only at ha<;>try (cases ha)
 case alloc t=>exact Zd6 t rfl ha hd hK
 case box t x=>
  split at ha
  ·rename_i hf
   cases ha
   exact Zd8 t x rfl rfl hf hd hK
  ·cases ha
def storeAt (P:Program) (ops:Array Oper) (F:Fr) (k:Nat):Option (Nat × Nat × List AV):=
 match (ZL ops k).op with
 | .store t x y=>match F.ev x,(ZL ops k).dst,P.info? t with
  | .val (.pointer (some ⟨b,o,none⟩)),none,some i=>match Nat.beq i.size (F.ev y).leaves.length&&((F.ev y).fit&&(F.ev y).leaves.all AV.one) with
   | true=>some (b,o,(F.ev y).leaves)
   | false=>none
  | _,_,_=>none
 | _=>none
theorem Sk {K:Fr->List Res->Prop} {b o:Nat} {xs ls:List AV} {h2:List Res} (hs:storeAt P ops F k=some (b,o,xs)) (hle:Nat.ble (o+xs.length) ls.length=true)
  (hK:K F (.obj b (ls.take o++xs++ls.drop (o+xs.length))::h2)):WO P n (ZL ops k) F (.obj b ls::h2) K:=by
 unfold storeAt at hs
 generalize hoo:ZL ops k=q at hs
 obtain ⟨dst,op,type,pos,after,guard⟩:=q
 cases op<;>simp only at hs<;>try (cases hs)
 rename_i t x y
 split at hs
 ·rename_i b' o' i hx hi
  split at hs
  ·rename_i hc
   simp only [X1] at hc
   simp only [Wk,Prod.mk.injEq] at hs
   obtain ⟨rfl,rfl,rfl⟩:=hs
   exact Zdg (h1:=[]) t x y rfl rfl hx rfl (by simp only [X1];exact hc.2) (by rw [hi];simp [T1 hc.1]) hle hK
  ·cases hs
 ·cases hs
def Tx (P:Program) (ops:Array Oper) (F:Fr) (k:Nat):Option (List AV × Nat × Nat):=
 match (ZL ops k).op with
 | .buildSlice t len parts=>match P.underlying t with
  | some (.slice e)=>match P.info? e with
   | some i=>match i.zero.isSome&&Nat.ble (len*i.size) (2 ^ 24) with
    | true=>match Bc (fun j=>some (j*i.size,i.size)) (List.replicate (len*i.size) .any) (parts.toList.map fun p=>(p.1,F.ev p.2)) with
     | some ls=>some (ls,len,i.size)
     | none=>none
    | false=>none
   | none=>none
  | _=>none
 | _=>none
theorem Sf {K:Fr->List Res->Prop} {es:List AV} {len sz:Nat} (hd:VR n (ZL ops k)=true) (ha:Tx P ops F k=some (Zu es,len,sz)) (hlen:es.length=len) (hall:B0 es sz=true)
  (hK:∀b,BA h b->K (F.put (ZL ops k).dst (.sl es (some (.slice (some ⟨b,0,none⟩) len len)))) (.tail (.slice (some ⟨b,0,none⟩) len len) sz::h)):WO P n (ZL ops k) F h K:=by
 unfold Tx at ha
 generalize hoo:ZL ops k=q at ha hd hK
 obtain ⟨dst,op,type,pos,after,guard⟩:=q
 cases op<;>simp only at ha<;>try (cases ha)
 rename_i t ln parts
 split at ha
 ·rename_i e ht
  split at ha
  ·rename_i i hi
   split at ha
   ·rename_i hc
    simp only [X1] at hc
    split at ha
    ·rename_i ls hf
     simp only [Wk,Prod.mk.injEq] at ha
     obtain ⟨rfl,rfl,rfl⟩:=ha
     exact Zdb t _ parts rfl ht hi rfl hc.1 hc.2 hf hlen hall hd hK
    ·cases ha
   ·cases ha
  ·cases ha
 ·cases ha
theorem Zaa (ls:List AV) (hk:Xk n ops F k=true) (ha:Dm P ops F k=some ls)
  (hK:∀b,SI P n ops B (k+1) (F.put (ZL ops k).dst (.val (.pointer (some ⟨b,0,none⟩)))) (.obj b ls::h)):SI P n ops B k F h:=
 QG hk (Sd (UI hk).2.1 ha fun b _=>hK b)
theorem Zak (j:Nat) {b o:Nat} {xs ls:List AV} {h2:List Res} (ls':List AV) (hk:Xk n ops F k=true) (hs:storeAt P ops F k=some (b,o,xs)) (hp:UV [j] h=some ([.obj b ls],h2))
  (hle:Nat.ble (o+xs.length) ls.length=true) (he:ls.take o++xs++ls.drop (o+xs.length)=ls') (H:SI P n ops B (k+1) F (.obj b ls'::h2)):SI P n ops B k F h:=
 QG hk (WO.perm (Th hp) (Sk hs hle (by rw [he];exact H)))
theorem Zag (es:List AV) {len sz:Nat} (hk:Xk n ops F k=true) (ha:Tx P ops F k=some (Zu es,len,sz)) (hlen:es.length=len) (hall:B0 es sz=true)
  (hK:∀v,SI P n ops B (k+1) (F.put (ZL ops k).dst (.sl es (some v))) (.tail v sz::h)):SI P n ops B k F h:=
 QG hk (Sf (UI hk).2.1 ha hlen hall fun _ _=>hK _)
variable {T:List (Nat × List Nat)} {fuel fuel':Nat} {done:List Nat}
def Fc (P:Program) (n:Nat) (ops:Array Oper) (h:List Res) (is done:List Nat) (F:Fr) (hints:List Nat):List (Nat × List Nat):=
 match Jc P n ops h is done F hints with
 | some (_,es)=>Fd es
 | none=>[]
theorem So:∀{es:List (Nat × List (Nat × Nat))},es.flatMap (fun e=>e.2.map (·.1))=es.flatMap (fun e=>e.2.map (·.2))->∀e∈es,∀p∈e.2,p.1=p.2
 | [],_,e,he=>by simp at he
 | x::es,hq,e,he=>by
  simp only [Cl] at hq
  have h1:=List.append_inj hq (by simp)
  rcases X0.1 he with rfl|he
  ·exact Ml h1.1
  ·exact So h1.2 e he
def UH (ops:Array Oper) (i:Nat) (T:List (Nat × List Nat)):List Nat:=(T.filter fun t=>!Vs ops i t.1).flatMap (·.2)
theorem Zd1 {i:Nat} {h2:List Res} (js bs:List Nat) (h1:UH ops i T=bs) (h3:js.map (fun j=>(V5 h2)[j]?)=bs.map some) :
  ∀t∈T,Vs ops i t.1=true∨∀b∈t.2,b∈V5 h2:=by
 have hall:∀(js bs:List Nat),js.map (fun j=>(V5 h2)[j]?)=bs.map some->∀b∈bs,b∈V5 h2:=by
  intro js
  induction js with
  | nil=>intro bs hb b hm;cases bs with
   | nil=>simp at hm
   | cons _ _=>simp at hb
  | cons j js ih=>intro bs hb b hm;cases bs with
   | nil=>simp at hm
   | cons c bs=>
    simp only [Tm,List.cons.injEq] at hb
    rcases X0.1 hm with rfl|hm
    ·exact Y4 hb.1
    ·exact ih bs hb.2 b hm
 intro t ht
 cases hq:Vs ops i t.1 with
 | true=>exact .inl rfl
 | false=>
  refine .inr fun b hb=>hall js bs h3 b ?_
  rw [<-h1]
  exact List.mem_flatMap.2 ⟨t,List.mem_filter.2 ⟨ht,by simp [hq]⟩,hb⟩
theorem Sb {i:Nat} (hi:i<ops.size):ops[i]? = some (ZL ops i):=by
 simp [ZL,List.getD,hi]
theorem Aj {i:Nat} (is js bs:List Nat) {h1 h2:List Res} (hk:Xk n ops F i=true) (hp:UV is h=some (h1,h2)) (ho:UH ops i T=bs) (hj:js.map (fun j=>(V5 h2)[j]?)=bs.map some)
  (H:WO P n (ZL ops i) F h1 fun F' h1'=>Xa P n ops B (T.filter fun t=>!Vs ops i t.1) fuel (done++[i]) F' (h1'++h2)):U0 P n ops B T fuel done F h i:=by
 obtain ⟨q1,_,q3,q4⟩:=UI hk
 exact ⟨_,h1,h2,Sb q1,q4,q3,Th hp,Zd1 js bs ho hj,H⟩
theorem Z5g (i:Nat) (f:FuncId) (xs:List AV) (is js bs:List Nat) {h1 h2:List Res} {R:AV->List Res->Prop} (hk:Xk n ops F i=true) (hc:Af P ops F i=some (f,xs))
  (hp:UV is h=some (h1,h2)) (ho:UH ops i T=bs) (hj:js.map (fun j=>(V5 h2)[j]?)=bs.map some) (H:V1 P f xs h1 R)
  (hK:∀r h',R r h'->Xa P n ops B (T.filter fun t=>!Vs ops i t.1) fuel (done++[i]) (F.put (ZL ops i).dst r) (h'++h2)):U0 P n ops B T fuel done F h i:=
 Aj is js bs hk hp ho hj (Mj (h2:=[]) (UI hk).2.1 hc (by simp) H fun r h' hr=>by simpa using hK r h' hr)
theorem Z5d (i:Nat) (js bs:List Nat) (ls:List AV) (hk:Xk n ops F i=true) (ha:Dm P ops F i=some ls) (ho:UH ops i T=bs) (hj:js.map (fun j=>(V5 h)[j]?)=bs.map some)
  (hK:∀b,Xa P n ops B (T.filter fun t=>!Vs ops i t.1) fuel (done++[i]) (F.put (ZL ops i).dst (.val (.pointer (some ⟨b,0,none⟩)))) (.obj b ls::h)):U0 P n ops B T fuel done F h i:=
 Aj (h1:=[]) (h2:=h) [] js bs hk rfl ho hj (Sd (UI hk).2.1 ha fun b _=>hK b)
theorem Z5k (i:Nat) (js bs:List Nat) (es:List AV) {len sz:Nat} (hk:Xk n ops F i=true) (ha:Tx P ops F i=some (Zu es,len,sz)) (hlen:es.length=len) (hall:B0 es sz=true)
  (ho:UH ops i T=bs) (hj:js.map (fun j=>(V5 h)[j]?)=bs.map some)
  (hK:∀v,Xa P n ops B (T.filter fun t=>!Vs ops i t.1) fuel (done++[i]) (F.put (ZL ops i).dst (.sl es (some v))) (.tail v sz::h)):U0 P n ops B T fuel done F h i:=
 Aj (h1:=[]) (h2:=h) [] js bs hk rfl ho hj (Sf (UI hk).2.1 ha hlen hall fun _ _=>hK _)
theorem Z5e (i j:Nat) (js bs:List Nat) (es':List AV) {es xs:List AV} {hv:Value} {hx:Option Value} {sz:Nat} {h2:List Res} (hk:Xk n ops F i=true)
  (ha:TS P ops F i=some (.sl es (some hv),.sl xs hx,sz)) (hp:UV [j] h=some ([.tail hv sz],h2)) (hes:∀y∈es,y.leaves.length=sz) (hxs:∀y∈xs,y.leaves.length=sz)
  (hone:(Zu xs).all AV.one=true) (hbound:es.length+xs.length<=1099511627776) (he:es++xs=es') (ho:UH ops i T=bs) (hj:js.map (fun j=>(V5 h2)[j]?)=bs.map some)
  (hK:∀v',Xa P n ops B (T.filter fun t=>!Vs ops i t.1) fuel (done++[i]) (F.put (ZL ops i).dst (.sl es' (some v'))) (.tail v' sz::h2)):U0 P n ops B T fuel done F h i:=
 Aj [j] js bs hk hp ho hj (Se (h1:=[]) (h2:=[]) (UI hk).2.1 ha hes hxs hone hbound fun v' _=>by rw [he];exact hK v')
theorem Z5o (i j:Nat) (js bs:List Nat) {b o:Nat} {xs ls:List AV} {h2:List Res} (ls':List AV) (hk:Xk n ops F i=true) (hs:storeAt P ops F i=some (b,o,xs))
  (hp:UV [j] h=some ([.obj b ls],h2)) (hle:Nat.ble (o+xs.length) ls.length=true) (he:ls.take o++xs++ls.drop (o+xs.length)=ls') (ho:UH ops i T=bs)
  (hj:js.map (fun j=>(V5 h2)[j]?)=bs.map some) (H:Xa P n ops B (T.filter fun t=>!Vs ops i t.1) fuel (done++[i]) F (.obj b ls'::h2)):U0 P n ops B T fuel done F h i:=
 Aj [j] js bs hk hp ho hj (Sk (h2:=[]) hs hle (by rw [he];exact H))
theorem Gv (i:Nat) {ks:List Nat} {x:AV} (hs:Region.noSelect ops=true) (hk:Xk n ops F i=true)
  (hf:Region.free .any ops (WT ops done) i=true) (hr:(Region.ready .any ops (WT ops done)).contains i=true) (hx:XS P (ZL ops i) F h ks x)
  (H:Xa P n ops B ((i,ks)::T) fuel (done++[i]) (F.put (ZL ops i).dst x) h):Xa P n ops B T (fuel+1) done F h:=by
 obtain ⟨q1,q2,q3,q4⟩:=UI hk
 exact IU hs (Sb q1) q2 q3 hf hr (.inr ⟨q4,hx⟩) H
theorem Z5l (i:Nat) (x':AV) {x:AV} (hs:Region.noSelect ops=true) (hk:Xk n ops F i=true)
  (hf:Region.free .any ops (WT ops done) i=true) (hr:(Region.ready .any ops (WT ops done)).contains i=true) (he:Qm P (ZL ops i) F h 0=some (x,[])) (hx:Zl x x')
  (H:Xa P n ops B ((i,[])::T) fuel (done++[i]) (F.put (ZL ops i).dst x') h):Xa P n ops B T (fuel+1) done F h:=by
 refine Gv i (ks:=[]) hs hk hf hr ?_ H
 have hst:=DH he (by simp)
 intro n w G a hF hh
 obtain ⟨v,h1,h2⟩:=hst n w G a hF hh
 exact ⟨v,hx _ _ _ h1,by simpa using h2⟩
theorem Z5f (i:Nat) (r:Int) {s:Int} (hns:Region.noSelect ops=true) (hk:Xk n ops F i=true)
  (hf:Region.free .any ops (WT ops done) i=true) (hr:(Region.ready .any ops (WT ops done)).contains i=true) (ha:A8 ops F i=some s) (hs:s=r)
  (hb:-9223372036854775808<=r/\r<=9223372036854775807)
  (H:Xa P n ops B ((i,[])::T) fuel (done++[i]) (F.put (ZL ops i).dst (.val (.int .i64 r))) h):Xa P n ops B T (fuel+1) done F h:=
 Gv i (ks:=[]) hns hk hf hr (Z22 ha hs hb) H
theorem Z5n {b:Bool} (t:Nat) (hF:F.get t=.val (.bool b)) (h1:b=true->Xa P n ops B T fuel done ((t,.val (.bool true))::F) h)
  (h2:b=false->Xa P n ops B T fuel done ((t,.val (.bool false))::F) h):Xa P n ops B T fuel done F h:=by
 cases b with
 | true=>exact IV (DL hF (Zl.refl _) (Fr.Le.refl F)) (h1 rfl)
 | false=>exact IV (DL hF (Zl.refl _) (Fr.Le.refl F)) (h2 rfl)
theorem Z5i {c:Code} {A:WW} (F':Fr) (h':List Res) (H:Xa P n ops (fun F h=>Tp F h F' h') T fuel done F h) (hB:Yw P n c A F' h'):Xa P n ops (fun F h=>Yw P n c A F h) T fuel done F h:=by
 intro Q w G a SL hF hh hQ hcl hcov hk
 exact H Q w G a SL hF hh hQ hcl hcov fun F2 h2 G2 a2 w2 b1 b2 b3 b4=>hk F2 h2 G2 a2 w2 (Dl b1 hB) b2 b3 b4
end
end Go.Abs
section
namespace Go.Abs
structure YK where
 fields:LI
structure Zc where
 frm:Int
 to_:Int
 cons:List YK
mutual
inductive Z5 where
 | mk (op num into:Int) (args:LI) (kids:List Z7)
inductive Z7 where
 | mk (steps:List Z5) (result:Int)
end
namespace Z5
def op:Z5->Int|.mk a _ _ _ _=>a
def num:Z5->Int|.mk _ a _ _ _=>a
def into:Z5->Int|.mk _ _ a _ _=>a
def args:Z5->LI|.mk _ _ _ a _=>a
def kids:Z5->List Z7|.mk _ _ _ _ a=>a
end Z5
namespace Z7
def steps:Z7->List Z5|.mk a _=>a
def result:Z7->Int|.mk _ a=>a
end Z7
structure Yz where
 params:LI
 lent:LI
 result:Int
 body:Z7
structure ZF where
 decls:List Zc
 routines:List Yz
def Z6 (xs:LI):List AV:=xs.map AV.i
def Vh (xs:List LI):List AV:=xs.map fun l=>.sl (Z6 l) none
abbrev Es (c:YK):AV:=.agg [.sl (Z6 c.fields) none]
def WF (cs:List YK):List AV:=cs.map Es
abbrev Is (d:Zc):AV:=.agg [.i d.frm,.i d.to_,.sl (WF d.cons) none]
def Xn (ds:List Zc):List AV:=ds.map Is
mutual
def Lg:Z5->AV
 | .mk op num into args kids=>.agg [.i op,.i num,.i into,.sl (Z6 args) none,.sl (XL kids) none]
def L4:Z7->AV
 | .mk steps result=>.agg [.sl (ZQ steps) none,.i result]
def ZQ:List Z5->List AV
 | []=>[]
 | s::ss=>Lg s::ZQ ss
def XL:List Z7->List AV
 | []=>[]
 | b::bs=>L4 b::XL bs
end
abbrev X3 (s:Z5):AV:=.agg [.i s.op,.i s.num,.i s.into,.sl (Z6 s.args) none,.sl (XL s.kids) none]
abbrev Ym (b:Z7):AV:=.agg [.sl (ZQ b.steps) none,.i b.result]
abbrev A7 (r:Yz):AV:=.agg [.sl (Z6 r.params) none,.sl (Z6 r.lent) none,.i r.result,.sl (ZQ r.body.steps) none,.i r.body.result]
def X8 (rs:List Yz):List AV:=rs.map A7
abbrev YC (n:ZF):AV:=.agg [.sl (Xn n.decls) none,.sl (X8 n.routines) none]
theorem Z69 (s:Z5):Lg s=X3 s:=by cases s;rw [Lg];rfl
theorem Z62 (b:Z7):L4 b=Ym b:=by cases b;rw [L4];rfl
theorem U4:∀xs:List Z5,ZQ xs=xs.map X3
 | []=>by rw [ZQ];rfl
 | s::ss=>by rw [ZQ,U4 ss,Z69];rfl
theorem K0:∀xs:List Z7,XL xs=xs.map Ym
 | []=>by rw [XL];rfl
 | b::bs=>by rw [XL,K0 bs,Z62];rfl
section
theorem Y7 {xs:LI} {j:Nat} {x:Int} (h:xs[j]? = some x):(Z6 xs)[j]? = some (.i x):=by simp [Z6,h]
theorem Z66 {xs:List LI} {j:Nat} {x:LI} (h:xs[j]? = some x):(Vh xs)[j]? = some (.sl (Z6 x) none):=by simp [Vh,h]
theorem Ak {xs:List YK} {j:Nat} {x:YK} (h:xs[j]? = some x):(WF xs)[j]? = some (Es x):=by simp [WF,h]
theorem Ww {xs:List Zc} {j:Nat} {x:Zc} (h:xs[j]? = some x):(Xn xs)[j]? = some (Is x):=by simp [Xn,h]
theorem V9 {xs:List Z5} {j:Nat} {x:Z5} (h:xs[j]? = some x):(ZQ xs)[j]? = some (X3 x):=by simp [U4,h]
theorem UQ {xs:List Z7} {j:Nat} {x:Z7} (h:xs[j]? = some x):(XL xs)[j]? = some (Ym x):=by simp [K0,h]
theorem VJ {xs:List Yz} {j:Nat} {x:Yz} (h:xs[j]? = some x):(X8 xs)[j]? = some (A7 x):=by simp [X8,h]
@[simp] theorem Y9 (xs:LI):(Z6 xs).length=xs.length:=by simp [Z6]
@[simp] theorem Zjm (xs:List LI):(Vh xs).length=xs.length:=by simp [Vh]
@[simp] theorem U3 (xs:List YK):(WF xs).length=xs.length:=by simp [WF]
@[simp] theorem VI (xs:List Zc):(Xn xs).length=xs.length:=by simp [Xn]
@[simp] theorem UA (xs:List Z5):(ZQ xs).length=xs.length:=by simp [U4]
@[simp] theorem Kz (xs:List Z7):(XL xs).length=xs.length:=by simp [K0]
@[simp] theorem TW (xs:List Yz):(X8 xs).length=xs.length:=by simp [X8]
theorem XX (xs ys:LI):Z6 (xs++ys)=Z6 xs++Z6 ys:=by simp [Z6]
theorem Lc (xs ys:List LI):Vh (xs++ys)=Vh xs++Vh ys:=by simp [Vh]
theorem Od (xs ys:List YK):WF (xs++ys)=WF xs++WF ys:=by simp [WF]
theorem L9 (xs ys:List Zc):Xn (xs++ys)=Xn xs++Xn ys:=by simp [Xn]
theorem Vt (xs ys:List Z5):ZQ (xs++ys)=ZQ xs++ZQ ys:=by simp [U4]
theorem CD (xs ys:List Z7):XL (xs++ys)=XL xs++XL ys:=by simp [K0]
theorem DE (xs ys:List Yz):X8 (xs++ys)=X8 xs++X8 ys:=by simp [X8]
theorem KA (xs:LI) (n:Nat):(Z6 xs).take n=Z6 (xs.take n):=by simp [Z6]
theorem J1 (xs:LI) (n:Nat):(Z6 xs).drop n=Z6 (xs.drop n):=by simp [Z6]
theorem DA (xs:List Zc) (n:Nat):(Xn xs).take n=Xn (xs.take n):=by simp [Xn]
theorem Dz (xs:List Zc) (n:Nat):(Xn xs).drop n=Xn (xs.drop n):=by simp [Xn]
theorem B8 (xs:List Z5) (n:Nat):(ZQ xs).take n=ZQ (xs.take n):=by simp [U4]
theorem B7 (xs:List Z5) (n:Nat):(ZQ xs).drop n=ZQ (xs.drop n):=by simp [U4]
theorem YG (xs:LI):∀y∈Z6 xs,y.leaves.length=1:=by intro y hy;simp only [Z6,XA] at hy;obtain ⟨x,_,rfl⟩:=hy;rfl
theorem DD (xs:List LI):∀y∈Vh xs,y.leaves.length=1:=by intro y hy;simp only [Vh,XA] at hy;obtain ⟨x,_,rfl⟩:=hy;rfl
theorem Dy (xs:List YK):∀y∈WF xs,y.leaves.length=1:=by intro y hy;simp only [WF,XA] at hy;obtain ⟨x,_,rfl⟩:=hy;rfl
theorem Al (xs:List Zc):∀y∈Xn xs,y.leaves.length=3:=by intro y hy;simp only [Xn,XA] at hy;obtain ⟨x,_,rfl⟩:=hy;rfl
theorem XD (xs:List Z5):∀y∈ZQ xs,y.leaves.length=5:=by intro y hy;simp only [U4,XA] at hy;obtain ⟨x,_,rfl⟩:=hy;rfl
theorem J0 (xs:List Z7):∀y∈XL xs,y.leaves.length=2:=by intro y hy;simp only [K0,XA] at hy;obtain ⟨x,_,rfl⟩:=hy;rfl
theorem T8 (xs:List Yz):∀y∈X8 xs,y.leaves.length=5:=by intro y hy;simp only [X8,XA] at hy;obtain ⟨x,_,rfl⟩:=hy;rfl
theorem J4 {es:List AV} (h:∀y∈es,y.leaves.all AV.one=true):(Zu es).all AV.one=true:=by
 simp only [Zu,List.all_flatMap,A0]
 intro y hy
 exact A0.1 (h y hy)
theorem XT (xs:LI):(Zu (Z6 xs)).all AV.one=true:=J4 fun y hy=>by simp only [Z6,XA] at hy;obtain ⟨x,_,rfl⟩:=hy;rfl
theorem Ld (xs:List LI):(Zu (Vh xs)).all AV.one=true:=J4 fun y hy=>by simp only [Vh,XA] at hy;obtain ⟨x,_,rfl⟩:=hy;rfl
theorem L8 (xs:List YK):(Zu (WF xs)).all AV.one=true:=J4 fun y hy=>by simp only [WF,XA] at hy;obtain ⟨x,_,rfl⟩:=hy;rfl
theorem Gx (xs:List Zc):(Zu (Xn xs)).all AV.one=true:=J4 fun y hy=>by simp only [Xn,XA] at hy;obtain ⟨x,_,rfl⟩:=hy;rfl
theorem Uk (xs:List Z5):(Zu (ZQ xs)).all AV.one=true:=J4 fun y hy=>by simp only [U4,XA] at hy;obtain ⟨x,_,rfl⟩:=hy;rfl
theorem Gw (xs:List Z7):(Zu (XL xs)).all AV.one=true:=J4 fun y hy=>by simp only [K0,XA] at hy;obtain ⟨x,_,rfl⟩:=hy;rfl
theorem BR (xs:List Yz):(Zu (X8 xs)).all AV.one=true:=J4 fun y hy=>by simp only [X8,XA] at hy;obtain ⟨x,_,rfl⟩:=hy;rfl
end
end Go.Abs
end
namespace Go.Abs
def QQ (v:Value):Nat:=v.ownBlock.getD 0
def AP (v:Value) (m:Nat):Value:=
 match v with
 | .slice a _ cap=>.slice a m cap
 | v=>v
theorem Z14 {α:Type} (l:List α) (n:Nat) (x:α) (h:n<l.length):l.take n++[x]++l.drop (n+1)=l.set n x:=by
 rw [If,Zf h];simp
theorem YL.vwrite {w:World} {G:Yl} {h2:List Res} {g cap n':Nat} {ls ls':List AV} (hh:YL w G (.vec (.slice (some ⟨g,0,none⟩) ls.length cap) ls::h2)) {cs cs':Array Value} {e:TypeId}
  (hb:w.heap[g]? = some (.cells cs e (0,0))) (Xo:cs'.size=cs.size) (hn:n'=ls'.length) (hle:ls'.length<=cap) (hcap:cs.size=cap) (hls:YT w G ls' (cs'.toList.take ls'.length)) :
  YL (w.setRow g cs') G (.vec (.slice (some ⟨g,0,none⟩) n' cap) ls'::h2) /\
   Xb w G (.vec (.slice (some ⟨g,0,none⟩) ls.length cap) ls::h2) (w.setRow g cs') G (.vec (.slice (some ⟨g,0,none⟩) n' cap) ls'::h2):=by
 subst hn
 have hmem:Res.vec (.slice (some ⟨g,0,none⟩) ls.length cap) ls∈Res.vec (.slice (some ⟨g,0,none⟩) ls.length cap) ls::h2:=Xf ..
 have hA:VZ G w (w.setRow g cs') G:=⟨fun c j hg=>by
  have hne:c≠g:=fun he=>hh.prot _ hmem c j he hg
  simp [World.cell?,VN w g c cs' hne],fun _ _ h=>h⟩
 have hpw:=Uh.1 hh.apart
 have hother:∀r∈h2,∀c j,r.fp c j->c≠g:=fun r hr c j hf hc=>hpw.1 r hr c j hc hf
 refine ⟨⟨?_,Uh.2 ⟨fun r hr=>hpw.1 r hr,hpw.2⟩,?_,?_⟩,⟨rfl,rfl,rfl,by simp [World.setRow],fun _ _ h=>h,?_,fun _ _ _ h=>.inl h,?_⟩⟩
 ·intro r hr
  rcases X0.1 hr with rfl|hr
  ·exact .inr ⟨g,cap,cs',e,rfl,setRow_heap w g cs cs' e (0,0) hb,hle,Xo.trans hcap,hls.mono hA⟩
  ·have h0:=hh.ok r (Xr _ hr)
   cases r with
   | obj c ks=>
    obtain ⟨ds,el,k1,k2⟩:=h0
    exact ⟨ds,el,(VN w g c cs' (hother _ hr c 0 rfl)).trans k1,k2.mono hA⟩
   | tail v k=>
    rcases h0 with rfl|⟨g2,len,cap2,cur,el,rfl,k1,k2,k3⟩
    ·exact .inl rfl
    ·exact .inr ⟨g2,len,cap2,cur,el,rfl,(VN w g g2 cs' (hother _ hr g2 (len*k) ⟨rfl,X2 _⟩)).trans k1,k2,k3⟩
   | ge s=>exact V7 h0 (by simp [World.setRow])
   | vec v ks=>
    rcases h0 with ⟨rfl,h0⟩|⟨g2,cap2,cur2,el,rfl,k1,k2,k3,k4⟩
    ·exact .inl ⟨rfl,h0⟩
    ·exact .inr ⟨g2,cap2,cur2,el,rfl,(VN w g g2 cs' (hother _ hr g2 0 rfl)).trans k1,k2,k3,k4.mono hA⟩
   | many ts=>
    refine ⟨fun p hp=>?_,h0.2⟩
    rcases h0.1 p hp with q|⟨g2,len,cap2,cur,el,q,k1,k2,k3⟩
    ·exact .inl q
    ·exact .inr ⟨g2,len,cap2,cur,el,q,(VN w g g2 cs' (hother _ hr g2 (len*p.2) ⟨p,hp,by rw [q];exact ⟨rfl,X2 _⟩⟩)).trans k1,k2,k3⟩
   | own B m=>
    intro c hc
    obtain ⟨ds,el,k1,k2⟩:=h0 c hc
    exact ⟨ds,el,(VN w g c cs' (hother _ hr c 0 hc)).trans k1,k2⟩
   | row v k ks=>
    rcases h0 with ⟨rfl,h0⟩|⟨g2,len2,cap2,cur2,el,rfl,k1,k2,k3,k4,k5⟩
    ·exact .inl ⟨rfl,h0⟩
    ·exact .inr ⟨g2,len2,cap2,cur2,el,rfl,(VN w g g2 cs' (hother _ hr g2 0 rfl)).trans k1,k2,k3,k4,k5.mono hA⟩
 ·intro r hr c j hf hg
  rcases X0.1 hr with rfl|hr
  ·exact hh.prot _ hmem c j hf hg
  ·exact hh.prot r (Xr _ hr) c j hf hg
 ·intro c j hg
  have:=hh.lt c j hg
  simpa [World.setRow] using this
 ·intro c hc
  by_cases hcb:c=g
  ·subst hcb
   exact .inr ⟨cs,cs',e,(0,0),hb,setRow_heap w c cs cs' e (0,0) hb,Xo,fun j hj=>absurd ⟨_,hmem,rfl⟩ hj⟩
  ·exact .inl (VN w g c cs' hcb)
 ·rintro c j _ ⟨r,hr,hf⟩
  rcases X0.1 hr with rfl|hr
  ·exact ⟨_,hmem,hf⟩
  ·exact ⟨r,Xr _ hr,hf⟩
theorem YL.alloc_vec {w:World} {G:Yl} {h:List Res} (hh:YL w G h) (cs:Array Value) (t:TypeId) {ls:List AV} {cap:Nat} (hcap:ls.length<=cap) (Xo:cs.size=cap)
  (hls:YT w G ls (cs.toList.take ls.length)) :
  YL (w.alloc (.cells cs t)) G (.vec (.slice (some ⟨w.heap.size,0,none⟩) ls.length cap) ls::h)/\Xb w G h (w.alloc (.cells cs t)) G (.vec (.slice (some ⟨w.heap.size,0,none⟩) ls.length cap) ls::h):=by
 have hA:VZ G w (w.alloc (.cells cs t)) G:=⟨fun b j hg=>Ez w _ (hh.lt b j hg),fun _ _ h=>h⟩
 refine hh.alloc (.cells cs t) (h':=[.vec (.slice (some ⟨w.heap.size,0,none⟩) ls.length cap) ls]) (fun _ _ h=>h) (fun _ _ h=>.inl h) ?_ ?_ (Em _ _) ?_
 ·intro r hr
  rw [Xs.1 hr]
  exact .inr ⟨_,cap,cs,t,rfl,H0 w _,hcap,Xo,hls.mono hA⟩
 ·intro r hr b j hf
  rw [Xs.1 hr] at hf
  exact hf
 ·intro r hr b j hf hg
  rw [Xs.1 hr] at hf
  have:=hh.lt b j hg
  have:b=w.heap.size:=hf
  omega
theorem Ziy {w:World} {G:Yl} {h:List Res} (hh:YL w G h):YL w G (.vec (.slice none 0 0) []::h)/\Xb w G h w G (.vec (.slice none 0 0) []::h):=
 ⟨⟨fun r hr=>by
   rcases X0.1 hr with rfl|hr
   ·exact .inl ⟨rfl,rfl⟩
   ·exact hh.ok r hr,Uh.2 ⟨fun _ _ _ _ hf=>hf.elim,hh.apart⟩,fun r hr b o hf hg=>by
   rcases X0.1 hr with rfl|hr
   ·exact hf.elim
   ·exact hh.prot r hr b o hf hg,hh.lt⟩,
  ⟨rfl,rfl,rfl,X2 _,fun _ _ h=>h,fun _ _=>.inl rfl,fun _ _ _ h=>.inl h,fun b o _ ⟨r,hr,hf⟩=>by
   rcases X0.1 hr with rfl|hr
   ·exact hf.elim
   ·exact ⟨r,hr,hf⟩⟩⟩
section
variable {P:Program} {n:Nat} {ops:Array Oper} {B:Fr->List Res->Prop} {k:Nat} {F:Fr} {h h2:List Res}
def DU (P:Program) (ops:Array Oper) (F:Fr) (k:Nat):Option AV:=
 match (ZL ops k).op with
 | .call c=>match c.callee,c.args.toList,c.argTypes.toList with
  | .builtin .len,[x],[t]=>match P.underlying t with
   | some (.slice _)=>some (F.ev x)
   | _=>none
  | _,_,_=>none
 | _=>none
theorem Ct.form {w:World} {G:Yl} {v:Value} {ls:List AV} (h:Ct w G v ls):∃a cap,v=.slice a ls.length cap:=by
 rcases h with ⟨rfl,rfl⟩|⟨g,cap,cur,e,rfl,_⟩
 ·exact ⟨none,0,rfl⟩
 ·exact ⟨_,cap,rfl⟩
theorem Zi4 (j:Nat) {v:Value} {ls:List AV} (hl:DU P ops F k=some (.val v)) (hj:h[j]? = some (.vec v ls)):XS P (ZL ops k) F h [] (.val (.int .i64 ls.length)):=by
 unfold DU at hl
 generalize hoo:ZL ops k=o at hl
 obtain ⟨dst,op,type,pos,after,guard⟩:=o
 cases op<;>simp only at hl<;>try (cases hl)
 rename_i c
 obtain ⟨callee,args,tys⟩:=c
 simp only at hl
 split at hl
 ·rename_i x t hargs htys
  split at hl
  ·rename_i el hu
   simp only [Wk] at hl
   intro n w G a hF hh
   have hv:=hF.ev x
   rw [hl] at hv
   have hv:=hv.val_inv
   obtain ⟨ad,cap,rfl⟩:=Ct.form (hh.ok _ (Y4 hj))
   have e1:args=#[x]:=by rw [<-UZ (xs:=args),hargs]
   have e2:tys=#[t]:=by rw [<-UZ (xs:=tys),htys]
   subst e1;subst e2
   exact ⟨_,.val,fun w' _ _=>by simp [execOp,resolve,invoke,builtin,hv,Builtin.len_,U6 hu,goInt]⟩
  ·cases hl
 ·cases hl
theorem Zi3 (j:Nat) {v:Value} {ls:List AV} {i:Int} (hi:C2 P ops F k=some (.val v,i,1)) (hj:h[j]? = some (.vec v ls)) (h0:0<=i) (hlt:i<ls.length) :
  XS P (ZL ops k) F h [] (.val (.pointer (some ⟨QQ v,i.toNat,none⟩))):=by
 intro n w G a hF hh
 rcases hh.ok _ (Y4 hj) with ⟨rfl,rfl⟩|⟨g,cap,cur,e,rfl,_⟩
 ·simp at hlt;omega
 ·have:=Z23 (P:=P) (F:=F) (h:=h) hi h0 hlt n w G a hF hh
  simpa [QQ,Value.ownBlock] using this
def Mb (P:Program) (ops:Array Oper) (F:Fr) (k:Nat):Option AV:=
 match (ZL ops k).op with
 | .load t x=>match DR P t with
  | some false=>some (F.ev x)
  | _=>none
 | _=>none
theorem Zi5 (j:Nat) {v:Value} {ls:List AV} {i:Nat} {y:AV} (hl:Mb P ops F k=some (.val (.pointer (some ⟨QQ v,i,none⟩)))) (hj:h[j]? = some (.vec v ls)) (hy:ls[i]? = some y) :
  XS P (ZL ops k) F h [QQ v] y:=by
 unfold Mb at hl
 generalize hoo:ZL ops k=o at hl
 obtain ⟨dst,op,type,pos,after,guard⟩:=o
 cases op<;>simp only at hl<;>try (cases hl)
 rename_i t x
 split at hl
 ·rename_i hagg
  simp only [Wk] at hl
  intro n w G a hF hh
  have hv:=hF.ev x
  rw [hl] at hv
  have hv:=hv.val_inv
  have hlt:i<ls.length:=(Xu.1 hy).1
  rcases hh.ok _ (Y4 hj) with ⟨rfl,rfl⟩|⟨g,cap,cur,e,rfl,h1,h2,h3,h4⟩
  ·simp at hlt
  ·obtain ⟨c,c1,c2⟩:=h4.get i y hy
   refine ⟨c,c2,fun w' _ hw=>?_⟩
   have hrow:=hw (QQ (.slice (some ⟨g,0,none⟩) ls.length cap)) (by simp)
   simp only [QQ,Value.ownBlock,Option.getD_some] at hrow hv
   rw [h1] at hrow
   have hc:cur[i]? = some c:=by
    rw [KR,Zf hlt] at c1
    simpa using c1
   simp only [execOp,hv]
   refine Vp ?_
   simp only [Instr.loadAt,Instr.sureAddr,Sem.run_bind,Sem.run_pure,Result.andThen_ok,loadVar,FF hagg]
   have:=cell_of_row w' g i cur e (0,0) hrow
   rw [hc] at this
   simp [load,Sem.run,this]
 ·cases hl
theorem Sl {K:Fr->List Res->Prop} {v:Value} {ls:List AV} {i:Nat} {y:AV} (hs:storeAt P ops F k=some (QQ v,i,[y])) (hlt:i<ls.length)
  (hK:K F (.vec v (ls.set i y)::h2)):WO P n (ZL ops k) F (.vec v ls::h2) K:=by
 unfold storeAt at hs
 generalize hoo:ZL ops k=q at hs
 obtain ⟨dst,op,type,pos,after,guard⟩:=q
 cases op<;>simp only at hs<;>try (cases hs)
 rename_i t x z
 split at hs
 ·rename_i b' o' inf hx hi
  split at hs
  ·rename_i hc
   simp only [X1] at hc
   simp only [Wk,Prod.mk.injEq] at hs
   obtain ⟨rfl,rfl,hz⟩:=hs
   intro Q w G a hF hh
   have hvx:=hF.ev x
   rw [hx] at hvx
   have hvx:=hvx.val_inv
   have hvy:=hF.ev z
   have hcs:=hvy.cells hc.2.1
   rw [hz] at hcs hc
   have hone:=hcs.one_cells hc.2.2
   have Xo:inf.size=1:=T1 hc.1
   have hlen:(a.eval z).cells.size=1:=by have:=hcs.length;simpa using this
   rcases hh.ok (.vec v ls) (Xf ..) with ⟨rfl,rfl⟩|⟨g,cap,cur,e,rfl,h1,h3,h4,h5⟩
   ·simp at hlt
   ·simp only [QQ,Value.ownBlock,Option.getD_some] at hvx
    have hst:=run_storeCells_at P g o' e (a.eval z).cells.toList 0 cur w h1 (by simp [hlen];omega) hone
    simp only [Cp,JZ] at hst
    have hr:(execOp a.eval { dst:=none,op:=.store t x z,type:=type,pos:=pos,after:=after,guard:=guard }).run P w =
      .ok .skip (w.setRow g (cur.toList.take o'++(a.eval z).cells.toList++cur.toList.drop (o'+(a.eval z).cells.size)).toArray):=by
     simp only [execOp,hvx]
     simp [Instr.storeAt,Instr.sureAddr,storeVar,Qx hi,hlen,Xo,hst]
    unfold Oper.wp
    rw [hr]
    have hset:ls.set o' y=ls.take o'++[y]++ls.drop (o'+1):=(Z14 ls o' y hlt).symm
    obtain ⟨j1,j2⟩:=hh.vwrite (ls':=ls.set o' y) (n':=ls.length) (cs':=(cur.toList.take o'++(a.eval z).cells.toList++cur.toList.drop (o'+(a.eval z).cells.size)).toArray) h1
     (by simp [hlen];omega) (by simp) (by simpa using h3) h4 (by
      obtain ⟨c,Z9⟩:∃c,(a.eval z).cells.toList=[c]:=by
       have:=hcs.length
       cases hq:(a.eval z).cells.toList with
       | nil=>rw [hq] at this;simp at this
       | cons c r=>cases r with
        | nil=>exact ⟨c,rfl⟩
        | cons _ _=>rw [hq] at this;simp at this
      rw [Z9] at hcs
      have hlt':o'<cur.toList.length:=by simp [h4];omega
      rw [G6,Z9,hlen,Z14 cur.toList o' c hlt',TM,List.take_set]
      cases hcs with
      | cons hcc _=>exact h5.set o' hcc)
    refine ⟨F,_,G,hK,?_,j1,j2⟩
    have:=hF.mono (j2.agree hh)
    simpa [Act.put] using this
  ·cases hs
 ·cases hs
theorem Zdh {K:Fr->List Res->Prop} {v:Value} {ls xs:List AV} {hx:Option Value} (hd:VR n (ZL ops k)=true) (ha:TS P ops F k=some (.val v,.sl xs hx,1))
  (hxs:∀y∈xs,y.leaves=[y]) (hone:xs.all AV.one=true) (hbound:ls.length+xs.length<=1099511627776)
  (hK:∀v',K (F.put (ZL ops k).dst (.val v')) (.vec v' (ls++xs)::h2)):WO P n (ZL ops k) F (.vec v ls::h2) K:=by
 unfold TS at ha
 generalize hoo:ZL ops k=o at ha hd hK
 obtain ⟨dst,op,type,pos,after,guard⟩:=o
 cases op<;>simp only at ha<;>try (cases ha)
 rename_i c
 obtain ⟨callee,args,tys⟩:=c
 simp only at ha
 split at ha
 case h_2=>cases ha
 rename_i s x t t' hargs htys
 split at ha
 case h_2=>cases ha
 rename_i e htt ht
 have:=T1 htt
 subst this
 split at ha
 case h_2=>cases ha
 rename_i i hinfo
 split at ha
 case h_2=>cases ha
 rename_i z hz
 split at ha
 case h_2=>cases ha
 rename_i hb
 simp only [X1] at hb
 simp only [Wk,Prod.mk.injEq] at ha
 obtain ⟨h3,h4,hk1⟩:=ha
 have e1:args=#[s,x]:=by rw [<-UZ (xs:=args),hargs]
 have e2:tys=#[t,t]:=by rw [<-UZ (xs:=tys),htys]
 subst e1;subst e2
 have hzs:z.cells.size=1:=by rw [T1 hb.1,hk1]
 have hby:=Vd hb.2
 have hflat:Zu xs=xs:=by
  clear hone hbound hK h4
  induction xs with
  | nil=>rfl
  | cons y r ih=>simp only [Zu,Cl,hxs y (by simp),List.singleton_append];rw [show r.flatMap AV.leaves=Zu r from rfl,ih fun q hq=>hxs q (by simp [hq])]
 have hlen1:∀y∈xs,y.leaves.length=1:=fun y hy=>by rw [hxs y hy];rfl
 intro Q w G a hF hh
 have v1:=hF.ev s
 have v2:=hF.ev x
 rw [h3] at v1
 rw [h4] at v2
 have v1:=v1.val_inv
 have v2:=v2.forget
 have finish:∀v' w',(Builtin.append_ #[t,t] type #[v,a.eval x]).run P w=.ok v' w'->YL w' G (.vec v' (ls++xs)::h2)->Xb w G (.vec v ls::h2) w' G (.vec v' (ls++xs)::h2) ->
   ({ dst:=dst,op:=.call { callee:=.builtin .append,args:=#[s,x],argTypes:=#[t,t] },type:=type,pos:=pos,after:=after,guard:=guard }:Oper).wp P a w
    (fun a' w'=>∃F' h' G',K F' h'/\FR w' G' n F' a'/\YL w' G' h'/\Xb w G (.vec v ls::h2) w' G' h') Q:=by
  intro v' w' hr j1 j2
  have hrun:(execOp a.eval { dst:=dst,op:=.call { callee:=.builtin .append,args:=#[s,x],argTypes:=#[t,t] },type:=type,pos:=pos,after:=after,guard:=guard }).run P w=.ok (.value v') w':=by
   simp only [execOp,resolve,invoke,builtin,Sem.run_bind,Sem.run_pure,Result.andThen_ok,G4,Tm,G3,v1,hr]
  unfold Oper.wp
  rw [hrun]
  exact ⟨_,_,G,hK v',(hF.mono (j2.agree hh)).put (TT hd) .val,j1,j2⟩
 have hvec:=hh.ok (.vec v ls) (Xf ..)
 have hsub2:∀r:Res,List.Sublist (r::h2) (r::.vec v ls::h2):=fun r=>List.Sublist.cons_cons _ (Co _ _)
 have grown:∀(olds news:List Value) (old:Nat),YT w G ls olds->YT w G xs news ->
   YL (w.drew.alloc (.cells (olds.toArray++news.toArray++Builtin.zeroCells z.cells (grownCap w (ls.length+xs.length) old e-(ls.length+xs.length))) e)) G
    (.vec (.slice (some ⟨w.heap.size,0,none⟩) (ls.length+xs.length) (grownCap w (ls.length+xs.length) old e)) (ls++xs)::h2) /\
   Xb w G (.vec v ls::h2) (w.drew.alloc (.cells (olds.toArray++news.toArray++Builtin.zeroCells z.cells (grownCap w (ls.length+xs.length) old e-(ls.length+xs.length))) e)) G
    (.vec (.slice (some ⟨w.heap.size,0,none⟩) (ls.length+xs.length) (grownCap w (ls.length+xs.length) old e)) (ls++xs)::h2):=by
  intro olds news old ho hn
  have Xh:=grownCap_ge w (ls.length+xs.length) old e
  have hol:=ho.length
  have hnl:=hn.length
  obtain ⟨j1,j2⟩:=hh.drew.alloc_vec (olds.toArray++news.toArray++Builtin.zeroCells z.cells (grownCap w (ls.length+xs.length) old e-(ls.length+xs.length))) e
   (ls:=ls++xs) (cap:=grownCap w (ls.length+xs.length) old e) (by simpa using Xh)
   (by simp only [Array.size_append,G5,size_zeroCells,hzs,hol,hnl,Di];omega)
   (by
    have:(olds.toArray++news.toArray++Builtin.zeroCells z.cells (grownCap w (ls.length+xs.length) old e-(ls.length+xs.length))).toList.take (ls++xs).length=olds++news:=by
     simp only [Ie,ZH]
     rw [<-hol,<-hnl,<-ZH]
     exact Bx
    rw [this]
    exact (ho.append hn).mono (BG w G))
  rw [ZH] at j1 j2
  exact ⟨j1.sub (hsub2 _),(Xb.drew w G _).trans (j2.sub' (hsub2 _))⟩
 by_cases hxe:xs=[]
 ·subst hxe
  obtain ⟨ad,cap,hform⟩:=Ct.form hvec
  have hle:ls.length<=cap:=by
   rcases hvec with ⟨rfl,rfl⟩|⟨g,cap',cur,el,rfl,_,hc,_⟩
   ·simp
   ·cases hform;exact hc
  subst hform
  cases v2q:a.eval x with
  | slice ad' l' c'=>
   rw [v2q] at v2
   cases v2<;>exact finish _ _ (by rw [v2q];exact E9 ht hinfo hle w) (by simpa using hh) (by simpa using Xb.refl w G _)
  | _=>rw [v2q] at v2;cases v2
 ·generalize hax:a.eval x=ax at v2 finish
  cases v2 with
  | nil _=>exact absurd rfl hxe
  | sl hq hcc hm=>
   rename_i b o' k' c
   have hpos:0<xs.length:=El.2 hxe
   have hfm:=hm.flat_mem
   rw [hflat] at hfm
   obtain ⟨news,hn,hnc⟩:=hfm.cells
   have hnl:news.length=xs.length*i.size:=by rw [hn.length,hk1,Di]
   have hone':=hn.one_cells hone
   have hnews:∀j u,news[j]? = some u->w.cell? ((⟨b,o',none⟩:Addr).add j)=some u:=fun j u hj=>by rw [Jt];exact (hnc j u hj).1
   have hbb:(ls.length+xs.length)*i.bytes<=140737488355328:=by
    have:=Nat.mul_le_mul hbound hby
    omega
   rcases hvec with ⟨rfl,rfl⟩|⟨g,cap,cur,el,rfl,hrow,hlc,hcur,hcells⟩
   ·have hr:=run_append_nil (P:=P) w t type e i z ht hinfo hz ⟨b,o',none⟩ xs.length c news hnl hnews hpos (by simp at hbound;omega) (by simp at hbb;omega)
    obtain ⟨j1,j2⟩:=grown [] news 0 .nil hn
    simp only [YF,Wj,Array.empty_append,Jq] at j1 j2
    exact finish _ _ hr (by simpa using j1) (by simpa using j2)
   ·by_cases hroom:ls.length+xs.length<=cap
    ·have hfit:ls.length*i.size+news.length<=cur.size:=by rw [hnl,hcur,hk1];omega
     have hr:=ME (P:=P) w t type e el i ht hinfo g ls.length cap cur hrow ⟨b,o',none⟩ xs.length c news hnl hnews hone' hroom hfit
     rw [hk1,Di] at hr
     have hnl':news.length=xs.length:=by rw [hnl,hk1,Di]
     obtain ⟨j1,j2⟩:=hh.vwrite (ls':=ls++xs) (n':=ls.length+xs.length) (cs':=(cur.toList.take ls.length++news++cur.toList.drop (ls.length+news.length)).toArray) hrow
      (by simp [hnl',hcur];omega) (by simp) (by simpa using hroom) hcur (by
       have h1:(cur.toList.take ls.length).length=ls.length:=by simp [hcur];omega
       have:(cur.toList.take ls.length++news++cur.toList.drop (ls.length+news.length)).toArray.toList.take (ls++xs).length=cur.toList.take ls.length++news:=by
        rw [G6,ZH,<-hnl']
        conv=>lhs;arg 1;rw [show ls.length+news.length=(cur.toList.take ls.length++news).length from by rw [ZH,h1]]
        exact Bx
       rw [this]
       exact hcells.append hn)
     exact finish _ _ hr j1 j2
    ·have hr:=run_append_grow (P:=P) w t type e i z ht hinfo hz ⟨g,0,none⟩ ls.length cap (cur.toList.take ls.length) (by rw [hk1];simp [hcur];omega) (fun j u hj=>by
      rw [Jt,cell_of_row w g _ cur el (0,0) hrow]
      rw [KR] at hj
      split at hj
      ·simpa using hj
      ·cases hj) ⟨b,o',none⟩ xs.length c news hnl hnews om om (growslice_fits om hbb)
     obtain ⟨j1,j2⟩:=grown (cur.toList.take ls.length) news cap hcells hn
     exact finish _ _ hr j1 j2
end
inductive KU (h:List Res):AV->Prop
 | val {v}:KU h (.val v)
 | any:KU h .any
 | nil {hv}:KU h (.sl [] hv)
 | own {es:List AV} {v:Value} {k:Nat} (he:∀y∈es,∃u,y=.val u) (ht:Res.tail v k∈h):KU h (.sl es (some v))
 | tup {vs:List AV} (hv:∀y∈vs,KU h y):KU h (.tup vs)
 | agg {vs:List AV} (hv:∀y∈vs,KU h y):KU h (.agg vs)
def Ga:Res->Prop
 | .obj _ ls=>∀y∈ls,∃u,y=.val u
 | .vec _ ls=>∀y∈ls,∃u,y=.val u
 | .row _ _ ls=>∀y∈ls,∃u,y=.val u
 | _=>True
theorem YT.vals {w w':World} {G G':Yl}:∀{xs:List AV} {vs:List Value},(∀y∈xs,∃u,y=.val u)->YT w G xs vs->YT w' G' xs vs
 | _,_,_,.nil=>.nil
 | x::_,_::_,hv,.cons h t=>by
  obtain ⟨u,rfl⟩:=hv x (Xf ..)
  have:=h.val_inv
  subst this
  exact .cons .val (t.vals fun y hy=>hv y (Xr _ hy))
theorem RY {w:World} {G G':Yl} {b:Nat} (hG:∀o,G b o->G' b o):∀{o:Nat} {xs:List AV},(∀y∈xs,∃u,y=.val u)->Wu w G b o xs->Wu w G' b o xs
 | _,_,_,.nil=>.nil
 | _,x::_,hv,.cons hc hg h t=>by
  obtain ⟨u,rfl⟩:=hv x (Xf ..)
  have:=h.val_inv
  subst this
  exact .cons hc (hG _ hg) .val (RY hG (fun y hy=>hv y (Xr _ hy)) t)
theorem Ol {w:World} {G G':Yl} {b k:Nat} (hG:∀o,G b o->G' b o):∀{o:Nat} {xs:List AV},(∀y∈xs,∃u,y=.val u)->Vg w G k b o xs->Vg w G' k b o xs
 | _,_,_,.nil=>.nil
 | _,x::_,hv,.cons hl h t=>by
  obtain ⟨u,rfl⟩:=hv x (Xf ..)
  refine .cons hl (RY hG (fun y hy=>?_) h) (Ol hG (fun y hy=>hv y (Xr _ hy)) t)
  simp [AV.leaves] at hy
  exact ⟨u,hy⟩
theorem YT.clean {w:World} {G G':Yl} (P:AV->Prop) (hP:∀x v,P x->RV w G x v->RV w G' x v):∀{xs:List AV} {vs:List Value},(∀y∈xs,P y)->YT w G xs vs->YT w G' xs vs
 | _,_,_,.nil=>.nil
 | x::_,_::_,hv,.cons h t=>.cons (hP _ _ (hv x (Xf ..)) h) (t.clean P hP fun y hy=>hv y (Xr _ hy))
theorem RV.clean {w:World} {G G':Yl} {h:List Res} (hG:∀v k g,Res.tail v k∈h->v.ownBlock=some g->∀o,G g o->G' g o) {r:AV} (hc:KU h r):∀{v:Value},RV w G r v->RV w G' r v:=by
 induction hc with
 | val=>intro v hv;cases hv;exact .val
 | any=>intro v hv;exact .any
 | nil=>
  intro v hv
  cases hv with
  | nil hq=>exact .nil hq
  | sl hq hc hm=>exact .sl (k:=0) hq hc .nil
 | own he ht=>
  intro v hv
  cases hv with
  | nil hq=>exact .nil hq
  | sl hq hc hm=>
   have e:=hq _ rfl
   exact .sl hq hc (Ol (fun o hg=>hG _ _ _ ht (by rw [e];rfl) o hg) he hm)
 | tup hv ih=>
  intro v hvv
  cases hvv with
  | tup hc=>exact .tup (hc.clean (fun x=>∀{v:Value},RV w G x v->RV w G' x v) (fun x v hp hx=>hp hx) ih)
 | agg hv ih=>
  intro v hvv
  cases hvv with
  | agg hc=>exact .agg (hc.clean (fun x=>∀{v:Value},RV w G x v->RV w G' x v) (fun x v hp hx=>hp hx) ih)
theorem YL.lend {w:World} {G:Yl}:∀{bs h:List Res},(∀r∈bs,∃v ls,r=.vec v ls/\∀y∈ls,∃u,y=.val u)->YL w G (h++bs) ->
  ∃Gb:Yl,(∀b o,G b o->Gb b o)/\(∀b o,Gb b o->G b o∨Vu bs b o)/\YL w Gb h /\
   (∀v ls,Res.vec v ls∈bs->∀m,m<=ls.length->RV w Gb (.sl (ls.take m) none) (AP v m)/\RV w Gb (.sl ls none) v):=by
 intro bs h hb hh
 let Gb:Yl:=fun b o=>G b o∨∃v ls,Res.vec v ls∈bs/\v.ownBlock=some b/\o<ls.length
 have hsub:∀b o,G b o->Gb b o:=fun _ _ h=>.inl h
 have hfp:∀b o,Gb b o->G b o∨Vu bs b o:=fun b o hg=>hg.imp id fun ⟨v,ls,hm,ho,_⟩=>⟨_,hm,by
  cases v with
  | slice a l c=>cases a with
   | none=>simp [Value.ownBlock] at ho
   | some a=>simp only [Value.ownBlock,Wk] at ho;exact ho.symm
  | _=>simp [Value.ownBlock] at ho⟩
 have hA:VZ G w w Gb:=⟨fun _ _ _=>rfl,hsub⟩
 refine ⟨Gb,hsub,hfp,⟨fun r hr=>?_,hh.left.apart,fun r hr b o hf hg=>?_,fun b o hg=>?_⟩,fun v ls hm m hmle=>?_⟩
 ·have h0:=hh.ok r (Xg.2 (.inl hr))
  cases r with
  | obj b ls=>obtain ⟨cs,e,h1,h2⟩:=h0;exact ⟨cs,e,h1,h2.mono hA⟩
  | tail v k=>exact h0
  | ge s=>exact h0
  | vec v ls=>
   rcases h0 with ⟨rfl,h0⟩|⟨g,cap,cur,el,rfl,h1,h2,h3,h4⟩
   ·exact .inl ⟨rfl,h0⟩
   ·exact .inr ⟨g,cap,cur,el,rfl,h1,h2,h3,h4.mono hA⟩
  | many ts=>exact h0
  | own B m=>exact h0
  | row v k ls=>
   rcases h0 with ⟨rfl,h0⟩|⟨g,len,cap,cur,el,rfl,h1,h2,h3,h4,h5⟩
   ·exact .inl ⟨rfl,h0⟩
   ·exact .inr ⟨g,len,cap,cur,el,rfl,h1,h2,h3,h4,h5.mono hA⟩
 ·rcases hfp b o hg with h1|h1
  ·exact hh.prot r (Xg.2 (.inl hr)) b o hf h1
  ·exact hh.cross ⟨r,hr,hf⟩ h1
 ·rcases hfp b o hg with h1|⟨r,hr,hf⟩
  ·exact hh.lt b o h1
  ·exact (hh.ok r (Xg.2 (.inr hr))).lt b o hf
 ·have h0:=hh.ok _ (Xg.2 (.inr hm))
  obtain ⟨v',ls',e,hval⟩:=hb _ hm
  cases e
  rcases h0 with ⟨rfl,rfl⟩|⟨g,cap,cur,el,rfl,h1,h2,h3,h4⟩
  ·have:m=0:=by simpa using hmle
   subst this
   exact ⟨.nil (by simp),.nil (by simp)⟩
  ·have hmem:Wu w Gb g 0 ls:=by
    refine Wu.of_cells (h4.mono hA) fun j u hj=>?_
    have hjl:j<ls.length:=by
     have:=(Xu.1 hj).1
     have h5:=h4.length
     omega
    rw [KR,Zf hjl] at hj
    refine ⟨?_,.inr ⟨_,_,hm,rfl,by omega⟩⟩
    rw [Wj,cell_of_row w g j cur el (0,0) h1]
    simpa using hj
   have hels:∀(l:List AV),(∀y∈l,∃u,y=.val u)->Zu l=l:=by
    intro l
    induction l with
    | nil=>intro _;rfl
    | cons y r ih=>
     intro hy
     obtain ⟨u,rfl⟩:=hy y (Xf ..)
     simp only [Zu,Cl,AV.leaves,List.singleton_append]
     rw [show r.flatMap AV.leaves=Zu r from rfl,ih fun z hz=>hy z (Xr _ hz)]
   have hE:Vg w Gb 1 g 0 ls:=Vg.of_flat ls (fun y hy=>by obtain ⟨u,rfl⟩:=hval y hy;rfl) (by rw [hels ls hval];exact hmem)
   refine ⟨?_,.sl (by simp) h2 hE⟩
   have hl:(ls.take m).length=m:=by simp [hmle]
   show RV w Gb (.sl (ls.take m) none) (.slice (some ⟨g,0,none⟩) m cap)
   conv=>arg 4;rw [<-hl]
   exact .sl (by simp) om (hE.take m)
inductive TO (bs:List Res):List AV->List AV->Prop
 | nil:TO bs [] []
 | same {x as1 xs} (t:TO bs as1 xs):TO bs (x::as1) (x::xs)
 | lent {v ls as1 xs} (h:Res.vec v ls∈bs) (t:TO bs as1 xs):TO bs (.val v::as1) (.sl ls none::xs)
 | cut {v ls m as1 xs} (h:Res.vec v ls∈bs) (hm:m<=ls.length) (t:TO bs as1 xs):TO bs (.val (AP v m)::as1) (.sl (ls.take m) none::xs)
theorem TO.rcs {w:World} {G Gb:Yl} {bs:List Res} (hA:VZ G w w Gb)
  (hb:∀v ls,Res.vec v ls∈bs->∀m,m<=ls.length->RV w Gb (.sl (ls.take m) none) (AP v m)/\RV w Gb (.sl ls none) v) :
  ∀{as1 xs:List AV} {vs:List Value},TO bs as1 xs->YT w G as1 vs->YT w Gb xs vs
 | _,_,_,.nil,.nil=>.nil
 | _,_,_,.same t,.cons h r=>.cons (h.mono hA) (t.rcs hA hb r)
 | _,_,_,.lent hm t,.cons h r=>by
  have:=h.val_inv
  subst this
  exact .cons (hb _ _ hm 0 (T2 _)).2 (t.rcs hA hb r)
 | _,_,_,.cut hm hle t,.cons h r=>by
  have:=h.val_inv
  subst this
  exact .cons (hb _ _ hm _ hle).1 (t.rcs hA hb r)
theorem V1.lend {P:Program} {f:FuncId} {as1 xs:List AV} {h1:List Res} (bs:List Res) {R:AV->List Res->Prop} (H:V1 P f xs h1 R) (hargs:TO bs as1 xs)
  (hb:∀r∈bs,∃v ls,r=.vec v ls/\∀y∈ls,∃u,y=.val u) (hclean:∀r h',R r h'->KU h' r/\∀q∈h',Ga q) :
  V1 P f as1 (h1++bs) (fun r h'=>∃h1',R r h1'/\h'=h1'++bs):=by
 intro w G vs hvs hh
 obtain ⟨Gb,g1,g2,g3,g4⟩:=YL.lend hb hh
 have hA:VZ G w w Gb:=⟨fun _ _ _=>rfl,g1⟩
 refine (H w Gb vs (hargs.rcs hA g4 hvs) g3).mono ?_
 rintro e w' ⟨v,r,h',G',rfl,hR,hv,hh',hx⟩
 obtain ⟨c1,c2⟩:=hclean r h' hR
 let G2:Yl:=fun b o=>G' b o/\¬(Vu bs b o)
 have hbslt:∀b o,Vu bs b o->b<w.heap.size:=fun b o ⟨q,hq,hf⟩=>(hh.ok q (Xg.2 (.inr hq))).lt b o hf
 have hwhole:∀b o o',Vu bs b o->Vu bs b o':=fun b o o' ⟨q,hq,hf⟩=>⟨q,hq,by
  obtain ⟨v,ls,rfl,_⟩:=hb q hq
  cases v with
  | slice a l c=>cases a with
   | none=>exact hf.elim
   | some a=>exact hf
  | _=>exact hf.elim⟩
 have hGkeep:∀b o,G b o->G2 b o:=fun b o hg=>⟨hx.sub b o (g1 b o hg),fun ⟨q,hq,hf⟩=>hh.prot q (Xg.2 (.inr hq)) b o hf hg⟩
 have hnew:∀v k g,Res.tail v k∈h'->v.ownBlock=some g->∀o,G' g o->G2 g o:=by
  intro v k g hm hg o hgo
  refine ⟨hgo,fun hf=>?_⟩
  have hlt:=hbslt _ _ hf
  rcases hh'.ok _ hm with rfl|⟨g',len,cap,cur,el,rfl,t1,t2,t3⟩
  ·simp [Value.ownBlock] at hg
  ·simp only [Value.ownBlock,Wk] at hg
   subst hg
   have hfp:Vu h' g' (len*k):=⟨_,hm,rfl,X2 _⟩
   exact hh.cross (hx.newfp g' (len*k) hlt hfp) (hwhole _ _ _ hf)
 have e1:Xb w G h1 w' G2 h':=⟨hx.os,hx.tape,hx.output,hx.size,hGkeep,hx.same,fun b o hb' hg=>by
  rcases hx.newG b o hb' hg.1 with h|h
  ·rcases g2 b o h with h|h
   ·exact .inl h
   ·exact absurd h hg.2
  ·exact .inr h,hx.newfp⟩
 have e2:YL w' G2 h':=⟨fun q hq=>by
   have h0:=hh'.ok q hq
   have hcq:=c2 q hq
   cases q with
   | obj b ls=>obtain ⟨cs,el,k1,k2⟩:=h0;exact ⟨cs,el,k1,k2.vals hcq⟩
   | tail v k=>exact h0
   | ge s=>exact h0
   | vec v ls=>
    rcases h0 with ⟨rfl,h0⟩|⟨g,cap,cur,el,rfl,k1,k2,k3,k4⟩
    ·exact .inl ⟨rfl,h0⟩
    ·exact .inr ⟨g,cap,cur,el,rfl,k1,k2,k3,k4.vals hcq⟩
   | many ts=>exact h0
   | own B m=>exact h0
   | row v k ls=>
    rcases h0 with ⟨rfl,h0⟩|⟨g,len,cap,cur,el,rfl,k1,k2,k3,k4,k5⟩
    ·exact .inl ⟨rfl,h0⟩
    ·exact .inr ⟨g,len,cap,cur,el,rfl,k1,k2,k3,k4,k5.vals hcq⟩,hh'.apart,fun q hq b o hf hg=>hh'.prot q hq b o hf hg.1,fun b o hg=>hh'.lt b o hg.1⟩
 obtain ⟨f1,f2⟩:=hh.frame e1 e2
 exact ⟨v,r,h'++bs,G2,rfl,⟨h',hR,rfl⟩,RV.clean hnew c1 hv,f1,f2⟩
section
variable {P:Program} {n:Nat} {ops:Array Oper} {B:Fr->List Res->Prop} {k:Nat} {F:Fr} {h h2:List Res}
def Eb (P:Program) (ops:Array Oper) (F:Fr) (k:Nat):Option (AV × Int):=
 match (ZL ops k).op with
 | .slice t x none (some hi) none=>match P.underlying t with
  | some (.slice e)=>match P.info? e with
   | some _=>match F.ev hi with
    | .val (.int _ m)=>some (F.ev x,m)
    | _=>none
   | none=>none
  | _=>none
 | _=>none
theorem Zi6 (j:Nat) {v:Value} {ls:List AV} {m:Nat} (hi:Eb P ops F k=some (.val v,(m:Int))) (hj:h[j]? = some (.vec v ls)) (hle:m<=ls.length) :
  XS P (ZL ops k) F h [] (.val (AP v m)):=by
 unfold Eb at hi
 generalize hoo:ZL ops k=o at hi
 obtain ⟨dst,op,type,pos,after,guard⟩:=o
 cases op<;>simp only at hi<;>try (cases hi)
 rename_i t x lo hi' mx
 cases lo with
 | some _=>simp at hi
 | none=>
  cases hi' with
  | none=>simp at hi
  | some y=>
   cases mx with
   | some _=>simp at hi
   | none=>
    simp only at hi
    split at hi
    ·rename_i e ht
     split at hi
     ·rename_i inf hinf
      split at hi
      ·rename_i ik m' hm
       simp only [Wk,Prod.mk.injEq] at hi
       obtain ⟨hx,rfl⟩:=hi
       intro n w G a hF hh
       have v1:=hF.ev x
       rw [hx] at v1
       have v1:=v1.val_inv
       have v2:=hF.ev y
       rw [hm] at v2
       have v2:=v2.val_inv
       have hvec:=hh.ok _ (Y4 hj)
       obtain ⟨ad,cap,hform⟩:=Ct.form hvec
       have hcap:ls.length<=cap:=by
        rcases hvec with ⟨rfl,rfl⟩|⟨g,cap',cur,el,rfl,_,hc,_⟩
        ·simp
        ·cases hform;exact hc
       subst hform
       refine ⟨_,.val,fun w' _ _=>?_⟩
       have Zb:=fun c=>FG (P:=P) (c:=c) (v:=.int ik (m:Int)) (y:=cap) rfl om om w'
       simp only [execOp,v1,v2,G8,Option.map_none]
       refine Vp ?_
       simp only [Instr.sliceAt,Sem.run_bind,U6 ht,Result.andThen_ok,Instr.slice]
       have hmm:(Instr.sliceBounds true ls.length cap none (some (.int ik (m:Int))) none).run P w'=.ok (0,m,cap) w':=by simp [Instr.sliceBounds,Zb]
       rw [hmm]
       have hz:∀a:Addr,a.add 0=a:=fun a=>by simp [Addr.add]
       simp only [Result.andThen_ok,Qx hinf,Nat.zero_mul,hz,AP]
       simp
      ·cases hi
     ·cases hi
    ·cases hi
theorem Ziz {w:World} {G:Yl} {v:Value} {ls:List AV} {m:Nat} (hh:YL w G (.vec v ls::h2)) (hle:m<=ls.length) :
  YL w G (.vec (AP v m) (ls.take m)::h2)/\Xb w G (.vec v ls::h2) w G (.vec (AP v m) (ls.take m)::h2):=by
 have hpw:=Uh.1 hh.apart
 have hfp:∀b o,Res.fp (.vec (AP v m) (ls.take m)) b o->Res.fp (.vec v ls) b o:=by
  intro b o hf
  cases v with
  | slice a l c=>cases a with
   | none=>exact hf.elim
   | some a=>exact hf
  | _=>exact hf
 refine ⟨⟨fun r hr=>?_,Uh.2 ⟨fun r hr b o h1 h2=>hpw.1 r hr b o (hfp b o h1) h2,hpw.2⟩,fun r hr b o hf hg=>?_,hh.lt⟩,⟨rfl,rfl,rfl,X2 _,fun _ _ h=>h,fun _ _=>.inl rfl,fun _ _ _ h=>.inl h,?_⟩⟩
 ·rcases X0.1 hr with rfl|hr
  ·rcases hh.ok _ (Xf ..) with ⟨rfl,rfl⟩|⟨g,cap,cur,e,rfl,h1,h3,h4,h5⟩
   ·have:m=0:=by simpa using hle
    subst this
    exact .inl ⟨rfl,rfl⟩
   ·refine .inr ⟨g,cap,cur,e,by simp [AP,hle],h1,by simp;omega,h4,?_⟩
    have:=h5.take m
    rw [List.take_take,Qk hle] at this
    simpa [hle] using this
  ·exact hh.ok r (Xr _ hr)
 ·rcases X0.1 hr with rfl|hr
  ·exact hh.prot _ (Xf ..) b o (hfp b o hf) hg
  ·exact hh.prot r (Xr _ hr) b o hf hg
 ·rintro b o _ ⟨r,hr,hf⟩
  rcases X0.1 hr with rfl|hr
  ·exact ⟨_,Xf ..,hfp b o hf⟩
  ·exact ⟨r,Xr _ hr,hf⟩
theorem Zix {w:World} {G:Yl} {v:Value} {ls:List AV} (hh:YL w G (.vec v ls::h2)) (hls:∀y∈ls,y.leaves=[y]) :
  ∃G',YL w G' (.tail v 1::h2)/\Xb w G (.vec v ls::h2) w G' (.tail v 1::h2)/\RV w G' (.sl ls (some v)) v:=by
 have hpw:=Uh.1 hh.apart
 rcases hh.ok _ (Xf ..) with ⟨rfl,rfl⟩|⟨g,cap,cur,e,rfl,h1,h3,h4,h5⟩
 ·obtain ⟨k1,k2⟩:=HZ (sz:=1) (hh.sub (Co _ _))
  refine ⟨G,k1,⟨rfl,rfl,rfl,X2 _,fun _ _ h=>h,fun _ _=>.inl rfl,fun _ _ _ h=>.inl h,?_⟩,.nil (by simp)⟩
  rintro b o _ ⟨r,hr,hf⟩
  rcases X0.1 hr with rfl|hr
  ·exact hf.elim
  ·exact ⟨r,Xr _ hr,hf⟩
 ·let G':Yl:=fun b o=>G b o∨(b=g/\o<ls.length)
  have hA:VZ G w w G':=⟨fun _ _ _=>rfl,fun _ _ h=>.inl h⟩
  have hmem:Res.vec (.slice (some ⟨g,0,none⟩) ls.length cap) ls∈Res.vec (.slice (some ⟨g,0,none⟩) ls.length cap) ls::h2:=Xf ..
  refine ⟨G',⟨fun r hr=>?_,Uh.2 ⟨fun r hr b o f1 f2=>hpw.1 r hr b o f1.1 f2,hpw.2⟩,fun r hr b o hf hg=>?_,fun b o hg=>?_⟩,
   ⟨rfl,rfl,rfl,X2 _,fun _ _ h=>.inl h,fun _ _=>.inl rfl,fun b o _ hg=>hg.imp id fun ⟨e1,_⟩=>⟨_,hmem,e1⟩,?_⟩,?_⟩
  ·rcases X0.1 hr with rfl|hr
   ·exact .inr ⟨g,ls.length,cap,cur,e,rfl,h1,h3,by rw [h4,Di]⟩
   ·have h0:=hh.ok r (Xr _ hr)
    cases r with
    | obj b ks=>obtain ⟨cs,el,k1,k2⟩:=h0;exact ⟨cs,el,k1,k2.mono hA⟩
    | tail v k=>exact h0
    | ge s=>exact h0
    | vec v ks=>
     rcases h0 with ⟨rfl,h0⟩|⟨g2,cap2,cur2,el,rfl,k1,k2,k3,k4⟩
     ·exact .inl ⟨rfl,h0⟩
     ·exact .inr ⟨g2,cap2,cur2,el,rfl,k1,k2,k3,k4.mono hA⟩
    | many ts=>exact h0
    | own B m=>exact h0
    | row v k ks=>
     rcases h0 with ⟨rfl,h0⟩|⟨g2,len2,cap2,cur2,el,rfl,k1,k2,k3,k4,k5⟩
     ·exact .inl ⟨rfl,h0⟩
     ·exact .inr ⟨g2,len2,cap2,cur2,el,rfl,k1,k2,k3,k4,k5.mono hA⟩
  ·rcases X0.1 hr with rfl|hr2
   ·obtain ⟨hbg,hf2⟩:=hf
    rcases hg with hg|⟨_,hg⟩
    ·exact hh.prot _ hmem b o hbg hg
    ·rw [Di] at hf2;omega
   ·rcases hg with hg|⟨hbg,_⟩
    ·exact hh.prot r (Xr _ hr2) b o hf hg
    ·exact hpw.1 r hr2 b o hbg hf
  ·rcases hg with hg|⟨rfl,_⟩
   ·exact hh.lt b o hg
   ·exact (UM.1 h1).1
  ·rintro b o _ ⟨r,hr,hf⟩
   rcases X0.1 hr with rfl|hr
   ·exact ⟨_,hmem,hf.1⟩
   ·exact ⟨r,Xr _ hr,hf⟩
  ·have hflat:Zu ls=ls:=by
    clear h5 h3 hh hpw hmem hA h4
    induction ls with
    | nil=>rfl
    | cons y r ih=>
     simp only [Zu,Cl,hls y (Xf ..),List.singleton_append]
     rw [show r.flatMap AV.leaves=Zu r from rfl,ih fun q hq=>hls q (Xr _ hq)]
   refine .sl (k:=1) (fun x hx=>by cases hx;rfl) h3 (Vg.of_flat ls (fun y hy=>by rw [hls y hy];rfl) ?_)
   rw [hflat]
   refine Wu.of_cells (h5.mono hA) fun j u hj=>?_
   have hjl:j<ls.length:=by
    have:=(Xu.1 hj).1
    have h6:=h5.length
    omega
   rw [KR,Zf hjl] at hj
   refine ⟨?_,.inr ⟨rfl,by omega⟩⟩
   rw [Wj,cell_of_row w g j cur e (0,0) h1]
   simpa using hj
end
section
variable {P:Program} {n:Nat} {ops:Array Oper} {B:Fr->List Res->Prop} {k:Nat} {F:Fr} {h h2:List Res}
variable {T:List (Nat × List Nat)} {fuel fuel':Nat} {done:List Nat}
theorem Zdc {K:Fr->List Res->Prop} {ls:List AV} {len:Nat} (hd:VR n (ZL ops k)=true) (ha:Tx P ops F k=some (ls,len,1)) (hlen:ls.length=len)
  (hK:∀v,K (F.put (ZL ops k).dst (.val v)) (.vec v ls::h)):WO P n (ZL ops k) F h K:=by
 unfold Tx at ha
 generalize hoo:ZL ops k=q at ha hd hK
 obtain ⟨dst,op,type,pos,after,guard⟩:=q
 cases op<;>simp only at ha<;>try (cases ha)
 rename_i t ln parts
 split at ha
 case h_2=>cases ha
 rename_i e ht
 split at ha
 case h_2=>cases ha
 rename_i i hi
 split at ha
 case h_2=>cases ha
 rename_i hc
 simp only [X1] at hc
 split at ha
 case h_2=>cases ha
 rename_i ls' hf
 simp only [Wk,Prod.mk.injEq] at ha
 obtain ⟨rfl,rfl,Xo⟩:=ha
 subst hlen
 intro Q w G a hF hh
 obtain ⟨cs,h1,h2⟩:=HM hF parts ht hi rfl hc.1 hc.2 hf
 have hr:(execOp a.eval { dst:=dst,op:=.buildSlice t ls'.length parts,type:=type,pos:=pos,after:=after,guard:=guard }).run P w =
   .ok (.value (.slice (some ⟨w.heap.size,0,none⟩) ls'.length ls'.length)) (w.alloc (.cells cs e)):=by
  simp only [execOp]
  exact Vp h2
 unfold Oper.wp
 rw [hr]
 have hlc:=h1.length
 simp only [JZ] at hlc
 obtain ⟨j1,j2⟩:=hh.alloc_vec cs e (ls:=ls') (cap:=ls'.length) (X2 _) hlc (by rw [<-hlc];simpa [U8] using h1)
 exact ⟨_,_,G,hK _,(hF.mono (j2.agree hh)).put (TT hd) .val,j1,j2⟩
theorem Zah (ls:List AV) {len:Nat} (hk:Xk n ops F k=true) (ha:Tx P ops F k=some (ls,len,1)) (hlen:ls.length=len)
  (hK:∀v,SI P n ops B (k+1) (F.put (ZL ops k).dst (.val v)) (.vec v ls::h)):SI P n ops B k F h:=
 QG hk (Zdc (UI hk).2.1 ha hlen hK)
theorem Zan (j:Nat) {v:Value} {ls:List AV} {i:Nat} {y:AV} (ls':List AV) (hk:Xk n ops F k=true) (hs:storeAt P ops F k=some (QQ v,i,[y])) (hp:UV [j] h=some ([.vec v ls],h2))
  (hlt:i<ls.length) (he:ls.set i y=ls') (H:SI P n ops B (k+1) F (.vec v ls'::h2)):SI P n ops B k F h:=
 QG hk (WO.perm (Th hp) (Sl hs hlt (by rw [he];exact H)))
theorem Z5p (i j:Nat) (js bs:List Nat) {v:Value} {ls:List AV} {q:Nat} {y:AV} (ls':List AV) (hk:Xk n ops F i=true) (hs:storeAt P ops F i=some (QQ v,q,[y]))
  (hp:UV [j] h=some ([.vec v ls],h2)) (hlt:q<ls.length) (he:ls.set q y=ls') (ho:UH ops i T=bs) (hj:js.map (fun j=>(V5 h2)[j]?)=bs.map some)
  (H:Xa P n ops B (T.filter fun t=>!Vs ops i t.1) fuel (done++[i]) F (.vec v ls'::h2)):U0 P n ops B T fuel done F h i:=
 Aj [j] js bs hk hp ho hj (Sl (h2:=[]) hs hlt (by rw [he];exact H))
theorem Zam (j:Nat) (ls':List AV) {v:Value} {ls xs:List AV} {hx:Option Value} (hk:Xk n ops F k=true) (ha:TS P ops F k=some (.val v,.sl xs hx,1)) (hp:UV [j] h=some ([.vec v ls],h2))
  (hxs:∀y∈xs,y.leaves=[y]) (hone:xs.all AV.one=true) (hbound:ls.length+xs.length<=1099511627776) (he:ls++xs=ls')
  (hK:∀v',SI P n ops B (k+1) (F.put (ZL ops k).dst (.val v')) (.vec v' ls'::h2)):SI P n ops B k F h:=
 QG hk (WO.perm (Th hp) (Zdh (UI hk).2.1 ha hxs hone hbound fun v'=>by rw [he];exact hK v'))
theorem Z5h (i:Nat) (f:FuncId) (as1 xs:List AV) (is js ks:List Nat) {h1:List Res} (bs:List Res) {R:AV->List Res->Prop} (hk:Xk n ops F i=true) (hc:Af P ops F i=some (f,as1))
  (hp:UV is h=some (h1++bs,h2)) (ho:UH ops i T=ks) (hj:js.map (fun j=>(V5 h2)[j]?)=ks.map some)
  (H:V1 P f xs h1 R) (hargs:TO bs as1 xs) (hb:∀r∈bs,∃v ls,r=.vec v ls/\∀y∈ls,∃u,y=.val u)
  (hclean:∀r h',R r h'->KU h' r/\∀q∈h',Ga q)
  (hK:∀r h',R r h'->Xa P n ops B (T.filter fun t=>!Vs ops i t.1) fuel (done++[i]) (F.put (ZL ops i).dst r) (h'++bs++h2)):U0 P n ops B T fuel done F h i:=
 Aj is js ks hk hp ho hj (Mj (h2:=[]) (UI hk).2.1 hc (by simp) (H.lend bs hargs hb hclean) fun r h' ⟨h1',hr,he⟩=>by rw [he];simpa using hK r h1' hr)
def A6 (h h':List Res):Prop:=∀w G,YL w G h->∃G',YL w G' h'/\Xb w G h w G' h'
theorem Qp {h':List Res} (ht:A6 h h') (H:SI P n ops B k F h'):SI P n ops B k F h:=by
 intro Q w G a hF hh hk
 obtain ⟨G',h1,h2⟩:=ht w G hh
 exact H Q w G' a (hF.mono (h2.agree hh)) h1 fun F2 h2' G2 a2 w2 b1 b2 b3 b4=>hk F2 h2' G2 a2 w2 b1 b2 b3 (h2.trans b4)
theorem Np {c:Code} {A:WW} {h':List Res} (ht:A6 h h') (H:Yw P n c A F h'):Yw P n c A F h:=by
 intro w G a hF hh
 obtain ⟨G',h1,h2⟩:=ht w G hh
 exact wp_mono (H w G' a (hF.mono (h2.agree hh)) h1) fun e a' w' hc=>hc.trans h2
theorem Zii:A6 h (.vec (.slice none 0 0) []::h):=fun _ _ hh=>let ⟨a,b⟩:=Ziy hh;⟨_,a,b⟩
theorem Zij (j m:Nat) {v:Value} {ls:List AV} (hp:UV [j] h=some ([.vec v ls],h2)) (hle:m<=ls.length):A6 h (.vec (AP v m) (ls.take m)::h2):=by
 intro w G hh
 have hp':=Th hp
 obtain ⟨a,b⟩:=Ziz (hh.perm hp') hle
 exact ⟨G,a,b.perm hp'.symm (Jm _)⟩
end
theorem Z2n (xs:LI):∀y∈Z6 xs,∃u,y=AV.val u:=by intro y hy;simp only [Z6,XA] at hy;obtain ⟨x,_,rfl⟩:=hy;exact ⟨_,rfl⟩
theorem Rz (xs:LI):∀y∈Z6 xs,y.leaves=[y]:=by intro y hy;simp only [Z6,XA] at hy;obtain ⟨x,_,rfl⟩:=hy;rfl
theorem Zd5 (xs:LI):(Z6 xs).all AV.one=true:=by rw [A0];intro y hy;simp only [Z6,XA] at hy;obtain ⟨x,_,rfl⟩:=hy;rfl
theorem Z13 (xs:LI) (i:Nat) (x:Int):(Z6 xs).set i (.i x)=Z6 (xs.set i x):=by simp [Z6,List.map_set]
theorem Ax:∀r∈([]:List Res),∃v ls,r=Res.vec v ls/\∀y∈ls,∃u,y=AV.val u:=by simp
theorem J9 {v:Value} {xs:LI} {bs:List Res} (h:∀r∈bs,∃v ls,r=Res.vec v ls/\∀y∈ls,∃u,y=AV.val u) :
  ∀r∈Res.vec v (Z6 xs)::bs,∃v ls,r=Res.vec v ls/\∀y∈ls,∃u,y=AV.val u:=by
 intro r hr
 rcases X0.1 hr with rfl|hr
 ·exact ⟨_,_,rfl,Z2n xs⟩
 ·exact h r hr
section
variable {P:Program} {n:Nat} {c:Code} {A:WW} {F:Fr} {h:List Res}
@[reducible] def Gu (K:Fr->List Res->Prop) (A:WW):WW:=fun e F h=>
 match e with
 | .normal=>∃F' h',K F' h'/\Tp F h F' h'
 | e=>A e F h
theorem Z39 {y:Code} (K:Fr->List Res->Prop) (H:Yw P n c (Gu K A) F h) (hB:∀F' h',K F' h'->Yw P n y A F' h'):Yw P n c (Cj P n y A) F h:=by
 refine Nl (fun e F1 h1 hq=>?_) H
 cases e with
 | normal=>obtain ⟨F',h',k1,k2⟩:=hq;exact Dl k2 (hB F' h' k1)
 | exit id=>exact hq
 | goto l=>exact hq
 | ret=>exact hq
 | panic ch=>exact hq
 | outgrown=>exact hq
theorem ZZ {ops:Array Oper} {B:Fr->List Res->Prop} {k:Nat} {F2:Fr} {h2:List Res} (hw:Tp F h F2 h2) (J:SI P n ops B k F2 h2):SI P n ops B k F h:=HO hw J
theorem Z38 {y:Code} {A2:WW} (K:Fr->List Res->Prop) (hA:∀F h,A .normal F h=Yw P n y A2 F h) (H:Yw P n c (Gu K A) F h) (hB:∀F' h',K F' h'->Yw P n y A2 F' h'):Yw P n c A F h:=by
 refine Nl (fun e F1 h1 hq=>?_) H
 cases e with
 | normal=>obtain ⟨F',h',k1,k2⟩:=hq;rw [hA];exact Dl k2 (hB F' h' k1)
 | exit id=>exact hq
 | goto l=>exact hq
 | ret=>exact hq
 | panic ch=>exact hq
 | outgrown=>exact hq
end
end Go.Abs
section
namespace Go.Abs
inductive Keep:Fr->Fr->Prop
 | z {F:Fr}:Keep F []
 | r {F:Fr}:Keep F F
 | k {F F':Fr} {x:Nat × AV} (h:Keep F F'):Keep (x::F) (x::F')
 | d {F F':Fr} {x:Nat × AV} (h:Keep F F'):Keep (x::F) F'
 | p {F F':Fr} {d:Option Tmp} {x:AV} (h:Keep F F'):Keep (F.put d x) F'
 | q {F F':Fr} {d:Option Tmp} {x:AV} (t:Nat) (h:Keep F F'):Keep (F.put d x) ((t,x)::F')
 | n {F F':Fr} (t:Nat) (x:AV) (h:Keep F F'):Keep F ((t,x)::F')
def Wi (is:List Nat) (h:List Res):List Res:=((UV is h).map (·.2)).getD []
def V4 (is:List Nat) (h:List Res):Option (List Res):=(UV is h).map (·.1)
theorem Uc {is:List Nat} {h h1:List Res} (hp:V4 is h=some h1):UV is h=some (h1,Wi is h):=by
 unfold V4 at hp
 unfold Wi
 cases hq:UV is h with
 | none=>rw [hq] at hp;cases hp
 | some x=>rw [hq] at hp;cases hp;rfl
abbrev Z4 (xs:LI):AV:=.sl (Z6 xs) none
abbrev DW (xs:List LI):AV:=.sl (Vh xs) none
abbrev JR (xs:List YK):AV:=.sl (WF xs) none
abbrev Yu (xs:List Zc):AV:=.sl (Xn xs) none
abbrev Vl (xs:List Z5):AV:=.sl (ZQ xs) none
abbrev JQ (xs:List Z7):AV:=.sl (XL xs) none
abbrev JS (xs:List Yz):AV:=.sl (X8 xs) none
abbrev Y6 (xs:LI) (v:Value):AV:=.sl (Z6 xs) (some v)
abbrev Mi (xs:List LI) (v:Value):AV:=.sl (Vh xs) (some v)
abbrev D3 (xs:List YK) (v:Value):AV:=.sl (WF xs) (some v)
abbrev Q4 (xs:List Zc) (v:Value):AV:=.sl (Xn xs) (some v)
abbrev Xe (xs:List Z5) (v:Value):AV:=.sl (ZQ xs) (some v)
abbrev Qu (xs:List Z7) (v:Value):AV:=.sl (XL xs) (some v)
abbrev WU (xs:List Yz) (v:Value):AV:=.sl (X8 xs) (some v)
abbrev M0 (c:YK):List AV:=[Z4 c.fields]
abbrev CT (d:Zc):List AV:=[.i d.frm,.i d.to_,JR d.cons]
abbrev W7 (s:Z5):List AV:=[.i s.op,.i s.num,.i s.into,Z4 s.args,JQ s.kids]
abbrev XW (b:Z7):List AV:=[Vl b.steps,.i b.result]
abbrev JL (r:Yz):List AV:=[Z4 r.params,Z4 r.lent,.i r.result,Vl r.body.steps,.i r.body.result]
abbrev X7 (n:ZF):List AV:=[Yu n.decls,JS n.routines]
abbrev Zcr:Value:=.slice none 0 0
structure Hd where
 a:Option Addr
 l:Nat
 c:Nat
abbrev Hd.v (g:Hd):Value:=.slice g.a g.l g.c
abbrev Hd.cut (g:Hd) (m:Nat):Hd:=⟨g.a,m,g.c⟩
abbrev hN:Hd:=⟨none,0,0⟩
abbrev AV.h (g:Hd):AV:=.val g.v
abbrev rV (g:Hd) (xs:LI):Res:=.vec g.v (Z6 xs)
section
variable {P:Program} {n:Nat} {c:Code} {A:WW} {F:Fr} {h:List Res} {ops:Array Oper} {B:Fr->List Res->Prop} {k:Nat}
variable {T:List (Nat × List Nat)} {fuel:Nat} {done:List Nat}
theorem aq (ha:Yw P n (YO c) (Cj P n (U2 c) A) F h) (hk:Xc c=3:=by kernel_rfl):Yw P n c A F h:=Iu hk ha
theorem ar (hs:SI P n (XI (YO c)) (fun F h=>Yw P n (U2 c) A F h) 0 F h) (hk:Xc c=3:=by kernel_rfl) (hk1:Xc (YO c)=1:=by kernel_rfl):Yw P n c A F h:=Z3c hk hk1 (R3 hs)
theorem az (hs:SI P n (XI c) (A .normal) 0 F h) (hk:Xc c=1:=by kernel_rfl):Yw P n c A F h:=Nm hk (R3 hs)
theorem aD (k:Nat) (hs:Xa P n (XI (YO c)) (fun F h=>Yw P n (U2 c) A F h) [] k [] F h) (hk:Xc c=3:=by kernel_rfl) (hk2:Xc (YO c)=2:=by kernel_rfl) (hm:P.follows .mixedOrders=true:=by kernel_rfl)
  (Xo:(XI (YO c)).size=k:=by kernel_rfl):Yw P n c A F h:=Z3d hk hk2 hm Xo hs
theorem aE (k:Nat) (hs:Xa P n (XI c) (A .normal) [] k [] F h) (hk:Xc c=2:=by kernel_rfl) (hm:P.follows .mixedOrders=true:=by kernel_rfl)
  (Xo:(XI c).size=k:=by kernel_rfl):Yw P n c A F h:=Nn hk hm Xo hs
theorem ak (h0:A .normal F h) (hk:Xc c=0:=by kernel_rfl):Yw P n c A F h:=Z3h hk h0
theorem ax (id:Nat) (h0:A (.exit id) F h) (hk:Xc c=7:=by kernel_rfl) (hi:Kx c=id:=by kernel_rfl):Yw P n c A F h:=Z3a id hk hi h0
theorem ab (id:Nat) (ha:Yw P n (YO c) (Gj id A) F h) (hk:Xc c=5:=by kernel_rfl) (hi:Kx c=id:=by kernel_rfl):Yw P n c A F h:=Z37 id hk hi ha
theorem ac (b:Bool) {p:Prop} (hp:b=true↔p) (h1:p->Yw P n (YO c) A F h) (h2:¬p->Yw P n (U2 c) A F h) (hk:Xc c=4:=by kernel_rfl) (hc:F.ev (B3 c)=.val (.bool b):=by kernel_rfl) :
  Yw P n c A F h:=It hk hc hp h1 h2
theorem Vq (h1:Yw P n (YO c) A F h) (hk:Xc c=4:=by kernel_rfl) (hc:F.ev (B3 c)=.val (.bool true):=by kernel_rfl):Yw P n c A F h:=
 It (p:=True) hk hc (by simp) (fun _=>h1) (fun q=>absurd trivial q)
theorem VP (h1:Yw P n (U2 c) A F h) (hk:Xc c=4:=by kernel_rfl) (hc:F.ev (B3 c)=.val (.bool false):=by kernel_rfl):Yw P n c A F h:=
 It (p:=False) hk hc (by simp) (fun q=>q.elim) (fun _=>h1)
theorem al (Inv:Nat->Fr->List Res->Prop) (m0:Nat) (F0:Fr) (h0:List Res) (hi:Inv m0 F0 h0) (hw:Tp F h F0 h0)
  (hr:∀m F h,Inv m F h->Yw P n (YO c) (Me Inv m A) F h) (hk:Xc c=6:=by kernel_rfl):Yw P n c A F h:=Z3b Inv hk hi hw hr
theorem wk {F':Fr} {h1 h':List Res} (is:List Nat) (hF:F.Le F') (e:h1=h':=by exact rfl) (hp:V4 is h=some h1:=by kernel_rfl):Tp F h F' h':=e▸Zjd is hF (Uc hp)
theorem fl {F F':Fr} (h:F'.map (fun p=>(F.get p.1).like p.2)=F'.map (·.2):=by kernel_rfl):F.Le F':=Pm h
theorem fc {F F':Fr} {t:Nat} {x y:AV} (hxy:Zl x y) (hr:F.Le F') (hx:F.get t=x:=by kernel_rfl):F.Le ((t,y)::F'):=DL hx hxy hr
theorem lr (x:AV):Zl x x:=Zl.refl x
abbrev nl:AV:=.sl [] (some (.slice none 0 0))
theorem Keep.w {F F':Fr} {a b c d:Nat×AV} (h:Keep F F'):Keep (a::b::c::d::F) (a::b::c::d::F'):=.k (.k (.k (.k h)))
theorem dq {p:Prop} [Decidable p]:decide p=true↔p:=decide_eq_true_iff
theorem fr {F F':Fr} {t:Nat} {x:AV} (hr:F.Le F') (hx:F.get t=x:=by kernel_rfl):F.Le ((t,x)::F'):=fc (lr _) hr hx
theorem li {a b:Int} (h:a=b:=by exact ob):Zl (.i a) (.i b):=Zl.i h
theorem lb {a b:Bool} (h:a=b):Zl (.b a) (.b b):=Zl.b h
theorem r1 {fn:Func} {R:AV->List Res->Prop} {e:Exit} {h1 h':List Res} {r:AV} (is:List Nat) (hR:R r h') (eq:h1=h':=by exact rfl) (he:(match e with|.normal|.ret=>true|_=>false)=true:=by kernel_rfl)
  (hr:Kk P F h fn.results.toList []=some ([r],[]):=by kernel_rfl) (hp:V4 is h=some h1:=by kernel_rfl):BD P fn R e F h:=
 Mm he [] hr (by simp) ⟨_,eq▸Th (Uc hp)⟩ (Zl.refl _) hR
theorem r2 {fn:Func} {R:AV->List Res->Prop} {e:Exit} {h1 h':List Res} {r:AV} (is:List Nat) (xs:List AV) (hR:R r h') (hle:Zl (Bp xs) r) (eq:h1=h':=by exact rfl) (he:(match e with|.normal|.ret=>true|_=>false)=true:=by kernel_rfl)
  (hr:Kk P F h fn.results.toList []=some (xs,[]):=by kernel_rfl) (hp:V4 is h=some h1:=by kernel_rfl):BD P fn R e F h:=
 Mm he [] hr (by simp) ⟨_,eq▸Th (Uc hp)⟩ hle hR
theorem r3 {fn:Func} {R:AV->List Res->Prop} {e:Exit} {h1 h':List Res} {r:AV} (is:List Nat) (xs:List AV) (hints:List Nat) (es:List (Nat × Nat)) (hR:R r h') (hle:Zl (Bp xs) r)
  (eq:h1=h':=by exact rfl) (he:(match e with|.normal|.ret=>true|_=>false)=true:=by kernel_rfl)
  (hr:Kk P F h fn.results.toList hints=some (xs,es):=by kernel_rfl) (hp:V4 is h=some h1:=by kernel_rfl) (hes:∀p∈es,p.1=p.2:=by simp):BD P fn R e F h:=
 Mm he hints hr hes ⟨_,eq▸Th (Uc hp)⟩ hle hR
theorem Yc (h0:A .ret F h) (hk:Xc c=8:=by kernel_rfl):Yw P n c A F h:=Z3e hk h0
theorem ie (hB:B F h) (hk:Nat.ble ops.size k=true:=by kernel_rfl):SI P n ops B k F h:=R0 hk hB
theorem io (x':AV) (x:AV) (hx:Zl x x') (H:SI P n ops B (k+1) (F.put (ZL ops k).dst x') h) (hk:Xk n ops F k=true:=by kernel_rfl) (he:Qm P (ZL ops k) F h 0=some (x,[]):=by kernel_rfl):SI P n ops B k F h:=
 Zai x' hk he hx H
theorem Zp {x:AV} (hs:XS P (ZL ops k) F h [] x) (H:SI P n ops B (k+1) (F.put (ZL ops k).dst x) h) (hk:Xk n ops F k=true:=by kernel_rfl):SI P n ops B k F h:=EV hk hs H
theorem ia (r s:Int) (H:SI P n ops B (k+1) (F.put (ZL ops k).dst (.i r)) h) (hb:-9223372036854775808<=r/\r<=9223372036854775807:=by omega) (hs:s=r:=by omega)
  (hk:Xk n ops F k=true:=by kernel_rfl) (ha:A8 ops F k=some s:=by kernel_rfl):SI P n ops B k F h:=Zac r hk ha hs hb H
theorem ic (is:List Nat) {f:FuncId} {xs:List AV} {h1:List Res} {R:AV->List Res->Prop} (H:V1 P f xs h1 R)
  (hK:∀r h',R r h'->SI P n ops B (k+1) (F.put (ZL ops k).dst r) (h'++Wi is h)) (hk:Xk n ops F k=true:=by kernel_rfl) (hc:Af P ops F k=some (f,xs):=by kernel_rfl)
  (hp:V4 is h=some h1:=by kernel_rfl):SI P n ops B k F h:=Zad f xs is hk hc (Uc hp) H hK
theorem iA (ls:List AV) (hK:∀b,SI P n ops B (k+1) (F.put (ZL ops k).dst (.p b 0)) (.obj b ls::h)) (hk:Xk n ops F k=true:=by kernel_rfl) (ha:Dm P ops F k=some ls:=by kernel_rfl):SI P n ops B k F h:=
 Zaa ls hk ha hK
theorem iS (j b o:Nat) (xs ls ls':List AV) (H:SI P n ops B (k+1) F (.obj b ls'::Wi [j] h)) (hk:Xk n ops F k=true:=by kernel_rfl) (hs:storeAt P ops F k=some (b,o,xs):=by kernel_rfl)
  (hp:V4 [j] h=some [.obj b ls]:=by kernel_rfl) (hle:Nat.ble (o+xs.length) ls.length=true:=by kernel_rfl) (he:ls.take o++xs++ls.drop (o+xs.length)=ls':=by kernel_rfl):SI P n ops B k F h:=
 Zak j ls' hk hs (Uc hp) hle he H
theorem iL (es:List AV) (len sz:Nat) (hK:∀v,SI P n ops B (k+1) (F.put (ZL ops k).dst (.sl es (some v))) (.tail v sz::h)) (hk:Xk n ops F k=true:=by kernel_rfl)
  (ha:Tx P ops F k=some (Zu es,len,sz):=by kernel_rfl) (hlen:es.length=len:=by kernel_rfl) (hall:B0 es sz=true:=by kernel_rfl):SI P n ops B k F h:=Zag es hk ha hlen hall hK
theorem ip (j:Nat) (es' es xs:List AV) (hv:Value) (hx:Option Value) (sz:Nat) (hes:∀y∈es,y.leaves.length=sz) (hxs:∀y∈xs,y.leaves.length=sz)
  (hone:(Zu xs).all AV.one=true) (hbound:es.length+xs.length<=1099511627776) (he:es++xs=es') (hK:∀v',SI P n ops B (k+1) (F.put (ZL ops k).dst (.sl es' (some v'))) (.tail v' sz::Wi [j] h))
  (hk:Xk n ops F k=true:=by kernel_rfl) (ha:TS P ops F k=some (.sl es (some hv),.sl xs hx,sz):=by kernel_rfl) (hp:V4 [j] h=some [.tail hv sz]:=by kernel_rfl):SI P n ops B k F h:=
 Zab j es' hk ha (Uc hp) hes hxs hone hbound he hK
theorem ib {b:Bool} (t:Nat) (h1:b=true->SI P n ops B k ((t,.b true)::F) h) (h2:b=false->SI P n ops B k ((t,.b false)::F) h) (hF:F.get t=.b b:=by kernel_rfl):SI P n ops B k F h:=Zaj t hF h1 h2
theorem de (hB:B F h) (hr:Region.ready .any ops (WT ops done)=[]:=by kernel_rfl):Xa P n ops B T fuel done F h:=Z5j hr hB
theorem Z8 (i:Nat) (H:U0 P n ops B T fuel done F h i) (hr:Region.ready .any ops (WT ops done)=[i]:=by kernel_rfl):Xa P n ops B T (fuel+1) done F h:=Z5m hr H
theorem dx (i:Nat) {x:AV} (hx:XS P (ZL ops i) F h [] x) (H:Xa P n ops B ((i,[])::T) fuel (done++[i]) (F.put (ZL ops i).dst x) h) (hs:Region.noSelect ops=true:=by kernel_rfl) (hk:Xk n ops F i=true:=by kernel_rfl)
  (hf:Region.free .any ops (WT ops done) i=true:=by kernel_rfl) (hr:(Region.ready .any ops (WT ops done)).contains i=true:=by kernel_rfl):Xa P n ops B T (fuel+1) done F h:=Gv i hs hk hf hr hx H
theorem dn (i:Nat) (x' x:AV) (hx:Zl x x') (H:Xa P n ops B ((i,[])::T) fuel (done++[i]) (F.put (ZL ops i).dst x') h) (he:Qm P (ZL ops i) F h 0=some (x,[]):=by kernel_rfl) (hs:Region.noSelect ops=true:=by kernel_rfl) (hk:Xk n ops F i=true:=by kernel_rfl)
  (hf:Region.free .any ops (WT ops done) i=true:=by kernel_rfl) (hr:(Region.ready .any ops (WT ops done)).contains i=true:=by kernel_rfl):Xa P n ops B T (fuel+1) done F h:=Z5l i x' hs hk hf hr he hx H
theorem da (i:Nat) (r s:Int) (H:Xa P n ops B ((i,[])::T) fuel (done++[i]) (F.put (ZL ops i).dst (.i r)) h) (hb:-9223372036854775808<=r/\r<=9223372036854775807:=by omega) (hse:s=r:=by omega)
  (ha:A8 ops F i=some s:=by kernel_rfl) (hs:Region.noSelect ops=true:=by kernel_rfl) (hk:Xk n ops F i=true:=by kernel_rfl)
  (hf:Region.free .any ops (WT ops done) i=true:=by kernel_rfl) (hr:(Region.ready .any ops (WT ops done)).contains i=true:=by kernel_rfl):Xa P n ops B T (fuel+1) done F h:=Z5f i r hs hk hf hr ha hse hb H
theorem dc (i:Nat) (is js bs:List Nat) {f:FuncId} {xs:List AV} {h1:List Res} {R:AV->List Res->Prop} (H:V1 P f xs h1 R)
  (hK:∀r h',R r h'->Xa P n ops B (T.filter fun t=>!Vs ops i t.1) fuel (done++[i]) (F.put (ZL ops i).dst r) (h'++Wi is h))
  (hk:Xk n ops F i=true:=by kernel_rfl) (hc:Af P ops F i=some (f,xs):=by kernel_rfl)
  (hp:V4 is h=some h1:=by kernel_rfl) (ho:UH ops i T=bs:=by kernel_rfl) (hj:js.map (fun j=>(V5 (Wi is h))[j]?)=bs.map some:=by kernel_rfl):U0 P n ops B T fuel done F h i:=
 Z5g i f xs is js bs hk hc (Uc hp) ho hj H hK
theorem dA (i:Nat) (js bs:List Nat) (ls:List AV) (hK:∀b,Xa P n ops B (T.filter fun t=>!Vs ops i t.1) fuel (done++[i]) (F.put (ZL ops i).dst (.p b 0)) (.obj b ls::h))
  (hk:Xk n ops F i=true:=by kernel_rfl) (ha:Dm P ops F i=some ls:=by kernel_rfl) (ho:UH ops i T=bs:=by kernel_rfl) (hj:js.map (fun j=>(V5 h)[j]?)=bs.map some:=by kernel_rfl):U0 P n ops B T fuel done F h i:=
 Z5d i js bs ls hk ha ho hj hK
theorem dL (i:Nat) (js bs:List Nat) (es:List AV) (len sz:Nat) (hK:∀v,Xa P n ops B (T.filter fun t=>!Vs ops i t.1) fuel (done++[i]) (F.put (ZL ops i).dst (.sl es (some v))) (.tail v sz::h))
  (hk:Xk n ops F i=true:=by kernel_rfl) (ha:Tx P ops F i=some (Zu es,len,sz):=by kernel_rfl) (hlen:es.length=len:=by kernel_rfl) (hall:B0 es sz=true:=by kernel_rfl)
  (ho:UH ops i T=bs:=by kernel_rfl) (hj:js.map (fun j=>(V5 h)[j]?)=bs.map some:=by kernel_rfl):U0 P n ops B T fuel done F h i:=
 Z5k i js bs es hk ha hlen hall ho hj hK
theorem dp (i j:Nat) (js bs:List Nat) (es' es xs:List AV) (hv:Value) (hx:Option Value) (sz:Nat) (hes:∀y∈es,y.leaves.length=sz) (hxs:∀y∈xs,y.leaves.length=sz)
  (hone:(Zu xs).all AV.one=true) (hbound:es.length+xs.length<=1099511627776) (he:es++xs=es')
  (hK:∀v',Xa P n ops B (T.filter fun t=>!Vs ops i t.1) fuel (done++[i]) (F.put (ZL ops i).dst (.sl es' (some v'))) (.tail v' sz::Wi [j] h))
  (hk:Xk n ops F i=true:=by kernel_rfl) (ha:TS P ops F i=some (.sl es (some hv),.sl xs hx,sz):=by kernel_rfl) (hp:V4 [j] h=some [.tail hv sz]:=by kernel_rfl)
  (ho:UH ops i T=bs:=by kernel_rfl) (hj:js.map (fun q=>(V5 (Wi [j] h))[q]?)=bs.map some:=by kernel_rfl):U0 P n ops B T fuel done F h i:=
 Z5e i j js bs es' hk ha (Uc hp) hes hxs hone hbound he ho hj hK
theorem dS (i j:Nat) (js bs:List Nat) (b o:Nat) (xs ls ls':List AV) (H:Xa P n ops B (T.filter fun t=>!Vs ops i t.1) fuel (done++[i]) F (.obj b ls'::Wi [j] h))
  (hk:Xk n ops F i=true:=by kernel_rfl) (hs:storeAt P ops F i=some (b,o,xs):=by kernel_rfl)
  (hp:V4 [j] h=some [.obj b ls]:=by kernel_rfl) (hle:Nat.ble (o+xs.length) ls.length=true:=by kernel_rfl) (he:ls.take o++xs++ls.drop (o+xs.length)=ls':=by kernel_rfl) (ho:UH ops i T=bs:=by kernel_rfl)
  (hj:js.map (fun q=>(V5 (Wi [j] h))[q]?)=bs.map some:=by kernel_rfl):U0 P n ops B T fuel done F h i:=
 Z5o i j js bs ls' hk hs (Uc hp) hle he ho hj H
theorem db {b:Bool} (t:Nat) (h1:b=true->Xa P n ops B T fuel done ((t,.b true)::F) h) (h2:b=false->Xa P n ops B T fuel done ((t,.b false)::F) h) (hF:F.get t=.b b:=by kernel_rfl):Xa P n ops B T fuel done F h:=Z5n t hF h1 h2
theorem rz:([]:List Res)=[]:=rfl
theorem rc {x:Res} {t t':List Res} (e:t=t'):x::t=x::t':=e▸rfl
theorem rv {g:Hd} {xs xs':LI} {t t':List Res} (h:xs=xs') (e:t=t'):rV g xs::t=rV g xs'::t':=h▸e▸rfl
theorem Z17 {v:Value} {ls:List AV} (H:∀g:Hd,v=g.v->SI P n ops B k F (.vec v ls::h)):SI P n ops B k F (.vec v ls::h):=by
 intro Q w G a hF hh
 obtain ⟨a',cap,rfl⟩:=Ct.form (hh.ok _ (Xf ..))
 exact H ⟨a',_,cap⟩ rfl Q w G a hF hh
theorem I7 (j:Nat) (v:Hd) (xs:LI) (hl:DU P ops F k=some (.h v):=by kernel_rfl) (hj:h[j]? = some (rV v xs):=by kernel_rfl):XS P (ZL ops k) F h [] (.i xs.length):=by
 have:=Zi4 (P:=P) (F:=F) j hl hj
 rwa [Y9] at this
theorem Ue (j:Nat) (v:Hd) (xs:LI) (i:Int) (q:Nat) (h0:0<=i/\i<xs.length:=by omega) (hq:i.toNat=q:=by omega) (hi:C2 P ops F k=some (.h v,i,1):=by kernel_rfl) (hj:h[j]? = some (rV v xs):=by kernel_rfl) :
  XS P (ZL ops k) F h [] (.val (.pointer (some ⟨QQ v.v,q,none⟩))):=by
 have:=Zi3 (P:=P) (F:=F) j hi hj h0.1 (by rw [Y9];exact h0.2)
 rwa [hq] at this
theorem Qz (j:Nat) (v:Hd) (xs:LI) (q:Nat) (y:Int) (hy:xs[q]? = some y) (hl:Mb P ops F k=some (.val (.pointer (some ⟨QQ v.v,q,none⟩))):=by kernel_rfl) (hj:h[j]? = some (rV v xs):=by kernel_rfl) :
  XS P (ZL ops k) F h [QQ v.v] (.i y):=Zi5 (P:=P) (F:=F) j hl hj (Y7 hy)
theorem Ut {ks:List Nat} {x:AV} (hs:XS P (ZL ops k) F h ks x) (H:SI P n ops B (k+1) (F.put (ZL ops k).dst x) h) (hk:Xk n ops F k=true:=by kernel_rfl):SI P n ops B k F h:=EV hk hs H
theorem TU (i:Nat) {ks:List Nat} {x:AV} (hx:XS P (ZL ops i) F h ks x) (H:Xa P n ops B ((i,ks)::T) fuel (done++[i]) (F.put (ZL ops i).dst x) h) (hs:Region.noSelect ops=true:=by kernel_rfl) (hk:Xk n ops F i=true:=by kernel_rfl)
  (hf:Region.free .any ops (WT ops done) i=true:=by kernel_rfl) (hr:(Region.ready .any ops (WT ops done)).contains i=true:=by kernel_rfl):Xa P n ops B T (fuel+1) done F h:=Gv i hs hk hf hr hx H
theorem De (j:Nat) (v:Hd) (xs:LI) (m:Nat) (hle:m<=xs.length:=by omega) (hi:Eb P ops F k=some (.h v,(m:Int)):=by kernel_rfl) (hj:h[j]? = some (rV v xs):=by kernel_rfl) :
  XS P (ZL ops k) F h [] (.h (v.cut m)):=Zi6 (P:=P) (F:=F) j hi hj (by rw [Y9];exact hle)
theorem LT (j:Nat) (v:Hd) (xs:LI) (q:Nat) (y:Int) (H:SI P n ops B (k+1) F (rV v (xs.set q y)::Wi [j] h)) (hlt:q<xs.length:=by omega) (hk:Xk n ops F k=true:=by kernel_rfl)
  (hs:storeAt P ops F k=some (QQ v.v,q,[.i y]):=by kernel_rfl) (hp:V4 [j] h=some [rV v xs]:=by kernel_rfl):SI P n ops B k F h:=
 Zan j _ hk hs (Uc hp) (by rw [Y9];exact hlt) (Z13 _ _ _) H
theorem Dw (i j:Nat) (js bs:List Nat) (v:Hd) (xs:LI) (q:Nat) (y:Int) (H:Xa P n ops B (T.filter fun t=>!Vs ops i t.1) fuel (done++[i]) F (rV v (xs.set q y)::Wi [j] h)) (hlt:q<xs.length:=by omega)
  (hk:Xk n ops F i=true:=by kernel_rfl)
  (hs:storeAt P ops F i=some (QQ v.v,q,[.i y]):=by kernel_rfl) (hp:V4 [j] h=some [rV v xs]:=by kernel_rfl) (ho:UH ops i T=bs:=by kernel_rfl)
  (hj:js.map (fun q=>(V5 (Wi [j] h))[q]?)=bs.map some:=by kernel_rfl):U0 P n ops B T fuel done F h i:=
 Z5p i j js bs _ hk hs (Uc hp) (by rw [Y9];exact hlt) (Z13 _ _ _) ho hj H
theorem Bi (j:Nat) (v:Hd) (xs ys:LI) (hx:Option Value) (hK:∀v',SI P n ops B (k+1) (F.put (ZL ops k).dst (.h v')) (rV v' (xs++ys)::Wi [j] h)) (hbound:xs.length+ys.length<=1099511627776:=by simp<;>omega)
  (hk:Xk n ops F k=true:=by kernel_rfl) (ha:TS P ops F k=some (.h v,.sl (Z6 ys) hx,1):=by kernel_rfl) (hp:V4 [j] h=some [rV v xs]:=by kernel_rfl):SI P n ops B k F h:=
 Zam j _ hk ha (Uc hp) (Rz _) (Zd5 _) (by simpa using hbound) (XX _ _).symm fun v'=>Z17 fun g hg=>by subst hg;exact hK g
theorem PX (xs:LI) (len:Nat) (hK:∀v,SI P n ops B (k+1) (F.put (ZL ops k).dst (.h v)) (rV v xs::h)) (hk:Xk n ops F k=true:=by kernel_rfl) (ha:Tx P ops F k=some (Z6 xs,len,1):=by kernel_rfl)
  (hlen:xs.length=len:=by kernel_rfl):SI P n ops B k F h:=Zah _ hk ha (by rw [Y9];exact hlen) fun v'=>Z17 fun g hg=>by subst hg;exact hK g
def Ih (R:AV->List Res->Prop):Prop:=∀r h',R r h'->KU h' r/\∀q∈h',Ga q
theorem Gr {x:Value}:Ih fun r h=>r=.val x/\h=[]:=by rintro _ _ ⟨rfl,rfl⟩;exact ⟨.val,by simp⟩
theorem Dq {xs:LI}:Ih fun r h=>∃v:Hd,r=.h v/\h=[rV v xs]:=by
 rintro _ _ ⟨v,rfl,rfl⟩;exact ⟨.val,by simpa [Ga] using Z2n xs⟩
theorem Ai (i:Nat) (is js ks:List Nat) {f:FuncId} {as1 xs:List AV} {h1:List Res} (bs:List Res) {R:AV->List Res->Prop} (H:V1 P f xs h1 R) (hcl:Ih R) (hargs:TO bs as1 xs)
  (hb:∀r∈bs,∃v ls,r=.vec v ls/\∀y∈ls,∃u,y=.val u)
  (hK:∀r h',R r h'->Xa P n ops B (T.filter fun t=>!Vs ops i t.1) fuel (done++[i]) (F.put (ZL ops i).dst r) (h'++(bs++Wi is h)))
  (hk:Xk n ops F i=true:=by kernel_rfl) (hc:Af P ops F i=some (f,as1):=by kernel_rfl)
  (hp:V4 is h=some (h1++bs):=by kernel_rfl) (ho:UH ops i T=ks:=by kernel_rfl) (hj:js.map (fun j=>(V5 (Wi is h))[j]?)=ks.map some:=by kernel_rfl):U0 P n ops B T fuel done F h i:=
 Z5h i f as1 xs is js ks bs hk hc (Uc hp) ho hj H hargs hb hcl fun r h' hr=>by rw [XM];exact hK r h' hr
theorem gN {bs:List Res}:TO bs [] []:=.nil
theorem Zco {bs:List Res} {r:Res} (i:Nat) (h:bs[i]? = some r):r∈bs:=Y4 h
theorem gS {bs:List Res} {x:AV} {as1 xs:List AV} (t:TO bs as1 xs):TO bs (x::as1) (x::xs):=.same t
theorem gL {bs:List Res} {v:Hd} {ys:LI} {as1 xs:List AV} (i:Nat) (t:TO bs as1 xs) (h:bs[i]? = some (rV v ys):=by kernel_rfl):TO bs (.h v::as1) (Z4 ys::xs):=.lent (Zco i h) t
theorem Zig (j:Nat) (b':Nat) (ls ls':List AV) (hle:TD ls ls') (hp:V4 [j] h=some [.obj b' ls]:=by kernel_rfl):A6 h (.obj b' ls'::Wi [j] h):=by
 intro w G hh
 have hp':=Th (Uc hp)
 have hh':=hh.perm hp'
 have hpw:=Uh.1 hh'.apart
 refine ⟨G,⟨fun r hr=>?_,Uh.2 ⟨fun r hr=>hpw.1 r hr,hpw.2⟩,fun r hr=>?_,hh'.lt⟩,?_⟩
 ·rcases X0.1 hr with rfl|hr
  ·obtain ⟨cs,e,h1,h2⟩:=hh'.ok _ (Xf ..)
   exact ⟨cs,e,h1,TD.cs hle h2⟩
  ·exact hh'.ok r (Xr _ hr)
 ·rcases X0.1 hr with rfl|hr
  ·exact fun b o hf hg=>hh'.prot (.obj b' ls) (Xf ..) b o hf hg
  ·exact hh'.prot r (Xr _ hr)
 ·refine ⟨rfl,rfl,rfl,X2 _,fun _ _ h=>h,fun _ _=>.inl rfl,fun _ _ _ h=>.inl h,?_⟩
  rintro b2 o _ ⟨r,hr,hf⟩
  rw [CH hp']
  rcases X0.1 hr with rfl|hr
  ·exact ⟨_,Xf ..,hf⟩
  ·exact ⟨r,Xr _ hr,hf⟩
theorem Zl.hd {es:List AV} {v:Hd}:Zl (.sl es (some v.v)) (.h v):=by
 intro w G u h
 cases h with
 | nil hh=>rw [<-hh _ rfl];exact .val
 | sl hh _ _=>rw [<-hh _ rfl];exact .val
theorem Dd (j m:Nat) (v:Hd) (xs:LI) (hle:m<=xs.length:=by omega) (hp:V4 [j] h=some [rV v xs]:=by kernel_rfl):A6 h (rV (v.cut m) (xs.take m)::Wi [j] h):=by
 have:=Zij (h:=h) j m (Uc hp) (by rw [Y9];exact hle)
 rwa [KA] at this
theorem Eh:A6 h (rV hN []::h):=Zii
end
end Go.Abs
namespace Go.Abs
section
variable {P:Program} {n:Nat} {ops:Array Oper} {B:Fr->List Res->Prop} {k:Nat} {F:Fr} {h:List Res}
variable {T:List (Nat × List Nat)} {fuel:Nat} {done:List Nat} {c:Code} {A:WW}
def qF (P:Program) (n:Nat) (ops:Array Oper) (h:List Res) (k m:Nat) (F:Fr) (hints:List Nat):Fr:=
 match QN P n ops h m (ops.toList.drop k) F hints with|some (_,F1,_)=>F1|none=>F
def qA (P:Program) (n:Nat) (ops:Array Oper) (h:List Res) (k m:Nat) (F:Fr) (hints:List Nat):List Nat:=
 match QN P n ops h m (ops.toList.drop k) F hints with|some (_,_,es)=>es.map (·.1)|none=>[0]
def qB (P:Program) (n:Nat) (ops:Array Oper) (h:List Res) (k m:Nat) (F:Fr) (hints:List Nat):List Nat:=
 match QN P n ops h m (ops.toList.drop k) F hints with|some (_,_,es)=>es.map (·.2)|none=>[1]
theorem ZB (m:Nat) (hints:List Nat) (H:SI P n ops B (k+m) (qF P n ops h k m F hints) h) (he:qA P n ops h k m F hints=qB P n ops h k m F hints:=by kernel_rfl):SI P n ops B k F h:=by
 unfold qA qB at he
 unfold qF at H
 cases hr:QN P n ops h m (ops.toList.drop k) F hints with
 | none=>rw [hr] at he;cases he
 | some y=>
  obtain ⟨l,F1,es⟩:=y
  rw [hr] at he H
  have hd:=MD m hr
  rw [List.drop_drop] at hd
  refine MG m hr (Ml he) ?_
  rw [hd]
  exact H
theorem Z0 (m:Nat) (H:SI P n ops B (k+m) (qF P n ops h k m F []) h) (he:qA P n ops h k m F []=qB P n ops h k m F []:=by kernel_rfl):SI P n ops B k F h:=ZB m [] H he
theorem Vb (hints:List Nat) (H:B (qF P n ops h k (ops.size-k) F hints) h) (he:qA P n ops h k (ops.size-k) F hints=qB P n ops h k (ops.size-k) F hints:=by kernel_rfl):SI P n ops B k F h:=
 ZB (ops.size-k) hints (R0 (Nat.ble_eq_true_of_le om) H) he
theorem Z1 (H:B (qF P n ops h k (ops.size-k) F []) h) (he:qA P n ops h k (ops.size-k) F []=qB P n ops h k (ops.size-k) F []:=by kernel_rfl):SI P n ops B k F h:=Vb [] H he
def D6 (P:Program) (n:Nat) (ops:Array Oper) (h:List Res) (is done:List Nat) (F:Fr) (hints:List Nat):Fr:=
 match Jc P n ops h is done F hints with|some (F1,_)=>F1|none=>F
def Fm (P:Program) (n:Nat) (ops:Array Oper) (h:List Res) (is done:List Nat) (F:Fr) (hints:List Nat):List Nat:=
 match Jc P n ops h is done F hints with|some (_,es)=>es.flatMap (fun e=>e.2.map (·.1))|none=>[0]
def Fo (P:Program) (n:Nat) (ops:Array Oper) (h:List Res) (is done:List Nat) (F:Fr) (hints:List Nat):List Nat:=
 match Jc P n ops h is done F hints with|some (_,es)=>es.flatMap (fun e=>e.2.map (·.2))|none=>[1]
theorem ZV (f m:Nat) (is:List Nat) (hints:List Nat) (H:Xa P n ops B ((Fc P n ops h is done F hints).reverse++T) f (done++is) (D6 P n ops h is done F hints) h) (hf:m=f+is.length:=by kernel_rfl)
  (he:Fm P n ops h is done F hints=Fo P n ops h is done F hints:=by kernel_rfl) (hs:Region.noSelect ops=true:=by kernel_rfl):Xa P n ops B T m done F h:=by
 unfold Fm Fo at he
 unfold Fc D6 at H
 cases hr:Jc P n ops h is done F hints with
 | none=>rw [hr] at he;cases he
 | some y=>
  obtain ⟨F1,es⟩:=y
  rw [hr] at he H
  exact IT is hs hr (So he) hf H
theorem Zo (f m:Nat) (is:List Nat) (H:Xa P n ops B ((Fc P n ops h is done F []).reverse++T) f (done++is) (D6 P n ops h is done F []) h) (hf:m=f+is.length:=by kernel_rfl)
  (he:Fm P n ops h is done F []=Fo P n ops h is done F []:=by kernel_rfl) (hs:Region.noSelect ops=true:=by kernel_rfl):Xa P n ops B T m done F h:=ZV f m is [] H hf he hs
def Fg (ov F:Fr):Fr:=ov++F
theorem Ly {F':Fr} (hr:F.Le F'):∀(ov:Fr),ov.map (fun p=>(F.get p.1).like p.2)=ov.map (·.2)->F.Le (Fg ov F')
 | [],_=>hr
 | (t,y)::ov,he=>by
  simp only [Tm,List.cons.injEq] at he
  have h1:F.Le [(t,y)]:=Pm (by simp [he.1])
  intro w G v s hv
  have h2:=h1 w G v s hv
  have h3:=Ly hr ov he.2 w G v s hv
  show RV w G (match Nat.beq t s with|true=>y|false=>Fr.get (ov++F') s) v
  change RV w G (match Nat.beq t s with|true=>y|false=>Fr.get [] s) v at h2
  cases hq:Nat.beq t s with
  | true=>rw [hq] at h2;exact h2
  | false=>exact h3
theorem QM (m:Nat) (ov:Fr) (hints:List Nat) (H:SI P n ops B (k+m) (Fg ov (qF P n ops h k m F hints)) h) (he:qA P n ops h k m F hints=qB P n ops h k m F hints:=by kernel_rfl)
  (ho:ov.map (fun p=>((qF P n ops h k m F hints).get p.1).like p.2)=ov.map (·.2):=by kernel_rfl):SI P n ops B k F h:=
 ZB m hints (HO (h':=h) ⟨Ly (Fr.Le.refl _) ov ho,[],by simp⟩ H) he
theorem Y0 (m:Nat) (ov:Fr) (H:SI P n ops B (k+m) (Fg ov (qF P n ops h k m F [])) h) (he:qA P n ops h k m F []=qB P n ops h k m F []:=by kernel_rfl)
  (ho:ov.map (fun p=>((qF P n ops h k m F []).get p.1).like p.2)=ov.map (·.2):=by kernel_rfl):SI P n ops B k F h:=QM m ov [] H he ho
theorem Dv (f m:Nat) (is:List Nat) (ov:Fr) (hints:List Nat) (H:Xa P n ops B ((Fc P n ops h is done F hints).reverse++T) f (done++is) (Fg ov (D6 P n ops h is done F hints)) h) (hf:m=f+is.length:=by kernel_rfl)
  (he:Fm P n ops h is done F hints=Fo P n ops h is done F hints:=by kernel_rfl) (hs:Region.noSelect ops=true:=by kernel_rfl)
  (ho:ov.map (fun p=>((D6 P n ops h is done F hints).get p.1).like p.2)=ov.map (·.2):=by kernel_rfl):Xa P n ops B T m done F h:=
 ZV f m is hints (IV (Ly (Fr.Le.refl _) ov ho) H) hf he hs
theorem Yy (f m:Nat) (is:List Nat) (ov:Fr) (H:Xa P n ops B ((Fc P n ops h is done F []).reverse++T) f (done++is) (Fg ov (D6 P n ops h is done F [])) h) (hf:m=f+is.length:=by kernel_rfl)
  (he:Fm P n ops h is done F []=Fo P n ops h is done F []:=by kernel_rfl) (hs:Region.noSelect ops=true:=by kernel_rfl)
  (ho:ov.map (fun p=>((D6 P n ops h is done F []).get p.1).like p.2)=ov.map (·.2):=by kernel_rfl):Xa P n ops B T m done F h:=Dv f m is ov [] H hf he hs ho
def sF (ts:List Nat) (F ov:Fr):Fr:=ov++ts.map (fun t=>(t,F.get t))
def Zi (h:List Res) (i:Nat):Res:=match h[i]? with|some r=>r|none=>.tail Zcr 0
theorem Y1 (Inv:Fr->List Res->Nat->Fr->List Res->Prop) (m0:Nat) (F0:Fr) (h0:List Res) (hi:Inv F h m0 F0 h0) (hw:Tp F h F0 h0)
  (hr:∀m F' h',Inv F h m F' h'->Yw P n (YO c) (Me (Inv F h) m A) F' h') (hk:Xc c=6:=by kernel_rfl):Yw P n c A F h:=al (Inv F h) m0 F0 h0 hi hw hr hk
theorem Xw {y:Code} (K:Fr->List Res->Fr->List Res->Prop) (H:Yw P n c (Gu (K F h) A) F h) (hB:∀F' h',K F h F' h'->Yw P n y A F' h'):Yw P n c (Cj P n y A) F h:=Z39 (K F h) H hB
theorem BL {y:Code} {A2:WW} (K:Fr->List Res->Fr->List Res->Prop) (hA:∀F h,A .normal F h=Yw P n y A2 F h) (H:Yw P n c (Gu (K F h) A) F h) (hB:∀F' h',K F h F' h'->Yw P n y A2 F' h'):Yw P n c A F h:=Z38 (K F h) hA H hB
theorem Xi {c:Code} {A:WW} (ts:List Nat) (ov:Fr) (K:List Res->List Res) (H:SI P n ops (fun F1 h1=>Tp F1 h1 (sF ts F ov) (K h)) k F h) (hB:Yw P n c A (sF ts F ov) (K h)):SI P n ops (fun F h=>Yw P n c A F h) k F h:=Zaf (sF ts F ov) (K h) H hB
theorem BK {c:Code} {A:WW} (ts:List Nat) (ov:Fr) (K:List Res->List Res) (H:Xa P n ops (fun F1 h1=>Tp F1 h1 (sF ts F ov) (K h)) T fuel done F h) (hB:Yw P n c A (sF ts F ov) (K h)):Xa P n ops (fun F h=>Yw P n c A F h) T fuel done F h:=Z5i (sF ts F ov) (K h) H hB
theorem YW (k2:Nat) (ts:List Nat) (ov:Fr) (K:List Res->List Res) (J:SI P n ops B k2 (sF ts F ov) (K h)) (H:SI P n ops B k2 (sF ts F ov) (K h)->SI P n ops B k F h):SI P n ops B k F h:=H J
end
end Go.Abs
namespace Go.Abs
theorem fw {F F':Fr} {t u:Nat} {x y:AV} (hr:F.Le F') (hx:F.get t=x:=by kernel_rfl) (hy:F.get u=y:=by kernel_rfl):F.Le ((t,x)::(u,y)::F'):=fr (fr hr hy) hx
theorem fq {F F':Fr} {t u v w:Nat} {x y z q:AV} (hr:F.Le F') (hx:F.get t=x:=by kernel_rfl) (hy:F.get u=y:=by kernel_rfl) (hz:F.get v=z:=by kernel_rfl) (hq:F.get w=q:=by kernel_rfl):F.Le ((t,x)::(u,y)::(v,z)::(w,q)::F'):=fw (fw hr hz hq) hx hy
section
variable {P:Program} {n:Nat} {ops:Array Oper} {B:Fr->List Res->Prop} {k:Nat} {F:Fr} {h:List Res}
theorem iw {a b:Nat} (e:a=b) (H:SI P n ops B (k+1) (F.put (ZL ops k).dst (.i b)) h) (hk:Xk n ops F k=true:=by kernel_rfl) (he:Qm P (ZL ops k) F h 0=some (.i a,[]):=by kernel_rfl):SI P n ops B k F h:=io (.i b) (.i a) (li (by rw [e])) H hk he
theorem dw (i:Nat) {T:List (Nat×List Nat)} {fuel:Nat} {done:List Nat} {a b:Nat} (e:a=b) (H:Xa P n ops B ((i,[])::T) fuel (done++[i]) (F.put (ZL ops i).dst (.i b)) h) (he:Qm P (ZL ops i) F h 0=some (.i a,[]):=by kernel_rfl) (hs:Region.noSelect ops=true:=by kernel_rfl) (hk:Xk n ops F i=true:=by kernel_rfl)
 (hf:Region.free .any ops (WT ops done) i=true:=by kernel_rfl) (hr:(Region.ready .any ops (WT ops done)).contains i=true:=by kernel_rfl):Xa P n ops B T (fuel+1) done F h:=dn i (.i b) (.i a) (li (by rw [e])) H he hs hk hf hr
end
end Go.Abs
namespace Go.Abs
section
variable {P:Program} {n:Nat} {ops:Array Oper} {B:Fr->List Res->Prop} {k:Nat} {F:Fr} {h:List Res}
variable {T:List (Nat × List Nat)} {fuel:Nat} {done:List Nat} {c:Code} {A:WW}
theorem Ze (hv:Option Value) (j:Int) (sz:Nat) {es:List AV} {y:AV} (hget:es[j.toNat]? = some y) (hi:C2 P ops F k=some (.sl es hv,j,sz):=by kernel_rfl) (h0:0<=j:=by omega) (hy:y.leaves.length=sz:=by rfl) :
  XS P (ZL ops k) F h [] (.rp y.leaves):=Ef hi h0 hget hy
def I3 (P:Program) (ops:Array Oper) (F:Fr) (h:List Res) (j k:Nat):Option (Nat × Nat × List AV):=
 match storeAt P ops F k,V4 [j] h with
 | some (b,o,xs),some [.obj b' ls]=>match Nat.ble (o+xs.length) ls.length with | true=>some (b,b',ls.take o++xs++ls.drop (o+xs.length)) | false=>none
 | _,_=>none
theorem Z2e {j k b:Nat} {l:List AV} (hs:I3 P ops F h j k=some (b,b,l)):∃o xs ls,storeAt P ops F k=some (b,o,xs)/\V4 [j] h=some [.obj b ls]/\Nat.ble (o+xs.length) ls.length=true/\ls.take o++xs++ls.drop (o+xs.length)=l:=by
 unfold I3 at hs
 split at hs
 ·rename_i b1 o xs b2 ls h1 h2
  split at hs
  ·rename_i h3
   cases hs
   exact ⟨o,xs,ls,h1,h2,h3,rfl⟩
  ·cases hs
 ·cases hs
theorem ZG (j b:Nat) (ls':List AV) (H:SI P n ops B (k+1) F (.obj b ls'::Wi [j] h)) (hk:Xk n ops F k=true:=by kernel_rfl) (hs:I3 P ops F h j k=some (b,b,ls'):=by kernel_rfl):SI P n ops B k F h:=
 let ⟨_,_,_,h1,h2,h3,h4⟩:=Z2e hs
 iS j b _ _ _ ls' H hk h1 h2 h3 h4
theorem X5 (i j:Nat) (js bs:List Nat) (b:Nat) (ls':List AV) (H:Xa P n ops B (T.filter fun t=>!Vs ops i t.1) fuel (done++[i]) F (.obj b ls'::Wi [j] h))
  (hk:Xk n ops F i=true:=by kernel_rfl) (hs:I3 P ops F h j i=some (b,b,ls'):=by kernel_rfl) (ho:UH ops i T=bs:=by kernel_rfl)
  (hj:js.map (fun q=>(V5 (Wi [j] h))[q]?)=bs.map some:=by kernel_rfl):U0 P n ops B T fuel done F h i:=
 let ⟨_,_,_,h1,h2,h3,h4⟩:=Z2e hs
 dS i j js bs b _ _ _ ls' H hk h1 h2 h3 h4 ho hj
theorem ZC (q:Nat) (H:SI P n ops B (k+1) (F.put (ZL ops k).dst (.i (q+1:Nat))) h) (hb:-9223372036854775808<=((q+1:Nat):Int)/\((q+1:Nat):Int)<=9223372036854775807:=by omega)
  (hk:Xk n ops F k=true:=by kernel_rfl) (ha:A8 ops F k=some ((q:Int)+1):=by kernel_rfl):SI P n ops B k F h:=ia ((q+1:Nat):Int) ((q:Int)+1) H hb om hk ha
theorem Zw (is:List Nat) {f:FuncId} {xs:List AV} {h1 h2:List Res} {r0:AV} (H:V1 P f xs h1 (fun r h=>r=r0/\h=h2)) (hK:SI P n ops B (k+1) (F.put (ZL ops k).dst r0) (h2++Wi is h))
  (hk:Xk n ops F k=true:=by kernel_rfl) (hc:Af P ops F k=some (f,xs):=by kernel_rfl) (hp:V4 is h=some h1:=by kernel_rfl):SI P n ops B k F h:=
 ic is H (fun r h' hr=>by obtain ⟨rfl,rfl⟩:=hr;exact hK) hk hc hp
theorem YD (i:Nat) (is js bs:List Nat) {f:FuncId} {xs:List AV} {h1 h2:List Res} {r0:AV} (H:V1 P f xs h1 (fun r h=>r=r0/\h=h2))
  (hK:Xa P n ops B (T.filter fun t=>!Vs ops i t.1) fuel (done++[i]) (F.put (ZL ops i).dst r0) (h2++Wi is h))
  (hk:Xk n ops F i=true:=by kernel_rfl) (hc:Af P ops F i=some (f,xs):=by kernel_rfl)
  (hp:V4 is h=some h1:=by kernel_rfl) (ho:UH ops i T=bs:=by kernel_rfl) (hj:js.map (fun j=>(V5 (Wi is h))[j]?)=bs.map some:=by kernel_rfl):U0 P n ops B T fuel done F h i:=
 dc i is js bs H (fun r h' hr=>by obtain ⟨rfl,rfl⟩:=hr;exact hK) hk hc hp ho hj
theorem Wt (p:Prop) [Decidable p] (h1:p->Yw P n (YO c) A F h) (h2:¬p->Yw P n (U2 c) A F h) (hk:Xc c=4:=by kernel_rfl) (hc:F.ev (B3 c)=.val (.bool (decide p)):=by kernel_rfl):Yw P n c A F h:=
 ac (decide p) decide_eq_true_iff h1 h2 hk hc
theorem ZY (H:Yw P n (U2 c) A (qF P n (XI (YO c)) h 0 ((XI (YO c)).size-0) F []) h) (hk:Xc c=3:=by kernel_rfl) (hk1:Xc (YO c)=1:=by kernel_rfl)
  (he:qA P n (XI (YO c)) h 0 ((XI (YO c)).size-0) F []=qB P n (XI (YO c)) h 0 ((XI (YO c)).size-0) F []:=by kernel_rfl):Yw P n c A F h:=ar (Z1 H he) hk hk1
theorem Bd (hints:List Nat) (H:Yw P n (U2 c) A (qF P n (XI (YO c)) h 0 ((XI (YO c)).size-0) F hints) h) (hk:Xc c=3:=by kernel_rfl) (hk1:Xc (YO c)=1:=by kernel_rfl)
  (he:qA P n (XI (YO c)) h 0 ((XI (YO c)).size-0) F hints=qB P n (XI (YO c)) h 0 ((XI (YO c)).size-0) F hints:=by kernel_rfl):Yw P n c A F h:=ar (Vb hints H he) hk hk1
theorem Vv (H:A .normal (qF P n (XI c) h 0 ((XI c).size-0) F []) h) (hk:Xc c=1:=by kernel_rfl) (he:qA P n (XI c) h 0 ((XI c).size-0) F []=qB P n (XI c) h 0 ((XI c).size-0) F []:=by kernel_rfl):Yw P n c A F h:=az (Z1 H he) hk
theorem ZX (m:Nat) (H:SI P n (XI (YO c)) (fun F h=>Yw P n (U2 c) A F h) (0+m) (qF P n (XI (YO c)) h 0 m F []) h) (hk:Xc c=3:=by kernel_rfl) (hk1:Xc (YO c)=1:=by kernel_rfl)
  (he:qA P n (XI (YO c)) h 0 m F []=qB P n (XI (YO c)) h 0 m F []:=by kernel_rfl):Yw P n c A F h:=ar (Z0 m H he) hk hk1
theorem Zq (m:Nat) (hints:List Nat) (H:SI P n (XI (YO c)) (fun F h=>Yw P n (U2 c) A F h) (0+m) (qF P n (XI (YO c)) h 0 m F hints) h) (hk:Xc c=3:=by kernel_rfl) (hk1:Xc (YO c)=1:=by kernel_rfl)
  (he:qA P n (XI (YO c)) h 0 m F hints=qB P n (XI (YO c)) h 0 m F hints:=by kernel_rfl):Yw P n c A F h:=ar (ZB m hints H he) hk hk1
theorem X6 (hs:SI P n (XI (YO (YO c))) (fun F h=>Yw P n (U2 (YO c)) (Cj P n (U2 c) A) F h) 0 F h) (hk:Xc c=3:=by kernel_rfl) (hk0:Xc (YO c)=3:=by kernel_rfl) (hk1:Xc (YO (YO c))=1:=by kernel_rfl):Yw P n c A F h:=
 aq (ar hs hk0 hk1) hk
theorem YR (m:Nat) (H:SI P n (XI (YO (YO c))) (fun F h=>Yw P n (U2 (YO c)) (Cj P n (U2 c) A) F h) (0+m) (qF P n (XI (YO (YO c))) h 0 m F []) h) (hk:Xc c=3:=by kernel_rfl) (hk0:Xc (YO c)=3:=by kernel_rfl) (hk1:Xc (YO (YO c))=1:=by kernel_rfl)
  (he:qA P n (XI (YO (YO c))) h 0 m F []=qB P n (XI (YO (YO c))) h 0 m F []:=by kernel_rfl):Yw P n c A F h:=X6 (Z0 m H he) hk hk0 hk1
theorem Yq (m:Nat) (hints:List Nat) (H:SI P n (XI (YO (YO c))) (fun F h=>Yw P n (U2 (YO c)) (Cj P n (U2 c) A) F h) (0+m) (qF P n (XI (YO (YO c))) h 0 m F hints) h) (hk:Xc c=3:=by kernel_rfl) (hk0:Xc (YO c)=3:=by kernel_rfl) (hk1:Xc (YO (YO c))=1:=by kernel_rfl)
  (he:qA P n (XI (YO (YO c))) h 0 m F hints=qB P n (XI (YO (YO c))) h 0 m F hints:=by kernel_rfl):Yw P n c A F h:=X6 (ZB m hints H he) hk hk0 hk1
theorem Y5 (H:Yw P n (U2 (YO c)) (Cj P n (U2 c) A) (qF P n (XI (YO (YO c))) h 0 ((XI (YO (YO c))).size-0) F []) h) (hk:Xc c=3:=by kernel_rfl) (hk0:Xc (YO c)=3:=by kernel_rfl) (hk1:Xc (YO (YO c))=1:=by kernel_rfl)
  (he:qA P n (XI (YO (YO c))) h 0 ((XI (YO (YO c))).size-0) F []=qB P n (XI (YO (YO c))) h 0 ((XI (YO (YO c))).size-0) F []:=by kernel_rfl):Yw P n c A F h:=aq (ZY H hk0 hk1 he) hk
theorem Zk (h0:A .ret (qF P n ops h k (ops.size-k) F []) h) (hk:Xc c=8:=by kernel_rfl) (he:qA P n ops h k (ops.size-k) F []=qB P n ops h k (ops.size-k) F []:=by kernel_rfl):SI P n ops (fun F h=>Yw P n c A F h) k F h:=Z1 (Yc h0 hk) he
theorem Y3 (p:Prop) [Decidable p] (h1:p->Yw P n (YO c) A (qF P n ops h k (ops.size-k) F []) h) (h2:¬p->Yw P n (U2 c) A (qF P n ops h k (ops.size-k) F []) h) (hk:Xc c=4:=by kernel_rfl)
  (hc:Fr.ev (qF P n ops h k (ops.size-k) F []) (B3 c)=.val (.bool (decide p)):=by kernel_rfl) (he:qA P n ops h k (ops.size-k) F []=qB P n ops h k (ops.size-k) F []:=by kernel_rfl):SI P n ops (fun F h=>Yw P n c A F h) k F h:=Z1 (Wt p h1 h2 hk hc) he
theorem YS (b:Bool) {p:Prop} (hp:b=true↔p) (h1:p->Yw P n (YO c) A (qF P n ops h k (ops.size-k) F []) h) (h2:¬p->Yw P n (U2 c) A (qF P n ops h k (ops.size-k) F []) h) (hk:Xc c=4:=by kernel_rfl)
  (hc:Fr.ev (qF P n ops h k (ops.size-k) F []) (B3 c)=.val (.bool b):=by kernel_rfl) (he:qA P n ops h k (ops.size-k) F []=qB P n ops h k (ops.size-k) F []:=by kernel_rfl):SI P n ops (fun F h=>Yw P n c A F h) k F h:=Z1 (ac b hp h1 h2 hk hc) he
end
abbrev Yt (x:AV):AV->List Res->Prop:=fun r h=>r=x/\h=[]
theorem Zt {α:Type} (xs:List α) (j:Nat) (h:j<xs.length):∃x,xs[j]? = some x:=BZ h
theorem I2 {P:Program} {F:Fr} {h:List Res} {fn:Func} {e:Exit} {r:AV} (he:(match e with|.normal|.ret=>true|_=>false)=true:=by kernel_rfl) (hr:Kk P F h fn.results.toList []=some ([r],[]):=by kernel_rfl) :
  BD P fn (fun r' h'=>r'=r/\h'=[]) e F h:=r1 [] ⟨rfl,rfl⟩ rfl he hr
theorem ZP {P:Program} {F:Fr} {h:List Res} {fn:Func} {e:Exit} {r:AV} (x:AV) (hle:Zl (Bp [x]) r) (he:(match e with|.normal|.ret=>true|_=>false)=true:=by kernel_rfl) (hr:Kk P F h fn.results.toList []=some ([x],[]):=by kernel_rfl) :
  BD P fn (fun r' h'=>r'=r/\h'=[]) e F h:=r2 [] [x] ⟨rfl,rfl⟩ hle rfl he hr
theorem ZI (k:Nat) {F F':Fr} {t:Nat} {y:Int} (hr:F.Le F') (hx:F.get t=.i (k+1:Nat):=by kernel_rfl) (e:((k+1:Nat):Int)=y:=by exact ob):F.Le ((t,.i y)::F'):=fc (li e) hr hx
theorem Ya {F F':Fr} {t:Nat} {y:Int} (hr:F.Le F') (hx:F.get t=.i 0:=by kernel_rfl) (e:0=y:=by exact ob):F.Le ((t,.i y)::F'):=fc (li e) hr hx
theorem Zj (x:Bool) {p:Prop} (q:p) {F F':Fr} {t:Nat} {y:Bool} (hr:F.Le F') (hx:F.get t=.b x:=by kernel_rfl) (e:p->x=y:=by intro q;simp only [q];rfl):F.Le ((t,.b y)::F'):=fc (lb (e q)) hr hx
theorem Zs {F F':Fr} {h h1 h':List Res} (m:Nat) (hF:F.Le F') (e:h1=h':=by exact rfl) (hp:V4 (List.replicate m 0) h=some h1:=by kernel_rfl):Tp F h F' h':=wk (List.replicate m 0) hF e hp
theorem ZM {α β:Type} {p q:α->β->Prop} {a:α} {b:β} (x:p a b) (y:q a b):∃a b,p a b/\q a b:=⟨a,b,x,y⟩
theorem ZE {α β:Type} {q:α->β->Prop} {m' m:Nat} {r:Nat->α->β->Prop} {a:α} {b:β} (x:r m' a b) (y:q a b) (e:m'<m:=by exact ob):∃m' a b,m'<m/\r m' a b/\q a b:=⟨m',a,b,e,x,y⟩
theorem ZD (m:Nat) {P:Program} {f:FuncId} {fn:Func} {xs:List AV} {h:List Res} {R:AV->List Res->Prop} (hf:P.funcs[f]? = some fn) (ha:Yw P m (Gq fn) (BD P fn R) (Cv 0 xs) h) (hb:fn.body.isSome=true:=by kernel_rfl) (hn:fn.ntmps=m:=by kernel_rfl)
  (hle:Nat.ble xs.length m=true:=by kernel_rfl):V1 P f xs h R:=enter hf hb hn hle ha
end Go.Abs
end
namespace Go.Abs
section
variable {P:Program} {n:Nat} {c:Code} {A:WW} {F:Fr} {h h2:List Res} {ops:Array Oper} {B:Fr->List Res->Prop} {k:Nat}
variable {T:List (Nat × List Nat)} {fuel:Nat} {done:List Nat}
theorem Eu (t j:Nat) {v:Hd} {xs:LI} (H:Yw P n c A ((t,Y6 xs v.v)::F) (.tail v.v 1::Wi [j] h)) (hF':F.get t=.h v:=by kernel_rfl) (hp:V4 [j] h=some [rV v xs]:=by kernel_rfl):Yw P n c A F h:=by
 intro w G a hF hh
 have hp':=Th (Uc hp)
 obtain ⟨G',h1,h2',h3⟩:=Zix (hh.perm hp') (Rz xs)
 have e:=h2'.perm hp'.symm (Jm _)
 have hF2:=hF.mono (e.agree hh)
 have hv:=hF2.get t
 rw [hF'] at hv
 have hv:=hv.val_inv
 refine wp_mono (H w G' a ⟨hF2.defers,hF2.size,fun s=>?_⟩ h1) fun e' a' w' hc=>hc.trans e
 show RV w G' (match Nat.beq t s with|true=>_|false=>Fr.get F s) _
 cases hb:Nat.beq t s with
 | true=>
  have:=T1 hb
  subst this
  rw [hv]
  exact h3
 | false=>exact hF2.get s
end
theorem ro {b:Nat} {ls ls':List AV} {t t':List Res} (h:ls=ls') (e:t=t'):Res.obj b ls::t=.obj b ls'::t':=h▸e▸rfl
section
variable {P:Program} {n:Nat} {F:Fr} {h:List Res} {ops:Array Oper} {B:Fr->List Res->Prop} {k:Nat}
variable {T:List (Nat × List Nat)} {fuel:Nat} {done:List Nat}
end
section
variable {P:Program} {n:Nat} {F:Fr} {h:List Res} {ops:Array Oper} {B:Fr->List Res->Prop} {k:Nat}
variable {T:List (Nat × List Nat)} {fuel:Nat} {done:List Nat}
theorem dK {c:Code} {A:WW} (K:Fr->List Res->Prop) (H:Xa P n ops (fun F h=>∃F' h',K F' h'/\Tp F h F' h') T fuel done F h) (hB:∀F' h',K F' h'->Yw P n c A F' h') :
  Xa P n ops (fun F h=>Yw P n c A F h) T fuel done F h:=by
 intro Q w G a SL hF hh hQ hcl hcov hk
 exact H Q w G a SL hF hh hQ hcl hcov fun F2 h2 G2 a2 w2 b1 b2 b3 b4=>let ⟨_,_,k1,k2⟩:=b1;hk F2 h2 G2 a2 w2 (Dl k2 (hB _ _ k1)) b2 b3 b4
theorem BM {c:Code} {A:WW} (K:Fr->List Res->Fr->List Res->Prop) (H:Xa P n ops (fun F1 h1=>∃F' h',K F h F' h'/\Tp F1 h1 F' h') T fuel done F h) (hB:∀F' h',K F h F' h'->Yw P n c A F' h') :
  Xa P n ops (fun F h=>Yw P n c A F h) T fuel done F h:=dK (K F h) H hB
theorem Uj (i j:Nat) (Hi:U0 P n ops B T fuel done F h i) (Hj:U0 P n ops B T fuel done F h j) (hr:Region.ready .any ops (WT ops done)=[i,j]:=by kernel_rfl):Xa P n ops B T (fuel+1) done F h:=
 O4 hr rfl fun q hq=>by
  rcases X0.1 hq with rfl|hq
  ·exact Hi
  ·rw [Xs.1 hq];exact Hj
def Dg (s:Int):Int:=IntKind.i64.wrap s
theorem Zi7 {s:Int} (ha:A8 ops F k=some s):XS P (ZL ops k) F h [] (.val (.int .i64 (Dg s))):=by
 unfold A8 at ha
 generalize hoo:ZL ops k=o at ha
 obtain ⟨dst,op,type,pos,after,guard⟩:=o
 cases op<;>simp only at ha<;>try (cases ha)
 rename_i bop xt x y yt
 split at ha
 ·rename_i a b h1 h2
  have key:∀v,EK bop .i64 a b=some (.int .i64 (IntKind.i64.wrap v))->v=s->XS P { dst:=dst,op:=.binOp bop xt x y yt,type:=type,pos:=pos,after:=after,guard:=guard } F h [] (.val (.int .i64 (Dg s))):=by
   intro v hv hvs
   have he:Qm P { dst:=dst,op:=.binOp bop xt x y yt,type:=type,pos:=pos,after:=after,guard:=guard } F h 0=some (.val (.int .i64 (IntKind.i64.wrap v)),[]):=by
    simp only [Qm,h1,h2,FI,hv]
   have:=DH he (by simp)
   rw [hvs] at this
   simpa [Dg] using this
  split at ha
  ·cases ha;exact key (a+b) rfl rfl
  ·cases ha;exact key (a-b) rfl rfl
  ·cases ha;exact key (a*b) rfl rfl
  ·cases ha
 ·cases ha
theorem iW (s:Int) (H:SI P n ops B (k+1) (F.put (ZL ops k).dst (.val (.int .i64 (Dg s)))) h) (hk:Xk n ops F k=true:=by kernel_rfl) (ha:A8 ops F k=some s:=by kernel_rfl):SI P n ops B k F h:=
 EV (ks:=[]) hk (Zi7 ha) H
end
theorem BE.mono {w:World} {G G':Yl} {v:Value} {k:Nat} {ls:List AV} (hA:VZ G w w G') (h:BE w G v k ls):BE w G' v k ls:=by
 rcases h with ⟨rfl,h0⟩|⟨g,len,cap,cur,el,rfl,h1,h2,h3,h4,h5⟩
 ·exact .inl ⟨rfl,h0⟩
 ·exact .inr ⟨g,len,cap,cur,el,rfl,h1,h2,h3,h4,h5.mono hA⟩
theorem QU.same {w:World} {G G':Yl} {r:Res} (hA:VZ G w w G') (h:QU w G r):QU w G' r:=by
 cases r with
 | obj b ls=>obtain ⟨cs,e,h1,h2⟩:=h;exact ⟨cs,e,h1,h2.mono hA⟩
 | tail v k=>exact h
 | ge s=>exact h
 | vec v ls=>
  rcases h with ⟨rfl,h0⟩|⟨g,cap,cur,el,rfl,h1,h2,h3,h4⟩
  ·exact .inl ⟨rfl,h0⟩
  ·exact .inr ⟨g,cap,cur,el,rfl,h1,h2,h3,h4.mono hA⟩
 | many ts=>exact h
 | own B m=>exact h
 | row v k ls=>exact h.mono hA
theorem YL.alloc_rrow {w:World} {G:Yl} {h:List Res} (hh:YL w G h) (cs:Array Value) (t:TypeId) {ls:List AV} {len cap k:Nat} (hcap:len<=cap) (Xo:cs.size=cap*k) (hl:ls.length=len*k)
  (hls:YT w G ls (cs.toList.take (len*k))) :
  YL (w.alloc (.cells cs t)) G (.row (.slice (some ⟨w.heap.size,0,none⟩) len cap) k ls::h)/\Xb w G h (w.alloc (.cells cs t)) G (.row (.slice (some ⟨w.heap.size,0,none⟩) len cap) k ls::h):=by
 have hA:VZ G w (w.alloc (.cells cs t)) G:=⟨fun b j hg=>Ez w _ (hh.lt b j hg),fun _ _ h=>h⟩
 refine hh.alloc (.cells cs t) (h':=[.row (.slice (some ⟨w.heap.size,0,none⟩) len cap) k ls]) (fun _ _ h=>h) (fun _ _ h=>.inl h) ?_ ?_ (Em _ _) ?_
 ·intro r hr
  rw [Xs.1 hr]
  exact .inr ⟨_,len,cap,cs,t,rfl,H0 w _,hcap,Xo,hl,hls.mono hA⟩
 ·intro r hr b j hf
  rw [Xs.1 hr] at hf
  exact hf
 ·intro r hr b j hf hg
  rw [Xs.1 hr] at hf
  have:=hh.lt b j hg
  have:b=w.heap.size:=hf
  omega
theorem YL.rwrite {w:World} {G:Yl} {h2:List Res} {g len cap k:Nat} {ls ls':List AV} (hh:YL w G (.row (.slice (some ⟨g,0,none⟩) len cap) k ls::h2)) {cs cs':Array Value} {e:TypeId}
  (hb:w.heap[g]? = some (.cells cs e (0,0))) (Xo:cs'.size=cs.size) (hle:len<=cap) (hcap:cs.size=cap*k) (hl:ls'.length=len*k) (hls:YT w G ls' (cs'.toList.take (len*k))) :
  YL (w.setRow g cs') G (.row (.slice (some ⟨g,0,none⟩) len cap) k ls'::h2) /\
   Xb w G (.row (.slice (some ⟨g,0,none⟩) len cap) k ls::h2) (w.setRow g cs') G (.row (.slice (some ⟨g,0,none⟩) len cap) k ls'::h2):=by
 have hmem:Res.row (.slice (some ⟨g,0,none⟩) len cap) k ls∈Res.row (.slice (some ⟨g,0,none⟩) len cap) k ls::h2:=Xf ..
 have hA:VZ G w (w.setRow g cs') G:=⟨fun c j hg=>by
  have hne:c≠g:=fun he=>hh.prot _ hmem c j he hg
  simp [World.cell?,VN w g c cs' hne],fun _ _ h=>h⟩
 have hpw:=Uh.1 hh.apart
 have hother:∀r∈h2,∀c j,r.fp c j->c≠g:=fun r hr c j hf hc=>hpw.1 r hr c j hc hf
 have e1:Xb w G [.row (.slice (some ⟨g,0,none⟩) len cap) k ls] (w.setRow g cs') G [.row (.slice (some ⟨g,0,none⟩) len cap) k ls']:=by
  refine ⟨rfl,rfl,rfl,by simp [World.setRow],fun _ _ h=>h,?_,fun _ _ _ h=>.inl h,?_⟩
  ·intro c hc
   by_cases hcb:c=g
   ·subst hcb
    exact .inr ⟨cs,cs',e,(0,0),hb,setRow_heap w c cs cs' e (0,0) hb,Xo,fun j hj=>absurd ⟨_,Xf ..,rfl⟩ hj⟩
   ·exact .inl (VN w g c cs' hcb)
  ·rintro c j _ ⟨r,hr,hf⟩
   rw [Xs.1 hr] at hf
   exact ⟨_,Xf ..,hf⟩
 have e2:YL (w.setRow g cs') G [.row (.slice (some ⟨g,0,none⟩) len cap) k ls']:=by
  refine ⟨fun r hr=>?_,Em _ _,fun r hr c j hf hg=>?_,fun c j hg=>?_⟩
  ·rw [Xs.1 hr]
   exact .inr ⟨g,len,cap,cs',e,rfl,setRow_heap w g cs cs' e (0,0) hb,hle,Xo.trans hcap,hl,hls.mono hA⟩
  ·rw [Xs.1 hr] at hf
   exact hh.prot _ hmem c j hf hg
  ·have:=hh.lt c j hg
   simpa [World.setRow] using this
 exact YL.frame (h:=[.row (.slice (some ⟨g,0,none⟩) len cap) k ls]) (k:=h2) hh e1 e2
theorem BE.form {w:World} {G:Yl} {v:Value} {k:Nat} {ls:List AV} (h:BE w G v k ls):∃a len cap,v=.slice a len cap/\ls.length=len*k:=by
 rcases h with ⟨rfl,rfl⟩|⟨g,len,cap,cur,e,rfl,_,_,_,h4,_⟩
 ·exact ⟨none,0,0,rfl,by simp⟩
 ·exact ⟨_,len,cap,rfl,h4⟩
theorem FE {w:World} {G:Yl} {v:Value} {k:Nat} {es:List AV} {h2:List Res} (hh:YL w G (.row v k (Zu es)::h2)) (hes:∀y∈es,y.leaves.length=k) (hk:0<k) :
  ∃G',YL w G' (.tail v k::h2)/\Xb w G (.row v k (Zu es)::h2) w G' (.tail v k::h2)/\RV w G' (.sl es (some v)) v:=by
 have hpw:=Uh.1 hh.apart
 have hfl:=TZ es hes
 rcases hh.ok _ (Xf ..) with ⟨rfl,h0⟩|⟨g,len,cap,cur,e,rfl,h1,h3,h4,h5,h6⟩
 ·have hes0:es=[]:=by
   cases es with
   | nil=>rfl
   | cons y r=>
    have h7:0<(r.length+1)*k:=Nat.mul_pos om hk
    rw [h0,Ys] at hfl
    rw [<-hfl] at h7
    simp at h7
  subst hes0
  obtain ⟨k1,k2⟩:=HZ (sz:=k) (hh.sub (Co _ _))
  refine ⟨G,k1,⟨rfl,rfl,rfl,X2 _,fun _ _ h=>h,fun _ _=>.inl rfl,fun _ _ _ h=>.inl h,?_⟩,.nil (by simp)⟩
  rintro b o _ ⟨r,hr,hf⟩
  rcases X0.1 hr with rfl|hr
  ·exact hf.elim
  ·exact ⟨r,Xr _ hr,hf⟩
 ·have hlen:len=es.length:=Ig hk (h5.symm.trans hfl)
  subst hlen
  let G':Yl:=fun b o=>G b o∨(b=g/\o<es.length*k)
  have hA:VZ G w w G':=⟨fun _ _ _=>rfl,fun _ _ h=>.inl h⟩
  have hmem:Res.row (.slice (some ⟨g,0,none⟩) es.length cap) k (Zu es)∈Res.row (.slice (some ⟨g,0,none⟩) es.length cap) k (Zu es)::h2:=Xf ..
  refine ⟨G',⟨fun r hr=>?_,Uh.2 ⟨fun r hr b o f1 f2=>hpw.1 r hr b o f1.1 f2,hpw.2⟩,fun r hr b o hf hg=>?_,fun b o hg=>?_⟩,
   ⟨rfl,rfl,rfl,X2 _,fun _ _ h=>.inl h,fun _ _=>.inl rfl,fun b o _ hg=>hg.imp id fun ⟨e1,_⟩=>⟨_,hmem,e1⟩,?_⟩,?_⟩
  ·rcases X0.1 hr with rfl|hr
   ·exact .inr ⟨g,es.length,cap,cur,e,rfl,h1,h3,h4⟩
   ·exact (hh.ok r (Xr _ hr)).same hA
  ·rcases X0.1 hr with rfl|hr2
   ·obtain ⟨hbg,hf2⟩:=hf
    rcases hg with hg|⟨_,hg⟩
    ·exact hh.prot _ hmem b o hbg hg
    ·omega
   ·rcases hg with hg|⟨hbg,_⟩
    ·exact hh.prot r (Xr _ hr2) b o hf hg
    ·exact hpw.1 r hr2 b o hbg hf
  ·rcases hg with hg|⟨rfl,_⟩
   ·exact hh.lt b o hg
   ·exact (UM.1 h1).1
  ·rintro b o _ ⟨r,hr,hf⟩
   rcases X0.1 hr with rfl|hr
   ·exact ⟨_,hmem,hf.1⟩
   ·exact ⟨r,Xr _ hr,hf⟩
  ·refine .sl (k:=k) (fun x hx=>by cases hx;rfl) h3 (Vg.of_flat es hes (Wu.of_cells (h6.mono hA) fun j u hj=>?_))
   have hjl:j<es.length*k:=by
    have:=(Xu.1 hj).1
    have h7:=h6.length
    omega
   rw [KR,Zf hjl] at hj
   refine ⟨?_,.inr ⟨rfl,by omega⟩⟩
   rw [Wj,cell_of_row w g j cur e (0,0) h1]
   simpa using hj
section
variable {P:Program} {n:Nat} {ops:Array Oper} {B:Fr->List Res->Prop} {k:Nat} {F:Fr} {h h2:List Res}
theorem Zhy (j:Nat) {v:Value} {kk m:Nat} {ls:List AV} (hl:DU P ops F k=some (.val v)) (hj:h[j]? = some (.row v kk ls)) (hm:ls.length=m*kk) (hk:0<kk):XS P (ZL ops k) F h [] (.val (.int .i64 m)):=by
 unfold DU at hl
 generalize hoo:ZL ops k=o at hl
 obtain ⟨dst,op,type,pos,after,guard⟩:=o
 cases op<;>simp only at hl<;>try (cases hl)
 rename_i c
 obtain ⟨callee,args,tys⟩:=c
 simp only at hl
 split at hl
 ·rename_i x t hargs htys
  split at hl
  ·rename_i el hu
   simp only [Wk] at hl
   intro n w G a hF hh
   have hv:=hF.ev x
   rw [hl] at hv
   have hv:=hv.val_inv
   obtain ⟨ad,len,cap,rfl,hlen⟩:=BE.form (hh.ok _ (Y4 hj))
   have:len=m:=Ig hk (hlen.symm.trans hm)
   subst this
   have e1:args=#[x]:=by rw [<-UZ (xs:=args),hargs]
   have e2:tys=#[t]:=by rw [<-UZ (xs:=tys),htys]
   subst e1;subst e2
   exact ⟨_,.val,fun w' _ _=>by simp [execOp,resolve,invoke,builtin,hv,Builtin.len_,U6 hu,goInt]⟩
  ·cases hl
 ·cases hl
def Mc (ops:Array Oper) (F:Fr) (k:Nat):Option (TypeId × AV):=
 match (ZL ops k).op with
 | .load t x=>some (t,F.ev x)
 | _=>none
theorem Zhz (j:Nat) {g len cap kk o:Nat} {ls zs:List AV} {t:TypeId} {y:AV} (hl:Mc ops F k=some (t,.val (.pointer (some ⟨g,o,none⟩)))) (hj:h[j]? = some (.row (.slice (some ⟨g,0,none⟩) len cap) kk ls))
  (hz:(ls.drop o).take zs.length=zs) (hy:Bk P t zs=some y):XS P (ZL ops k) F h [g] y:=by
 unfold Mc at hl
 generalize hoo:ZL ops k=q at hl
 obtain ⟨dst,op,type,pos,after,guard⟩:=q
 cases op<;>simp only at hl<;>try (cases hl)
 rename_i t' x
 intro n w G a hF hh
 simp only [Wk,Prod.mk.injEq] at hl
 obtain ⟨rfl,hl⟩:=hl
 have hv:=hF.ev x
 rw [hl] at hv
 have hv:=hv.val_inv
 rcases hh.ok _ (Y4 hj) with ⟨h0,_⟩|⟨g',len',cap',cur,e,h0,h1,h2,h3,h4,h5⟩
 ·cases h0
 ·cases h0
  have hc:=(h5.drop o).take zs.length
  rw [hz] at hc
  obtain ⟨v,j1,j2⟩:=HN (P:=P) (b:=g) (o:=o) hy hc
  refine ⟨v,j1,fun w' _ hw=>?_⟩
  have hrow:=hw g (by simp)
  rw [h1] at hrow
  simp only [execOp,hv]
  refine Vp ?_
  simp only [Instr.loadAt,Instr.sureAddr,Sem.run_bind,Sem.run_pure,Result.andThen_ok]
  refine j2 w' fun j u hj=>?_
  rw [cell_of_row w' g (o+j) cur e (0,0) hrow]
  rw [KR] at hj
  split at hj
  ·rw [List.getElem?_drop,KR] at hj
   split at hj
   ·simpa using hj
   ·cases hj
  ·cases hj
theorem Sj {K:Fr->List Res->Prop} {g len cap kk:Nat} {ls xs:List AV} {i:Nat} (hs:storeAt P ops F k=some (g,i,xs)) (hlt:i+xs.length<=ls.length)
  (hK:K F (.row (.slice (some ⟨g,0,none⟩) len cap) kk (ls.take i++xs++ls.drop (i+xs.length))::h2)):WO P n (ZL ops k) F (.row (.slice (some ⟨g,0,none⟩) len cap) kk ls::h2) K:=by
 unfold storeAt at hs
 generalize hoo:ZL ops k=q at hs
 obtain ⟨dst,op,type,pos,after,guard⟩:=q
 cases op<;>simp only at hs<;>try (cases hs)
 rename_i t x z
 split at hs
 ·rename_i b' o' inf hx hi
  split at hs
  ·rename_i hc
   simp only [X1] at hc
   simp only [Wk,Prod.mk.injEq] at hs
   obtain ⟨rfl,rfl,hz⟩:=hs
   intro Q w G a hF hh
   have hvx:=hF.ev x
   rw [hx] at hvx
   have hvx:=hvx.val_inv
   have hvy:=hF.ev z
   have hcs:=hvy.cells hc.2.1
   rw [hz] at hcs hc
   have hone:=hcs.one_cells hc.2.2
   have Xo:inf.size=xs.length:=T1 hc.1
   have hlen:(a.eval z).cells.size=xs.length:=by have:=hcs.length;simpa using this
   rcases hh.ok (.row (.slice (some ⟨b',0,none⟩) len cap) kk ls) (Xf ..) with ⟨h0,_⟩|⟨g',len',cap',cur,e,h0,h1,h2',h3,h4,h5⟩
   ·cases h0
   ·cases h0
    have hlc:len*kk<=cap*kk:=Jr _ h2'
    have hst:=run_storeCells_at P b' o' e (a.eval z).cells.toList 0 cur w h1 (by simp [hlen];omega) hone
    simp only [Cp,JZ] at hst
    have hr:(execOp a.eval { dst:=none,op:=.store t x z,type:=type,pos:=pos,after:=after,guard:=guard }).run P w =
      .ok .skip (w.setRow b' (cur.toList.take o'++(a.eval z).cells.toList++cur.toList.drop (o'+(a.eval z).cells.size)).toArray):=by
     simp only [execOp,hvx]
     simp [Instr.storeAt,Instr.sureAddr,storeVar,Qx hi,hlen,Xo,hst]
    unfold Oper.wp
    rw [hr]
    have hcl:(a.eval z).cells.toList.length=xs.length:=by simpa using hlen
    obtain ⟨j1,j2⟩:=hh.rwrite (ls':=ls.take o'++xs++ls.drop (o'+xs.length)) (cs':=(cur.toList.take o'++(a.eval z).cells.toList++cur.toList.drop (o'+(a.eval z).cells.size)).toArray) h1
     (by simp [hlen];omega) h2' h3 (by simp;omega) (by
      rw [G6,hlen]
      have e1:(cur.toList.take o'++(a.eval z).cells.toList++cur.toList.drop (o'+xs.length)).take (len*kk) =
        (cur.toList.take (len*kk)).take o'++(a.eval z).cells.toList++(cur.toList.take (len*kk)).drop (o'+xs.length):=by
       have q1:(cur.toList.take o'++(a.eval z).cells.toList).length=o'+xs.length:=by simp [hlen];omega
       rw [List.take_append,q1,U8 om,List.take_take,Qk om,List.drop_take]
      rw [e1]
      exact ((h5.take o').append hcs).append (h5.drop _))
    refine ⟨F,_,G,hK,?_,j1,j2⟩
    have:=hF.mono (j2.agree hh)
    simpa [Act.put] using this
  ·cases hs
 ·cases hs
theorem Zde {K:Fr->List Res->Prop} {sz:Nat} (hd:VR n (ZL ops k)=true) (ha:Tx P ops F k=some ([],0,sz))
  (hK:∀g,K (F.put (ZL ops k).dst (.val (.slice (some ⟨g,0,none⟩) 0 0))) (.row (.slice (some ⟨g,0,none⟩) 0 0) sz []::h)):WO P n (ZL ops k) F h K:=by
 unfold Tx at ha
 generalize hoo:ZL ops k=q at ha hd hK
 obtain ⟨dst,op,type,pos,after,guard⟩:=q
 cases op<;>simp only at ha<;>try (cases ha)
 rename_i t ln parts
 split at ha
 case h_2=>cases ha
 rename_i e ht
 split at ha
 case h_2=>cases ha
 rename_i i hi
 split at ha
 case h_2=>cases ha
 rename_i hc
 simp only [X1] at hc
 split at ha
 case h_2=>cases ha
 rename_i ls' hf
 simp only [Wk,Prod.mk.injEq] at ha
 obtain ⟨rfl,rfl,Xo⟩:=ha
 intro Q w G a hF hh
 obtain ⟨cs,h1,h2⟩:=HM hF parts ht hi rfl hc.1 hc.2 hf
 have hr:(execOp a.eval { dst:=dst,op:=.buildSlice t 0 parts,type:=type,pos:=pos,after:=after,guard:=guard }).run P w =
   .ok (.value (.slice (some ⟨w.heap.size,0,none⟩) 0 0)) (w.alloc (.cells cs e)):=by
  simp only [execOp]
  exact Vp h2
 unfold Oper.wp
 rw [hr]
 have hlc:=h1.length
 simp only [JZ] at hlc
 obtain ⟨j1,j2⟩:=hh.alloc_rrow cs e (ls:=[]) (len:=0) (cap:=0) (k:=sz) (X2 _) (by simpa using hlc) (by simp) (by simpa using YT.nil)
 exact ⟨_,_,G,hK _,(hF.mono (j2.agree hh)).put (TT hd) .val,j1,j2⟩
theorem Zdd {K:Fr->List Res->Prop} {g sz:Nat} {xs:List AV} {hx:Option Value} (hd:VR n (ZL ops k)=true) (ha:TS P ops F k=some (.val (.slice (some ⟨g,0,none⟩) 0 0),.sl xs hx,sz))
  (hxs:∀y∈xs,y.leaves.length=sz) (hbound:xs.length<=1099511627776)
  (hK:∀v:Hd,K (F.put (ZL ops k).dst (.val v.v)) (.row v.v sz (Zu xs)::h2)):WO P n (ZL ops k) F (.row (.slice (some ⟨g,0,none⟩) 0 0) sz []::h2) K:=by
 unfold TS at ha
 generalize hoo:ZL ops k=o at ha hd hK
 obtain ⟨dst,op,type,pos,after,guard⟩:=o
 cases op<;>simp only at ha<;>try (cases ha)
 rename_i c
 obtain ⟨callee,args,tys⟩:=c
 simp only at ha
 split at ha
 case h_2=>cases ha
 rename_i s x t t' hargs htys
 split at ha
 case h_2=>cases ha
 rename_i e htt ht
 have:=T1 htt
 subst this
 split at ha
 case h_2=>cases ha
 rename_i i hinfo
 split at ha
 case h_2=>cases ha
 rename_i z hz
 split at ha
 case h_2=>cases ha
 rename_i hb
 simp only [X1] at hb
 simp only [Wk,Prod.mk.injEq] at ha
 obtain ⟨h3,h4,hk1⟩:=ha
 have e1:args=#[s,x]:=by rw [<-UZ (xs:=args),hargs]
 have e2:tys=#[t,t]:=by rw [<-UZ (xs:=tys),htys]
 subst e1;subst e2
 have hzs:z.cells.size=sz:=by rw [T1 hb.1,hk1]
 have hby:=Vd hb.2
 intro Q w G a hF hh
 have v1:=hF.ev s
 have v2:=hF.ev x
 rw [h3] at v1
 rw [h4] at v2
 have v1:=v1.val_inv
 have v2:=v2.forget
 have finish:∀(v':Hd) w',(Builtin.append_ #[t,t] type #[.slice (some ⟨g,0,none⟩) 0 0,a.eval x]).run P w=.ok v'.v w'->YL w' G (.row v'.v sz (Zu xs)::h2) ->
   Xb w G (.row (.slice (some ⟨g,0,none⟩) 0 0) sz []::h2) w' G (.row v'.v sz (Zu xs)::h2) ->
   ({ dst:=dst,op:=.call { callee:=.builtin .append,args:=#[s,x],argTypes:=#[t,t] },type:=type,pos:=pos,after:=after,guard:=guard }:Oper).wp P a w
    (fun a' w'=>∃F' h' G',K F' h'/\FR w' G' n F' a'/\YL w' G' h'/\Xb w G (.row (.slice (some ⟨g,0,none⟩) 0 0) sz []::h2) w' G' h') Q:=by
  intro v' w' hr j1 j2
  have hrun:(execOp a.eval { dst:=dst,op:=.call { callee:=.builtin .append,args:=#[s,x],argTypes:=#[t,t] },type:=type,pos:=pos,after:=after,guard:=guard }).run P w=.ok (.value v'.v) w':=by
   simp only [execOp,resolve,invoke,builtin,Sem.run_bind,Sem.run_pure,Result.andThen_ok,G4,Tm,G3,v1,hr]
  unfold Oper.wp
  rw [hrun]
  exact ⟨_,_,G,hK v',(hF.mono (j2.agree hh)).put (TT hd) .val,j1,j2⟩
 by_cases hxe:xs=[]
 ·subst hxe
  cases v2q:a.eval x with
  | slice ad' l' c'=>
   rw [v2q] at v2
   cases v2<;>exact finish ⟨some ⟨g,0,none⟩,0,0⟩ _ (by rw [v2q];exact E9 ht hinfo (X2 _) w) hh (Xb.refl w G _)
  | _=>rw [v2q] at v2;cases v2
 ·generalize hax:a.eval x=ax at v2 finish
  cases v2 with
  | nil _=>exact absurd rfl hxe
  | sl hq hcc hm=>
   rename_i b o' k' c
   have hpos:0<xs.length:=El.2 hxe
   have hfm:=hm.flat_mem
   obtain ⟨news,hn,hnc⟩:=hfm.cells
   have hfl:=TZ xs hxs
   have hnl:news.length=xs.length*i.size:=by rw [hn.length,hfl,hk1]
   have hnews:∀j u,news[j]? = some u->w.cell? ((⟨b,o',none⟩:Addr).add j)=some u:=fun j u hj=>by rw [Jt];exact (hnc j u hj).1
   have hbb:(0+xs.length)*i.bytes<=140737488355328:=by
    have:=Nat.mul_le_mul hbound hby
    rw [Wj]
    omega
   have hr:=run_append_grow (P:=P) w t type e i z ht hinfo hz ⟨g,0,none⟩ 0 0 [] (by simp) (fun j u hj=>by simp at hj) ⟨b,o',none⟩ xs.length c news hnl hnews om om (growslice_fits om hbb)
   simp only [Wj] at hr
   have Xh:=grownCap_ge w xs.length 0 e
   obtain ⟨j1,j2⟩:=hh.drew.alloc_rrow ([].toArray++news.toArray++Builtin.zeroCells z.cells (grownCap w xs.length 0 e-xs.length)) e
    (ls:=Zu xs) (len:=xs.length) (cap:=grownCap w xs.length 0 e) (k:=sz) Xh
    (by
     have q2:(grownCap w xs.length 0 e-xs.length)*sz=grownCap w xs.length 0 e*sz-xs.length*sz:=Nat.sub_mul ..
     have q3:xs.length*sz<=grownCap w xs.length 0 e*sz:=Jr _ Xh
     simp only [Array.size_append,G5,size_zeroCells,hzs,YF,Wj,hnl,hk1]
     omega) hfl
    (by
     have q1:([].toArray++news.toArray++Builtin.zeroCells z.cells (grownCap w xs.length 0 e-xs.length)).toList.take (xs.length*sz)=news:=by
      simp only [Ie,Jq]
      rw [<-hk1,<-hnl]
      exact Bx
     rw [q1]
     exact hn.mono (BG w G))
   have hs:List.Sublist (.row (.slice (some ⟨w.drew.heap.size,0,none⟩) xs.length (grownCap w xs.length 0 e)) sz (Zu xs)::h2)
     (.row (.slice (some ⟨w.drew.heap.size,0,none⟩) xs.length (grownCap w xs.length 0 e)) sz (Zu xs)::.row (.slice (some ⟨g,0,none⟩) 0 0) sz []::h2):=List.Sublist.cons_cons _ (Co _ _)
   exact finish ⟨some ⟨w.heap.size,0,none⟩,xs.length,grownCap w xs.length 0 e⟩ _ hr (j1.sub hs) ((Xb.drew w G _).trans (j2.sub' hs))
def Mg (P:Program) (ops:Array Oper) (F:Fr) (k:Nat):Option (Int × Int × List AV):=
 match (ZL ops k).op with
 | .makeSlice t l c=>match P.underlying t with
  | some (.slice e)=>match P.info? e with
   | some i=>match i.zero with
    | some z=>match Nat.beq i.size z.cells.toList.length&&Nat.ble i.bytes 32768,F.ev l,F.ev c with
     | true,.val (.int _ l),.val (.int _ c)=>some (l,c,z.cells.toList.map AV.ofVal)
     | _,_,_=>none
    | none=>none
   | none=>none
  | _=>none
 | _=>none
theorem RS (zs:List Value) (hz:0<zs.length):∀n:Nat,(madeCells zs.toArray (n*zs.length)).toList=(List.replicate n zs).flatten
 | 0=>by simp [madeCells]
 | n+1=>by
  have ih:=RS zs hz n
  have hlen:∀m,(madeCells zs.toArray m).toList.length=m:=fun m=>by simp [madeCells]
  have hget:∀m i,i<m->(madeCells zs.toArray m).toList[i]? = some (zs.toArray[i % zs.toArray.size]!):=fun m i hi=>by simp [madeCells,hi]
  rw [List.replicate_succ',List.flatten_append,<-ih]
  apply List.ext_getElem?
  intro i
  simp only [List.flatten_cons,List.flatten_nil,UN]
  by_cases h1:i<n*zs.length
  ·rw [A1 (by rw [hlen];exact h1),hget _ i h1,hget _ i (by rw [TN];omega)]
  ·rw [Ek (by rw [hlen];omega),hlen]
   by_cases h2:i<(n+1)*zs.length
   ·rw [hget _ i h2]
    rw [TN] at h2
    have e:i=(i-n*zs.length)+zs.length*n:=by rw [Nat.mul_comm zs.length n];omega
    have e2:i % zs.length=i-n*zs.length:=by
     conv=>lhs;rw [e,Nat.add_mul_mod_self_left]
     exact Nat.mod_eq_of_lt om
    have h3:i-n*zs.length<zs.length:=by omega
    simp [e2,h3]
   ·rw [Jn (by rw [hlen];omega),Jn (by rw [TN] at h2;omega)]
theorem SO {w:World} {G:Yl} {xs:List AV} {vs:List Value} (h:YT w G xs vs):∀n,YT w G (List.replicate n xs).flatten (List.replicate n vs).flatten
 | 0=>by simpa using YT.nil
 | n+1=>by simp only [En,List.flatten_cons];exact h.append (SO h n)
theorem SN {w:World} {G:Yl}:∀vs:List Value,YT w G (vs.map AV.ofVal) vs
 | []=>.nil
 | v::r=>.cons (RV.ofVal v) (SN r)
theorem Zdf {K:Fr->List Res->Prop} {l:Nat} {zs:List AV} (hd:VR n (ZL ops k)=true) (hm:Mg P ops F k=some ((l:Int),(l:Int),zs)) (hl:l<=4294967296) (hz:0<zs.length)
  (hK:∀g,K (F.put (ZL ops k).dst (.val (.slice (some ⟨g,0,none⟩) l l))) (.row (.slice (some ⟨g,0,none⟩) l l) zs.length (List.replicate l zs).flatten::h)):WO P n (ZL ops k) F h K:=by
 unfold Mg at hm
 generalize hoo:ZL ops k=o at hm hd hK
 obtain ⟨dst,op,type,pos,after,guard⟩:=o
 cases op<;>simp only at hm<;>try (cases hm)
 rename_i t lo co
 split at hm
 case h_2=>cases hm
 rename_i e ht
 split at hm
 case h_2=>cases hm
 rename_i i hi
 split at hm
 case h_2=>cases hm
 rename_i z hzz
 split at hm
 case h_2=>cases hm
 rename_i k1 l' k2 c' hb hlo hco
 simp only [X1] at hb
 simp only [Wk,Prod.mk.injEq] at hm
 obtain ⟨rfl,rfl,rfl⟩:=hm
 intro Q w G a hF hh
 have v1:=hF.ev lo
 have v2:=hF.ev co
 rw [hlo] at v1
 rw [hco] at v2
 have v1:=v1.val_inv
 have v2:=v2.val_inv
 have hs:=T1 hb.1
 have hbytes:=Vd hb.2
 have hr:=run_make (P:=P) w t e i z ht hi hzz k1 k2 (l:Int) (l:Int) om om (by
  have h1:(i.bytes:Int)<=32768:=by omega
  have h2:(i.bytes:Int)*(l:Int)<=32768*(l:Int):=Int.mul_le_mul_of_nonneg_right h1 om
  omega) om
 have hzl:(z.cells.toList.map AV.ofVal).length=z.cells.toList.length:=by simp
 have hr2:(execOp a.eval { dst:=dst,op:=.makeSlice t lo co,type:=type,pos:=pos,after:=after,guard:=guard }).run P w =
   .ok (.value (.slice (some ⟨w.heap.size,0,none⟩) l l)) (w.alloc (.cells (madeCells z.cells (l*i.size)) e)):=by
  simp only [execOp,v1,v2]
  simpa using Vp hr
 unfold Oper.wp
 rw [hr2]
 have hmc:(madeCells z.cells (l*i.size)).toList=(List.replicate l z.cells.toList).flatten:=by
  rw [hs,<-RS _ (by rw [hzl] at hz;exact hz) l]
 rw [hzl] at hK
 obtain ⟨j1,j2⟩:=hh.alloc_rrow (madeCells z.cells (l*i.size)) e (ls:=(List.replicate l (z.cells.toList.map AV.ofVal)).flatten) (len:=l) (cap:=l) (k:=z.cells.toList.length) (X2 _)
  (by rw [size_madeCells,hs]) (by simp) (by
   rw [hmc,U8 (by simp)]
   exact SO (SN _) l)
 exact ⟨_,_,G,hK _,(hF.mono (j2.agree hh)).put (TT hd) .val,j1,j2⟩
theorem Mz {w:World} {G:Yl} {v:Hd} {kk m:Nat} {ls:List AV} (h:BE w G v.v kk ls) (hm:ls.length=m*kk) (hk:0<kk) (h0:0<m):∃g c,v=⟨some ⟨g,0,none⟩,m,c⟩:=by
 obtain ⟨a,l,c⟩:=v
 rcases h with ⟨h1,h2⟩|⟨g,len,cap,cur,e,h1,h2,h3,h4,h5,h6⟩
 ·subst h2
  have:=Nat.mul_pos h0 hk
  rw [YF] at hm
  omega
 ·cases h1
  have:l=m:=Ig hk (h5.symm.trans hm)
  subst this
  exact ⟨g,c,rfl⟩
theorem Z3g (j m:Nat) {v:Hd} {kk:Nat} {ls:List AV} {c:Code} {A:WW} (hj:h[j]? = some (.row v.v kk ls)) (hm:ls.length=m*kk) (hk:0<kk) (h0:0<m)
  (H:∀g c',v=⟨some ⟨g,0,none⟩,m,c'⟩->Yw P n c A F h):Yw P n c A F h:=by
 intro w G a hF hh
 obtain ⟨g,c',e⟩:=Mz (hh.ok _ (Y4 hj)) hm hk h0
 exact H g c' e w G a hF hh
theorem Z3f (t j:Nat) {v:Hd} {kk:Nat} {es:List AV} {c:Code} {A:WW} (hF':F.get t=.h v) (hp:V4 [j] h=some [.row v.v kk (Zu es)]) (hes:∀y∈es,y.leaves.length=kk) (hk:0<kk)
  (H:Yw P n c A ((t,.sl es (some v.v))::F) (.tail v.v kk::Wi [j] h)):Yw P n c A F h:=by
 intro w G a hF hh
 have hp':=Th (Uc hp)
 obtain ⟨G',h1,h2',h3⟩:=FE (hh.perm hp') hes hk
 have e:=h2'.perm hp'.symm (Jm _)
 have hF2:=hF.mono (e.agree hh)
 have hv:=hF2.get t
 rw [hF'] at hv
 have hv:=hv.val_inv
 refine wp_mono (H w G' a ⟨hF2.defers,hF2.size,fun s=>?_⟩ h1) fun e' a' w' hc=>hc.trans e
 show RV w G' (match Nat.beq t s with|true=>_|false=>Fr.get F s) _
 cases hb:Nat.beq t s with
 | true=>
  have:=T1 hb
  subst this
  rw [hv]
  exact h3
 | false=>exact hF2.get s
end
end Go.Abs
section
namespace Go.Abs
structure Z2z where
 fields:LI
 fv:Value
structure Nh where
 frm:Int
 to_:Int
 cons:List Z2z
 cv:Value
mutual
inductive Im where
 | mk (op num into:Int) (args:LI) (av:Value) (kids:List Gc) (kv:Value)
inductive Gc where
 | mk (steps:List Im) (sv:Value) (result:Int)
end
namespace Im
end Im
namespace Gc
end Gc
structure Z33 where
 params:LI
 pv:Value
 lent:LI
 lv:Value
 result:Int
 body:Gc
structure Z31 where
 decls:List Nh
 dv:Value
 routines:List Z33
 rv:Value
inductive Ik:List AV->List AV->Prop
 | nil:Ik [] []
 | cons {x y:AV} {xs ys:List AV} (hl:x.leaves.length=y.leaves.length) (h:TD x.leaves y.leaves) (t:Ik xs ys):Ik (x::xs) (y::ys)
theorem JN {es:List AV} {k:Nat} (h:es.all (fun y=>Nat.beq y.leaves.length k)=true):∀y∈es,y.leaves.length=k:=fun y hy=>T1 (A0.1 h y hy)
abbrev rK (g:Hd) (k:Nat) (ls:List AV):Res:=.row g.v k ls
section
variable {P:Program} {n:Nat} {c:Code} {A:WW} {F:Fr} {h:List Res} {ops:Array Oper} {B:Fr->List Res->Prop} {k:Nat}
variable {T:List (Nat × List Nat)} {fuel:Nat} {done:List Nat}
theorem rr {v:Value} {q:Nat} {ls ls':List AV} {t t':List Res} (h:ls=ls') (e:t=t'):Res.row v q ls::t=.row v q ls'::t':=h▸e▸rfl
theorem Rr (j m:Nat) (v:Hd) (kk:Nat) (ls:List AV) (hm:ls.length=m*kk) (hk:0<kk:=by omega) (hl:DU P ops F k=some (.h v):=by kernel_rfl) (hj:h[j]? = some (rK v kk ls):=by kernel_rfl):XS P (ZL ops k) F h [] (.i m):=
 Zhy j hl hj hm hk
theorem Vk (b l c' q sz:Nat) (j:Int) (hq:j=(q:Int)/\q<l:=by omega) (hi:C2 P ops F k=some (.val (.slice (some ⟨b,0,none⟩) l c'),j,sz):=by kernel_rfl):XS P (ZL ops k) F h [] (.val (.pointer (some ⟨b,q*sz,none⟩))):=by
 have:=Z23 (P:=P) (F:=F) (h:=h) hi om om
 rw [hq.1,T0,Wj] at this
 exact this
theorem Ul (j g len cap kk o:Nat) (ls zs:List AV) (t:TypeId) (y:AV) (hz:(ls.drop o).take zs.length=zs) (hl:Mc ops F k=some (t,.val (.pointer (some ⟨g,o,none⟩))):=by kernel_rfl) (hj:h[j]? = some (.row (.slice (some ⟨g,0,none⟩) len cap) kk ls):=by kernel_rfl)
  (hy:Bk P t zs=some y:=by kernel_rfl):XS P (ZL ops k) F h [g] y:=Zhz j hl hj hz hy
theorem PW (j g len cap kk o:Nat) (xs ls:List AV) (ls':List AV) (hlt:o+xs.length<=ls.length) (he:ls.take o++xs++ls.drop (o+xs.length)=ls') (H:SI P n ops B (k+1) F (.row (.slice (some ⟨g,0,none⟩) len cap) kk ls'::Wi [j] h)) (hk:Xk n ops F k=true:=by kernel_rfl)
  (hs:storeAt P ops F k=some (g,o,xs):=by kernel_rfl) (hp:V4 [j] h=some [.row (.slice (some ⟨g,0,none⟩) len cap) kk ls]:=by kernel_rfl):SI P n ops B k F h:=
 QG hk (WO.perm (Th (Uc hp)) (Sj hs hlt (by rw [he];exact H)))
theorem EA (i j:Nat) (js bs:List Nat) (g len cap kk o:Nat) (xs ls:List AV) (ls':List AV) (hlt:o+xs.length<=ls.length) (he:ls.take o++xs++ls.drop (o+xs.length)=ls')
  (H:Xa P n ops B (T.filter fun t=>!Vs ops i t.1) fuel (done++[i]) F (.row (.slice (some ⟨g,0,none⟩) len cap) kk ls'::Wi [j] h)) (hk:Xk n ops F i=true:=by kernel_rfl)
  (hs:storeAt P ops F i=some (g,o,xs):=by kernel_rfl) (hp:V4 [j] h=some [.row (.slice (some ⟨g,0,none⟩) len cap) kk ls]:=by kernel_rfl) (ho:UH ops i T=bs:=by kernel_rfl)
  (hj:js.map (fun q=>(V5 (Wi [j] h))[q]?)=bs.map some:=by kernel_rfl):U0 P n ops B T fuel done F h i:=
 Aj [j] js bs hk (Uc hp) ho hj (Sj (h2:=[]) hs hlt (by rw [he];exact H))
theorem LS (sz:Nat) (hK:∀g,SI P n ops B (k+1) (F.put (ZL ops k).dst (.val (.slice (some ⟨g,0,none⟩) 0 0))) (.row (.slice (some ⟨g,0,none⟩) 0 0) sz []::h)) (hk:Xk n ops F k=true:=by kernel_rfl)
  (ha:Tx P ops F k=some ([],0,sz):=by kernel_rfl):SI P n ops B k F h:=QG hk (Zde (UI hk).2.1 ha hK)
theorem iKC (j g sz:Nat) (xs:List AV) (hx:Option Value) (hxs:∀y∈xs,y.leaves.length=sz) (hbound:xs.length<=1099511627776) (hK:∀v:Hd,SI P n ops B (k+1) (F.put (ZL ops k).dst (.h v)) (rK v sz (Zu xs)::Wi [j] h))
  (hk:Xk n ops F k=true:=by kernel_rfl) (ha:TS P ops F k=some (.val (.slice (some ⟨g,0,none⟩) 0 0),.sl xs hx,sz):=by kernel_rfl) (hp:V4 [j] h=some [.row (.slice (some ⟨g,0,none⟩) 0 0) sz []]:=by kernel_rfl):SI P n ops B k F h:=
 QG hk (WO.perm (Th (Uc hp)) (Zdd (UI hk).2.1 ha hxs hbound hK))
theorem Rq (j m:Nat) {v:Hd} {kk:Nat} {ls:List AV} (hm:ls.length=m*kk) (h0:0<m) (H:∀g c',v=⟨some ⟨g,0,none⟩,m,c'⟩->Yw P n c A F h) (hk:0<kk:=by omega) (hj:h[j]? = some (rK v kk ls):=by kernel_rfl):Yw P n c A F h:=
 Z3g j m hj hm hk h0 H
theorem Zbm (t j:Nat) {v:Hd} {kk:Nat} (es:List AV) (hes:∀y∈es,y.leaves.length=kk) (H:Yw P n c A ((t,.sl es (some v.v))::F) (.tail v.v kk::Wi [j] h)) (hk:0<kk:=by omega) (hF':F.get t=.h v:=by kernel_rfl)
  (hp:V4 [j] h=some [rK v kk (Zu es)]:=by kernel_rfl):Yw P n c A F h:=Z3f t j hF' hp hes hk H
theorem MA {A xs ys B:List AV} {o:Nat} (hA:A.length=o) (hl:xs.length=ys.length):(A++(xs++B)).take o++ys++(A++(xs++B)).drop (o+ys.length)=A++(ys++B):=by
 subst hA
 rw [Bx,<-hl,<-List.drop_drop,List.drop_left,List.drop_left,XM]
theorem Z0j {A xs B:List AV} {o:Nat} (hA:A.length=o):((A++(xs++B)).drop o).take xs.length=xs:=by
 subst hA
 rw [List.drop_left,Bx]
theorem As (xs ys:List AV):Zu (xs++ys)=Zu xs++Zu ys:=by simp [Zu]
theorem Z2c (j:Nat) (v:Value) (q:Nat) (ls ls':List AV) (e:ls=ls') (hp:V4 [j] h=some [.row v q ls]:=by kernel_rfl):A6 h (.row v q ls'::Wi [j] h):=by
 subst e
 intro w G hh
 have hp':=Th (Uc hp)
 exact ⟨G,hh.perm hp',(Xb.refl w G h).perm (Jm _) hp'⟩
end
end Go.Abs
end
