/-
  A part of the proofs of several laws (see the last file): no condition.
-/
import Derived.Test.YtlcniflebhfdpaaGreatYcC
import Derived.Maps.OwnSet
import Derived.Lib.SlKeysI
import Derived.CallsIn
set_option linter.all false
set_option linter.unusedVariables false
set_option linter.unusedSimpArgs false
set_option linter.unusedSectionVars false
set_option maxRecDepth 10000
set_option maxHeartbeats 4000000
section
namespace Go.Abs
open Go.Maps
open Go.WideElems (Fit rd rg pl rd_val elemAt)
theorem LD {z:Int} (hz:-9223372036854775808<=z/\z<=9223372036854775807):(Lit.int .i64 z).wf=true:=by
 have m1:IntKind.i64.min=-9223372036854775808:=rfl
 have m2:IntKind.i64.max=9223372036854775807:=rfl
 show (decide (IntKind.i64.min<=z)&&decide (z<=IntKind.i64.max))=true
 rw [m1,m2,Xv,decide_eq_true_eq,decide_eq_true_eq];exact hz
def Xa:List (Int × Int)->Int->Int
 | [],_=>0
 | p::r,v=>(if p.1=v then p.2 else 0)+Xa r v
theorem Fe:∀(L M:List (Int × Int)) (v:Int),Xa (L++M) v=Xa L v+Xa M v
 | [],M,v=>by show Xa M v=0+Xa M v;omega
 | p::r,M,v=>by rw [Ku,Xa,Xa,Fe r];omega
def DR (D:DataW Unit) (L:List (Int × Int)):Prop:=
 (∀v,D.atKey (.int .i64 v) (.lit (.int .i64 0))=.lit (.int .i64 (Xa L v)))/\(∀v,has D (.int .i64 v)=true↔∃p∈L,p.1=v)
theorem DR.nil:DR (.map []) []:=⟨fun v=>rfl,fun v=>⟨fun h=>by simp [has_eq] at h,fun ⟨p,hp,_⟩=>by cases hp⟩⟩
theorem OI {a b:Int} (h:a≠b):Lit.int .i64 a≠Lit.int .i64 b:=fun e=>by cases e;exact h rfl
theorem DR.snoc {D:DataW Unit} {L:List (Int × Int)} (h:DR D L) (hm:IsMap D) (v d:Int):DR (D.put (.int .i64 v) (.lit (.int .i64 (Xa L v+d)))) (L++[(v,d)]):=by
 have hk:WideAt.IsKeyLit (.int .i64 v):=by first|exact trivial|exact .inl ⟨_,_,rfl⟩|simp [WideAt.IsKeyLit]
 constructor
 ·intro x
  by_cases e:x=v
  ·subst e
   rw [atKey_put_same hm hk,Fe]
   show _=DataW.lit (.int .i64 (Xa L x+((if x=x then d else 0)+0)))
   rw [Z6 rfl,Int.add_zero]
  ·rw [atKey_put_other (OI e),h.1,Fe]
   show _=DataW.lit (.int .i64 (Xa L x+((if v=x then d else 0)+0)))
   rw [Z4 (fun q=>e q.symm),Int.add_zero,Int.add_zero]
 ·intro x
  by_cases e:x=v
  ·subst e
   rw [has_put_same hm hk]
   exact ⟨fun _=>⟨(x,d),List.mem_append_right _ (YL.2 rfl),rfl⟩,fun _=>rfl⟩
  ·rw [has_put_other (OI e),h.2]
   constructor
   ·rintro ⟨p,hp,q⟩;exact ⟨p,List.mem_append_left _ hp,q⟩
   ·rintro ⟨p,hp,q⟩
    rcases Yz.1 hp with hp|hp
    ·exact ⟨p,hp,q⟩
    ·rw [YL.1 hp] at q;exact absurd q.symm e
def MQ (P:Program) (kt et:TypeId) (L:List (Int × Int)):Array MapEntry->Nat->Prop:=fun es c=>
 Fit P kt (plainElem (H:=Unit) P et) es c/\es.size<=L.length/\DR (.map ((es.toList.map (rg P kt (plainElem P et))).foldr DataW.insert [])) L
abbrev rM (P:Program) (b:Nat) (kt et:TypeId) (L:List (Int × Int)):Res:=.mp b (MQ P kt et L)
abbrev vM (b:Nat):AV:=.val (.map (some b))
theorem Fd {P:Program} {w:World} {G:ZE} {b:Nat} {kt et:TypeId} {L:List (Int × Int)}:UD w G (rM P b kt et L)↔∃D,w.ownsMap P kt (plainElem P et) b L.length D/\DR D L:=
 ⟨fun ⟨es,c,h1,h2,h3,h4⟩=>⟨_,⟨es,c,h1,h2,h3,rfl⟩,h4⟩,fun ⟨D,⟨es,c,h1,h2,h3,h5⟩,h4⟩=>⟨es,c,h1,h2,h3,h5▸h4⟩⟩
theorem ZZ.mapTo {w w':World} {G:ZE} {b:Nat} {Q Q':Array MapEntry->Nat->Prop} {h2:List Res} (hh:ZZ w G (.mp b Q::h2)) (hg:w.grownBy w' (some b)) (h':UD w' G (.mp b Q')) :
  ZZ w' G (.mp b Q'::h2)/\Yu w G (.mp b Q::h2) w' G (.mp b Q'::h2):=by
 have hh1:ZZ w G ([.mp b Q]++h2):=hh
 have hl:=hh1.left
 refine hh1.frame (h':=[.mp b Q']) ⟨hg.os,hg.tape,hg.output,hg.size,fun _ _ h=>h,fun c hc=>?_,fun _ _ _ h=>.inl h,fun c o _ ⟨r,hr,hf⟩=>?_⟩ ⟨fun r hr=>?_,Kw _ _,fun r hr c o hf hg2=>?_,fun c o hg2=>Bv (hh.lt c o hg2) hg.size⟩
 ·by_cases e:c=b
  ·subst e
   obtain ⟨es,q,k1,_⟩:=hh.ok (.mp c Q) (YY ..)
   obtain ⟨es',q',k2,_⟩:=h'
   exact .inr (.inr ⟨es,q,es',q',k1,k2,⟨_,YY ..,rfl⟩⟩)
  ·exact .inl (hg.block c hc (fun z=>e (Tn z)))
 ·rw [YL.1 hr] at hf
  exact ⟨.mp b Q,YY ..,hf⟩
 ·rw [YL.1 hr];exact h'
 ·rw [YL.1 hr] at hf
  exact hl.prot (.mp b Q) (YY ..) c o hf hg2
theorem ZZ.alloc_map {w:World} {G:ZE} {h:List Res} (hh:ZZ w G h) {Q:Array MapEntry->Nat->Prop} (hq:Q #[] 0) :
  ZZ (w.alloc (.map #[] 0)) G (.mp w.heap.size Q::h)/\Yu w G h (w.alloc (.map #[] 0)) G (.mp w.heap.size Q::h):=by
 refine hh.alloc (.map #[] 0) (h':=[.mp w.heap.size Q]) (fun _ _ h=>h) (fun _ _ h=>.inl h) ?_ ?_ (Kw _ _) ?_
 ·intro r hr
  rw [YL.1 hr]
  exact ⟨_,_,Al w _,hq⟩
 ·intro r hr b j hf
  rw [YL.1 hr] at hf
  exact hf
 ·intro r hr b j hf hg
  rw [YL.1 hr] at hf
  have:=hh.lt b j hg
  have hf:b=w.heap.size:=hf
  omega
section
variable {P:Program} {n:Nat} {ops:Array Oper} {B:Fr->List Res->Prop} {k:Nat} {F:Fr} {h h2:List Res}
variable {T:List (Nat × List Nat)} {fuel:Nat} {done:List Nat}
def Fa (P:Program) (t kt et:TypeId):Bool:=
 match P.underlying t with
 | some (.map a b)=>Nat.beq a kt&&Nat.beq b et&&(match P.underlying kt with | some (.int .i64)=>true | _=>false)&&(match P.underlying et with | some (.int .i64)=>true | _=>false)&&(match P.info? et with | some i=>(match i.zero with | some (.int .i64 0)=>true | _=>false) | none=>false)
 | _=>false
structure SX (P:Program) (t kt et:TypeId):Prop where
 m:P.underlying t=some (.map kt et)
 k:P.underlying kt=some (.int .i64)
 e:P.underlying et=some (.int .i64)
 z:∀w,(zeroValue et).run P w=.ok (.int .i64 0) w
theorem Pb {t kt et:TypeId} (h:Fa P t kt et=true):SX P t kt et:=by
 unfold Fa at h
 split at h
 ·rename_i a b ht
  simp only [Xv] at h
  obtain ⟨⟨⟨⟨h1,h2⟩,h3⟩,h4⟩,h5⟩:=h
  have h1:=Ub h1
  have h2:=Ub h2
  subst h1 h2
  split at h3
  ·rename_i hk
   split at h4
   ·rename_i he
    split at h5
    ·rename_i i hi
     split at h5
     ·rename_i hz
      exact ⟨ht,hk,he,fun w=>by simp [zeroValue,Do hi,hz]⟩
     ·cases h5
    ·cases h5
   ·cases h4
  ·cases h3
 ·cases h
def If (ops:Array Oper) (k:Nat):Bool:=match (Zl ops k).op with|.makeMap _ none=>true|_=>false
theorem Za2 {K:Fr->List Res->Prop} (kt et:TypeId) (hd:Vc n (Zl ops k)=true) (ha:If ops k=true)
  (hK:∀b,K (F.put (Zl ops k).dst (vM b)) (rM P b kt et []::h)):XY P n (Zl ops k) F h K:=by
 unfold If at ha
 generalize hoo:Zl ops k=o at ha hd hK
 obtain ⟨dst,op,type,pos,after,guard⟩:=o
 cases op<;>simp only at ha<;>try (cases ha)
 rename_i t r
 cases r with
 | some r=>simp at ha
 | none=>
  intro Q w G a hF hh
  have hr:(execOp a.eval { dst:=dst,op:=.makeMap t none,type:=type,pos:=pos,after:=after,guard:=guard }).run P w=.ok (.value (.map (some w.heap.size))) (w.alloc (.map #[] 0)):=by
   simp only [execOp]
   simp [Instr.makeMap]
  unfold Oper.wp
  rw [hr]
  have hq:MQ P kt et [] #[] 0:=by
   obtain ⟨es,c,h1,h2,h3,h4⟩:=World.ownsMap_made (H:=Unit) w P kt (plainElem P et)
   have h1':=(Al w (.map #[] 0)).symm.trans h1
   cases h1'
   exact ⟨h2,TT _,DR.nil⟩
  obtain ⟨j1,j2⟩:=hh.alloc_map hq
  exact ⟨_,_,G,hK _,(hF.mono (j2.agree hh)).put (UH hd) .val,j1,j2⟩
def I8 (P:Program) (ops:Array Oper) (F:Fr) (k:Nat) (kt et:TypeId):Option (AV × AV):=match (Zl ops k).op with
 | .lookup t m x false=>if Fa P t kt et then some (F.ev m,F.ev x) else none
 | _=>none
theorem Zdr (j b:Nat) (kt et:TypeId) (L:List (Int × Int)) (z:Int) (hl:I8 P ops F k kt et=some (vM b,.i z)) (hj:h[j]? = some (rM P b kt et L)) (hz:-9223372036854775808<=z/\z<=9223372036854775807) :
  Xb P (Zl ops k) F h [b] (.i (Xa L z)):=by
 unfold I8 at hl
 generalize hoo:Zl ops k=o at hl
 obtain ⟨dst,op,type,pos,after,guard⟩:=o
 cases op<;>simp only at hl<;>try (cases hl)
 rename_i t m x c
 cases c with
 | true=>simp at hl
 | false=>
  simp only at hl
  split at hl
  ·rename_i hm
   have hm:=Pb hm
   simp only [Xr,Prod.mk.injEq] at hl
   obtain ⟨l1,l2⟩:=hl
   intro n w G a hF hh
   have v1:=hF.ev m
   have v2:=hF.ev x
   rw [l1] at v1
   rw [l2] at v2
   have v1:=v1.val_inv
   have v2:=v2.val_inv
   refine ⟨_,.val,fun w' _ hw=>?_⟩
   have hb:=hw b (YL.2 rfl)
   obtain ⟨D,⟨es,cl,o1,o2,o3,o4⟩,hD⟩:=Fd.1 (hh.ok _ (YF hj))
   have hown:w'.ownsMap P kt (plainElem P et) b L.length D:=⟨es,cl,hb.trans o1,o2,o3,o4⟩
   have hwf:=LD hz
   obtain ⟨v,q1,q2,_⟩:=hown.lookup_int (int_keyed hm.k) hm.m hm.e (hm.z w') (keyOf_int_mk hm.k hwf)
   rw [hD.1] at q2
   have q2:Xa L z=v:=by simpa using q2
   simp only [execOp,v1,v2]
   refine Vi ?_
   rw [q1,q2]
  ·cases hl
def Ih (P:Program) (ops:Array Oper) (F:Fr) (k:Nat) (kt et:TypeId):Option (AV × AV × AV):=match (Zl ops k).op with
 | .mapUpdate t m x v=>if Fa P t kt et then some (F.ev m,F.ev x,F.ev v) else none
 | _=>none
theorem Za3 {K:Fr->List Res->Prop} (b:Nat) (kt et:TypeId) (L:List (Int × Int)) (z d y:Int) (hdst:(Zl ops k).dst=none) (hl:Ih P ops F k kt et=some (vM b,.i z,.i y)) (hy:y=Xa L z+d)
  (hz:-9223372036854775808<=z/\z<=9223372036854775807) (hv:-9223372036854775808<=y/\y<=9223372036854775807) (hL:L.length<=4294967296)
  (hK:K F (rM P b kt et (L++[(z,d)])::h2)):XY P n (Zl ops k) F (rM P b kt et L::h2) K:=by
 unfold Ih at hl
 generalize hoo:Zl ops k=o at hl hdst
 obtain ⟨dst,op,type,pos,after,guard⟩:=o
 simp only at hdst
 subst hdst
 cases op<;>simp only at hl<;>try (cases hl)
 rename_i t m x v
 split at hl
 ·rename_i hm
  have hm:=Pb hm
  simp only [Xr,Prod.mk.injEq] at hl
  obtain ⟨l1,l2,l3⟩:=hl
  intro Q w G a hF hh
  have v1:=hF.ev m
  have v2:=hF.ev x
  have v3:=hF.ev v
  rw [l1] at v1
  rw [l2] at v2
  rw [l3] at v3
  have v1:=v1.val_inv
  have v2:=v2.val_inv
  have v3:=v3.val_inv
  obtain ⟨D,hown,hD⟩:=Fd.1 (hh.ok _ (YY ..))
  have hwf:=LD hz
  have hwy:=LD hv
  obtain ⟨w',q1,q2,q3⟩:=hown.update (int_keyed hm.k) hm.m (by simp only [maxLen];omega) (keyOf_int_mk hm.k hwf) (plainElem_int hm.e hwy)
  have hr:(execOp a.eval { dst:=none,op:=.mapUpdate t m x v,type:=type,pos:=pos,after:=after,guard:=guard }).run P w=.ok .skip w':=by
   simp only [execOp,v1,v2,v3]
   simp [q1]
  have hD2:DR (D.put (.int .i64 z) (.lit (.int .i64 y))) (L++[(z,d)]):=by rw [hy];exact hD.snoc hown.isMap z d
  have hro:UD w' G (rM P b kt et (L++[(z,d)])):=Fd.2 ⟨_,by rw [YE];exact q2,hD2⟩
  obtain ⟨j1,j2⟩:=hh.mapTo q3 hro
  unfold Oper.wp
  rw [hr]
  exact ⟨_,_,G,hK,by simpa [Act.put] using hF.mono (j2.agree hh),j1,j2⟩
 ·cases hl
def GS (P:Program) (ops:Array Oper) (F:Fr) (k:Nat):Option AV:=match (Zl ops k).op with
 | .call c=>match c.callee,c.args.toList,c.argTypes.toList with
  | .builtin .clear,[x],[t]=>(match P.underlying t with | some (.map _ _)=>some (F.ev x) | _=>none)
  | _,_,_=>none
 | _=>none
theorem Z9z {K:Fr->List Res->Prop} (b:Nat) (kt et:TypeId) (L:List (Int × Int)) (hdst:(Zl ops k).dst=none) (hl:GS P ops F k=some (vM b))
  (hK:K F (rM P b kt et []::h2)):XY P n (Zl ops k) F (rM P b kt et L::h2) K:=by
 unfold GS at hl
 generalize hoo:Zl ops k=o at hl hdst
 obtain ⟨dst,op,type,pos,after,guard⟩:=o
 simp only at hdst
 subst hdst
 cases op<;>simp only at hl<;>try (cases hl)
 rename_i c
 obtain ⟨callee,args,tys⟩:=c
 simp only at hl
 split at hl
 case h_2=>cases hl
 rename_i x t hargs htys
 split at hl
 case h_2=>cases hl
 rename_i ka ea ht
 simp only [Xr] at hl
 have e1:args=#[x]:=by rw [<-VR (xs:=args),hargs]
 have e2:tys=#[t]:=by rw [<-VR (xs:=tys),htys]
 subst e1 e2
 intro Q w G a hF hh
 have v1:=hF.ev x
 rw [hl] at v1
 have v1:=v1.val_inv
 obtain ⟨es,cl,o1,o2⟩:=hh.ok (rM P b kt et L) (YY ..)
 have hr:(Builtin.clear_ #[t] type #[.map (some b)]).run P w=.ok (.tuple #[]) (ChangeMaps.setBlock w b (.map #[] cl)):=by
  simp [Builtin.clear_,Vw ht,MapKept.run_getObj_map o1,MapKept.run_setObj_map _ o1,Result.andThen,ChangeMaps.setBlock]
 have hr2:(execOp a.eval { dst:=none,op:=.call { callee:=.builtin .clear,args:=#[x],argTypes:=#[t] },type:=type,pos:=pos,after:=after,guard:=guard }).run P w=.ok (.value (.tuple #[])) (ChangeMaps.setBlock w b (.map #[] cl)):=by
  simp only [execOp,resolve,invoke,builtin,Sem.run_bind,Sem.run_pure,Result.andThen_ok,Br,WC,QV,v1,hr]
 have hg:w.grownBy (ChangeMaps.setBlock w b (.map #[] cl)) (some b):=⟨rfl,rfl,rfl,by simp [ChangeMaps.setBlock],fun i _ hi=>ChangeMaps.heap_setBlock_other o1 _ (fun e=>hi (by rw [e]))⟩
 have hro:UD (ChangeMaps.setBlock w b (.map #[] cl)) G (rM P b kt et []):=⟨#[],cl,ChangeMaps.heap_setBlock_same o1 _,⟨by simp,MapKept.stamped_empty cl,by simp⟩,TT _,DR.nil⟩
 obtain ⟨j1,j2⟩:=hh.mapTo hg hro
 unfold Oper.wp
 rw [hr2]
 exact ⟨_,_,G,hK,by simpa [Act.put] using hF.mono (j2.agree hh),j1,j2⟩
def Pj (ops:Array Oper) (F:Fr) (k:Nat):Option AV:=match (Zl ops k).op with
 | .unOp .neg _ x=>some (F.ev x)
 | _=>none
theorem Z7u (z:Int) (hz:-9223372036854775807<=z/\z<=9223372036854775807) (hl:Pj ops F k=some (.i z):=by kernel_rfl):Xb P (Zl ops k) F h [] (.i (-z)):=by
 unfold Pj at hl
 generalize hoo:Zl ops k=o at hl
 obtain ⟨dst,op,type,pos,after,guard⟩:=o
 cases op<;>simp only at hl<;>try (cases hl)
 rename_i u t x
 cases u<;>simp only at hl<;>try (cases hl)
 simp only [Xr] at hl
 intro n w G a hF hh
 have v1:=hF.ev x
 rw [hl] at v1
 have v1:=v1.val_inv
 refine ⟨_,.val,fun w' _ _=>?_⟩
 simp only [execOp,v1]
 refine Vi ?_
 simp only [Op.unary,Op.intArith,Sem.run_pure]
 have hw:IntKind.i64.wrap (0-z)=-z:=by rw [IntKind.wrap_i64];omega
 rw [hw]
theorem iMk (kt et:TypeId) (hK:∀b,SI P n ops B (k+1) (F.put (Zl ops k).dst (vM b)) (rM P b kt et []::h)) (hk:YI n ops F k=true:=by kernel_rfl) (ha:If ops k=true:=by kernel_rfl):SI P n ops B k F h:=
 Uv hk (Za2 kt et (VQ hk).2.1 ha hK)
theorem EV (j b:Nat) (kt et:TypeId) (L:List (Int × Int)) (z:Int) (hz:-9223372036854775808<=z/\z<=9223372036854775807) (hl:I8 P ops F k kt et=some (vM b,.i z):=by kernel_rfl) (hj:h[j]? = some (rM P b kt et L):=by kernel_rfl) :
  Xb P (Zl ops k) F h [b] (.i (Xa L z)):=Zdr j b kt et L z hl hj hz
theorem Na (i j:Nat) (js bs:List Nat) (b:Nat) (kt et:TypeId) (L:List (Int × Int)) (z d y:Int) (hy:y=Xa L z+d) (hz:-9223372036854775808<=z/\z<=9223372036854775807) (hv:-9223372036854775808<=y/\y<=9223372036854775807) (hL:L.length<=4294967296)
  (hK:Yx P n ops B (T.filter fun t=>!Vb ops i t.1) fuel (done++[i]) F (rM P b kt et (L++[(z,d)])::XK [j] h)) (hk:YI n ops F i=true:=by kernel_rfl) (hdst:(Zl ops i).dst=none:=by kernel_rfl) (hl:Ih P ops F i kt et=some (vM b,.i z,.i y):=by kernel_rfl) (hp:Wt [j] h=some [rM P b kt et L]:=by kernel_rfl)
  (ho:Ux ops i T=bs:=by kernel_rfl) (hj:js.map (fun q=>(WH (XK [j] h))[q]?)=bs.map some:=by kernel_rfl):VH P n ops B T fuel done F h i:=
 J6 [j] js bs hk (Vu hp) ho hj (Za3 (h2:=[]) b kt et L z d y hdst hl hy hz hv hL hK)
theorem iCl (j b:Nat) (kt et:TypeId) (L:List (Int × Int)) (hK:SI P n ops B (k+1) F (rM P b kt et []::XK [j] h)) (hk:YI n ops F k=true:=by kernel_rfl) (hdst:(Zl ops k).dst=none:=by kernel_rfl) (hl:GS P ops F k=some (vM b):=by kernel_rfl) (hp:Wt [j] h=some [rM P b kt et L]:=by kernel_rfl):SI P n ops B k F h:=
 Uv hk (XY.perm (Uj (Vu hp)) (Z9z b kt et L hdst hl hK))
end
end Go.Abs
end
namespace Go.Abs
def ev (s:Z7):Int × Int:=(gI s.args 0,if s.op=14 then 1 else -1)
def evs (rn:List Z7):List (Int × Int):=rn.map ev
def Au (acc:LI) (L:List (Int × Int)):LI:=L.foldl (fun a p=>VU a p.1) acc
def YU (L:List (Int × Int)):LI:=Au [] L
theorem Z9g (L:List (Int × Int)) (p:Int × Int):YU (L++[p])=VU (YU L) p.1:=by rw [YU,Au,List.foldl_append];rfl
theorem Pg:∀(L:List (Int × Int)) {acc:LI},A1 acc->A1 (Au acc L)
 | [],acc,h=>h
 | p::r,acc,h=>Pg r (acc:=VU acc p.1) (Ov h)
theorem Fc (L:List (Int × Int)):A1 (YU L):=Pg L List.Pairwise.nil
theorem Pi:∀(L:List (Int × Int)) {acc:LI} {v:Int},v∈Au acc L↔v∈acc∨∃p∈L,p.1=v
 | [],acc,v=>by simp [Au]
 | p::r,acc,v=>by
  have:=Pi r (acc:=VU acc p.1) (v:=v)
  show v∈Au (VU acc p.1) r↔_
  rw [this,HO]
  simp only [YA,exists_eq_or_imp]
  constructor
  ·rintro ((h|h)|h)
   ·exact .inl h
   ·exact .inr (.inl h.symm)
   ·exact .inr (.inr h)
  ·rintro (h|h|h)
   ·exact .inl (.inl h)
   ·exact .inl (.inr h.symm)
   ·exact .inr h
theorem Dc {L:List (Int × Int)} {v:Int}:v∈YU L↔∃p∈L,p.1=v:=by rw [YU,Pi];simp
theorem Ph:∀(L:List (Int × Int)) (acc:LI),(Au acc L).length<=acc.length+L.length
 | [],acc=>X1 _
 | p::r,acc=>by
  have h1:=Ph r (VU acc p.1)
  have h2:=Ow acc p.1
  show (Au (VU acc p.1) r).length<=_
  rw [XI];omega
theorem Ig (L:List (Int × Int)):(YU L).length<=L.length:=by have:=Ph L [];rw [YU];simpa using this
def Un (L:List (Int × Int)):Prop:=∀p∈L,p.2=1∨p.2=-1
def DW (z:Int):Nat:=z.toNat+(-z).toNat
def Jv:List (Int × Int)->Int->Nat
 | [],_=>0
 | p::r,v=>(if p.1=v then 1 else 0)+Jv r v
theorem Ii:∀{L:List (Int × Int)} (v:Int),Un L->DW (Xa L v)<=Jv L v
 | [],v,_=>X1 _
 | p::r,v,h=>by
  have h1:=Ii (L:=r) v fun q hq=>h q (Xy _ hq)
  have h2:=h p (YY ..)
  rw [Xa,Jv]
  unfold DW at h1 ⊢
  split<;>omega
theorem N2:∀(L:List (Int × Int)) (v:Int),Jv L v<=L.length
 | [],v=>X1 _
 | p::r,v=>by have:=N2 r v;rw [Jv,XI];split<;>omega
theorem C5 {L:List (Int × Int)} (v:Int) (h:Un L):-(L.length:Int)<=Xa L v/\Xa L v<=(L.length:Int):=by
 have h1:=Ii v h
 have h2:=N2 L v
 unfold DW at h1;omega
def UB (L:List (Int × Int)):LI->Nat
 | []=>0
 | v::r=>Jv L v+UB L r
theorem Sm:∀vs:LI,UB [] vs=0
 | []=>rfl
 | v::r=>by rw [UB,Jv,Sm r]
theorem Sn {p:Int × Int} {L:List (Int × Int)}:∀{vs:LI},p.1∉vs->UB (p::L) vs=UB L vs
 | [],_=>rfl
 | v::r,h=>by
  rw [UB,UB,Jv,Z4 (fun e=>h (by rw [e];exact YY ..)),Sn fun z=>h (Xy _ z),Vk]
theorem Sl {p:Int × Int} {L:List (Int × Int)}:∀{vs:LI},A1 vs->UB (p::L) vs<=1+UB L vs
 | [],_=>TT _
 | v::r,h=>by
  obtain ⟨h1,h2⟩:=Vr.1 h
  have ih:=Sl (p:=p) (L:=L) (vs:=r) h2
  rw [UB,UB,Jv]
  split
  ·rename_i e
   rw [Sn (p:=p) (L:=L) (vs:=r) (fun z=>by have:=h1 _ z;omega)];omega
  ·omega
theorem Lo:∀(L:List (Int × Int)) {vs:LI},A1 vs->UB L vs<=L.length
 | [],vs,_=>by rw [Sm];exact TT _
 | p::r,vs,h=>by have h1:=Lo r h;have h2:=Sl (p:=p) (L:=r) h;rw [XI];omega
theorem Sk (L:List (Int × Int)):∀(a b:LI),UB L (a++b)=UB L a+UB L b
 | [],b=>by rw [DN,UB,Vk]
 | v::r,b=>by rw [Ku,UB,UB,Sk L r];omega
theorem Ze9 (L:List (Int × Int)) (vs:LI) (k:Nat):UB L (vs.take k)<=UB L vs:=by
 have:=Sk L (vs.take k) (vs.drop k)
 rw [LK] at this;omega
def UI (L:List (Int × Int)) (vs:LI):LI:=vs.flatMap fun v=>List.replicate (Xa L v).toNat v
def Ts (L:List (Int × Int)) (vs:LI):LI:=vs.flatMap fun v=>List.replicate (-(Xa L v)).toNat v
theorem Ni {L:List (Int × Int)} {vs:LI} {k:Nat} {v:Int} (h:vs[k]? = some v):UI L (vs.take (k+1))=UI L (vs.take k)++List.replicate (Xa L v).toNat v:=by rw [WU h,UI,List.flatMap_append];simp [UI]
theorem Nh {L:List (Int × Int)} {vs:LI} {k:Nat} {v:Int} (h:vs[k]? = some v):Ts L (vs.take (k+1))=Ts L (vs.take k)++List.replicate (-(Xa L v)).toNat v:=by rw [WU h,Ts,List.flatMap_append];simp [Ts]
theorem H1 {L:List (Int × Int)} (h:Un L):∀vs:LI,(UI L vs).length+(Ts L vs).length<=UB L vs
 | []=>X1 _
 | v::r=>by
  have h1:=H1 h r
  have h2:=Ii v h
  unfold DW at h2
  rw [UB]
  simp only [UI,Ts,A0,YE,List.length_replicate] at h1 ⊢
  omega
theorem Af {L:List (Int × Int)} (h:Un L) (k:Nat):(UI L ((YU L).take k)).length+(Ts L ((YU L).take k)).length<=L.length:=by
 have h1:=H1 h ((YU L).take k)
 have h2:=Ze9 L (YU L) k
 have h3:=Lo L (Fc L)
 omega
theorem CI {L:List (Int × Int)} (h:Un L):(UI L (YU L)).length+(Ts L (YU L)).length<=L.length:=QW (H1 h _) (Lo L (Fc L))
def Vj (L:List (Int × Int)):List Z7:=(UI L (YU L)).map (XZ 14)++(Ts L (YU L)).map (XZ 15)
theorem Fv {L:List (Int × Int)} (h:Un L):(Vj L).length<=L.length:=by
 have:=CI h
 rw [Vj,YE,Um,Um];exact this
theorem Li (op:Int):∀l:LI,Y9 (l.map (XZ op))=2*l.length
 | []=>rfl
 | v::r=>by rw [WC,Y9,Li op r,XI];show 1+1+0+_=_;omega
theorem RA {L:List (Int × Int)} (h:Un L):Y9 (Vj L)<=2*L.length:=by
 have:=CI h
 rw [Vj,FD,Li,Li];omega
theorem Un.snoc {L:List (Int × Int)} (h:Un L) (s:Z7):Un (L++[ev s]):=fun p hp=>by
 rcases Yz.1 hp with hp|hp
 ·exact h p hp
 ·rw [YL.1 hp,ev];dsimp only;split
  ·exact .inl rfl
  ·exact .inr rfl
theorem Un.nil:Un []:=fun p hp=>by cases hp
theorem Un.evs (rn:List Z7):Un (evs rn):=fun p hp=>by
 obtain ⟨s,_,rfl⟩:=Xe.1 hp
 rw [ev];dsimp only;split
 ·exact .inl rfl
 ·exact .inr rfl
theorem NK (rn:List Z7) (s:Z7):evs (rn++[s])=evs rn++[ev s]:=by rw [evs,List.map_append];rfl
theorem CT (rn:List Z7):(evs rn).length=rn.length:=Um ..
theorem NL {rn:List Z7} {k:Nat} {s:Z7} (h:rn[k]? = some s):evs (rn.take (k+1))=evs (rn.take k)++[ev s]:=by rw [WU h,NK]
mutual
def TW:Z7->Z7
 | .mk op num into args kids=>.mk op num into args (UQ kids)
def UQ:List Zf->List Zf
 | []=>[]
 | b::r=>W9 b::UQ r
def WY:List Z7->List (Int × Int)->List Z7
 | [],L=>Vj L
 | s::r,L=>if s.op=14∨s.op=15 then WY r (L++[ev s]) else Vj L++TW s::WY r []
def W9:Zf->Zf
 | .mk steps res=>.mk (WY steps []) res
end
theorem GJ (s:Z7):TW s=.mk s.op s.num s.into s.args (UQ s.kids):=by cases s;rw [TW];rfl
theorem GH (b:Zf):W9 b=.mk (WY b.steps []) b.result:=by cases b;rw [W9];rfl
theorem E6:∀bs:List Zf,UQ bs=bs.map W9
 | []=>by rw [UQ];rfl
 | b::r=>by rw [UQ,E6 r];rfl
def U4 (r:Yy):Yy:=⟨r.params,r.lent,r.result,W9 r.body⟩
def Wr (n:Zj):Zj:=⟨n.decls,n.routines.map U4⟩
def XM (n:Zj):Zj × Bool:=if U2 n=true then (Wr n,true) else (Ff,false)
section
variable {ds:List Zg}
mutual
theorem Z24:∀s:Z7,wS ds s->(TW s).sz<=s.sz
 | .mk op num into args kids,h=>by
  rw [wS] at h
  have:=MI kids h.2.2.2
  rw [TW,Z7.sz,Z7.sz];omega
theorem MI:∀bs:List Zf,Ji ds bs->Xn (UQ bs)<=Xn bs
 | [],_=>by rw [UQ];exact X1 _
 | b::r,h=>by
  have h1:=GI b h.1
  have h2:=MI r h.2
  rw [UQ,Xn,Xn];omega
theorem E9:∀(xs:List Z7) {L:List (Int × Int)},KX ds xs->Un L->Y9 (WY xs L)<=Y9 xs+2*L.length
 | [],L,_,hu=>by rw [WY,Y9];have:=RA hu;omega
 | s::r,L,h,hu=>by
  rw [WY,Y9]
  split
  ·rename_i hp
   have h1:=E9 r (L:=L++[ev s]) h.2 (hu.snoc s)
   obtain ⟨_,hk,a,ha⟩:=Bl h.1 (by simp [YT];omega)
   have h2:=s.sz_eq
   rw [ha] at h2
   rw [YE] at h1
   simp only [XI,Vy] at h1 h2
   omega
  ·have h1:=E9 r (L:=[]) h.2 Un.nil
   have h2:=Z24 s h.1
   have h3:=RA hu
   rw [FD,Y9]
   simp only [Vy] at h1
   omega
theorem GI:∀b:Zf,wB ds b->(W9 b).sz<=b.sz
 | .mk steps res,h=>by
  rw [wB] at h
  have:=E9 steps (L:=[]) h Un.nil
  simp only [Vy] at this
  rw [W9,Zf.sz,Zf.sz];omega
end
end
theorem Ri {n:Zj}:∀rs:List Yy,(∀r∈rs,wB n.decls r.body)->Td (rs.map U4)<=Td rs
 | [],_=>by simp [Td]
 | r::rs,h=>by
  have h1:=Ri rs fun q hq=>h q (Xy _ hq)
  have h2:=GI r.body (h r (YY ..))
  rw [Zf.sz_cst,Zf.sz_cst] at h2
  rw [WC,Td,Td]
  have h3:VF (U4 r)=r.params.length+(r.lent.length+(W9 r.body).cst):=rfl
  have h4:VF r=r.params.length+(r.lent.length+r.body.cst):=rfl
  omega
theorem Z26 {n:Zj} (hz:WM n):Wo (XM n).1<=9*Wo n:=by
 unfold XM
 split
 ·rename_i hb
  obtain ⟨h1,_,h3⟩:=BB hz hb
  have h:=Ri n.routines (DH h1 hz h3)
  unfold Wo VY Wr
  simp only [Um]
  omega
 ·exact TT _
theorem GK {xs:List Z7} {k:Nat} {s:Z7} {L:List (Int × Int)} {acc T:List Z7} (h:xs[k]? = some s) (hp:s.op=14∨s.op=15) (ha:acc++WY (xs.drop k) L=T):acc++WY (xs.drop (k+1)) (L++[ev s])=T:=by
 rw [ZH h,WY,Z6 hp] at ha;exact ha
theorem MK {xs:List Z7} {k:Nat} {s:Z7} {L:List (Int × Int)} {acc T:List Z7} (h:xs[k]? = some s) (hp:¬(s.op=14∨s.op=15)) (ha:acc++WY (xs.drop k) L=T):((acc++Vj L)++[TW s])++WY (xs.drop (k+1)) []=T:=by
 rw [ZH h,WY,Z4 hp] at ha;rw [<-ha];simp
theorem MJ {xs:List Z7} {k:Nat} {L:List (Int × Int)} {acc T:List Z7} (h:xs.length<=k) (ha:acc++WY (xs.drop k) L=T):acc++Vj L=T:=by
 rw [YV h,WY] at ha;exact ha
theorem E8 {ds:List Zg} {xs:List Z7} (h:KX ds xs) {k:Nat} {L:List (Int × Int)} {acc:List Z7} (ha:acc++WY (xs.drop k) L=WY xs []):acc.length<=Y9 xs:=by
 have h1:=E9 xs (L:=[]) h Un.nil
 have h2:=FD (xs:=acc) (ys:=WY (xs.drop k) L)
 have h3:=OZ (xs:=acc)
 rw [ha] at h2
 simp only [Vy] at h1
 omega
theorem Z9i {rn:List Z7} {k:Nat} {s:Z7} {v:Int} (h:rn[k]? = some s):Xa (evs (rn.take (k+1))) v=Xa (evs (rn.take k)) v+(if gI s.args 0=v then (if s.op=14 then 1 else -1) else 0):=by
 rw [NL h,Fe]
 show _+((if gI s.args 0=v then (if s.op=14 then 1 else -1) else 0)+0)=_
 rw [Int.add_zero]
theorem Zav {z x:Int} (h:0<z):List.replicate z.toNat x=[x]++List.replicate (z-1).toNat x:=by
 rw [show z.toNat=(z-1).toNat+1 by omega,Bt];rfl
theorem Zau {y x:Int} (h:y<0):List.replicate (-y).toNat x=[x]++List.replicate (-(y+1)).toNat x:=by
 rw [show (-y).toNat=(-(y+1)).toNat+1 by omega,Bt];rfl
end Go.Abs
section
namespace Go.Proofs
open Go.RowKit Go.Maps Go.Sort Go.Shelf
theorem Tryz.sortsA (m:Nat):AnyZI.SortsIn Tryz.prog Tryz.sortedA_ren Fence.wide m:=
 ⟨fun blk off cap ss W hH hblk YH=>callsIn_wide.2 (AnyM.slices_Sort_int Tryz.sortA blk off cap ss W hH hblk YH),
  fun p cap W=>callsIn_wide.2 (AnyM.slices_Sort_int_none Tryz.sortA p cap W)⟩
theorem Tryz.keys_call (mb:Option Nat) (W:World):Calls Tryz.prog 103 #[.map mb] W fun e w'=>e=.returned (.func (.func 165) #[] #[.pointer (some ⟨W.heap.size,0,none⟩)])/\w'=W.alloc (.cells #[.map mb] 157):=
 (callsIn_wide (n:=5)).1 (AnyZI.keys_in Tryz.keysA Fence.wide 5 trivial rfl mb W)
theorem Tryz.sorted_call (c b nn:Nat) (D0:DataW Unit) (R:Value->Option (DataW Unit × List MemPlace)) (w:World) (hc:c<w.heap.size) (hcell:w.cell? ⟨c,0,none⟩=some (.map (some b))) (hown:w.ownsMap Tryz.prog 3 R b nn D0) (hmax:Maps.size D0<=maxLen) (hbytes:Maps.size D0*8<=140737488355328) :
  Calls Tryz.prog 102 #[.func (.func 165) #[] #[.pointer (some ⟨c,0,none⟩)]] w fun e w'=>∃(v:Value) (ss:LI),e=.returned v/\ss.Perm (intKeys D0) /\
   w'.ownsRow w.heap.size 3 1 v ss.length ((ss.mergeSort (fun x y=>decide (x<=y))).map encZ)/\(v=.slice none 0 0↔ss=[])/\Below w.heap.size w w':=by
 have hseq:SeqGives Fence.wide 2 Tryz.prog 165 #[.pointer (some ⟨c,0,none⟩)] encZ (fun ss=>ss.Perm (intKeys D0)) (Maps.size D0) w:=
  AnyZI.keys_gives (ρ:=Tryz.keysA_ren) { Tryz.keysA with } Fence.wide _ trivial rfl om c b nn D0 w hc hcell hown
 have cS:=AnyZI.sorted_in Tryz.sortedA Fence.wide 5 trivial trivial trivial trivial rfl om (Tryz.sortsA _) (enters_of Tryz.func164 kr rfl) 165 #[.pointer (some ⟨c,0,none⟩)] trivial (enters_of Tryz.func165 kr rfl) _ _ hmax hbytes _ hseq
 exact (callsIn_wide (n:=5)).1 cS
end Go.Proofs
namespace Go.Abs
open Go.Proofs Go.RowKit Go.Maps Go.Sort
theorem PX:∀{w:World} {G:ZE} (ys:LI),Yc w G (Zk ys) (ys.map encZ)
 | _,_,[]=>.nil
 | _,_,_::r=>.cons .val (PX r)
theorem Z95 (b:Nat):Wj Tryz.prog 103 [vM b] [] (fun r h=>∃c,r=.val (.func (.func 165) #[] #[.pointer (some ⟨c,0,none⟩)])/\h=[.obj c [vM b]]):=by
 intro w G vs hv hh
 obtain ⟨u,rfl,hu⟩:∃u,vs=[u]/\RV w G (vM b) u:=by
  cases hv with
  | cons h1 t=>cases t;exact ⟨_,rfl,h1⟩
 have hu:=hu.val_inv
 subst hu
 refine (Tryz.keys_call (some b) w).mono ?_
 rintro e w' ⟨rfl,rfl⟩
 obtain ⟨j1,j2⟩:=hh.alloc_obj #[.map (some b)] 157 (ls:=[vM b]) (.cons .val .nil)
 exact ⟨_,_,_,G,rfl,⟨_,rfl,rfl⟩,.val,j1,j2⟩
theorem Z9f {P:Program} {w:World} {b nn kt et:Nat} {D:DataW Unit} {L:List (Int × Int)} (hk:P.underlying kt=some (.int .i64)) (hown:w.ownsMap P kt (plainElem P et) b nn D) (hD:DR D L):(YU L).Perm (intKeys D):=by
 obtain ⟨es,hE,hpw,_⟩:=hown.entries (int_keyed hk)
 obtain ⟨es',hE',hko⟩:=hown.keysOf
 obtain rfl:es=es':=by rw [hE] at hE';simpa using hE'
 subst hE
 exact perm_intKeys hpw (fun p hp=>by obtain ⟨v,hv⟩:=hko p hp;obtain ⟨x,_,hx,_⟩:=Maps.keyOf_i64 hk hv;exact ⟨x,hx⟩) ((Fc L).imp fun h=>Int.ne_of_lt h) (fun x=>by rw [Dc,hD.2])
theorem Zcf (L:List (Int × Int)):(YU L).mergeSort leI=YU L:=
 List.mergeSort_of_pairwise ((Fc L).imp fun h=>by simp only [leI,decide_eq_true_eq];omega)
theorem Zce (c b:Nat) (L:List (Int × Int)) (hL:L.length<=1000000000):Wj Tryz.prog 102 [.val (.func (.func 165) #[] #[.pointer (some ⟨c,0,none⟩)])] [.obj c [vM b],rM Tryz.prog b 3 3 L]
  (fun r h=>∃g:Hd,r=.h g/\h=[rV g (YU L),.obj c [vM b],rM Tryz.prog b 3 3 L]):=by
 intro w G vs hv hh
 obtain ⟨u,rfl,hu⟩:∃u,vs=[u]/\RV w G (.val (.func (.func 165) #[] #[.pointer (some ⟨c,0,none⟩)])) u:=by
  cases hv with
  | cons h1 t=>cases t;exact ⟨_,rfl,h1⟩
 have hu:=hu.val_inv
 subst hu
 obtain ⟨D,hown,hD⟩:=Fd.1 (hh.ok (rM Tryz.prog b 3 3 L) (by simp))
 obtain ⟨cs,e0,Z5,Zd⟩:=hh.ok (.obj c [vM b]) (YY ..)
 have hcs:cs.toList=[.map (some b)]:=by
  generalize cs.toList=l at Zd
  cases Zd with
  | cons h1 t=>cases t;rw [h1.val_inv]
 have hcell:w.cell? ⟨c,0,none⟩=some (.map (some b)):=by
  rw [cell_of_row w c 0 cs e0 (0,0) Z5,<-Bo,hcs];rfl
 have YH:Maps.size D<=L.length:=hown.size_le
 have hp:=Z9f (kt:=3) (et:=3) kr hown hD
 refine (Tryz.sorted_call c b L.length D _ w (VG.1 Z5).1 hcell hown (by simp only [maxLen];omega) om).mono ?_
 rintro e w' ⟨v,ss,rfl,hS,hrow,hnil,hb⟩
 have hks:ss.mergeSort (fun x y=>decide (x<=y))=YU L:=(mergeSort_of_perm_i (hS.trans hp.symm)).trans (Zcf L)
 have hlen:ss.length=(YU L).length:=(hS.trans hp.symm).length_eq
 rw [hks] at hrow
 obtain ⟨g,rfl,hvec,hblk⟩:∃g:Hd,v=g.v/\Aa w' G g.v (Zk (YU L))/\∀b' o,Res.fp (.vec g.v (Zk (YU L))) b' o->w.heap.size<=b':=by
  rcases hrow.2 with ⟨rfl,hz⟩|⟨gb,cap,cur,rfl,hbase,hgb,r1,r2,r3,r4⟩
  ·have:YU L=[]:=List.eq_nil_of_length_eq_zero om
   refine ⟨hN,rfl,.inl ⟨rfl,by rw [this];rfl⟩,fun b' o hf=>hf.elim⟩
  ·refine ⟨⟨some ⟨gb,0,none⟩,ss.length,cap⟩,rfl,.inr ⟨gb,cap,cur,3,by rw [Yn,<-hlen],hgb,by rw [Yn,<-hlen];exact r1,by omega,?_⟩,fun b' o hf=>by have hf:b'=gb:=hf;omega⟩
   rw [Yn,<-hlen]
   rw [UO] at r4
   rw [r4]
   exact PX _
 have hH:ZZ w' G [rV g (YU L)]:=⟨fun r hr=>by rw [YL.1 hr];exact hvec,Kw _ _,fun r hr b' o hf hg=>by
  rw [YL.1 hr] at hf
  have h1:=hblk b' o hf
  have h2:=hh.lt b' o hg
  omega,fun b' o hg=>Bv (hh.lt b' o hg) hb.size⟩
 have hX:Yu w G [] w' G [rV g (YU L)]:=⟨hb.os,hb.tape,hb.output,hb.size,fun _ _ h=>h,fun b' hb'=>.inl (hb.block b' hb'),fun _ _ _ h=>.inl h,fun b' o hlt ⟨r,hr,hf⟩=>by
  rw [YL.1 hr] at hf
  have h1:=hblk b' o hf
  omega⟩
 obtain ⟨k1,k2⟩:=ZZ.frame (h:=[]) (h':=[rV g (YU L)]) (k:=[.obj c [vM b],rM Tryz.prog b 3 3 L]) hh hX hH
 exact ⟨_,_,_,G,rfl,⟨g,rfl,rfl⟩,.val,k1,k2⟩
end Go.Abs
end
namespace Go.Abs
mutual
def pS:Z7->Prop
 | .mk _ _ _ args kids=>(∀a∈args,0<=a/\a<=900000000)/\Bb kids
def Bb:List Zf->Prop
 | []=>True
 | b::r=>pB b/\Bb r
def Bc:List Z7->Prop
 | []=>True
 | s::r=>pS s/\Bc r
def pB:Zf->Prop
 | .mk steps _=>Bc steps
end
theorem Fj (s:Z7):pS s↔(∀a∈s.args,0<=a/\a<=900000000)/\Bb s.kids:=by cases s;rw [pS];rfl
theorem Zah (b:Zf):pB b↔Bc b.steps:=by cases b;rw [pB];rfl
theorem PP:∀{xs:List Z7},Bc xs↔∀s∈xs,pS s
 | []=>by simp [Bc]
 | s::r=>by rw [Bc,PP];simp
theorem PN:∀{xs:List Zf},Bb xs↔∀s∈xs,pB s
 | []=>by simp [Bb]
 | s::r=>by rw [Bb,PN];simp
theorem Zaf {b:Zf} {k:Nat} {s:Z7} (h:pB b) (hs:b.steps[k]? = some s):pS s:=PP.1 ((Zah b).1 h) s (YF hs)
theorem Zai {s:Z7} {k:Nat} {b:Zf} (h:pS s) (hb:s.kids[k]? = some b):pB b:=PN.1 ((Fj s).1 h).2 b (YF hb)
theorem TH (xs:List ZX):(WF xs).length=xs.length:=by rw [CQ,Um]
theorem R5 {j:Nat} {x:Int}:List.replicate (j+1) x=List.replicate j x++[x]:=by rw [List.replicate_succ']
section
variable {n:Zj}
mutual
theorem Zaj:∀(s:Z7) {us:LI},us.length+4*s.sz<=900000000->Wk n.decls->0<=ZT n us s->pS s
 | .mk op num into args kids,us,hu,hd,g=>by
  have hf:=Bh g
  rw [pS]
  refine ⟨fun a ha=>?_,?_⟩
  ·have:=hf.args a ha;omega
  ·refine PO kids hd fun i b hb=>?_
   have hl:0<kids.length:=by have:=(W5.1 hb).1;omega
   obtain ⟨k1,k2,k3⟩:=hf.kids (ON g hl)
   have k1':kids.length=(YJ n.decls op num).length:=k1
   have hi:=(W5.1 hb).1
   obtain ⟨mk,hmk⟩:=QM (xs:=YJ n.decls op num) (j:=i) om
   have hk3:=Bz hd hmk
   have D1:=BD hb
   rw [Z7.sz] at hu
   exact ⟨us++mk,by rw [YE];omega,k3 i b mk hb hmk⟩
theorem PO:∀(bs:List Zf),Wk n.decls->(∀(i:Nat) (b:Zf),bs[i]? = some b->∃us:LI,us.length+4*b.sz<=900000000/\0<=Yv n us b)->Bb bs
 | [],_,_=>True.intro
 | b::r,hd,h=>by
  obtain ⟨us,hq,hu⟩:=h 0 b rfl
  exact ⟨PM b hq hd hu,PO r hd fun i x hx=>h (i+1) x (by simpa using hx)⟩
theorem PQ:∀(xs:List Z7) {us vs:LI},us.length+4*Y9 xs<=900000000->Wk n.decls->Xu n xs us=some vs->Bc xs
 | [],_,_,_,_,_=>True.intro
 | s::r,us,vs,hu,hd,h=>by
  obtain ⟨g1,g2⟩:=Cg h
  rw [Y9] at hu
  have h1:=s.sz_pos
  have h2:=Cd n us s
  exact ⟨Zaj s om hd g1,PQ r om hd g2⟩
theorem PM:∀(b:Zf) {us:LI},us.length+4*b.sz<=900000000->Wk n.decls->0<=Yv n us b->pB b
 | .mk steps result,us,hu,hd,h=>by
  obtain ⟨fvs,t0,hvs,_,_⟩:=BC h
  rw [Zf.sz] at hu
  rw [pB];exact PQ steps om hd hvs
end
end
theorem Zag {n:Zj} (hn:YZ n) (hz:WM n) (hbt:∀r∈n.routines,0<=Yv n r.params r.body):∀r∈n.routines,pB r.body:=fun r hr=>PM r.body (by have:=hz.body r hr;have:=hn.params r hr;omega) hn.decls (hbt r hr)
theorem NJ {s:Z7} {L:List (Int × Int)} (h:pS s) {a:Int} (ha:s.args=[a]) (hk:∀p∈L,0<=p.1/\p.1<=1000000000):∀p∈L++[ev s],0<=p.1/\p.1<=1000000000:=fun p hp=>by
 rcases Yz.1 hp with hp|hp
 ·exact hk p hp
 ·rw [YL.1 hp]
  have:=((Fj s).1 h).1 a (by rw [ha];exact YL.2 rfl)
  show 0<=gI s.args 0/\gI s.args 0<=1000000000
  rw [ha]
  show 0<=a/\a<=1000000000
  omega
end Go.Abs
section
namespace Go.Abs
section
variable {P:Program} {n:Nat} {ops:Array Oper} {k:Nat} {F:Fr} {h2:List Res}
end
section
variable {P:Program} {n:Nat} {ops:Array Oper} {B:Fr->List Res->Prop} {k:Nat} {F:Fr} {h:List Res}
end
end Go.Abs
namespace Go.Abs
section
variable {P:Program} {n:Nat} {ops:Array Oper} {B:Fr->List Res->Prop} {T:List (Nat × List Nat)} {fuel:Nat} {done:List Nat} {F:Fr} {h:List Res}
end
end Go.Abs
namespace Go.Abs
section
variable {h:List Res}
end
end Go.Abs
namespace Go.Abs
section
variable {P:Program} {n:Nat} {ops:Array Oper} {k:Nat} {F:Fr} {h:List Res}
variable {B:Fr->List Res->Prop}
theorem iVM (l:Nat) (hK:∀v:Hd,SI P n ops B (k+1) (F.put (Zl ops k).dst (.h v)) (rV v (List.replicate l 0)::h)) (hl:l<=4294967296:=by omega) (hk:YI n ops F k=true:=by kernel_rfl)
  (hm:JP P ops F k=some ((l:Int),(l:Int),.i 0):=by kernel_rfl):SI P n ops B k F h:=
 Z63 (Zk (List.replicate l 0)) hk hm (X1 _) hl (by simp [Zk]) fun v'=>Fw fun g hg=>by subst hg;exact hK g
end
end Go.Abs
end
section
namespace Go.Abs
section
variable {h:List Res}
end
end Go.Abs
namespace Go.Abs
section
variable {P:Program} {ops:Array Oper} {k:Nat} {F:Fr} {h:List Res}
end
end Go.Abs
end
namespace Go.Abs
section
variable {P:Program} {n:Nat} {ops:Array Oper} {B:Fr->List Res->Prop} {k:Nat} {F:Fr} {h:List Res} {T:List (Nat × List Nat)} {fuel:Nat} {done:List Nat}
theorem O7 (es es':List AV) (he:es=es') (len sz:Nat) (hK:∀v,SI P n ops B (k+1) (F.put (Zl ops k).dst (.sl es' (some v))) (.tail v sz::h)) (hk:YI n ops F k=true:=by kernel_rfl)
  (ha:Q5 P ops F k=some (Zu es,len,sz):=by kernel_rfl) (hlen:es.length=len:=by kernel_rfl) (hall:Jt es sz=true:=by kernel_rfl):SI P n ops B k F h:=by
 subst he;exact iL es len sz hK hk ha hlen hall
theorem dLE (i:Nat) (js bs:List Nat) (es es':List AV) (he:es=es') (len sz:Nat) (hK:∀v,Yx P n ops B (T.filter fun t=>!Vb ops i t.1) fuel (done++[i]) (F.put (Zl ops i).dst (.sl es' (some v))) (.tail v sz::h))
  (hk:YI n ops F i=true:=by kernel_rfl) (ha:Q5 P ops F i=some (Zu es,len,sz):=by kernel_rfl) (hlen:es.length=len:=by kernel_rfl) (hall:Jt es sz=true:=by kernel_rfl)
  (ho:Ux ops i T=bs:=by kernel_rfl) (hj:js.map (fun j=>(WH h)[j]?)=bs.map some:=by kernel_rfl):VH P n ops B T fuel done F h i:=by
 subst he;exact dL i js bs es len sz hK hk ha hlen hall ho hj
end
section
variable {P:Program} {n:Nat} {ops:Array Oper} {B:Fr->List Res->Prop} {k:Nat} {F:Fr} {h:List Res}
end
open Go.Proofs
theorem Og (op:Int) (v:Int) :Za 104 [.i op,.i v] [] (fun r h=>∃(u:Value),r=.agg [.i op,.i 0,.i 0,ZY [v] u,TO [] (.slice none 0 0)]/\h=[.tail u 1]):=by
 exact Zx 9 Tryz.func104 (ar (iA [.i 0,.i 0,.i 0,nl,nl] fun b1=>ie (ZM 2 (iL (Zk [v]) 1 1 fun v1=>Z1 1 (Y4 1 b1 [.i op,.i 0,.i 0,ZY [v] v1,nl] (ie (ZG (r3 [1] [.agg [.i op,.i 0,.i 0,ZY [v] v1,nl]] [0] [(b1,b1)] ⟨v1,rfl,rfl⟩ (Zm.agg (.cons (lr _) (.cons (lr _) (.cons (lr _) (.cons (lr _) (.cons (Zm.slh _ (by first|rfl|(subst_vars;rfl))) .nil))))))))))))))
theorem Z70 (s:Z7) (ys:List ZV) (kv:Value) (hl:s.args.length<=4294967296:=by exact ob):Za 166 [XS s,TO ys kv] [] (fun r h=>∃(u:Value),r=.agg [.i s.op,.i s.num,.i s.into,ZY s.args u,TO ys kv]/\h=[.tail u 1]):=by
 refine Zx 12 Tryz.func166 (ar (iA (WT s) fun b1=>iA [.i 0,.i 0,.i 0,nl,nl] fun b2=>ie (ZB 2 [1] (ic [] (CC s.args) ?_))))
 rintro _ _ ⟨v1,rfl,rfl⟩
 exact Z1 2 (Y4 2 b1 [.i s.op,.i s.num,.i s.into,ZY s.args v1,KQ s.kids] (Z1 1 (Y4 0 b1 [.i s.op,.i s.num,.i s.into,ZY s.args v1,TO ys kv] (ie (ZB 1 [0] (Y4 2 b2 [.i s.op,.i s.num,.i s.into,ZY s.args v1,TO ys kv] (ie (ZG (r3 [2] [.agg [.i s.op,.i s.num,.i s.into,ZY s.args v1,TO ys kv]] [0] [(b2,b2)] ⟨v1,rfl,rfl⟩ (lr _))))))))))
theorem Z29 (ds:List Zg) (hl_ds:ds.length<=4294967296:=by exact ob):Za 161 [ZI ds] [] (fun r h=>∃(v:Hd),r=.h v/\h=[rK v 3 (Zu (X4 ds))]):=by
 refine Zx 8 Tryz.func161 (Zh (Yb 1 (iN (X4 ds) (fun hz1=>?_) ?_)))
 ·have hz1:=Z3w hz1
  refine ie (W7 (Zh (Wq (Lr (k:=3)) ?_)))
  subst hz1
  exact ZG (r2 [0] [nl] ⟨hN,rfl,rfl⟩ (Zm.hd (v:=hN)) (eq:=(rr (ls:=[]) rfl rz)))
 exact ie (XF (ak (ar (HK 3 fun g1=>Z1 1 (HJ 0 g1 3 (X4 ds) none (BK _) (by simp<;>omega) fun v1=>Z8 (r1 [0] ⟨v1,rfl,rfl⟩))))))
theorem Z28 (cs:List Xs) (hl_cs:cs.length<=4294967296:=by exact ob):Za 162 [JQ cs] [] (fun r h=>∃(v:Hd),r=.h v/\h=[rK v 1 (Zu (Wd cs))]):=by
 refine Zx 8 Tryz.func162 (Zh (Yb 1 (iN (Wd cs) (fun hz1=>?_) ?_)))
 ·have hz1:=Z3u hz1
  refine ie (W7 (Zh (Wq (Lr (k:=1)) ?_)))
  subst hz1
  exact ZG (r2 [0] [nl] ⟨hN,rfl,rfl⟩ (Zm.hd (v:=hN)) (eq:=(rr (ls:=[]) rfl rz)))
 exact ie (XF (ak (ar (HK 1 fun g1=>Z1 1 (HJ 0 g1 1 (Wd cs) none (Em _) (by simp<;>omega) fun v1=>Z8 (r1 [0] ⟨v1,rfl,rfl⟩))))))
theorem Z6j (ds:List Zg) (hd:Wk ds:=by exact ob):Za 99 [ZI ds] [] (fun r h=>∃(ys:List YP) (w:Value),r=Kh ys w/\h=[.many (X2 ys),.tail w 3]/\ys.map YP.er=ds):=by
 have hdl:=hd.len
 refine Zx 46 Tryz.func99 (Zh (ZM 1 (ic [] (Z29 ds) ?_)))
 rintro _ _ ⟨v1,rfl,rfl⟩
 refine Z0 (Yb 1 (Zi (Z7t 0 ds.length v1 3 (Zu (X4 ds)) (by rw [NP])) (Z0 (ab 0 (Wq (tB [] [] [] (X2 []) (by simp [WS,WR,V0,V1,V2,V3,WZ,YC,YS,Xw,YW,X8,X2,X5,Wg,Wh,Wi,Xh])) (ZU (fun fz gz m F h=>∃(k:Nat) (v:Hd) (ys:List YP),(k<=ds.length)/\(ys.map YP.er=ds.take k)/\(ys.length=k)/\F=sF [11] fz [(3,.h v),(10,.h v),(12,.i k)]/\h=[rK v 3 (Zu (XV ys++X4 (ds.drop k))),.many (X2 ys)]/\m=ds.length-k) _ _ _ ⟨0,v1,[],ob,rfl,rfl,rfl,rfl,rfl⟩ (wk [1,0] (fw (ZW fl)) (e:=(rr (ls:=Zu (X4 ds)) (by rfl) (rc rz)))) ?_))))))
 rintro m F h ⟨k,v,ys,Y0,Z9,Zz,rfl,rfl,rfl⟩
 refine Zh (aq (Xi ((k:Int)<(ds.length:Int)) (fun Z5=>?_) (fun Z5=>?_)))
 ·obtain ⟨x1,Z2⟩:=Zv ds k om
  have hcl:=hd.cons_at Z2
  refine OF 0 ds.length (v:=v) (Rd Zz Y0) om (fun g1 c1 he1=>?_)
  subst he1
  refine ak (aq (ab 1 (ZM 1 (Zi (Jc g1 ds.length c1 k 3 (k:Int)) (Xx (OG 0 g1 ds.length c1 3 (k*3) (Zu (XV ys++X4 (ds.drop k))) (Uh x1) 109 (QY x1) (by rw [Re Z2];exact Rf (by rw [JD,Zz]))) (iA [.i 0,.i 0,nl] fun b1=>Z1 1 (Y4 0 b1 (Uh x1) (ie (ZB 4 [0] (ic [] (Z28 x1.cons) ?_))))))))))
  rintro _ _ ⟨v2,rfl,rfl⟩
  refine Zi (Jc g1 ds.length c1 k 3 (k:Int)) (Z1 1 (B7 2 g1 ds.length c1 3 (k*3+2) [.h v2] (Zu (XV ys++X4 (ds.drop k))) (Zu (XV ys)++([.i x1.frm,.i x1.to_,.h v2]++Zu (X4 (ds.drop (k+1))))) (by rw [Rd Zz Y0];simp;omega) (by rw [Re Z2];exact Zbc (by rw [JD,Zz])) (ie (ZB 2 [2] (iw (Vl x1.cons) (Z0 (ab 2 (Wq (tB [] [] [] (X8 []) (by simp [WS,WR,V0,V1,V2,V3,WZ,YC,YS,Xw,YW,X8,X2,X5,Wg,Wh,Wi,Xh])) (ZU (fun fz gz m F h=>∃(j:Nat) (u:Hd) (zs:List X3),(j<=x1.cons.length)/\(zs.map X3.er=x1.cons.take j)/\(zs.length=j)/\F=sF [3,4,10,11,12,25,26] fz [(27,.i j)]/\h=[Zy gz 4,rK u 1 (Zu (Ws zs++Wd (x1.cons.drop j))),.row (.slice (some ⟨g1,0,none⟩) ds.length c1) 3 (Zu (XV ys)++([.i x1.frm,.i x1.to_,.h u]++Zu (X4 (ds.drop (k+1))))),.many (X8 zs)]/\m=x1.cons.length-j) _ _ _ ⟨0,v2,[],ob,rfl,rfl,rfl,rfl,rfl⟩ (wk [4,2,1,0] (ZW fl) (e:=(rc (rr (ls:=Zu (Wd x1.cons)) (by rfl) (rc (rc rz)))))) ?_)))))))))
  rintro m F h ⟨j,u,zs,T6,Xk,Uc,rfl,rfl,rfl⟩
  refine Zh (aq (Xi ((j:Int)<(x1.cons.length:Int)) (fun Zd=>?_) (fun Zd=>?_)))
  ·obtain ⟨x2,Zt⟩:=Zv x1.cons j om
   have hfl:=hd.fields_at Z2 Zt
   refine OF 1 x1.cons.length (v:=u) (Rc Uc T6) om (fun g2 c2 he2=>?_)
   subst he2
   refine ak (aq (ab 3 (ZM 1 (Zi (Zr none (j:Int) 1 (KF Zt)) (Z1 1 (iA [nl] fun b2=>Z1 1 (Y4 0 b2 (KP x2) (ie (aE 12 (Zo 10 12 [0,1] (dx 2 (Jc g1 ds.length c1 k 3 (k:Int)) (Zo 8 9 [3] (Qm 4 (OG 3 g1 ds.length c1 3 (k*3+2) (Zu (XV ys)++([.i x1.frm,.i x1.to_,.h ⟨some ⟨g2,0,none⟩,x1.cons.length,c2⟩]++Zu (X4 (ds.drop (k+1))))) [.h ⟨some ⟨g2,0,none⟩,x1.cons.length,c2⟩] 107 (.ms g2 0 x1.cons.length c2) (Zbd (by rw [JD,Zz]))) (Ya 4 7 [5,6,7] [0] (ZF 8 (dc 8 [] [2] [g1] (CC x2.fields) ?_))))))))))))))))
   rintro _ _ ⟨v3,rfl,rfl⟩
   exact dx 9 (Jc g2 x1.cons.length c2 j 1 (j:Int)) (Zo 1 2 [10] (ZF 11 (dKS 11 3 [] [] g2 x1.cons.length c2 1 (j*1) [ZY x2.fields v3] (Zu (Ws zs++Wd (x1.cons.drop j))) (Zu (Ws zs)++([ZY x2.fields v3]++Zu (Wd (x1.cons.drop (j+1))))) (by rw [Rc Uc T6];simp;omega) (by rw [Zb3 Zt];exact AA (by rw [Hq,Uc,UO]) rfl) (Jz (tB [5,1] [.many (X8 zs),.tail v3 1] (X8 zs++((v3,1)::[])) (X8 (zs++[X3.mk x2.fields v3])) (by simp [WS,WR,V0,V1,V2,V3,WZ,YC,YS,Xw,YW,X8,X2,X5,Wg,Wh,Wi,Xh])) (de (az (ZK j (Z0 (ZJ ⟨j+1,⟨some ⟨g2,0,none⟩,x1.cons.length,c2⟩,(zs++[X3.mk x2.fields v3]),ob,(by rw [List.map_append,Xk,WU Zt];rfl),(by simp [Uc]),rfl,rfl,rfl⟩ (wk [3,1,2,0] (ZL j fl) (e:=(rc (rr (ls:=(Zu (Ws zs)++([ZY x2.fields v3]++Zu (Wd (x1.cons.drop (j+1)))))) Zb2 (rr (ls:=(Zu (XV ys)++([.i x1.frm,.i x1.to_,.h ⟨some ⟨g2,0,none⟩,x1.cons.length,c2⟩]++Zu (X4 (ds.drop (k+1)))))) ob (rc rz)))))))))))))))
  refine Wq (JY 1 u.v 1 (Zu (Ws zs++Wd (x1.cons.drop j))) (Zu (Ws zs)) (Zb1 om)) (Wq (Zeh 0 1 (k*3+2) u.v (.slice (some ⟨g1,0,none⟩) ds.length c1) 1 3 (Ws zs) (Zu (XV ys)++([.i x1.frm,.i x1.to_,.h u]++Zu (X4 (ds.drop (k+1))))) (Hb _) (by rw [Cl (by rw [JD];omega),JD,Zz];simp)) ?_)
  exact Wq (JY 0 (.slice (some ⟨g1,0,none⟩) ds.length c1) 3 (List.set ((Zu (XV ys)++([.i x1.frm,.i x1.to_,.h u]++Zu (X4 (ds.drop (k+1))))):List AV) (k*3+2) (JR zs u.v)) (Zu (XV ys)++([.i x1.frm,.i x1.to_,JR zs u.v]++Zu (X4 (ds.drop (k+1))))) (Zbe (by rw [JD,Zz]))) (Wq (tB [2,2,1] [.many (X2 ys),.many (X8 zs),.tail u.v 1] (X2 ys++(X8 zs++((u.v,1)::[]))) (X2 (ys++[YP.mk x1.frm x1.to_ zs u.v])) (by simp [WS,WR,V0,V1,V2,V3,WZ,YC,YS,Xw,YW,X8,X2,X5,Wg,Wh,Wi,Xh])) (ax 2 (az (ZK k (Z0 (ZJ ⟨k+1,(⟨some ⟨g1,0,none⟩,ds.length,c1⟩:Hd),(ys++[YP.mk x1.frm x1.to_ zs u.v]),ob,(by rw [List.map_append,Z9,WU Z2,SW (Xk.trans (W6 om))]),(by simp [Zz]),rfl,rfl,rfl⟩ (wk [1,0] (fw (ZL k fl)) (e:=(rr (ls:=(Zu (XV ys)++([.i x1.frm,.i x1.to_,JR zs u.v]++Zu (X4 (ds.drop (k+1)))))) Zb5 (rc rz))))))))))
 exact ax 0 (Zh (Wq (JY 0 v.v 3 (Zu (XV ys++X4 (ds.drop k))) (Zu (XV ys)) (Zb4 om)) (Ba 2 0 (v:=v) (XV ys) (Hc _) (ZG (r1 [1,0] ⟨ys,v.v,rfl,rfl,(by rw [Z9,W6 om])⟩)))))
theorem Oh (mc:Nat) (oc:Nat) (mb:Nat) (L:List (Int × Int)) (xs:List ZX) (u:Value) (rs:Int) (hu:Un L:=by exact ob) (hL:L.length<=10000000:=by exact ob) (hx:xs.length<=10000000:=by exact ob) (hk:∀p∈L,0<=p.1/\p.1<=1000000000):Za 101 [.p mc 0,.p oc 0] [.obj mc [.val (.map (some mb))],.obj oc [U8 xs u,.i rs],rM Tryz.prog mb 3 3 L,.tail u 5,.many (YC xs)] (fun r h=>∃(ys:List ZX) (w:Value),h=[.obj mc [.val (.map (some mb))],.obj oc [U8 ys w,.i rs],rM Tryz.prog mb 3 3 [],.tail w 5,.many (YC ys)]/\WF ys=WF xs++Vj L):=by
 have hda:=CI hu
 have hml:=Ig L
 refine Zx 52 Tryz.func101 (ZB 1 [0] (ic [] (Z95 mb) ?_))
 rintro _ _ ⟨c1,rfl,rfl⟩
 refine ic [0,2] (Zce c1 mb L ob) ?_
 rintro _ _ ⟨g1,rfl,rfl⟩
 refine Z0 (Yb 1 (Zi (KW 0 g1 (YU L)) (Z0 (ab 0 (ZU (fun fz gz m F h=>∃(k:Nat) (ys:List ZX) (u2:Value),(k<=(YU L).length)/\(WF ys=WF xs++(UI L ((YU L).take k)).map (XZ 14))/\F=sF [0,1,2,10,11] fz [(12,.i k)]/\h=[Zy gz 0,Zy gz 2,Zy gz 3,.obj oc [U8 ys u2,.i rs],.tail u2 5,.many (YC ys)]/\m=(YU L).length-k) _ _ _ ⟨0,xs,u,ob,(by simp [UI]),rfl,rfl,rfl⟩ (wk [0,1,1,1,1,1] (ZW fl)) ?_)))))
 rintro m F h ⟨k,ys,u2,Y0,Z9,rfl,rfl,rfl⟩
 refine Zh (aq (Xi ((k:Int)<(((YU L).length:Nat):Int)) (fun Z5=>?_) (fun Z5=>?_)))
 ·have hyl:=TH ys
  rw [Z9] at hyl
  simp only [YE,Um,TH] at hyl
  have Wy:=Af hu k
  have hdk1:=Af hu (k+1)
  refine ak (aq (ab 1 (ar (Zi (XE 0 g1 (YU L) (k:Int) k) ?_))))
  obtain ⟨x1,Z2⟩:=Zv (YU L) k om
  have hds:=Ni (L:=L) Z2
  have hdl:=Ys List.length hds
  rw [YE,List.length_replicate] at hdl
  have hnb:=C5 x1 hu
  have hxk:0<=x1/\x1<=1000000000:=by obtain ⟨p,hp,e⟩:=Dc.1 (YF Z2);rw [<-e];exact hk p hp
  refine Xx (WV 0 g1 (YU L) k x1 Z2) (Z0 (ZB 2 [2] (Xx (EV 1 mb 3 3 L x1 om) (Z0 (ab 2 (ZU (fun fz gz m F h=>∃(j:Nat) (zs:List ZX) (u3:Value),(j<=(Xa L x1).toNat)/\(WF zs=WF xs++(UI L ((YU L).take k)).map (XZ 14)++(List.replicate j x1).map (XZ 14))/\F=sF [0,1,2,4,10,11,12,18] fz [(19,.i j)]/\h=[Zy gz 0,Zy gz 1,Zy gz 2,.obj oc [U8 zs u3,.i rs],.tail u3 5,.many (YC zs)]/\m=(Xa L x1).toNat-j) _ _ _ ⟨0,ys,u2,ob,(by rw [Z9];simp),rfl,rfl,rfl⟩ (Y5 6 (ZW fl)) ?_))))))
  rintro m F h ⟨j,zs,u3,T6,Xk,rfl,rfl,rfl⟩
  refine Zh (aq (Xi ((j:Int)<(Xa L x1)) (fun Zd=>?_) (fun Zd=>?_)))
  ·have hzl:=TH zs
   rw [Xk] at hzl
   simp only [YE,Um,List.length_replicate,TH] at hzl
   refine ak (aq (ab 3 (aE 8 (Ya 5 8 [0,1,2] [3] (ZF 3 (dc 3 [] [2] [oc] (Og 14 x1) ?_))))))
   rintro _ _ ⟨u1,rfl,rfl⟩
   exact Nc 2 (ZF 4 (dL 4 [2] [oc] [TB (ZX.mk 14 0 0 [x1] u1 [] (.slice none 0 0))] 1 5 fun v1=>UT 3 3 [] [(25,.sl [TB (ZX.mk 14 0 0 [x1] u1 [] (.slice none 0 0))] none)] (ZF 5 (dp 5 7 [] [] (WE (zs++[ZX.mk 14 0 0 [x1] u1 [] (.slice none 0 0)])) (WE zs) [TB (ZX.mk 14 0 0 [x1] u1 [] (.slice none 0 0))] u3 none 5 (CK _) (D8 rfl) rfl (by simp<;>omega) (by simp [Er,Ah]) fun v2=>Jz (tB [8,3,2] [.many (YC zs),.tail u1 1,.tail (.slice none 0 0) 2] (YC zs++((u1,1)::(((.slice none 0 0),2)::[]))) (YC (zs++[ZX.mk 14 0 0 [x1] u1 [] (.slice none 0 0)])) (by simp [WS,WR,V0,V1,V2,V3,WZ,YC,YS,Xw,YW,X8,X2,X5,Wg,Wh,Wi,Xh])) (Zo 1 2 [6] (ZF 7 (UC 7 6 [] [] oc [U8 (zs++[ZX.mk 14 0 0 [x1] u1 [] (.slice none 0 0)]) v2,.i rs] (de (az (ZK j (Z0 (ZJ ⟨j+1,(zs++[ZX.mk 14 0 0 [x1] u1 [] (.slice none 0 0)]),v2,ob,(by rw [Hm,Hn,NF,Xk,R5,List.map_append];simp only [U1];rfl),rfl,rfl,rfl⟩ (wk [4,4,4,0,1,0] (ZL j fl))))))))))))))
  have hZ:WF zs=WF xs++(UI L ((YU L).take (k+1))).map (XZ 14):=by rw [Xk,show j=(Xa L x1).toNat by omega,hds,List.map_append,U1]
  exact ax 2 (az (ZK k (Z0 (ZJ ⟨k+1,zs,u3,ob,hZ,rfl,rfl,rfl⟩ (Y5 6 (ZL k fl))))))
 have hyl:=TH ys
 rw [Z9] at hyl
 simp only [YE,Um,TH] at hyl
 have Wy:=Af hu k
 have hY:WF ys=WF xs++(UI L (YU L)).map (XZ 14):=by rw [Z9,W6 om]
 refine ax 0 (Yb 1 (Zi (KW 0 g1 (YU L)) (Z0 (ab 4 (ZU (fun fz gz m F h=>∃(k:Nat) (ys2:List ZX) (u4:Value),(k<=(YU L).length)/\(WF ys2=WF xs++(UI L (YU L)).map (XZ 14)++(Ts L ((YU L).take k)).map (XZ 15))/\F=sF [0,1,30,31] fz [(32,.i k)]/\h=[Zy gz 0,Zy gz 1,Zy gz 2,.obj oc [U8 ys2 u4,.i rs],.tail u4 5,.many (YC ys2)]/\m=(YU L).length-k) _ _ _ ⟨0,ys,u2,ob,(by rw [hY];simp [Ts]),rfl,rfl,rfl⟩ (Y5 6 (ZW fl)) ?_)))))
 rintro m F h ⟨k,ys2,u4,MH,KC,rfl,rfl,rfl⟩
 refine Zh (aq (Xi ((k:Int)<(((YU L).length:Nat):Int)) (fun Zw=>?_) (fun Zw=>?_)))
 ·have hyl2:=TH ys2
  rw [KC] at hyl2
  simp only [YE,Um,TH] at hyl2
  have Wy:=Af hu k
  have hdk1:=Af hu (k+1)
  refine ak (aq (ab 5 (ar (Zi (XE 0 g1 (YU L) (k:Int) k) ?_))))
  obtain ⟨x2,Zt⟩:=Zv (YU L) k om
  have hrs:=Nh (L:=L) Zt
  have hrl:=Ys List.length hrs
  rw [YE,List.length_replicate] at hrl
  have hnb:=C5 x2 hu
  have hxk:0<=x2/\x2<=1000000000:=by obtain ⟨p,hp,e⟩:=Dc.1 (YF Zt);rw [<-e];exact hk p hp
  refine Xx (WV 0 g1 (YU L) k x2 Zt) (Z0 (ZB 2 [2] (Xx (EV 1 mb 3 3 L x2 om) (Zi (Z7u (Xa L x2) om) (Z0 (ab 6 (ZU (fun fz gz m F h=>∃(j:Nat) (zs2:List ZX) (u5:Value),(j<=(-Xa L x2).toNat)/\(WF zs2=WF xs++(UI L (YU L)).map (XZ 14)++(Ts L ((YU L).take k)).map (XZ 15)++(List.replicate j x2).map (XZ 15))/\F=sF [0,1,6,30,31,32,39] fz [(40,.i j)]/\h=[Zy gz 0,Zy gz 1,Zy gz 2,.obj oc [U8 zs2 u5,.i rs],.tail u5 5,.many (YC zs2)]/\m=(-Xa L x2).toNat-j) _ _ _ ⟨0,ys2,u4,ob,(by rw [KC];simp),rfl,rfl,rfl⟩ (Y5 6 (ZW fl)) ?_)))))))
  rintro m F h ⟨j,zs2,u5,Zfu,GF,rfl,rfl,rfl⟩
  refine Zh (aq (Xi ((j:Int)<(-(Xa L x2))) (fun Yg=>?_) (fun Yg=>?_)))
  ·have hzl2:=TH zs2
   rw [GF] at hzl2
   simp only [YE,Um,List.length_replicate,TH] at hzl2
   refine ak (aq (ab 7 (aE 8 (Ya 5 8 [0,1,2] [3] (ZF 3 (dc 3 [] [2] [oc] (Og 15 x2) ?_))))))
   rintro _ _ ⟨u2,rfl,rfl⟩
   exact Nc 2 (ZF 4 (dL 4 [2] [oc] [TB (ZX.mk 15 0 0 [x2] u2 [] (.slice none 0 0))] 1 5 fun v3=>UT 3 3 [] [(46,.sl [TB (ZX.mk 15 0 0 [x2] u2 [] (.slice none 0 0))] none)] (ZF 5 (dp 5 7 [] [] (WE (zs2++[ZX.mk 15 0 0 [x2] u2 [] (.slice none 0 0)])) (WE zs2) [TB (ZX.mk 15 0 0 [x2] u2 [] (.slice none 0 0))] u5 none 5 (CK _) (D8 rfl) rfl (by simp<;>omega) (by simp [Er,Ah]) fun v4=>Jz (tB [8,3,2] [.many (YC zs2),.tail u2 1,.tail (.slice none 0 0) 2] (YC zs2++((u2,1)::(((.slice none 0 0),2)::[]))) (YC (zs2++[ZX.mk 15 0 0 [x2] u2 [] (.slice none 0 0)])) (by simp [WS,WR,V0,V1,V2,V3,WZ,YC,YS,Xw,YW,X8,X2,X5,Wg,Wh,Wi,Xh])) (Zo 1 2 [6] (ZF 7 (UC 7 6 [] [] oc [U8 (zs2++[ZX.mk 15 0 0 [x2] u2 [] (.slice none 0 0)]) v4,.i rs] (de (az (ZK j (Z0 (ZJ ⟨j+1,(zs2++[ZX.mk 15 0 0 [x2] u2 [] (.slice none 0 0)]),v4,ob,(by rw [Hm,Hn,NF,GF,R5,List.map_append];simp only [U1];rfl),rfl,rfl,rfl⟩ (wk [4,4,4,0,1,0] (ZL j fl))))))))))))))
  have hZ2:WF zs2=WF xs++(UI L (YU L)).map (XZ 14)++(Ts L ((YU L).take (k+1))).map (XZ 15):=by rw [GF,show j=(-Xa L x2).toNat by omega,hrs,List.map_append];simp only [U1]
  exact ax 6 (az (ZK k (Z0 (ZJ ⟨k+1,zs2,u5,ob,hZ2,rfl,rfl,rfl⟩ (Y5 6 (ZL k fl))))))
 have hY2:WF ys2=WF xs++Vj L:=by rw [KC,W6 om,Vj,U1]
 exact ax 4 (az (Y6 1 [2] (iCl 1 mb 3 3 L (ie (r2 [2,2,0,1,1] [] ⟨ys2,u4,rfl,hY2⟩ (lr _))))))
theorem Z6r (ds:List Zg) (z:Nat) (s:Z7) (hz:s.sz<=z+1:=by exact ob) (hl:s.sz<=10000000:=by exact ob) (hw:wS ds s:=by exact ob) (hr:pS s:=by exact ob) (ih:∀(b2:Zf),(b2.sz<=z)->(b2.sz<=10000000)->(wB ds b2)->(pB b2)->Za 52 [YG b2] [] (fun r h=>∃(y:ZV),r=Tp y/\h=[.many (YW y)]/\y.er=W9 b2)):Za 105 [XS s,.val (.func (.func 52) #[] #[])] [] (fun r h=>∃(y:ZX),r=TB y/\h=[.many (Xw y)]/\y.er=TW s):=by
 have hkz:=Qq s
 have haz:=Ad s
 refine Zx 25 Tryz.func105 (ar (iA (WT s) fun b1=>iA [.i 0,.i 0,.i 0,nl,nl] fun b2=>?_))
 refine ie (Zh (Yp 2 [1] (iw (Uf s.kids) (Z0 (ab 0 (TU 2 (Wq (tB [] [] [] (YS []) (by simp [WS,WR,V0,V1,V2,V3,WZ,YC,YS,Xw,YW,X8,X2,X5,Wg,Wh,Wi,Xh])) (ZU (fun fz gz m F h=>∃(k:Nat) (ys:List ZV) (u:Value),(k<=s.kids.length)/\(ys.length=k)/\(TG ys=(s.kids.take k).map W9)/\F=sF [1,2,4,9,10] fz [(5,TO ys u),(11,.i k)]/\h=[Zy gz 2,Zy gz 3,.tail u 2,.many (YS ys)]/\m=s.kids.length-k) _ _ _ ⟨0,[],(.slice none 0 0),ob,ob,rfl,rfl,rfl,rfl⟩ (wk [2,2,1,0] (fc (x:=nl) (Zm.slh _ (by first|rfl|(subst_vars;rfl))) (ZW fl))) ?_))))))))
 rintro m F h ⟨k,ys,u,Y0,Z9,Zz,rfl,rfl,rfl⟩
 refine Zh (aq (Xi ((k:Int)<(s.kids.length:Int)) (fun Z5=>?_) (fun Z5=>?_)))
 ·refine ak (aq (ab 1 (ar ?_)))
  obtain ⟨x1,Z2⟩:=Zv s.kids k om
  have hks:=Kg Z2
  have hwk:=SM hw Z2
  have hrk:=Zai hr Z2
  refine Zi (Zr none (k:Int) 2 (TF Z2)) (Z1 1 (iA [nl,.i 0] fun b3=>Y4 0 b3 (VE x1) (ie (az (Y6 3 [0] (ic [] (ih x1 ob ob hwk hrk) ?_))))))
  rintro _ _ ⟨y1,rfl,rfl,Yd⟩
  have hy:=Yd
  exact iL [Tp y1] 1 2 fun v1=>W2 0 [(19,.sl [Tp y1] none)] (ip 5 (V7 (ys++[y1])) (V7 ys) [Tp y1] u none 2 (Ha _) (D8 rfl) rfl (by simp<;>omega) (by simp [Nm,BM]) fun v2=>Ta (tB [6,2] [.many (YS ys),.many (YW y1)] (YS ys++(YW y1++[])) (YS (ys++[y1])) (by simp [WS,WR,V0,V1,V2,V3,WZ,YC,YS,Xw,YW,X8,X2,X5,Wg,Wh,Wi,Xh])) (Z0 (az (ZK k (Z0 (ZJ ⟨k+1,(ys++[y1]),v2,ob,(by rw [YE,Z9];rfl),(by rw [Z4o,Z4p,hy,Zz,WU Z2,List.map_append];rfl),rfl,rfl,rfl⟩ (wk [4,4,1,0] (fr (ZL k fl)))))))))
 refine ax 0 (ZB 2 [1] (ic [] (Z70 s ys u) ?_))
 rintro _ _ ⟨u1,rfl,rfl⟩
 exact Y4 1 b2 [.i s.op,.i s.num,.i s.into,ZY s.args u1,TO ys u] (ie (Wq (tB [1,3,2] [.tail u1 1,.many (YS ys),.tail u 2] ((u1,1)::(YS ys++((u,2)::[]))) (Xw (ZX.mk s.op s.num s.into s.args u1 ys u)) (by simp [WS,WR,V0,V1,V2,V3,WZ,YC,YS,Xw,YW,X8,X2,X5,Wg,Wh,Wi,Xh])) (ZG (r3 [0] [.agg [.i s.op,.i s.num,.i s.into,ZY s.args u1,TO ys u]] [1] [(b2,b2)] ⟨(ZX.mk s.op s.num s.into s.args u1 ys u),rfl,rfl,(by rw [GJ,E6,ZX.er,Zz,W6 om])⟩ (lr _)))))
theorem Z6g (ds:List Zg) (z:Nat) (b:Zf) (hz:b.sz<=z+1:=by exact ob) (ih:∀(b2:Zf),(b2.sz<=z)->(b2.sz<=10000000)->(wB ds b2)->(pB b2)->Za 52 [YG b2] [] (fun r h=>∃(y:ZV),r=Tp y/\h=[.many (YW y)]/\y.er=W9 b2)) (hl:b.sz<=10000000:=by exact ob) (hw:wB ds b:=by exact ob) (hr:pB b:=by exact ob):Za 52 [YG b] [] (fun r h=>∃(y:ZV),r=Tp y/\h=[.many (YW y)]/\y.er=W9 b):=by
 have hbz:=JW b
 have hws:=(Lz b).1 hw
 have hbe:=b.sz_eq
 refine Zx 53 Tryz.func52 (ar (iA (VE b) fun b1=>iA [nl,.i 0] fun b2=>ie (ZB 3 [1] (iA [nl,.i 0] fun b3=>Y4 0 b3 [nl,.i b.result] (ie (ar (iMk 3 3 fun b4=>iA [.val (.map none)] fun b5=>?_)))))))
 refine Y4 0 b5 [.val (.map (some b4))] (ie (Zh (Yp 2 [4] (iw (T8 b.steps) (Z0 (ab 0 (TU 5 (Wq (tB [] [] [] (YC []) (by simp [WS,WR,V0,V1,V2,V3,WZ,YC,YS,Xw,YW,X8,X2,X5,Wg,Wh,Wi,Xh])) (ZU (fun fz gz m F h=>∃(k:Nat) (xs:List ZX) (v:Value) (L:List (Int × Int)),(k<=b.steps.length)/\(WF xs++WY (b.steps.drop k) L=WY b.steps [])/\(L.length<=k)/\(Un L)/\(∀p∈L,0<=p.1/\p.1<=1000000000)/\F=sF [2,3,4,5,14,15] fz [(16,.i k)]/\h=[Zy gz 2,rM Tryz.prog b4 3 3 L,.obj b3 [U8 xs v,.i b.result],Zy gz 5,.tail v 5,.many (YC xs)]/\m=b.steps.length-k) _ _ _ ⟨0,[],(.slice none 0 0),[],ob,rfl,ob,Un.nil,(fun p hp=>by cases hp),rfl,rfl,rfl⟩ (wk [2,2,2,2,1,0] (ZW fl)) ?_)))))))))
 rintro m F h ⟨k,xs,v,L,Y0,Z9,Zz,Y8,XG,rfl,rfl,rfl⟩
 refine Zh (aq (Xi ((k:Int)<(b.steps.length:Int)) (fun Z5=>?_) (fun Z5=>?_)))
 ·have hxl:=E8 hws Z9
  rw [TH] at hxl
  refine ak (aq (ab 1 (ar ?_)))
  obtain ⟨x1,Z2⟩:=Zv b.steps k om
  have YH:=Dw Z2
  have hwS:=SG hw Z2
  have hrS:=Zaf hr Z2
  have hse:=(x1).sz_eq
  refine Zi (Zr none (k:Int) 5 (U7 Z2)) (Z1 1 (iA [.i 0,.i 0,.i 0,nl,nl] fun b6=>Y4 0 b6 (WT x1) (ie (JE [0] (ab 2 (ar (Yw (x1.op==14) Zs (fun Zd=>?_) (fun Zd=>?_))))))))
  ·refine aE 8 (Ya 5 8 [0,1,2] [1,0] ?_)
   obtain ⟨x2,Zt⟩:=Zv x1.args 0 (by obtain ⟨_,_,a,ha⟩:=Bl hwS (by simp [YT];omega);rw [ha];simp)
   obtain ⟨_,_,pa,hpa⟩:=Bl hwS (by simp [YT];omega)
   have hg0:=Ja Zt
   have hxb:=((Fj x1).1 hrS).1 x2 (YF Zt)
   have hnb:=C5 x2 Y8
   exact dx 3 (Zr none 0 1 (Yf Zt)) (Zo 3 4 [4] (Qm 5 (EV 2 b4 3 3 L x2 om) (da 6 (((Xa L x2)+1)) (((Xa L x2))+(1)) (ZF 7 (Na 7 2 [] [] b4 3 3 L x2 1 ((Xa L x2)+1) om om om om (de (az (ZK k (Z0 (ZJ ⟨k+1,xs,v,(L++[(x2,1)]),ob,(by have h:=GK Z2 (.inl (by assumption)) Z9;rw [ev,hg0,Z6 (by assumption)] at h;exact h),(by rw [YE];simp only [XI,Vy];omega),(by have h:=Y8.snoc x1;rw [ev,hg0,Z6 (by assumption)] at h;exact h),(by have h:=NJ hrS hpa XG;rw [ev,hg0,Z6 (by assumption)] at h;exact h),rfl,rfl,rfl⟩ (wk [2,0,1,1,1,1] (ZL k fl))))))))))))
  refine ar (Yw (x1.op==15) Zs (fun Zw=>?_) (fun Zw=>?_))
  ·refine aE 8 (Ya 5 8 [0,1,2] [1,0] ?_)
   obtain ⟨x3,X0⟩:=Zv x1.args 0 (by obtain ⟨_,_,a,ha⟩:=Bl hwS (by simp [YT];omega);rw [ha];simp)
   obtain ⟨_,_,pa,hpa⟩:=Bl hwS (by simp [YT];omega)
   have hg0:=Ja X0
   have hxb:=((Fj x1).1 hrS).1 x3 (YF X0)
   have hnb:=C5 x3 Y8
   exact dx 3 (Zr none 0 1 (Yf X0)) (Zo 3 4 [4] (Qm 5 (EV 2 b4 3 3 L x3 om) (da 6 (((Xa L x3)-1)) (((Xa L x3))-(1)) (ZF 7 (Na 7 2 [] [] b4 3 3 L x3 (-1) ((Xa L x3)-1) om om om om (de (az (ZK k (Z0 (ZJ ⟨k+1,xs,v,(L++[(x3,(-1))]),ob,(by have h:=GK Z2 (.inr (by assumption)) Z9;rw [ev,hg0,Z4 (by assumption)] at h;exact h),(by rw [YE];simp only [XI,Vy];omega),(by have h:=Y8.snoc x1;rw [ev,hg0,Z4 (by assumption)] at h;exact h),(by have h:=NJ hrS hpa XG;rw [ev,hg0,Z4 (by assumption)] at h;exact h),rfl,rfl,rfl⟩ (wk [2,0,1,1,1,1] (ZL k fl))))))))))))
  refine ZM 1 (ic [1,2,1,2,2] (Oh b5 b3 b4 L xs v b.result (hu:=Y8) (hk:=XG)) ?_)
  rintro _ _ ⟨ys1,w1,rfl,Yd⟩
  have hfl:=Yd
  have hfll:=Ys List.length hfl
  rw [TH,YE,TH] at hfll
  have hsl:=Fv Y8
  refine ie (aE 8 (Ya 5 8 [0,1,2] [1,5] (ZF 3 (dc 3 [] [1] [b3] (Z6r ds z x1 (hw:=hwS) (hr:=hrS) (ih:=ih)) ?_))))
  rintro _ _ ⟨y1,rfl,rfl,YX⟩
  have hmk:=YX
  exact ZF 4 (dL 4 [1] [b3] [TB y1] 1 5 fun v1=>UT 3 3 [] [(28,.sl [TB y1] none)] (ZF 5 (dp 5 5 [] [] (WE (ys1++[y1])) (WE ys1) [TB y1] w1 none 5 (CK _) (D8 rfl) rfl (by simp<;>omega) (by simp [Er,Ah]) fun v2=>Jz (tB [6,2] [.many (YC ys1),.many (Xw y1)] (YC ys1++(Xw y1++[])) (YC (ys1++[y1])) (by simp [WS,WR,V0,V1,V2,V3,WZ,YC,YS,Xw,YW,X8,X2,X5,Wg,Wh,Wi,Xh])) (Zo 1 2 [6] (ZF 7 (UC 7 4 [] [] b3 [U8 (ys1++[y1]) v2,.i b.result] (de (az (ZK k (Z0 (ZJ ⟨k+1,(ys1++[y1]),v2,[],ob,(by rw [Hm,Hn,hfl,hmk];exact MK Z2 om Z9),(TT _),Un.nil,(fun p hp=>by cases hp),rfl,rfl,rfl⟩ (wk [4,4,0,4,1,0] (ZL k fl)))))))))))))
 have hxl:=E8 hws Z9
 rw [TH] at hxl
 refine ax 0 (ZM 1 (ic [0,1,0,1,1] (Oh b5 b3 b4 L xs v b.result (hu:=Y8) (hk:=XG)) ?_))
 rintro _ _ ⟨ys2,w2,rfl,XB⟩
 have hfl:=XB
 have hfll:=Ys List.length hfl
 rw [TH,YE,TH] at hfll
 have hsl:=Fv Y8
 exact ie (ZB 1 [1] (Y4 5 b2 [U8 ys2 w2,.i b.result] (ie (Wq (tB [5,4] [.many (YC ys2),.tail w2 5] (YC ys2++((w2,5)::[])) (YW (ZV.mk ys2 w2 b.result)) (by simp [WS,WR,V0,V1,V2,V3,WZ,YC,YS,Xw,YW,X8,X2,X5,Wg,Wh,Wi,Xh])) (ZG (r3 [0] [.agg [U8 ys2 w2,.i b.result]] [1] [(b2,b2)] ⟨(ZV.mk ys2 w2 b.result),rfl,rfl,(by rw [ZV.er,GH,hfl];exact Ys (fun q=>Zf.mk q b.result) (MJ om Z9))⟩ (lr _)))))))
theorem Z6h (ds:List Zg) (m:Nat):∀(b2:Zf),(b2.sz<=m)->(b2.sz<=10000000)->(wB ds b2)->(pB b2)->Za 52 [YG b2] [] (fun r h=>∃(y:ZV),r=Tp y/\h=[.many (YW y)]/\y.er=W9 b2):=by
 induction m with
 | zero=>intro b h;have:=b.sz_pos;omega
 | succ m ih=>intro b h1 h2 h3 h4;exact Z6g ds m b h1 ih h2 h3 h4
theorem Z6i (ds:List Zg) (b:Zf) (hl:b.sz<=10000000:=by exact ob) (hw:wB ds b:=by exact ob) (hr:pB b:=by exact ob):Za 52 [YG b] [] (fun r h=>∃(y:ZV),r=Tp y/\h=[.many (YW y)]/\y.er=W9 b):=Z6h ds b.sz b (X1 _) hl hw hr
theorem Z6f (ds:List Zg) (rt:Yy) (b:Zf) (hl:b.sz<=10000000:=by exact ob) (hw:wB ds b:=by exact ob) (hr:pB b:=by exact ob):Za 51 [QZ rt,YG b] [] (fun r h=>∃(y:ZV),r=Tp y/\h=[.many (YW y)]/\y.er=W9 b):=by
 refine Zx 7 Tryz.func51 (ar (iA (TM rt) fun b1=>iA (VE b) fun b2=>iA [nl,.i 0] fun b3=>ie (ZB 1 [1] (ic [] (Z6i ds b) ?_))))
 rintro _ _ ⟨y1,rfl,rfl,Yd⟩
 exact Y4 1 b3 (JL y1) (ie (ZG (r3 [1] [Tp y1] [0] [(b3,b3)] ⟨y1,rfl,rfl,ob⟩ (lr _))))
theorem Z6q (n:Zj) (hn:YZ n:=by exact ob) (hz:WM n:=by exact ob) (hbt:∀r∈n.routines,0<=Yv n r.params r.body):Za 50 [X6 n,.val (.func (.func 51) #[] #[])] [] (fun r h=>∃(y:X7),r=VJ y/\h=[.many (Xh y)]/\y.er=Wr n):=by
 have hzl:=hn.len
 refine Zx 40 Tryz.func50 (ar (iA (Wb n) fun b1=>iA [nl,nl] fun b2=>ie (ZB 2 [1] (ic [] (Z6j n.decls (hd:=hn.decls)) ?_))))
 rintro _ _ ⟨ys1,w1,rfl,rfl,Yd⟩
 have hde:=Yd
 refine Z1 1 (iA [nl,nl] fun b3=>?_)
 refine Y4 0 b3 [Kh ys1 w1,nl] (ie (Yp 2 [4] (iw (UJ n.routines) (Z0 (ab 0 (TU 5 (Wq (tB [] [] [] (X5 []) (by simp [WS,WR,V0,V1,V2,V3,WZ,YC,YS,Xw,YW,X8,X2,X5,Wg,Wh,Wi,Xh])) (ZU (fun fz gz m F h=>∃(k:Nat) (xs:List YQ) (v:Value),(k<=n.routines.length)/\(xs.map YQ.er=(n.routines.take k).map U4)/\(xs.length=k)/\F=sF [1,4,5,13,14] fz [(15,.i k)]/\h=[.obj b3 [Kh ys1 w1,JS xs v],Zy gz 3,Zy gz 5,.tail v 5,Zy gz 4,.many (X5 xs)]/\m=n.routines.length-k) _ _ _ ⟨0,[],(.slice none 0 0),ob,rfl,rfl,rfl,rfl,rfl⟩ (wk [2,2,3,1,1,0] (ZW fl)) ?_))))))))
 rintro m F h ⟨k,xs,v,Y0,Z9,Zz,rfl,rfl,rfl⟩
 refine Zh (aq (Xi ((k:Int)<(n.routines.length:Int)) (fun Z5=>?_) (fun Z5=>?_)))
 ·refine ak (aq (ab 1 (ar ?_)))
  obtain ⟨x1,Z2⟩:=Zv n.routines k om
  have hrm:=YF Z2
  have hbz:=hz.body _ hrm
  have hpl:=hn.params_at Z2
  have hll:=hn.lent_at Z2
  have hwb:=DH hn hz hbt _ hrm
  have hpb:=Zag hn hz hbt _ hrm
  refine Zi (Zr none (k:Int) 5 (Us Z2)) (Z1 1 (iA [nl,nl,.i 0,nl,.i 0] fun b4=>Y4 0 b4 (TM x1) (ie (aE 20 (Ya 8 20 [0,1,2,3,5,6,8,9,10,11,12,13] [1,0,0,0,0,0] (ZF 4 (dc 4 [] [0,0,0,0,1] [b4,b4,b4,b4,b3] (CC x1.params) ?_)))))))
  rintro _ _ ⟨v1,rfl,rfl⟩
  refine ZF 7 (dc 7 [] [0,0,0,1] [b4,b4,b4,b3] (CC x1.lent) ?_)
  rintro _ _ ⟨v2,rfl,rfl⟩
  refine ZF 14 (dc 14 [] [0,1] [b4,b3] (Z6f n.decls x1 x1.body (hw:=hwb) (hr:=hpb)) ?_)
  rintro _ _ ⟨y1,rfl,rfl,YX⟩
  exact Zo 4 5 [15] (ZF 16 (dL 16 [1] [b3] (V8 [YQ.mk x1.params v1 x1.lent v2 x1.result (ZV.mk y1.steps y1.sv y1.result)]) 1 5 fun v3=>UT 3 3 [] [(35,Z9h [YQ.mk x1.params v1 x1.lent v2 x1.result (ZV.mk y1.steps y1.sv y1.result)])] (ZF 17 (dp 17 8 [] [] (V8 (xs++[YQ.mk x1.params v1 x1.lent v2 x1.result (ZV.mk y1.steps y1.sv y1.result)])) (V8 xs) (V8 [YQ.mk x1.params v1 x1.lent v2 x1.result (ZV.mk y1.steps y1.sv y1.result)]) v none 5 (Eo _) (Eo _) (Z42 _) (by simp<;>omega) (by simp [Nq,V8]) fun v4=>Jz (tB [10,4,3,2] [.many (X5 xs),.tail v1 1,.tail v2 1,.many (YW y1)] (X5 xs++((v1,1)::((v2,1)::(YW y1++[])))) (X5 (xs++[YQ.mk x1.params v1 x1.lent v2 x1.result (ZV.mk y1.steps y1.sv y1.result)])) (by simp [WS,WR,V0,V1,V2,V3,WZ,YC,YS,Xw,YW,X8,X2,X5,Wg,Wh,Wi,Xh,EF,ZV.steps,ZV.sv])) (Zo 1 2 [18] (ZF 19 (UC 19 4 [] [] b3 [Kh ys1 w1,JS (xs++[YQ.mk x1.params v1 x1.lent v2 x1.result (ZV.mk y1.steps y1.sv y1.result)]) v4] (de (az (ZK k (Z0 (ZJ ⟨k+1,(xs++[YQ.mk x1.params v1 x1.lent v2 x1.result (ZV.mk y1.steps y1.sv y1.result)]),v4,ob,(Z94 Z9 Z2 (by show Yy.mk _ _ _ (ZV.er (ZV.mk y1.steps y1.sv y1.result))=Yy.mk _ _ _ _;rw [ZV.eta];exact Ys (Yy.mk x1.params x1.lent x1.result) (by assumption))),(by simp [Zz]),rfl,rfl,rfl⟩ (wk [0,4,4,1,3,0] (ZL k fl))))))))))))))
 exact ax 0 (ZB 1 [0] (Y4 2 b2 [Kh ys1 w1,JS xs v] (ie (Wq (tB [2,3,3,2] [.many (X2 ys1),.tail w1 3,.many (X5 xs),.tail v 5] (X2 ys1++((w1,3)::(X5 xs++((v,5)::[])))) (Xh (X7.mk ys1 w1 xs v)) (by simp [WS,WR,V0,V1,V2,V3,WZ,YC,YS,Xw,YW,X8,X2,X5,Wg,Wh,Wi,Xh])) (ZG (r3 [0] [.agg [Kh ys1 w1,JS xs v]] [1] [(b2,b2)] ⟨(X7.mk ys1 w1 xs v),rfl,rfl,(by show Zj.mk (ys1.map YP.er) (xs.map YQ.er)=_;rw [hde,Z9,W6 om];rfl)⟩ (lr _)))))))
theorem Oa (n:Zj) (hz:WM n:=by exact ob) (hr:∀r∈n.routines,r.body.rng):Za 21 [X6 n] [] (fun r h=>∃(y:X7),r=.tup [VJ y,.b ((XM n).2)]/\h=[.many (Xh y)]/\y.er=(XM n).1):=by
 refine Zx 10 Tryz.func21 (ar (iA (Wb n) fun b1=>iA [nl,nl] fun b2=>Z0 (Yp 1 [1] (ZC [] (Z65 n (hr:=ob)) (Yw (!U2 n) (p:=¬(U2 n=true)) (Yl Iff.rfl) (fun Z5=>?_) (fun Z5=>?_))))))
 ·have hE:XM n=(Ff,false):=Z4 Z5
  exact ZM 1 (Y4 0 b2 [nl,nl] (Z0 (TU 5 (TU 3 (Wq (tB [0,0] [.tail (.slice none 0 0) 3,.tail (.slice none 0 0) 5] (((.slice none 0 0),3)::(((.slice none 0 0),5)::[])) (Xh (X7.mk [] (.slice none 0 0) [] (.slice none 0 0))) (by simp [WS,WR,V0,V1,V2,V3,WZ,YC,YS,Xw,YW,X8,X2,X5,Wg,Wh,Wi,Xh])) (ZG (r3 [0] [.agg [nl,nl],.b false] [1] [(b2,b2)] ⟨(X7.mk [] (.slice none 0 0) [] (.slice none 0 0)),rfl,rfl,(by rw [hE];rfl)⟩ (Zm.tup (.cons (lr _) (.cons (lb (by rw [hE])) .nil))))))))))
 have hB:U2 n=true:=Ww.1 Z5
 obtain ⟨hn,hsg,hbt⟩:=BB hz hB
 have hE:XM n=(Wr n,true):=Z6 hB
 refine ak (ZB 1 [1] (ic [] (Z6q n (hn:=hn) (hbt:=hbt)) ?_))
 rintro _ _ ⟨y1,rfl,rfl,Yd⟩
 have hmb:=Yd
 exact Y4 1 b2 (C2 y1) (Z8 (r3 [1] [VJ y1,.b true] [0] [(b2,b2)] ⟨y1,rfl,rfl,(by rw [hE];exact hmb)⟩ (Zm.tup (.cons (lr _) (.cons (lb (by rw [hE])) .nil)))))
theorem Zd7 (ds:List Zg) (n:Nat) (hz:Jm ds:=by exact ob) (hn:n<ds.length:=by exact ob):Za 186 [ZI ds,.i n] [] (ZQ (.b (B0 ds n))):=by
 have hl_ds:ds.length<=4294967296:=by have:=hz.len;omega
 refine Zx 100 Tryz.func186 (Zh (ZM 2 ?_))
 obtain ⟨x1,Z2⟩:=Zv ds n om
 have hdo:=CJ Z2
 have hz1:=hz.cons_at Z2
 refine Zi (Zr none (n:Int) 3 (Vm Z2)) (Z1 1 (iA [.i 0,.i 0,nl] fun b1=>Y4 0 b1 (Uh x1) (ie (Yp 2 [0] (iw (Vl x1.cons) (ZO ((x1.cons.length:Int)>0) (fun Z5=>?_) (fun Z5=>?_)))))))
 ·refine Yp 2 [0] (iw (Vl x1.cons) (XC 9 [0,5] [(24,.b ((decide ((x1.cons.length:Int)>3))||(x1.frm != 0)))] (fun gz=>gz) ?_ (fun hj1=>?_)))
  ·refine Wa [0,5] [(29,.b (((decide ((x1.cons.length:Int)>3))||(x1.frm != 0))||(x1.to_ != 0)))] (fun gz=>gz) ?_ ?_
   ·refine Z1 1 (ib (b:=((decide ((x1.cons.length:Int)>3))||(x1.frm != 0))) 25 (fun Zc=>?_) (fun Zc=>?_))
    ·have Yd:((x1.cons.length:Int)>3)∨(x1.frm≠0):=((Yj dq ZP)).1 Zc
     exact Z0 (wk [0] (Zq true Zc fl))
    have YX:¬(((x1.cons.length:Int)>3)∨(x1.frm≠0)):=Y3 (Yj dq ZP) Zc
    exact Vv [0] (wk [0] (Zq (x1.to_ != 0) Zc fl))
   refine ac (((decide ((x1.cons.length:Int)>3))||(x1.frm != 0))||(x1.to_ != 0)) (p:=(((x1.cons.length:Int)>3)∨(x1.frm≠0))∨(x1.to_≠0)) (Yj (Yj dq ZP) ZP) (fun Zd=>?_) (fun Zd=>?_)
   ·exact ar (Z8 (Zp (.b false) (lb (by clear Z2;first|rfl|omega|grind [Ur]))))
   refine ak (Ym (ab 0 (ZU (fun fz gz m F h=>∃(k:Nat),(k<=x1.cons.length)/\(Th ds.length (x1.cons.drop k)=Th ds.length x1.cons)/\F=sF [0,5] fz [(6,.i k)]/\h=gz/\m=x1.cons.length-k) _ _ _ ⟨0,ob,ob,rfl,rfl,rfl⟩ (wk [0] (ZW fl)) ?_)))
   rintro m F h ⟨k,Y0,Z9,rfl,rfl,rfl⟩
   refine Yp 3 [0] (iw (Vl x1.cons) (ZO ((k:Int)<(x1.cons.length:Int)) (fun Zw=>?_) (fun Zw=>?_)))
   ·refine ak (aq (ab 1 (ZB 3 [0] ?_)))
    obtain ⟨x2,Zt⟩:=Zv x1.cons k om
    refine Zi (Zr none (k:Int) 1 (KF Zt)) (Z1 2 (iw (Yn x2.fields) (Wa [0,5,6] [(55,.b ((decide ((x2.fields.length:Int)>3))||(!XT ds.length x2.fields)))] (fun gz=>gz) ?_ ?_)))
    ·refine Z1 2 (ib (b:=(decide ((x2.fields.length:Int)>3))) 45 (fun ZD=>?_) (fun ZD=>?_))
     ·have XB:(x2.fields.length:Int)>3:=(dq).1 ZD
      exact Z0 (wk [0] (Zq true ZD fl))
     have XH:¬((x2.fields.length:Int)>3):=Y3 dq ZD
     exact Y6 4 [0] (Zi (Zr none (k:Int) 1 (KF Zt)) (Z1 2 (ZC [] (RO ds x2.fields) (Z0 (wk [0] (Zq (!XT ds.length x2.fields) ZD fl))))))
    refine ac ((decide ((x2.fields.length:Int)>3))||(!XT ds.length x2.fields)) (p:=((x2.fields.length:Int)>3)∨(¬(XT ds.length x2.fields=true))) (Yj dq (Yl Iff.rfl)) (fun Yg=>?_) (fun Yg=>?_)
    ·refine Zh ?_
     rw [ZH Zt] at Z9
     exact ZG (Zp (.b false) (lb (by clear Z2 Zt;first|rfl|omega|grind [Th,KE,Ur])))
    refine ak (az (Z1 1 (ZK k (Z0 ?_))))
    have hdr:=ZH Zt
    exact ZJ ⟨k+1,ob,(by rw [hdr] at Z9;clear hdr Z2 Zt;grind [Th,KE]),rfl,rfl,rfl⟩ (wk [0] (ZL k fl))
   refine ax 0 (Zh ?_)
   try rw [YV (xs:=x1.cons) (k:=k) om] at Z9
   exact ZG (Zp (.b true) (lb (by clear Z2;first|rfl|omega|grind [Th,KE,Ur])))
  refine Z1 2 (ib (b:=(decide ((x1.cons.length:Int)>3))) 20 (fun Yq=>?_) (fun Yq=>?_))
  ·have VT:(x1.cons.length:Int)>3:=(dq).1 Yq
   exact Z1 4 (Ye (wk [0] (Zq true Yq fl)) hj1)
  have Uu:¬((x1.cons.length:Int)>3):=Y3 dq Yq
  exact Y6 4 [0] (Ye (wk [0] (Zq (x1.frm != 0) Yq fl)) hj1)
 refine ak (Ym (ab 2 (ZU (fun fz gz m F h=>∃(j:Nat),(j<=n)/\(Ql x1 ((ds.take n).drop j)=Ql x1 (ds.take n))/\F=sF [0,1,5] fz [(7,.i j)]/\h=gz/\m=n-j) _ _ _ ⟨0,ob,ob,rfl,rfl,rfl⟩ (wk [0] (ZW fl)) ?_)))
 rintro m F h ⟨j,T6,Xk,rfl,rfl,rfl⟩
 refine Yt (ZO ((j:Int)<(n:Int)) (fun Xp=>?_) (fun Xp=>?_))
 ·refine ak (aq (ab 3 (aD 27 (Zo 25 27 [0,1] ?_))))
  obtain ⟨x3,X0⟩:=Zv ds j om
  refine dx 2 (Zr none (j:Int) 3 (Vm X0)) (Zo 22 24 [3,4] (dw 5 (Vl x3.cons) (Jw [0,1,5,7] [(87,.b (((x3.cons.length:Int)==0)&&((x3.frm==x1.frm)&&(x3.to_==x1.to_))))] (fun gz=>gz) ?_ ?_)))
  ·refine Zo 19 21 [6,7] (db (b:=((x3.cons.length:Int)==0)) 68 (fun Xg=>?_) (fun Xg=>?_))
   ·have T1:(x3.cons.length:Int)=0:=(Zs).1 Xg
    refine Zo 17 19 [8,9] (dx 10 (Zr none (j:Int) 3 (Vm X0)) (Ya 9 16 [11,12,13,14,15,16,17] [0] (db (b:=(x3.frm==x1.frm)) 78 (fun WG=>?_) (fun WG=>?_))))
    ·have Tj:x3.frm=x1.frm:=(Zs).1 WG
     exact Zo 7 9 [18,19] (dx 20 (Zr none (j:Int) 3 (Vm X0)) (Ya 0 6 [21,22,23,24,25,26] [0] (de (wk [0] (Zq (x3.to_==x1.to_) (And.intro Xg WG) fl)))))
    have Qp:¬(x3.frm=x1.frm):=Y3 Zs WG
    exact Zo 0 9 [18,19,20,21,22,23,24,25,26] (de (wk [0] (Zq false (And.intro Xg WG) fl)))
   have Ke:¬((x3.cons.length:Int)=0):=Y3 Zs Xg
   exact Zo 0 19 [8,9,10,11,12,13,14,15,16,17,18,19,20,21,22,23,24,25,26] (de (wk [0] (Zq false Xg fl)))
  refine ac (((x3.cons.length:Int)==0)&&((x3.frm==x1.frm)&&(x3.to_==x1.to_))) (p:=((x3.cons.length:Int)=0)/\((x3.frm=x1.frm)/\(x3.to_=x1.to_))) (YD Zs (YD Zs Zs)) (fun Wf=>?_) (fun Wf=>?_)
  ·refine Zh ?_
   rw [ZH (show (ds.take n)[j]? = some x3 by rw [TS,Z6 om];exact X0),Ql,Z6 om] at Xk
   exact ZG (Zp (.b false) (lb (by clear Z2 X0;first|rfl|omega|grind [Ur])))
  refine ak (az (Z1 1 (ZK j (hb:=(by have:=hz.len;omega)) (Z0 ?_))))
  have hdr:=ZH X0
  exact ZJ ⟨j+1,ob,(by rw [ZH (show (ds.take n)[j]? = some x3 by rw [TS,Z6 om];exact X0),Ql,Z4 om] at Xk;exact Xk),rfl,rfl,rfl⟩ (wk [0] (ZL j fl))
 refine ax 2 (ZB 3 [0] (iw (VB ds) (ZC [] (Tl x1.frm 0 (ds.length:Int)) (XC 12 [] [(99,.b ((decide (0<=x1.frm/\x1.frm<=(ds.length:Int)))&&(decide (0<=x1.to_/\x1.to_<=(ds.length:Int)))))] (fun gz=>gz) ?_ (fun hj2=>?_)))))
 ·refine Z0 ?_
  rw [YV (show (ds.take n).length<=j by rw [Kv];omega),Ql] at Xk
  exact ZG (Zp (.b ((decide (0<=x1.frm/\x1.frm<=(ds.length:Int)))&&(decide (0<=x1.to_/\x1.to_<=(ds.length:Int))))) (lb (by clear Z2;first|rfl|omega|grind [Ur])))
 refine Z1 1 (ib (b:=(decide (0<=x1.frm/\x1.frm<=(ds.length:Int)))) 93 (fun Ve=>?_) (fun Ve=>?_))
 ·have JH:0<=x1.frm/\x1.frm<=(ds.length:Int):=(dq).1 Ve
  exact Y6 3 [0] (iw (VB ds) (ZC [] (Tl x1.to_ 0 (ds.length:Int)) (Z1 1 (Ye (wk [0] (Zq (decide (0<=x1.to_/\x1.to_<=(ds.length:Int))) Ve fl)) hj2))))
 have Am:¬(0<=x1.frm/\x1.frm<=(ds.length:Int)):=Y3 dq Ve
 exact Z1 6 (Ye (wk [0] (Zq false Ve fl)) hj2)
theorem Zdd (ds:List Zg) (hz:Jm ds:=by exact ob):Za 125 [ZI ds] [] (ZQ (.b (WB ds))):=by
 have hzl:=hz.len
 refine Zx 17 Tryz.func125 (Zh (Yb 1 (iw (VB ds) (ZO ((ds.length:Int)>4) (fun Z5=>?_) (fun Z5=>?_)))))
 ·exact ar (Z8 (Zp (.b false) (lb (by first|rfl|omega|grind [WB]))))
 refine ak (Ym (ab 0 (ZU (fun fz gz m F h=>∃(k:Nat),(k<=ds.length)/\(UU ds (ds.drop k) k=UU ds ds 0)/\F=sF [0] fz [(3,.i k)]/\h=gz/\m=ds.length-k) _ _ _ ⟨0,ob,ob,rfl,rfl,rfl⟩ (wk [] (ZW fl)) ?_)))
 rintro m F h ⟨k,Y0,Z9,rfl,rfl,rfl⟩
 refine Yb 2 (iw (VB ds) (ZO ((k:Int)<(ds.length:Int)) (fun Zd=>?_) (fun Zd=>?_)))
 ·refine ak (aq (ab 1 (ZM 2 (ZC [] (Zd7 ds k) (Yw (!B0 ds k) (p:=¬(B0 ds k=true)) (Yl Iff.rfl) (fun Zw=>?_) (fun Zw=>?_))))))
  ·refine Zh ?_
   try rw [YV (xs:=ds) (k:=k) om] at Z9
   obtain ⟨x1,Z2⟩:=Zv ds k om
   rw [ZH Z2] at Z9
   exact ZG (Zp (.b false) (lb (by first|rfl|omega|grind [UU,WB])))
  refine ak (az (Z1 1 (ZK k (Z0 ?_))))
  obtain ⟨x1,Z2⟩:=Zv ds k om
  have hdr:=ZH Z2
  exact ZJ ⟨k+1,ob,(by rw [hdr] at Z9;clear hdr ;grind [UU]),rfl,rfl,rfl⟩ (wk [] (ZL k fl))
 refine ax 0 (Zh ?_)
 try rw [YV (xs:=ds) (k:=k) om] at Z9
 exact ZG (Zp (.b true) (lb (by first|rfl|omega|grind [UU,WB])))
theorem Zd2 (n:Zj) (hz:n.routines.length<=4194304:=by exact ob):Za 195 [X6 n] [] (ZQ (.agg [ZI n.decls,.sl (U6 (n.routines.map VZ)) none])):=by
 refine Zx 35 Tryz.func195 (ar (iA (Wb n) fun b1=>iA [nl,nl] fun b2=>ie (ZB 2 [1] (iL (U6 []) 0 5 fun v1=>Z1 1 (iA [nl,nl] fun b3=>?_)))))
 refine Y4 0 b3 [ZI n.decls,.sl (U6 []) (some v1)] (ie (Ym (ab 0 (ZU (fun fz gz m F h=>∃(k:Nat) (v:Value),(k<=n.routines.length)/\F=sF [1,2,3] fz [(4,.i k)]/\h=[.obj b3 [ZI n.decls,.sl (U6 ((n.routines.take k).map VZ)) (some v)],Zy gz 2,Zy gz 3,.tail v 5]/\m=n.routines.length-k) _ _ _ ⟨0,v1,ob,rfl,rfl,rfl⟩ (wk [0,1,1,0] (ZW fl)) ?_))))
 rintro m F h ⟨k,v,Y0,rfl,rfl,rfl⟩
 refine Yp 3 [2] (iw (UJ n.routines) (ZO ((k:Int)<(n.routines.length:Int)) (fun Z5=>?_) (fun Z5=>?_)))
 ·refine ak (aq (ab 1 (aE 19 (Ya 14 19 [0,1,2,3,4] [0,2] ?_))))
  obtain ⟨x1,Z2⟩:=Zv n.routines k om
  refine dx 5 (Zr none (k:Int) 5 (Us Z2)) (Ya 8 13 [6,7,8,9,10] [2] (dx 11 (Zr none (k:Int) 5 (Us Z2)) (UT 4 7 [12,13,14] [(30,.agg [Ze x1.params,.i x1.result,.i 0,.i 0,.sl [] none])] (ZF 15 (dL 15 [0] [b3] (U6 [Sg.mk x1.params x1.result]) 1 5 fun v2=>UT 3 3 [] [(31,.sl (U6 [Sg.mk x1.params x1.result]) none)] (ZF 16 (dp 16 4 [] [] (U6 ((n.routines.take (k+1)).map VZ)) (U6 ((n.routines.take k).map VZ)) (U6 [Sg.mk x1.params x1.result]) v none 5 (Nw _) (Nw _) (Z47 _) (by simp<;>omega) (by rw [WU Z2];simp [U6,VZ]) fun v3=>Zo 1 2 [17] (ZF 18 (UC 18 2 [] [] b3 [ZI n.decls,.sl (U6 ((n.routines.take (k+1)).map VZ)) (some v3)] (de (az (Z1 1 (ZK k (Z0 ?_))))))))))))))
  have hdr:=ZH Z2
  exact ZJ ⟨k+1,v3,ob,rfl,rfl,rfl⟩ (wk [0,2,2,0] (ZL k fl))
 exact ax 0 (ZB 1 [0] (Y4 1 b2 [ZI n.decls,.sl (U6 ((n.routines.take k).map VZ)) (some v)] (ie (ZG (r3 [] [.agg [ZI n.decls,.sl (U6 ((n.routines.take k).map VZ)) (some v)]] [0] [(b2,b2)] ⟨rfl,rfl⟩ (Zm.agg (.cons (lr _) (.cons (Zm.sl _ (Ys U6 (by rw [show k=n.routines.length by omega,Kx]))) .nil))))))))
theorem Zdc (ds:List Zg) (fs:List Sg) (hz:Jm ds:=by exact ob) (hf:∀f∈fs,f.params.length<=1100000000):Za 70 [.agg [ZI ds,.sl (U6 fs) none]] [] (ZQ (.b (Qx ds fs))):=by
 have hzl:=hz.len
 refine Zx 64 Tryz.func70 (ar (iA [ZI ds,.sl (U6 fs) none] fun b1=>Z0 (Yp 2 [0] (ZC [] (Zdd ds) (Wa [1] [(15,.b ((!WB ds)||(!(decide (1<=(fs.length:Int)/\(fs.length:Int)<=4)))))] (fun gz=>gz) ?_ ?_)))))
 ·refine Z1 2 (ib (b:=(!WB ds)) 9 (fun Zc=>?_) (fun Zc=>?_))
  ·have Yd:¬(WB ds=true):=((Yl Iff.rfl)).1 Zc
   exact Z0 (wk [0] (Zq true Zc fl))
  have YX:¬(¬(WB ds=true)):=Y3 (Yl Iff.rfl) Zc
  exact Y6 2 [0] (iw (Nx fs) (ZC [] (Tl (fs.length:Int) 1 4) (Z0 (wk [0] (Zq (!(decide (1<=(fs.length:Int)/\(fs.length:Int)<=4))) Zc fl)))))
 refine ac ((!WB ds)||(!(decide (1<=(fs.length:Int)/\(fs.length:Int)<=4)))) (p:=(¬(WB ds=true))∨(¬(1<=(fs.length:Int)/\(fs.length:Int)<=4))) (Yj (Yl Iff.rfl) (Yl dq)) (fun Z5=>?_) (fun Z5=>?_)
 ·exact ar (Z8 (Zp (.b false) (lb (by first|rfl|omega|grind [Qx]))))
 refine ak (Ym (ab 0 (ZU (fun fz gz m F h=>∃(k:Nat),(k<=fs.length)/\(Kl ds.length (fs.drop k)=Kl ds.length fs)/\F=sF [1] fz [(3,.i k)]/\h=gz/\m=fs.length-k) _ _ _ ⟨0,ob,ob,rfl,rfl,rfl⟩ (wk [0] (ZW fl)) ?_)))
 rintro m F h ⟨k,Y0,Z9,rfl,rfl,rfl⟩
 refine Yp 3 [0] (iw (Nx fs) (ZO ((k:Int)<(fs.length:Int)) (fun Zd=>?_) (fun Zd=>?_)))
 ·refine ak (aq (ab 1 (ZB 3 [0] ?_)))
  obtain ⟨x1,Z2⟩:=Zv fs k om
  refine Zi (Zr none (k:Int) 5 (Hg Z2)) (Z1 1 (iA [nl,.i 0,.i 0,.i 0,nl] fun b2=>Y4 0 b2 [Ze x1.params,.i x1.result,.i 0,.i 0,.sl [] none] (ie (ZB 2 [0] (iw (Yn x1.params) (XC 12 [1,3,4] [(39,.b ((decide ((x1.params.length:Int)>3))||(!XT ds.length x1.params)))] (fun gz=>gz) ?_ (fun hj1=>?_)))))))
  ·refine Wa [1,3] [(48,.b (((decide ((x1.params.length:Int)>3))||(!XT ds.length x1.params))||(!(decide (0<=x1.result/\x1.result<=(ds.length:Int))))))] (fun gz=>gz) ?_ ?_
   ·refine Z1 1 (ib (b:=((decide ((x1.params.length:Int)>3))||(!XT ds.length x1.params))) 40 (fun ZD=>?_) (fun ZD=>?_))
    ·have XB:((x1.params.length:Int)>3)∨(¬(XT ds.length x1.params=true)):=((Yj dq (Yl Iff.rfl))).1 ZD
     exact Z0 (wk [0,0] (Zq true ZD fl))
    have XH:¬(((x1.params.length:Int)>3)∨(¬(XT ds.length x1.params=true))):=Y3 (Yj dq (Yl Iff.rfl)) ZD
    exact Y6 4 [0,1] (iw (VB ds) (ZC [] (Tl x1.result 0 (ds.length:Int)) (Z0 (wk [0,0] (Zq (!(decide (0<=x1.result/\x1.result<=(ds.length:Int)))) ZD fl)))))
   refine ac (((decide ((x1.params.length:Int)>3))||(!XT ds.length x1.params))||(!(decide (0<=x1.result/\x1.result<=(ds.length:Int))))) (p:=(((x1.params.length:Int)>3)∨(¬(XT ds.length x1.params=true)))∨(¬(0<=x1.result/\x1.result<=(ds.length:Int)))) (Yj (Yj dq (Yl Iff.rfl)) (Yl dq)) (fun Zw=>?_) (fun Zw=>?_)
   ·refine Zh ?_
    rw [ZH Z2] at Z9
    exact ZG (Zp (.b false) (lb (by clear Z2;first|rfl|omega|grind [Kl,Kk,Qx])))
   refine ak (az (Z1 1 (ZK k (Z0 ?_))))
   have hdr:=ZH Z2
   exact ZJ ⟨k+1,ob,(by rw [hdr] at Z9;clear hdr Z2;grind [Kl,Kk]),rfl,rfl,rfl⟩ (wk [1] (ZL k fl))
  refine Z1 2 (ib (b:=(decide ((x1.params.length:Int)>3))) 32 (fun Yq=>?_) (fun Yq=>?_))
  ·have VT:(x1.params.length:Int)>3:=(dq).1 Yq
   exact Z1 7 (Ye (wk [0,0] (Zq true Yq fl)) hj1)
  have Uu:¬((x1.params.length:Int)>3):=Y3 dq Yq
  exact Y6 4 [1,0] (ZC [] (RO ds x1.params) (Z1 2 (Ye (wk [0,0] (Zq (!XT ds.length x1.params) Yq fl)) hj1)))
 refine ax 0 (ZB 2 [0] ?_)
 obtain ⟨x2,Zt⟩:=Zv fs 0 om
 have hfo:=Z4v Zt
 refine Zi (Zr none 0 5 (Hg Zt)) (Z1 2 (iw (Yn x2.params) (XC 15 [] [(63,.b (((x2.params.length:Int)==0)&&(x2.result==0)))] (fun gz=>gz) ?_ (fun hj2=>?_))))
 ·refine Z0 ?_
  try rw [YV (xs:=fs) (k:=k) om] at Z9
  exact ZG (Zp (.b (((x2.params.length:Int)==0)&&(x2.result==0))) (lb (by clear Zt;first|rfl|omega|grind [Kl,Kk,Qx])))
 refine Z1 2 (ib (b:=((x2.params.length:Int)==0)) 56 (fun Xg=>?_) (fun Xg=>?_))
 ·have T1:(x2.params.length:Int)=0:=(Zs).1 Xg
  exact Y6 2 [0] (Zi (Zr none 0 5 (Hg Zt)) (Z1 4 (Ye (wk [0] (Zq (x2.result==0) Xg fl)) hj2)))
 have Tj:¬((x2.params.length:Int)=0):=Y3 Zs Xg
 exact Z1 7 (Ye (wk [0] (Zq false Xg fl)) hj2)
theorem Zd9 (ps:LI) (ls:LI) (hl_ps:ps.length<=4294967296:=by exact ob) (hl_ls:ls.length<=4294967296:=by exact ob):Za 128 [Ze ps,Ze ls] [] (ZQ (.b (Kq ps ls))):=by
 refine Zx 47 Tryz.func128 (Zh (Ym (ab 0 (ZU (fun fz gz m F h=>∃(k:Nat),(k<=ls.length)/\(Q4 ps (ls.drop k) (if k=0 then none else ls[k-1]?)=Kq ps ls)/\F=sF [0,1] fz [(5,.i k)]/\h=gz/\m=ls.length-k) _ _ _ ⟨0,ob,ob,rfl,rfl,rfl⟩ (wk [] (ZW fl)) ?_))))
 rintro m F h ⟨k,Y0,Z9,rfl,rfl,rfl⟩
 refine Yb 2 (iw (Yn ls) (ZO ((k:Int)<(ls.length:Int)) (fun Z5=>?_) (fun Z5=>?_)))
 ·refine ak (aq (ab 1 (aD 35 (Zo 33 35 [0,1] ?_))))
  obtain ⟨x1,Z2⟩:=Zv ls k om
  refine dx 2 (Zr none (k:Int) 1 (Yf Z2)) (Zo 30 32 [3,4] (dw 5 (Yn ps) (da 6 (((ps.length:Int)-1)) (((ps.length:Int))-(1)) (ZF 7 (W4 7 [] [] [] (Tl x1 0 ((ps.length:Int)-1)) (Zo 25 27 [8,9] (db (b:=(!(decide (0<=x1/\x1<=((ps.length:Int)-1))))) 21 (fun Zc=>?_) (fun Zc=>?_))))))))
  ·have Yd:¬(0<=x1/\x1<=((ps.length:Int)-1)):=((Yl dq)).1 Zc
   refine Zo 0 25 [10,11,12,13,14,15,16,17,18,19,20,21,22,23,24,25,26,27,28,29,30,31,32,33,34] (de (W7 (Zh ?_)))
   rw [ZH Z2] at Z9
   exact ZG (Zp (.b false) (lb (by have hq:=F6 (ps:=ps) (v:=x1) (r:=ls.drop (k+1)) (prev:=if k=0 then none else ls[k-1]?);rw [<-Z9,hq];rintro ⟨q1,q2,q3⟩;first|omega|(rw [hps] at q2;exact q2 (Ys some om))|(have:=q3 _ (by rw [Z4 om,hls]);omega))))
  have YX:¬(¬(0<=x1/\x1<=((ps.length:Int)-1))):=Y3 (Yl dq) Zc
  refine Zo 22 25 [10,11,12] (dx 13 (Zr none (k:Int) 1 (Yf Z2)) (Zo 20 21 [14] ?_))
  obtain ⟨x2,Zt⟩:=Zv ps x1.toNat om
  have hps:=Zt
  refine dx 15 (Zr none x1 1 (Yf Zt)) (Zo 15 19 [16,17,18,19] (db (b:=(x2==0)) 31 (fun ZD=>?_) (fun ZD=>?_)))
  ·have XB:x2=0:=(Zs).1 ZD
   refine Zo 0 15 [20,21,22,23,24,25,26,27,28,29,30,31,32,33,34] (de (W7 (Zh ?_)))
   rw [ZH Z2] at Z9
   exact ZG (Zp (.b false) (lb (by have hq:=F6 (ps:=ps) (v:=x1) (r:=ls.drop (k+1)) (prev:=if k=0 then none else ls[k-1]?);rw [<-Z9,hq];rintro ⟨q1,q2,q3⟩;first|omega|(rw [hps] at q2;exact q2 (Ys some om))|(have:=q3 _ (by rw [Z4 om,hls]);omega))))
  have XH:¬(x2=0):=Y3 Zs ZD
  refine Zo 12 15 [20,21,22] (db (b:=(decide ((k:Int)>0))) 34 (fun Yq=>?_) (fun Yq=>?_))
  ·have VT:(k:Int)>0:=(dq).1 Yq
   refine Zo 10 12 [23,24] (dx 25 (Zr none (k:Int) 1 (Yf Z2)) (Zo 6 9 [26,27,28] (da 29 (((k-1:Nat):Int)) (((k:Int))-(1)) ?_)))
   obtain ⟨x3,X0⟩:=Zv ls (k-1) om
   have hls:=X0
   refine dx 30 (Zr none ((k-1:Nat):Int) 1 (Yf X0)) (Zo 0 4 [31,32,33,34] (de (Xi (x1<=x3) (fun Zd=>?_) (fun Zd=>?_))))
   ·refine Zh ?_
    rw [ZH Z2] at Z9
    exact ZG (Zp (.b false) (lb (by have hq:=F6 (ps:=ps) (v:=x1) (r:=ls.drop (k+1)) (prev:=if k=0 then none else ls[k-1]?);rw [<-Z9,hq];rintro ⟨q1,q2,q3⟩;first|omega|(rw [hps] at q2;exact q2 (Ys some om))|(have:=q3 _ (by rw [Z4 om,hls]);omega))))
   refine ak (az (Z1 1 (ZK k (Z0 ?_))))
   have hl1:ls[k+1-1]? = some x1:=Z2
   have hlc:(0<=x1/\x1<=(ps.length:Int)-1)/\ps[x1.toNat]?≠some 0/\(∀p,(if k=0 then none else ls[k-1]?)=some p->p<x1):=⟨by omega,by rw [hps];intro q;cases q;omega,fun p hp=>by first|(rw [Z4 om,hls] at hp;cases hp;omega)|(rw [Z6 om] at hp;cases hp)⟩
   have hdr:=ZH Z2
   exact ZJ ⟨k+1,ob,(by have hq:=I3 (r:=ls.drop (k+1)) hlc;rw [hdr,hq] at Z9;rw [Z4 om,hl1];exact Z9),rfl,rfl,rfl⟩ (wk [] (ZL k fl))
  have Uu:¬((k:Int)>0):=Y3 dq Yq
  refine Zo 0 12 [23,24,25,26,27,28,29,30,31,32,33,34] (de (XF (ak (az (Z1 1 (ZK k (Z0 ?_)))))))
  have hl1:ls[k+1-1]? = some x1:=Z2
  have hlc:(0<=x1/\x1<=(ps.length:Int)-1)/\ps[x1.toNat]?≠some 0/\(∀p,(if k=0 then none else ls[k-1]?)=some p->p<x1):=⟨by omega,by rw [hps];intro q;cases q;omega,fun p hp=>by first|(rw [Z4 om,hls] at hp;cases hp;omega)|(rw [Z6 om] at hp;cases hp)⟩
  have hdr:=ZH Z2
  exact ZJ ⟨k+1,ob,(by have hq:=I3 (r:=ls.drop (k+1)) hlc;rw [hdr,hq] at Z9;rw [Z4 om,hl1];exact Z9),rfl,rfl,rfl⟩ (wk [] (ZL k fl))
 refine ax 0 (Zh ?_)
 try rw [YV (xs:=ls) (k:=k) om] at Z9
 exact ZG (Zp (.b true) (lb (by first|rfl|omega|grind [Q4])))
theorem Zda (n:Zj) (hz:Jm n.decls:=by exact ob) (hr:∀r∈n.routines,r.params.length<=4194304/\r.lent.length<=4194304):Za 140 [X6 n] [] (ZQ (.b (Va n))):=by
 have hzl:=hz.len
 refine Zx 35 Tryz.func140 (ar (iA (Wb n) fun b1=>Z0 (Yp 2 [0] (iw (UJ n.routines) (Wa [1] [(13,.b ((decide ((n.routines.length:Int)>4))||(!Qx n.decls (n.routines.map VZ))))] (fun gz=>gz) ?_ ?_)))))
 ·refine Z1 2 (ib (b:=(decide ((n.routines.length:Int)>4))) 8 (fun Zc=>?_) (fun Zc=>?_))
  ·have Yd:(n.routines.length:Int)>4:=(dq).1 Zc
   exact Z0 (wk [0] (Zq true Zc fl))
  have YX:¬((n.routines.length:Int)>4):=Y3 dq Zc
  exact Y6 1 [0] (ZC [] (Zd2 n) (ZC [] (Zdc n.decls (n.routines.map VZ) (hf:=(by intro f hf;obtain ⟨r,h1,rfl⟩:=Xe.1 hf;have:=(hr r h1).1;show r.params.length<=_;omega))) (Z0 (wk [0] (Zq (!Qx n.decls (n.routines.map VZ)) Zc fl)))))
 refine ac ((decide ((n.routines.length:Int)>4))||(!Qx n.decls (n.routines.map VZ))) (p:=((n.routines.length:Int)>4)∨(¬(Qx n.decls (n.routines.map VZ)=true))) (Yj dq (Yl Iff.rfl)) (fun Z5=>?_) (fun Z5=>?_)
 ·exact ar (Z8 (Zp (.b false) (lb (by first|rfl|omega|grind [Va]))))
 refine ak (Ym (ab 0 (ZU (fun fz gz m F h=>∃(k:Nat),(k<=n.routines.length)/\(TN (n.routines.drop k)=TN n.routines)/\F=sF [1] fz [(3,.i k)]/\h=gz/\m=n.routines.length-k) _ _ _ ⟨0,ob,ob,rfl,rfl,rfl⟩ (wk [0] (ZW fl)) ?_)))
 rintro m F h ⟨k,Y0,Z9,rfl,rfl,rfl⟩
 refine Yp 3 [0] (iw (UJ n.routines) (ZO ((k:Int)<(n.routines.length:Int)) (fun Zd=>?_) (fun Zd=>?_)))
 ·refine ak (aq (ab 1 (aD 14 (Ya 11 14 [0,1,2] [0] ?_))))
  obtain ⟨x1,Z2⟩:=Zv n.routines k om
  refine dx 3 (Zr none (k:Int) 5 (Us Z2)) (Ya 5 10 [4,5,6,7,8] [0] (dx 9 (Zr none (k:Int) 5 (Us Z2)) (Zo 2 4 [10,11] (ZF 12 (W4 12 [] [] [] (Zd9 x1.params x1.lent (hl_ps:=(by have:=hr _ (YF Z2);omega)) (hl_ls:=(by have:=hr _ (YF Z2);omega))) (Zo 0 1 [13] (de (ac (!Kq x1.params x1.lent) (p:=¬(Kq x1.params x1.lent=true)) (Yl Iff.rfl) (fun Zw=>?_) (fun Zw=>?_)))))))))
  ·refine Zh ?_
   rw [ZH Z2] at Z9
   exact ZG (Zp (.b false) (lb (by clear Z2;first|rfl|omega|grind [TN,Va])))
  refine ak (az (Z1 1 (ZK k (Z0 ?_))))
  have hdr:=ZH Z2
  exact ZJ ⟨k+1,ob,(by rw [hdr] at Z9;clear hdr Z2;grind [TN]),rfl,rfl,rfl⟩ (wk [0] (ZL k fl))
 refine ax 0 (Zh ?_)
 try rw [YV (xs:=n.routines) (k:=k) om] at Z9
 exact ZG (Zp (.b true) (lb (by first|rfl|omega|grind [TN,Va])))
theorem KU (op:Int) :Za 173 [.i op] [] (ZQ (.b (XA op))):=by
 exact Zx 5 Tryz.func173 (Zh (ZM 1 (ZC [] (Tl op 0 11) (Z8 (Zp (.b (decide (0<=op/\op<=11))) (lb (by first|rfl|omega|grind [XA])))))))
theorem Zcw (op:Int) :Za 230 [.i op] [] (ZQ (.b (Vd op))):=by
 refine Zx 21 Tryz.func230 (Zh (ar (XC 6 [0] [(8,.b ((op==0)||(op==6)))] (fun gz=>gz) ?_ (fun hj1=>?_))))
 ·refine XC 10 [0] [(12,.b (((op==0)||(op==6))||(op==8)))] (fun gz=>gz) ?_ (fun hj2=>?_)
  ·refine XC 14 [0] [(16,.b ((((op==0)||(op==6))||(op==8))||(op==9)))] (fun gz=>gz) ?_ (fun hj3=>?_)
   ·refine XC 18 [] [(20,.b (((((op==0)||(op==6))||(op==8))||(op==9))||(op==10)))] (fun gz=>gz) ?_ (fun hj4=>?_)
    ·exact Z8 (Zp (.b (((((op==0)||(op==6))||(op==8))||(op==9))||(op==10))) (lb (by rw [Vd];simp only [Bool.or_assoc])))
    refine Z1 1 (ib (b:=((((op==0)||(op==6))||(op==8))||(op==9))) 17 (fun Zc=>?_) (fun Zc=>?_))
    ·exact Z1 3 (Ye (wk [] (Zq true Zc fl)) hj4)
    exact Z1 3 (Ye (wk [] (Zq (op==10) Zc fl)) hj4)
   refine Z1 1 (ib (b:=(((op==0)||(op==6))||(op==8))) 13 (fun ZD=>?_) (fun ZD=>?_))
   ·exact Z1 3 (Ye (wk [] (Zq true ZD fl)) hj3)
   exact Z1 3 (Ye (wk [] (Zq (op==9) ZD fl)) hj3)
  refine Z1 1 (ib (b:=((op==0)||(op==6))) 9 (fun Yq=>?_) (fun Yq=>?_))
  ·exact Z1 3 (Ye (wk [] (Zq true Yq fl)) hj2)
  exact Z1 3 (Ye (wk [] (Zq (op==8) Yq fl)) hj2)
 refine Z1 3 (ib (b:=(op==0)) 5 (fun Xg=>?_) (fun Xg=>?_))
 ·exact Z1 3 (Ye (wk [] (Zq true Xg fl)) hj1)
 exact Z1 3 (Ye (wk [] (Zq (op==6) Xg fl)) hj1)
theorem AG (us:LI) (args:LI) (tys:LI) (hl_us:us.length<=4294967296:=by exact ob) (hl_args:args.length<=4294967296:=by exact ob) (hl_tys:tys.length<=4294967296:=by exact ob):Za 232 [Ze us,Ze args,Ze tys] [] (ZQ (.b (XD us args tys))):=by
 refine Zx 42 Tryz.func232 (Zh (Yb 1 (iw (Yn args) (Z1 1 (iw (Yn tys) (Yw ((args.length:Int) != (tys.length:Int)) ZP (fun Z5=>?_) (fun Z5=>?_)))))))
 ·exact ar (Z8 (Zp (.b false) (lb (SA om).symm)))
 refine ak (Ym (ab 0 (ZU (fun fz gz m F h=>∃(k:Nat),(k<=args.length)/\(UN us (args.drop k) (tys.drop k)=XD us args tys)/\F=sF [0,1,2] fz [(7,.i k)]/\h=gz/\m=args.length-k) _ _ _ ⟨0,ob,ob,rfl,rfl,rfl⟩ (wk [] (ZW fl)) ?_)))
 rintro m F h ⟨k,Y0,Z9,rfl,rfl,rfl⟩
 refine Yb 2 (iw (Yn args) (ZO ((k:Int)<(args.length:Int)) (fun Zd=>?_) (fun Zd=>?_)))
 ·refine ak (aq (ab 1 (aD 23 (Zo 21 23 [0,1] ?_))))
  obtain ⟨x1,Z2⟩:=Zv args k om
  refine dx 2 (Zr none (k:Int) 1 (Yf Z2)) (Zo 18 20 [3,4] (dw 5 (Yn us) (da 6 (((us.length:Int)-1)) (((us.length:Int))-(1)) (ZF 7 (W4 7 [] [] [] (Tl x1 0 ((us.length:Int)-1)) (Zo 13 15 [8,9] (db (b:=(!(decide (0<=x1/\x1<=((us.length:Int)-1))))) 28 (fun Zc=>?_) (fun Zc=>?_))))))))
  ·have Yd:¬(0<=x1/\x1<=((us.length:Int)-1)):=((Yl dq)).1 Zc
   refine Zo 0 13 [10,11,12,13,14,15,16,17,18,19,20,21,22] (de (W7 (Zh ?_)))
   obtain ⟨y,hy⟩:=Zv tys k om
   exact ZG (Zp (.b false) (lb (by rw [<-Z9];exact (Sz Z2 hy (by rw [QI Yd];simp)).symm)))
  have YX:¬(¬(0<=x1/\x1<=((us.length:Int)-1))):=Y3 (Yl dq) Zc
  refine Zo 10 13 [10,11,12] (dx 13 (Zr none (k:Int) 1 (Yf Z2)) (Zo 8 9 [14] ?_))
  obtain ⟨x2,Zt⟩:=Zv us x1.toNat om
  refine dx 15 (Zr none x1 1 (Yf Zt)) (Zo 4 7 [16,17,18] ?_)
  obtain ⟨x3,X0⟩:=Zv tys k om
  refine dx 19 (Zr none (k:Int) 1 (Yf X0)) (Zo 0 3 [20,21,22] (de (ac (x2 != x3) ZP (fun Zw=>?_) (fun Zw=>?_))))
  ·exact ar (Z8 (Zp (.b false) (lb (by rw [<-Z9];exact (Sz Z2 X0 (by rw [TC om Zt];simpa using Zw)).symm))))
  refine ak (az (Z1 1 (ZK k (Z0 ?_))))
  have hdr:=ZH Z2
  exact ZJ ⟨k+1,ob,(by rw [<-Z9];exact (Zf5 Z2 X0 (by rw [TC om Zt];congr 1;omega)).symm),rfl,rfl,rfl⟩ (wk [] (ZL k fl))
 exact ax 0 (ar (Z8 (Zp (.b true) (lb (by rw [<-Z9];exact (Zf4 om om).symm)))))
theorem Zd8 (us:LI) (s:Z7) (hl_us:us.length<=4294967296:=by exact ob):Za 231 [Ze us,XS s] [] (ZQ (.b (Vq us s.op s.into))):=by
 refine Zx 27 Tryz.func231 (ar (iA (WT s) fun b1=>Z0 (Yt (Vv [0] (ac (s.into==0) Zs (fun Z5=>?_) (fun Z5=>?_))))))
 ·exact ar (Z8 (Zp (.b true) (lb (by rw [Vq,Z6 Z5]))))
 refine ak (ar (XC 10 [0,3] [(17,.b ((s.op==6)&&(decide (1<=s.into/\s.into<=(us.length:Int)))))] (fun gz=>gz) ?_ (fun hj1=>?_)))
 ·refine Z1 1 (ib (b:=((s.op==6)&&(decide (1<=s.into/\s.into<=(us.length:Int))))) 18 (fun Zc=>?_) (fun Zc=>?_))
  ·have Yd:(s.op=6)/\(1<=s.into/\s.into<=(us.length:Int)):=((YD Zs dq)).1 Zc
   refine Y6 3 [0] (ia ((s.into-1)) ((s.into)-(1)) ?_)
   obtain ⟨x1,Z2⟩:=Zv us ((s.into-1).toNat) om
   exact Zi (Zr none (s.into-1) 1 (Yf Z2)) (Z8 (Zp (.b (decide (x1>0))) (lb (by rw [Vq,Z4 Z5];first|(rw [Z6 om,TC om Z2];rfl)|(rw [Z6 om,QI om];rfl)|(rw [Z4 om])|(by_cases q:s.op=6;rw [Z6 q,QI om];rfl;rw [Z4 q])))))
  have YX:¬((s.op=6)/\(1<=s.into/\s.into<=(us.length:Int))):=Y3 (YD Zs dq) Zc
  exact Z8 (Zp (.b false) (lb (by rw [Vq,Z4 Z5];first|(rw [Z6 om,TC om Z2];rfl)|(rw [Z6 om,QI om];rfl)|(rw [Z4 om])|(by_cases q:s.op=6;rw [Z6 q,QI om];rfl;rw [Z4 q]))))
 refine Y6 4 [0] (ib (b:=(s.op==6)) 11 (fun ZD=>?_) (fun ZD=>?_))
 ·have XB:s.op=6:=(Zs).1 ZD
  exact Y6 3 [0] (iw (Yn us) (ZC [] (Tl s.into 1 (us.length:Int)) (Z1 1 (Ye (wk [0] (Zq (decide (1<=s.into/\s.into<=(us.length:Int))) ZD fl)) hj1))))
 have XH:¬(s.op=6):=Y3 Zs ZD
 exact Z1 6 (Ye (wk [0] (Zq false ZD fl)) hj1)
theorem Zd1 (n:Zj) (us:LI) (s:Z7) (hn:YZ n:=by exact ob) (hl_us:us.length<=4294967296:=by exact ob) (ha:s.args.length<=1000000000:=by exact ob):Za 234 [X6 n,Ze us,XS s] [] (ZQ (.i (Uz n us s.op s.num s.args))):=by
 have hrl:=hn.len
 have hdl:=hn.decls.len
 refine Zx 69 Tryz.func234 (ar (iA (Wb n) fun b1=>iA (WT s) fun b2=>Z0 (Yp 4 [0,1] (iw (UJ n.routines) (ia (((n.routines.length:Int)-1)) (((n.routines.length:Int))-(1)) (ZC [] (Tl s.num 0 ((n.routines.length:Int)-1)) (Yw (!(decide (0<=s.num/\s.num<=((n.routines.length:Int)-1)))) (p:=¬(0<=s.num/\s.num<=((n.routines.length:Int)-1))) (Yl dq) (fun Z5=>?_) (fun Z5=>?_))))))))
 ·exact ar (Z8 (Zp (.i (-1)) (li (Zb0 om).symm)))
 refine ak (ZB 4 [1,0] ?_)
 obtain ⟨x1,Z2⟩:=Zv n.routines s.num.toNat om
 have hrp:=hn.params_at Z2
 have hrt:=hn.lent_at Z2
 have hre:Uz n us s.op s.num s.args=QQ n.decls us s.op s.args x1:=Zay om Z2
 refine Zi (Zr none s.num 5 (Us Z2)) (Z1 1 (iA [nl,nl,.i 0,nl,.i 0] fun b3=>Y4 0 b3 (TM x1) (ie (ZB 2 [0] (iw (Yn x1.params) (Z0 (Yt (Vv [1] (ac (s.op==9) Zs (fun Zd=>?_) (fun Zd=>?_))))))))))
 ·refine Yp 5 [1,0] (ZC [] (AG us s.args x1.params) (Yw (!XD us s.args x1.params) (p:=¬(XD us s.args x1.params=true)) (Yl Iff.rfl) (fun Zw=>?_) (fun Zw=>?_)))
  ·exact ar (Z8 (Zp (.i (-1)) (li (by clear Z2;first|rfl|omega|grind [QQ,K1]))))
  exact ak (JE [0] (ZG (Zp (.i x1.result) (li (by clear Z2;first|rfl|omega|grind [QQ,K1])))))
 refine ak (aq (aD 20 (Jw [3,7,8] [(57,.b (((x1.params.length:Int)==0)||((decide ((x1.lent.length:Int)>0))||(!XD us s.args (x1.params.take (x1.params.length-1))))))] (fun gz=>gz) ?_ ?_)))
 ·refine Zo 17 20 [0,1,2] (db (b:=((x1.params.length:Int)==0)) 40 (fun Zc=>?_) (fun Zc=>?_))
  ·have Yd:(x1.params.length:Int)=0:=(Zs).1 Zc
   exact Zo 0 17 [3,4,5,6,7,8,9,10,11,12,13,14,15,16,17,18,19] (de (Y5 3 (Zq true Zc fl)))
  have YX:¬((x1.params.length:Int)=0):=Y3 Zs Zc
  refine Ya 15 17 [3,4] [0] (dw 5 (Yn x1.lent) (Zo 11 14 [6,7,8] (db (b:=(decide ((x1.lent.length:Int)>0))) 46 (fun ZD=>?_) (fun ZD=>?_))))
  ·have XB:(x1.lent.length:Int)>0:=(dq).1 ZD
   exact Zo 0 11 [9,10,11,12,13,14,15,16,17,18,19] (de (Y5 3 (Zq true (And.intro Zc ZD) fl)))
  have XH:¬((x1.lent.length:Int)>0):=Y3 dq ZD
  exact Ya 5 11 [9,10,11,12,13,14] [1,0] (da 15 (((x1.params.length-1:Nat):Int)) (((x1.params.length:Int))-(1)) (dx 16 (Dv (es:=Zk x1.params) (hv:=none) (l:=0) (m:=((x1.params.length-1:Nat):Int)) (sz:=1) (es':=Zk (x1.params.take (x1.params.length-1))) kr om (by simp<;>omega) (by simp<;>omega) (Wv _) (by first|(simp only [Qy,Kx,KG,JA];done)|(simp only [Qy,Kx,KG,JA];rfl)|(simp [KG,JA];done))) (ZF 17 (W4 17 [] [] [] (AG us s.args (x1.params.take (x1.params.length-1))) (Zo 0 2 [18,19] (de (Y5 3 (Zq (!XD us s.args (x1.params.take (x1.params.length-1))) (And.intro Zc ZD) fl))))))))
 refine ac (((x1.params.length:Int)==0)||((decide ((x1.lent.length:Int)>0))||(!XD us s.args (x1.params.take (x1.params.length-1))))) (p:=((x1.params.length:Int)=0)∨(((x1.lent.length:Int)>0)∨(¬(XD us s.args (x1.params.take (x1.params.length-1))=true)))) (Yj Zs (Yj dq (Yl Iff.rfl))) (fun Yg=>?_) (fun Yg=>?_)
 ·exact ar (Z8 (Zp (.i (-1)) (li (by clear Z2;first|rfl|omega|grind [QQ,K1]))))
 refine ak (aD 12 (Ya 7 12 [0,1,2,3,4] [2,0] (da 5 (((x1.params.length-1:Nat):Int)) (((x1.params.length:Int))-(1)) ?_)))
 obtain ⟨x2,Zt⟩:=Zv x1.params (x1.params.length-1) om
 have hgl:=NZ Zt
 exact dx 6 (Zr none ((x1.params.length-1:Nat):Int) 1 (Yf Zt)) (Ya 2 5 [7,8,9] [0] (ZF 10 (W4 10 [] [] [] (Zci n.decls x2 x1.result) (Zo 0 1 [11] (de (ZG (Zp (.i (Tf n.decls x2 x1.result)) (li (by clear Z2 Zt;first|rfl|omega|grind [QQ,K1])))))))))
theorem Zcp (n:Zj) (us:LI) (s:Z7) (hn:YZ n:=by exact ob) (hl_us:us.length<=4294967296:=by exact ob) (ha:s.args.length<=1000000000:=by exact ob):Za 236 [X6 n,Ze us,XS s] [] (ZQ (.i (TD n.decls us s.op s.args))):=by
 have Wy:=hn.decls
 refine Zx 52 Tryz.func236 (ar (iA (Wb n) fun b1=>iA (WT s) fun b2=>Z0 (Yp 2 [0] (iw (Yn s.args) (Z1 2 (ib (b:=((s.args.length:Int) != 1)) 11 (fun Zc=>?_) (fun Zc=>?_)))))))
 ·have Yd:(s.args.length:Int)≠1:=(ZP).1 Zc
  exact Z0 (W7 (ar (Z8 (Zp (.i (-1)) (li (by first|assumption|omega|rfl|(rw [BG om])|(rw [BH (K0 om Z2) om])|(rw [BF (K0 om Z2) om Zt];clear Z2 Zt;grind)))))))
 have YX:¬((s.args.length:Int)≠1):=Y3 ZP Zc
 refine Y6 2 [0] ?_
 obtain ⟨x1,Z2⟩:=Zv s.args 0 om
 refine Zi (Zr none 0 1 (Yf Z2)) (Z1 2 (iw (Yn us) (ia (((us.length:Int)-1)) (((us.length:Int))-(1)) (ZC [] (Tl x1 0 ((us.length:Int)-1)) (Z1 3 (ib (b:=(!(decide (0<=x1/\x1<=((us.length:Int)-1))))) 22 (fun ZD=>?_) (fun ZD=>?_)))))))
 ·have XB:¬(0<=x1/\x1<=((us.length:Int)-1)):=((Yl dq)).1 ZD
  exact Z0 (W7 (ar (Z8 (Zp (.i (-1)) (li (by first|assumption|omega|rfl|(rw [BG om])|(rw [BH (K0 om Z2) om])|(rw [BF (K0 om Z2) om Zt];clear Z2 Zt;grind)))))))
 have XH:¬(¬(0<=x1/\x1<=((us.length:Int)-1))):=Y3 (Yl dq) ZD
 refine Y6 3 [0] (Zi (Zr none 0 1 (Yf Z2)) (Z1 1 ?_))
 obtain ⟨x2,Zt⟩:=Zv us x1.toNat om
 refine Zi (Zr none x1 1 (Yf Zt)) (Yw (x2==0) Zs (fun Z5=>?_) (fun Z5=>?_))
 ·exact ar (Z8 (Zp (.i (-1)) (li (by first|assumption|omega|rfl|(rw [BG om])|(rw [BH (K0 om Z2) om])|(rw [BF (K0 om Z2) om Zt];clear Z2 Zt;grind)))))
 refine ak (aq (aD 20 (Jw [] [(51,.b ((s.op != 14)&&((s.op != 15)&&XO n.decls x2)))] (fun gz=>gz) ?_ ?_)))
 ·refine Ya 16 20 [0,1,2,3] [0] (db (b:=(s.op != 14)) 35 (fun Yq=>?_) (fun Yq=>?_))
  ·have VT:s.op≠14:=(ZP).1 Yq
   refine Ya 11 16 [4,5,6,7,8] [0] (db (b:=(s.op != 15)) 40 (fun Xg=>?_) (fun Xg=>?_))
   ·have Uu:s.op≠15:=(ZP).1 Xg
    exact Ya 6 11 [9,10,11,12,13] [1,0] (dx 14 (Zr none 0 1 (Yf Z2)) (Zo 4 5 [15] (dx 16 (Zr none x1 1 (Yf Zt)) (Zo 2 3 [17] (ZF 18 (W4 18 [] [] [] (RU n.decls x2 (hd:=(by first|assumption|omega|rfl|(rw [BG om])|(rw [BH (K0 om Z2) om])|(rw [BF (K0 om Z2) om Zt];clear Z2 Zt;grind)))) (Zo 0 1 [19] (de (wk [0,0] (Zq (XO n.decls x2) (And.intro Yq Xg) fl))))))))))
   have T1:¬(s.op≠15):=Y3 ZP Xg
   exact Zo 0 11 [9,10,11,12,13,14,15,16,17,18,19] (de (wk [0,0] (Zq false (And.intro Yq Xg) fl)))
  have Tj:¬(s.op≠14):=Y3 ZP Yq
  exact Zo 0 16 [4,5,6,7,8,9,10,11,12,13,14,15,16,17,18,19] (de (wk [0,0] (Zq false Yq fl)))
 refine ac ((s.op != 14)&&((s.op != 15)&&XO n.decls x2)) (p:=(s.op≠14)/\((s.op≠15)/\(XO n.decls x2=true))) (YD ZP (YD ZP Iff.rfl)) (fun Zd=>?_) (fun Zd=>?_)
 ·exact ar (Z8 (Zp (.i (-1)) (li (by first|assumption|omega|rfl|(rw [BG om])|(rw [BH (K0 om Z2) om])|(rw [BF (K0 om Z2) om Zt];clear Z2 Zt;grind)))))
 exact ak (ar (Z8 (Zp (.i 0) (li (by first|assumption|omega|rfl|(rw [BG om])|(rw [BH (K0 om Z2) om])|(rw [BF (K0 om Z2) om Zt];clear Z2 Zt;grind))))))
theorem RW (n:Zj) (us:LI) (s:Z7) (hn:YZ n:=by exact ob) (hop:s.op=7∨s.op=8:=by exact ob) (hb:us.length+4*s.sz<=1000000000:=by exact ob) (ih:∀(b:Zf) (us:LI),(b.sz<s.sz)->(us.length+4*b.sz<=1000000000)->Za 142 [X6 n,Ze us,YG b] [] (ZQ (.i (Yv n us b)))):Za 233 [X6 n,Ze us,XS s] [] (ZQ (.i (Tc n us s.op s.num s.kids))):=by
 have Wy:=hn.decls
 have hkz:=Qq s
 refine Zx 71 Tryz.func233 (ar (iA (Wb n) fun b1=>iA (WT s) fun b2=>Z0 (ZB 4 [1,0] (ic [] (RR n.decls s.num) ?_))))
 rintro _ _ ⟨v1,rfl,rfl⟩
 refine Z0 (ZM 1 (io (.i (((YB n.decls s.num).length:Nat):Int)) (.i (((Zk (YB n.decls s.num)).length:Nat):Int)) (li (by rw [Yn])) (Z0 (Yt (Vv [1] (TE (fun fz gz F h=>F=sF [1,3,5] fz [(7,Ze (YB n.decls s.num)),(8,.i (((YJ n.decls s.op s.num).length:Nat):Int))]/\h=[Zy gz 1,Zy gz 2]) ?_ ?_))))))
 ·refine ac (s.op==7) Zs (fun Z5=>?_) (fun Z5=>?_)
  ·exact Qo (Xo ⟨rfl,rfl⟩ (wk [1,1] (fc (x:=ZY (YB n.decls s.num) v1) (Zm.forget _ _) (fc (x:=.i 2) (li (by rw [YJ,Z6 Z5];rfl)) fl))))
  exact ak (Xo ⟨rfl,rfl⟩ (wk [1,1] (fc (x:=ZY (YB n.decls s.num) v1) (Zm.forget _ _) (fc (x:=.i (((YB n.decls s.num).length:Nat):Int)) (li (by rw [YJ,Z4 Z5,Um])) fl))))
 rintro F h ⟨rfl,rfl⟩
 refine Yt (Wa [1,3,5,7,8] [(31,.b (((((YJ n.decls s.op s.num).length:Nat):Int)==0)||((s.kids.length:Int) != (((YJ n.decls s.op s.num).length:Nat):Int))))] (fun gz=>gz) ?_ ?_)
 ·refine Z1 3 (ib (b:=((((YJ n.decls s.op s.num).length:Nat):Int)==0)) 25 (fun Zc=>?_) (fun Zc=>?_))
  ·exact Z0 (wk [0,0] (Zq true Zc fl))
  exact Y6 2 [0] (iw (Uf s.kids) (Z0 (wk [0,0] (Zq ((s.kids.length:Int) != (((YJ n.decls s.op s.num).length:Nat):Int)) Zc fl))))
 refine ac (((((YJ n.decls s.op s.num).length:Nat):Int)==0)||((s.kids.length:Int) != (((YJ n.decls s.op s.num).length:Nat):Int))) (p:=((((YJ n.decls s.op s.num).length:Nat):Int)=0)∨((s.kids.length:Int)≠(((YJ n.decls s.op s.num).length:Nat):Int))) (Yj Zs ZP) (fun Zd=>?_) (fun Zd=>?_)
 ·exact ar (Z8 (Zp (.i (-1)) (li (by rw [Tc,Z6 om]))))
 refine ak (Zh (Ym (ab 0 (ZU (fun fz gz m F h=>∃(k:Nat) (t:Int),(k<=s.kids.length)/\(XP n us (s.kids.drop k) ((YJ n.decls s.op s.num).drop k) (decide (k=0)) t=XP n us s.kids (YJ n.decls s.op s.num) true 0)/\F=sF [1,3,5,7,8] fz [(9,.i t),(10,.i k)]/\h=gz/\m=s.kids.length-k) _ _ _ ⟨0,0,ob,(by rfl),rfl,rfl,rfl⟩ (wk [0,0] (fr (ZW fl))) ?_))))
 rintro m F h ⟨k,t,Y0,Z9,rfl,rfl,rfl⟩
 refine Yt (ZO ((k:Int)<(((YJ n.decls s.op s.num).length:Nat):Int)) (fun Zw=>?_) (fun Zw=>?_))
 ·refine ak (aq (ab 1 (Zh (Yt (Vv [0] (TE (fun fz gz F h=>∃(m:LI),((YJ n.decls s.op s.num)[k]? = some m)/\F=sF [1,3,5,7,8,9,10] fz [(11,Ze (us++m))]/\h=gz) ?_ ?_))))))
  ·refine ac (s.op==8) Zs (fun Yg=>?_) (fun Yg=>?_)
   ·refine aE 10 (Ya 5 10 [0,1,2,3,4] [1] ?_)
    obtain ⟨x1,Z2⟩:=Zv (YB n.decls s.num) k (by rw [YJ,Z4 om,Um] at Zw;omega)
    refine dx 5 (Zr none (k:Int) 1 (Yf Z2)) (Zo 3 4 [6] (ZF 7 (W4 7 [] [] [] (FC n.decls x1) (ZF 8 (dc 8 [] [] [] (Zct us (Y1 n.decls x1) (hl:=(by have:=TZ Wy x1;omega))) ?_)))))
    rintro _ _ ⟨v2,rfl,rfl⟩
    exact Zo 0 1 [9] (de (Xo ⟨(Y1 n.decls x1),(by rw [show s.op=8 from Yg];exact Z0z Z2),rfl,rfl⟩ (wk [1,1] fl)))
   exact ak (Xo ⟨[],(by rw [YJ,Z6 om];have:k=0∨k=1:=(by rw [YJ,Z6 om] at Zw;simp at Zw;omega);rcases this with rfl|rfl<;>rfl),rfl,rfl⟩ (wk [0,0] (fc (x:=Ze us) (Zm.sl _ (Ys Zk (by simp))) fl)))
  rintro F h ⟨m,HS,rfl,rfl⟩
  refine aD 9 (Ya 4 9 [0,1,2,3,4] [1,0] ?_)
  obtain ⟨x2,Zt⟩:=Zv s.kids k om
  have hks:=Kg Zt
  have hm3:=Bz Wy HS
  refine dx 5 (Zr none (k:Int) 2 (TF Zt)) (Zo 2 3 [6] (ZF 7 (W4 7 [] [] [] (ih x2 (us++m) ob (by simp only [YE];omega)) (Zo 0 1 [8] (de (Yt (Wa [1,3,5,7,8,10,12] [(68,.b ((decide ((Yv n (us++m) x2)<0))||((decide ((k:Int)>0))&&((Yv n (us++m) x2) != t))))] (fun gz=>gz) ?_ ?_)))))))
  ·refine Z1 3 (ib (b:=(decide ((Yv n (us++m) x2)<0))) 60 (fun ZD=>?_) (fun ZD=>?_))
   ·exact Z0 (wk [0,0] (Zq true ZD fl))
   refine Z1 3 (ib (b:=(decide ((k:Int)>0))) 63 (fun Yq=>?_) (fun Yq=>?_))
   ·exact Z0 (wk [0,0] (Zq ((Yv n (us++m) x2) != t) (And.intro ZD Yq) fl))
   exact Z0 (wk [0,0] (Zq false (And.intro ZD Yq) fl))
  refine ac ((decide ((Yv n (us++m) x2)<0))||((decide ((k:Int)>0))&&((Yv n (us++m) x2) != t))) (p:=((Yv n (us++m) x2)<0)∨(((k:Int)>0)/\((Yv n (us++m) x2)≠t))) (Yj dq (YD dq ZP)) (fun Xp=>?_) (fun Xp=>?_)
  ·exact ar (Z8 (Zp (.i (-1)) (li (by rw [Tc,Z4 om,<-Z9];exact (OL Zt HS Xp).symm))))
  exact ak (Qo (az (Z1 1 (ZK k (Z0 (ZJ ⟨k+1,Yv n (us++m) x2,ob,(by rw [<-Z9];exact (OO Zt HS Xp).symm),rfl,rfl,rfl⟩ (wk [0,0] (fr (ZL k fl)))))))))
 exact ax 0 (ar (Z8 (Zp (.i t) (li (by rw [Tc,Z4 om,<-Z9];exact (OM om).symm)))))
theorem RZ (n:Zj) (us:LI) (s:Z7) (hn:YZ n:=by exact ob) (hb:us.length+4*s.sz<=1000000000:=by exact ob) (ih:∀(b:Zf) (us:LI),(b.sz<s.sz)->(us.length+4*b.sz<=1000000000)->Za 142 [X6 n,Ze us,YG b] [] (ZQ (.i (Yv n us b)))):Za 197 [X6 n,Ze us,XS s] [] (ZQ (.i (ZT n us s))):=by
 have Wy:=hn.decls
 have hkz:=Qq s
 have haz:=Ad s
 have hdl:=Wy.len
 have hst:=KV n us s
 refine Zx 183 Tryz.func197 (ar (iA (Wb n) fun b1=>iA (WT s) fun b2=>Z0 (Yt (XC 9 [1,3,5] [(16,.b ((s.num != 0)&&(!Vd s.op)))] (fun gz=>gz) ?_ (fun hj1=>?_)))))
 ·refine XC 15 [1,3,5] [(22,.b (((s.num != 0)&&(!Vd s.op))||(!Vq us s.op s.into)))] (fun gz=>gz) ?_ (fun hj2=>?_)
  ·refine Wa [1,3,5] [(38,.b ((((s.num != 0)&&(!Vd s.op))||(!Vq us s.op s.into))||((decide ((s.kids.length:Int)>0))&&((s.op != 7)&&(s.op != 8)))))] (fun gz=>gz) ?_ ?_
   ·refine Z1 1 (ib (b:=(((s.num != 0)&&(!Vd s.op))||(!Vq us s.op s.into))) 23 (fun Zc=>?_) (fun Zc=>?_))
    ·have Yd:((s.num≠0)/\(¬(Vd s.op=true)))∨(¬(Vq us s.op s.into=true)):=((Yj (YD ZP (Yl Iff.rfl)) (Yl Iff.rfl))).1 Zc
     exact Z0 (wk [0,0] (Zq true Zc fl))
    have YX:¬(((s.num≠0)/\(¬(Vd s.op=true)))∨(¬(Vq us s.op s.into=true))):=Y3 (Yj (YD ZP (Yl Iff.rfl)) (Yl Iff.rfl)) Zc
    refine Y6 2 [0] (iw (Uf s.kids) (Z1 2 (ib (b:=(decide ((s.kids.length:Int)>0))) 28 (fun ZD=>?_) (fun ZD=>?_))))
    ·have XB:(s.kids.length:Int)>0:=(dq).1 ZD
     refine Y6 5 [0] (ib (b:=(s.op != 7)) 33 (fun Yq=>?_) (fun Yq=>?_))
     ·have XH:s.op≠7:=(ZP).1 Yq
      exact Vv [0] (wk [0,0] (Zq (s.op != 8) (And.intro Zc (And.intro ZD Yq)) fl))
     have VT:¬(s.op≠7):=Y3 ZP Yq
     exact Z0 (wk [0,0] (Zq false (And.intro Zc (And.intro ZD Yq)) fl))
    have Uu:¬((s.kids.length:Int)>0):=Y3 dq ZD
    exact Z0 (wk [0,0] (Zq false (And.intro Zc ZD) fl))
   refine ac ((((s.num != 0)&&(!Vd s.op))||(!Vq us s.op s.into))||((decide ((s.kids.length:Int)>0))&&((s.op != 7)&&(s.op != 8)))) (p:=(((s.num≠0)/\(¬(Vd s.op=true)))∨(¬(Vq us s.op s.into=true)))∨(((s.kids.length:Int)>0)/\((s.op≠7)/\(s.op≠8)))) (Yj (Yj (YD ZP (Yl Iff.rfl)) (Yl Iff.rfl)) (YD dq (YD ZP ZP))) (fun Z5=>?_) (fun Z5=>?_)
   ·exact ar (Z8 (Zp (.i (-1)) (li (by first|rfl|( grind)|(have q:=UE (ds:=n.decls) (us:=us) (args:=s.args) om; grind)|(have q:=UF (ds:=n.decls) (us:=us) (args:=s.args) om ‹s.args[0]? = some _› om; grind)|(have q:=Up (ds:=n.decls) (us:=us) (args:=s.args) om ‹s.args[0]? = some _› om ‹us[_]? = some _›; grind)))))
   refine ak (Yt (Vv [0] (ab 0 (ar (Yw (s.op==0) Zs (fun Zd=>?_) (fun Zd=>?_))))))
   ·refine ZB 2 [0] (iw (Yn s.args) (Wa [] [(51,.b (((s.args.length:Int)==0)&&(decide ((-999)<=s.num/\s.num<=999))))] (fun gz=>gz) ?_ ?_))
    ·refine Z1 2 (ib (b:=((s.args.length:Int)==0)) 47 (fun Xg=>?_) (fun Xg=>?_))
     ·have T1:(s.args.length:Int)=0:=(Zs).1 Xg
      exact Y6 2 [0] (ZC [] (Tl s.num (-999) 999) (Z0 (wk [0,0] (Zq (decide ((-999)<=s.num/\s.num<=999)) Xg fl))))
     have Tj:¬((s.args.length:Int)=0):=Y3 Zs Xg
     exact Z0 (wk [0,0] (Zq false Xg fl))
    refine ac (((s.args.length:Int)==0)&&(decide ((-999)<=s.num/\s.num<=999))) (p:=((s.args.length:Int)=0)/\((-999)<=s.num/\s.num<=999)) (YD Zs dq) (fun Zw=>?_) (fun Zw=>?_)
    ·exact ar (Z8 (Zp (.i 0) (li (by first|rfl|( grind)|(have q:=UE (ds:=n.decls) (us:=us) (args:=s.args) om; grind)|(have q:=UF (ds:=n.decls) (us:=us) (args:=s.args) om ‹s.args[0]? = some _› om; grind)|(have q:=Up (ds:=n.decls) (us:=us) (args:=s.args) om ‹s.args[0]? = some _› om ‹us[_]? = some _›; grind)))))
    exact ak (ar (Z8 (Zp (.i (-1)) (li (by first|rfl|( grind)|(have q:=UE (ds:=n.decls) (us:=us) (args:=s.args) om; grind)|(have q:=UF (ds:=n.decls) (us:=us) (args:=s.args) om ‹s.args[0]? = some _› om; grind)|(have q:=Up (ds:=n.decls) (us:=us) (args:=s.args) om ‹s.args[0]? = some _› om ‹us[_]? = some _›; grind))))))
   refine Ym (TE (fun fz gz F h=>F=sF [1,3,5,40] fz [(52,.b ((s.op==1)||((s.op==2)||((s.op==3)||(s.op==4)))))]/\h=gz) ?_ ?_)
   ·refine ac (s.op==1) Zs (fun Yg=>?_) (fun Yg=>?_)
    ·exact ak (Xo ⟨rfl,rfl⟩ (wk [0,0] (fc (x:=.b (s.op==1)) (lb (by first|rfl|(rw [Z6 Yg])|(rw [Z4 Yg])|(simp [Yg];done)|(rw [Wp];simp [Yg];done)|omega)) fl)))
    refine ar (Yw (s.op==2) Zs (fun Xp=>?_) (fun Xp=>?_))
    ·exact ak (Xo ⟨rfl,rfl⟩ (wk [0,0] (fc (x:=.b (s.op==2)) (lb (by first|rfl|(rw [Z6 Yg])|(rw [Z4 Yg])|(simp [Yg,Xp];done)|(rw [Wp];simp [Yg,Xp];done)|omega)) fl)))
    refine ar (Yw (s.op==3) Zs (fun Wf=>?_) (fun Wf=>?_))
    ·exact ak (Xo ⟨rfl,rfl⟩ (wk [0,0] (fc (x:=.b (s.op==3)) (lb (by first|rfl|(rw [Z6 Yg])|(rw [Z4 Yg])|(simp [Yg,Xp,Wf];done)|(rw [Wp];simp [Yg,Xp,Wf];done)|omega)) fl)))
    exact Qo (Xo ⟨rfl,rfl⟩ (wk [0,0] (fc (x:=.b (s.op==4)) (lb (by first|rfl|(rw [Z6 Yg])|(rw [Z4 Yg])|(simp [Yg,Xp,Wf];done)|(rw [Wp];simp [Yg,Xp,Wf];done)|omega)) fl)))
   rintro F h ⟨rfl,rfl⟩
   refine ac ((s.op==1)||((s.op==2)||((s.op==3)||(s.op==4)))) (p:=(s.op=1)∨((s.op=2)∨((s.op=3)∨(s.op=4)))) (Yj Zs (Yj Zs (Yj Zs Zs))) (fun T0=>?_) (fun T0=>?_)
   ·refine ZB 3 [0] (iL (Zk [0,0]) 2 1 fun v1=>W2 0 [(60,Ze [0,0])] (ZC [] (AG us s.args [0,0] (hl_tys:=(by first|(simp;done)|(have:=TZ Wy s.num;omega)))) (ie (ac (XD us s.args [0,0]) Iff.rfl (fun VD=>?_) (fun VD=>?_)))))
    ·exact ar (Z8 (Zp (.i 0) (li (by first|rfl|( grind)|(have q:=UE (ds:=n.decls) (us:=us) (args:=s.args) om; grind)|(have q:=UF (ds:=n.decls) (us:=us) (args:=s.args) om ‹s.args[0]? = some _› om; grind)|(have q:=Up (ds:=n.decls) (us:=us) (args:=s.args) om ‹s.args[0]? = some _› om ‹us[_]? = some _›; grind)))))
    exact ak (ar (Z8 (Zp (.i (-1)) (li (by first|rfl|( grind)|(have q:=UE (ds:=n.decls) (us:=us) (args:=s.args) om; grind)|(have q:=UF (ds:=n.decls) (us:=us) (args:=s.args) om ‹s.args[0]? = some _› om; grind)|(have q:=Up (ds:=n.decls) (us:=us) (args:=s.args) om ‹s.args[0]? = some _› om ‹us[_]? = some _›; grind))))))
   refine ar (Yw (s.op==5) Zs (fun T9=>?_) (fun T9=>?_))
   ·refine ZB 3 [0] (iL (Zk [0]) 1 1 fun v2=>W2 0 [(67,Ze [0])] (ZC [] (AG us s.args [0] (hl_tys:=(by first|(simp;done)|(have:=TZ Wy s.num;omega)))) (ie (ac (XD us s.args [0]) Iff.rfl (fun Tu=>?_) (fun Tu=>?_)))))
    ·exact ar (Z8 (Zp (.i 0) (li (by first|rfl|( grind)|(have q:=UE (ds:=n.decls) (us:=us) (args:=s.args) om; grind)|(have q:=UF (ds:=n.decls) (us:=us) (args:=s.args) om ‹s.args[0]? = some _› om; grind)|(have q:=Up (ds:=n.decls) (us:=us) (args:=s.args) om ‹s.args[0]? = some _› om ‹us[_]? = some _›; grind)))))
    exact ak (ar (Z8 (Zp (.i (-1)) (li (by first|rfl|( grind)|(have q:=UE (ds:=n.decls) (us:=us) (args:=s.args) om; grind)|(have q:=UF (ds:=n.decls) (us:=us) (args:=s.args) om ‹s.args[0]? = some _› om; grind)|(have q:=Up (ds:=n.decls) (us:=us) (args:=s.args) om ‹s.args[0]? = some _› om ‹us[_]? = some _›; grind))))))
   refine ar (Yw (s.op==6) Zs (fun JG=>?_) (fun JG=>?_))
   ·refine aD 17 (Ya 13 17 [0,1,2,3] [1,0] (ZF 4 (W4 4 [] [] [] (Ld n.decls s.num) (Jw [3,5] [(87,.b ((decide ((XN n.decls s.num)>0))&&XD us s.args (Y1 n.decls s.num)))] (fun gz=>gz) ?_ ?_))))
    ·refine Zo 10 12 [5,6] (db (b:=(decide ((XN n.decls s.num)>0))) 77 (fun WG=>?_) (fun WG=>?_))
     ·have Qp:(XN n.decls s.num)>0:=(dq).1 WG
      exact Ya 3 10 [7,8,9,10,11,12,13] [0,1,0] (ZF 14 (W4 14 [] [0] [b2] (FC n.decls s.num (hd:=Wy)) (ZF 15 (W4 15 [] [] [] (AG us s.args (Y1 n.decls s.num) (hl_tys:=(by first|(simp;done)|(have:=TZ Wy s.num;omega)))) (Zo 0 1 [16] (de (wk [0,0] (Zq (XD us s.args (Y1 n.decls s.num)) WG fl))))))))
     have Ke:¬((XN n.decls s.num)>0):=Y3 dq WG
     exact Zo 0 10 [7,8,9,10,11,12,13,14,15,16] (de (wk [0,0] (Zq false WG fl)))
    refine ac ((decide ((XN n.decls s.num)>0))&&XD us s.args (Y1 n.decls s.num)) (p:=((XN n.decls s.num)>0)/\(XD us s.args (Y1 n.decls s.num)=true)) (YD dq Iff.rfl) (fun Tv=>?_) (fun Tv=>?_)
    ·exact ZB 4 [1,0] (ZC [] (Ld n.decls s.num) (Z8 (Zp (.i (XN n.decls s.num)) (li (by first|rfl|( grind)|(have q:=UE (ds:=n.decls) (us:=us) (args:=s.args) om; grind)|(have q:=UF (ds:=n.decls) (us:=us) (args:=s.args) om ‹s.args[0]? = some _› om; grind)|(have q:=Up (ds:=n.decls) (us:=us) (args:=s.args) om ‹s.args[0]? = some _› om ‹us[_]? = some _›; grind))))))
    exact ak (ar (Z8 (Zp (.i (-1)) (li (by first|rfl|( grind)|(have q:=UE (ds:=n.decls) (us:=us) (args:=s.args) om; grind)|(have q:=UF (ds:=n.decls) (us:=us) (args:=s.args) om ‹s.args[0]? = some _› om; grind)|(have q:=Up (ds:=n.decls) (us:=us) (args:=s.args) om ‹s.args[0]? = some _› om ‹us[_]? = some _›; grind))))))
   refine ar (Yw (s.op==7) Zs (fun Kc=>?_) (fun Kc=>?_))
   ·refine ZB 3 [0] (iL (Zk [0]) 1 1 fun v3=>W2 0 [(98,Ze [0])] (ZC [] (AG us s.args [0] (hl_tys:=(by first|(simp;done)|(have:=TZ Wy s.num;omega)))) (ie (ac (XD us s.args [0]) Iff.rfl (fun B5=>?_) (fun B5=>?_)))))
    ·exact ZB 3 [2,1] (ZC [] (RW n us s (ih:=ob)) (Z8 (Zp (.i (Tc n us s.op s.num s.kids)) (li (by first|rfl|( grind)|(have q:=UE (ds:=n.decls) (us:=us) (args:=s.args) om; grind)|(have q:=UF (ds:=n.decls) (us:=us) (args:=s.args) om ‹s.args[0]? = some _› om; grind)|(have q:=Up (ds:=n.decls) (us:=us) (args:=s.args) om ‹s.args[0]? = some _› om ‹us[_]? = some _›; grind))))))
    exact ak (ar (Z8 (Zp (.i (-1)) (li (by first|rfl|( grind)|(have q:=UE (ds:=n.decls) (us:=us) (args:=s.args) om; grind)|(have q:=UF (ds:=n.decls) (us:=us) (args:=s.args) om ‹s.args[0]? = some _› om; grind)|(have q:=Up (ds:=n.decls) (us:=us) (args:=s.args) om ‹s.args[0]? = some _› om ‹us[_]? = some _›; grind))))))
   refine ar (Yw (s.op==8) Zs (fun HE=>?_) (fun HE=>?_))
   ·refine ZB 5 [0,0] (iL (Zk [s.num]) 1 1 fun v4=>W2 0 [(111,Ze [s.num])] (ZC [] (AG us s.args [s.num] (hl_tys:=(by first|(simp;done)|(have:=TZ Wy s.num;omega)))) (ie (ac (XD us s.args [s.num]) Iff.rfl (fun HF=>?_) (fun HF=>?_)))))
    ·exact ZB 3 [2,1] (ZC [] (RW n us s (ih:=ob)) (Z8 (Zp (.i (Tc n us s.op s.num s.kids)) (li (by first|rfl|( grind)|(have q:=UE (ds:=n.decls) (us:=us) (args:=s.args) om; grind)|(have q:=UF (ds:=n.decls) (us:=us) (args:=s.args) om ‹s.args[0]? = some _› om; grind)|(have q:=Up (ds:=n.decls) (us:=us) (args:=s.args) om ‹s.args[0]? = some _› om ‹us[_]? = some _›; grind))))))
    exact ak (ar (Z8 (Zp (.i (-1)) (li (by first|rfl|( grind)|(have q:=UE (ds:=n.decls) (us:=us) (args:=s.args) om; grind)|(have q:=UF (ds:=n.decls) (us:=us) (args:=s.args) om ‹s.args[0]? = some _› om; grind)|(have q:=Up (ds:=n.decls) (us:=us) (args:=s.args) om ‹s.args[0]? = some _› om ‹us[_]? = some _›; grind))))))
   refine Ym (TE (fun fz gz F h=>F=sF [1,3,5,40] fz [(117,.b ((s.op==9)||(s.op==10)))]/\h=gz) ?_ ?_)
   ·refine ac (s.op==9) Zs (fun KL=>?_) (fun KL=>?_)
    ·exact ak (Xo ⟨rfl,rfl⟩ (wk [0,0] (fc (x:=.b (s.op==9)) (lb (by first|rfl|(rw [Z6 KL])|(rw [Z4 KL])|(simp [KL];done)|(rw [Wp];simp [KL];done)|omega)) fl)))
    exact Qo (Xo ⟨rfl,rfl⟩ (wk [0,0] (fc (x:=.b (s.op==10)) (lb (by first|rfl|(rw [Z6 KL])|(rw [Z4 KL])|(simp [KL];done)|(rw [Wp];simp [KL];done)|omega)) fl)))
   rintro F h ⟨rfl,rfl⟩
   refine ac ((s.op==9)||(s.op==10)) (p:=(s.op=9)∨(s.op=10)) (Yj Zs Zs) (fun Z54=>?_) (fun Z54=>?_)
   ·exact ZB 3 [1,0] (ZC [] (Zd1 n us s) (Z8 (Zp (.i (Uz n us s.op s.num s.args)) (li (by first|rfl|( grind)|(have q:=UE (ds:=n.decls) (us:=us) (args:=s.args) om; grind)|(have q:=UF (ds:=n.decls) (us:=us) (args:=s.args) om ‹s.args[0]? = some _› om; grind)|(have q:=Up (ds:=n.decls) (us:=us) (args:=s.args) om ‹s.args[0]? = some _› om ‹us[_]? = some _›; grind))))))
   refine ar (Yw (s.op==11) Zs (fun Z55=>?_) (fun Z55=>?_))
   ·refine aD 26 (Ya 24 26 [0,1] [0] (dw 2 (Yn s.args) (Zo 21 23 [3,4] (db (b:=((s.args.length:Int)==2)) 130 (fun Ve=>?_) (fun Ve=>?_)))))
    ·have JH:(s.args.length:Int)=2:=(Zs).1 Ve
     refine Ya 19 21 [5,6] [0] ?_
     obtain ⟨x1,Z2⟩:=Zv s.args 0 om
     refine dx 7 (Zr none 0 1 (Yf Z2)) (Zo 16 18 [8,9] (dw 10 (Yn us) (da 11 (((us.length:Int)-1)) (((us.length:Int))-(1)) (ZF 12 (W4 12 [] [] [] (Tl x1 0 ((us.length:Int)-1)) (Zo 11 13 [13,14] (db (b:=(decide (0<=x1/\x1<=((us.length:Int)-1)))) 140 (fun VC=>?_) (fun VC=>?_))))))))
     ·have Am:0<=x1/\x1<=((us.length:Int)-1):=(dq).1 VC
      refine Ya 6 11 [15,16,17,18,19] [1,0] (dx 20 (Zr none 0 1 (Yf Z2)) (Zo 4 5 [21] ?_))
      obtain ⟨x2,Zt⟩:=Zv us x1.toNat om
      refine dx 22 (Zr none x1 1 (Yf Zt)) (Zo 2 3 [23] (ZF 24 (W4 24 [] [] [] (RU n.decls x2) (Zo 0 1 [25] (de (ac (XO n.decls x2) Iff.rfl (fun Z56=>?_) (fun Z56=>?_)))))))
      ·refine aD 14 (Ya 9 14 [0,1,2,3,4] [1,0] (dx 5 (Zr none 0 1 (Yf Z2)) (Zo 7 8 [6] (dx 7 (Zr none x1 1 (Yf Zt)) (Zo 5 6 [8] (da 9 ((x2-1)) ((x2)-(1)) (hb:=(by have:=HQ ‹XO n.decls _=true›;omega)) ?_))))))
       obtain ⟨x3,X0⟩:=Zv n.decls ((x2-1).toNat) (by have:=HQ ‹XO n.decls _=true›;omega)
       have had:=Z0u (us:=us) (args:=s.args) om ‹s.args[0]? = some _› om ‹us[_]? = some _› ‹XO n.decls _=true› X0
       refine dx 10 (JV (es:=X4 n.decls) (hv:=none) (j:=(x2-1)) (sz:=3) (y:=QY x3) kr (by have:=HQ ‹XO n.decls _=true›;omega) (Vm X0) rfl) (Zo 2 3 [11] (ZF 12 (dA 12 [0,1] [b2,b1] [.i 0,.i 0,nl] fun b3=>ZF 13 (UC 13 0 [] [] b3 (Uh x3) (de (aD 8 (Ya 5 8 [0,1,2] [1] (dx 3 (Dv (es:=Zk s.args) (hv:=none) (l:=1) (m:=(((Zk s.args).length:Nat):Int)) (sz:=1) (es':=Zk (s.args.drop 1)) kr om (by simp<;>omega) (by simp<;>omega) (Wv _) (by first|(simp only [Qy,Kx,KG,JA];done)|(simp only [Qy,Kx,KG,JA];rfl)|(simp [KG,JA];done))) (Ya 2 4 [4,5] [0] (ZF 6 (dL 6 [1] [b2] (Zk [x3.frm]) 1 1 fun v5=>UT 1 1 [] [(170,Ze [x3.frm])] (ZF 7 (W4 7 [] [] [] (AG us (s.args.drop 1) [x3.frm] (hl_tys:=(by first|(simp;done)|(have:=TZ Wy s.num;omega)))) (de (ac (XD us (s.args.drop 1) [x3.frm]) Iff.rfl (fun Z57=>?_) (fun Z57=>?_))))))))))))))))
       ·exact JE [1] (ZG (Zp (.i x3.to_) (li (by first|rfl|(clear Z2 Zt X0;grind)|(have q:=UE (ds:=n.decls) (us:=us) (args:=s.args) om;clear Z2 Zt X0;grind)|(have q:=UF (ds:=n.decls) (us:=us) (args:=s.args) om ‹s.args[0]? = some _› om;clear Z2 Zt X0;grind)|(have q:=Up (ds:=n.decls) (us:=us) (args:=s.args) om ‹s.args[0]? = some _› om ‹us[_]? = some _›;clear Z2 Zt X0;grind)))))
       exact ak (ar (Z8 (Zp (.i (-1)) (li (by first|rfl|(clear Z2 Zt X0;grind)|(have q:=UE (ds:=n.decls) (us:=us) (args:=s.args) om;clear Z2 Zt X0;grind)|(have q:=UF (ds:=n.decls) (us:=us) (args:=s.args) om ‹s.args[0]? = some _› om;clear Z2 Zt X0;grind)|(have q:=Up (ds:=n.decls) (us:=us) (args:=s.args) om ‹s.args[0]? = some _› om ‹us[_]? = some _›;clear Z2 Zt X0;grind))))))
      exact ak (ar (Z8 (Zp (.i (-1)) (li (by first|rfl|(clear Z2 Zt;grind)|(have q:=UE (ds:=n.decls) (us:=us) (args:=s.args) om;clear Z2 Zt;grind)|(have q:=UF (ds:=n.decls) (us:=us) (args:=s.args) om ‹s.args[0]? = some _› om;clear Z2 Zt;grind)|(have q:=Up (ds:=n.decls) (us:=us) (args:=s.args) om ‹s.args[0]? = some _› om ‹us[_]? = some _›;clear Z2 Zt;grind))))))
     have EH:¬(0<=x1/\x1<=((us.length:Int)-1)):=Y3 dq VC
     exact Zo 0 11 [15,16,17,18,19,20,21,22,23,24,25] (de (XF (ak (ar (Z8 (Zp (.i (-1)) (li (by first|rfl|(clear Z2;grind)|(have q:=UE (ds:=n.decls) (us:=us) (args:=s.args) om;clear Z2;grind)|(have q:=UF (ds:=n.decls) (us:=us) (args:=s.args) om ‹s.args[0]? = some _› om;clear Z2;grind)|(have q:=Up (ds:=n.decls) (us:=us) (args:=s.args) om ‹s.args[0]? = some _› om ‹us[_]? = some _›;clear Z2;grind)))))))))
    have EI:¬((s.args.length:Int)=2):=Y3 Zs Ve
    exact Zo 0 21 [5,6,7,8,9,10,11,12,13,14,15,16,17,18,19,20,21,22,23,24,25] (de (XF (ak (ar (Z8 (Zp (.i (-1)) (li (by first|rfl|( grind)|(have q:=UE (ds:=n.decls) (us:=us) (args:=s.args) om; grind)|(have q:=UF (ds:=n.decls) (us:=us) (args:=s.args) om ‹s.args[0]? = some _› om; grind)|(have q:=Up (ds:=n.decls) (us:=us) (args:=s.args) om ‹s.args[0]? = some _› om ‹us[_]? = some _›; grind)))))))))
   refine Ym (TE (fun fz gz F h=>F=sF [1,3,5] fz [(174,.b ((s.op==14)||((s.op==15)||((s.op==16)||(s.op==17)))))]/\h=gz) ?_ ?_)
   ·refine ac (s.op==14) Zs (fun Tw=>?_) (fun Tw=>?_)
    ·exact ak (Xo ⟨rfl,rfl⟩ (wk [0,0] (fc (x:=.b (s.op==14)) (lb (by first|rfl|(rw [Z6 Tw])|(rw [Z4 Tw])|(simp [Tw];done)|(rw [Wp];simp [Tw];done)|omega)) fl)))
    refine ar (Yw (s.op==15) Zs (fun B6=>?_) (fun B6=>?_))
    ·exact ak (Xo ⟨rfl,rfl⟩ (wk [0,0] (fc (x:=.b (s.op==15)) (lb (by first|rfl|(rw [Z6 Tw])|(rw [Z4 Tw])|(simp [Tw,B6];done)|(rw [Wp];simp [Tw,B6];done)|omega)) fl)))
    refine ar (Yw (s.op==16) Zs (fun D3=>?_) (fun D3=>?_))
    ·exact ak (Xo ⟨rfl,rfl⟩ (wk [0,0] (fc (x:=.b (s.op==16)) (lb (by first|rfl|(rw [Z6 Tw])|(rw [Z4 Tw])|(simp [Tw,B6,D3];done)|(rw [Wp];simp [Tw,B6,D3];done)|omega)) fl)))
    exact Qo (Xo ⟨rfl,rfl⟩ (wk [0,0] (fc (x:=.b (s.op==17)) (lb (by first|rfl|(rw [Z6 Tw])|(rw [Z4 Tw])|(simp [Tw,B6,D3];done)|(rw [Wp];simp [Tw,B6,D3];done)|omega)) fl)))
   rintro F h ⟨rfl,rfl⟩
   refine ac ((s.op==14)||((s.op==15)||((s.op==16)||(s.op==17)))) (p:=(s.op=14)∨((s.op=15)∨((s.op=16)∨(s.op=17)))) (Yj Zs (Yj Zs (Yj Zs Zs))) (fun Z58=>?_) (fun Z58=>?_)
   ·exact ZB 3 [1,0] (ZC [] (Zcp n us s) (Z8 (Zp (.i (TD n.decls us s.op s.args)) (li (by first|rfl|( grind)|(have q:=UE (ds:=n.decls) (us:=us) (args:=s.args) om; grind)|(have q:=UF (ds:=n.decls) (us:=us) (args:=s.args) om ‹s.args[0]? = some _› om; grind)|(have q:=Up (ds:=n.decls) (us:=us) (args:=s.args) om ‹s.args[0]? = some _› om ‹us[_]? = some _›; grind))))))
   exact ak (ar (Z8 (Zp (.i (-1)) (li (by first|rfl|( grind)|(have q:=UE (ds:=n.decls) (us:=us) (args:=s.args) om; grind)|(have q:=UF (ds:=n.decls) (us:=us) (args:=s.args) om ‹s.args[0]? = some _› om; grind)|(have q:=Up (ds:=n.decls) (us:=us) (args:=s.args) om ‹s.args[0]? = some _› om ‹us[_]? = some _›; grind))))))
  refine Z1 1 (ib (b:=((s.num != 0)&&(!Vd s.op))) 17 (fun Vn=>?_) (fun Vn=>?_))
  ·have BT:(s.num≠0)/\(¬(Vd s.op=true)):=((YD ZP (Yl Iff.rfl))).1 Vn
   exact Z1 5 (Ye (wk [0,0] (Zq true Vn fl)) hj2)
  have BU:¬((s.num≠0)/\(¬(Vd s.op=true))):=Y3 (YD ZP (Yl Iff.rfl)) Vn
  exact Y6 2 [0] (ZC [] (Zd8 us s) (Z1 2 (Ye (wk [0,0] (Zq (!Vq us s.op s.into) Vn fl)) hj2)))
 refine Y6 4 [0] (ib (b:=(s.num != 0)) 11 (fun Vo=>?_) (fun Vo=>?_))
 ·have EJ:s.num≠0:=(ZP).1 Vo
  exact Y6 2 [0] (ZC [] (Zcw s.op) (Z1 2 (Ye (wk [0,0] (Zq (!Vd s.op) Vo fl)) hj1)))
 have EK:¬(s.num≠0):=Y3 ZP Vo
 exact Z1 5 (Ye (wk [0,0] (Zq false Vo fl)) hj1)
theorem Zcl (n:Zj) (us:LI) (b:Zf) (hn:YZ n:=by exact ob) (hb:us.length+4*b.sz<=1000000000:=by exact ob) (ih:∀(s:Z7) (us:LI),(s.sz<b.sz)->(us.length+4*s.sz<=1000000000)->Za 197 [X6 n,Ze us,XS s] [] (ZQ (.i (ZT n us s)))):Za 142 [X6 n,Ze us,YG b] [] (ZQ (.i (Yv n us b))):=by
 have hbz:=JW b
 have hbe:=E2 n us b
 refine Zx 52 Tryz.func142 (ar (iA (Wb n) fun b1=>iA (VE b) fun b2=>Z0 (ZM 1 (ic [] (AF us) ?_))))
 rintro _ _ ⟨v1,rfl,rfl⟩
 refine Z0 (Ym (ab 0 (ZU (fun fz gz m F h=>∃(k:Nat) (vs:LI) (v:Value),(k<=b.steps.length)/\(vs.length<=us.length+k)/\(Xu n (b.steps.drop k) vs=Xu n b.steps us)/\F=sF [3,5] fz [(7,ZY vs v),(8,.i k)]/\h=[Zy gz 1,Zy gz 2,.tail v 1]/\m=b.steps.length-k) _ _ _ ⟨0,us,v1,ob,ob,ob,rfl,rfl,rfl⟩ (wk [1,1,0] (fr (ZW fl))) ?_)))
 rintro m F h ⟨k,vs,v,Y0,Z9,Zz,rfl,rfl,rfl⟩
 refine Yp 3 [0] (iw (T8 b.steps) (ZO ((k:Int)<(b.steps.length:Int)) (fun Z5=>?_) (fun Z5=>?_)))
 ·refine ak (aq (ab 1 (aD 9 (Ya 4 9 [0,1,2,3,4] [1,0] ?_))))
  obtain ⟨x1,Z2⟩:=Zv b.steps k om
  have hss:=FE Z2
  refine dx 5 (Zr none (k:Int) 5 (U7 Z2)) (UT 2 3 [6] [(20,Ze vs)] (ZF 7 (W4 7 [] [] [] (ih x1 vs ob ob) (Zo 0 1 [8] (de (Yt (ZO ((ZT n vs x1)<0) (fun Zd=>?_) (fun Zd=>?_))))))))
  ·refine Zh ?_
   rw [ZH Z2] at Zz
   exact ZG (Zp (.i (-1)) (li (by clear Z2;first|rfl|omega|grind [Xu])))
  refine ak (ZB 3 [0] (Zi (Zr none (k:Int) 5 (U7 Z2)) (Z1 2 (ZC [] (KU x1.op) (ie (Eg (fun fz gz F h=>∃(w:Value),F=sF [3,5,8] fz [(7,ZY (if XA x1.op=true then vs++[ZT n vs x1] else vs) w)]/\h=[Zy gz 0,Zy gz 1,.tail w 1]) (fun _ _=>rfl) ?_ ?_))))))
  ·refine ac (XA x1.op) Iff.rfl (fun Zw=>?_) (fun Zw=>?_)
   ·exact az (Z1 2 (iL (Zk [ZT n vs x1]) 1 1 fun v2=>W2 0 [(38,Ze [ZT n vs x1])] (ip 3 (Zk (vs++[ZT n vs x1])) (Zk vs) (Zk [ZT n vs x1]) v none 1 (Wv _) (Wv _) (Q3 _) (by simp<;>omega) (by simp [Q2,Zk]) fun v3=>Z0 (Xo ⟨v3,rfl,rfl⟩ (wk [2,2,0] (fc (x:=ZY (vs++[ZT n vs x1]) v3) (Zm.slh _ (Ys Zk (by first|rfl|(rw [Z6 Zw])|(rw [Z4 Zw])|(simp [Zw];done)|(rw [Wp];simp [Zw];done)|omega))) fl))))))
   exact ak (Xo ⟨v,rfl,rfl⟩ (Y5 3 (fc (x:=ZY vs v) (Zm.slh _ (Ys Zk (by first|rfl|(rw [Z6 Zw])|(rw [Z4 Zw])|(simp [Zw];done)|(rw [Wp];simp [Zw];done)|omega))) fl)))
  rintro F h ⟨w,rfl,rfl⟩
  refine az (Z1 1 (ZK k (Z0 ?_)))
  have hdr:=ZH Z2
  exact ZJ ⟨k+1,(if XA x1.op=true then vs++[ZT n vs x1] else vs),w,ob,(by split<;>(try simp)<;>omega),(by rw [hdr] at Zz;clear hdr Z2;grind [Xu]),rfl,rfl,rfl⟩ (Y5 3 (fr (ZL k fl)))
 refine ax 0 (Yp 3 [0] (iw (Yn vs) (ia (((vs.length:Int)-1)) (((vs.length:Int))-(1)) (ZC [] (Tl b.result 0 ((vs.length:Int)-1)) (Yw (!(decide (0<=b.result/\b.result<=((vs.length:Int)-1)))) (p:=¬(0<=b.result/\b.result<=((vs.length:Int)-1))) (Yl dq) (fun Yg=>?_) (fun Yg=>?_))))))
 ·refine Zh ?_
  try rw [YV (xs:=b.steps) (k:=k) om] at Zz
  exact ZG (Zp (.i (-1)) (li (by rw [hbe,<-Zz];show _=(YN vs b.result).getD (-1);rw [QI Yg];rfl)))
 refine ak (ZB 3 [0] ?_)
 obtain ⟨x2,Zt⟩:=Zv vs b.result.toNat om
 refine Zi (Zr (some v) b.result 1 (Yf Zt)) (Z0 ?_)
 try rw [YV (xs:=b.steps) (k:=k) om] at Zz
 exact ZG (Zp (.i x2) (li (by rw [hbe,<-Zz];show _=(YN vs b.result).getD (-1);rw [TC om Zt];rfl)))
theorem Zd5 (b:Zf) (l:Int) (hb:b.sz<=1000000000) (hl:0<=l/\l<=600) (ih:∀(b2:Zf) (l:Int),(b2.sz<b.sz)->(0<=l/\l<=600)->Za 196 [YG b2,.i l] [] (ZQ (.i (XW b2 l)))):Za 196 [YG b,.i l] [] (ZQ (.i (XW b l))):=by
 have hbz:=JW b
 have hbe:=OV b l
 refine Zx 43 Tryz.func196 (ar (iA (VE b) fun b1=>?_))
 refine Z0 (Ym (ab 0 (ZU (fun fz gz m F h=>∃(k:Nat) (q:Int),(k<=b.steps.length)/\(0<=q/\q<=600)/\(V9 (b.steps.drop k) q=V9 b.steps l)/\F=sF [2] fz [(1,.i q),(5,.i k)]/\h=gz/\m=b.steps.length-k) _ _ _ ⟨0,l,ob,ob,ob,rfl,rfl,rfl⟩ (wk [0] (fr (ZW fl))) ?_)))
 rintro m F h ⟨k,q,Y0,Z9,Zz,rfl,rfl,rfl⟩
 refine Yp 3 [0] (iw (T8 b.steps) (ZO ((k:Int)<(b.steps.length:Int)) (fun Z5=>?_) (fun Z5=>?_)))
 ·refine ak (aq (ab 1 (Yt (ZO (q<1) (fun Zd=>?_) (fun Zd=>?_)))))
  ·refine Zh ?_
   try rw [YV (xs:=b.steps) (k:=k) om] at Zz
   obtain ⟨x1,Z2⟩:=Zv b.steps k om
   rw [ZH Z2] at Zz
   clear Z2
   exact ZG (Zp (.i (-1)) (li (by first|rfl|omega|grind [V9])))
  obtain ⟨s1,hxs1⟩:=Zv b.steps k om
  have hss:=Dw hxs1
  have hkz:=Qq s1
  refine ak (ZM 1 (ia ((q-1)) ((q)-(1)) (Z0 (Zh (ab 2 (ZU (fun fz gz m F h=>∃(j:Nat) (j2:Int),(j<=s1.kids.length)/\(0<=j2/\j2<=600)/\(VO (s1.kids.drop j) j2=VO s1.kids (q-1))/\F=sF [2,5] fz [(1,.i j2),(6,.i j)]/\h=gz/\m=s1.kids.length-j) _ _ _ ⟨0,(q-1),ob,ob,ob,rfl,rfl,rfl⟩ (wk [0] (fr (ZW fl))) ?_))))))
  rintro m F h ⟨j,j2,T6,Xk,Uc,rfl,rfl,rfl⟩
  refine Yp 4 [0] (Zi (Zr none (k:Int) 5 (U7 hxs1)) (Z1 2 (iw (Uf s1.kids) (ZO ((j:Int)<(s1.kids.length:Int)) (fun Zw=>?_) (fun Zw=>?_)))))
  ·refine ak (aq (ab 3 (ZB 3 [0] (Zi (Zr none (k:Int) 5 (U7 hxs1)) (Z1 3 ?_)))))
   obtain ⟨x1,Z2⟩:=Zv s1.kids j om
   have hks:=Kg Z2
   have hle:=D7.2 x1 j2 om
   refine Zi (Zr none (j:Int) 2 (TF Z2)) (Z1 2 (ZC [] (ih x1 j2 ob ob) (Z0 (ar (ZO ((XW x1 j2)<0) (fun Yg=>?_) (fun Yg=>?_))))))
   ·refine Zh ?_
    rw [ZH hxs1] at Zz
    rw [ZH Z2] at Uc
    have hls:=F3 s1 (q-1)
    exact ZG (Zp (.i (-1)) (li (by clear Z2 hxs1;first|rfl|omega|grind [V9,VO])))
   refine ak (az (Z1 1 (ZK j (Z0 ?_))))
   have hdr:=ZH Z2
   exact ZJ ⟨j+1,(XW x1 j2),ob,ob,(by rw [hdr] at Uc;clear hdr Z2 hxs1;grind [VO]),rfl,rfl,rfl⟩ (wk [0] (fr (ZL j fl)))
  refine ax 2 (az (Z1 1 (ZK k (Z0 ?_))))
  rw [YV om] at Uc
  have hls:=F3 s1 (q-1)
  rw [VO] at Uc
  have hdr:=ZH hxs1
  exact ZJ ⟨k+1,j2,ob,ob,(by rw [hdr] at Zz;clear hdr hxs1;grind [V9]),rfl,rfl,rfl⟩ (wk [0] (fr (ZL k fl)))
 refine ax 0 (Zh ?_)
 try rw [YV (xs:=b.steps) (k:=k) om] at Zz
 exact ZG (Zp (.i q) (li (by first|rfl|omega|grind [V9])))
theorem Zd4 (b:Zf) (l:Int) (hb:b.sz<=1000000000) (hl:0<=l/\l<=600):Za 196 [.agg [.sl (Xm b.steps) none,.i b.result],.i l] [] (ZQ (.i (XW b l))):=by
 have key:∀m:Nat,∀(b:Zf) (l:Int),b.sz<=m->b.sz<=1000000000->(0<=l/\l<=600)->Za 196 [.agg [.sl (Xm b.steps) none,.i b.result],.i l] [] (ZQ (.i (XW b l))):=by
  intro m
  induction m with
  | zero=>intro b l h;have:=b.sz_pos;omega
  | succ m ih=>intro b l h1 h2 h3;exact Zd5 b l h2 h3 fun b2 l2 k1 k2=>ih b2 l2 om om k2
 exact key b.sz b l (X1 _) hb hl
theorem Zck (n:Zj) (hn:YZ n) (m:Nat):∀(b:Zf) (us:LI),(b.sz<=m)->(us.length+4*b.sz<=1000000000)->Za 142 [X6 n,Ze us,YG b] [] (ZQ (.i (Yv n us b))):=by
 induction m with
 | zero=>intro b us h;have:=b.sz_pos;omega
 | succ m ih=>intro b us h1 h2;exact Zcl n us b hn h2 fun s us2 k1 k2=>RZ n us2 s hn k2 fun b2 us3 q1 q2=>ih b2 us3 om q2
theorem RQ (n:Zj) (us:LI) (b:Zf) (hn:YZ n) (hb:us.length+4*b.sz<=1000000000):Za 142 [X6 n,Ze us,YG b] [] (ZQ (.i (Yv n us b))):=
 Zck n hn b.sz b us (X1 _) hb
theorem Zd3 (n:Zj) (us:LI) (s:Z7) (hn:YZ n) (hb:us.length+4*s.sz<=1000000000):Za 197 [X6 n,Ze us,XS s] [] (ZQ (.i (ZT n us s))):=
 RZ n us s hn hb fun b2 us3 _ q2=>RQ n us3 b2 hn q2
theorem Zd6 (b:Zf) (hb:b.sz<=1000000000:=by exact ob):Za 141 [YG b] [] (ZQ (.i (UM b))):=by
 have hle:=D7.2 b 600 om
 refine Zx 10 Tryz.func141 (ar (iA (VE b) fun b1=>Z0 (ZB 1 [0] (ZC [] (Zd4 b 600 ob ob) (Z0 (Yt (ZO ((XW b 600)<0) (fun Z5=>?_) (fun Z5=>?_))))))))
 ·exact ar (Z8 (Zp (.i (-1)) (li (by first|rfl|omega|grind [UM]))))
 exact ak (ZM 1 (ia ((600-(XW b 600))) ((600)-(XW b 600)) (Z8 (Zp (.i (600-(XW b 600))) (li (by first|rfl|omega|grind [UM]))))))
theorem Zdb (n:Zj) (hz:WM n:=by exact ob):Za 84 [X6 n] [] (ZQ (.b (XX n))):=by
 have hzl:=hz.len
 refine Zx 35 Tryz.func84 (ar (iA (Wb n) fun b1=>Z0 (Yp 1 [0] (ZC [] (Zda n (hz:=hz.decls) (hr:=(fun r hr=>⟨hz.params r hr,hz.lent r hr⟩))) (Yw (!Va n) (p:=¬(Va n=true)) (Yl Iff.rfl) (fun Z5=>?_) (fun Z5=>?_))))))
 ·exact ar (Z8 (Zp (.b false) (lb (by first|rfl|omega|grind [XX]))))
 have hok:=Ik hz (by simpa using Z5)
 refine ak (Ym (ab 0 (ZU (fun fz gz m F h=>∃(k:Nat),(k<=n.routines.length)/\(Tz n (n.routines.drop k)=Tz n n.routines)/\F=sF [1] fz [(3,.i k)]/\h=gz/\m=n.routines.length-k) _ _ _ ⟨0,ob,ob,rfl,rfl,rfl⟩ (wk [0] (ZW fl)) ?_)))
 rintro m F h ⟨k,Y0,Z9,rfl,rfl,rfl⟩
 refine Yp 3 [0] (iw (UJ n.routines) (ZO ((k:Int)<(n.routines.length:Int)) (fun Zd=>?_) (fun Zd=>?_)))
 ·refine ak (aq (ab 1 (ZB 3 [0] ?_)))
  obtain ⟨x1,Z2⟩:=Zv n.routines k om
  have D1:=hz.body _ (YF Z2)
  have hps:=hok.params_at Z2
  refine Zi (Zr none (k:Int) 5 (Us Z2)) (Z1 1 (iA [nl,nl,.i 0,nl,.i 0] fun b2=>Y4 0 b2 (TM x1) (ie (aD 15 (Ya 13 15 [0,1] [0] (ZF 2 (W4 2 [] [] [] (Zd6 x1.body) (Jw [1,3] [(34,.b ((decide ((UM x1.body)<0))||((Yv n x1.params x1.body) != x1.result)))] (fun gz=>gz) ?_ ?_))))))))
  ·refine Zo 10 12 [3,4] (db (b:=(decide ((UM x1.body)<0))) 24 (fun Zc=>?_) (fun Zc=>?_))
   ·exact Zo 0 10 [5,6,7,8,9,10,11,12,13,14] (de (wk [0,0] (Zq true Zc fl)))
   exact Ya 3 10 [5,6,7,8,9,11,12] [1,0,0,0] (ZF 10 (W4 10 [] [0] [b2] (RQ n x1.params x1.body ob ob) (Zo 0 2 [13,14] (de (wk [0,0] (Zq ((Yv n x1.params x1.body) != x1.result) Zc fl))))))
  refine ac ((decide ((UM x1.body)<0))||((Yv n x1.params x1.body) != x1.result)) (p:=((UM x1.body)<0)∨((Yv n x1.params x1.body)≠x1.result)) (Yj dq ZP) (fun Zw=>?_) (fun Zw=>?_)
  ·refine Zh ?_
   rw [ZH Z2] at Z9
   exact ZG (Zp (.b false) (lb (by clear Z2;first|rfl|omega|grind [Tz,XX])))
  refine ak (az (Z1 1 (ZK k (Z0 ?_))))
  have hdr:=ZH Z2
  exact ZJ ⟨k+1,ob,(by rw [hdr] at Z9;clear hdr Z2;grind [Tz]),rfl,rfl,rfl⟩ (wk [1] (ZL k fl))
 refine ax 0 (Zh ?_)
 try rw [YV (xs:=n.routines) (k:=k) om] at Z9
 exact ZG (Zp (.b true) (lb (by first|rfl|omega|grind [Tz,XX])))
theorem Zcy (op:Int) :Za 146 [.i op] [] (ZQ (.b (YT op))):=by
 exact Zx 5 Tryz.func146 (Zh (ZM 1 (ZC [] (Tl op 14 17) (Z8 (Zp (.b (decide (14<=op/\op<=17))) (lb (by first|rfl|omega|grind [YT])))))))
theorem Zcm (op:Int) :Za 324 [.i op] [] (ZQ (.b (Qk op))):=by
 refine Zx 17 Tryz.func324 (Zh (ar (XC 6 [0] [(8,.b ((op==6)||(op==9)))] (fun gz=>gz) ?_ (fun hj1=>?_))))
 ·refine XC 10 [0] [(12,.b (((op==6)||(op==9))||(op==10)))] (fun gz=>gz) ?_ (fun hj2=>?_)
  ·refine XC 14 [] [(16,.b ((((op==6)||(op==9))||(op==10))||(op==11)))] (fun gz=>gz) ?_ (fun hj3=>?_)
   ·exact Z8 (Zp (.b ((((op==6)||(op==9))||(op==10))||(op==11))) (lb (by first|rfl|omega|grind [Qk])))
   refine Z1 1 (ib (b:=(((op==6)||(op==9))||(op==10))) 13 (fun Zc=>?_) (fun Zc=>?_))
   ·exact Z1 3 (Ye (wk [] (Zq true Zc fl)) hj3)
   exact Z1 3 (Ye (wk [] (Zq (op==11) Zc fl)) hj3)
  refine Z1 1 (ib (b:=((op==6)||(op==9))) 9 (fun ZD=>?_) (fun ZD=>?_))
  ·exact Z1 3 (Ye (wk [] (Zq true ZD fl)) hj2)
  exact Z1 3 (Ye (wk [] (Zq (op==10) ZD fl)) hj2)
 refine Z1 3 (ib (b:=(op==6)) 5 (fun Yq=>?_) (fun Yq=>?_))
 ·exact Z1 3 (Ye (wk [] (Zq true Yq fl)) hj1)
 exact Z1 3 (Ye (wk [] (Zq (op==9) Yq fl)) hj1)
theorem RX (n:Zj) (s:Z7) (i:Nat) (hn:YZ n:=by exact ob) (hnum:s.op=9->0<=s.num/\s.num<n.routines.length:=by exact ob):Za 285 [X6 n,XS s,.i i] [] (ZQ (.b (VP n s.op s.num i))):=by
 refine Zx 21 Tryz.func285 (ar (iA (Wb n) fun b1=>iA (WT s) fun b2=>Z0 (ZB 4 [0] (ib (b:=(s.op==9)) 10 (fun Zc=>?_) (fun Zc=>?_)))))
 ·have Yd:s.op=9:=(Zs).1 Zc
  refine Y6 4 [1,0] ?_
  obtain ⟨x1,Z2⟩:=Zv n.routines s.num.toNat om
  have hlt:=hn.lent_at Z2
  have hlr:=Z8w (n:=n) Yd Z2
  exact Zi (Zr none s.num 5 (Us Z2)) (Z1 3 (ZC [] (Lf x1.lent (i:Int)) (Z8 (Zp (.b (decide ((i:Int)∈x1.lent))) (lb (by rw [VP,hlr]))))))
 have YX:¬(s.op=9):=Y3 Zs Zc
 exact Z8 (Zp (.b false) (lb (by rw [VP,JN,Z4 YX];simp)))
theorem Zcx (n:Zj) (us:LI) (s:Z7) (i:Nat) (a:Int) (hn:YZ n:=by exact ob) (hnum:s.op=9->0<=s.num/\s.num<n.routines.length:=by exact ob) (ha:s.args[i]? = some a:=by exact ob) (hi:0<=a/\a<us.length:=by exact ob):Za 284 [X6 n,Ze us,XS s,.i i] [] (ZQ (.b (Q0 n us s.op s.num a i))):=by
 have hal:=(W5.1 ha).1
 refine Zx 30 Tryz.func284 (ar (iA (Wb n) fun b1=>iA (WT s) fun b2=>Z0 (ZB 2 [0] (ZC [] (Zcm s.op) (Z1 1 (ib (b:=Qk s.op) 12 (fun Zc=>?_) (fun Zc=>?_)))))))
 ·refine Y6 4 [0] ?_
  obtain ⟨x1,Z2⟩:=Zv s.args i om
  have hxa:x1=a:=by rw [ha] at Z2;exact (Tn Z2).symm
  subst hxa
  refine Zi (Zr none (i:Int) 1 (Yf Z2)) (Z1 1 ?_)
  obtain ⟨x2,Zt⟩:=Zv us x1.toNat om
  have hga:=Vt Zt
  refine Zi (Zr none x1 1 (Yf Zt)) (Z1 4 (ib (b:=(x2 != 0)) 23 (fun ZD=>?_) (fun ZD=>?_)))
  ·exact Y6 3 [1,0] (ZC [] (RX n s i) (Z8 (Zp (.b (!VP n s.op s.num i)) (lb (by clear Z2 Zt;first|rfl|(rw [Q0];grind))))))
  exact Z8 (Zp (.b false) (lb (by clear Z2 Zt;first|rfl|(rw [Q0];grind))))
 exact Z8 (Zp (.b false) (lb (by  first|rfl|(rw [Q0];grind))))
theorem RY (xs:LI) (ys:LI) (hl_xs:xs.length<=4294967296:=by exact ob) (hl_ys:ys.length<=4294967296:=by exact ob):Za 283 [Ze xs,Ze ys] [] (ZQ (.b (decide (xs=ys)))):=by
 refine Zx 26 Tryz.func283 (Zh (Yb 1 (iw (Yn xs) (Z1 1 (iw (Yn ys) (Yw ((xs.length:Int) != (ys.length:Int)) ZP (fun Z5=>?_) (fun Z5=>?_)))))))
 ·exact ar (Z8 (Zp (.b false) (lb (eq_comm.1 (decide_eq_false (fun q=>by rw [q] at Z5;exact Z5 rfl))))))
 refine ak (Ym (ab 0 (ZU (fun fz gz m F h=>∃(k:Nat),(k<=xs.length)/\(xs.take k=ys.take k)/\F=sF [0,1] fz [(5,.i k)]/\h=gz/\m=xs.length-k) _ _ _ ⟨0,ob,ob,rfl,rfl,rfl⟩ (wk [] (ZW fl)) ?_)))
 rintro m F h ⟨k,Y0,Z9,rfl,rfl,rfl⟩
 refine Yb 2 (iw (Yn xs) (ZO ((k:Int)<(xs.length:Int)) (fun Zd=>?_) (fun Zd=>?_)))
 ·refine ak (aq (ab 1 (aD 9 (Zo 7 9 [0,1] ?_))))
  obtain ⟨x1,Z2⟩:=Zv xs k om
  refine dx 2 (Zr none (k:Int) 1 (Yf Z2)) (Zo 3 6 [3,4,5] ?_)
  obtain ⟨x2,Zt⟩:=Zv ys k om
  refine dx 6 (Zr none (k:Int) 1 (Yf Zt)) (Zo 0 2 [7,8] (de (ac (x1 != x2) ZP (fun Zw=>?_) (fun Zw=>?_))))
  ·exact ar (Z8 (Zp (.b false) (lb (eq_comm.1 (decide_eq_false (fun q=>by subst q;rw [Z2] at Zt;cases Zt;exact Zw rfl))))))
  refine ak (az (Z1 1 (ZK k (Z0 ?_))))
  have hdr:=ZH Z2
  exact ZJ ⟨k+1,ob,(by rw [WU Z2,WU Zt,Z9];have hxx:x1=x2:=om;rw [hxx]),rfl,rfl,rfl⟩ (wk [] (ZL k fl))
 exact ax 0 (ar (Z8 (Zp (.b true) (lb (eq_comm.1 (decide_eq_true (by rw [W6 om,W6 om] at Z9;exact Z9)))))))
theorem Bg (xs:LI) (hlen:xs.length<=4294967296:=by exact ob):Za 115 [Ze xs] [] (fun r h=>∃(v:Hd),r=.h v/\h=[rV v xs]):=by
 exact Zx 6 Tryz.func115 (Zh (ar (HL [] 0 fun v1=>Z1 1 (Kf 0 v1 [] xs none fun v2=>Z8 (r1 [0] ⟨v2,rfl,rfl⟩ (eq:=(rv (xs:=([]++xs)) ob rz)))))))
theorem QO (b:Nat) (ga:Hd) (gb:Hd) (gc:Hd) (gd:Hd) (ge:Hd) (gf:Hd) (L:Zb) (ln:LI) (t:Int) (o:Int) (p:Int) (hlb:L.vars.length<=1000000000:=by exact ob) (hlk:Wc L:=by exact ob):Za 199 [.p b 0,.i t,.i o,.i p] [.obj b [.h ga,.h gb,.h gc,.h gd,.h ge,.h gf,Ze ln],rV ga L.vars,rV gb L.own,rV gc L.par,rV gd L.con,rV ge L.fst,rV gf L.tok] (fun r h=>∃(wa:Hd) (wb:Hd) (wc:Hd) (wd:Hd) (we:Hd) (wf:Hd),h=[.obj b [.h wa,.h wb,.h wc,.h wd,.h we,.h wf,Ze ln],rV wa ((L.grow t o p).vars),rV wb ((L.grow t o p).own),rV wc ((L.grow t o p).par),rV wd ((L.grow t o p).con),rV we ((L.grow t o p).fst),rV wf ((L.grow t o p).tok)]):=by
 obtain ⟨e1,e2,e3,e4,e5⟩:=hlk
 exact Zx 65 Tryz.func199 (ZB 6 [0] (iL (Zk [t]) 1 1 fun v1=>W2 0 [(14,Ze [t])] (Kf 2 ga L.vars [t] none fun v2=>Z1 2 (Y4 2 b [.h v2,.h gb,.h gc,.h gd,.h ge,.h gf,Ze ln] (ie (ZB 6 [0] (iL (Zk [o]) 1 1 fun v3=>W2 0 [(24,Ze [o])] (Kf 4 gb L.own [o] none fun v4=>Z1 2 (Y4 2 b [.h v2,.h v4,.h gc,.h gd,.h ge,.h gf,Ze ln] (ie (ZB 6 [0] (iL (Zk [p]) 1 1 fun v5=>W2 0 [(34,Ze [p])] (Kf 6 gc L.par [p] none fun v6=>Z1 2 (Y4 2 b [.h v2,.h v4,.h v6,.h gd,.h ge,.h gf,Ze ln] (ie (ZB 5 [0] (iL (Zk [-1]) 1 1 fun v7=>W2 0 [(43,Ze [-1])] (Kf 8 gd L.con [-1] none fun v8=>Z1 2 (Y4 2 b [.h v2,.h v4,.h v6,.h v8,.h ge,.h gf,Ze ln] (ie (ZB 5 [0] (iL (Zk [-1]) 1 1 fun v9=>W2 0 [(52,Ze [-1])] (Kf 10 ge L.fst [-1] none fun v10=>Z1 2 (Y4 2 b [.h v2,.h v4,.h v6,.h v8,.h v10,.h gf,Ze ln] (ie (az (Y6 5 [0] (iL (Zk [-1]) 1 1 fun v11=>W2 0 [(61,Ze [-1])] (Kf 12 gf L.tok [-1] none fun v12=>Z1 2 (Y4 2 b [.h v2,.h v4,.h v6,.h v8,.h v10,.h v12,Ze ln] (ie (r2 [0,10,8,6,4,2,0] [] ⟨v2,v4,v6,v8,v10,v12,rfl⟩ (lr _) (eq:=(rc (rv (xs:=(L.vars++[t])) ob (rv (xs:=(L.own++[o])) ob (rv (xs:=(L.par++[p])) ob (rv (xs:=(L.con++[-1])) ob (rv (xs:=(L.fst++[-1])) ob (rv (xs:=(L.tok++[-1])) ob rz))))))))))))))))))))))))))))))))))))))))
theorem Z8m (b:Nat) (ga:Hd) (gb:Hd) (gc:Hd) (gd:Hd) (ge:Hd) (gf:Hd) (L:Zb) (ln:LI) (hlb:L.vars.length<=1000000000:=by exact ob) (hlk:Wc L:=by exact ob) (hln:ln.length<=4294967296:=by exact ob):Za 323 [.p b 0] [.obj b [.h ga,.h gb,.h gc,.h gd,.h ge,.h gf,Ze ln],rV ga L.vars,rV gb L.own,rV gc L.par,rV gd L.con,rV ge L.fst,rV gf L.tok] (fun r h=>∃(c:Nat) (wa:Hd) (wb:Hd) (wc:Hd) (wd:Hd) (we:Hd) (wf:Hd),r=.p c 0/\h=[.obj c [.h wa,.h wb,.h wc,.h wd,.h we,.h wf,Ze ln],rV wa L.vars,rV wb L.own,rV wc L.par,rV wd L.con,rV we L.fst,rV wf L.tok,.obj b [.h ga,.h gb,.h gc,.h gd,.h ge,.h gf,Ze ln],rV ga L.vars,rV gb L.own,rV gc L.par,rV gd L.con,rV ge L.fst,rV gf L.tok]):=by
 obtain ⟨e1,e2,e3,e4,e5⟩:=hlk
 refine Zx 40 Tryz.func323 (Zh (aD 38 (Ya 10 38 [0,1,2,3,5,6,7,8,10,11,12,13,15,16,17,18,20,21,22,23,25,26,27,28,30,31,32,33] [0,0,0,0,0,0,0] (ZF 4 (Ue 4 [1] [0,0,0,0,0,0] [b,b,b,b,b,b] [rV ga L.vars] (Bg L.vars) QL (gL (v:=ga) 0 gN) (Vp VV) ?_)))))
 rintro _ _ ⟨v1,rfl,rfl⟩
 refine ZF 9 (Ue 9 [3] [0,0,0,0,0] [b,b,b,b,b] [rV gb L.own] (Bg L.own) QL (gL (v:=gb) 0 gN) (Vp VV) ?_)
 rintro _ _ ⟨v2,rfl,rfl⟩
 refine ZF 14 (Ue 14 [5] [0,0,0,0] [b,b,b,b] [rV gc L.par] (Bg L.par) QL (gL (v:=gc) 0 gN) (Vp VV) ?_)
 rintro _ _ ⟨v3,rfl,rfl⟩
 refine ZF 19 (Ue 19 [7] [0,0,0] [b,b,b] [rV gd L.con] (Bg L.con) QL (gL (v:=gd) 0 gN) (Vp VV) ?_)
 rintro _ _ ⟨v4,rfl,rfl⟩
 refine ZF 24 (Ue 24 [9] [0,0] [b,b] [rV ge L.fst] (Bg L.fst) QL (gL (v:=ge) 0 gN) (Vp VV) ?_)
 rintro _ _ ⟨v5,rfl,rfl⟩
 refine ZF 29 (Ue 29 [11] [0] [b] [rV gf L.tok] (Bg L.tok) QL (gL (v:=gf) 0 gN) (Vp VV) ?_)
 rintro _ _ ⟨v6,rfl,rfl⟩
 refine ZF 34 (dc 34 [] [] [] (AF ln) ?_)
 rintro _ _ ⟨v7,rfl,rfl⟩
 exact UT 2 3 [35] [(38,.agg [.h v1,.h v2,.h v3,.h v4,.h v5,.h v6,Ze ln])] (ZF 36 (dA 36 [] [] [.h v1,.h v2,.h v3,.h v4,.h v5,.h v6,Ze ln] fun b1=>Zo 0 1 [37] (de (ZG (r1 [0,11,9,7,5,3,1,7,6,5,4,3,2,1] ⟨b1,v1,v2,v3,v4,v5,v6,rfl,rfl⟩)))))
theorem EZ (b:Nat) (ga:Hd) (gb:Hd) (gc:Hd) (gd:Hd) (ge:Hd) (gf:Hd) (L:Zb) (ln:LI) (i:Int) (hlk:Wc L:=by exact ob) (hi:0<=i/\i<L.vars.length:=by exact ob) (hq:∀x∈L.own,0<=x/\x<=1000000000):Za 201 [.p b 0,.i i] [.obj b [.h ga,.h gb,.h gc,.h gd,.h ge,.h gf,Ze ln],rV ga L.vars,rV gb L.own,rV gc L.par,rV gd L.con,rV ge L.fst,rV gf L.tok] (fun r h=>(∃(wa:Hd) (wb:Hd) (wc:Hd) (wd:Hd) (we:Hd) (wf:Hd) (L':Zb),r=.b true/\h=[.obj b [.h wa,.h wb,.h wc,.h wd,.h we,.h wf,Ze ln],rV wa L'.vars,rV wb L'.own,rV wc L'.par,rV wd L'.con,rV we L'.fst,rV wf L'.tok]/\Ul L i=some L')∨(r=.b false/\h=[]/\Ul L i=none)):=by
 obtain ⟨e1,e2,e3,e4,e5⟩:=hlk
 refine Zx 27 Tryz.func201 (Zh (Yp 5 [0] (Zi (XE 2 gb L.own i i.toNat (hq:=rfl)) ?_)))
 obtain ⟨x1,Z2⟩:=Zv L.own i.toNat om
 have hxq:=hq _ (YF Z2)
 have hgi:=Vt Z2
 refine Xx (WV 2 gb L.own i.toNat x1 Z2) (ZO (x1<1) (fun Z5=>?_) (fun Z5=>?_))
 ·exact ar (Z8 (r1 [] (.inr ⟨rfl,rfl,(by rw [Ul,hgi,Z6 Z5])⟩)))
 exact ak (aD 15 (Ya 5 15 [0,1,2,3,4,5,6,7,8,9] [0,0] (dx 10 (XE 2 gb L.own i i.toNat (hq:=rfl)) (Qm 11 (WV 2 gb L.own i.toNat x1 Z2) (da 12 ((x1-1)) ((x1)-(1)) (dx 13 (XE 2 gb L.own i i.toNat (hq:=rfl)) (ZF 14 (Jy 14 2 [] [] gb L.own i.toNat (x1-1) (de (ar (Z8 (r1 [1,1,0,0,0,0,0] (.inl ⟨ga,gb,gc,gd,ge,gf,(Zb.mk L.vars (L.own.set i.toNat (x1-1)) L.par L.con L.fst L.tok),rfl,rfl,(by rw [Ul,hgi,Z4 Z5])⟩) (eq:=(rc (rv (xs:=L.vars) ob (rv (xs:=(L.own.set i.toNat (x1-1))) ob (rv (xs:=L.par) ob (rv (xs:=L.con) ob (rv (xs:=L.fst) ob (rv (xs:=L.tok) ob rz))))))))))))))))))))
theorem HV (b:Nat) (ga:Hd) (gb:Hd) (gc:Hd) (gd:Hd) (ge:Hd) (gf:Hd) (L:Zb) (ln:LI) (i:Int) (hlk:Wc L:=by exact ob) (hln:ln.length<=4294967296:=by exact ob) (hi:0<=i/\i<L.vars.length:=by exact ob) (hd:∀j:Int,0<=j->j<L.vars.length->gI L.par j<j):Za 178 [.p b 0,.i i] [.obj b [.h ga,.h gb,.h gc,.h gd,.h ge,.h gf,Ze ln],rV ga L.vars,rV gb L.own,rV gc L.par,rV gd L.con,rV ge L.fst,rV gf L.tok] (fun r h=>r=.b (XL L ln i)/\h=[.obj b [.h ga,.h gb,.h gc,.h gd,.h ge,.h gf,Ze ln],rV ga L.vars,rV gb L.own,rV gc L.par,rV gd L.con,rV ge L.fst,rV gf L.tok]):=by
 obtain ⟨e1,e2,e3,e4,e5⟩:=hlk
 refine Zx 31 Tryz.func178 (Zh (aq (ab 0 (ZU (fun fz gz m F h=>∃(j:Int),(0<=j/\j<L.vars.length)/\(Qf L.own L.par ln (j.toNat+1) j=XL L ln i)/\F=sF [0] fz [(1,.i j)]/\h=gz/\m=j.toNat) _ _ _ ⟨i,ob,ob,rfl,rfl,rfl⟩ (Y5 7 fl) ?_))))
 rintro m F h ⟨j,Y0,Z9,rfl,rfl,rfl⟩
 refine Yp 5 [0] (Zi (XE 2 gb L.own j j.toNat (hq:=rfl)) ?_)
 obtain ⟨x1,Z2⟩:=Zv L.own j.toNat om
 have hg1:=Vt Z2
 refine Xx (WV 2 gb L.own j.toNat x1 Z2) (Wa [0,1] [(21,.b ((decide (x1<1))&&(!(decide (j∈ln)))))] (fun gz=>gz) ?_ ?_)
 ·refine Z1 2 (ib (b:=(decide (x1<1))) 13 (fun Zc=>?_) (fun Zc=>?_))
  ·exact Y6 5 [0] (ZC [] (Lf ln j) (Z0 (Y5 7 (Zq (!(decide (j∈ln))) Zc fl))))
  exact Z0 (Y5 7 (Zq false Zc fl))
 refine ac ((decide (x1<1))&&(!(decide (j∈ln)))) (p:=(x1<1)/\(¬(j∈ln))) (YD dq (Yl dq)) (fun Z5=>?_) (fun Z5=>?_)
 ·refine ak (ab 1 (ZB 5 [0] (Zi (XE 3 gc L.par j j.toNat (hq:=rfl)) ?_)))
  obtain ⟨x2,Zt⟩:=Zv L.par j.toNat om
  have hg2:=Vt Zt
  have hdj:=hd j om om
  rw [hg2] at hdj
  refine Xx (WV 3 gc L.par j.toNat x2 Zt) (Z0 (ar (ZO (x2<0) (fun Zd=>?_) (fun Zd=>?_))))
  ·exact ar (Z8 (r2 [0,0,0,0,0,0,0] [.b false] ⟨rfl,rfl⟩ (lb (Mf hg1 hg2 Z5 Zd Z9))))
  exact ak (ZJ ⟨x2,om,(Mg hg1 hg2 Y0 Z5 Zd hd Z9),rfl,rfl,rfl⟩ (Y5 7 fl))
 exact ax 0 (ar (Z8 (r2 [0,0,0,0,0,0,0] [.b true] ⟨rfl,rfl⟩ (lb (Mh hg1 Z5 Z9)))))
theorem HW (b:Nat) (ga:Hd) (gb:Hd) (gc:Hd) (gd:Hd) (ge:Hd) (gf:Hd) (L:Zb) (ln:LI) (mm:Nat) (hlk:Wc L:=by exact ob) (hlb:L.vars.length<=1000000000:=by exact ob) (hm:mm<=L.vars.length:=by exact ob):Za 145 [.p b 0,.i mm] [.obj b [.h ga,.h gb,.h gc,.h gd,.h ge,.h gf,Ze ln],rV ga L.vars,rV gb L.own,rV gc L.par,rV gd L.con,rV ge L.fst,rV gf L.tok] (fun r h=>(∃(wa:Hd) (wb:Hd) (wc:Hd) (wd:Hd) (we:Hd) (wf:Hd) (L':Zb),r=.b true/\h=[.obj b [.h wa,.h wb,.h wc,.h wd,.h we,.h wf,Ze ln],rV wa L'.vars,rV wb L'.own,rV wc L'.par,rV wd L'.con,rV we L'.fst,rV wf L'.tok]/\Ud L mm=some L')∨(r=.b false/\h=[]/\Ud L mm=none)):=by
 obtain ⟨e1,e2,e3,e4,e5⟩:=hlk
 refine Zx 88 Tryz.func145 (Zh (Ym (ab 0 (ZU (fun fz gz m F h=>∃(k:Nat),(mm<=k/\k<=L.vars.length)/\(WJ (L.own.drop k) (L.tok.drop k)=WJ (L.own.drop mm) (L.tok.drop mm))/\F=sF [0,1] fz [(5,.i k)]/\h=gz/\m=L.vars.length-k) _ _ _ ⟨mm,ob,ob,rfl,rfl,rfl⟩ (Y5 7 fl) ?_))))
 rintro m F h ⟨k,Y0,Z9,rfl,rfl,rfl⟩
 refine Yp 5 [0] (Zi (KW 1 ga L.vars) (ZO ((k:Int)<(L.vars.length:Int)) (fun Z5=>?_) (fun Z5=>?_)))
 ·refine ak (aq (ab 1 (ZB 5 [0] (Zi (XE 2 gb L.own (k:Int) k) ?_))))
  obtain ⟨x1,Z2⟩:=Zv L.own k om
  refine Xx (WV 2 gb L.own k x1 Z2) (Z1 2 (ib (b:=(x1 != 0)) 24 (fun Zc=>?_) (fun Zc=>?_)))
  ·have Yd:x1≠0:=(ZP).1 Zc
   refine Z0 (W7 (Zh ?_))
   obtain ⟨y2,hy2⟩:=Zv L.tok k om
   exact ZG (r1 [] (.inr ⟨rfl,rfl,(by rw [Ud,<-Z9,ZH Z2,ZH hy2,WJ,Z6 (show x1≠0∨0<=y2 by omega)];rfl)⟩))
  have YX:¬(x1≠0):=Y3 ZP Zc
  refine Y6 5 [0] (Zi (XE 6 gf L.tok (k:Int) k) ?_)
  obtain ⟨x2,Zt⟩:=Zv L.tok k om
  refine Xx (WV 6 gf L.tok k x2 Zt) (ZO (x2>=0) (fun Zd=>?_) (fun Zd=>?_))
  ·exact ar (Z8 (r1 [] (.inr ⟨rfl,rfl,(by rw [Ud,<-Z9,ZH Z2,ZH Zt,WJ,Z6 (show x1≠0∨0<=x2 by omega)];rfl)⟩)))
  exact ak (az (Z1 1 (ZK k (Z0 (ZJ ⟨k+1,ob,(by rw [ZH Z2,ZH Zt,WJ,Z4 om] at Z9;exact Z9),rfl,rfl,rfl⟩ (Y5 7 (ZL k fl)))))))
 exact ax 0 (ZB 6 [0] (Zi (Qw 1 ga L.vars mm) (Z1 2 (Ta (Bi 1 mm ga L.vars) (Y4 1 b [.h (ga.cut mm),.h gb,.h gc,.h gd,.h ge,.h gf,Ze ln] (ie (ZB 6 [0] (Zi (Qw 2 gb L.own mm) (Z1 2 (Ta (Bi 2 mm gb L.own) (Y4 1 b [.h (ga.cut mm),.h (gb.cut mm),.h gc,.h gd,.h ge,.h gf,Ze ln] (ie (ZB 6 [0] (Zi (Qw 3 gc L.par mm) (Z1 2 (Ta (Bi 3 mm gc L.par) (Y4 1 b [.h (ga.cut mm),.h (gb.cut mm),.h (gc.cut mm),.h gd,.h ge,.h gf,Ze ln] (ie (ZB 6 [0] (Zi (Qw 4 gd L.con mm) (Z1 2 (Ta (Bi 4 mm gd L.con) (Y4 1 b [.h (ga.cut mm),.h (gb.cut mm),.h (gc.cut mm),.h (gd.cut mm),.h ge,.h gf,Ze ln] (ie (ZB 6 [0] (Zi (Qw 5 ge L.fst mm) (Z1 2 (Ta (Bi 5 mm ge L.fst) (Y4 1 b [.h (ga.cut mm),.h (gb.cut mm),.h (gc.cut mm),.h (gd.cut mm),.h (ge.cut mm),.h gf,Ze ln] (ie (ZB 6 [0] (Zi (Qw 6 gf L.tok mm) (Z1 2 (Ta (Bi 6 mm gf L.tok) (Y4 1 b [.h (ga.cut mm),.h (gb.cut mm),.h (gc.cut mm),.h (gd.cut mm),.h (ge.cut mm),.h (gf.cut mm),Ze ln] (ie (ar (Z8 (r1 [0,5,4,3,2,1,0] (.inl ⟨(ga.cut mm),(gb.cut mm),(gc.cut mm),(gd.cut mm),(ge.cut mm),(gf.cut mm),(Zb.mk (L.vars.take mm) (L.own.take mm) (L.par.take mm) (L.con.take mm) (L.fst.take mm) (L.tok.take mm)),rfl,rfl,(by rw [Ud,Z6 (by rw [<-Z9,YV om];rfl)];rfl)⟩) (eq:=(rc (rv (xs:=(L.vars.take mm)) ob (rv (xs:=(L.own.take mm)) ob (rv (xs:=(L.par.take mm)) ob (rv (xs:=(L.con.take mm)) ob (rv (xs:=(L.fst.take mm)) ob (rv (xs:=(L.tok.take mm)) ob rz)))))))))))))))))))))))))))))))))))))))))))))))
theorem Z8o (b:Nat) (ga:Hd) (gb:Hd) (gc:Hd) (gd:Hd) (ge:Hd) (gf:Hd) (n:Zj) (s:Z7) (L:Zb) (ln:LI) (q:Int) (x:Int) (hn:YZ n:=by exact ob) (hk:YK n.decls L q:=by exact ob) (hlb:L.vars.length<=1000000000:=by exact ob) (ha:s.args[0]? = some x:=by exact ob) (hx:0<=x/\x<L.vars.length:=by exact ob) (hq:0<=q/\q<=999999990:=by exact ob):Za 237 [.p b 0,X6 n,XS s] [.obj b [.h ga,.h gb,.h gc,.h gd,.h ge,.h gf,Ze ln],rV ga L.vars,rV gb L.own,rV gc L.par,rV gd L.con,rV ge L.fst,rV gf L.tok] (fun r h=>(∃(wa:Hd) (wb:Hd) (wc:Hd) (wd:Hd) (we:Hd) (wf:Hd) (L':Zb),r=.b true/\h=[.obj b [.h wa,.h wb,.h wc,.h wd,.h we,.h wf,Ze ln],rV wa L'.vars,rV wb L'.own,rV wc L'.par,rV wd L'.con,rV we L'.fst,rV wf L'.tok]/\TP n.decls L s.op x=some L')∨(r=.b false/\h=[]/\TP n.decls L s.op x=none)):=by
 obtain ⟨e1,e2,e3,e4,e5⟩:=hk.len
 have Wy:=hn.decls
 have hal:=(W5.1 ha).1
 obtain ⟨xcon,hxcon⟩:=Zv L.con ((x).toNat) om
 have hgcon:=Vt hxcon
 obtain ⟨xtok,hxtok⟩:=Zv L.tok ((x).toNat) om
 have hgtok:=Vt hxtok
 obtain ⟨xfst,hxfst⟩:=Zv L.fst ((x).toNat) om
 have hgfst:=Vt hxfst
 have hfl:=TZ Wy xcon
 have har:=hk.arm x om om
 rw [hgcon,hgfst] at har
 refine Zx 105 Tryz.func237 (ar (iA (Wb n) fun b1=>iA (WT s) fun b2=>Z0 (ZB 2 [0] (Zi (Zr none 0 1 (Yf ha)) (Z0 (Yp 5 [2] (Zi (XE 6 gd L.con x x.toNat (hq:=rfl)) (Xx (WV 6 gd L.con x.toNat xcon hxcon) (XC 23 [0,4,5,7] [(36,.b ((decide (xcon<0))||((s.op==17)&&(decide (xtok>=0)))))] (fun gz=>gz) ?_ (fun hj1=>?_))))))))))
 ·refine Z1 1 (ib (b:=((decide (xcon<0))||((s.op==17)&&(decide (xtok>=0))))) 37 (fun Zc=>?_) (fun Zc=>?_))
  ·have Yd:(xcon<0)∨((s.op=17)/\(xtok>=0)):=((Yj dq (YD Zs dq))).1 Zc
   exact Z0 (W7 (ar (Z8 (r1 [] (.inr ⟨rfl,rfl,(by rw [TP,hgcon,hgtok,Z6 om])⟩)))))
  have YX:¬((xcon<0)∨((s.op=17)/\(xtok>=0))):=Y3 (Yj dq (YD Zs dq)) Zc
  refine Z1 2 (ic [2,2,2,2,2,2,2] (EZ b ga gb gc gd ge gf L ln x (hlk:=hk.len) (hq:=(fun y hy=>⟨hk.nn y hy,by have:=hk.bd y hy;omega⟩))) ?_)
  rintro _ _ (⟨wa1,wb1,wc1,wd1,we1,wf1,L'1,rfl,rfl,XB⟩|⟨rfl,rfl,XH⟩)
  ·obtain ⟨t1,t2,t3,t4,t5,t6,t7⟩:=Qu XB
   have hk1:=hk.take XB
   obtain ⟨f1,f2,f3,f4,f5⟩:=hk1.len
   have hxcon1:L'1.con[x.toNat]? = some xcon:=by rw [t4];exact hxcon
   have hvl:L'1.vars.length=L.vars.length:=by rw [t2]
   have har2:=har om
   have hxfst1:L'1.fst[x.toNat]? = some xfst:=by rw [t5];exact hxfst
   refine Z0 (XF (ak (aD 11 (Ya 4 11 [0,1,2,3,4,5,6] [8,0] (dx 7 (XE 4 wd1 L'1.con x x.toNat (hq:=rfl)) (Qm 8 (WV 4 wd1 L'1.con x.toNat xcon hxcon1) (ZF 9 (W4 9 [] [] [] (FC n.decls xcon) (Zo 0 1 [10] (de (Ym (ab 0 (ZU (fun fz gz m F h=>∃(k:Nat) (o:LI),(k<=(Y1 n.decls xcon).length)/\(o.length=L.vars.length)/\(∀y∈o,0<=y/\y<=q+k)/\(UP o (xfst+k) ((Y1 n.decls xcon).drop k)=UP L'1.own xfst (Y1 n.decls xcon))/\F=sF [0,5,7,8] fz [(9,.i k)]/\h=[Zy gz 0,Zy gz 1,rV wb1 o,Zy gz 3,Zy gz 4,Zy gz 5,Zy gz 6,Zy gz 7]/\m=(Y1 n.decls xcon).length-k) _ _ _ ⟨0,L'1.own,ob,om,(by intro y hy;have h1:=hk1.nn y hy;have h2:=hk1.bd y hy;omega),(by rw [show xfst+((0:Nat):Int)=xfst by omega,TR]),rfl,rfl,rfl⟩ (Y5 8 (ZW fl)) ?_)))))))))))))
   rintro m F h ⟨k,o,Y0,Z9,Zz,Y8,rfl,rfl,rfl⟩
   refine Yb 2 (io (.i (((Y1 n.decls xcon).length:Nat):Int)) (.i (((Zk (Y1 n.decls xcon)).length:Nat):Int)) (li (by rw [Yn])) (ZO ((k:Int)<(((Y1 n.decls xcon).length:Nat):Int)) (fun Z5=>?_) (fun Z5=>?_)))
   ·refine ak (aq (ab 1 (ZM 2 ?_)))
    obtain ⟨x1,Z2⟩:=Zv (Y1 n.decls xcon) k om
    refine Zi (Zr none (k:Int) 1 (Yf Z2)) (Yw (x1 != 0) ZP (fun Zd=>?_) (fun Zd=>?_))
    ·refine aE 31 (Ya 22 31 [0,1,2,3,4,5,6,7,8] [0,0] (dx 9 (XE 5 we1 L'1.fst x x.toNat (hq:=rfl)) (Qm 10 (WV 5 we1 L'1.fst x.toNat xfst hxfst1) (Zo 19 20 [11] (da 12 ((xfst+(k:Int))) ((xfst)+((k:Int))) (Ya 9 18 [13,14,15,16,17,18,19,20,21] [0,0] (dx 22 (XE 5 we1 L'1.fst x x.toNat (hq:=rfl)) (Qm 23 (WV 5 we1 L'1.fst x.toNat xfst hxfst1) (Zo 6 7 [24] (da 25 ((xfst+(k:Int))) ((xfst)+((k:Int))) (dx 26 (XE 2 wb1 o (xfst+(k:Int)) ((xfst+(k:Int)).toNat) (hq:=rfl)) ?_)))))))))))
     obtain ⟨x2,Zt⟩:=Zv o ((xfst+(k:Int)).toNat) om
     have hy2:=Zz _ (YF Zt)
     exact Qm 27 (WV 2 wb1 o ((xfst+(k:Int)).toNat) x2 Zt) (da 28 ((x2+1)) ((x2)+(1)) (dx 29 (XE 2 wb1 o (xfst+(k:Int)) ((xfst+(k:Int)).toNat) (hq:=rfl)) (ZF 30 (Jy 30 2 [] [] wb1 o ((xfst+(k:Int)).toNat) (x2+1) (de (az (Z1 1 (ZK k (Z0 (ZJ ⟨k+1,(o.set (xfst+(k:Nat)).toNat (x2+1)),ob,ob,(by intro y hy;first|(rcases QP hy with hy|rfl<;>first|(have:=Zz y hy;omega)|omega)|(have:=Zz y hy;omega)),(by rw [ZH Z2,UP] at Y8;first|(rw [Z6 Zd,Vt Zt] at Y8;rw [show xfst+((k+1:Nat):Int)=xfst+k+1 by omega];exact Y8)|(rw [Z4 Zd] at Y8;rw [show xfst+((k+1:Nat):Int)=xfst+k+1 by omega];exact Y8)),rfl,rfl,rfl⟩ (wk [1,1,0,0,0,0,0,0] (ZL k fl) (e:=(rc (rc (rv (xs:=(o.set ((xfst+(k:Int)).toNat) (x2+1))) ob (rc (rc (rc (rc (rc rz))))))))))))))))))))
    exact ak (az (Z1 1 (ZK k (Z0 (ZJ ⟨k+1,o,ob,ob,(by intro y hy;first|(rcases QP hy with hy|rfl<;>first|(have:=Zz y hy;omega)|omega)|(have:=Zz y hy;omega)),(by rw [ZH Z2,UP] at Y8;first|(rw [Z6 Zd,Vt Zt] at Y8;rw [show xfst+((k+1:Nat):Int)=xfst+k+1 by omega];exact Y8)|(rw [Z4 Zd] at Y8;rw [show xfst+((k+1:Nat):Int)=xfst+k+1 by omega];exact Y8)),rfl,rfl,rfl⟩ (Y5 8 (ZL k fl)))))))
   refine ax 0 (Yt (Vv [7] (ac (s.op==17) Zs (fun Zw=>?_) (fun Zw=>?_))))
   ·refine az (Y6 6 [0] (io (.i (((Y1 n.decls xcon).length:Nat):Int)) (.i (((Zk (Y1 n.decls xcon)).length:Nat):Int)) (li (by rw [Yn])) (Zi (XE 6 wf1 L'1.tok x x.toNat (hq:=rfl)) (BW 6 wf1 L'1.tok x.toNat (((Y1 n.decls xcon).length:Nat):Int) (ie (Zh ?_))))))
    have hof:o=UP L'1.own xfst (Y1 n.decls xcon):=by rw [<-Y8,YV om];rfl
    exact ZG (r1 [1,1,1,1,1,1,0] (.inl ⟨wa1,wb1,wc1,wd1,we1,wf1,(Zb.mk L'1.vars o L'1.par L'1.con L'1.fst (L'1.tok.set x.toNat (((Y1 n.decls xcon).length:Nat):Int))),rfl,rfl,(by rw [TP,hgcon,hgfst,hgtok,Z4 om,XB,hof,t6];simp [Zw,t2,t3,t4,t5])⟩) (eq:=(rc (rv (xs:=L'1.vars) ob (rv (xs:=o) ob (rv (xs:=L'1.par) ob (rv (xs:=L'1.con) ob (rv (xs:=L'1.fst) ob (rv (xs:=(L'1.tok.set x.toNat (((Y1 n.decls xcon).length:Nat):Int))) ob rz)))))))))
   refine ak (Zh ?_)
   have hof:o=UP L'1.own xfst (Y1 n.decls xcon):=by rw [<-Y8,YV om];rfl
   exact ZG (r1 [0,0,0,0,0,0,0] (.inl ⟨wa1,wb1,wc1,wd1,we1,wf1,(Zb.mk L'1.vars o L'1.par L'1.con L'1.fst L'1.tok),rfl,rfl,(by rw [TP,hgcon,hgfst,hgtok,Z4 om,XB,hof,t6];simp [Zw,t2,t3,t4,t5])⟩) (eq:=(rc (rv (xs:=L'1.vars) ob (rv (xs:=o) ob (rv (xs:=L'1.par) ob (rv (xs:=L'1.con) ob (rv (xs:=L'1.fst) ob (rv (xs:=L'1.tok) ob rz)))))))))
  exact Z0 (W7 (ar (Z8 (r1 [] (.inr ⟨rfl,rfl,(by rw [TP,hgcon,hgtok,Z4 om,XH])⟩)))))
 refine Z1 2 (ib (b:=(decide (xcon<0))) 22 (fun ZD=>?_) (fun ZD=>?_))
 ·have VT:xcon<0:=(dq).1 ZD
  exact Z1 14 (Ye (Y5 9 (Zq true ZD fl)) hj1)
 have Uu:¬(xcon<0):=Y3 dq ZD
 refine Y6 4 [0] (ib (b:=(s.op==17)) 26 (fun Yq=>?_) (fun Yq=>?_))
 ·have T1:s.op=17:=(Zs).1 Yq
  exact Y6 5 [2] (Zi (XE 8 gf L.tok x x.toNat (hq:=rfl)) (Xx (WV 8 gf L.tok x.toNat xtok hxtok) (Z1 3 (Ye (Y5 9 (Zq (decide (xtok>=0)) (And.intro ZD Yq) fl)) hj1))))
 have Tj:¬(s.op=17):=Y3 Zs Yq
 exact Z1 10 (Ye (Y5 9 (Zq false (And.intro ZD Yq) fl)) hj1)
theorem Z8n (b:Nat) (ga:Hd) (gb:Hd) (gc:Hd) (gd:Hd) (ge:Hd) (gf:Hd) (n:Zj) (s:Z7) (L:Zb) (ln:LI) (q:Int) (hn:YZ n:=by exact ob) (hnum:s.op=9->0<=s.num/\s.num<n.routines.length:=by exact ob) (hk:YK n.decls L q:=by exact ob) (hlb:L.vars.length<=1000000000:=by exact ob) (hargs:∀a∈s.args,0<=a/\a<L.vars.length) (hinto:0<s.into->s.into<=L.vars.length:=by exact ob) (hal:s.args.length<=1000000000:=by exact ob) (hln:ln.length<=4294967296:=by exact ob) (hq:0<=q/\q<=999999990:=by exact ob):Za 239 [.p b 0,X6 n,XS s] [.obj b [.h ga,.h gb,.h gc,.h gd,.h ge,.h gf,Ze ln],rV ga L.vars,rV gb L.own,rV gc L.par,rV gd L.con,rV ge L.fst,rV gf L.tok] (fun r h=>(∃(wa:Hd) (wb:Hd) (wc:Hd) (wd:Hd) (we:Hd) (wf:Hd) (L':Zb),r=.b true/\h=[.obj b [.h wa,.h wb,.h wc,.h wd,.h we,.h wf,Ze ln],rV wa L'.vars,rV wb L'.own,rV wc L'.par,rV wd L'.con,rV we L'.fst,rV wf L'.tok]/\Ut n ln L s.op s.num s.into s.args=some L')∨(r=.b false/\h=[]/\Ut n ln L s.op s.num s.into s.args=none)):=by
 obtain ⟨e1,e2,e3,e4,e5⟩:=hk.len
 refine Zx 79 Tryz.func239 (ar (iA (Wb n) fun b1=>iA (WT s) fun b2=>?_))
 refine Z0 (Ym (ab 0 (ZU (fun fz gz m F h=>∃(k:Nat) (L2:Zb) (ka:Hd) (kb:Hd) (kc:Hd) (kd:Hd) (ke:Hd) (kf:Hd),(k<=s.args.length)/\(YK n.decls L2 q)/\(L2.vars=L.vars)/\(TJ n s.op s.num (s.args.drop k) k L2=TJ n s.op s.num s.args 0 L)/\F=sF [0,4,5] fz [(7,.i k)]/\h=[Zy gz 0,Zy gz 1,.obj b [.h ka,.h kb,.h kc,.h kd,.h ke,.h kf,Ze ln],rV ka L2.vars,rV kb L2.own,rV kc L2.par,rV kd L2.con,rV ke L2.fst,rV kf L2.tok]/\m=s.args.length-k) _ _ _ ⟨0,L,ga,gb,gc,gd,ge,gf,ob,hk,ob,ob,rfl,rfl,rfl⟩ (Y5 9 (ZW fl)) ?_)))
 rintro m F h ⟨k,L2,ka,kb,kc,kd,ke,kf,Y0,Z9,Zz,Y8,rfl,rfl,rfl⟩
 refine Yp 3 [0] (iw (Yn s.args) (ZO ((k:Int)<(s.args.length:Int)) (fun Z5=>?_) (fun Z5=>?_)))
 ·obtain ⟨a1,ha1⟩:=Zv s.args k om
  obtain ⟨e6,e7,e8,e9,e10⟩:=Z9.len
  have hav:=hargs a1 (YF ha1)
  have hvl:L2.vars.length=L.vars.length:=by rw [Zz]
  refine ak (aq (ab 1 (aD 18 (Ya 11 18 [0,1,2,3,4,5,6] [1,2,0] (ZF 7 (Ue 7 [3] [] [] [rV ka L2.vars] (Zcx n L2.vars s k a1 (ha:=ha1)) Ae (gS (gL (v:=ka) 0 (gS (gS gN)))) (Vp VV) ?_))))))
  rintro _ _ ⟨rfl,rfl⟩
  refine Zo 9 10 [8] (db (b:=Q0 n L2.vars s.op s.num a1 k) 24 (fun Zc=>?_) (fun Zc=>?_))
  ·have Yd:Q0 n L2.vars s.op s.num a1 k=true:=(Iff.rfl).1 Zc
   refine Ya 5 9 [9,10,11,12] [1] (dx 13 (Zr none (k:Int) 1 (Yf ha1)) (Zo 3 4 [14] (ZF 15 (dc 15 [3,0,2,2,2,2,2] [] [] (EZ b ka kb kc kd ke kf L2 ln a1 (hlk:=Z9.len) (hq:=(fun y hy=>⟨Z9.nn y hy,by have:=Z9.bd y hy;omega⟩))) ?_))))
   rintro _ _ (⟨wa1,wb1,wc1,wd1,we1,wf1,L'1,rfl,rfl,YX⟩|⟨rfl,rfl,XB⟩)
   ·obtain ⟨t1,t2,t3,t4,t5,t6,t7⟩:=Qu YX
    have hk2:=Z9.take YX
    exact Zo 0 2 [16,17] (de (XF (ak (az (Z1 1 (ZK k (Z0 (ZJ ⟨k+1,L'1,wa1,wb1,wc1,wd1,we1,wf1,ob,hk2,(t2.trans Zz),(by rw [ZH ha1,TJ,Z6 Yd] at Y8;simp only [YX] at Y8;exact Y8),rfl,rfl,rfl⟩ (wk [7,7,0,0,0,0,0,0,0] (ZL k fl))))))))))
   exact Zo 0 2 [16,17] (de (W7 (ar (Z8 (r1 [] (.inr ⟨rfl,rfl,(by rw [Ut,<-Y8,ZH ha1,TJ,Z6 Yd,XB])⟩))))))
  have XH:¬(Q0 n L2.vars s.op s.num a1 k=true):=Y3 Iff.rfl Zc
  exact Zo 0 9 [9,10,11,12,13,14,15,16,17] (de (XF (ak (az (Z1 1 (ZK k (Z0 (ZJ ⟨k+1,L2,ka,kb,kc,kd,ke,kf,ob,Z9,Zz,(by rw [ZH ha1,TJ,Z4 XH] at Y8;exact Y8),rfl,rfl,rfl⟩ (wk [1,1,1,0,0,0,0,0,0] (ZL k fl))))))))))
 have hT:TJ n s.op s.num s.args 0 L=some L2:=by rw [<-Y8,YV om];rfl
 obtain ⟨e6,e7,e8,e9,e10⟩:=Z9.len
 have hvl:L2.vars.length=L.vars.length:=by rw [Zz]
 refine ax 0 (Ym (ab 2 (ZU (fun fz gz m F h=>∃(j:Nat),(j<=s.args.length)/\(Ka n s.op s.num ln L2 (s.args.drop j) j=Ka n s.op s.num ln L2 s.args 0)/\F=sF [0,4,5] fz [(8,.i j)]/\h=gz/\m=s.args.length-j) _ _ _ ⟨0,ob,ob,rfl,rfl,rfl⟩ (Y5 9 (ZW fl)) ?_)))
 rintro m F h ⟨j,T6,Xk,rfl,rfl,rfl⟩
 refine Yp 3 [0] (iw (Yn s.args) (ZO ((j:Int)<(s.args.length:Int)) (fun Zd=>?_) (fun Zd=>?_)))
 ·obtain ⟨a2,ha2⟩:=Zv s.args j om
  have hav:=hargs a2 (YF ha2)
  refine ak (aq (ab 3 (ZB 3 [1,0] (ZC [] (RX n s j) (Wa [0,4,5,8] [(54,.b (VP n s.op s.num j&&(!XL L2 ln a2)))] (fun gz=>[Zy gz 2,Zy gz 3,Zy gz 4,Zy gz 5,Zy gz 6,Zy gz 7,Zy gz 8,Zy gz 0,Zy gz 1]) ?_ ?_)))))
  ·refine Z1 1 (ib (b:=VP n s.op s.num j) 45 (fun ZD=>?_) (fun ZD=>?_))
   ·exact Y6 4 [0] (Zi (Zr none (j:Int) 1 (Yf ha2)) (Z1 1 (ZC [2,2,2,2,2,2,2] (HV b ka kb kc kd ke kf L2 ln a2 (hlk:=Z9.len) (hd:=Z9.down)) (Z0 (Y5 9 (Zq (!XL L2 ln a2) ZD fl))))))
   exact Z0 (wk [2,2,2,2,2,2,2,0,0] (Zq false ZD fl))
  refine ac (VP n s.op s.num j&&(!XL L2 ln a2)) (p:=(VP n s.op s.num j=true)/\(¬(XL L2 ln a2=true))) (YD Iff.rfl (Yl Iff.rfl)) (fun Zw=>?_) (fun Zw=>?_)
  ·refine Zh ?_
   have hA:Ka n s.op s.num ln L2 s.args 0=false:=by rw [<-Xk,ZH ha2,Ka,Z6 Zw]
   exact ZG (r1 [] (.inr ⟨rfl,rfl,(by rw [Ut,hT];simp only [hA];rfl)⟩))
  exact ak (az (Z1 1 (ZK j (Z0 (ZJ ⟨j+1,ob,(by rw [ZH ha2,Ka,Z4 Zw] at Xk;exact Xk),rfl,rfl,rfl⟩ (wk [7,7,0,0,0,0,0,0,0] (ZL j fl)))))))
 have hA:Ka n s.op s.num ln L2 s.args 0=true:=by rw [<-Xk,YV om];rfl
 refine ax 2 (Yt (Vv [0] (Xi (s.into>0) (fun Yg=>?_) (fun Yg=>?_))))
 ·obtain ⟨xt,hxt⟩:=Zv L2.tok ((s.into-1).toNat) (by have:=hinto Yg;omega)
  have hgt:=Vt hxt
  refine aq (aD 13 (Ya 7 13 [0,1,2,3,4,5] [2,0] (da 6 ((s.into-1)) ((s.into)-(1)) (dx 7 (XE 8 kf L2.tok (s.into-1) ((s.into-1).toNat) (hq:=rfl)) (Qm 8 (WV 8 kf L2.tok ((s.into-1).toNat) xt hxt) (Ya 2 4 [9,10] [0] (dw 11 (Yn s.args) (Zo 0 1 [12] (de (ac (xt != (s.args.length:Int)) ZP (fun Xp=>?_) (fun Xp=>?_)))))))))))
  ·exact ar (Z8 (r1 [] (.inr ⟨rfl,rfl,(by rw [Ut,hT];simp only [hA,↓reduceIte];rw [Kb,Z6 Yg,hgt,Z6 Xp])⟩)))
  exact ak (aE 9 (Ya 3 9 [0,1,2,3,4,5] [2,0] (da 6 ((s.into-1)) ((s.into)-(1)) (dx 7 (XE 8 kf L2.tok (s.into-1) ((s.into-1).toNat) (hq:=rfl)) (ZF 8 (Jy 8 8 [] [] kf L2.tok ((s.into-1).toNat) (-1) (de (ar (Z8 (r1 [3,3,3,3,3,3,0] (.inl ⟨ka,kb,kc,kd,ke,kf,(Zb.mk L2.vars L2.own L2.par L2.con L2.fst (L2.tok.set ((s.into-1).toNat) (-1))),rfl,rfl,(by rw [Ut,hT];simp only [hA,↓reduceIte];rw [Kb,Z6 Yg,hgt,Z4 Xp])⟩) (eq:=(rc (rv (xs:=L2.vars) ob (rv (xs:=L2.own) ob (rv (xs:=L2.par) ob (rv (xs:=L2.con) ob (rv (xs:=L2.fst) ob (rv (xs:=(L2.tok.set ((s.into-1).toNat) (-1))) ob rz))))))))))))))))))
 exact ak (ar (Z8 (r1 [2,2,2,2,2,2,2] (.inl ⟨ka,kb,kc,kd,ke,kf,L2,rfl,rfl,(by rw [Ut,hT];simp only [hA,↓reduceIte];rw [Kb,Z4 Yg])⟩))))
theorem OU (b:Nat) (ga:Hd) (gb:Hd) (gc:Hd) (gd:Hd) (ge:Hd) (gf:Hd) (n:Zj) (s:Z7) (L:Zb) (ln:LI) (q:Int) (i:Nat) (kb0:Zf) (m:LI) (hn:YZ n:=by exact ob) (hk:YK n.decls L q:=by exact ob) (hf:Jp n L.vars s:=by exact ob) (hop:s.op=7∨s.op=8:=by exact ob) (hkb:s.kids[i]? = some kb0:=by exact ob) (harm:(YJ n.decls s.op s.num)[i]? = some m:=by exact ob) (hbt:0<=Yv n (L.vars++m) kb0:=by exact ob) (hb:L.vars.length+4*s.sz<=1000000000:=by exact ob) (hq:0<=q/\q+4*s.sz<=999999990:=by exact ob) (hln:ln.length<=4294967296:=by exact ob) (ih:∀(b2:Zf) (c:Nat) (ra:Hd) (rb:Hd) (rc:Hd) (rd:Hd) (re:Hd) (rf:Hd) (M:Zb) (mm:Nat) (p:Int),(b2.sz<s.sz)->(YK n.decls M p)->(0<=Yv n M.vars b2)->(mm<=M.vars.length)->(M.vars.length+4*b2.sz<=1000000000)->(0<=p/\p+4*b2.sz<=999999990)->Za 144 [.p c 0,X6 n,YG b2,.i mm] [.obj c [.h ra,.h rb,.h rc,.h rd,.h re,.h rf,Ze ln],rV ra M.vars,rV rb M.own,rV rc M.par,rV rd M.con,rV re M.fst,rV rf M.tok] (fun r h=>(∃(wa:Hd) (wb:Hd) (wc:Hd) (wd:Hd) (we:Hd) (wf:Hd) (M':Zb),r=.b true/\h=[.obj c [.h wa,.h wb,.h wc,.h wd,.h we,.h wf,Ze ln],rV wa M'.vars,rV wb M'.own,rV wc M'.par,rV wd M'.con,rV we M'.fst,rV wf M'.tok]/\WQ n ln M mm b2=some M')∨(r=.b false/\h=[]/\WQ n ln M mm b2=none))):Za 282 [.p b 0,X6 n,XS s,.i i] [.obj b [.h ga,.h gb,.h gc,.h gd,.h ge,.h gf,Ze ln],rV ga L.vars,rV gb L.own,rV gc L.par,rV gd L.con,rV ge L.fst,rV gf L.tok] (fun r h=>(∃(c:Nat) (wa:Hd) (wb:Hd) (wc:Hd) (wd:Hd) (we:Hd) (wf:Hd) (L':Zb),r=.tup [.p c 0,.b true]/\h=[.obj c [.h wa,.h wb,.h wc,.h wd,.h we,.h wf,Ze ln],rV wa L'.vars,rV wb L'.own,rV wc L'.par,rV wd L'.con,rV we L'.fst,rV wf L'.tok,.obj b [.h ga,.h gb,.h gc,.h gd,.h ge,.h gf,Ze ln],rV ga L.vars,rV gb L.own,rV gc L.par,rV gd L.con,rV ge L.fst,rV gf L.tok]/\WQ n ln (Vg n.decls L s.op s.num s.args i) L.vars.length kb0=some L')∨(r=.tup [.any,.b false]/\h=[.obj b [.h ga,.h gb,.h gc,.h gd,.h ge,.h gf,Ze ln],rV ga L.vars,rV gb L.own,rV gc L.par,rV gd L.con,rV ge L.fst,rV gf L.tok]/\WQ n ln (Vg n.decls L s.op s.num s.args i) L.vars.length kb0=none)):=by
 obtain ⟨e1,e2,e3,e4,e5⟩:=hk.len
 have Wy:=hn.decls
 have hkz:=Qq s
 have haz:=Ad s
 have hK:=C1 hk hq.1 hf hop harm
 have hm3:=Bz Wy harm
 have hkl:=(W5.1 hkb).1
 have hks:=Kg hkb
 refine Zx 83 Tryz.func282 (ar (iA (Wb n) fun b1=>iA (WT s) fun b2=>Z0 (ZB 4 [2] (Zi (KW 3 ga L.vars) (Z0 (ZM 1 (ic [2,2,2,2,2,2,2] (Z8m b ga gb gc gd ge gf L ln (hlk:=hk.len)) ?_)))))))
 rintro _ _ ⟨c1,wa1,wb1,wc1,wd1,we1,wf1,rfl,rfl⟩
 refine Z0 (Yt (Vv [14] (ac (s.op==8) Zs (fun Z5=>?_) (fun Z5=>?_))))
 ·obtain ⟨x,hxa⟩:=hf.one om
  have ha:s.args[0]? = some x:=by rw [hxa];rfl
  have hx:=hf.args x (by rw [hxa];simp)
  obtain ⟨cc,hcc,hmc⟩:=Gt Z5 harm
  have hal:=(W5.1 ha).1
  have hcl:=(W5.1 hcc).1
  have hm4:=hm3
  rw [hmc] at hm4
  refine ZB 4 [15,14] (ic [] (RR n.decls s.num) ?_)
  rintro _ _ ⟨v1,rfl,rfl⟩
  refine Z1 1 (Zi (Zr (some v1) (i:Int) 1 (Yf hcc)) (Z0 (ZB 3 [16] (ZC [] (FC n.decls cc) (Z0 (aD 11 (Ya 5 11 [0,1,2,3,4,5] [1,15] (dx 6 (Zr none 0 1 (Yf ha)) (Zo 2 4 [7,8] (dx 9 (XE 5 wd1 L.con x x.toNat (hq:=rfl)) (ZF 10 (Jy 10 5 [] [] wd1 L.con x.toNat cc (de (aD 11 (Ya 5 11 [0,1,2,3,4,5] [2,15] (dx 6 (Zr none 0 1 (Yf ha)) (Zo 2 4 [7,8] (dx 9 (XE 6 we1 L.fst x x.toNat (hq:=rfl)) (ZF 10 (Jy 10 6 [] [] we1 L.fst x.toNat (L.vars.length:Int) (de (Zh (ab 0 (ZU (fun fz gz m F h=>∃(k:Nat) (L3:Zb) (ka:Hd) (kb:Hd) (kc:Hd) (kd:Hd) (ke:Hd) (kf:Hd),(k<=(Y1 n.decls cc).length)/\(Wc L3)/\(L3.vars.length=L.vars.length+k)/\(K8 L3 x ((Y1 n.decls cc).drop k)=J3 n.decls L x cc)/\F=sF [3,5,6,10,11,13] fz [(14,.i k)]/\h=[.obj c1 [.h ka,.h kb,.h kc,.h kd,.h ke,.h kf,Ze ln],Zy gz 8,Zy gz 9,Zy gz 10,Zy gz 11,Zy gz 12,Zy gz 13,Zy gz 14,Zy gz 15,Zy gz 16,rV ka L3.vars,rV kb L3.own,rV kc L3.par,rV kd L3.con,rV ke L3.fst,rV kf L3.tok]/\m=(Y1 n.decls cc).length-k) _ _ _ ⟨0,(Zb.mk L.vars L.own L.par (L.con.set x.toNat cc) (L.fst.set x.toNat (L.vars.length:Int)) L.tok),wa1,wb1,wc1,wd1,we1,wf1,ob,(Wc.arm hk.len),ob,(by rw [J3];rfl),rfl,rfl,rfl⟩ (wk [3,7,7,7,7,7,7,7,7,7,3,3,3,1,0,1] (ZW fl) (e:=(rc (rc (rc (rc (rc (rc (rc (rc (rc (rc (rv (xs:=L.vars) ob (rv (xs:=L.own) ob (rv (xs:=L.par) ob (rv (xs:=(L.con.set x.toNat cc)) ob (rv (xs:=(L.fst.set x.toNat (L.vars.length:Int))) ob (rv (xs:=L.tok) ob rz)))))))))))))))))) ?_))))))))))))))))))))))))
  rintro m F h ⟨k,L3,ka,kb,kc,kd,ke,kf,Y0,Z9,Zz,Y8,rfl,rfl,rfl⟩
  refine Yb 2 (io (.i (((Y1 n.decls cc).length:Nat):Int)) (.i (((Zk (Y1 n.decls cc)).length:Nat):Int)) (li (by rw [Yn])) (ZO ((k:Int)<(((Y1 n.decls cc).length:Nat):Int)) (fun Zd=>?_) (fun Zd=>?_)))
  ·refine ak (aq (ab 1 (aE 10 (Zo 7 10 [0,1,2] ?_))))
   obtain ⟨x1,Z2⟩:=Zv (Y1 n.decls cc) k om
   refine dx 3 (Zr none (k:Int) 1 (Yf Z2)) (Ya 3 6 [4,5,6] [8] (dx 7 (Zr none 0 1 (Yf ha)) (Zo 1 2 [8] (ZF 9 (dc 9 [0,9,9,9,9,9,9] [] [] (QO c1 ka kb kc kd ke kf L3 ln x1 0 x (hlk:=Z9)) ?_)))))
   rintro _ _ ⟨wa2,wb2,wc2,wd2,we2,wf2,rfl⟩
   exact de (az (Z1 1 (ZK k (Z0 (ZJ ⟨k+1,(L3.grow x1 0 x),wa2,wb2,wc2,wd2,we2,wf2,ob,(Wc.grow Z9),(by simp [Zb.grow];omega),(by rw [ZH Z2,K8] at Y8;exact Y8),rfl,rfl,rfl⟩ (wk [0,6,6,6,6,6,6,6,6,6,0,0,0,0,0,0] (ZL k fl)))))))
  have hE:Vg n.decls L s.op s.num s.args i=L3:=by rw [Z7z Z5 ha hcc,<-Y8,YV om];rfl
  refine ax 0 (aD 12 (Ya 6 12 [0,1,2,3,4,5] [9,8] (dx 6 (Zr none (i:Int) 2 (TF hkb)) (Zo 3 5 [7,8] (ZF 9 (dc 9 [0,9,9,9,9,9,9] [] [] (ih kb0 c1 ka kb kc kd ke kf L3 L.vars.length q ob (by rw [<-hE];exact hK.1) (by rw [<-hE,hK.2];exact hbt) (by rw [<-hE,hK.2];simp) (by rw [<-hE,hK.2,YE];omega) ob) ?_))))))
  rintro _ _ (⟨wa3,wb3,wc3,wd3,we3,wf3,M'1,rfl,rfl,Yd⟩|⟨rfl,rfl,YX⟩)
  ·exact Zo 0 2 [10,11] (de (ZG (r2 [0,0,0,0,0,0,0,0,0,0,0,0,0,0] [.p c1 0,.b true] (.inl ⟨c1,wa3,wb3,wc3,wd3,we3,wf3,M'1,rfl,rfl,(by rw [hE];exact Yd)⟩) (lr _))))
  exact Zo 0 2 [10,11] (de (ZG (r2 [0,0,0,0,0,0,0] [.p c1 0,.b false] (.inr ⟨rfl,rfl,(by rw [hE];exact YX)⟩) (Zm.tup (.cons (Zm.any _) (.cons (lr _) .nil))))))
 have hE:=Z80 (ds:=n.decls) (L:=L) (num:=s.num) (args:=s.args) (i:=i) Z5
 refine ak (aD 12 (Ya 6 12 [0,1,2,3,4,5] [15,14] (dx 6 (Zr none (i:Int) 2 (TF hkb)) (Zo 3 5 [7,8] (ZF 9 (dc 9 [0,0,0,0,0,0,0] [] [] (ih kb0 c1 wa1 wb1 wc1 wd1 we1 wf1 L L.vars.length q ob (by rw [<-hE];exact hK.1) (by rw [<-hE,hK.2];exact hbt) (by rw [<-hE,hK.2];simp) (by rw [<-hE,hK.2,YE];omega) ob) ?_))))))
 rintro _ _ (⟨wa4,wb4,wc4,wd4,we4,wf4,M'2,rfl,rfl,XB⟩|⟨rfl,rfl,XH⟩)
 ·exact Zo 0 2 [10,11] (de (ZG (r2 [0,0,0,0,0,0,0,0,0,0,0,0,0,0] [.p c1 0,.b true] (.inl ⟨c1,wa4,wb4,wc4,wd4,we4,wf4,M'2,rfl,rfl,(by rw [hE];exact XB)⟩) (lr _))))
 exact Zo 0 2 [10,11] (de (ZG (r2 [0,0,0,0,0,0,0] [.p c1 0,.b false] (.inr ⟨rfl,rfl,(by rw [hE];exact XH)⟩) (Zm.tup (.cons (Zm.any _) (.cons (lr _) .nil))))))
theorem Z8l (b:Nat) (ga:Hd) (gb:Hd) (gc:Hd) (gd:Hd) (ge:Hd) (gf:Hd) (n:Zj) (s:Z7) (L:Zb) (ln:LI) (q:Int) (hn:YZ n:=by exact ob) (hk:YK n.decls L q:=by exact ob) (hf:Jp n L.vars s:=by exact ob) (hop:s.op=7∨s.op=8:=by exact ob) (hb:L.vars.length+4*s.sz<=1000000000:=by exact ob) (hq:0<=q/\q+4*s.sz<=999999990:=by exact ob) (hln:ln.length<=4294967296:=by exact ob) (ih:∀(b2:Zf) (c:Nat) (ra:Hd) (rb:Hd) (rc:Hd) (rd:Hd) (re:Hd) (rf:Hd) (M:Zb) (mm:Nat) (p:Int),(b2.sz<s.sz)->(YK n.decls M p)->(0<=Yv n M.vars b2)->(mm<=M.vars.length)->(M.vars.length+4*b2.sz<=1000000000)->(0<=p/\p+4*b2.sz<=999999990)->Za 144 [.p c 0,X6 n,YG b2,.i mm] [.obj c [.h ra,.h rb,.h rc,.h rd,.h re,.h rf,Ze ln],rV ra M.vars,rV rb M.own,rV rc M.par,rV rd M.con,rV re M.fst,rV rf M.tok] (fun r h=>(∃(wa:Hd) (wb:Hd) (wc:Hd) (wd:Hd) (we:Hd) (wf:Hd) (M':Zb),r=.b true/\h=[.obj c [.h wa,.h wb,.h wc,.h wd,.h we,.h wf,Ze ln],rV wa M'.vars,rV wb M'.own,rV wc M'.par,rV wd M'.con,rV we M'.fst,rV wf M'.tok]/\WQ n ln M mm b2=some M')∨(r=.b false/\h=[]/\WQ n ln M mm b2=none))):Za 238 [.p b 0,X6 n,XS s] [.obj b [.h ga,.h gb,.h gc,.h gd,.h ge,.h gf,Ze ln],rV ga L.vars,rV gb L.own,rV gc L.par,rV gd L.con,rV ge L.fst,rV gf L.tok] (fun r h=>(∃(wa:Hd) (wb:Hd) (wc:Hd) (wd:Hd) (we:Hd) (wf:Hd) (L':Zb),r=.b true/\h=[.obj b [.h wa,.h wb,.h wc,.h wd,.h we,.h wf,Ze ln],rV wa L'.vars,rV wb L'.own,rV wc L'.par,rV wd L'.con,rV we L'.fst,rV wf L'.tok]/\KD n ln L s=some L')∨(r=.b false/\h=[]/\KD n ln L s=none)):=by
 obtain ⟨e1,e2,e3,e4,e5⟩:=hk.len
 have Wy:=hn.decls
 have hkz:=Qq s
 have haz:=Ad s
 obtain ⟨hk1,hk2,hk3⟩:=hf.kids hop
 obtain ⟨kd,hkd⟩:=Zv s.kids 0 om
 obtain ⟨m0,hm0⟩:=Zv (YJ n.decls s.op s.num) 0 om
 obtain ⟨x,hxa⟩:=hf.one om
 have ha:s.args[0]? = some x:=by rw [hxa];rfl
 have hx:=hf.args x (by rw [hxa];simp)
 have hgx:=Ja ha
 have hal:=(W5.1 ha).1
 refine Zx 88 Tryz.func238 (ar (iA (Wb n) fun b1=>iA (WT s) fun b2=>Z0 (Yt (Wa [0,4,5] [(23,.b ((s.op==8)&&(!XL L ln x)))] (fun gz=>[Zy gz 2,Zy gz 3,Zy gz 4,Zy gz 5,Zy gz 6,Zy gz 7,Zy gz 8,Zy gz 0,Zy gz 1]) ?_ ?_))))
 ·refine Y6 4 [0] (ib (b:=(s.op==8)) 15 (fun Zc=>?_) (fun Zc=>?_))
  ·exact Y6 3 [0] (Zi (Zr none 0 1 (Yf ha)) (Z1 1 (ZC [2,2,2,2,2,2,2] (HV b ga gb gc gd ge gf L ln x (hlk:=hk.len) (hd:=hk.down)) (Z0 (Y5 9 (Zq (!XL L ln x) Zc fl))))))
  exact Z0 (wk [2,2,2,2,2,2,2,0,0] (Zq false Zc fl))
 refine ac ((s.op==8)&&(!XL L ln x)) (p:=(s.op=8)/\(¬(XL L ln x=true))) (YD Zs (Yl Iff.rfl)) (fun Z5=>?_) (fun Z5=>?_)
 ·exact ar (Z8 (r1 [] (.inr ⟨rfl,rfl,(by rw [KD,Z6 (by rw [hgx];exact Z5)])⟩)))
 have hgo:=MO (n:=n) (ln:=ln) (L:=L) (s:=s) (by rw [hgx];exact Z5) hkd
 refine ak (ZB 3 [8,7] (ic [0,0,0,0,0,0,0] (OU b ga gb gc gd ge gf n s L ln q 0 kd m0 (hkb:=hkd) (harm:=hm0) (hbt:=(hk3 0 kd m0 hkd hm0)) (ih:=ob)) ?_))
 rintro _ _ (⟨c1,wa1,wb1,wc1,wd1,we1,wf1,L'1,rfl,rfl,XB⟩|⟨rfl,rfl,XH⟩)
 ·have hone:=XB
  obtain ⟨l1,l2⟩:=OJ hn hk hq.1 hf hop hkd hm0 (hk3 0 kd m0 hkd hm0) hone
  refine Z0 (Ym (XF (ak (Ym (ab 0 (ZU (fun fz gz m F h=>∃(k:Nat),(1<=k/\k<=s.kids.length)/\(QN n ln L s.op s.num s.args L'1 (s.kids.drop k) k=QN n ln L s.op s.num s.args L'1 (s.kids.drop 1) 1)/\F=sF [0,4,5,7] fz [(9,.i k)]/\h=gz/\m=s.kids.length-k) _ _ _ ⟨1,ob,ob,rfl,rfl,rfl⟩ (Y5 16 (fc (x:=.i 1) li fl)) ?_))))))
  rintro m F h ⟨k,Y0,Z9,rfl,rfl,rfl⟩
  refine Yp 3 [14] (iw (Uf s.kids) (ZO ((k:Int)<(s.kids.length:Int)) (fun Zd=>?_) (fun Zd=>?_)))
  ·obtain ⟨ke,hke⟩:=Zv s.kids k om
   obtain ⟨mk,hmk⟩:=Zv (YJ n.decls s.op s.num) k om
   have hcs:=D5 (n:=n) (ln:=ln) (L:=L) (op:=s.op) (num:=s.num) (args:=s.args) (one:=L'1) hke
   refine ak (aq (ab 1 (ZB 4 [15,14] (ic [7,7,7,7,7,7,7] (OU b ga gb gc gd ge gf n s L ln q k ke mk (hkb:=hke) (harm:=hmk) (hbt:=(hk3 k ke mk hke hmk)) (ih:=ob)) ?_))))
   rintro _ _ (⟨c2,wa2,wb2,wc2,wd2,we2,wf2,L'2,rfl,rfl,VT⟩|⟨rfl,rfl,Uu⟩)
   ·have htwo:=VT
    obtain ⟨l3,l4⟩:=OJ hn hk hq.1 hf hop hke hmk (hk3 k ke mk hke hmk) htwo
    refine Z0 (aD 26 (Ya 15 26 [0,1,2,3,4,5,6,7,8,9,10] [14,0] (ZF 11 (Ue 11 [16,2] [] [] [rV wb1 L'1.own,rV wb2 L'2.own] (RY L'1.own L'2.own) Ae (gL (v:=wb1) 0 (gL (v:=wb2) 1 gN)) (Vp (Vp VV)) ?_))))
    rintro _ _ ⟨rfl,rfl⟩
    refine Jw [0,4,5,7,9] [(73,.b ((!(decide (L'1.own=L'2.own)))||(!(decide (L'1.tok=L'2.tok)))))] (fun gz=>gz) ?_ ?_
    ·refine Zo 11 14 [12,13,14] (db (b:=(!(decide (L'1.own=L'2.own)))) 62 (fun ZD=>?_) (fun ZD=>?_))
     ·exact Zo 0 11 [15,16,17,18,19,20,21,22,23,24,25] (de (Y5 23 (Zq true ZD fl)))
     refine Ya 3 11 [15,16,17,18,19,20,21,22] [15,2] (ZF 23 (Ue 23 [20,7] [] [] [rV wf1 L'1.tok,rV wf2 L'2.tok] (RY L'1.tok L'2.tok) Ae (gL (v:=wf1) 0 (gL (v:=wf2) 1 gN)) (Vp (Vp VV)) ?_))
     rintro _ _ ⟨rfl,rfl⟩
     exact Zo 0 2 [24,25] (de (wk [2,2,2,2,2,2,2,1,1,1,1,1,1,1,1,1,1,1,1,1,0,0,0] (Zq (!(decide (L'1.tok=L'2.tok))) ZD fl)))
    refine ac ((!(decide (L'1.own=L'2.own)))||(!(decide (L'1.tok=L'2.tok)))) (p:=(¬(L'1.own=L'2.own))∨(¬(L'1.tok=L'2.tok))) (Yj (Yl dq) (Yl dq)) (fun Zw=>?_) (fun Zw=>?_)
    ·exact ar (Z8 (r1 [] (.inr ⟨rfl,rfl,(by rw [hgo,hone];exact Db (by rw [<-Z9,hcs,htwo];exact Rp Zw))⟩)))
    exact ak (az (Z1 1 (ZK k (Z0 (ZJ ⟨k+1,ob,(by rw [hcs,htwo,Rq Zw] at Z9;exact Z9),rfl,rfl,rfl⟩ (wk [15,15,0,14,14,14,14,7,7,7,7,7,7,7,7,7] (ZL k fl)))))))
   have htwo:=Uu
   exact Z0 (aD 26 (Zo 0 26 [0,1,2,3,4,5,6,7,8,9,10,11,12,13,14,15,16,17,18,19,20,21,22,23,24,25] (de (W7 (ar (Z8 (r1 [] (.inr ⟨rfl,rfl,(by rw [hgo,hone];exact Db (by rw [<-Z9,hcs,htwo];rfl))⟩))))))))
  have hE:QN n ln L s.op s.num s.args L'1 (s.kids.drop 1) 1=true:=by rw [<-Z9,YV om,QN]
  exact ax 0 (ZB 7 [0] (Y4 7 b [.h ga,.h wb1,.h gc,.h gd,.h ge,.h gf,Ze ln] (ie (ZB 7 [1] (Y4 0 b [.h ga,.h wb1,.h gc,.h gd,.h ge,.h wf1,Ze ln] (ie (ar (Z8 (r1 [0,7,2,7,7,7,5] (.inl ⟨ga,wb1,gc,gd,ge,wf1,(Zb.mk L.vars L'1.own L.par L.con L.fst L'1.tok),rfl,rfl,(by rw [hgo,hone];exact Pd hE)⟩) (eq:=(rc (rv (xs:=L.vars) ob (rv (xs:=L'1.own) ob (rv (xs:=L.par) ob (rv (xs:=L.con) ob (rv (xs:=L.fst) ob (rv (xs:=L'1.tok) ob rz)))))))))))))))))
 have hone:=XH
 exact Z0 (Ym (W7 (ar (Z8 (r1 [] (.inr ⟨rfl,rfl,(by rw [hgo,hone];rfl)⟩))))))
theorem Z8p (b:Nat) (ga:Hd) (gb:Hd) (gc:Hd) (gd:Hd) (ge:Hd) (gf:Hd) (n:Zj) (s:Z7) (L:Zb) (ln:LI) (q:Int) (hn:YZ n:=by exact ob) (hk:YK n.decls L q:=by exact ob) (ht:0<=ZT n L.vars s:=by exact ob) (hb:L.vars.length+4*s.sz<=1000000000:=by exact ob) (hq:0<=q/\q+4*s.sz<=999999990:=by exact ob) (hln:ln.length<=4294967296:=by exact ob) (ih:∀(b2:Zf) (c:Nat) (ra:Hd) (rb:Hd) (rc:Hd) (rd:Hd) (re:Hd) (rf:Hd) (M:Zb) (mm:Nat) (p:Int),(b2.sz<s.sz)->(YK n.decls M p)->(0<=Yv n M.vars b2)->(mm<=M.vars.length)->(M.vars.length+4*b2.sz<=1000000000)->(0<=p/\p+4*b2.sz<=999999990)->Za 144 [.p c 0,X6 n,YG b2,.i mm] [.obj c [.h ra,.h rb,.h rc,.h rd,.h re,.h rf,Ze ln],rV ra M.vars,rV rb M.own,rV rc M.par,rV rd M.con,rV re M.fst,rV rf M.tok] (fun r h=>(∃(wa:Hd) (wb:Hd) (wc:Hd) (wd:Hd) (we:Hd) (wf:Hd) (M':Zb),r=.b true/\h=[.obj c [.h wa,.h wb,.h wc,.h wd,.h we,.h wf,Ze ln],rV wa M'.vars,rV wb M'.own,rV wc M'.par,rV wd M'.con,rV we M'.fst,rV wf M'.tok]/\WQ n ln M mm b2=some M')∨(r=.b false/\h=[]/\WQ n ln M mm b2=none))):Za 200 [.p b 0,X6 n,XS s] [.obj b [.h ga,.h gb,.h gc,.h gd,.h ge,.h gf,Ze ln],rV ga L.vars,rV gb L.own,rV gc L.par,rV gd L.con,rV ge L.fst,rV gf L.tok] (fun r h=>(∃(wa:Hd) (wb:Hd) (wc:Hd) (wd:Hd) (we:Hd) (wf:Hd) (L':Zb),r=.b true/\h=[.obj b [.h wa,.h wb,.h wc,.h wd,.h we,.h wf,Ze ln],rV wa L'.vars,rV wb L'.own,rV wc L'.par,rV wd L'.con,rV we L'.fst,rV wf L'.tok]/\T2 n ln L s=some L')∨(r=.b false/\h=[]/\T2 n ln L s=none)):=by
 obtain ⟨e1,e2,e3,e4,e5⟩:=hk.len
 have Wy:=hn.decls
 have hkz:=Qq s
 have haz:=Ad s
 have hf:=Bh ht
 refine Zx 89 Tryz.func200 (ar (iA (Wb n) fun b1=>iA (WT s) fun b2=>Z0 (aD 8 (Ya 2 8 [0,1,2,3,4,5] [1,2,0] (ZF 6 (Ue 6 [3] [] [] [rV ga L.vars] (Zd3 n L.vars s ob ob) Ae (gS (gL (v:=ga) 0 (gS gN))) (Vp VV) ?_))))))
 rintro _ _ ⟨rfl,rfl⟩
 refine Zo 0 1 [7] (de (Zh (Yt (Vv [1] (ab 0 (ar (Yw (s.op==14) Zs (fun Z5=>?_) (fun Z5=>?_))))))))
 ·obtain ⟨x,hxa⟩:=hf.one om
  have ha:s.args[0]? = some x:=by rw [hxa];rfl
  have hx:=hf.args x (by rw [hxa];simp)
  have hgx:=Ja ha
  have hal:=(W5.1 ha).1
  obtain ⟨xo,hxo⟩:=Zv L.own x.toNat om
  have hgo:=Vt hxo
  have hob:=hk.bd xo (YF hxo)
  have hon:=hk.nn xo (YF hxo)
  refine ZB 3 [1] (Zi (Zr none 0 1 (Yf ha)) (Z1 1 (ZC [3,0,2,2,2,2,2] (HV b ga gb gc gd ge gf L ln x (hlk:=hk.len) (hd:=hk.down)) (Z0 (aE 21 (Ya 15 21 [0,1,2,3,4,5] [0,7] (dx 6 (Zr none 0 1 (Yf ha)) (Ya 7 14 [7,8,9,10,11,12,13] [0,7] (dx 14 (Zr none 0 1 (Yf ha)) (Zo 5 6 [15] (dx 16 (XE 2 gb L.own x x.toNat (hq:=rfl)) (Qm 17 (WV 2 gb L.own x.toNat xo hxo) (da 18 ((xo+1)) ((xo)+(1)) (dx 19 (XE 2 gb L.own x x.toNat (hq:=rfl)) (ZF 20 (Jy 20 2 [] [] gb L.own x.toNat (xo+1) (de (Yt (Yw (!XL L ln x) (p:=¬(XL L ln x=true)) (Yl Iff.rfl) (fun Zd=>?_) (fun Zd=>?_))))))))))))))))))))
  ·have hP:=(Iu (n:=n) (ln:=ln) (L:=L) Z5 hgx).trans (Z3n Zd)
   exact ar (Z8 (r1 [] (.inr ⟨rfl,rfl,(by rw [Uk,hP];first|rfl|exact UX (by assumption)|exact UY (by assumption) (by assumption)|exact UZ (by assumption))⟩)))
  have hP:=(Iu (n:=n) (ln:=ln) (L:=L) Z5 hgx).trans (Z3o Zd hgo)
  obtain ⟨kx,hxv⟩:=Ay hn hk hq.1 hf hP
  refine ak (Yp 2 [7] (ZC [] (KU s.op) (Wa [0,5,7] [(80,.b (XA s.op&&((ZT n L.vars s) != 0)))] (fun gz=>gz) ?_ ?_)))
  ·refine Z1 1 (ib (b:=XA s.op) 77 (fun Zc=>?_) (fun Zc=>?_))
   ·exact Z0 (Y5 9 (Zq ((ZT n L.vars s) != 0) Zc fl))
   exact Z0 (Y5 9 (Zq false Zc fl))
  refine ac (XA s.op&&((ZT n L.vars s) != 0)) (p:=(XA s.op=true)/\((ZT n L.vars s)≠0)) (YD Iff.rfl ZP) (fun Zw=>?_) (fun Zw=>?_)
  ·refine az (Z1 2 (ic [1,1,0,0,0,0,0] (QO b ga gb gc gd ge gf (Zb.mk L.vars (L.own.set x.toNat (xo+1)) L.par L.con L.fst L.tok) ln (ZT n L.vars s) 1 (-1) (hlb:=(by rw [hxv];omega)) (hlk:=kx.len)) ?_))
   rintro _ _ ⟨wa1,wb1,wc1,wd1,we1,wf1,rfl⟩
   exact ie (ar (Z8 (r1 [0,0,0,0,0,0,0] (.inl ⟨wa1,wb1,wc1,wd1,we1,wf1,((Zb.mk L.vars (L.own.set x.toNat (xo+1)) L.par L.con L.fst L.tok).grow (ZT n L.vars s) 1 (-1)),rfl,rfl,(by rw [Uk,hP];first|rfl|exact UX (by assumption)|exact UY (by assumption) (by assumption)|exact UZ (by assumption))⟩))))
  refine ZB 2 [7] (ZC [] (KU s.op) (ie (ac (XA s.op) Iff.rfl (fun Yg=>?_) (fun Yg=>?_))))
  ·refine az (Z1 1 (ic [1,1,0,0,0,0,0] (QO b ga gb gc gd ge gf (Zb.mk L.vars (L.own.set x.toNat (xo+1)) L.par L.con L.fst L.tok) ln 0 0 (-1) (hlb:=(by rw [hxv];omega)) (hlk:=kx.len)) ?_))
   rintro _ _ ⟨wa2,wb2,wc2,wd2,we2,wf2,rfl⟩
   exact ie (ar (Z8 (r1 [0,0,0,0,0,0,0] (.inl ⟨wa2,wb2,wc2,wd2,we2,wf2,((Zb.mk L.vars (L.own.set x.toNat (xo+1)) L.par L.con L.fst L.tok).grow 0 0 (-1)),rfl,rfl,(by rw [Uk,hP];first|rfl|exact UX (by assumption)|exact UY (by assumption) (by assumption)|exact UZ (by assumption))⟩))))
  exact ak (ar (Z8 (r1 [1,1,0,0,0,0,0] (.inl ⟨ga,gb,gc,gd,ge,gf,(Zb.mk L.vars (L.own.set x.toNat (xo+1)) L.par L.con L.fst L.tok),rfl,rfl,(by rw [Uk,hP];first|rfl|exact UX (by assumption)|exact UY (by assumption) (by assumption)|exact UZ (by assumption))⟩) (eq:=(rc (rv (xs:=L.vars) ob (rv (xs:=(L.own.set x.toNat (xo+1))) ob (rv (xs:=L.par) ob (rv (xs:=L.con) ob (rv (xs:=L.fst) ob (rv (xs:=L.tok) ob rz)))))))))))
 refine ar (Yw (s.op==15) Zs (fun Xp=>?_) (fun Xp=>?_))
 ·obtain ⟨x,hxa⟩:=hf.one om
  have ha:s.args[0]? = some x:=by rw [hxa];rfl
  have hx:=hf.args x (by rw [hxa];simp)
  have hgx:=Ja ha
  have hal:=(W5.1 ha).1
  refine az (Y6 3 [1] (Zi (Zr none 0 1 (Yf ha)) (Z1 1 (ic [3,0,2,2,2,2,2] (EZ b ga gb gc gd ge gf L ln x (hlk:=hk.len) (hq:=(fun y hy=>⟨hk.nn y hy,by have:=hk.bd y hy;omega⟩))) ?_))))
  rintro _ _ (⟨wa3,wb3,wc3,wd3,we3,wf3,L'1,rfl,rfl,XB⟩|⟨rfl,rfl,XH⟩)
  ·have hP:=(Iv (n:=n) (ln:=ln) (L:=L) Xp hgx).trans (XB)
   obtain ⟨kx,hxv⟩:=Ay hn hk hq.1 hf hP
   refine Z0 (Ym (XF (ak (Yp 2 [7] (ZC [] (KU s.op) (Wa [0,5,7] [(80,.b (XA s.op&&((ZT n L.vars s) != 0)))] (fun gz=>gz) ?_ ?_))))))
   ·refine Z1 1 (ib (b:=XA s.op) 77 (fun ZD=>?_) (fun ZD=>?_))
    ·exact Z0 (Y5 9 (Zq ((ZT n L.vars s) != 0) ZD fl))
    exact Z0 (Y5 9 (Zq false ZD fl))
   refine ac (XA s.op&&((ZT n L.vars s) != 0)) (p:=(XA s.op=true)/\((ZT n L.vars s)≠0)) (YD Iff.rfl ZP) (fun Wf=>?_) (fun Wf=>?_)
   ·refine az (Z1 2 (ic [0,0,0,0,0,0,0] (QO b wa3 wb3 wc3 wd3 we3 wf3 L'1 ln (ZT n L.vars s) 1 (-1) (hlb:=(by rw [hxv];omega)) (hlk:=kx.len)) ?_))
    rintro _ _ ⟨wa4,wb4,wc4,wd4,we4,wf4,rfl⟩
    exact ie (ar (Z8 (r1 [0,0,0,0,0,0,0] (.inl ⟨wa4,wb4,wc4,wd4,we4,wf4,(L'1.grow (ZT n L.vars s) 1 (-1)),rfl,rfl,(by rw [Uk,hP];first|rfl|exact UX (by assumption)|exact UY (by assumption) (by assumption)|exact UZ (by assumption))⟩))))
   refine ZB 2 [7] (ZC [] (KU s.op) (ie (ac (XA s.op) Iff.rfl (fun T0=>?_) (fun T0=>?_))))
   ·refine az (Z1 1 (ic [0,0,0,0,0,0,0] (QO b wa3 wb3 wc3 wd3 we3 wf3 L'1 ln 0 0 (-1) (hlb:=(by rw [hxv];omega)) (hlk:=kx.len)) ?_))
    rintro _ _ ⟨wa5,wb5,wc5,wd5,we5,wf5,rfl⟩
    exact ie (ar (Z8 (r1 [0,0,0,0,0,0,0] (.inl ⟨wa5,wb5,wc5,wd5,we5,wf5,(L'1.grow 0 0 (-1)),rfl,rfl,(by rw [Uk,hP];first|rfl|exact UX (by assumption)|exact UY (by assumption) (by assumption)|exact UZ (by assumption))⟩))))
   exact ak (ar (Z8 (r1 [0,0,0,0,0,0,0] (.inl ⟨wa3,wb3,wc3,wd3,we3,wf3,L'1,rfl,rfl,(by rw [Uk,hP];first|rfl|exact UX (by assumption)|exact UY (by assumption) (by assumption)|exact UZ (by assumption))⟩))))
  have hP:=(Iv (n:=n) (ln:=ln) (L:=L) Xp hgx).trans (XH)
  exact Z0 (Ym (W7 (ar (Z8 (r1 [] (.inr ⟨rfl,rfl,(by rw [Uk,hP];first|rfl|exact UX (by assumption)|exact UY (by assumption) (by assumption)|exact UZ (by assumption))⟩))))))
 refine Ym (TE (fun fz gz F h=>F=sF [0,4,5,7,17] fz [(58,.b ((s.op==16)||(s.op==17)))]/\h=gz) ?_ ?_)
 ·refine ac (s.op==16) Zs (fun VD=>?_) (fun VD=>?_)
  ·exact ak (Xo ⟨rfl,rfl⟩ (Y5 9 (fc (x:=.b (s.op==16)) (lb (by first|rfl|(rw [Z6 VD])|(rw [Z4 VD])|(simp [VD];done)|(rw [Wp];simp [VD];done)|omega)) fl)))
  exact Qo (Xo ⟨rfl,rfl⟩ (Y5 9 (fc (x:=.b (s.op==17)) (lb (by first|rfl|(rw [Z6 VD])|(rw [Z4 VD])|(simp [VD];done)|(rw [Wp];simp [VD];done)|omega)) fl)))
 rintro F h ⟨rfl,rfl⟩
 refine ac ((s.op==16)||(s.op==17)) (p:=(s.op=16)∨(s.op=17)) (Yj Zs Zs) (fun T9=>?_) (fun T9=>?_)
 ·obtain ⟨x,hxa⟩:=hf.one om
  have ha:s.args[0]? = some x:=by rw [hxa];rfl
  have hx:=hf.args x (by rw [hxa];simp)
  have hgx:=Ja ha
  have hal:=(W5.1 ha).1
  refine az (Y6 3 [2,1] (ic [3,0,2,2,2,2,2] (Z8o b ga gb gc gd ge gf n s L ln q x) ?_))
  rintro _ _ (⟨wa6,wb6,wc6,wd6,we6,wf6,L'2,rfl,rfl,T1⟩|⟨rfl,rfl,Tj⟩)
  ·have hP:=(Iw (n:=n) (ln:=ln) (L:=L) T9 hgx).trans (T1)
   obtain ⟨kx,hxv⟩:=Ay hn hk hq.1 hf hP
   refine Z0 (Ym (XF (ak (Yp 2 [7] (ZC [] (KU s.op) (Wa [0,5,7] [(80,.b (XA s.op&&((ZT n L.vars s) != 0)))] (fun gz=>gz) ?_ ?_))))))
   ·refine Z1 1 (ib (b:=XA s.op) 77 (fun Yq=>?_) (fun Yq=>?_))
    ·exact Z0 (Y5 9 (Zq ((ZT n L.vars s) != 0) Yq fl))
    exact Z0 (Y5 9 (Zq false Yq fl))
   refine ac (XA s.op&&((ZT n L.vars s) != 0)) (p:=(XA s.op=true)/\((ZT n L.vars s)≠0)) (YD Iff.rfl ZP) (fun Tu=>?_) (fun Tu=>?_)
   ·refine az (Z1 2 (ic [0,0,0,0,0,0,0] (QO b wa6 wb6 wc6 wd6 we6 wf6 L'2 ln (ZT n L.vars s) 1 (-1) (hlb:=(by rw [hxv];omega)) (hlk:=kx.len)) ?_))
    rintro _ _ ⟨wa7,wb7,wc7,wd7,we7,wf7,rfl⟩
    exact ie (ar (Z8 (r1 [0,0,0,0,0,0,0] (.inl ⟨wa7,wb7,wc7,wd7,we7,wf7,(L'2.grow (ZT n L.vars s) 1 (-1)),rfl,rfl,(by rw [Uk,hP];first|rfl|exact UX (by assumption)|exact UY (by assumption) (by assumption)|exact UZ (by assumption))⟩))))
   refine ZB 2 [7] (ZC [] (KU s.op) (ie (ac (XA s.op) Iff.rfl (fun JG=>?_) (fun JG=>?_))))
   ·refine az (Z1 1 (ic [0,0,0,0,0,0,0] (QO b wa6 wb6 wc6 wd6 we6 wf6 L'2 ln 0 0 (-1) (hlb:=(by rw [hxv];omega)) (hlk:=kx.len)) ?_))
    rintro _ _ ⟨wa8,wb8,wc8,wd8,we8,wf8,rfl⟩
    exact ie (ar (Z8 (r1 [0,0,0,0,0,0,0] (.inl ⟨wa8,wb8,wc8,wd8,we8,wf8,(L'2.grow 0 0 (-1)),rfl,rfl,(by rw [Uk,hP];first|rfl|exact UX (by assumption)|exact UY (by assumption) (by assumption)|exact UZ (by assumption))⟩))))
   exact ak (ar (Z8 (r1 [0,0,0,0,0,0,0] (.inl ⟨wa6,wb6,wc6,wd6,we6,wf6,L'2,rfl,rfl,(by rw [Uk,hP];first|rfl|exact UX (by assumption)|exact UY (by assumption) (by assumption)|exact UZ (by assumption))⟩))))
  have hP:=(Iw (n:=n) (ln:=ln) (L:=L) T9 hgx).trans (Tj)
  exact Z0 (Ym (W7 (ar (Z8 (r1 [] (.inr ⟨rfl,rfl,(by rw [Uk,hP];first|rfl|exact UX (by assumption)|exact UY (by assumption) (by assumption)|exact UZ (by assumption))⟩))))))
 refine Ym (TE (fun fz gz F h=>F=sF [0,4,5,7] fz [(65,.b ((s.op==7)||(s.op==8)))]/\h=gz) ?_ ?_)
 ·refine ac (s.op==7) Zs (fun Tv=>?_) (fun Tv=>?_)
  ·exact ak (Xo ⟨rfl,rfl⟩ (Y5 9 (fc (x:=.b (s.op==7)) (lb (by first|rfl|(rw [Z6 Tv])|(rw [Z4 Tv])|(simp [Tv];done)|(rw [Wp];simp [Tv];done)|omega)) fl)))
  exact Qo (Xo ⟨rfl,rfl⟩ (Y5 9 (fc (x:=.b (s.op==8)) (lb (by first|rfl|(rw [Z6 Tv])|(rw [Z4 Tv])|(simp [Tv];done)|(rw [Wp];simp [Tv];done)|omega)) fl)))
 rintro F h ⟨rfl,rfl⟩
 refine ac ((s.op==7)||(s.op==8)) (p:=(s.op=7)∨(s.op=8)) (Yj Zs Zs) (fun Kc=>?_) (fun Kc=>?_)
 ·refine az (Y6 3 [2,1] (ic [3,0,2,2,2,2,2] (Z8l b ga gb gc gd ge gf n s L ln q (ih:=ob)) ?_))
  rintro _ _ (⟨wa9,wb9,wc9,wd9,we9,wf9,L'3,rfl,rfl,JH⟩|⟨rfl,rfl,Am⟩)
  ·have hP:=(Fk (n:=n) (ln:=ln) (L:=L) Kc).trans (JH)
   obtain ⟨kx,hxv⟩:=Ay hn hk hq.1 hf hP
   refine Z0 (Ym (XF (ak (Yp 2 [7] (ZC [] (KU s.op) (Wa [0,5,7] [(80,.b (XA s.op&&((ZT n L.vars s) != 0)))] (fun gz=>gz) ?_ ?_))))))
   ·refine Z1 1 (ib (b:=XA s.op) 77 (fun Xg=>?_) (fun Xg=>?_))
    ·exact Z0 (Y5 9 (Zq ((ZT n L.vars s) != 0) Xg fl))
    exact Z0 (Y5 9 (Zq false Xg fl))
   refine ac (XA s.op&&((ZT n L.vars s) != 0)) (p:=(XA s.op=true)/\((ZT n L.vars s)≠0)) (YD Iff.rfl ZP) (fun B5=>?_) (fun B5=>?_)
   ·refine az (Z1 2 (ic [0,0,0,0,0,0,0] (QO b wa9 wb9 wc9 wd9 we9 wf9 L'3 ln (ZT n L.vars s) 1 (-1) (hlb:=(by rw [hxv];omega)) (hlk:=kx.len)) ?_))
    rintro _ _ ⟨wa10,wb10,wc10,wd10,we10,wf10,rfl⟩
    exact ie (ar (Z8 (r1 [0,0,0,0,0,0,0] (.inl ⟨wa10,wb10,wc10,wd10,we10,wf10,(L'3.grow (ZT n L.vars s) 1 (-1)),rfl,rfl,(by rw [Uk,hP];first|rfl|exact UX (by assumption)|exact UY (by assumption) (by assumption)|exact UZ (by assumption))⟩))))
   refine ZB 2 [7] (ZC [] (KU s.op) (ie (ac (XA s.op) Iff.rfl (fun HE=>?_) (fun HE=>?_))))
   ·refine az (Z1 1 (ic [0,0,0,0,0,0,0] (QO b wa9 wb9 wc9 wd9 we9 wf9 L'3 ln 0 0 (-1) (hlb:=(by rw [hxv];omega)) (hlk:=kx.len)) ?_))
    rintro _ _ ⟨wa11,wb11,wc11,wd11,we11,wf11,rfl⟩
    exact ie (ar (Z8 (r1 [0,0,0,0,0,0,0] (.inl ⟨wa11,wb11,wc11,wd11,we11,wf11,(L'3.grow 0 0 (-1)),rfl,rfl,(by rw [Uk,hP];first|rfl|exact UX (by assumption)|exact UY (by assumption) (by assumption)|exact UZ (by assumption))⟩))))
   exact ak (ar (Z8 (r1 [0,0,0,0,0,0,0] (.inl ⟨wa9,wb9,wc9,wd9,we9,wf9,L'3,rfl,rfl,(by rw [Uk,hP];first|rfl|exact UX (by assumption)|exact UY (by assumption) (by assumption)|exact UZ (by assumption))⟩))))
  have hP:=(Fk (n:=n) (ln:=ln) (L:=L) Kc).trans (Am)
  exact Z0 (Ym (W7 (ar (Z8 (r1 [] (.inr ⟨rfl,rfl,(by rw [Uk,hP];first|rfl|exact UX (by assumption)|exact UY (by assumption) (by assumption)|exact UZ (by assumption))⟩))))))
 refine az (Y6 3 [2,1] (ic [3,0,2,2,2,2,2] (Z8n b ga gb gc gd ge gf n s L ln q (hnum:=hf.num) (hargs:=hf.args) (hinto:=(fun q=>(hf.into om).2))) ?_))
 rintro _ _ (⟨wa12,wb12,wc12,wd12,we12,wf12,L'4,rfl,rfl,BT⟩|⟨rfl,rfl,BU⟩)
 ·have hP:=(PT (n:=n) (ln:=ln) (L:=L) Z5 Xp T9 Kc).trans (BT)
  obtain ⟨kx,hxv⟩:=Ay hn hk hq.1 hf hP
  refine Z0 (Ym (XF (ak (Yp 2 [7] (ZC [] (KU s.op) (Wa [0,5,7] [(80,.b (XA s.op&&((ZT n L.vars s) != 0)))] (fun gz=>gz) ?_ ?_))))))
  ·refine Z1 1 (ib (b:=XA s.op) 77 (fun WG=>?_) (fun WG=>?_))
   ·exact Z0 (Y5 9 (Zq ((ZT n L.vars s) != 0) WG fl))
   exact Z0 (Y5 9 (Zq false WG fl))
  refine ac (XA s.op&&((ZT n L.vars s) != 0)) (p:=(XA s.op=true)/\((ZT n L.vars s)≠0)) (YD Iff.rfl ZP) (fun HF=>?_) (fun HF=>?_)
  ·refine az (Z1 2 (ic [0,0,0,0,0,0,0] (QO b wa12 wb12 wc12 wd12 we12 wf12 L'4 ln (ZT n L.vars s) 1 (-1) (hlb:=(by rw [hxv];omega)) (hlk:=kx.len)) ?_))
   rintro _ _ ⟨wa13,wb13,wc13,wd13,we13,wf13,rfl⟩
   exact ie (ar (Z8 (r1 [0,0,0,0,0,0,0] (.inl ⟨wa13,wb13,wc13,wd13,we13,wf13,(L'4.grow (ZT n L.vars s) 1 (-1)),rfl,rfl,(by rw [Uk,hP];first|rfl|exact UX (by assumption)|exact UY (by assumption) (by assumption)|exact UZ (by assumption))⟩))))
  refine ZB 2 [7] (ZC [] (KU s.op) (ie (ac (XA s.op) Iff.rfl (fun KL=>?_) (fun KL=>?_))))
  ·refine az (Z1 1 (ic [0,0,0,0,0,0,0] (QO b wa12 wb12 wc12 wd12 we12 wf12 L'4 ln 0 0 (-1) (hlb:=(by rw [hxv];omega)) (hlk:=kx.len)) ?_))
   rintro _ _ ⟨wa14,wb14,wc14,wd14,we14,wf14,rfl⟩
   exact ie (ar (Z8 (r1 [0,0,0,0,0,0,0] (.inl ⟨wa14,wb14,wc14,wd14,we14,wf14,(L'4.grow 0 0 (-1)),rfl,rfl,(by rw [Uk,hP];first|rfl|exact UX (by assumption)|exact UY (by assumption) (by assumption)|exact UZ (by assumption))⟩))))
  exact ak (ar (Z8 (r1 [0,0,0,0,0,0,0] (.inl ⟨wa12,wb12,wc12,wd12,we12,wf12,L'4,rfl,rfl,(by rw [Uk,hP];first|rfl|exact UX (by assumption)|exact UY (by assumption) (by assumption)|exact UZ (by assumption))⟩))))
 have hP:=(PT (n:=n) (ln:=ln) (L:=L) Z5 Xp T9 Kc).trans (BU)
 exact Z0 (Ym (W7 (ar (Z8 (r1 [] (.inr ⟨rfl,rfl,(by rw [Uk,hP];first|rfl|exact UX (by assumption)|exact UY (by assumption) (by assumption)|exact UZ (by assumption))⟩))))))
theorem Z8j (c:Nat) (ga:Hd) (gb:Hd) (gc:Hd) (gd:Hd) (ge:Hd) (gf:Hd) (n:Zj) (b:Zf) (L:Zb) (ln:LI) (q:Int) (mm:Nat) (hn:YZ n) (hk:YK n.decls L q) (ht:0<=Yv n L.vars b) (hm:mm<=L.vars.length) (hb:L.vars.length+4*b.sz<=1000000000) (hq:0<=q/\q+4*b.sz<=999999990) (hln:ln.length<=4294967296) (ih:∀(s2:Z7) (c:Nat) (ra:Hd) (rb:Hd) (rc:Hd) (rd:Hd) (re:Hd) (rf:Hd) (M:Zb) (p:Int),(s2.sz<b.sz)->(YK n.decls M p)->(0<=ZT n M.vars s2)->(M.vars.length+4*s2.sz<=1000000000)->(0<=p/\p+4*s2.sz<=999999990)->Za 200 [.p c 0,X6 n,XS s2] [.obj c [.h ra,.h rb,.h rc,.h rd,.h re,.h rf,Ze ln],rV ra M.vars,rV rb M.own,rV rc M.par,rV rd M.con,rV re M.fst,rV rf M.tok] (fun r h=>(∃(wa:Hd) (wb:Hd) (wc:Hd) (wd:Hd) (we:Hd) (wf:Hd) (M':Zb),r=.b true/\h=[.obj c [.h wa,.h wb,.h wc,.h wd,.h we,.h wf,Ze ln],rV wa M'.vars,rV wb M'.own,rV wc M'.par,rV wd M'.con,rV we M'.fst,rV wf M'.tok]/\T2 n ln M s2=some M')∨(r=.b false/\h=[]/\T2 n ln M s2=none))):Za 144 [.p c 0,X6 n,YG b,.i mm] [.obj c [.h ga,.h gb,.h gc,.h gd,.h ge,.h gf,Ze ln],rV ga L.vars,rV gb L.own,rV gc L.par,rV gd L.con,rV ge L.fst,rV gf L.tok] (fun r h=>(∃(wa:Hd) (wb:Hd) (wc:Hd) (wd:Hd) (we:Hd) (wf:Hd) (L':Zb),r=.b true/\h=[.obj c [.h wa,.h wb,.h wc,.h wd,.h we,.h wf,Ze ln],rV wa L'.vars,rV wb L'.own,rV wc L'.par,rV wd L'.con,rV we L'.fst,rV wf L'.tok]/\WQ n ln L mm b=some L')∨(r=.b false/\h=[]/\WQ n ln L mm b=none)):=by
 have hbz:=b.sz_eq
 obtain ⟨vs,rt,hvs,hres,hrt⟩:=BC ht
 have hri:=K3 hres
 have YH:=JW b
 refine Zx 45 Tryz.func144 (ar (iA (Wb n) fun b1=>iA (VE b) fun b2=>?_))
 refine Z0 (Ym (ab 0 (ZU (fun fz gz m F h=>∃(k:Nat) (q2:Int) (L2:Zb) (ka:Hd) (kb:Hd) (kc:Hd) (kd:Hd) (ke:Hd) (kf:Hd),(k<=b.steps.length)/\(YK n.decls L2 q2)/\(0<=q2/\q2+4*Y9 (b.steps.drop k)<=999999990)/\(L2.vars.length+4*Y9 (b.steps.drop k)<=1000000000)/\(Xu n (b.steps.drop k) L2.vars=some vs)/\(V5 n ln L2 (b.steps.drop k)=V5 n ln L b.steps)/\(L.vars.length<=L2.vars.length)/\F=sF [0,3,5,6] fz [(9,.i k)]/\h=[Zy gz 0,Zy gz 1,.obj c [.h ka,.h kb,.h kc,.h kd,.h ke,.h kf,Ze ln],rV ka L2.vars,rV kb L2.own,rV kc L2.par,rV kd L2.con,rV ke L2.fst,rV kf L2.tok]/\m=b.steps.length-k) _ _ _ ⟨0,q,L,ga,gb,gc,gd,ge,gf,ob,hk,(by rw [TR];omega),(by rw [TR];omega),hvs,rfl,om,rfl,rfl,rfl⟩ (Y5 9 (ZW fl)) ?_)))
 rintro m F h ⟨k,q2,L2,ka,kb,kc,kd,ke,kf,Y0,Z9,Zz,Y8,XG,J5,GE,rfl,rfl,rfl⟩
 refine Yp 3 [0] (iw (T8 b.steps) (ZO ((k:Int)<(b.steps.length:Int)) (fun Z5=>?_) (fun Z5=>?_)))
 ·obtain ⟨s1,hs1⟩:=Zv b.steps k om
  have hss:=Dw hs1
  have hdr:=ZH hs1
  have hz:Y9 (b.steps.drop k)=s1.sz+Y9 (b.steps.drop (k+1)):=by rw [hdr,Y9]
  rw [hdr] at XG J5
  obtain ⟨g1,g2⟩:=Cg XG
  refine ak (aq (ab 1 (aD 9 (Ya 4 9 [0,1,2,3,4] [1,0] (dx 5 (Zr none (k:Int) 5 (U7 hs1)) (Zo 2 3 [6] (ZF 7 (dc 7 [2,2,2,2,2,2,2] [] [] (ih s1 c ka kb kc kd ke kf L2 q2 ob Z9 g1 om om) ?_))))))))
  rintro _ _ (⟨wa1,wb1,wc1,wd1,we1,wf1,M'1,rfl,rfl,Yd⟩|⟨rfl,rfl,YX⟩)
  ·have hP:=Yd
   have kx:=Ll hn Z9 Zz.1 g1 hP
   exact Zo 0 1 [8] (de (XF (ak (az (Z1 1 (ZK k (Z0 (ZJ ⟨k+1,(q2+4*s1.sz),M'1,wa1,wb1,wc1,wd1,we1,wf1,ob,kx.1,om,(by rw [kx.2];have:=Cd n L2.vars s1;omega),(by rw [kx.2];exact g2),(by rw [<-J5,V5,hP];rfl),(by rw [kx.2];have:=Cd n L2.vars s1;omega),rfl,rfl,rfl⟩ (wk [7,7,0,0,0,0,0,0,0] (ZL k fl))))))))))
  have hP:=YX
  exact Zo 0 1 [8] (de (W7 (ar (Z8 (r1 [] (.inr ⟨rfl,rfl,(by rw [KA,<-J5,V5,hP];rfl)⟩))))))
 rw [YV om] at XG J5
 have hvv:L2.vars=vs:=by rw [Xu] at XG;exact Tn XG
 have hB:WQ n ln L mm b=VM mm b.result L2:=by rw [KA,<-J5,V5];rfl
 obtain ⟨xr,hxr⟩:=Zv L2.vars b.result.toNat (by rw [hvv];omega)
 have hgr:=Vt hxr
 have hrl:0<=b.result/\b.result<L2.vars.length:=by rw [hvv];omega
 rw [Xu] at XG
 refine ax 0 (aq (aD 16 (Ya 10 16 [0,1,2,3,4,5] [2,0] (dx 6 (XE 3 ka L2.vars b.result b.result.toNat (hq:=rfl)) (Qm 7 (WV 3 ka L2.vars b.result.toNat xr hxr) (Zo 6 8 [8,9] (db (b:=(xr != 0)) 35 (fun Zc=>?_) (fun Zc=>?_))))))))
 ·have XB:xr≠0:=(ZP).1 Zc
  refine Ya 3 6 [10,11,12] [0] (ZF 13 (dc 13 [2,2,2,2,2,2,2] [] [] (EZ c ka kb kc kd ke kf L2 ln b.result (hlk:=Z9.len) (hq:=(fun y hy=>⟨Z9.nn y hy,by have:=Z9.bd y hy;omega⟩))) ?_))
  rintro _ _ (⟨wa2,wb2,wc2,wd2,we2,wf2,L'1,rfl,rfl,XH⟩|⟨rfl,rfl,VT⟩)
  ·have hE:=hB.trans (Z4e hgr (by assumption) XH)
   have kx:=Z9.take XH
   have hxv:L'1.vars.length=L2.vars.length:=by rw [(Qu XH).2.1]
   refine Zo 0 2 [14,15] (de (XF (ak (ZM 2 (ic [0,0,0,0,0,0,0] (HW c wa2 wb2 wc2 wd2 we2 wf2 L'1 ln mm (hlk:=(by first|exact kx.len|exact Z9.len)) (hlb:=om) (hm:=om)) ?_)))))
   rintro _ _ (⟨wa3,wb3,wc3,wd3,we3,wf3,L'2,rfl,rfl,Uu⟩|⟨rfl,rfl,T1⟩)
   ·exact Z8 (r1 [0,0,0,0,0,0,0] (.inl ⟨wa3,wb3,wc3,wd3,we3,wf3,L'2,rfl,rfl,(by first|exact hE|(rw [hE];exact Uu)|(rw [hB,CP hgr (by assumption)];exact Uu))⟩))
   exact Z8 (r1 [] (.inr ⟨rfl,rfl,(by first|exact hE|(rw [hE];exact T1)|(rw [hB,CP hgr (by assumption)];exact T1))⟩))
  have hE:=hB.trans (Z4d hgr (by assumption) VT)
  exact Zo 0 2 [14,15] (de (W7 (ar (Z8 (r1 [] (.inr ⟨rfl,rfl,(by first|exact hE|(rw [hE];exact VT)|(rw [hB,CP hgr (by assumption)];exact VT))⟩))))))
 have Tj:¬(xr≠0):=Y3 ZP Zc
 refine Zo 0 6 [10,11,12,13,14,15] (de (XF (ak (ZM 2 (ic [2,2,2,2,2,2,2] (HW c ka kb kc kd ke kf L2 ln mm (hlk:=(by first|exact kx.len|exact Z9.len)) (hlb:=om) (hm:=om)) ?_)))))
 rintro _ _ (⟨wa4,wb4,wc4,wd4,we4,wf4,L'3,rfl,rfl,Qp⟩|⟨rfl,rfl,Ke⟩)
 ·exact Z8 (r1 [0,0,0,0,0,0,0] (.inl ⟨wa4,wb4,wc4,wd4,we4,wf4,L'3,rfl,rfl,(by first|exact hE|(rw [hE];exact Qp)|(rw [hB,CP hgr (by assumption)];exact Qp))⟩))
 exact Z8 (r1 [] (.inr ⟨rfl,rfl,(by first|exact hE|(rw [hE];exact Ke)|(rw [hB,CP hgr (by assumption)];exact Ke))⟩))
theorem Z8k (n:Zj) (ln:LI) (hn:YZ n) (hln:ln.length<=4294967296) (m:Nat):∀(b2:Zf) (c:Nat) (ra:Hd) (rb:Hd) (rc:Hd) (rd:Hd) (re:Hd) (rf:Hd) (M:Zb) (mm:Nat) (p:Int),(b2.sz<m+1)->(YK n.decls M p)->(0<=Yv n M.vars b2)->(mm<=M.vars.length)->(M.vars.length+4*b2.sz<=1000000000)->(0<=p/\p+4*b2.sz<=999999990)->Za 144 [.p c 0,X6 n,YG b2,.i mm] [.obj c [.h ra,.h rb,.h rc,.h rd,.h re,.h rf,Ze ln],rV ra M.vars,rV rb M.own,rV rc M.par,rV rd M.con,rV re M.fst,rV rf M.tok] (fun r h=>(∃(wa:Hd) (wb:Hd) (wc:Hd) (wd:Hd) (we:Hd) (wf:Hd) (M':Zb),r=.b true/\h=[.obj c [.h wa,.h wb,.h wc,.h wd,.h we,.h wf,Ze ln],rV wa M'.vars,rV wb M'.own,rV wc M'.par,rV wd M'.con,rV we M'.fst,rV wf M'.tok]/\WQ n ln M mm b2=some M')∨(r=.b false/\h=[]/\WQ n ln M mm b2=none)):=by
 induction m with
 | zero=>intro b c ga gb gc gd ge gf L mm q h;have:=b.sz_pos;omega
 | succ m ih=>
  intro b c ga gb gc gd ge gf L mm q h1 hk ht hm hb hp
  exact Z8j c ga gb gc gd ge gf n b L ln q mm hn hk ht hm hb hp hln fun s c ga gb gc gd ge gf L q h2 hk ht hb hp=>Z8p c ga gb gc gd ge gf n s L ln q hn hk ht hb hp hln
   fun b2 c ga gb gc gd ge gf L mm q h3 hk ht hm hb hp=>ih b2 c ga gb gc gd ge gf L mm q om hk ht hm hb hp
theorem Z8i (c:Nat) (ra:Hd) (rb:Hd) (rc:Hd) (rd:Hd) (re:Hd) (rf:Hd) (n:Zj) (b2:Zf) (M:Zb) (ln:LI) (mm:Nat) (p:Int) (hn:YZ n) (hln:ln.length<=4294967296) (hk:YK n.decls M p) (ht:0<=Yv n M.vars b2) (hm:mm<=M.vars.length) (hb:M.vars.length+4*b2.sz<=1000000000) (hp:0<=p/\p+4*b2.sz<=999999990):Za 144 [.p c 0,X6 n,YG b2,.i mm] [.obj c [.h ra,.h rb,.h rc,.h rd,.h re,.h rf,Ze ln],rV ra M.vars,rV rb M.own,rV rc M.par,rV rd M.con,rV re M.fst,rV rf M.tok] (fun r h=>(∃(wa:Hd) (wb:Hd) (wc:Hd) (wd:Hd) (we:Hd) (wf:Hd) (M':Zb),r=.b true/\h=[.obj c [.h wa,.h wb,.h wc,.h wd,.h we,.h wf,Ze ln],rV wa M'.vars,rV wb M'.own,rV wc M'.par,rV wd M'.con,rV we M'.fst,rV wf M'.tok]/\WQ n ln M mm b2=some M')∨(r=.b false/\h=[]/\WQ n ln M mm b2=none)):=Z8k n ln hn hln b2.sz b2 c ra rb rc rd re rf M mm p om hk ht hm hb hp
theorem Zd0 (rt:Yy) (hp:rt.params.length<=1000000:=by exact ob) (hl:rt.lent.length<=4294967296:=by exact ob):Za 143 [QZ rt] [] (fun r h=>∃(c:Nat) (wa:Hd) (wb:Hd) (wc:Hd) (wd:Hd) (we:Hd) (wf:Hd),r=.p c 0/\h=[.obj c [.h wa,.h wb,.h wc,.h wd,.h we,.h wf,Ze rt.lent],rV wa ((Uw rt).vars),rV wb ((Uw rt).own),rV wc ((Uw rt).par),rV wd ((Uw rt).con),rV we ((Uw rt).fst),rV wf ((Uw rt).tok)]):=by
 refine Zx 45 Tryz.func143 (ar (iA (TM rt) fun b1=>Z0 (ZB 2 [0] (ic [] (AF rt.lent) ?_))))
 rintro _ _ ⟨v1,rfl,rfl⟩
 refine W2 1 [(8,.agg [nl,nl,nl,nl,nl,nl,Ze rt.lent])] (iA [nl,nl,nl,nl,nl,nl,Ze rt.lent] fun b2=>?_)
 refine Ta (Sw 0 b2 [nl,nl,nl,nl,nl,nl,Ze rt.lent] [.h hN,.h hN,.h hN,.h hN,.h hN,.h hN,Ze rt.lent] (.cons (Zm.hd (v:=hN)) (.cons (Zm.hd (v:=hN)) (.cons (Zm.hd (v:=hN)) (.cons (Zm.hd (v:=hN)) (.cons (Zm.hd (v:=hN)) (.cons (Zm.hd (v:=hN)) (.cons (lr _) .nil)))))))) (Ta (Ko) (Ta (Ko) (Ta (Ko) (Ta (Ko) (Ta (Ko) (Ta (Ko) (Z0 (Ym (ab 0 (ZU (fun fz gz m F h=>∃(k:Nat) (L2:Zb) (ka:Hd) (kb:Hd) (kc:Hd) (kd:Hd) (ke:Hd) (kf:Hd),(k<=rt.params.length)/\(Wc L2)/\(L2.vars.length=k)/\(Qr rt.lent (rt.params.drop k) k L2=Uw rt)/\F=sF [1,3] fz [(4,.i k)]/\h=[.obj b2 [.h ka,.h kb,.h kc,.h kd,.h ke,.h kf,Ze rt.lent],Zy gz 8,rV ka L2.vars,rV kb L2.own,rV kc L2.par,rV kd L2.con,rV ke L2.fst,rV kf L2.tok]/\m=rt.params.length-k) _ _ _ ⟨0,(Zb.mk [] [] [] [] [] []),hN,hN,hN,hN,hN,hN,ob,⟨rfl,rfl,rfl,rfl,rfl⟩,rfl,rfl,rfl,rfl,rfl⟩ (wk [6,7,0,0,0,0,0,0] (ZW fl) (e:=(rc (rc (rv (xs:=[]) ob (rv (xs:=[]) ob (rv (xs:=[]) ob (rv (xs:=[]) ob (rv (xs:=[]) ob (rv (xs:=[]) ob rz)))))))))) ?_))))))))))
 rintro m F h ⟨k,L2,ka,kb,kc,kd,ke,kf,Y0,Z9,Zz,Y8,rfl,rfl,rfl⟩
 refine Yp 3 [1] (iw (Yn rt.params) (ZO ((k:Int)<(rt.params.length:Int)) (fun Z5=>?_) (fun Z5=>?_)))
 ·refine ak (aq (ab 1 (ZB 3 [1] ?_)))
  obtain ⟨x1,Z2⟩:=Zv rt.params k om
  refine Zi (Zr none (k:Int) 1 (Yf Z2)) (Wa [1,3,4] [(29,.b ((x1 != 0)&&(!(decide ((k:Int)∈rt.lent)))))] (fun gz=>gz) ?_ ?_)
  ·refine Z1 3 (ib (b:=(x1 != 0)) 23 (fun Zc=>?_) (fun Zc=>?_))
   ·exact Y6 3 [1] (ZC [] (Lf rt.lent (k:Int)) (Z0 (Y5 8 (Zq (!(decide ((k:Int)∈rt.lent))) Zc fl))))
   exact Z0 (Y5 8 (Zq false Zc fl))
  refine ac ((x1 != 0)&&(!(decide ((k:Int)∈rt.lent)))) (p:=(x1≠0)/\(¬((k:Int)∈rt.lent))) (YD ZP (Yl dq)) (fun Zd=>?_) (fun Zd=>?_)
  ·refine az (Y6 4 [1] (Zi (Zr none (k:Int) 1 (Yf Z2)) (Z1 1 (ic [0,1,1,1,1,1,1] (QO b2 ka kb kc kd ke kf L2 rt.lent x1 1 (-1) (hlk:=Z9)) ?_))))
   rintro _ _ ⟨wa1,wb1,wc1,wd1,we1,wf1,rfl⟩
   exact ie (az (Z1 1 (ZK k (Z0 (ZJ ⟨k+1,(L2.grow x1 1 (-1)),wa1,wb1,wc1,wd1,we1,wf1,ob,(Wc.grow Z9),(by simp [Zb.grow];omega),(by rw [ZH Z2,Qr] at Y8;first|(rw [Z6 Zd] at Y8;exact Y8)|(rw [Z4 Zd] at Y8;exact Y8)),rfl,rfl,rfl⟩ (wk [0,6,0,0,0,0,0,0] (ZL k fl)))))))
  refine az (Y6 4 [1] (Zi (Zr none (k:Int) 1 (Yf Z2)) (Z1 1 (ic [0,1,1,1,1,1,1] (QO b2 ka kb kc kd ke kf L2 rt.lent x1 0 (-1) (hlk:=Z9)) ?_))))
  rintro _ _ ⟨wa2,wb2,wc2,wd2,we2,wf2,rfl⟩
  exact ie (az (Z1 1 (ZK k (Z0 (ZJ ⟨k+1,(L2.grow x1 0 (-1)),wa2,wb2,wc2,wd2,we2,wf2,ob,(Wc.grow Z9),(by simp [Zb.grow];omega),(by rw [ZH Z2,Qr] at Y8;first|(rw [Z6 Zd] at Y8;exact Y8)|(rw [Z4 Zd] at Y8;exact Y8)),rfl,rfl,rfl⟩ (wk [0,6,0,0,0,0,0,0] (ZL k fl)))))))
 refine ax 0 (Zh ?_)
 have hNl:L2=Uw rt:=by rw [<-Y8,YV om];rfl
 exact ZG (r1 [0,1,1,1,1,1,1] ⟨b2,ka,kb,kc,kd,ke,kf,rfl,rfl⟩ (eq:=(rc (rv (xs:=L2.vars) (by rw [hNl]) (rv (xs:=L2.own) (by rw [hNl]) (rv (xs:=L2.par) (by rw [hNl]) (rv (xs:=L2.con) (by rw [hNl]) (rv (xs:=L2.fst) (by rw [hNl]) (rv (xs:=L2.tok) (by rw [hNl]) rz)))))))))
theorem Zcj (n:Zj) (f:Nat) (rt:Yy) (hn:YZ n:=by exact ob) (hr:n.routines[f]? = some rt:=by exact ob) (ht:0<=Yv n rt.params rt.body:=by exact ob) (hz:rt.body.sz<=100000000:=by exact ob):Za 85 [X6 n,.i f] [] (ZQ (.b (Qh n rt))):=by
 have hfl:=(W5.1 hr).1
 have hpl:=hn.params_at hr
 have hll:=hn.lent_at hr
 obtain ⟨hk,hkv⟩:=Pl n.decls rt
 refine Zx 26 Tryz.func85 (ar (iA (Wb n) fun b1=>Z0 (ZB 3 [0] (Zi (Zr none (f:Int) 5 (Us hr)) (Z1 1 (iA [nl,nl,.i 0,nl,.i 0] fun b2=>Y4 0 b2 (TM rt) (ie (ZB 1 [0] (ic [] (Zd0 rt) ?_)))))))))
 rintro _ _ ⟨c1,wa1,wb1,wc1,wd1,we1,wf1,rfl,rfl⟩
 refine Z0 (ZB 6 [8,7,7] (iw (Yn rt.params) (ic [0,0,0,0,0,0,0] (Z8i c1 wa1 wb1 wc1 wd1 we1 wf1 n rt.body (Uw rt) rt.lent rt.params.length 1 ob ob hk (by rw [hkv];exact ht) (by rw [hkv];omega) (by rw [hkv];omega) ob) ?_)))
 rintro _ _ (⟨wa2,wb2,wc2,wd2,we2,wf2,M'1,rfl,rfl,Yd⟩|⟨rfl,rfl,YX⟩)
 ·have hB:=Yd
  obtain ⟨l1,l2⟩:=Z1m hn hk om (by rw [hkv];exact ht) (by rw [hkv];omega) hB
  refine Z1 2 (ic [0,0,0,0,0,0,0] (HW c1 wa2 wb2 wc2 wd2 we2 wf2 M'1 rt.lent 0 (hlk:=l1)) ?_)
  rintro _ _ (⟨wa3,wb3,wc3,wd3,we3,wf3,L'1,rfl,rfl,XB⟩|⟨rfl,rfl,XH⟩)
  ·exact Z8 (Zp (.b true) (lb (by rw [Qh,hB];exact (Z2x XB).symm)))
  exact Z8 (Zp (.b false) (lb (by rw [Qh,hB];exact (Z2w XH).symm)))
 have hB:=YX
 exact Z8 (Zp (.b false) (lb (by rw [Qh,hB])))
theorem RP (n:Zj) (hz:WM n:=by exact ob):Za 40 [X6 n] [] (ZQ (.b (U2 n))):=by
 have hzl:=hz.len
 refine Zx 18 Tryz.func40 (ar (iA (Wb n) fun b1=>Z0 (Yp 1 [0] (ZC [] (Zdb n) (Yw (!XX n) (p:=¬(XX n=true)) (Yl Iff.rfl) (fun Z5=>?_) (fun Z5=>?_))))))
 ·exact ar (Z8 (Zp (.b false) (lb (by first|rfl|omega|grind [U2]))))
 have hV:XX n=true:=Ww.1 Z5
 obtain ⟨hok,hall⟩:=DG hz hV
 refine ak (Ym (ab 0 (ZU (fun fz gz m F h=>∃(k:Nat),(k<=n.routines.length)/\(K4 n (n.routines.drop k)=K4 n n.routines)/\F=sF [1] fz [(3,.i k)]/\h=gz/\m=n.routines.length-k) _ _ _ ⟨0,ob,ob,rfl,rfl,rfl⟩ (wk [0] (ZW fl)) ?_)))
 rintro m F h ⟨k,Y0,Z9,rfl,rfl,rfl⟩
 refine Yp 3 [0] (iw (UJ n.routines) (ZO ((k:Int)<(n.routines.length:Int)) (fun Zd=>?_) (fun Zd=>?_)))
 ·obtain ⟨rt,hrt⟩:=Zv n.routines k om
  have hrm:=YF hrt
  refine ak (aq (ab 1 (ZB 2 [0] (ZC [] (Zcj n k rt (hr:=hrt) (ht:=(hall rt hrm)) (hz:=(QW (hz.body rt hrm) om))) (Yw (!Qh n rt) (p:=¬(Qh n rt=true)) (Yl Iff.rfl) (fun Zw=>?_) (fun Zw=>?_))))))
  ·refine Zh ?_
   rw [ZH hrt] at Z9
   exact ZG (Zp (.b false) (lb (by first|rfl|omega|grind [K4,U2])))
  refine ak (az (Z1 1 (ZK k (Z0 ?_))))
  have hdr:=ZH hrt
  exact ZJ ⟨k+1,ob,(by rw [hdr] at Z9;clear hdr ;grind [K4]),rfl,rfl,rfl⟩ (wk [0] (ZL k fl))
 refine ax 0 (Zh ?_)
 try rw [YV (xs:=n.routines) (k:=k) om] at Z9
 exact ZG (Zp (.b true) (lb (by first|rfl|omega|grind [K4,U2])))
theorem Zco (op:Int) (v:Int) :Za 180 [.i op,.i v] [] (ZQ (XS (XZ op v))):=by
 exact Zx 10 Tryz.func180 (ar (iA [.i 0,.i 0,.i 0,nl,nl] fun b1=>ie (ZM 2 (iL (Zk [v]) 1 1 fun v1=>iL (VL []) 0 2 fun v2=>Z1 1 (Y4 2 b1 [.i op,.i 0,.i 0,ZY [v] v1,Im [] v2] (ie (ZG (r3 [] [.agg [.i op,.i 0,.i 0,ZY [v] v1,Im [] v2]] [0] [(b1,b1)] ⟨rfl,rfl⟩ (Zm.agg (.cons li (.cons li (.cons li (.cons (Zm.sl _ (Ys Zk rfl)) (.cons (Zm.sl _ (Ys VL rfl)) .nil))))))))))))))
theorem RS (op:Int) (xs:LI) (hl:xs.length<=1000000000:=by exact ob):Za 204 [.i op,Ze xs] [] (fun r h=>∃(v:Value),r=Kj (xs.map (XZ op)) v/\h=[.tail v 5]):=by
 refine Zx 24 Tryz.func204 (Zh (ar (iL (Xm []) 0 5 fun v1=>?_)))
 refine Z0 (Ym (ab 0 (ZU (fun fz gz m F h=>∃(k:Nat) (v:Value),(k<=xs.length)/\F=sF [0,1] fz [(5,Kj ((xs.take k).map (XZ op)) v),(6,.i k)]/\h=[.tail v 5]/\m=xs.length-k) _ _ _ ⟨0,v1,ob,rfl,rfl,rfl⟩ (wk [0] (fc (x:=Kj [] v1) (Zm.slh _ (Ys Xm rfl)) (ZW fl))) ?_)))
 rintro m F h ⟨k,v,Y0,rfl,rfl,rfl⟩
 refine Yb 2 (iw (Yn xs) (ZO ((k:Int)<(xs.length:Int)) (fun Z5=>?_) (fun Z5=>?_)))
 ·refine ak (aq (ab 1 (az (Z1 4 ?_))))
  obtain ⟨x1,Z2⟩:=Zv xs k om
  exact Zi (Zr none (k:Int) 1 (Yf Z2)) (Z1 1 (ZC [] (Zco op x1) (iL [XS (XZ op x1)] 1 5 fun v2=>W2 0 [(21,.sl [XS (XZ op x1)] none)] (ip 1 (Xm ((xs.take (k+1)).map (XZ op))) (Xm ((xs.take k).map (XZ op))) [XS (XZ op x1)] v none 5 (KH _) (D8 rfl) rfl (by simp<;>omega) (by rw [WU Z2];simp [J8]) fun v3=>Z0 (az (Z1 1 (ZK k (Z0 (ZJ ⟨k+1,v3,ob,rfl,rfl,rfl⟩ (wk [0] (fr (ZL k fl))))))))))))
 exact ax 0 (ar (Z8 (r2 [0] [Kj ((xs.take k).map (XZ op)) v] ⟨v,rfl,rfl⟩ (Zm.slh _ (Ys Xm (by rw [W6 om]))))))
theorem Zcz (s:Z7) :Za 147 [XS s] [] (ZQ (.b ((s.op==14)||(s.op==15)))):=by
 refine Zx 11 Tryz.func147 (ar (iA (WT s) fun b1=>Z0 (ar (XC 8 [] [(10,.b ((s.op==14)||(s.op==15)))] (fun gz=>gz) ?_ (fun hj1=>?_)))))
 ·exact Z8 (Te)
 refine Y6 4 [0] (ib (b:=(s.op==14)) 6 (fun Zc=>?_) (fun Zc=>?_))
 ·have Yd:s.op=14:=(Zs).1 Zc
  exact Z1 4 (Ye (wk [0] (Zq true Zc fl)) hj1)
 have YX:¬(s.op=14):=Y3 Zs Zc
 exact Y6 4 [0] (Ye (wk [0] (Zq (s.op==15) Zc fl)) hj1)
theorem Zcn (ds:List Zg) (hd:Wk ds:=by exact ob):Za 87 [ZI ds] [] (ZQ (ZI ds)):=by
 have hdl:=hd.len
 refine Zx 55 Tryz.func87 (Zh (ar (iL (X4 []) 0 3 fun v1=>?_)))
 refine Z0 (Ym (ab 0 (ZU (fun fz gz m F h=>∃(k:Nat) (v:Value),(k<=ds.length)/\F=sF [0] fz [(3,In (ds.take k) v),(4,.i k)]/\h=[.tail v 3]/\m=ds.length-k) _ _ _ ⟨0,v1,ob,rfl,rfl,rfl⟩ (wk [0] (fc (x:=In [] v1) (Zm.slh _ (Ys X4 rfl)) (ZW fl))) ?_)))
 rintro m F h ⟨k,v,Y0,rfl,rfl,rfl⟩
 refine Yb 2 (iw (VB ds) (ZO ((k:Int)<(ds.length:Int)) (fun Z5=>?_) (fun Z5=>?_)))
 ·obtain ⟨xd,hxd⟩:=Zv ds k om
  have hcl:=hd.cons_at hxd
  refine ak (aq (ab 1 (ar (iL (Wd []) 0 1 fun v2=>?_))))
  refine Z0 (Ym (ab 2 (ZU (fun fz gz m F h=>∃(j:Nat) (u:Value),(j<=xd.cons.length)/\F=sF [0,3,4] fz [(5,Px (xd.cons.take j) u),(6,.i j)]/\h=[.tail u 1,Zy gz 1]/\m=xd.cons.length-j) _ _ _ ⟨0,v2,ob,rfl,rfl,rfl⟩ (wk [0,0] (fc (x:=Px [] v2) (Zm.slh _ (Ys Wd rfl)) (ZW fl))) ?_)))
  rintro m F h ⟨j,u,T6,rfl,rfl,rfl⟩
  refine Yb 3 (Zi (Zr none (k:Int) 3 (Vm hxd)) (Z1 2 (iw (Vl xd.cons) (ZO ((j:Int)<(xd.cons.length:Int)) (fun Zd=>?_) (fun Zd=>?_)))))
  ·refine ak (aq (ab 3 (az (Z1 3 (Zi (Zr none (k:Int) 3 (Vm hxd)) (Z1 3 ?_))))))
   obtain ⟨x1,Z2⟩:=Zv xd.cons j om
   have hfl:=hd.fields_at hxd Z2
   refine Zi (Zr none (j:Int) 1 (KF Z2)) (Z1 2 (ic [] (AF x1.fields) ?_))
   rintro _ _ ⟨v3,rfl,rfl⟩
   exact W2 1 [(36,J1 x1)] (iL (Wd [x1]) 1 1 fun v4=>W2 0 [(37,JQ [x1])] (ip 2 (Wd (xd.cons.take (j+1))) (Wd (xd.cons.take j)) (Wd [x1]) u none 1 (Em _) (Em _) (Z3v _) (by simp<;>omega) (by rw [WU Z2];simp [Wd]) fun v5=>Z0 (az (Z1 1 (ZK j (Z0 (ZJ ⟨j+1,v5,ob,rfl,rfl,rfl⟩ (wk [0,2] (fr (ZL j fl))))))))))
  exact ax 2 (aE 16 (Zo 13 16 [0,1,2] (dx 3 (Zr none (k:Int) 3 (Vm hxd)) (Zo 8 12 [4,5,6,7] (dx 8 (Zr none (k:Int) 3 (Vm hxd)) (UT 3 7 [9,10,11,12] [(51,.agg [.i xd.frm,.i xd.to_,JQ (xd.cons.take j)])] (ZF 13 (dL 13 [] [] (X4 [Zg.mk xd.frm xd.to_ (xd.cons.take j)]) 1 3 fun v6=>UT 2 2 [] [(52,ZI [Zg.mk xd.frm xd.to_ (xd.cons.take j)])] (ZF 14 (dp 14 2 [] [] (X4 (ds.take (k+1))) (X4 (ds.take k)) (X4 [Zg.mk xd.frm xd.to_ (xd.cons.take j)]) v none 3 (BK _) (BK _) (Z3x _) (by simp<;>omega) (by rw [WU hxd];simp [X4,W6 (show xd.cons.length<=j by omega)]) fun v7=>Zo 0 1 [15] (de (az (Z1 1 (ZK k (Z0 (ZJ ⟨k+1,v7,ob,rfl,rfl,rfl⟩ (wk [0] (fr (ZL k fl)))))))))))))))))))
 exact ax 0 (ar (Z8 (Zp (In (ds.take k) v) (Zm.sl _ (Ys X4 (by rw [W6 om]))))))
theorem Zde (rt:Yy) (b:Zf) (hp:rt.params.length<=4294967296:=by exact ob) (hl:rt.lent.length<=4294967296:=by exact ob):Za 88 [QZ rt,YG b] [] (ZQ (QZ (Yy.mk rt.params rt.lent rt.result b))):=by
 refine Zx 15 Tryz.func88 (ar (iA (TM rt) fun b1=>iA (VE b) fun b2=>iA [nl,nl,.i 0,nl,.i 0] fun b3=>ie (aD 11 (Ya 4 11 [0,1,3,4,6,7,8] [2,2,2,1] (ZF 2 (dc 2 [] [1,2,2] [b2,b1,b1] (AF rt.params) ?_))))))
 rintro _ _ ⟨v1,rfl,rfl⟩
 refine ZF 5 (dc 5 [] [1,2] [b2,b1] (AF rt.lent) ?_)
 rintro _ _ ⟨v2,rfl,rfl⟩
 exact Zo 1 2 [9] (ZF 10 (UC 10 2 [] [] b3 [ZY rt.params v1,ZY rt.lent v2,.i rt.result,VW b.steps,.i b.result] (de (ZG (r3 [] [.agg [ZY rt.params v1,ZY rt.lent v2,.i rt.result,VW b.steps,.i b.result]] [0] [(b3,b3)] ⟨rfl,rfl⟩ (Zm.agg (.cons (Zm.sl _ (Ys Zk ob)) (.cons (Zm.sl _ (Ys Zk ob)) (.cons li (.cons (Zm.sl _ (Ys Xm ob)) (.cons li .nil)))))))))))
theorem Z50 (xs:LI) (y:Int) (hl:xs.length<=1000000000:=by exact ob):Za 240 [Ze xs,.i y] [] (fun r h=>∃(v:Value),r=ZY (VU xs y) v/\h=[.tail v 1]):=by
 refine Zx 49 Tryz.func240 (Zh (ar (iL (Zk []) 0 1 fun v1=>?_)))
 refine Z0 (Zh (Ym (ab 0 (ZU (fun fz gz m F h=>∃(k:Nat) (acc:LI) (d:Bool) (v:Value),(k<=xs.length)/\(acc.length<=k+(if d=true then 1 else 0))/\(acc++TK d (xs.drop k) y=VU xs y)/\F=sF [0,1] fz [(5,ZY acc v),(6,.b d),(7,.i k)]/\h=[.tail v 1]/\m=xs.length-k) _ _ _ ⟨0,[],false,v1,ob,(by simp),rfl,rfl,rfl,rfl⟩ (wk [0] (fw (ZW fl))) ?_))))
 rintro m F h ⟨k,acc,d,v,Y0,Z9,Zz,rfl,rfl,rfl⟩
 refine Yb 2 (iw (Yn xs) (ZO ((k:Int)<(xs.length:Int)) (fun Z5=>?_) (fun Z5=>?_)))
 ·obtain ⟨x1,Z2⟩:=Zv xs k om
  have hil:acc.length<=k+1:=QW Z9 (by split<;>omega)
  refine ak (aq (ab 1 (Yt (Wa [0,1,5,6,7] [(24,.b ((!d)&&(decide (x1>=y))))] (fun gz=>gz) ?_ ?_))))
  ·refine Z1 3 (ib (b:=(!d)) 17 (fun Zc=>?_) (fun Zc=>?_))
   ·have Yd:¬(d=true):=((Yl Iff.rfl)).1 Zc
    exact Z1 2 (Zi (Zr none (k:Int) 1 (Yf Z2)) (Z0 (wk [0] (Zq (decide (x1>=y)) Zc fl))))
   have YX:¬(¬(d=true)):=Y3 (Yl Iff.rfl) Zc
   exact Z0 (wk [0] (Zq false Zc fl))
  refine TE (fun fz gz F h=>∃(acc2:LI) (d2:Bool) (w:Value),((acc2=acc/\d2=d/\(d=true∨¬x1>=y))∨(acc2=acc++[y]/\d2=true/\¬d=true/\x1>y)∨(acc2=acc/\d2=true/\¬d=true/\x1=y))/\(acc2.length<=k+(if d2=true then 1 else 0))/\(acc2.length<=k+1)/\F=sF [0,1,7] fz [(5,ZY acc2 w),(6,.b d2)]/\h=[.tail w 1]) ?_ ?_
  ·refine ac ((!d)&&(decide (x1>=y))) (p:=(¬(d=true))/\(x1>=y)) (YD (Yl Iff.rfl) dq) (fun Zd=>?_) (fun Zd=>?_)
   ·refine Yb 2 (Zi (Zr none (k:Int) 1 (Yf Z2)) (Z0 (TE (fun fz gz F h=>∃(w3:Value),F=sF [0,1,7] fz [(5,ZY (if x1>y then (acc++[y]) else acc) w3)]/\h=[.tail w3 1]) ?_ ?_)))
    ·refine Xi (x1>y) (fun Zw=>?_) (fun Zw=>?_)
     ·exact az (Z1 2 (iL (Zk [y]) 1 1 fun v2=>W2 0 [(33,Ze [y])] (ip 1 (Zk (acc++[y])) (Zk acc) (Zk [y]) v none 1 (Wv _) (Wv _) (Q3 _) (by simp<;>omega) (by simp [Q2,Zk]) fun v3=>Z0 (Xo ⟨v3,rfl,rfl⟩ (wk [0] (fc (x:=ZY (acc++[y]) v3) (Zm.slh _ (Ys Zk (by first|rfl|(rw [Z6 Zw])|(rw [Z4 Zw])|(simp [Zw];done)|(rw [Wp];simp [Zw];done)|omega))) fl))))))
     exact ak (Xo ⟨v,rfl,rfl⟩ (wk [0] (fc (x:=ZY acc v) (Zm.slh _ (Ys Zk (by first|rfl|(rw [Z6 Zw])|(rw [Z4 Zw])|(simp [Zw];done)|(rw [Wp];simp [Zw];done)|omega))) fl)))
    rintro F h ⟨w3,rfl,rfl⟩
    exact Qo (Xo ⟨(if x1>y then (acc++[y]) else acc),true,w3,(if h:x1>y then (by rw [Z6 h];exact .inr (.inl ⟨rfl,rfl,Zd.1,h⟩)) else (by rw [Z4 h];exact .inr (.inr ⟨rfl,rfl,Zd.1,by have:=Zd.2;omega⟩))),(by have h1:=Z9;rw [Z4 Zd.1] at h1;split<;>(simp<;>omega)),(by have h1:=Z9;rw [Z4 Zd.1] at h1;split<;>(simp<;>omega)),rfl,rfl⟩ (wk [0] fl))
   exact ak (Xo ⟨acc,d,v,(.inl ⟨rfl,rfl,by by_cases q:d=true;exact .inl q;exact .inr (fun z=>Zd ⟨q,z⟩)⟩),Z9,hil,rfl,rfl⟩ (wk [0] fl))
  rintro F h ⟨acc2,d2,w,Z7s,Zgf,Zgg,rfl,rfl⟩
  exact az (Z1 3 (Zi (Zr none (k:Int) 1 (Yf Z2)) (Z1 1 (iL (Zk [x1]) 1 1 fun v4=>W2 0 [(40,Ze [x1])] (ip 1 (Zk (acc2++[x1])) (Zk acc2) (Zk [x1]) w none 1 (Wv _) (Wv _) (Q3 _) (by simp<;>omega) (by simp [Q2,Zk]) fun v5=>Z0 (az (Z1 1 (ZK k (Z0 (ZJ ⟨k+1,(acc2++[x1]),d2,v5,ob,(by simp only [YE,XI,Vy];omega),(Z7g Z2 Zz Z7s),rfl,rfl,rfl⟩ (wk [0] (fw (ZL k fl)))))))))))))
 have hil:acc.length<=k+1:=QW Z9 (by split<;>omega)
 refine ax 0 (Ym (TE (fun fz gz F h=>∃(w4:Value),F=sF [] fz [(5,ZY (if d=true then acc else (acc++[y])) w4)]/\h=[.tail w4 1]) ?_ ?_))
 ·refine ac (!d) (p:=¬(d=true)) (Yl Iff.rfl) (fun Yg=>?_) (fun Yg=>?_)
  ·exact az (Z1 2 (iL (Zk [y]) 1 1 fun v6=>W2 0 [(46,Ze [y])] (ip 1 (Zk (acc++[y])) (Zk acc) (Zk [y]) v none 1 (Wv _) (Wv _) (Q3 _) (by simp<;>omega) (by simp [Q2,Zk]) fun v7=>Z0 (Xo ⟨v7,rfl,rfl⟩ (wk [0] (fc (x:=ZY (acc++[y]) v7) (Zm.slh _ (Ys Zk (by first|rfl|(rw [Z6 Yg])|(rw [Z4 Yg])|(simp [Yg];done)|(rw [Wp];simp [Yg];done)|omega))) fl))))))
  exact ak (Xo ⟨v,rfl,rfl⟩ (wk [0] (fc (x:=ZY acc v) (Zm.slh _ (Ys Zk (by first|rfl|(rw [Z6 Yg])|(rw [Z4 Yg])|(simp [Yg];done)|(rw [Wp];simp [Yg];done)|omega))) fl)))
 rintro F h ⟨w4,rfl,rfl⟩
 exact ar (Z8 (r2 [0] [ZY (if d=true then acc else (acc++[y])) w4] ⟨w4,rfl,rfl⟩ (Zm.slh _ (Ys Zk (Z7f om Zz)))))
theorem Z4b (rn:List Z7) (hrn:∀s∈rn,∃a,s.args=[a]) (hl:rn.length<=10000000:=by exact ob):Za 202 [VW rn] [] (ZQ (Ze (YU (evs rn)))):=by
 refine Zx 22 Tryz.func202 (Zh (ar (iL (Zk []) 0 1 fun v1=>?_)))
 refine Z0 (Ym (ab 0 (ZU (fun fz gz m F h=>∃(k:Nat),(k<=rn.length)/\F=sF [0] fz [(3,Ze (YU (evs (rn.take k)))),(4,.i k)]/\h=[]/\m=rn.length-k) _ _ _ ⟨0,ob,rfl,rfl,rfl⟩ (wk [] (fc (x:=ZY [] v1) (Zm.sl _ (Ys Zk rfl)) (ZW fl))) ?_)))
 rintro m F h ⟨k,Y0,rfl,rfl,rfl⟩
 refine Yb 2 (iw (T8 rn) (ZO ((k:Int)<(rn.length:Int)) (fun Z5=>?_) (fun Z5=>?_)))
 ·refine ak (aq (ab 1 (az (Z1 3 ?_))))
  obtain ⟨x1,Z2⟩:=Zv rn k om
  have hxm:=YF Z2
  obtain ⟨xa,hxa⟩:=hrn _ hxm
  have hml:=Ig (evs (rn.take k))
  rw [CT,Kv] at hml
  refine Zi (Zr none (k:Int) 5 (U7 Z2)) (Z1 2 ?_)
  obtain ⟨x2,Zt⟩:=Zv x1.args 0 (by rw [hxa];simp)
  have hg0:=Ja Zt
  refine Zi (Zr none 0 1 (Yf Zt)) (Z1 1 (ic [] (Z50 (YU (evs (rn.take k))) x2) ?_))
  rintro _ _ ⟨v2,rfl,rfl⟩
  exact Z0 (az (Z1 1 (ZK k (Z0 (ZJ ⟨k+1,ob,rfl,rfl,rfl⟩ (wk [] (fc (x:=ZY (VU (YU (evs (rn.take k))) x2) v2) (Zm.sl _ (Ys Zk (by rw [NL Z2,Z9g,ev,hg0]))) (ZL k fl))))))))
 exact ax 0 (ar (Z8 (Zp (Ze (YU (evs (rn.take k)))) (Zm.sl _ (Ys Zk (by rw [W6 om]))))))
theorem Z4a (rn:List Z7) (v:Int) (hrn:∀s∈rn,∃a,s.args=[a]) (hl:rn.length<=10000000:=by exact ob):Za 203 [VW rn,.i v] [] (ZQ (.i (Xa (evs rn) v))):=by
 refine Zx 44 Tryz.func203 (Zh (Zh (Ym (ab 0 (ZU (fun fz gz m F h=>∃(k:Nat),(k<=rn.length)/\F=sF [0,1] fz [(5,.i (Xa (evs (rn.take k)) v)),(6,.i k)]/\h=gz/\m=rn.length-k) _ _ _ ⟨0,ob,rfl,rfl,rfl⟩ (wk [] (fc (x:=.i 0) (li rfl) (ZW fl))) ?_)))))
 rintro m F h ⟨k,Y0,rfl,rfl,rfl⟩
 refine Yb 2 (iw (T8 rn) (ZO ((k:Int)<(rn.length:Int)) (fun Z5=>?_) (fun Z5=>?_)))
 ·refine ak (aq (ab 1 (ZM 2 ?_)))
  obtain ⟨x1,Z2⟩:=Zv rn k om
  have hxm:=YF Z2
  obtain ⟨xa,hxa⟩:=hrn _ hxm
  have hnb:=C5 v (Un.evs (rn.take k))
  rw [CT,Kv] at hnb
  refine Zi (Zr none (k:Int) 5 (U7 Z2)) (Z1 2 ?_)
  obtain ⟨x2,Zt⟩:=Zv x1.args 0 (by rw [hxa];simp)
  have hg0:=Ja Zt
  have hnt:=Z9i (v:=v) Z2
  rw [hg0] at hnt
  refine Zi (Zr none 0 1 (Yf Zt)) (Wa [0,1,5,6] [(29,.b ((x2==v)&&(x1.op==14)))] (fun gz=>gz) ?_ ?_)
  ·refine Z1 4 (ib (b:=(x2==v)) 22 (fun Zc=>?_) (fun Zc=>?_))
   ·have Yd:x2=v:=(Zs).1 Zc
    exact Z1 2 (Zi (Zr none (k:Int) 5 (U7 Z2)) (Z0 (wk [] (Zq (x1.op==14) Zc fl))))
   have YX:¬(x2=v):=Y3 Zs Zc
   exact Z0 (wk [] (Zq false Zc fl))
  refine ac ((x2==v)&&(x1.op==14)) (p:=(x2=v)/\(x1.op=14)) (YD Zs Zs) (fun Zd=>?_) (fun Zd=>?_)
  ·exact az (Z1 1 (ia (((Xa (evs (rn.take k)) v)+1)) (((Xa (evs (rn.take k)) v))+(1)) (Z0 (az (Z1 1 (ZK k (Z0 (ZJ ⟨k+1,ob,rfl,rfl,rfl⟩ (wk [] (fc (x:=.i ((Xa (evs (rn.take k)) v)+1)) (li (by first|(rw [hnt,Z6 om,Z6 om]<;>omega)|(rw [hnt,Z6 om,Z4 om]<;>omega)|(rw [hnt,Z4 om]<;>omega))) (ZL k fl)))))))))))
  refine ZM 2 (Zi (Zr none (k:Int) 5 (U7 Z2)) (Z1 2 (Zi (Zr none 0 1 (Yf Zt)) (Yw (x2==v) Zs (fun Zw=>?_) (fun Zw=>?_)))))
  ·exact az (Z1 1 (ia (((Xa (evs (rn.take k)) v)-1)) (((Xa (evs (rn.take k)) v))-(1)) (Z0 (az (Z1 1 (ZK k (Z0 (ZJ ⟨k+1,ob,rfl,rfl,rfl⟩ (wk [] (fc (x:=.i ((Xa (evs (rn.take k)) v)-1)) (li (by first|(rw [hnt,Z6 om,Z6 om]<;>omega)|(rw [hnt,Z6 om,Z4 om]<;>omega)|(rw [hnt,Z4 om]<;>omega))) (ZL k fl)))))))))))
  exact ak (az (Z1 1 (ZK k (Z0 (ZJ ⟨k+1,ob,rfl,rfl,rfl⟩ (wk [] (fc (x:=.i (Xa (evs (rn.take k)) v)) (li (by first|(rw [hnt,Z6 om,Z6 om]<;>omega)|(rw [hnt,Z6 om,Z4 om]<;>omega)|(rw [hnt,Z4 om]<;>omega))) (ZL k fl))))))))
 exact ax 0 (ar (Z8 (Zp (.i (Xa (evs (rn.take k)) v)) (li (by rw [W6 om])))))
theorem NB (rn:List Z7) (hrn:∀s∈rn,∃a,s.args=[a]) (hl:rn.length<=10000000:=by exact ob):Za 148 [VW rn] [] (fun r h=>∃(v:Value),r=Kj (Vj (evs rn)) v/\h=[.tail v 5]):=by
 have hun:=Un.evs rn
 have hel:=CT rn
 have hda:=CI hun
 have hml:=Ig (evs rn)
 refine Zx 51 Tryz.func148 (Zh (ar (iL (Zk []) 0 1 fun v1=>Z0 (ar (iL (Zk []) 0 1 fun v2=>?_)))))
 refine Z0 (ZM 1 (ZC [] (Z4b rn (hrn:=ob)) (Z0 (Ym (ab 0 (ZU (fun fz gz m F h=>∃(k:Nat) (D:LI) (u:Value) (R:LI) (w:Value),(k<=(YU (evs rn)).length)/\(D=UI (evs rn) ((YU (evs rn)).take k))/\(R=Ts (evs rn) ((YU (evs rn)).take k))/\F=sF [0,5] fz [(3,ZY D u),(4,ZY R w),(6,.i k)]/\h=[.tail u 1,.tail w 1]/\m=(YU (evs rn)).length-k) _ _ _ ⟨0,[],v1,[],v2,ob,rfl,rfl,rfl,rfl,rfl⟩ (wk [1,0] (fw (ZW fl))) ?_))))))
 rintro m F h ⟨k,D,u,R,w,Y0,Z9,Zz,rfl,rfl,rfl⟩
 refine Yb 2 (io (.i (((YU (evs rn)).length:Nat):Int)) (.i (((Zk (YU (evs rn))).length:Nat):Int)) (li (by rw [Yn])) (ZO ((k:Int)<(((YU (evs rn)).length:Nat):Int)) (fun Z5=>?_) (fun Z5=>?_)))
 ·have hdt:=Af hun k
  have Wy:=Af hun (k+1)
  refine ak (aq (ab 1 (ZM 3 ?_)))
  obtain ⟨x1,Z2⟩:=Zv (YU (evs rn)) k om
  have hds:=Ni (L:=evs rn) Z2
  have hrs:=Nh (L:=evs rn) Z2
  have hdl:=Ys List.length hds
  have hrl:=Ys List.length hrs
  simp only [YE,List.length_replicate] at hdl hrl
  have hnb:=C5 x1 hun
  have hDl:=Ys List.length Z9
  have hRl:=Ys List.length Zz
  refine Zi (Zr none (k:Int) 1 (Yf Z2)) (Z1 1 (ZC [] (Z4a rn x1 (hrn:=ob)) (Z0 (aq (ab 2 (ZU (fun fz gz m F h=>∃(z:Int) (D2:LI) (u2:Value) (w2:Value),(z<=Xa (evs rn) x1)/\(D2++List.replicate z.toNat x1=D++List.replicate (Xa (evs rn) x1).toNat x1)/\(0<=z∨z=Xa (evs rn) x1)/\F=sF [0,5,6] fz [(3,ZY D2 u2),(4,ZY R w2),(7,.i z)]/\h=[.tail u2 1,.tail w2 1]/\m=z.toNat) _ _ _ ⟨(Xa (evs rn) x1),D,u,w,(Int.le_refl _),rfl,(.inr rfl),rfl,rfl,rfl⟩ (wk [0,0] fl) ?_))))))
  rintro m F h ⟨z,D2,u2,w2,T6,Xk,Uc,rfl,rfl,rfl⟩
  refine Yt (ZO (z>0) (fun Zd=>?_) (fun Zd=>?_))
  ·have hl1:=Ys List.length Xk
   simp only [YE,List.length_replicate] at hl1
   exact ak (aq (ab 3 (az (Z1 3 (Zi (Zr none (k:Int) 1 (Yf Z2)) (Z1 1 (iL (Zk [x1]) 1 1 fun v3=>W2 0 [(33,Ze [x1])] (ip 1 (Zk (D2++[x1])) (Zk D2) (Zk [x1]) u2 none 1 (Wv _) (Wv _) (Q3 _) (by simp<;>omega) (by simp [Q2,Zk]) fun v4=>Z0 (az (Z1 1 (ia ((z-1)) ((z)-(1)) (Z0 (ZJ ⟨(z-1),(D2++[x1]),v4,w2,om,(by rw [<-Xk,Zav (z:=z) om];simp),(.inl om),rfl,rfl,rfl⟩ (wk [0,1] fl))))))))))))))
  have hD2:D2=D++List.replicate (Xa (evs rn) x1).toNat x1:=by rw [<-Xk,show z.toNat=0 by omega];simp
  refine ax 2 (ab 4 (ZU (fun fz gz m F h=>∃(y:Int) (R2:LI) (u3:Value) (w3:Value),(y<=0∨y=z)/\(R2++List.replicate (-y).toNat x1=R++List.replicate (-z).toNat x1)/\F=sF [0,5,6] fz [(3,ZY D2 u3),(4,ZY R2 w3),(7,.i y)]/\h=[.tail u3 1,.tail w3 1]/\m=(-y).toNat) _ _ _ ⟨z,R,u2,w2,(.inr rfl),rfl,rfl,rfl,rfl⟩ (wk [0,0] fl) ?_))
  rintro m F h ⟨y,R2,u3,w3,MH,KC,rfl,rfl,rfl⟩
  refine Yt (ZO (y<0) (fun Zw=>?_) (fun Zw=>?_))
  ·have hl2:=Ys List.length KC
   simp only [YE,List.length_replicate] at hl2
   exact ak (aq (ab 5 (az (Z1 3 (Zi (Zr none (k:Int) 1 (Yf Z2)) (Z1 1 (iL (Zk [x1]) 1 1 fun v5=>W2 0 [(44,Ze [x1])] (ip 2 (Zk (R2++[x1])) (Zk R2) (Zk [x1]) w3 none 1 (Wv _) (Wv _) (Q3 _) (by simp<;>omega) (by simp [Q2,Zk]) fun v6=>Z0 (az (Z1 1 (ia ((y+1)) ((y)+(1)) (Z0 (ZJ ⟨(y+1),(R2++[x1]),u3,v6,(.inl om),(by rw [<-KC,Zau (y:=y) om];simp),rfl,rfl,rfl⟩ (wk [2,0] fl))))))))))))))
  have hR2:R2=R++List.replicate (-(Xa (evs rn) x1)).toNat x1:=by rw [show (-(Xa (evs rn) x1)).toNat=(-z).toNat by omega,<-KC,show (-y).toNat=0 by omega];simp
  exact ax 4 (az (Z1 1 (ZK k (Z0 (ZJ ⟨k+1,D2,u3,R2,w3,ob,(by rw [hD2,Z9,hds]),(by rw [hR2,Zz,hrs]),rfl,rfl,rfl⟩ (wk [0,0] (fw (ZL k fl))))))))
 have hdt:=Af hun k
 have hDl:=Ys List.length Z9
 have hRl:=Ys List.length Zz
 refine ax 0 (ar (W2 1 [(46,Ze D)] (ic [] (RS 14 D) ?_)))
 rintro _ _ ⟨v7,rfl,rfl⟩
 refine W2 1 [(48,Ze R)] (ic [] (RS 15 R) ?_)
 rintro _ _ ⟨v8,rfl,rfl⟩
 exact W2 0 [(49,VW (R.map (XZ 15)))] (ip 1 (Xm ((D.map (XZ 14))++(R.map (XZ 15)))) (Xm (D.map (XZ 14))) (Xm (R.map (XZ 15))) v7 none 5 (KH _) (KH _) (CO _) (by simp<;>omega) (by simp [CN,Xm]) fun v9=>Z8 (r2 [0] [Kj ((D.map (XZ 14))++(R.map (XZ 15))) v9] ⟨v9,rfl,rfl⟩ (Zm.slh _ (Ys Xm (by rw [Z9,Zz,W6 om];rfl)))))
theorem Z49 (ds:List Zg) (b:Zf) (hw:wB ds b) (hz:b.sz<=10000000) (ih:∀(b2:Zf),(wB ds b2)->(b2.sz<=10000000)->(b2.sz<b.sz)->Za 89 [YG b2] [] (ZQ (YG (W9 b2)))):Za 89 [YG b] [] (ZQ (YG (W9 b))):=by
 have hbe:=b.sz_eq
 have D1:=JW b
 have hws:=(Lz b).1 hw
 refine Zx 72 Tryz.func89 (ar (iA (VE b) fun b1=>iA [nl,.i 0] fun b2=>ie (ar (iL (Xm []) 0 5 fun v1=>Z0 (ar (iL (Xm []) 0 5 fun v2=>?_))))))
 refine Z0 (Ym (ab 0 (ZU (fun fz gz m F h=>∃(k:Nat) (xs:List Z7) (v:Value) (rn:List Z7) (u:Value),(k<=b.steps.length)/\(xs++WY (b.steps.drop k) (evs rn)=WY b.steps [])/\(rn.length<=k)/\(∀s∈rn,∃a,s.args=[a])/\F=sF [1,2] fz [(3,Kj xs v),(4,Kj rn u),(5,.i k)]/\h=[Zy gz 2,Zy gz 3,.tail u 5,.tail v 5]/\m=b.steps.length-k) _ _ _ ⟨0,[],v1,[],v2,ob,rfl,ob,(fun s hs=>by cases hs),rfl,rfl,rfl⟩ (wk [2,2,0,0] (fw (ZW fl))) ?_)))
 rintro m F h ⟨k,xs,v,rn,u,Y0,Z9,Zz,Y8,rfl,rfl,rfl⟩
 refine Yp 3 [1] (iw (T8 b.steps) (ZO ((k:Int)<(b.steps.length:Int)) (fun Z5=>?_) (fun Z5=>?_)))
 ·have hxl:=E8 hws Z9
  refine ak (aq (ab 1 (ZB 3 [1] ?_)))
  obtain ⟨x1,Z2⟩:=Zv b.steps k om
  have YH:=Dw Z2
  have hwS:=SG hw Z2
  have hse:=(x1).sz_eq
  have hkl2:=Qq x1
  have hsl:=Fv (Un.evs rn)
  rw [CT] at hsl
  refine Zi (Zr none (k:Int) 5 (U7 Z2)) (Z1 1 (iA [.i 0,.i 0,.i 0,nl,nl] fun b3=>Y4 0 b3 (WT x1) (ie (ZB 1 [0] (ZC [] (Zcz x1) (ie (ac ((x1.op==14)||(x1.op==15)) (p:=(x1.op=14)∨(x1.op=15)) (Yj Zs Zs) (fun Zd=>?_) (fun Zd=>?_))))))))
  ·refine az (Y6 2 [0] (O7 [XS x1] (Xm [x1]) (J8 [x1]).symm 1 5 fun v3=>W2 0 [(27,VW [x1])] (ip 4 (Xm (rn++[x1])) (Xm rn) (Xm [x1]) u none 5 (KH _) (KH _) (CO _) (by simp<;>omega) (by simp [CN,Xm]) fun v4=>Z0 (az (Z1 1 (ZK k (Z0 ?_)))))))
   obtain ⟨_,_,hpa⟩:=Bl hwS (by simp [YT];omega)
   exact ZJ ⟨k+1,xs,v,(rn++[x1]),v4,ob,(by rw [NK];exact GK Z2 (by assumption) Z9),(by rw [YE];simp only [XI,Vy];omega),(Z0p Y8 hpa),rfl,rfl,rfl⟩ (wk [3,3,0,2] (fw (ZL k fl)))
  refine ar (W2 2 [(30,VW rn)] (ic [] (NB rn (hrn:=Y8)) ?_))
  rintro _ _ ⟨v5,rfl,rfl⟩
  refine W2 0 [(31,VW (Vj (evs rn)))] (ip 5 (Xm (xs++(Vj (evs rn)))) (Xm xs) (Xm (Vj (evs rn))) v none 5 (KH _) (KH _) (CO _) (by simp<;>omega) (by simp [CN,Xm]) fun v6=>Z0 (ar (iL (Xm []) 0 5 fun v7=>Z0 (ar (iL (VL []) 0 2 fun v8=>?_)))))
  refine Z0 (Ym (ab 2 (ZU (fun fz gz m F h=>∃(j:Nat) (ks:List Zf) (w:Value) (v3:Value) (u4:Value),(j<=x1.kids.length)/\(ks=(x1.kids.take j).map W9)/\F=sF [1,2,5,6] fz [(3,Kj (xs++(Vj (evs rn))) v3),(4,Kj [] u4),(7,Im ks w),(8,.i j)]/\h=[Zy gz 4,Zy gz 5,Zy gz 6,.tail u4 5,.tail v3 5,.tail w 2]/\m=x1.kids.length-j) _ _ _ ⟨0,[],v8,v6,v7,ob,rfl,rfl,rfl,rfl⟩ (wk [4,4,4,1,1,0] (fw (fr (ZW fl)))) ?_)))
  rintro m F h ⟨j,ks,w,v3,u4,T6,Xk,rfl,rfl,rfl⟩
  refine Yp 3 [0] (iw (Uf x1.kids) (ZO ((j:Int)<(x1.kids.length:Int)) (fun Zw=>?_) (fun Zw=>?_)))
  ·refine ak (aq (ab 3 (az (Y6 4 [0] ?_))))
   obtain ⟨x2,Zt⟩:=Zv x1.kids j om
   have hkz:=Kg Zt
   have hwk:=SM hwS Zt
   have hkl:=Ys List.length Xk
   rw [Um,Kv] at hkl
   exact Zi (Zr none (j:Int) 2 (TF Zt)) (Z1 1 (ZC [] (ih x2 hwk ob ob) (O7 [YG (W9 x2)] (VL [W9 x2]) (Ag [W9 x2]).symm 1 2 fun v9=>W2 0 [(49,KQ [W9 x2])] (ip 6 (VL (ks++[W9 x2])) (VL ks) (VL [W9 x2]) w none 2 (Nl _) (Nl _) (Z3t _) (by simp<;>omega) (by simp [Z3s,VL]) fun v10=>Z0 (az (Z1 1 (ZK j (Z0 (ZJ ⟨j+1,(ks++[W9 x2]),v10,v3,u4,ob,(by rw [Xk,WU Zt,List.map_append];rfl),rfl,rfl,rfl⟩ (wk [2,2,2,2,2,0] (fw (fr (ZL j fl)))))))))))))
  refine ax 2 (aE 15 (Ya 5 15 [0,1,2,3,4,5,6,7,8,10] [0,0,0,0] (ZF 9 (dc 9 [] [0,0,0] [b3,b3,b3] (AF x1.args) ?_))))
  rintro _ _ ⟨v11,rfl,rfl⟩
  exact UT 3 4 [11] [(62,.agg [.i x1.op,.i x1.num,.i x1.into,Ze x1.args,KQ ks])] (ZF 12 (dLE 12 [] [] [XS (Z7.mk x1.op x1.num x1.into x1.args ks)] (Xm [Z7.mk x1.op x1.num x1.into x1.args ks]) (J8 [Z7.mk x1.op x1.num x1.into x1.args ks]).symm 1 5 fun v12=>UT 2 2 [] [(63,VW [Z7.mk x1.op x1.num x1.into x1.args ks])] (ZF 13 (dp 13 6 [] [] (Xm ((xs++(Vj (evs rn)))++[Z7.mk x1.op x1.num x1.into x1.args ks])) (Xm (xs++(Vj (evs rn)))) (Xm [Z7.mk x1.op x1.num x1.into x1.args ks]) v3 none 5 (KH _) (KH _) (CO _) (by simp<;>omega) (by simp [CN,Xm]) fun v13=>Zo 0 1 [14] (de (az (Z1 1 (ZK k (Z0 (ZJ ⟨k+1,((xs++(Vj (evs rn)))++[Z7.mk x1.op x1.num x1.into x1.args ks]),v13,[],u4,ob,(by have h:=MK Z2 (by assumption) Z9;rw [GJ,E6] at h;rw [Xk,W6 om];exact h),(TT _),(fun s hs=>by cases hs),rfl,rfl,rfl⟩ (wk [4,4,4,0] (fw (ZL k fl)))))))))))))
 have hxl:=E8 hws Z9
 have hsl:=Fv (Un.evs rn)
 rw [CT] at hsl
 refine ax 0 (aD 8 (GY 4 8 [0,1,4,5] [(66,VW rn)] [1] (ZF 2 (dc 2 [] [1] [b1] (NB rn (hrn:=Y8)) ?_))))
 rintro _ _ ⟨v14,rfl,rfl⟩
 exact UT 3 3 [] [(67,VW (Vj (evs rn)))] (ZF 3 (dp 3 4 [1] [b1] (Xm (xs++(Vj (evs rn)))) (Xm xs) (Xm (Vj (evs rn))) v none 5 (KH _) (KH _) (CO _) (by simp<;>omega) (by simp [CN,Xm]) fun v15=>Zo 1 2 [6] (ZF 7 (UC 7 2 [] [] b2 [Kj (xs++(Vj (evs rn))) v15,.i b.result] (de (ZG (r3 [] [.agg [Kj (xs++(Vj (evs rn))) v15,.i b.result]] [0] [(b2,b2)] ⟨rfl,rfl⟩ (Zm.agg (.cons (Zm.sl _ (Ys Xm (by rw [GH];exact MJ om Z9))) (.cons (li (by rw [GH];rfl)) .nil))))))))))
theorem Z48 (ds:List Zg) (b:Zf) (hw:wB ds b:=by exact ob) (hz:b.sz<=10000000:=by exact ob):Za 89 [YG b] [] (ZQ (YG (W9 b))):=by
 have key:∀k:Nat,∀(b2:Zf),(wB ds b2)->(b2.sz<=10000000)->(b2.sz<k)->Za 89 [YG b2] [] (ZQ (YG (W9 b2))):=by
  intro k
  induction k with
  | zero=>intro b2 h1 h2 h9;omega
  | succ k ih=>intro b2 h1 h2 h9;exact Z49 ds b2 h1 h2 fun b3 q1 q2 q9=>ih b3 q1 q2 om
 exact key (b.sz+1) b hw hz om
theorem NA (n:Zj) (hn:YZ n:=by exact ob) (hz:WM n:=by exact ob) (hbt:∀r∈n.routines,0<=Yv n r.params r.body):Za 43 [X6 n] [] (ZQ (X6 (Wr n))):=by
 have hzl:=hn.len
 refine Zx 36 Tryz.func43 (ar (iA (Wb n) fun b1=>iA [nl,nl] fun b2=>ie (ZB 2 [1] (ZC [] (Zcn n.decls (hd:=hn.decls)) (iL (UV []) 0 5 fun v1=>Z1 1 (iA [nl,nl] fun b3=>?_))))))
 refine Y4 0 b3 [ZI n.decls,Df [] v1] (ie (Ym (ab 0 (ZU (fun fz gz m F h=>∃(k:Nat) (v:Value),(k<=n.routines.length)/\F=sF [1,2,3] fz [(4,.i k)]/\h=[.obj b3 [ZI n.decls,Df ((n.routines.take k).map U4) v],Zy gz 2,Zy gz 3,.tail v 5]/\m=n.routines.length-k) _ _ _ ⟨0,v1,ob,rfl,rfl,rfl⟩ (wk [0,1,1,0] (ZW fl)) ?_))))
 rintro m F h ⟨k,v,Y0,rfl,rfl,rfl⟩
 refine Yp 3 [2] (iw (UJ n.routines) (ZO ((k:Int)<(n.routines.length:Int)) (fun Z5=>?_) (fun Z5=>?_)))
 ·refine ak (aq (ab 1 (aE 19 (Ya 14 19 [0,1,2,3,4] [0,2] ?_))))
  obtain ⟨x1,Z2⟩:=Zv n.routines k om
  have hrm:=YF Z2
  have hbz:=hz.body _ hrm
  have hpl:=hn.params_at Z2
  have hll:=hn.lent_at Z2
  have hwb:=DH hn hz hbt _ hrm
  exact dx 5 (Zr none (k:Int) 5 (Us Z2)) (Ya 9 13 [6,7,8,9] [2] (dx 10 (Zr none (k:Int) 5 (Us Z2)) (Zo 6 8 [11,12] (ZF 13 (W4 13 [] [2,0] [b1,b3] (Z48 _ x1.body (hw:=hwb)) (ZF 14 (W4 14 [] [0] [b3] (Zde x1 (W9 x1.body)) (ZF 15 (dL 15 [0] [b3] (UV [Yy.mk x1.params x1.lent x1.result (W9 x1.body)]) 1 5 fun v2=>UT 3 3 [] [(32,C3 [Yy.mk x1.params x1.lent x1.result (W9 x1.body)])] (ZF 16 (dp 16 4 [] [] (UV ((n.routines.take (k+1)).map U4)) (UV ((n.routines.take k).map U4)) (UV [Yy.mk x1.params x1.lent x1.result (W9 x1.body)]) v none 5 (Nu _) (Nu _) (Z45 _) (by simp<;>omega) (by rw [WU Z2];simp [UV,U4]) fun v3=>Zo 1 2 [17] (ZF 18 (UC 18 2 [] [] b3 [ZI n.decls,Df ((n.routines.take (k+1)).map U4) v3] (de (az (Z1 1 (ZK k (Z0 (ZJ ⟨k+1,v3,ob,rfl,rfl,rfl⟩ (wk [0,2,2,0] (ZL k fl)))))))))))))))))))))
 exact ax 0 (ZB 1 [0] (Y4 1 b2 [ZI n.decls,Df ((n.routines.take k).map U4) v] (ie (ZG (r3 [] [.agg [ZI n.decls,Df ((n.routines.take k).map U4) v]] [0] [(b2,b2)] ⟨rfl,rfl⟩ (Zm.agg (.cons (Zm.sl _ (Ys X4 ob)) (.cons (Zm.sl _ (Ys UV (by rw [W6 om];rfl))) .nil))))))))
theorem Zcg (n:Zj) (hz:WM n):Za 20 [X6 n] [] (ZQ (.tup [X6 ((XM n).1),.b ((XM n).2)])):=by
 refine Zx 10 Tryz.func20 (ar (iA (Wb n) fun b1=>iA [nl,nl] fun b2=>Z0 (Yp 1 [1] (ZC [] (RP n) (Yw (!U2 n) (p:=¬(U2 n=true)) (Yl Iff.rfl) (fun Z5=>?_) (fun Z5=>?_))))))
 ·refine ZM 1 (Y4 0 b2 [nl,nl] (Z0 ?_))
  have hE:XM n=(Ff,false):=Z4 Z5
  exact ZG (r3 [] [.agg [nl,nl],.b false] [0] [(b2,b2)] ⟨rfl,rfl⟩ (Zm.tup (.cons (Zm.agg (.cons (Zm.sl _ (by rw [hE];rfl)) (.cons (Zm.sl _ (by rw [hE];rfl)) .nil))) (.cons (lb (by rw [hE])) .nil))))
 refine ak (ZB 1 [1] (ZC [] (NA n (hn:=(BB hz (Ww.1 Z5)).1) (hbt:=(BB hz (Ww.1 Z5)).2.2)) (Y4 0 b2 (Wb (Wr n)) (Z0 ?_))))
 have hE:XM n=(Wr n,true):=Z6 (Ww.1 Z5)
 exact ZG (r3 [] [X6 (Wr n),.b true] [0] [(b2,b2)] ⟨rfl,rfl⟩ (Zm.tup (.cons (Zm.agg (.cons (Zm.sl _ (Ys X4 (by rw [hE]))) (.cons (Zm.sl _ (Ys UV (by rw [hE]))) .nil))) (.cons (lb (by rw [hE])) .nil))))
theorem FL (xs:LI) (hl_xs:xs.length<=4294967296:=by exact ob):Za 150 [Ze xs] [] (fun r h=>∃(v:Value),r=ZY xs v/\h=[.tail v 1]):=by
 refine Zx 22 Tryz.func150 (Zh (ZM 1 (iw (Yn xs) (BV xs.length [AV.i 0] 1 fun g1=>?_))))
 refine Z0 (Ym (ab 0 (ZU (fun fz gz m F h=>∃(k:Nat),(k<=xs.length)/\F=sF [0,3] fz [(4,.i k)]/\h=[.row (.slice (some ⟨g1,0,none⟩) xs.length xs.length) 1 (Zu (Zk (xs.take k))++(List.replicate (xs.length-k) ([.i 0]:List AV)).flatten)]/\m=xs.length-k) _ _ _ ⟨0,ob,rfl,rfl,rfl⟩ (wk [0] (ZW fl) (e:=(rr (ls:=(List.replicate xs.length [AV.i 0]).flatten) (by rfl) rz))) ?_)))
 rintro m F h ⟨k,Y0,rfl,rfl,rfl⟩
 refine Yb 2 (iw (Yn xs) (ZO ((k:Int)<(xs.length:Int)) (fun Z5=>?_) (fun Z5=>?_)))
 ·refine ak (aq (ab 1 (az (Z1 4 ?_))))
  obtain ⟨x1,Z2⟩:=Zv xs k om
  exact Zi (Zr none (k:Int) 1 (Yf Z2)) (Z1 1 (Zi (Jc g1 xs.length xs.length k 1 (k:Int)) (B7 0 g1 xs.length xs.length 1 (k*1) [.i x1] (Zu (Zk (xs.take k))++(List.replicate (xs.length-k) ([.i 0]:List AV)).flatten) (Zu (Zk (xs.take k))++([AV.i x1]++(List.replicate (xs.length-(k+1)) ([.i 0]:List AV)).flatten)) (by rw [C9 (a:=0) (q:=1) (by rw [NU,Kv,AP Y0]) Y0 rfl];simp;omega) (by rw [Ca om];exact AA (by rw [NU,Kv,AP Y0]) rfl) (ie (az (Z1 1 (ZK k (Z0 (ZJ ⟨k+1,ob,rfl,rfl,rfl⟩ (wk [0] (ZL k fl) (e:=(rr (ls:=Zu (Zk (xs.take k))++([AV.i x1]++(List.replicate (xs.length-(k+1)) ([.i 0]:List AV)).flatten)) (Zbb Z2) rz))))))))))))
 exact ax 0 (Zh (Wq (JY 0 (.slice (some ⟨g1,0,none⟩) xs.length xs.length) 1 (Zu (Zk (xs.take k))++(List.replicate (xs.length-k) ([.i 0]:List AV)).flatten) (Zu (Zk xs)) (by rw [C8 om,W6 om])) (Ba 2 0 (v:=(⟨some ⟨g1,0,none⟩,xs.length,xs.length⟩:Hd)) (Zk xs) (Wv _) (ZG (r1 [0] ⟨(⟨some ⟨g1,0,none⟩,xs.length,xs.length⟩:Hd).v,rfl,rfl⟩)))))
theorem Zep (x:Xs) (hl:T7 x<=1000000000:=by exact ob):Za 205 [J1 x] [] (fun r h=>∃(y:X3),r=G5 y/\h=[.many (Wg y)]/\y.er=x):=by
 refine Zx 9 Tryz.func205 (ar (iA (KP x) fun b1=>iA [nl] fun b2=>ie (ar (iA [nl] fun b3=>ie (ZB 2 [2] (ic [] (FL x.fields (hl_xs:=(by have h:=hl;unfold T7 at h;omega))) ?_))))))
 rintro _ _ ⟨v1,rfl,rfl⟩
 exact Z1 1 (Y4 1 b3 [ZY x.fields v1] (ie (ZB 1 [0] (Y4 2 b2 [ZY x.fields v1] (ie (Wq (tB [2] [.tail v1 1] ((v1,1)::[]) (Wg (X3.mk x.fields v1)) (by simp [WS,WR,V0,V1,V2,V3,WZ,YC,YS,Xw,YW,X8,X2,X5,Wg,Wh,Wi,Xh])) (ZG (r3 [0] [.agg [ZY x.fields v1]] [1] [(b2,b2)] ⟨(X3.mk x.fields v1),rfl,rfl,rfl⟩ (lr _)))))))))
theorem Zeq (xs:List Xs) (hl:Uq xs<=1000000000:=by exact ob):Za 149 [JQ xs] [] (fun r h=>∃(ys:List X3) (w:Value),r=JR ys w/\h=[.many (X8 ys),.tail w 1]/\ys.map X3.er=xs):=by
 refine Zx 23 Tryz.func149 (Zh (ZM 1 (iw (Vl xs) (BV xs.length [nl] 1 ?_ (hl:=(by have h:=hl;unfold Uq at h;omega))))))
 intro g1
 refine Z0 (Ym (ab 0 (Wq (tB [] [] [] (X8 []) (by simp [WS,WR,V0,V1,V2,V3,WZ,YC,YS,Xw,YW,X8,X2,X5,Wg,Wh,Wi,Xh])) (ZU (fun fz gz m F h=>∃(k:Nat) (ys:List X3),(k<=xs.length)/\(ys.map X3.er=xs.take k)/\(ys.length=k)/\F=sF [0,3] fz [(4,.i k)]/\h=[.row (.slice (some ⟨g1,0,none⟩) xs.length xs.length) 1 (Zu (Ws ys)++(List.replicate (xs.length-k) ([nl]:List AV)).flatten),.many (X8 ys)]/\m=xs.length-k) _ _ _ ⟨0,[],ob,rfl,rfl,rfl,rfl,rfl⟩ (wk [1,0] (ZW fl) (e:=(rr (ls:=(List.replicate xs.length [nl]).flatten) (by rfl) (rc rz)))) ?_))))
 rintro m F h ⟨k,ys,Y0,Z9,Zz,rfl,rfl,rfl⟩
 refine Yb 2 (iw (Vl xs) (ZO ((k:Int)<(xs.length:Int)) (fun Z5=>?_) (fun Z5=>?_)))
 ·refine ak (aq (ab 1 (az (Z1 4 ?_))))
  obtain ⟨x1,Z2⟩:=Zv xs k om
  have hcl:=Ec Z2
  have hl2:=hl
  unfold Uq at hl2
  refine Zi (Zr none (k:Int) 1 (KF Z2)) (Z1 1 (ic [] (Zep x1) ?_))
  rintro _ _ ⟨y1,rfl,rfl,Yd⟩
  have hy:=Yd
  exact Zi (Jc g1 xs.length xs.length k 1 (k:Int)) (B7 1 g1 xs.length xs.length 1 (k*1) (Ao y1) (Zu (Ws ys)++(List.replicate (xs.length-k) ([nl]:List AV)).flatten) (Zu (Ws ys)++(Ao y1++(List.replicate (xs.length-(k+1)) ([nl]:List AV)).flatten)) (by rw [C9 (a:=0) (q:=1) (by rw [NR,Zz]) Y0 rfl];simp;omega) (by rw [Ca om];exact AA (by rw [NR,Zz]) rfl) (Ta (tB [2,1] [.many (X8 ys),.many (Wg y1)] (X8 ys++(Wg y1++[])) (X8 (ys++[y1])) (by simp [WS,WR,V0,V1,V2,V3,WZ,YC,YS,Xw,YW,X8,X2,X5,Wg,Wh,Wi,Xh])) (ie (az (Z1 1 (ZK k (Z0 (ZJ ⟨k+1,(ys++[y1]),ob,(Da Z9 Z2 hy),(by simp [Zz]),rfl,rfl,rfl⟩ (wk [1,0] (ZL k fl) (e:=(rr (ls:=Zu (Ws ys)++(Ao y1++(List.replicate (xs.length-(k+1)) ([nl]:List AV)).flatten)) Zb7 (rc rz))))))))))))
 exact ax 0 (Zh (Wq (JY 0 (.slice (some ⟨g1,0,none⟩) xs.length xs.length) 1 (Zu (Ws ys)++(List.replicate (xs.length-k) ([nl]:List AV)).flatten) (Zu (Ws ys)) (C8 om)) (Ba 2 0 (v:=(⟨some ⟨g1,0,none⟩,xs.length,xs.length⟩:Hd)) (Ws ys) (Hb _) (ZG (r1 [1,0] ⟨ys,(⟨some ⟨g1,0,none⟩,xs.length,xs.length⟩:Hd).v,rfl,rfl,(by rw [Z9,W6 om])⟩)))))
theorem Zer (x:Zg) (hl:U5 x<=1000000000:=by exact ob):Za 90 [QY x] [] (fun r h=>∃(y:YP),r=G6 y/\h=[.many (Wh y)]/\y.er=x):=by
 refine Zx 15 Tryz.func90 (ar (iA (Uh x) fun b1=>iA [.i 0,.i 0,nl] fun b2=>ie (ar (iA [.i 0,.i 0,nl] fun b3=>ie (ZB 3 [2] (Y4 0 b3 [.i x.frm,.i 0,nl] (ie (ZB 3 [2] (Y4 0 b3 [.i x.frm,.i x.to_,nl] (ie (ZB 2 [2] (ic [] (Zeq x.cons (hl:=(by have h:=hl;unfold U5 at h;exact h))) ?_))))))))))))
 rintro _ _ ⟨ys1,w1,rfl,rfl,Yd⟩
 have hy:=Yd
 exact Z1 1 (Y4 2 b3 [.i x.frm,.i x.to_,JR ys1 w1] (ie (ZB 1 [0] (Y4 3 b2 [.i x.frm,.i x.to_,JR ys1 w1] (ie (Wq (tB [2,2] [.many (X8 ys1),.tail w1 1] (X8 ys1++((w1,1)::[])) (Wh (YP.mk x.frm x.to_ ys1 w1)) (by simp [WS,WR,V0,V1,V2,V3,WZ,YC,YS,Xw,YW,X8,X2,X5,Wg,Wh,Wi,Xh])) (ZG (r3 [0] [.agg [.i x.frm,.i x.to_,JR ys1 w1]] [1] [(b2,b2)] ⟨(YP.mk x.frm x.to_ ys1 w1),rfl,rfl,(by show Zg.mk _ _ _=_;rw [hy])⟩ (lr _)))))))))
theorem Zes (xs:List Zg) (hl:VA xs<=1000000000:=by exact ob):Za 44 [ZI xs] [] (fun r h=>∃(ys:List YP) (w:Value),r=Kh ys w/\h=[.many (X2 ys),.tail w 3]/\ys.map YP.er=xs):=by
 refine Zx 23 Tryz.func44 (Zh (ZM 1 (iw (VB xs) (BV xs.length [.i 0,.i 0,nl] 3 ?_ (hl:=(by have h:=hl;unfold VA at h;omega))))))
 intro g1
 refine Z0 (Ym (ab 0 (Wq (tB [] [] [] (X2 []) (by simp [WS,WR,V0,V1,V2,V3,WZ,YC,YS,Xw,YW,X8,X2,X5,Wg,Wh,Wi,Xh])) (ZU (fun fz gz m F h=>∃(k:Nat) (ys:List YP),(k<=xs.length)/\(ys.map YP.er=xs.take k)/\(ys.length=k)/\F=sF [0,3] fz [(4,.i k)]/\h=[.row (.slice (some ⟨g1,0,none⟩) xs.length xs.length) 3 (Zu (XV ys)++(List.replicate (xs.length-k) ([.i 0,.i 0,nl]:List AV)).flatten),.many (X2 ys)]/\m=xs.length-k) _ _ _ ⟨0,[],ob,rfl,rfl,rfl,rfl,rfl⟩ (wk [1,0] (ZW fl) (e:=(rr (ls:=(List.replicate xs.length [.i 0,.i 0,nl]).flatten) (by rfl) (rc rz)))) ?_))))
 rintro m F h ⟨k,ys,Y0,Z9,Zz,rfl,rfl,rfl⟩
 refine Yb 2 (iw (VB xs) (ZO ((k:Int)<(xs.length:Int)) (fun Z5=>?_) (fun Z5=>?_)))
 ·refine ak (aq (ab 1 (az (Z1 4 ?_))))
  obtain ⟨x1,Z2⟩:=Zv xs k om
  have hcl:=Ek Z2
  have hl2:=hl
  unfold VA at hl2
  refine Zi (Zr none (k:Int) 3 (Vm Z2)) (Z1 1 (ic [] (Zer x1) ?_))
  rintro _ _ ⟨y1,rfl,rfl,Yd⟩
  have hy:=Yd
  exact Zi (Jc g1 xs.length xs.length k 3 (k:Int)) (B7 1 g1 xs.length xs.length 3 (k*3) (Ap y1) (Zu (XV ys)++(List.replicate (xs.length-k) ([.i 0,.i 0,nl]:List AV)).flatten) (Zu (XV ys)++(Ap y1++(List.replicate (xs.length-(k+1)) ([.i 0,.i 0,nl]:List AV)).flatten)) (by rw [C9 (a:=0) (q:=3) (by rw [JD,Zz]) Y0 rfl];simp;omega) (by rw [Ca om];exact AA (by rw [JD,Zz]) rfl) (Ta (tB [2,1] [.many (X2 ys),.many (Wh y1)] (X2 ys++(Wh y1++[])) (X2 (ys++[y1])) (by simp [WS,WR,V0,V1,V2,V3,WZ,YC,YS,Xw,YW,X8,X2,X5,Wg,Wh,Wi,Xh])) (ie (az (Z1 1 (ZK k (Z0 (ZJ ⟨k+1,(ys++[y1]),ob,(Da Z9 Z2 hy),(by simp [Zz]),rfl,rfl,rfl⟩ (wk [1,0] (ZL k fl) (e:=(rr (ls:=Zu (XV ys)++(Ap y1++(List.replicate (xs.length-(k+1)) ([.i 0,.i 0,nl]:List AV)).flatten)) Zb8 (rc rz))))))))))))
 exact ax 0 (Zh (Wq (JY 0 (.slice (some ⟨g1,0,none⟩) xs.length xs.length) 3 (Zu (XV ys)++(List.replicate (xs.length-k) ([.i 0,.i 0,nl]:List AV)).flatten) (Zu (XV ys)) (C8 om)) (Ba 2 0 (v:=(⟨some ⟨g1,0,none⟩,xs.length,xs.length⟩:Hd)) (XV ys) (Hc _) (ZG (r1 [1,0] ⟨ys,(⟨some ⟨g1,0,none⟩,xs.length,xs.length⟩:Hd).v,rfl,rfl,(by rw [Z9,W6 om])⟩)))))
theorem Zeo (xs:List Zf) (hl:U3 xs<=1000000000) (ih:∀(b2:Zf),(b2.sz<=Xn xs)->(b2.cst<=1000000000)->Za 151 [YG b2] [] (fun r h=>∃(y:ZV),r=Tp y/\h=[.many (YW y)]/\y.er=b2)):Za 286 [KQ xs] [] (fun r h=>∃(ys:List ZV) (w:Value),r=TO ys w/\h=[.many (YS ys),.tail w 2]/\ys.map ZV.er=xs):=by
 refine Zx 23 Tryz.func286 (Zh (ZM 1 (iw (Uf xs) (BV xs.length [nl,.i 0] 2 ?_ (hl:=(by have h:=hl;unfold U3 at h;omega))))))
 intro g1
 refine Z0 (Ym (ab 0 (Wq (tB [] [] [] (YS []) (by simp [WS,WR,V0,V1,V2,V3,WZ,YC,YS,Xw,YW,X8,X2,X5,Wg,Wh,Wi,Xh])) (ZU (fun fz gz m F h=>∃(k:Nat) (ys:List ZV),(k<=xs.length)/\(ys.map ZV.er=xs.take k)/\(ys.length=k)/\F=sF [0,3] fz [(4,.i k)]/\h=[.row (.slice (some ⟨g1,0,none⟩) xs.length xs.length) 2 (Zu (V7 ys)++(List.replicate (xs.length-k) ([nl,.i 0]:List AV)).flatten),.many (YS ys)]/\m=xs.length-k) _ _ _ ⟨0,[],ob,rfl,rfl,rfl,rfl,rfl⟩ (wk [1,0] (ZW fl) (e:=(rr (ls:=(List.replicate xs.length [nl,.i 0]).flatten) (by rfl) (rc rz)))) ?_))))
 rintro m F h ⟨k,ys,Y0,Z9,Zz,rfl,rfl,rfl⟩
 refine Yb 2 (iw (Uf xs) (ZO ((k:Int)<(xs.length:Int)) (fun Z5=>?_) (fun Z5=>?_)))
 ·refine ak (aq (ab 1 (az (Z1 4 ?_))))
  obtain ⟨x1,Z2⟩:=Zv xs k om
  have hcl:=Gw Z2
  have YH:=BD Z2
  have hl2:=hl
  unfold U3 at hl2
  refine Zi (Zr none (k:Int) 2 (TF Z2)) (Z1 1 (ic [] (ih x1 ob ob) ?_))
  rintro _ _ ⟨y1,rfl,rfl,Yd⟩
  have hy:=Yd
  exact Zi (Jc g1 xs.length xs.length k 2 (k:Int)) (B7 1 g1 xs.length xs.length 2 (k*2) (JL y1) (Zu (V7 ys)++(List.replicate (xs.length-k) ([nl,.i 0]:List AV)).flatten) (Zu (V7 ys)++(JL y1++(List.replicate (xs.length-(k+1)) ([nl,.i 0]:List AV)).flatten)) (by rw [C9 (a:=0) (q:=2) (by rw [NQ,Zz]) Y0 rfl];simp;omega) (by rw [Ca om];exact AA (by rw [NQ,Zz]) rfl) (Ta (tB [2,1] [.many (YS ys),.many (YW y1)] (YS ys++(YW y1++[])) (YS (ys++[y1])) (by simp [WS,WR,V0,V1,V2,V3,WZ,YC,YS,Xw,YW,X8,X2,X5,Wg,Wh,Wi,Xh])) (ie (az (Z1 1 (ZK k (Z0 (ZJ ⟨k+1,(ys++[y1]),ob,(Da Z9 Z2 hy),(by simp [Zz]),rfl,rfl,rfl⟩ (wk [1,0] (ZL k fl) (e:=(rr (ls:=Zu (V7 ys)++(JL y1++(List.replicate (xs.length-(k+1)) ([nl,.i 0]:List AV)).flatten)) Zb6 (rc rz))))))))))))
 exact ax 0 (Zh (Wq (JY 0 (.slice (some ⟨g1,0,none⟩) xs.length xs.length) 2 (Zu (V7 ys)++(List.replicate (xs.length-k) ([nl,.i 0]:List AV)).flatten) (Zu (V7 ys)) (C8 om)) (Ba 2 0 (v:=(⟨some ⟨g1,0,none⟩,xs.length,xs.length⟩:Hd)) (V7 ys) (Ha _) (ZG (r1 [1,0] ⟨ys,(⟨some ⟨g1,0,none⟩,xs.length,xs.length⟩:Hd).v,rfl,rfl,(by rw [Z9,W6 om])⟩)))))
theorem Zex (xs:List Z7) (hl:UA xs<=1000000000) (ih:∀(s2:Z7),(s2.sz<=Y9 xs)->(s2.cst<=1000000000)->Za 241 [XS s2] [] (fun r h=>∃(y:ZX),r=TB y/\h=[.many (Xw y)]/\y.er=s2)):Za 206 [VW xs] [] (fun r h=>∃(ys:List ZX) (w:Value),r=U8 ys w/\h=[.many (YC ys),.tail w 5]/\ys.map ZX.er=xs):=by
 refine Zx 23 Tryz.func206 (Zh (ZM 1 (iw (T8 xs) (BV xs.length [.i 0,.i 0,.i 0,nl,nl] 5 ?_ (hl:=(by have h:=hl;unfold UA at h;omega))))))
 intro g1
 refine Z0 (Ym (ab 0 (Wq (tB [] [] [] (YC []) (by simp [WS,WR,V0,V1,V2,V3,WZ,YC,YS,Xw,YW,X8,X2,X5,Wg,Wh,Wi,Xh])) (ZU (fun fz gz m F h=>∃(k:Nat) (ys:List ZX),(k<=xs.length)/\(ys.map ZX.er=xs.take k)/\(ys.length=k)/\F=sF [0,3] fz [(4,.i k)]/\h=[.row (.slice (some ⟨g1,0,none⟩) xs.length xs.length) 5 (Zu (WE ys)++(List.replicate (xs.length-k) ([.i 0,.i 0,.i 0,nl,nl]:List AV)).flatten),.many (YC ys)]/\m=xs.length-k) _ _ _ ⟨0,[],ob,rfl,rfl,rfl,rfl,rfl⟩ (wk [1,0] (ZW fl) (e:=(rr (ls:=(List.replicate xs.length [.i 0,.i 0,.i 0,nl,nl]).flatten) (by rfl) (rc rz)))) ?_))))
 rintro m F h ⟨k,ys,Y0,Z9,Zz,rfl,rfl,rfl⟩
 refine Yb 2 (iw (T8 xs) (ZO ((k:Int)<(xs.length:Int)) (fun Z5=>?_) (fun Z5=>?_)))
 ·refine ak (aq (ab 1 (az (Z1 4 ?_))))
  obtain ⟨x1,Z2⟩:=Zv xs k om
  have hcl:=IQ Z2
  have YH:=Du Z2
  have hl2:=hl
  unfold UA at hl2
  refine Zi (Zr none (k:Int) 5 (U7 Z2)) (Z1 1 (ic [] (ih x1 ob ob) ?_))
  rintro _ _ ⟨y1,rfl,rfl,Yd⟩
  have hy:=Yd
  exact Zi (Jc g1 xs.length xs.length k 5 (k:Int)) (B7 1 g1 xs.length xs.length 5 (k*5) (Ar y1) (Zu (WE ys)++(List.replicate (xs.length-k) ([.i 0,.i 0,.i 0,nl,nl]:List AV)).flatten) (Zu (WE ys)++(Ar y1++(List.replicate (xs.length-(k+1)) ([.i 0,.i 0,.i 0,nl,nl]:List AV)).flatten)) (by rw [C9 (a:=0) (q:=5) (by rw [NT,Zz]) Y0 rfl];simp;omega) (by rw [Ca om];exact AA (by rw [NT,Zz]) rfl) (Ta (tB [2,1] [.many (YC ys),.many (Xw y1)] (YC ys++(Xw y1++[])) (YC (ys++[y1])) (by simp [WS,WR,V0,V1,V2,V3,WZ,YC,YS,Xw,YW,X8,X2,X5,Wg,Wh,Wi,Xh])) (ie (az (Z1 1 (ZK k (Z0 (ZJ ⟨k+1,(ys++[y1]),ob,(Da Z9 Z2 hy),(by simp [Zz]),rfl,rfl,rfl⟩ (wk [1,0] (ZL k fl) (e:=(rr (ls:=Zu (WE ys)++(Ar y1++(List.replicate (xs.length-(k+1)) ([.i 0,.i 0,.i 0,nl,nl]:List AV)).flatten)) Zba (rc rz))))))))))))
 exact ax 0 (Zh (Wq (JY 0 (.slice (some ⟨g1,0,none⟩) xs.length xs.length) 5 (Zu (WE ys)++(List.replicate (xs.length-k) ([.i 0,.i 0,.i 0,nl,nl]:List AV)).flatten) (Zu (WE ys)) (C8 om)) (Ba 2 0 (v:=(⟨some ⟨g1,0,none⟩,xs.length,xs.length⟩:Hd)) (WE ys) (CK _) (ZG (r1 [1,0] ⟨ys,(⟨some ⟨g1,0,none⟩,xs.length,xs.length⟩:Hd).v,rfl,rfl,(by rw [Z9,W6 om])⟩)))))
theorem Zew (x:Z7) (hl:x.cst<=1000000000) (ih:∀(bs:List Zf),(Xn bs<x.sz)->(U3 bs<=1000000000)->Za 286 [KQ bs] [] (fun r h=>∃(ys:List ZV) (w:Value),r=TO ys w/\h=[.many (YS ys),.tail w 2]/\ys.map ZV.er=bs)):Za 241 [XS x] [] (fun r h=>∃(y:ZX),r=TB y/\h=[.many (Xw y)]/\y.er=x):=by
 have hce:=x.cst_eq
 have hse:=x.sz_eq
 have hbc:U3 x.kids=x.kids.length+UG x.kids:=rfl
 refine Zx 22 Tryz.func241 (ar (iA (WT x) fun b1=>iA [.i 0,.i 0,.i 0,nl,nl] fun b2=>ie (ar (iA [.i 0,.i 0,.i 0,nl,nl] fun b3=>ie (ZB 3 [2] (Y4 0 b3 [.i x.op,.i 0,.i 0,nl,nl] (ie (ZB 3 [2] (Y4 0 b3 [.i x.op,.i x.num,.i 0,nl,nl] (ie (ZB 3 [2] (Y4 0 b3 [.i x.op,.i x.num,.i x.into,nl,nl] (ie (ZB 2 [2] (ic [] (FL x.args) ?_)))))))))))))))
 rintro _ _ ⟨v1,rfl,rfl⟩
 refine Z1 1 (Y4 1 b3 [.i x.op,.i x.num,.i x.into,ZY x.args v1,nl] (ie (ZB 2 [3] (ic [] (ih x.kids ob ob) ?_))))
 rintro _ _ ⟨ys1,w1,rfl,rfl,Yd⟩
 have hy:=Yd
 exact Z1 1 (Y4 2 b3 [.i x.op,.i x.num,.i x.into,ZY x.args v1,TO ys1 w1] (ie (ZB 1 [0] (Y4 4 b2 [.i x.op,.i x.num,.i x.into,ZY x.args v1,TO ys1 w1] (ie (Wq (tB [4,2,2] [.tail v1 1,.many (YS ys1),.tail w1 2] ((v1,1)::(YS ys1++((w1,2)::[]))) (Xw (ZX.mk x.op x.num x.into x.args v1 ys1 w1)) (by simp [WS,WR,V0,V1,V2,V3,WZ,YC,YS,Xw,YW,X8,X2,X5,Wg,Wh,Wi,Xh])) (ZG (r3 [0] [.agg [.i x.op,.i x.num,.i x.into,ZY x.args v1,TO ys1 w1]] [1] [(b2,b2)] ⟨(ZX.mk x.op x.num x.into x.args v1 ys1 w1),rfl,rfl,(by rw [ZX.er,Ev,hy];cases x;rfl)⟩ (lr _)))))))))
theorem Zen (x:Zf) (hl:x.cst<=1000000000) (ih:∀(ss:List Z7),(Y9 ss<x.sz)->(UA ss<=1000000000)->Za 206 [VW ss] [] (fun r h=>∃(ys:List ZX) (w:Value),r=U8 ys w/\h=[.many (YC ys),.tail w 5]/\ys.map ZX.er=ss)):Za 151 [YG x] [] (fun r h=>∃(y:ZV),r=Tp y/\h=[.many (YW y)]/\y.er=x):=by
 have hce:=x.cst_eq
 have hse:=x.sz_eq
 have hbc:UA x.steps=x.steps.length+UL x.steps:=rfl
 refine Zx 12 Tryz.func151 (ar (iA (VE x) fun b1=>iA [nl,.i 0] fun b2=>ie (ar (iA [nl,.i 0] fun b3=>ie (ZB 2 [2] (ic [] (ih x.steps ob ob) ?_))))))
 rintro _ _ ⟨ys1,w1,rfl,rfl,Yd⟩
 have hy:=Yd
 exact Z1 1 (Y4 2 b3 [U8 ys1 w1,.i 0] (ie (ZB 3 [4] (Y4 0 b3 [U8 ys1 w1,.i x.result] (ie (ZB 1 [0] (Y4 3 b2 [U8 ys1 w1,.i x.result] (ie (Wq (tB [2,2] [.many (YC ys1),.tail w1 5] (YC ys1++((w1,5)::[])) (YW (ZV.mk ys1 w1 x.result)) (by simp [WS,WR,V0,V1,V2,V3,WZ,YC,YS,Xw,YW,X8,X2,X5,Wg,Wh,Wi,Xh])) (ZG (r3 [0] [.agg [U8 ys1 w1,.i x.result]] [1] [(b2,b2)] ⟨(ZV.mk ys1 w1 x.result),rfl,rfl,(by rw [ZV.er,CQ,hy];cases x;rfl)⟩ (lr _))))))))))))
theorem Zel (k:Nat):(∀(s:Z7),(s.sz<k)->(s.cst<=1000000000)->Za 241 [XS s] [] (fun r h=>∃(y:ZX),r=TB y/\h=[.many (Xw y)]/\y.er=s))/\(∀(b:Zf),(b.sz<k)->(b.cst<=1000000000)->Za 151 [YG b] [] (fun r h=>∃(y:ZV),r=Tp y/\h=[.many (YW y)]/\y.er=b))/\(∀(ss:List Z7),(Y9 ss<k)->(UA ss<=1000000000)->Za 206 [VW ss] [] (fun r h=>∃(ys:List ZX) (w:Value),r=U8 ys w/\h=[.many (YC ys),.tail w 5]/\ys.map ZX.er=ss))/\(∀(bs:List Zf),(Xn bs<k)->(U3 bs<=1000000000)->Za 286 [KQ bs] [] (fun r h=>∃(ys:List ZV) (w:Value),r=TO ys w/\h=[.many (YS ys),.tail w 2]/\ys.map ZV.er=bs)):=by
 induction k with
 | zero=>exact ⟨fun s h=>by omega,fun s h=>by omega,fun s h=>by omega,fun s h=>by omega⟩
 | succ k ih=>
  obtain ⟨i1,i2,i3,i4⟩:=ih
  have k1:∀(s:Z7),(s.sz<k+1)->(s.cst<=1000000000)->Za 241 [XS s] [] (fun r h=>∃(y:ZX),r=TB y/\h=[.many (Xw y)]/\y.er=s):=fun s h hl=>Zew s hl fun bs h2 h3=>i4 bs om h3
  have k2:∀(b:Zf),(b.sz<k+1)->(b.cst<=1000000000)->Za 151 [YG b] [] (fun r h=>∃(y:ZV),r=Tp y/\h=[.many (YW y)]/\y.er=b):=fun b h hl=>Zen b hl fun ss h2 h3=>i3 ss om h3
  exact ⟨k1,k2,fun ss h hl=>Zex ss hl fun s h2 h3=>k1 s om h3,fun bs h hl=>Zeo bs hl fun b h2 h3=>k2 b om h3⟩
theorem Zem (b:Zf) (hl:b.cst<=1000000000:=by exact ob):Za 151 [YG b] [] (fun r h=>∃(y:ZV),r=Tp y/\h=[.many (YW y)]/\y.er=b):=(Zel (b.sz+1)).2.1 b om hl
theorem Zeu (x:Yy) (hl:VF x<=1000000000:=by exact ob):Za 91 [QZ x] [] (fun r h=>∃(y:YQ),r=G7 y/\h=[.many (Wi y)]/\y.er=x):=by
 have hl2:=hl
 unfold VF at hl2
 refine Zx 20 Tryz.func91 (ar (iA (TM x) fun b1=>iA [nl,nl,.i 0,nl,.i 0] fun b2=>ie (ar (iA [nl,nl,.i 0,nl,.i 0] fun b3=>ie (ZB 2 [2] (ic [] (FL x.params) ?_))))))
 rintro _ _ ⟨v1,rfl,rfl⟩
 refine Z1 1 (Y4 1 b3 [ZY x.params v1,nl,.i 0,nl,.i 0] (ie (ZB 2 [3] (ic [] (FL x.lent) ?_))))
 rintro _ _ ⟨v2,rfl,rfl⟩
 refine Z1 1 (Y4 1 b3 [ZY x.params v1,ZY x.lent v2,.i 0,nl,.i 0] (ie (ZB 3 [4] (Y4 0 b3 [ZY x.params v1,ZY x.lent v2,.i x.result,nl,.i 0] (ie (ZB 2 [4] (ic [] (Zem x.body) ?_)))))))
 rintro _ _ ⟨y1,rfl,rfl,Yd⟩
 have hy:=Yd
 exact Z1 1 (Y4 1 b3 [ZY x.params v1,ZY x.lent v2,.i x.result,U8 y1.steps y1.sv,.i y1.result] (ie (ZB 1 [0] (Y4 4 b2 [ZY x.params v1,ZY x.lent v2,.i x.result,U8 y1.steps y1.sv,.i y1.result] (ie (Wq (tB [4,3,2] [.tail v1 1,.tail v2 1,.many (YW y1)] ((v1,1)::((v2,1)::(YW y1++[]))) (Wi (YQ.mk x.params v1 x.lent v2 x.result (ZV.mk y1.steps y1.sv y1.result))) (by simp [WS,WR,V0,V1,V2,V3,WZ,YC,YS,Xw,YW,X8,X2,X5,Wg,Wh,Wi,Xh,EF,ZV.steps,ZV.sv])) (ZG (r3 [0] [.agg [ZY x.params v1,ZY x.lent v2,.i x.result,U8 y1.steps y1.sv,.i y1.result]] [1] [(b2,b2)] ⟨(YQ.mk x.params v1 x.lent v2 x.result (ZV.mk y1.steps y1.sv y1.result)),rfl,rfl,(by show Yy.mk _ _ _ (ZV.er (ZV.mk y1.steps y1.sv y1.result))=_;rw [ZV.eta,hy])⟩ (lr _)))))))))
theorem Zev (xs:List Yy) (hl:VY xs<=1000000000:=by exact ob):Za 45 [C3 xs] [] (fun r h=>∃(ys:List YQ) (w:Value),r=JS ys w/\h=[.many (X5 ys),.tail w 5]/\ys.map YQ.er=xs):=by
 refine Zx 23 Tryz.func45 (Zh (ZM 1 (iw (UJ xs) (BV xs.length [nl,nl,.i 0,nl,.i 0] 5 ?_ (hl:=(by have h:=hl;unfold VY at h;omega))))))
 intro g1
 refine Z0 (Ym (ab 0 (Wq (tB [] [] [] (X5 []) (by simp [WS,WR,V0,V1,V2,V3,WZ,YC,YS,Xw,YW,X8,X2,X5,Wg,Wh,Wi,Xh])) (ZU (fun fz gz m F h=>∃(k:Nat) (ys:List YQ),(k<=xs.length)/\(ys.map YQ.er=xs.take k)/\(ys.length=k)/\F=sF [0,3] fz [(4,.i k)]/\h=[.row (.slice (some ⟨g1,0,none⟩) xs.length xs.length) 5 (Zu (V8 ys)++(List.replicate (xs.length-k) ([nl,nl,.i 0,nl,.i 0]:List AV)).flatten),.many (X5 ys)]/\m=xs.length-k) _ _ _ ⟨0,[],ob,rfl,rfl,rfl,rfl,rfl⟩ (wk [1,0] (ZW fl) (e:=(rr (ls:=(List.replicate xs.length [nl,nl,.i 0,nl,.i 0]).flatten) (by rfl) (rc rz)))) ?_))))
 rintro m F h ⟨k,ys,Y0,Z9,Zz,rfl,rfl,rfl⟩
 refine Yb 2 (iw (UJ xs) (ZO ((k:Int)<(xs.length:Int)) (fun Z5=>?_) (fun Z5=>?_)))
 ·refine ak (aq (ab 1 (az (Z1 4 ?_))))
  obtain ⟨x1,Z2⟩:=Zv xs k om
  have hcl:=Fp Z2
  have hl2:=hl
  unfold VY at hl2
  refine Zi (Zr none (k:Int) 5 (Us Z2)) (Z1 1 (ic [] (Zeu x1) ?_))
  rintro _ _ ⟨y1,rfl,rfl,Yd⟩
  have hy:=Yd
  exact Zi (Jc g1 xs.length xs.length k 5 (k:Int)) (B7 1 g1 xs.length xs.length 5 (k*5) (Aq y1) (Zu (V8 ys)++(List.replicate (xs.length-k) ([nl,nl,.i 0,nl,.i 0]:List AV)).flatten) (Zu (V8 ys)++(Aq y1++(List.replicate (xs.length-(k+1)) ([nl,nl,.i 0,nl,.i 0]:List AV)).flatten)) (by rw [C9 (a:=0) (q:=5) (by rw [NS,Zz]) Y0 rfl];simp;omega) (by rw [Ca om];exact AA (by rw [NS,Zz]) rfl) (Ta (tB [2,1] [.many (X5 ys),.many (Wi y1)] (X5 ys++(Wi y1++[])) (X5 (ys++[y1])) (by simp [WS,WR,V0,V1,V2,V3,WZ,YC,YS,Xw,YW,X8,X2,X5,Wg,Wh,Wi,Xh])) (ie (az (Z1 1 (ZK k (Z0 (ZJ ⟨k+1,(ys++[y1]),ob,(Da Z9 Z2 hy),(by simp [Zz]),rfl,rfl,rfl⟩ (wk [1,0] (ZL k fl) (e:=(rr (ls:=Zu (V8 ys)++(Aq y1++(List.replicate (xs.length-(k+1)) ([nl,nl,.i 0,nl,.i 0]:List AV)).flatten)) Zb9 (rc rz))))))))))))
 exact ax 0 (Zh (Wq (JY 0 (.slice (some ⟨g1,0,none⟩) xs.length xs.length) 5 (Zu (V8 ys)++(List.replicate (xs.length-k) ([nl,nl,.i 0,nl,.i 0]:List AV)).flatten) (Zu (V8 ys)) (C8 om)) (Ba 2 0 (v:=(⟨some ⟨g1,0,none⟩,xs.length,xs.length⟩:Hd)) (V8 ys) (Eo _) (ZG (r1 [1,0] ⟨ys,(⟨some ⟨g1,0,none⟩,xs.length,xs.length⟩:Hd).v,rfl,rfl,(by rw [Z9,W6 om])⟩)))))
theorem Bk (x:Zj) (hl:Wo x<=1000000000):Za 17 [X6 x] [] (fun r h=>∃(y:X7),r=VJ y/\h=[.many (Xh y)]/\y.er=x):=by
 have hl2:=hl
 unfold Wo at hl2
 refine Zx 13 Tryz.func17 (ar (iA (Wb x) fun b1=>iA [nl,nl] fun b2=>ie (ar (iA [nl,nl] fun b3=>ie (ZB 2 [2] (ic [] (Zes x.decls) ?_))))))
 rintro _ _ ⟨ys1,w1,rfl,rfl,Yd⟩
 have hy1:=Yd
 refine Z1 1 (Y4 2 b3 [Kh ys1 w1,nl] (ie (ZB 2 [4] (ic [] (Zev x.routines) ?_))))
 rintro _ _ ⟨ys2,w2,rfl,rfl,YX⟩
 have hy2:=YX
 exact Z1 1 (Y4 2 b3 [Kh ys1 w1,JS ys2 w2] (ie (ZB 1 [0] (Y4 5 b2 [Kh ys1 w1,JS ys2 w2] (ie (Wq (tB [4,4,2,2] [.many (X2 ys1),.tail w1 3,.many (X5 ys2),.tail w2 5] (X2 ys1++((w1,3)::(X5 ys2++((w2,5)::[])))) (Xh (X7.mk ys1 w1 ys2 w2)) (by simp [WS,WR,V0,V1,V2,V3,WZ,YC,YS,Xw,YW,X8,X2,X5,Wg,Wh,Wi,Xh])) (ZG (r3 [0] [.agg [Kh ys1 w1,JS ys2 w2]] [1] [(b2,b2)] ⟨(X7.mk ys1 w1 ys2 w2),rfl,rfl,(by rw [X7.er];simp only [hy1,hy2])⟩ (lr _)))))))))
end Go.Abs
