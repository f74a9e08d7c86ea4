/-
  A part of the proofs of several laws (see the last file): no condition.
-/
import Derived.Test.YtlcniflebhfdpaaGreatYcC
import Derived.Maps.OwnSet
import Derived.Lib.SlKeysI
import Derived.CallsIn
set_option linter.all false
set_option linter.unusedVariables false
set_option linter.unusedSimpArgs false
set_option linter.unusedSectionVars false
set_option maxRecDepth 10000
set_option maxHeartbeats 4000000
section
namespace Go.Abs
open Go.Maps
open Go.WideElems (Fit rd rg pl rd_val elemAt)
theorem L5 {z:Int} (hz:-9223372036854775808<=z/\z<=9223372036854775807):(Lit.int .i64 z).wf=true:=by
 have m1:IntKind.i64.min=-9223372036854775808:=rfl
 have m2:IntKind.i64.max=9223372036854775807:=rfl
 show (decide (IntKind.i64.min<=z)&&decide (z<=IntKind.i64.max))=true
 rw [m1,m2,Xs,decide_eq_true_eq,decide_eq_true_eq];exact hz
def X7:List (Int × Int)->Int->Int
 | [],_=>0
 | p::r,v=>(if p.1=v then p.2 else 0)+X7 r v
theorem EP:∀(L M:List (Int × Int)) (v:Int),X7 (L++M) v=X7 L v+X7 M v
 | [],M,v=>by show X7 M v=0+X7 M v;omega
 | p::r,M,v=>by rw [Kn,X7,X7,EP r];omega
def DR (D:DataW Unit) (L:List (Int × Int)):Prop:=
 (∀v,D.atKey (.int .i64 v) (.lit (.int .i64 0))=.lit (.int .i64 (X7 L v)))/\(∀v,has D (.int .i64 v)=true↔∃p∈L,p.1=v)
theorem DR.nil:DR (.map []) []:=⟨fun v=>rfl,fun v=>⟨fun h=>by simp [has_eq] at h,fun ⟨p,hp,_⟩=>by cases hp⟩⟩
theorem O5 {a b:Int} (h:a≠b):Lit.int .i64 a≠Lit.int .i64 b:=fun e=>by cases e;exact h rfl
theorem DR.snoc {D:DataW Unit} {L:List (Int × Int)} (h:DR D L) (hm:IsMap D) (v d:Int):DR (D.put (.int .i64 v) (.lit (.int .i64 (X7 L v+d)))) (L++[(v,d)]):=by
 have hk:WideAt.IsKeyLit (.int .i64 v):=by first|exact trivial|exact .inl ⟨_,_,rfl⟩|simp [WideAt.IsKeyLit]
 constructor
 ·intro x
  by_cases e:x=v
  ·subst e
   rw [atKey_put_same hm hk,EP]
   show _=DataW.lit (.int .i64 (X7 L x+((if x=x then d else 0)+0)))
   rw [Z6 rfl,Int.add_zero]
  ·rw [atKey_put_other (O5 e),h.1,EP]
   show _=DataW.lit (.int .i64 (X7 L x+((if v=x then d else 0)+0)))
   rw [Z4 (fun q=>e q.symm),Int.add_zero,Int.add_zero]
 ·intro x
  by_cases e:x=v
  ·subst e
   rw [has_put_same hm hk]
   exact ⟨fun _=>⟨(x,d),List.mem_append_right _ (YH.2 rfl),rfl⟩,fun _=>rfl⟩
  ·rw [has_put_other (O5 e),h.2]
   constructor
   ·rintro ⟨p,hp,q⟩;exact ⟨p,List.mem_append_left _ hp,q⟩
   ·rintro ⟨p,hp,q⟩
    rcases Yv.1 hp with hp|hp
    ·exact ⟨p,hp,q⟩
    ·rw [YH.1 hp] at q;exact absurd q.symm e
def MQ (P:Program) (kt et:TypeId) (L:List (Int × Int)):Array MapEntry->Nat->Prop:=fun es c=>
 Fit P kt (plainElem (H:=Unit) P et) es c/\es.size<=L.length/\DR (.map ((es.toList.map (rg P kt (plainElem P et))).foldr DataW.insert [])) L
abbrev rM (P:Program) (b:Nat) (kt et:TypeId) (L:List (Int × Int)):Res:=.mp b (MQ P kt et L)
abbrev vM (b:Nat):AV:=.val (.map (some b))
theorem EO {P:Program} {w:World} {G:ZE} {b:Nat} {kt et:TypeId} {L:List (Int × Int)}:Ux w G (rM P b kt et L)↔∃D,w.ownsMap P kt (plainElem P et) b L.length D/\DR D L:=
 ⟨fun ⟨es,c,h1,h2,h3,h4⟩=>⟨_,⟨es,c,h1,h2,h3,rfl⟩,h4⟩,fun ⟨D,⟨es,c,h1,h2,h3,h5⟩,h4⟩=>⟨es,c,h1,h2,h3,h5▸h4⟩⟩
theorem ZW.mapTo {w w':World} {G:ZE} {b:Nat} {Q Q':Array MapEntry->Nat->Prop} {h2:List Res} (hh:ZW w G (.mp b Q::h2)) (hg:w.grownBy w' (some b)) (h':Ux w' G (.mp b Q')) :
  ZW w' G (.mp b Q'::h2)/\Yr w G (.mp b Q::h2) w' G (.mp b Q'::h2):=by
 have hh1:ZW w G ([.mp b Q]++h2):=hh
 have hl:=hh1.left
 refine hh1.frame (h':=[.mp b Q']) ⟨hg.os,hg.tape,hg.output,hg.size,fun _ _ h=>h,fun c hc=>?_,fun _ _ _ h=>.inl h,fun c o _ ⟨r,hr,hf⟩=>?_⟩ ⟨fun r hr=>?_,Kq _ _,fun r hr c o hf hg2=>?_,fun c o hg2=>Bj (hh.lt c o hg2) hg.size⟩
 ·by_cases e:c=b
  ·subst e
   obtain ⟨es,q,k1,_⟩:=hh.ok (.mp c Q) (YV ..)
   obtain ⟨es',q',k2,_⟩:=h'
   exact .inr (.inr ⟨es,q,es',q',k1,k2,⟨_,YV ..,rfl⟩⟩)
  ·exact .inl (hg.block c hc (fun z=>e (Ti z)))
 ·rw [YH.1 hr] at hf
  exact ⟨.mp b Q,YV ..,hf⟩
 ·rw [YH.1 hr];exact h'
 ·rw [YH.1 hr] at hf
  exact hl.prot (.mp b Q) (YV ..) c o hf hg2
theorem ZW.alloc_map {w:World} {G:ZE} {h:List Res} (hh:ZW w G h) {Q:Array MapEntry->Nat->Prop} (hq:Q #[] 0) :
  ZW (w.alloc (.map #[] 0)) G (.mp w.heap.size Q::h)/\Yr w G h (w.alloc (.map #[] 0)) G (.mp w.heap.size Q::h):=by
 refine hh.alloc (.map #[] 0) (h':=[.mp w.heap.size Q]) (fun _ _ h=>h) (fun _ _ h=>.inl h) ?_ ?_ (Kq _ _) ?_
 ·intro r hr
  rw [YH.1 hr]
  exact ⟨_,_,Aa w _,hq⟩
 ·intro r hr b j hf
  rw [YH.1 hr] at hf
  exact hf
 ·intro r hr b j hf hg
  rw [YH.1 hr] at hf
  have:=hh.lt b j hg
  have hf:b=w.heap.size:=hf
  omega
section
variable {P:Program} {n:Nat} {ops:Array Oper} {B:Fr->List Res->Prop} {k:Nat} {F:Fr} {h h2:List Res}
variable {T:List (Nat × List Nat)} {fuel:Nat} {done:List Nat}
def EL (P:Program) (t kt et:TypeId):Bool:=
 match P.underlying t with
 | some (.map a b)=>Nat.beq a kt&&Nat.beq b et&&(match P.underlying kt with | some (.int .i64)=>true | _=>false)&&(match P.underlying et with | some (.int .i64)=>true | _=>false)&&(match P.info? et with | some i=>(match i.zero with | some (.int .i64 0)=>true | _=>false) | none=>false)
 | _=>false
structure S9 (P:Program) (t kt et:TypeId):Prop where
 m:P.underlying t=some (.map kt et)
 k:P.underlying kt=some (.int .i64)
 e:P.underlying et=some (.int .i64)
 z:∀w,(zeroValue et).run P w=.ok (.int .i64 0) w
theorem OA {t kt et:TypeId} (h:EL P t kt et=true):S9 P t kt et:=by
 unfold EL at h
 split at h
 ·rename_i a b ht
  simp only [Xs] at h
  obtain ⟨⟨⟨⟨h1,h2⟩,h3⟩,h4⟩,h5⟩:=h
  have h1:=U6 h1
  have h2:=U6 h2
  subst h1 h2
  split at h3
  ·rename_i hk
   split at h4
   ·rename_i he
    split at h5
    ·rename_i i hi
     split at h5
     ·rename_i hz
      exact ⟨ht,hk,he,fun w=>by simp [zeroValue,D7 hi,hz]⟩
     ·cases h5
    ·cases h5
   ·cases h4
  ·cases h3
 ·cases h
def HK (ops:Array Oper) (k:Nat):Bool:=match (Zj ops k).op with|.makeMap _ none=>true|_=>false
theorem Z8q {K:Fr->List Res->Prop} (kt et:TypeId) (hd:V7 n (Zj ops k)=true) (ha:HK ops k=true)
  (hK:∀b,K (F.put (Zj ops k).dst (vM b)) (rM P b kt et []::h)):XU P n (Zj ops k) F h K:=by
 unfold HK at ha
 generalize hoo:Zj ops k=o at ha hd hK
 obtain ⟨dst,op,type,pos,after,guard⟩:=o
 cases op<;>simp only at ha<;>try (cases ha)
 rename_i t r
 cases r with
 | some r=>simp at ha
 | none=>
  intro Q w G a hF hh
  have hr:(execOp a.eval { dst:=dst,op:=.makeMap t none,type:=type,pos:=pos,after:=after,guard:=guard }).run P w=.ok (.value (.map (some w.heap.size))) (w.alloc (.map #[] 0)):=by
   simp only [execOp]
   simp [Instr.makeMap]
  unfold Oper.wp
  rw [hr]
  have hq:MQ P kt et [] #[] 0:=by
   obtain ⟨es,c,h1,h2,h3,h4⟩:=World.ownsMap_made (H:=Unit) w P kt (plainElem P et)
   have h1':=(Aa w (.map #[] 0)).symm.trans h1
   cases h1'
   exact ⟨h2,TO _,DR.nil⟩
  obtain ⟨j1,j2⟩:=hh.alloc_map hq
  exact ⟨_,_,G,hK _,(hF.mono (j2.agree hh)).put (UB hd) .val,j1,j2⟩
def HE (P:Program) (ops:Array Oper) (F:Fr) (k:Nat) (kt et:TypeId):Option (AV × AV):=match (Zj ops k).op with
 | .lookup t m x false=>if EL P t kt et then some (F.ev m,F.ev x) else none
 | _=>none
theorem Zcf (j b:Nat) (kt et:TypeId) (L:List (Int × Int)) (z:Int) (hl:HE P ops F k kt et=some (vM b,.i z)) (hj:h[j]? = some (rM P b kt et L)) (hz:-9223372036854775808<=z/\z<=9223372036854775807) :
  X8 P (Zj ops k) F h [b] (.i (X7 L z)):=by
 unfold HE at hl
 generalize hoo:Zj ops k=o at hl
 obtain ⟨dst,op,type,pos,after,guard⟩:=o
 cases op<;>simp only at hl<;>try (cases hl)
 rename_i t m x c
 cases c with
 | true=>simp at hl
 | false=>
  simp only at hl
  split at hl
  ·rename_i hm
   have hm:=OA hm
   simp only [Xo,Prod.mk.injEq] at hl
   obtain ⟨l1,l2⟩:=hl
   intro n w G a hF hh
   have v1:=hF.ev m
   have v2:=hF.ev x
   rw [l1] at v1
   rw [l2] at v2
   have v1:=v1.val_inv
   have v2:=v2.val_inv
   refine ⟨_,.val,fun w' _ hw=>?_⟩
   have hb:=hw b (YH.2 rfl)
   obtain ⟨D,⟨es,cl,o1,o2,o3,o4⟩,hD⟩:=EO.1 (hh.ok _ (YA hj))
   have hown:w'.ownsMap P kt (plainElem P et) b L.length D:=⟨es,cl,hb.trans o1,o2,o3,o4⟩
   have hwf:=L5 hz
   obtain ⟨v,q1,q2,_⟩:=hown.lookup_int (int_keyed hm.k) hm.m hm.e (hm.z w') (keyOf_int_mk hm.k hwf)
   rw [hD.1] at q2
   have q2:X7 L z=v:=by simpa using q2
   simp only [execOp,v1,v2]
   refine Vd ?_
   rw [q1,q2]
  ·cases hl
def HM (P:Program) (ops:Array Oper) (F:Fr) (k:Nat) (kt et:TypeId):Option (AV × AV × AV):=match (Zj ops k).op with
 | .mapUpdate t m x v=>if EL P t kt et then some (F.ev m,F.ev x,F.ev v) else none
 | _=>none
theorem Z8r {K:Fr->List Res->Prop} (b:Nat) (kt et:TypeId) (L:List (Int × Int)) (z d y:Int) (hdst:(Zj ops k).dst=none) (hl:HM P ops F k kt et=some (vM b,.i z,.i y)) (hy:y=X7 L z+d)
  (hz:-9223372036854775808<=z/\z<=9223372036854775807) (hv:-9223372036854775808<=y/\y<=9223372036854775807) (hL:L.length<=4294967296)
  (hK:K F (rM P b kt et (L++[(z,d)])::h2)):XU P n (Zj ops k) F (rM P b kt et L::h2) K:=by
 unfold HM at hl
 generalize hoo:Zj ops k=o at hl hdst
 obtain ⟨dst,op,type,pos,after,guard⟩:=o
 simp only at hdst
 subst hdst
 cases op<;>simp only at hl<;>try (cases hl)
 rename_i t m x v
 split at hl
 ·rename_i hm
  have hm:=OA hm
  simp only [Xo,Prod.mk.injEq] at hl
  obtain ⟨l1,l2,l3⟩:=hl
  intro Q w G a hF hh
  have v1:=hF.ev m
  have v2:=hF.ev x
  have v3:=hF.ev v
  rw [l1] at v1
  rw [l2] at v2
  rw [l3] at v3
  have v1:=v1.val_inv
  have v2:=v2.val_inv
  have v3:=v3.val_inv
  obtain ⟨D,hown,hD⟩:=EO.1 (hh.ok _ (YV ..))
  have hwf:=L5 hz
  have hwy:=L5 hv
  obtain ⟨w',q1,q2,q3⟩:=hown.update (int_keyed hm.k) hm.m (by simp only [maxLen];omega) (keyOf_int_mk hm.k hwf) (plainElem_int hm.e hwy)
  have hr:(execOp a.eval { dst:=none,op:=.mapUpdate t m x v,type:=type,pos:=pos,after:=after,guard:=guard }).run P w=.ok .skip w':=by
   simp only [execOp,v1,v2,v3]
   simp [q1]
  have hD2:DR (D.put (.int .i64 z) (.lit (.int .i64 y))) (L++[(z,d)]):=by rw [hy];exact hD.snoc hown.isMap z d
  have hro:Ux w' G (rM P b kt et (L++[(z,d)])):=EO.2 ⟨_,by rw [Yz];exact q2,hD2⟩
  obtain ⟨j1,j2⟩:=hh.mapTo q3 hro
  unfold Oper.wp
  rw [hr]
  exact ⟨_,_,G,hK,by simpa [Act.put] using hF.mono (j2.agree hh),j1,j2⟩
 ·cases hl
def Gl (P:Program) (ops:Array Oper) (F:Fr) (k:Nat):Option AV:=match (Zj ops k).op with
 | .call c=>match c.callee,c.args.toList,c.argTypes.toList with
  | .builtin .clear,[x],[t]=>(match P.underlying t with | some (.map _ _)=>some (F.ev x) | _=>none)
  | _,_,_=>none
 | _=>none
theorem Z8n {K:Fr->List Res->Prop} (b:Nat) (kt et:TypeId) (L:List (Int × Int)) (hdst:(Zj ops k).dst=none) (hl:Gl P ops F k=some (vM b))
  (hK:K F (rM P b kt et []::h2)):XU P n (Zj ops k) F (rM P b kt et L::h2) K:=by
 unfold Gl at hl
 generalize hoo:Zj ops k=o at hl hdst
 obtain ⟨dst,op,type,pos,after,guard⟩:=o
 simp only at hdst
 subst hdst
 cases op<;>simp only at hl<;>try (cases hl)
 rename_i c
 obtain ⟨callee,args,tys⟩:=c
 simp only at hl
 split at hl
 case h_2=>cases hl
 rename_i x t hargs htys
 split at hl
 case h_2=>cases hl
 rename_i ka ea ht
 simp only [Xo] at hl
 have e1:args=#[x]:=by rw [<-VM (xs:=args),hargs]
 have e2:tys=#[t]:=by rw [<-VM (xs:=tys),htys]
 subst e1 e2
 intro Q w G a hF hh
 have v1:=hF.ev x
 rw [hl] at v1
 have v1:=v1.val_inv
 obtain ⟨es,cl,o1,o2⟩:=hh.ok (rM P b kt et L) (YV ..)
 have hr:(Builtin.clear_ #[t] type #[.map (some b)]).run P w=.ok (.tuple #[]) (ChangeMaps.setBlock w b (.map #[] cl)):=by
  simp [Builtin.clear_,Vr ht,MapKept.run_getObj_map o1,MapKept.run_setObj_map _ o1,Result.andThen,ChangeMaps.setBlock]
 have hr2:(execOp a.eval { dst:=none,op:=.call { callee:=.builtin .clear,args:=#[x],argTypes:=#[t] },type:=type,pos:=pos,after:=after,guard:=guard }).run P w=.ok (.value (.tuple #[])) (ChangeMaps.setBlock w b (.map #[] cl)):=by
  simp only [execOp,resolve,invoke,builtin,Sem.run_bind,Sem.run_pure,Result.andThen_ok,Bg,Ww,QQ,v1,hr]
 have hg:w.grownBy (ChangeMaps.setBlock w b (.map #[] cl)) (some b):=⟨rfl,rfl,rfl,by simp [ChangeMaps.setBlock],fun i _ hi=>ChangeMaps.heap_setBlock_other o1 _ (fun e=>hi (by rw [e]))⟩
 have hro:Ux (ChangeMaps.setBlock w b (.map #[] cl)) G (rM P b kt et []):=⟨#[],cl,ChangeMaps.heap_setBlock_same o1 _,⟨by simp,MapKept.stamped_empty cl,by simp⟩,TO _,DR.nil⟩
 obtain ⟨j1,j2⟩:=hh.mapTo hg hro
 unfold Oper.wp
 rw [hr2]
 exact ⟨_,_,G,hK,by simpa [Act.put] using hF.mono (j2.agree hh),j1,j2⟩
def OI (ops:Array Oper) (F:Fr) (k:Nat):Option AV:=match (Zj ops k).op with
 | .unOp .neg _ x=>some (F.ev x)
 | _=>none
theorem Z6i (z:Int) (hz:-9223372036854775807<=z/\z<=9223372036854775807) (hl:OI ops F k=some (.i z):=by kernel_rfl):X8 P (Zj ops k) F h [] (.i (-z)):=by
 unfold OI at hl
 generalize hoo:Zj ops k=o at hl
 obtain ⟨dst,op,type,pos,after,guard⟩:=o
 cases op<;>simp only at hl<;>try (cases hl)
 rename_i u t x
 cases u<;>simp only at hl<;>try (cases hl)
 simp only [Xo] at hl
 intro n w G a hF hh
 have v1:=hF.ev x
 rw [hl] at v1
 have v1:=v1.val_inv
 refine ⟨_,.val,fun w' _ _=>?_⟩
 simp only [execOp,v1]
 refine Vd ?_
 simp only [Op.unary,Op.intArith,Sem.run_pure]
 have hw:IntKind.i64.wrap (0-z)=-z:=by rw [IntKind.wrap_i64];omega
 rw [hw]
theorem iMk (kt et:TypeId) (hK:∀b,SI P n ops B (k+1) (F.put (Zj ops k).dst (vM b)) (rM P b kt et []::h)) (hk:YE n ops F k=true:=by kernel_rfl) (ha:HK ops k=true:=by kernel_rfl):SI P n ops B k F h:=
 Uq hk (Z8q kt et (VL hk).2.1 ha hK)
theorem Ez (j b:Nat) (kt et:TypeId) (L:List (Int × Int)) (z:Int) (hz:-9223372036854775808<=z/\z<=9223372036854775807) (hl:HE P ops F k kt et=some (vM b,.i z):=by kernel_rfl) (hj:h[j]? = some (rM P b kt et L):=by kernel_rfl) :
  X8 P (Zj ops k) F h [b] (.i (X7 L z)):=Zcf j b kt et L z hl hj hz
theorem MA (i j:Nat) (js bs:List Nat) (b:Nat) (kt et:TypeId) (L:List (Int × Int)) (z d y:Int) (hy:y=X7 L z+d) (hz:-9223372036854775808<=z/\z<=9223372036854775807) (hv:-9223372036854775808<=y/\y<=9223372036854775807) (hL:L.length<=4294967296)
  (hK:Yu P n ops B (T.filter fun t=>!V6 ops i t.1) fuel (done++[i]) F (rM P b kt et (L++[(z,d)])::XH [j] h)) (hk:YE n ops F i=true:=by kernel_rfl) (hdst:(Zj ops i).dst=none:=by kernel_rfl) (hl:HM P ops F i kt et=some (vM b,.i z,.i y):=by kernel_rfl) (hp:Wo [j] h=some [rM P b kt et L]:=by kernel_rfl)
  (ho:Us ops i T=bs:=by kernel_rfl) (hj:js.map (fun q=>(WD (XH [j] h))[q]?)=bs.map some:=by kernel_rfl):VC P n ops B T fuel done F h i:=
 KX [j] js bs hk (Vp hp) ho hj (Z8r (h2:=[]) b kt et L z d y hdst hl hy hz hv hL hK)
theorem iCl (j b:Nat) (kt et:TypeId) (L:List (Int × Int)) (hK:SI P n ops B (k+1) F (rM P b kt et []::XH [j] h)) (hk:YE n ops F k=true:=by kernel_rfl) (hdst:(Zj ops k).dst=none:=by kernel_rfl) (hl:Gl P ops F k=some (vM b):=by kernel_rfl) (hp:Wo [j] h=some [rM P b kt et L]:=by kernel_rfl):SI P n ops B k F h:=
 Uq hk (XU.perm (Ue (Vp hp)) (Z8n b kt et L hdst hl hK))
end
end Go.Abs
end
namespace Go.Abs
def ev (s:Z8):Int × Int:=(gI s.args 0,if s.op=14 then 1 else -1)
def evs (rn:List Z8):List (Int × Int):=rn.map ev
def Aj (acc:LI) (L:List (Int × Int)):LI:=L.foldl (fun a p=>VP a p.1) acc
def YQ (L:List (Int × Int)):LI:=Aj [] L
theorem Z84 (L:List (Int × Int)) (p:Int × Int):YQ (L++[p])=VP (YQ L) p.1:=by rw [YQ,Aj,List.foldl_append];rfl
theorem OF:∀(L:List (Int × Int)) {acc:LI},JQ acc->JQ (Aj acc L)
 | [],acc,h=>h
 | p::r,acc,h=>OF r (acc:=VP acc p.1) (NS h)
theorem EN (L:List (Int × Int)):JQ (YQ L):=OF L List.Pairwise.nil
theorem OH:∀(L:List (Int × Int)) {acc:LI} {v:Int},v∈Aj acc L↔v∈acc∨∃p∈L,p.1=v
 | [],acc,v=>by simp [Aj]
 | p::r,acc,v=>by
  have:=OH r (acc:=VP acc p.1) (v:=v)
  show v∈Aj (VP acc p.1) r↔_
  rw [this,Hh]
  simp only [Yw,exists_eq_or_imp]
  constructor
  ·rintro ((h|h)|h)
   ·exact .inl h
   ·exact .inr (.inl h.symm)
   ·exact .inr (.inr h)
  ·rintro (h|h|h)
   ·exact .inl (.inl h)
   ·exact .inl (.inr h.symm)
   ·exact .inr h
theorem CT {L:List (Int × Int)} {v:Int}:v∈YQ L↔∃p∈L,p.1=v:=by rw [YQ,OH];simp
theorem OG:∀(L:List (Int × Int)) (acc:LI),(Aj acc L).length<=acc.length+L.length
 | [],acc=>YX _
 | p::r,acc=>by
  have h1:=OG r (VP acc p.1)
  have h2:=NT acc p.1
  show (Aj (VP acc p.1) r).length<=_
  rw [XF];omega
theorem HL (L:List (Int × Int)):(YQ L).length<=L.length:=by have:=OG L [];rw [YQ];simpa using this
def Un (L:List (Int × Int)):Prop:=∀p∈L,p.2=1∨p.2=-1
def DD (z:Int):Nat:=z.toNat+(-z).toNat
def Jl:List (Int × Int)->Int->Nat
 | [],_=>0
 | p::r,v=>(if p.1=v then 1 else 0)+Jl r v
theorem HN:∀{L:List (Int × Int)} (v:Int),Un L->DD (X7 L v)<=Jl L v
 | [],v,_=>YX _
 | p::r,v,h=>by
  have h1:=HN (L:=r) v fun q hq=>h q (Xv _ hq)
  have h2:=h p (YV ..)
  rw [X7,Jl]
  unfold DD at h1 ⊢
  split<;>omega
theorem Ms:∀(L:List (Int × Int)) (v:Int),Jl L v<=L.length
 | [],v=>YX _
 | p::r,v=>by have:=Ms r v;rw [Jl,XF];split<;>omega
theorem BU {L:List (Int × Int)} (v:Int) (h:Un L):-(L.length:Int)<=X7 L v/\X7 L v<=(L.length:Int):=by
 have h1:=HN v h
 have h2:=Ms L v
 unfold DD at h1;omega
def Uv (L:List (Int × Int)):LI->Nat
 | []=>0
 | v::r=>Jl L v+Uv L r
theorem Rz:∀vs:LI,Uv [] vs=0
 | []=>rfl
 | v::r=>by rw [Uv,Jl,Rz r]
theorem RA {p:Int × Int} {L:List (Int × Int)}:∀{vs:LI},p.1∉vs->Uv (p::L) vs=Uv L vs
 | [],_=>rfl
 | v::r,h=>by
  rw [Uv,Uv,Jl,Z4 (fun e=>h (by rw [e];exact YV ..)),RA fun z=>h (Xv _ z),Vf]
theorem Ry {p:Int × Int} {L:List (Int × Int)}:∀{vs:LI},JQ vs->Uv (p::L) vs<=1+Uv L vs
 | [],_=>TO _
 | v::r,h=>by
  obtain ⟨h1,h2⟩:=Vm.1 h
  have ih:=Ry (p:=p) (L:=L) (vs:=r) h2
  rw [Uv,Uv,Jl]
  split
  ·rename_i e
   rw [RA (p:=p) (L:=L) (vs:=r) (fun z=>by have:=h1 _ z;omega)];omega
  ·omega
theorem IQ:∀(L:List (Int × Int)) {vs:LI},JQ vs->Uv L vs<=L.length
 | [],vs,_=>by rw [Rz];exact TO _
 | p::r,vs,h=>by have h1:=IQ r h;have h2:=Ry (p:=p) (L:=r) h;rw [XF];omega
theorem Rx (L:List (Int × Int)):∀(a b:LI),Uv L (a++b)=Uv L a+Uv L b
 | [],b=>by rw [Dw,Uv,Vf]
 | v::r,b=>by rw [Kn,Uv,Uv,Rx L r];omega
theorem Zcx (L:List (Int × Int)) (vs:LI) (k:Nat):Uv L (vs.take k)<=Uv L vs:=by
 have:=Rx L (vs.take k) (vs.drop k)
 rw [Lb] at this;omega
def UC (L:List (Int × Int)) (vs:LI):LI:=vs.flatMap fun v=>List.replicate (X7 L v).toNat v
def Tm (L:List (Int × Int)) (vs:LI):LI:=vs.flatMap fun v=>List.replicate (-(X7 L v)).toNat v
theorem MG {L:List (Int × Int)} {vs:LI} {k:Nat} {v:Int} (h:vs[k]? = some v):UC L (vs.take (k+1))=UC L (vs.take k)++List.replicate (X7 L v).toNat v:=by rw [WP h,UC,List.flatMap_append];simp [UC]
theorem MF {L:List (Int × Int)} {vs:LI} {k:Nat} {v:Int} (h:vs[k]? = some v):Tm L (vs.take (k+1))=Tm L (vs.take k)++List.replicate (-(X7 L v)).toNat v:=by rw [WP h,Tm,List.flatMap_append];simp [Tm]
theorem Gv {L:List (Int × Int)} (h:Un L):∀vs:LI,(UC L vs).length+(Tm L vs).length<=Uv L vs
 | []=>YX _
 | v::r=>by
  have h1:=Gv h r
  have h2:=HN v h
  unfold DD at h2
  rw [Uv]
  simp only [UC,Tm,JP,Yz,List.length_replicate] at h1 ⊢
  omega
theorem A4 {L:List (Int × Int)} (h:Un L) (k:Nat):(UC L ((YQ L).take k)).length+(Tm L ((YQ L).take k)).length<=L.length:=by
 have h1:=Gv h ((YQ L).take k)
 have h2:=Zcx L (YQ L) k
 have h3:=IQ L (EN L)
 omega
theorem Cs {L:List (Int × Int)} (h:Un L):(UC L (YQ L)).length+(Tm L (YQ L)).length<=L.length:=QR (Gv h _) (IQ L (EN L))
def Ve (L:List (Int × Int)):List Z8:=(UC L (YQ L)).map (XW 14)++(Tm L (YQ L)).map (XW 15)
theorem F6 {L:List (Int × Int)} (h:Un L):(Ve L).length<=L.length:=by
 have:=Cs h
 rw [Ve,Yz,Uh,Uh];exact this
theorem IJ (op:Int):∀l:LI,Y6 (l.map (XW op))=2*l.length
 | []=>rfl
 | v::r=>by rw [Ww,Y6,IJ op r,XF];show 1+1+0+_=_;omega
theorem PS {L:List (Int × Int)} (h:Un L):Y6 (Ve L)<=2*L.length:=by
 have:=Cs h
 rw [Ve,Fe,IJ,IJ];omega
theorem Un.snoc {L:List (Int × Int)} (h:Un L) (s:Z8):Un (L++[ev s]):=fun p hp=>by
 rcases Yv.1 hp with hp|hp
 ·exact h p hp
 ·rw [YH.1 hp,ev];dsimp only;split
  ·exact .inl rfl
  ·exact .inr rfl
theorem Un.nil:Un []:=fun p hp=>by cases hp
theorem Un.evs (rn:List Z8):Un (evs rn):=fun p hp=>by
 obtain ⟨s,_,rfl⟩:=Xb.1 hp
 rw [ev];dsimp only;split
 ·exact .inl rfl
 ·exact .inr rfl
theorem N7 (rn:List Z8) (s:Z8):evs (rn++[s])=evs rn++[ev s]:=by rw [evs,List.map_append];rfl
theorem CC (rn:List Z8):(evs rn).length=rn.length:=Uh ..
theorem N8 {rn:List Z8} {k:Nat} {s:Z8} (h:rn[k]? = some s):evs (rn.take (k+1))=evs (rn.take k)++[ev s]:=by rw [WP h,N7]
mutual
def TR:Z8->Z8
 | .mk op num into args kids=>.mk op num into args (UK kids)
def UK:List Zh->List Zh
 | []=>[]
 | b::r=>W6 b::UK r
def WT:List Z8->List (Int × Int)->List Z8
 | [],L=>Ve L
 | s::r,L=>if s.op=14∨s.op=15 then WT r (L++[ev s]) else Ve L++TR s::WT r []
def W6:Zh->Zh
 | .mk steps res=>.mk (WT steps []) res
end
theorem Ge (s:Z8):TR s=.mk s.op s.num s.into s.args (UK s.kids):=by cases s;rw [TR];rfl
theorem Gc (b:Zh):W6 b=.mk (WT b.steps []) b.result:=by cases b;rw [W6];rfl
theorem DM:∀bs:List Zh,UK bs=bs.map W6
 | []=>by rw [UK];rfl
 | b::r=>by rw [UK,DM r];rfl
def VZ (r:YB):YB:=⟨r.params,r.lent,r.result,W6 r.body⟩
def Wm (n:Zl):Zl:=⟨n.decls,n.routines.map VZ⟩
def XI (n:Zl):Zl × Bool:=if VX n=true then (Wm n,true) else (EQ,false)
section
variable {ds:List Zs}
mutual
theorem Z0t:∀s:Z8,wS ds s->(TR s).sz<=s.sz
 | .mk op num into args kids,h=>by
  rw [wS] at h
  have:=M9 kids h.2.2.2
  rw [TR,Z8.sz,Z8.sz];omega
theorem M9:∀bs:List Zh,J9 ds bs->Xl (UK bs)<=Xl bs
 | [],_=>by rw [UK];exact YX _
 | b::r,h=>by
  have h1:=Gd b h.1
  have h2:=M9 r h.2
  rw [UK,Xl,Xl];omega
theorem DP:∀(xs:List Z8) {L:List (Int × Int)},KO ds xs->Un L->Y6 (WT xs L)<=Y6 xs+2*L.length
 | [],L,_,hu=>by rw [WT,Y6];have:=PS hu;omega
 | s::r,L,h,hu=>by
  rw [WT,Y6]
  split
  ·rename_i hp
   have h1:=DP r (L:=L++[ev s]) h.2 (hu.snoc s)
   obtain ⟨_,hk,a,ha⟩:=Ba h.1 (by simp [YU];omega)
   have h2:=s.sz_eq
   rw [ha] at h2
   rw [Yz] at h1
   simp only [XF,Vt] at h1 h2
   omega
  ·have h1:=DP r (L:=[]) h.2 Un.nil
   have h2:=Z0t s h.1
   have h3:=PS hu
   rw [Fe,Y6]
   simp only [Vt] at h1
   omega
theorem Gd:∀b:Zh,wB ds b->(W6 b).sz<=b.sz
 | .mk steps res,h=>by
  rw [wB] at h
  have:=DP steps (L:=[]) h Un.nil
  simp only [Vt] at this
  rw [W6,Zh.sz,Zh.sz];omega
end
end
theorem PB {n:Zl}:∀rs:List YB,(∀r∈rs,wB n.decls r.body)->T7 (rs.map VZ)<=T7 rs
 | [],_=>by simp [T7]
 | r::rs,h=>by
  have h1:=PB rs fun q hq=>h q (Xv _ hq)
  have h2:=Gd r.body (h r (YV ..))
  rw [Zh.sz_cst,Zh.sz_cst] at h2
  rw [Ww,T7,T7]
  have h3:VA (VZ r)=r.params.length+(r.lent.length+(W6 r.body).cst):=rfl
  have h4:VA r=r.params.length+(r.lent.length+r.body.cst):=rfl
  omega
theorem Z0v {n:Zl} (hz:WI n):Wj (XI n).1<=9*Wj n:=by
 unfold XI
 split
 ·rename_i hb
  obtain ⟨h1,_,h3⟩:=Bo hz hb
  have h:=PB n.routines (Dq h1 hz h3)
  unfold Wj VT Wm
  simp only [Uh]
  omega
 ·exact TO _
theorem Gf {xs:List Z8} {k:Nat} {s:Z8} {L:List (Int × Int)} {acc T:List Z8} (h:xs[k]? = some s) (hp:s.op=14∨s.op=15) (ha:acc++WT (xs.drop k) L=T):acc++WT (xs.drop (k+1)) (L++[ev s])=T:=by
 rw [ZH h,WT,Z6 hp] at ha;exact ha
theorem Mb {xs:List Z8} {k:Nat} {s:Z8} {L:List (Int × Int)} {acc T:List Z8} (h:xs[k]? = some s) (hp:¬(s.op=14∨s.op=15)) (ha:acc++WT (xs.drop k) L=T):((acc++Ve L)++[TR s])++WT (xs.drop (k+1)) []=T:=by
 rw [ZH h,WT,Z4 hp] at ha;rw [<-ha];simp
theorem Ma {xs:List Z8} {k:Nat} {L:List (Int × Int)} {acc T:List Z8} (h:xs.length<=k) (ha:acc++WT (xs.drop k) L=T):acc++Ve L=T:=by
 rw [YR h,WT] at ha;exact ha
theorem DO {ds:List Zs} {xs:List Z8} (h:KO ds xs) {k:Nat} {L:List (Int × Int)} {acc:List Z8} (ha:acc++WT (xs.drop k) L=WT xs []):acc.length<=Y6 xs:=by
 have h1:=DP xs (L:=[]) h Un.nil
 have h2:=Fe (xs:=acc) (ys:=WT (xs.drop k) L)
 have h3:=Ol (xs:=acc)
 rw [ha] at h2
 simp only [Vt] at h1
 omega
theorem Z86 {rn:List Z8} {k:Nat} {s:Z8} {v:Int} (h:rn[k]? = some s):X7 (evs (rn.take (k+1))) v=X7 (evs (rn.take k)) v+(if gI s.args 0=v then (if s.op=14 then 1 else -1) else 0):=by
 rw [N8 h,EP]
 show _+((if gI s.args 0=v then (if s.op=14 then 1 else -1) else 0)+0)=_
 rw [Int.add_zero]
theorem Z9j {z x:Int} (h:0<z):List.replicate z.toNat x=[x]++List.replicate (z-1).toNat x:=by
 rw [show z.toNat=(z-1).toNat+1 by omega,Bh];rfl
theorem Z9i {y x:Int} (h:y<0):List.replicate (-y).toNat x=[x]++List.replicate (-(y+1)).toNat x:=by
 rw [show (-y).toNat=(-(y+1)).toNat+1 by omega,Bh];rfl
end Go.Abs
section
namespace Go.Proofs
open Go.RowKit Go.Maps Go.Sort Go.Shelf
theorem Tryz.sortsA (m:Nat):AnyZI.SortsIn Tryz.prog Tryz.sortedA_ren Fence.wide m:=
 ⟨fun blk off cap ss W hH hblk YD=>callsIn_wide.2 (AnyM.slices_Sort_int Tryz.sortA blk off cap ss W hH hblk YD),
  fun p cap W=>callsIn_wide.2 (AnyM.slices_Sort_int_none Tryz.sortA p cap W)⟩
theorem Tryz.keys_call (mb:Option Nat) (W:World):Calls Tryz.prog 103 #[.map mb] W fun e w'=>e=.returned (.func (.func 165) #[] #[.pointer (some ⟨W.heap.size,0,none⟩)])/\w'=W.alloc (.cells #[.map mb] 157):=
 (callsIn_wide (n:=5)).1 (AnyZI.keys_in Tryz.keysA Fence.wide 5 trivial rfl mb W)
theorem Tryz.sorted_call (c b nn:Nat) (D0:DataW Unit) (R:Value->Option (DataW Unit × List MemPlace)) (w:World) (hc:c<w.heap.size) (hcell:w.cell? ⟨c,0,none⟩=some (.map (some b))) (hown:w.ownsMap Tryz.prog 3 R b nn D0) (hmax:Maps.size D0<=maxLen) (hbytes:Maps.size D0*8<=140737488355328) :
  Calls Tryz.prog 102 #[.func (.func 165) #[] #[.pointer (some ⟨c,0,none⟩)]] w fun e w'=>∃(v:Value) (ss:Go.Abs.LI),e=.returned v/\ss.Perm (intKeys D0) /\
   w'.ownsRow w.heap.size 3 1 v ss.length ((ss.mergeSort (fun x y=>decide (x<=y))).map encZ)/\(v=.slice none 0 0↔ss=[])/\Below w.heap.size w w':=by
 have hseq:SeqGives Fence.wide 2 Tryz.prog 165 #[.pointer (some ⟨c,0,none⟩)] encZ (fun ss=>ss.Perm (intKeys D0)) (Maps.size D0) w:=
  AnyZI.keys_gives (ρ:=Tryz.keysA_ren) { Tryz.keysA with } Fence.wide _ trivial rfl Go.Abs.om c b nn D0 w hc hcell hown
 have cS:=AnyZI.sorted_in Tryz.sortedA Fence.wide 5 trivial trivial trivial trivial rfl Go.Abs.om (Tryz.sortsA _) (enters_of Tryz.func164 Go.Abs.kr rfl) 165 #[.pointer (some ⟨c,0,none⟩)] trivial (enters_of Tryz.func165 Go.Abs.kr rfl) _ _ hmax hbytes _ hseq
 exact (callsIn_wide (n:=5)).1 cS
end Go.Proofs
namespace Go.Abs
open Go.Proofs Go.RowKit Go.Maps Go.Sort
theorem Ph:∀{w:World} {G:ZE} (ys:LI),Y9 w G (Zi ys) (ys.map encZ)
 | _,_,[]=>.nil
 | _,_,_::r=>.cons .val (Ph r)
theorem Z7t (b:Nat):Wg Tryz.prog 103 [vM b] [] (fun r h=>∃c,r=.val (.func (.func 165) #[] #[.pointer (some ⟨c,0,none⟩)])/\h=[.obj c [vM b]]):=by
 intro w G vs hv hh
 obtain ⟨u,rfl,hu⟩:∃u,vs=[u]/\RV w G (vM b) u:=by
  cases hv with
  | cons h1 t=>cases t;exact ⟨_,rfl,h1⟩
 have hu:=hu.val_inv
 subst hu
 refine (Tryz.keys_call (some b) w).mono ?_
 rintro e w' ⟨rfl,rfl⟩
 obtain ⟨j1,j2⟩:=hh.alloc_obj #[.map (some b)] 157 (ls:=[vM b]) (.cons .val .nil)
 exact ⟨_,_,_,G,rfl,⟨_,rfl,rfl⟩,.val,j1,j2⟩
theorem Z83 {P:Program} {w:World} {b nn kt et:Nat} {D:DataW Unit} {L:List (Int × Int)} (hk:P.underlying kt=some (.int .i64)) (hown:w.ownsMap P kt (plainElem P et) b nn D) (hD:DR D L):(YQ L).Perm (intKeys D):=by
 obtain ⟨es,hE,hpw,_⟩:=hown.entries (int_keyed hk)
 obtain ⟨es',hE',hko⟩:=hown.keysOf
 obtain rfl:es=es':=by rw [hE] at hE';simpa using hE'
 subst hE
 exact perm_intKeys hpw (fun p hp=>by obtain ⟨v,hv⟩:=hko p hp;obtain ⟨x,_,hx,_⟩:=Maps.keyOf_i64 hk hv;exact ⟨x,hx⟩) ((EN L).imp fun h=>Int.ne_of_lt h) (fun x=>by rw [CT,hD.2])
theorem Zb3 (L:List (Int × Int)):(YQ L).mergeSort leI=YQ L:=
 List.mergeSort_of_pairwise ((EN L).imp fun h=>by simp only [leI,decide_eq_true_eq];omega)
theorem Zb2 (c b:Nat) (L:List (Int × Int)) (hL:L.length<=1000000000):Wg Tryz.prog 102 [.val (.func (.func 165) #[] #[.pointer (some ⟨c,0,none⟩)])] [.obj c [vM b],rM Tryz.prog b 3 3 L]
  (fun r h=>∃g:Hd,r=.h g/\h=[rV g (YQ L),.obj c [vM b],rM Tryz.prog b 3 3 L]):=by
 intro w G vs hv hh
 obtain ⟨u,rfl,hu⟩:∃u,vs=[u]/\RV w G (.val (.func (.func 165) #[] #[.pointer (some ⟨c,0,none⟩)])) u:=by
  cases hv with
  | cons h1 t=>cases t;exact ⟨_,rfl,h1⟩
 have hu:=hu.val_inv
 subst hu
 obtain ⟨D,hown,hD⟩:=EO.1 (hh.ok (rM Tryz.prog b 3 3 L) (by simp))
 obtain ⟨cs,e0,Z5,Zd⟩:=hh.ok (.obj c [vM b]) (YV ..)
 have hcs:cs.toList=[.map (some b)]:=by
  generalize cs.toList=l at Zd
  cases Zd with
  | cons h1 t=>cases t;rw [h1.val_inv]
 have hcell:w.cell? ⟨c,0,none⟩=some (.map (some b)):=by
  rw [cell_of_row w c 0 cs e0 (0,0) Z5,<-Bd,hcs];rfl
 have YD:Maps.size D<=L.length:=hown.size_le
 have hp:=Z83 (kt:=3) (et:=3) kr hown hD
 refine (Tryz.sorted_call c b L.length D _ w (VB.1 Z5).1 hcell hown (by simp only [maxLen];omega) om).mono ?_
 rintro e w' ⟨v,ss,rfl,hS,hrow,hnil,hb⟩
 have hks:ss.mergeSort (fun x y=>decide (x<=y))=YQ L:=(mergeSort_of_perm_i (hS.trans hp.symm)).trans (Zb3 L)
 have hlen:ss.length=(YQ L).length:=(hS.trans hp.symm).length_eq
 rw [hks] at hrow
 obtain ⟨g,rfl,hvec,hblk⟩:∃g:Hd,v=g.v/\JY w' G g.v (Zi (YQ L))/\∀b' o,Res.fp (.vec g.v (Zi (YQ L))) b' o->w.heap.size<=b':=by
  rcases hrow.2 with ⟨rfl,hz⟩|⟨gb,cap,cur,rfl,hbase,hgb,r1,r2,r3,r4⟩
  ·have:YQ L=[]:=List.eq_nil_of_length_eq_zero om
   refine ⟨hN,rfl,.inl ⟨rfl,by rw [this];rfl⟩,fun b' o hf=>hf.elim⟩
  ·refine ⟨⟨some ⟨gb,0,none⟩,ss.length,cap⟩,rfl,.inr ⟨gb,cap,cur,3,by rw [Yk,<-hlen],hgb,by rw [Yk,<-hlen];exact r1,by omega,?_⟩,fun b' o hf=>by have hf:b'=gb:=hf;omega⟩
   rw [Yk,<-hlen]
   rw [UI] at r4
   rw [r4]
   exact Ph _
 have hH:ZW w' G [rV g (YQ L)]:=⟨fun r hr=>by rw [YH.1 hr];exact hvec,Kq _ _,fun r hr b' o hf hg=>by
  rw [YH.1 hr] at hf
  have h1:=hblk b' o hf
  have h2:=hh.lt b' o hg
  omega,fun b' o hg=>Bj (hh.lt b' o hg) hb.size⟩
 have hX:Yr w G [] w' G [rV g (YQ L)]:=⟨hb.os,hb.tape,hb.output,hb.size,fun _ _ h=>h,fun b' hb'=>.inl (hb.block b' hb'),fun _ _ _ h=>.inl h,fun b' o hlt ⟨r,hr,hf⟩=>by
  rw [YH.1 hr] at hf
  have h1:=hblk b' o hf
  omega⟩
 obtain ⟨k1,k2⟩:=ZW.frame (h:=[]) (h':=[rV g (YQ L)]) (k:=[.obj c [vM b],rM Tryz.prog b 3 3 L]) hh hX hH
 exact ⟨_,_,_,G,rfl,⟨g,rfl,rfl⟩,.val,k1,k2⟩
end Go.Abs
end
namespace Go.Abs
mutual
def pS:Z8->Prop
 | .mk _ _ _ args kids=>(∀a∈args,0<=a/\a<=900000000)/\B0 kids
def B0:List Zh->Prop
 | []=>True
 | b::r=>pB b/\B0 r
def B1:List Z8->Prop
 | []=>True
 | s::r=>pS s/\B1 r
def pB:Zh->Prop
 | .mk steps _=>B1 steps
end
theorem ET (s:Z8):pS s↔(∀a∈s.args,0<=a/\a<=900000000)/\B0 s.kids:=by cases s;rw [pS];rfl
theorem Z95 (b:Zh):pB b↔B1 b.steps:=by cases b;rw [pB];rfl
theorem P9:∀{xs:List Z8},B1 xs↔∀s∈xs,pS s
 | []=>by simp [B1]
 | s::r=>by rw [B1,P9];simp
theorem P7:∀{xs:List Zh},B0 xs↔∀s∈xs,pB s
 | []=>by simp [B0]
 | s::r=>by rw [B0,P7];simp
theorem Z93 {b:Zh} {k:Nat} {s:Z8} (h:pB b) (hs:b.steps[k]? = some s):pS s:=P9.1 ((Z95 b).1 h) s (YA hs)
theorem Z96 {s:Z8} {k:Nat} {b:Zh} (h:pS s) (hb:s.kids[k]? = some b):pB b:=P7.1 ((ET s).1 h).2 b (YA hb)
theorem TC (xs:List ZU):(WB xs).length=xs.length:=by rw [Cz,Uh]
theorem Po {j:Nat} {x:Int}:List.replicate (j+1) x=List.replicate j x++[x]:=by rw [List.replicate_succ']
section
variable {n:Zl}
mutual
theorem Z97:∀(s:Z8) {us:LI},us.length+4*s.sz<=900000000->Wy n.decls->0<=ZQ n us s->pS s
 | .mk op num into args kids,us,hu,hd,g=>by
  have hf:=B6 g
  rw [pS]
  refine ⟨fun a ha=>?_,?_⟩
  ·have:=hf.args a ha;omega
  ·refine P8 kids hd fun i b hb=>?_
   have hl:0<kids.length:=by have:=(XZ.1 hb).1;omega
   obtain ⟨k1,k2,k3⟩:=hf.kids (Oa g hl)
   have k1':kids.length=(YF n.decls op num).length:=k1
   have hi:=(XZ.1 hb).1
   obtain ⟨mk,hmk⟩:=QH (xs:=YF n.decls op num) (j:=i) om
   have hk3:=Bm hd hmk
   have CJ:=Bq hb
   rw [Z8.sz] at hu
   exact ⟨us++mk,by rw [Yz];omega,k3 i b mk hb hmk⟩
theorem P8:∀(bs:List Zh),Wy n.decls->(∀(i:Nat) (b:Zh),bs[i]? = some b->∃us:LI,us.length+4*b.sz<=900000000/\0<=Ys n us b)->B0 bs
 | [],_,_=>True.intro
 | b::r,hd,h=>by
  obtain ⟨us,hq,hu⟩:=h 0 b rfl
  exact ⟨P6 b hq hd hu,P8 r hd fun i x hx=>h (i+1) x (by simpa using hx)⟩
theorem Pa:∀(xs:List Z8) {us vs:LI},us.length+4*Y6 xs<=900000000->Wy n.decls->Xr n xs us=some vs->B1 xs
 | [],_,_,_,_,_=>True.intro
 | s::r,us,vs,hu,hd,h=>by
  obtain ⟨g1,g2⟩:=C4 h
  rw [Y6] at hu
  have h1:=s.sz_pos
  have h2:=C1 n us s
  exact ⟨Z97 s om hd g1,Pa r om hd g2⟩
theorem P6:∀(b:Zh) {us:LI},us.length+4*b.sz<=900000000->Wy n.decls->0<=Ys n us b->pB b
 | .mk steps result,us,hu,hd,h=>by
  obtain ⟨fvs,t0,hvs,_,_⟩:=Bp h
  rw [Zh.sz] at hu
  rw [pB];exact Pa steps om hd hvs
end
end
theorem Z94 {n:Zl} (hn:YY n) (hz:WI n) (hbt:∀r∈n.routines,0<=Ys n r.params r.body):∀r∈n.routines,pB r.body:=fun r hr=>P6 r.body (by have:=hz.body r hr;have:=hn.params r hr;omega) hn.decls (hbt r hr)
theorem N6 {s:Z8} {L:List (Int × Int)} (h:pS s) {a:Int} (ha:s.args=[a]) (hk:∀p∈L,0<=p.1/\p.1<=1000000000):∀p∈L++[ev s],0<=p.1/\p.1<=1000000000:=fun p hp=>by
 rcases Yv.1 hp with hp|hp
 ·exact hk p hp
 ·rw [YH.1 hp]
  have:=((ET s).1 h).1 a (by rw [ha];exact YH.2 rfl)
  show 0<=gI s.args 0/\gI s.args 0<=1000000000
  rw [ha]
  show 0<=a/\a<=1000000000
  omega
end Go.Abs
section
namespace Go.Abs
end Go.Abs
namespace Go.Abs
end Go.Abs
namespace Go.Abs
end Go.Abs
namespace Go.Abs
section
variable {P:Program} {n:Nat} {ops:Array Oper} {k:Nat} {F:Fr} {h:List Res}
variable {B:Fr->List Res->Prop}
theorem iVM (l:Nat) (hK:∀v:Hd,SI P n ops B (k+1) (F.put (Zj ops k).dst (.h v)) (rV v (List.replicate l 0)::h)) (hl:l<=4294967296:=by omega) (hk:YE n ops F k=true:=by kernel_rfl)
  (hm:JE P ops F k=some ((l:Int),(l:Int),.i 0):=by kernel_rfl):SI P n ops B k F h:=
 Z4r (Zi (List.replicate l 0)) hk hm (YX _) hl (by simp [Zi]) fun v'=>F7 fun g hg=>by subst hg;exact hK g
end
end Go.Abs
end
section
namespace Go.Abs
end Go.Abs
namespace Go.Abs
end Go.Abs
end
namespace Go.Abs
section
variable {P:Program} {n:Nat} {ops:Array Oper} {B:Fr->List Res->Prop} {k:Nat} {F:Fr} {h:List Res} {T:List (Nat × List Nat)} {fuel:Nat} {done:List Nat}
theorem Nx (es es':List AV) (he:es=es') (len sz:Nat) (hK:∀v,SI P n ops B (k+1) (F.put (Zj ops k).dst (.sl es' (some v))) (.tail v sz::h)) (hk:YE n ops F k=true:=by kernel_rfl)
  (ha:Q0 P ops F k=some (Zu es,len,sz):=by kernel_rfl) (hlen:es.length=len:=by kernel_rfl) (hall:Jj es sz=true:=by kernel_rfl):SI P n ops B k F h:=by
 subst he;exact iL es len sz hK hk ha hlen hall
theorem dLE (i:Nat) (js bs:List Nat) (es es':List AV) (he:es=es') (len sz:Nat) (hK:∀v,Yu P n ops B (T.filter fun t=>!V6 ops i t.1) fuel (done++[i]) (F.put (Zj ops i).dst (.sl es' (some v))) (.tail v sz::h))
  (hk:YE n ops F i=true:=by kernel_rfl) (ha:Q0 P ops F i=some (Zu es,len,sz):=by kernel_rfl) (hlen:es.length=len:=by kernel_rfl) (hall:Jj es sz=true:=by kernel_rfl)
  (ho:Us ops i T=bs:=by kernel_rfl) (hj:js.map (fun j=>(WD h)[j]?)=bs.map some:=by kernel_rfl):VC P n ops B T fuel done F h i:=by
 subst he;exact dL i js bs es len sz hK hk ha hlen hall ho hj
end
open Go.Proofs
theorem NG (op:Int) (v:Int) :Za 104 [.i op,.i v] [] (fun r h=>∃(u:Value),r=.agg [.i op,.i 0,.i 0,ZV [v] u,TJ [] (.slice none 0 0)]/\h=[.tail u 1]):=by
 exact Zx 9 Tryz.func104 (ar (iA [.i 0,.i 0,.i 0,nl,nl] fun b1=>ie (ZM 2 (iL (Zi [v]) 1 1 fun v1=>Z1 1 (Y0 1 b1 [.i op,.i 0,.i 0,ZV [v] v1,nl] (ie (ZG (r3 [1] [.agg [.i op,.i 0,.i 0,ZV [v] v1,nl]] [0] [(b1,b1)] ⟨v1,rfl,rfl⟩ (Zk.agg (.cons (lr _) (.cons (lr _) (.cons (lr _) (.cons (lr _) (.cons (Zk.slh _ (by first|rfl|(subst_vars;rfl))) .nil))))))))))))))
theorem Z5o (s:Z8) (ys:List ZS) (kv:Value) (hl:s.args.length<=4294967296:=by exact ob):Za 166 [XO s,TJ ys kv] [] (fun r h=>∃(u:Value),r=.agg [.i s.op,.i s.num,.i s.into,ZV s.args u,TJ ys kv]/\h=[.tail u 1]):=by
 refine Zx 12 Tryz.func166 (ar (iA (WO s) fun b1=>iA [.i 0,.i 0,.i 0,nl,nl] fun b2=>ie (ZB 2 [1] (ic [] (Co s.args) ?_))))
 rintro _ _ ⟨v1,rfl,rfl⟩
 exact Z1 2 (Y0 2 b1 [.i s.op,.i s.num,.i s.into,ZV s.args v1,KI s.kids] (Z1 1 (Y0 0 b1 [.i s.op,.i s.num,.i s.into,ZV s.args v1,TJ ys kv] (ie (ZB 1 [0] (Y0 2 b2 [.i s.op,.i s.num,.i s.into,ZV s.args v1,TJ ys kv] (ie (ZG (r3 [2] [.agg [.i s.op,.i s.num,.i s.into,ZV s.args v1,TJ ys kv]] [0] [(b2,b2)] ⟨v1,rfl,rfl⟩ (lr _))))))))))
theorem Z0y (ds:List Zs) (hl_ds:ds.length<=4294967296:=by exact ob):Za 161 [ZI ds] [] (fun r h=>∃(v:Hd),r=.h v/\h=[rK v 3 (Zu (X1 ds))]):=by
 refine Zx 8 Tryz.func161 (Zf (Y8 1 (iN (X1 ds) (fun hz1=>?_) ?_)))
 ·have hz1:=Z2l hz1
  refine ie (W4 (Zf (Wl (IT (k:=3)) ?_)))
  subst hz1
  exact ZG (r2 [0] [nl] ⟨hN,rfl,rfl⟩ (Zk.hd (v:=hN)) (eq:=(rr (ls:=[]) rfl rz)))
 exact ie (XC (ak (ar (Hc 3 fun g1=>Z1 1 (Hb 0 g1 3 (X1 ds) none (Bz _) (by simp<;>omega) fun v1=>Z7 (r1 [0] ⟨v1,rfl,rfl⟩))))))
theorem Z0x (cs:List Xp) (hl_cs:cs.length<=4294967296:=by exact ob):Za 162 [JF cs] [] (fun r h=>∃(v:Hd),r=.h v/\h=[rK v 1 (Zu (Wa cs))]):=by
 refine Zx 8 Tryz.func162 (Zf (Y8 1 (iN (Wa cs) (fun hz1=>?_) ?_)))
 ·have hz1:=Z2j hz1
  refine ie (W4 (Zf (Wl (IT (k:=1)) ?_)))
  subst hz1
  exact ZG (r2 [0] [nl] ⟨hN,rfl,rfl⟩ (Zk.hd (v:=hN)) (eq:=(rr (ls:=[]) rfl rz)))
 exact ie (XC (ak (ar (Hc 1 fun g1=>Z1 1 (Hb 0 g1 1 (Wa cs) none (E2 _) (by simp<;>omega) fun v1=>Z7 (r1 [0] ⟨v1,rfl,rfl⟩))))))
theorem Z57 (ds:List Zs) (hd:Wy ds:=by exact ob):Za 99 [ZI ds] [] (fun r h=>∃(ys:List YM) (w:Value),r=Kb ys w/\h=[.many (YZ ys),.tail w 3]/\ys.map YM.er=ds):=by
 have hdl:=hd.len
 refine Zx 46 Tryz.func99 (Zf (ZM 1 (ic [] (Z0y ds) ?_)))
 rintro _ _ ⟨v1,rfl,rfl⟩
 refine Z0 (Y8 1 (Zg (Z6h 0 ds.length v1 3 (Zu (X1 ds)) (by rw [Nc])) (Z0 (ab 0 (Wl (tB [] [] [] (YZ []) (by simp [WN,WM,WV,WW,WX,WY,WU,Yx,YP,Xt,YS,X5,YZ,X2,Wd,We,Wf,Xe])) (ZR (fun fz gz m F h=>∃(k:Nat) (v:Hd) (ys:List YM),(k<=ds.length)/\(ys.map YM.er=ds.take k)/\(ys.length=k)/\F=sF [11] fz [(3,.h v),(10,.h v),(12,.i k)]/\h=[rK v 3 (Zu (XR ys++X1 (ds.drop k))),.many (YZ ys)]/\m=ds.length-k) _ _ _ ⟨0,v1,[],ob,rfl,rfl,rfl,rfl,rfl⟩ (wk [1,0] (fw (ZT fl)) (e:=(rr (ls:=Zu (X1 ds)) (by rfl) (rc rz)))) ?_))))))
 rintro m F h ⟨k,v,ys,ZX,Z9,Zz,rfl,rfl,rfl⟩
 refine Zf (aq (Xf ((k:Int)<(ds.length:Int)) (fun Z5=>?_) (fun Z5=>?_)))
 ·obtain ⟨x1,Z2⟩:=Zv ds k om
  have hcl:=hd.cons_at Z2
  refine O2 0 ds.length (v:=v) (Pw Zz ZX) om (fun g1 c1 he1=>?_)
  subst he1
  refine ak (aq (ab 1 (ZM 1 (Zg (J3 g1 ds.length c1 k 3 (k:Int)) (Xu (O3 0 g1 ds.length c1 3 (k*3) (Zu (XR ys++X1 (ds.drop k))) (Uc x1) 109 (QT x1) (by rw [Px Z2];exact Py (by rw [Js,Zz]))) (iA [.i 0,.i 0,nl] fun b1=>Z1 1 (Y0 0 b1 (Uc x1) (ie (ZB 4 [0] (ic [] (Z0x x1.cons) ?_))))))))))
  rintro _ _ ⟨v2,rfl,rfl⟩
  refine Zg (J3 g1 ds.length c1 k 3 (k:Int)) (Z1 1 (AU 2 g1 ds.length c1 3 (k*3+2) [.h v2] (Zu (XR ys++X1 (ds.drop k))) (Zu (XR ys)++([.i x1.frm,.i x1.to_,.h v2]++Zu (X1 (ds.drop (k+1))))) (by rw [Pw Zz ZX];simp;omega) (by rw [Px Z2];exact Za0 (by rw [Js,Zz])) (ie (ZB 2 [2] (iw (Vg x1.cons) (Z0 (ab 2 (Wl (tB [] [] [] (X5 []) (by simp [WN,WM,WV,WW,WX,WY,WU,Yx,YP,Xt,YS,X5,YZ,X2,Wd,We,Wf,Xe])) (ZR (fun fz gz m F h=>∃(j:Nat) (u:Hd) (zs:List X0),(j<=x1.cons.length)/\(zs.map X0.er=x1.cons.take j)/\(zs.length=j)/\F=sF [3,4,10,11,12,25,26] fz [(27,.i j)]/\h=[Zy gz 4,rK u 1 (Zu (Wn zs++Wa (x1.cons.drop j))),.row (.slice (some ⟨g1,0,none⟩) ds.length c1) 3 (Zu (XR ys)++([.i x1.frm,.i x1.to_,.h u]++Zu (X1 (ds.drop (k+1))))),.many (X5 zs)]/\m=x1.cons.length-j) _ _ _ ⟨0,v2,[],ob,rfl,rfl,rfl,rfl,rfl⟩ (wk [4,2,1,0] (ZT fl) (e:=(rc (rr (ls:=Zu (Wa x1.cons)) (by rfl) (rc (rc rz)))))) ?_)))))))))
  rintro m F h ⟨j,u,zs,T0,Xh,U7,rfl,rfl,rfl⟩
  refine Zf (aq (Xf ((j:Int)<(x1.cons.length:Int)) (fun Zd=>?_) (fun Zd=>?_)))
  ·obtain ⟨x2,Zt⟩:=Zv x1.cons j om
   have hfl:=hd.fields_at Z2 Zt
   refine O2 1 x1.cons.length (v:=u) (Pv U7 T0) om (fun g2 c2 he2=>?_)
   subst he2
   refine ak (aq (ab 3 (ZM 1 (Zg (Zq none (j:Int) 1 (Ky Zt)) (Z1 1 (iA [nl] fun b2=>Z1 1 (Y0 0 b2 (KH x2) (ie (aE 12 (Zm 10 12 [0,1] (dx 2 (J3 g1 ds.length c1 k 3 (k:Int)) (Zm 8 9 [3] (Qh 4 (O3 3 g1 ds.length c1 3 (k*3+2) (Zu (XR ys)++([.i x1.frm,.i x1.to_,.h ⟨some ⟨g2,0,none⟩,x1.cons.length,c2⟩]++Zu (X1 (ds.drop (k+1))))) [.h ⟨some ⟨g2,0,none⟩,x1.cons.length,c2⟩] 107 (.ms g2 0 x1.cons.length c2) (Za1 (by rw [Js,Zz]))) (Y7 4 7 [5,6,7] [0] (ZF 8 (dc 8 [] [2] [g1] (Co x2.fields) ?_))))))))))))))))
   rintro _ _ ⟨v3,rfl,rfl⟩
   exact dx 9 (J3 g2 x1.cons.length c2 j 1 (j:Int)) (Zm 1 2 [10] (ZF 11 (dKS 11 3 [] [] g2 x1.cons.length c2 1 (j*1) [ZV x2.fields v3] (Zu (Wn zs++Wa (x1.cons.drop j))) (Zu (Wn zs)++([ZV x2.fields v3]++Zu (Wa (x1.cons.drop (j+1))))) (by rw [Pv U7 T0];simp;omega) (by rw [Z9r Zt];exact Ap (by rw [GT,U7,UI]) rfl) (Jo (tB [5,1] [.many (X5 zs),.tail v3 1] (X5 zs++((v3,1)::[])) (X5 (zs++[X0.mk x2.fields v3])) (by simp [WN,WM,WV,WW,WX,WY,WU,Yx,YP,Xt,YS,X5,YZ,X2,Wd,We,Wf,Xe])) (de (az (ZK j (Z0 (ZJ ⟨j+1,⟨some ⟨g2,0,none⟩,x1.cons.length,c2⟩,(zs++[X0.mk x2.fields v3]),ob,(by rw [List.map_append,Xh,WP Zt];rfl),(by simp [U7]),rfl,rfl,rfl⟩ (wk [3,1,2,0] (ZL j fl) (e:=(rc (rr (ls:=(Zu (Wn zs)++([ZV x2.fields v3]++Zu (Wa (x1.cons.drop (j+1)))))) Z9q (rr (ls:=(Zu (XR ys)++([.i x1.frm,.i x1.to_,.h ⟨some ⟨g2,0,none⟩,x1.cons.length,c2⟩]++Zu (X1 (ds.drop (k+1)))))) ob (rc rz)))))))))))))))
  refine Wl (JN 1 u.v 1 (Zu (Wn zs++Wa (x1.cons.drop j))) (Zu (Wn zs)) (Z9p om)) (Wl (Zd5 0 1 (k*3+2) u.v (.slice (some ⟨g1,0,none⟩) ds.length c1) 1 3 (Wn zs) (Zu (XR ys)++([.i x1.frm,.i x1.to_,.h u]++Zu (X1 (ds.drop (k+1))))) (GH _) (by rw [C9 (by rw [Js];omega),Js,Zz];simp)) ?_)
  exact Wl (JN 0 (.slice (some ⟨g1,0,none⟩) ds.length c1) 3 (List.set ((Zu (XR ys)++([.i x1.frm,.i x1.to_,.h u]++Zu (X1 (ds.drop (k+1))))):List AV) (k*3+2) (JG zs u.v)) (Zu (XR ys)++([.i x1.frm,.i x1.to_,JG zs u.v]++Zu (X1 (ds.drop (k+1))))) (Za2 (by rw [Js,Zz]))) (Wl (tB [2,2,1] [.many (YZ ys),.many (X5 zs),.tail u.v 1] (YZ ys++(X5 zs++((u.v,1)::[]))) (YZ (ys++[YM.mk x1.frm x1.to_ zs u.v])) (by simp [WN,WM,WV,WW,WX,WY,WU,Yx,YP,Xt,YS,X5,YZ,X2,Wd,We,Wf,Xe])) (ax 2 (az (ZK k (Z0 (ZJ ⟨k+1,(⟨some ⟨g1,0,none⟩,ds.length,c1⟩:Hd),(ys++[YM.mk x1.frm x1.to_ zs u.v]),ob,(by rw [List.map_append,Z9,WP Z2,S8 (Xh.trans (W2 om))]),(by simp [Zz]),rfl,rfl,rfl⟩ (wk [1,0] (fw (ZL k fl)) (e:=(rr (ls:=(Zu (XR ys)++([.i x1.frm,.i x1.to_,JG zs u.v]++Zu (X1 (ds.drop (k+1)))))) Z9t (rc rz))))))))))
 exact ax 0 (Zf (Wl (JN 0 v.v 3 (Zu (XR ys++X1 (ds.drop k))) (Zu (XR ys)) (Z9s om)) (AY 2 0 (v:=v) (XR ys) (GI _) (ZG (r1 [1,0] ⟨ys,v.v,rfl,rfl,(by rw [Z9,W2 om])⟩)))))
theorem NH (mc:Nat) (oc:Nat) (mb:Nat) (L:List (Int × Int)) (xs:List ZU) (u:Value) (rs:Int) (hu:Un L:=by exact ob) (hL:L.length<=10000000:=by exact ob) (hx:xs.length<=10000000:=by exact ob) (hk:∀p∈L,0<=p.1/\p.1<=1000000000):Za 101 [.p mc 0,.p oc 0] [.obj mc [.val (.map (some mb))],.obj oc [U3 xs u,.i rs],rM Tryz.prog mb 3 3 L,.tail u 5,.many (Yx xs)] (fun r h=>∃(ys:List ZU) (w:Value),h=[.obj mc [.val (.map (some mb))],.obj oc [U3 ys w,.i rs],rM Tryz.prog mb 3 3 [],.tail w 5,.many (Yx ys)]/\WB ys=WB xs++Ve L):=by
 have hda:=Cs hu
 have hml:=HL L
 refine Zx 52 Tryz.func101 (ZB 1 [0] (ic [] (Z7t mb) ?_))
 rintro _ _ ⟨c1,rfl,rfl⟩
 refine ic [0,2] (Zb2 c1 mb L ob) ?_
 rintro _ _ ⟨g1,rfl,rfl⟩
 refine Z0 (Y8 1 (Zg (KN 0 g1 (YQ L)) (Z0 (ab 0 (ZR (fun fz gz m F h=>∃(k:Nat) (ys:List ZU) (u2:Value),(k<=(YQ L).length)/\(WB ys=WB xs++(UC L ((YQ L).take k)).map (XW 14))/\F=sF [0,1,2,10,11] fz [(12,.i k)]/\h=[Zy gz 0,Zy gz 2,Zy gz 3,.obj oc [U3 ys u2,.i rs],.tail u2 5,.many (Yx ys)]/\m=(YQ L).length-k) _ _ _ ⟨0,xs,u,ob,(by simp [UC]),rfl,rfl,rfl⟩ (wk [0,1,1,1,1,1] (ZT fl)) ?_)))))
 rintro m F h ⟨k,ys,u2,ZX,Z9,rfl,rfl,rfl⟩
 refine Zf (aq (Xf ((k:Int)<(((YQ L).length:Nat):Int)) (fun Z5=>?_) (fun Z5=>?_)))
 ·have hyl:=TC ys
  rw [Z9] at hyl
  simp only [Yz,Uh,TC] at hyl
  have Ws:=A4 hu k
  have hdk1:=A4 hu (k+1)
  refine ak (aq (ab 1 (ar (Zg (XB 0 g1 (YQ L) (k:Int) k) ?_))))
  obtain ⟨x1,Z2⟩:=Zv (YQ L) k om
  have hds:=MG (L:=L) Z2
  have hdl:=Yp List.length hds
  rw [Yz,List.length_replicate] at hdl
  have hnb:=BU x1 hu
  have hxk:0<=x1/\x1<=1000000000:=by obtain ⟨p,hp,e⟩:=CT.1 (YA Z2);rw [<-e];exact hk p hp
  refine Xu (WQ 0 g1 (YQ L) k x1 Z2) (Z0 (ZB 2 [2] (Xu (Ez 1 mb 3 3 L x1 om) (Z0 (ab 2 (ZR (fun fz gz m F h=>∃(j:Nat) (zs:List ZU) (u3:Value),(j<=(X7 L x1).toNat)/\(WB zs=WB xs++(UC L ((YQ L).take k)).map (XW 14)++(List.replicate j x1).map (XW 14))/\F=sF [0,1,2,4,10,11,12,18] fz [(19,.i j)]/\h=[Zy gz 0,Zy gz 1,Zy gz 2,.obj oc [U3 zs u3,.i rs],.tail u3 5,.many (Yx zs)]/\m=(X7 L x1).toNat-j) _ _ _ ⟨0,ys,u2,ob,(by rw [Z9];simp),rfl,rfl,rfl⟩ (Y1 6 (ZT fl)) ?_))))))
  rintro m F h ⟨j,zs,u3,T0,Xh,rfl,rfl,rfl⟩
  refine Zf (aq (Xf ((j:Int)<(X7 L x1)) (fun Zd=>?_) (fun Zd=>?_)))
  ·have hzl:=TC zs
   rw [Xh] at hzl
   simp only [Yz,Uh,List.length_replicate,TC] at hzl
   refine ak (aq (ab 3 (aE 8 (Y7 5 8 [0,1,2] [3] (ZF 3 (dc 3 [] [2] [oc] (NG 14 x1) ?_))))))
   rintro _ _ ⟨u1,rfl,rfl⟩
   exact MC 2 (ZF 4 (dL 4 [2] [oc] [Tw (ZU.mk 14 0 0 [x1] u1 [] (.slice none 0 0))] 1 5 fun v1=>UN 3 3 [] [(25,.sl [Tw (ZU.mk 14 0 0 [x1] u1 [] (.slice none 0 0))] none)] (ZF 5 (dp 5 7 [] [] (WA (zs++[ZU.mk 14 0 0 [x1] u1 [] (.slice none 0 0)])) (WA zs) [Tw (ZU.mk 14 0 0 [x1] u1 [] (.slice none 0 0))] u3 none 5 (Cu _) (CP rfl) rfl (by simp<;>omega) (by simp [E6,A6]) fun v2=>Jo (tB [8,3,2] [.many (Yx zs),.tail u1 1,.tail (.slice none 0 0) 2] (Yx zs++((u1,1)::(((.slice none 0 0),2)::[]))) (Yx (zs++[ZU.mk 14 0 0 [x1] u1 [] (.slice none 0 0)])) (by simp [WN,WM,WV,WW,WX,WY,WU,Yx,YP,Xt,YS,X5,YZ,X2,Wd,We,Wf,Xe])) (Zm 1 2 [6] (ZF 7 (Uw 7 6 [] [] oc [U3 (zs++[ZU.mk 14 0 0 [x1] u1 [] (.slice none 0 0)]) v2,.i rs] (de (az (ZK j (Z0 (ZJ ⟨j+1,(zs++[ZU.mk 14 0 0 [x1] u1 [] (.slice none 0 0)]),v2,ob,(by rw [GP,GQ,N2,Xh,Po,List.map_append];simp only [VW];rfl),rfl,rfl,rfl⟩ (wk [4,4,4,0,1,0] (ZL j fl))))))))))))))
  have hZ:WB zs=WB xs++(UC L ((YQ L).take (k+1))).map (XW 14):=by rw [Xh,show j=(X7 L x1).toNat by omega,hds,List.map_append,VW]
  exact ax 2 (az (ZK k (Z0 (ZJ ⟨k+1,zs,u3,ob,hZ,rfl,rfl,rfl⟩ (Y1 6 (ZL k fl))))))
 have hyl:=TC ys
 rw [Z9] at hyl
 simp only [Yz,Uh,TC] at hyl
 have Ws:=A4 hu k
 have hY:WB ys=WB xs++(UC L (YQ L)).map (XW 14):=by rw [Z9,W2 om]
 refine ax 0 (Y8 1 (Zg (KN 0 g1 (YQ L)) (Z0 (ab 4 (ZR (fun fz gz m F h=>∃(k:Nat) (ys2:List ZU) (u4:Value),(k<=(YQ L).length)/\(WB ys2=WB xs++(UC L (YQ L)).map (XW 14)++(Tm L ((YQ L).take k)).map (XW 15))/\F=sF [0,1,30,31] fz [(32,.i k)]/\h=[Zy gz 0,Zy gz 1,Zy gz 2,.obj oc [U3 ys2 u4,.i rs],.tail u4 5,.many (Yx ys2)]/\m=(YQ L).length-k) _ _ _ ⟨0,ys,u2,ob,(by rw [hY];simp [Tm]),rfl,rfl,rfl⟩ (Y1 6 (ZT fl)) ?_)))))
 rintro m F h ⟨k,ys2,u4,M8,Kv,rfl,rfl,rfl⟩
 refine Zf (aq (Xf ((k:Int)<(((YQ L).length:Nat):Int)) (fun Zw=>?_) (fun Zw=>?_)))
 ·have hyl2:=TC ys2
  rw [Kv] at hyl2
  simp only [Yz,Uh,TC] at hyl2
  have Ws:=A4 hu k
  have hdk1:=A4 hu (k+1)
  refine ak (aq (ab 5 (ar (Zg (XB 0 g1 (YQ L) (k:Int) k) ?_))))
  obtain ⟨x2,Zt⟩:=Zv (YQ L) k om
  have hrs:=MF (L:=L) Zt
  have hrl:=Yp List.length hrs
  rw [Yz,List.length_replicate] at hrl
  have hnb:=BU x2 hu
  have hxk:0<=x2/\x2<=1000000000:=by obtain ⟨p,hp,e⟩:=CT.1 (YA Zt);rw [<-e];exact hk p hp
  refine Xu (WQ 0 g1 (YQ L) k x2 Zt) (Z0 (ZB 2 [2] (Xu (Ez 1 mb 3 3 L x2 om) (Zg (Z6i (X7 L x2) om) (Z0 (ab 6 (ZR (fun fz gz m F h=>∃(j:Nat) (zs2:List ZU) (u5:Value),(j<=(-X7 L x2).toNat)/\(WB zs2=WB xs++(UC L (YQ L)).map (XW 14)++(Tm L ((YQ L).take k)).map (XW 15)++(List.replicate j x2).map (XW 15))/\F=sF [0,1,6,30,31,32,39] fz [(40,.i j)]/\h=[Zy gz 0,Zy gz 1,Zy gz 2,.obj oc [U3 zs2 u5,.i rs],.tail u5 5,.many (Yx zs2)]/\m=(-X7 L x2).toNat-j) _ _ _ ⟨0,ys2,u4,ob,(by rw [Kv];simp),rfl,rfl,rfl⟩ (Y1 6 (ZT fl)) ?_)))))))
  rintro m F h ⟨j,zs2,u5,Zee,G9,rfl,rfl,rfl⟩
  refine Zf (aq (Xf ((j:Int)<(-(X7 L x2))) (fun Yd=>?_) (fun Yd=>?_)))
  ·have hzl2:=TC zs2
   rw [G9] at hzl2
   simp only [Yz,Uh,List.length_replicate,TC] at hzl2
   refine ak (aq (ab 7 (aE 8 (Y7 5 8 [0,1,2] [3] (ZF 3 (dc 3 [] [2] [oc] (NG 15 x2) ?_))))))
   rintro _ _ ⟨u2,rfl,rfl⟩
   exact MC 2 (ZF 4 (dL 4 [2] [oc] [Tw (ZU.mk 15 0 0 [x2] u2 [] (.slice none 0 0))] 1 5 fun v3=>UN 3 3 [] [(46,.sl [Tw (ZU.mk 15 0 0 [x2] u2 [] (.slice none 0 0))] none)] (ZF 5 (dp 5 7 [] [] (WA (zs2++[ZU.mk 15 0 0 [x2] u2 [] (.slice none 0 0)])) (WA zs2) [Tw (ZU.mk 15 0 0 [x2] u2 [] (.slice none 0 0))] u5 none 5 (Cu _) (CP rfl) rfl (by simp<;>omega) (by simp [E6,A6]) fun v4=>Jo (tB [8,3,2] [.many (Yx zs2),.tail u2 1,.tail (.slice none 0 0) 2] (Yx zs2++((u2,1)::(((.slice none 0 0),2)::[]))) (Yx (zs2++[ZU.mk 15 0 0 [x2] u2 [] (.slice none 0 0)])) (by simp [WN,WM,WV,WW,WX,WY,WU,Yx,YP,Xt,YS,X5,YZ,X2,Wd,We,Wf,Xe])) (Zm 1 2 [6] (ZF 7 (Uw 7 6 [] [] oc [U3 (zs2++[ZU.mk 15 0 0 [x2] u2 [] (.slice none 0 0)]) v4,.i rs] (de (az (ZK j (Z0 (ZJ ⟨j+1,(zs2++[ZU.mk 15 0 0 [x2] u2 [] (.slice none 0 0)]),v4,ob,(by rw [GP,GQ,N2,G9,Po,List.map_append];simp only [VW];rfl),rfl,rfl,rfl⟩ (wk [4,4,4,0,1,0] (ZL j fl))))))))))))))
  have hZ2:WB zs2=WB xs++(UC L (YQ L)).map (XW 14)++(Tm L ((YQ L).take (k+1))).map (XW 15):=by rw [G9,show j=(-X7 L x2).toNat by omega,hrs,List.map_append];simp only [VW]
  exact ax 6 (az (ZK k (Z0 (ZJ ⟨k+1,zs2,u5,ob,hZ2,rfl,rfl,rfl⟩ (Y1 6 (ZL k fl))))))
 have hY2:WB ys2=WB xs++Ve L:=by rw [Kv,W2 om,Ve,VW]
 exact ax 4 (az (Y3 1 [2] (iCl 1 mb 3 3 L (ie (r2 [2,2,0,1,1] [] ⟨ys2,u4,rfl,hY2⟩ (lr _))))))
theorem Z5f (ds:List Zs) (z:Nat) (s:Z8) (hz:s.sz<=z+1:=by exact ob) (hl:s.sz<=10000000:=by exact ob) (hw:wS ds s:=by exact ob) (hr:pS s:=by exact ob) (ih:∀(b2:Zh),(b2.sz<=z)->(b2.sz<=10000000)->(wB ds b2)->(pB b2)->Za 52 [YC b2] [] (fun r h=>∃(y:ZS),r=Tk y/\h=[.many (YS y)]/\y.er=W6 b2)):Za 105 [XO s,.val (.func (.func 52) #[] #[])] [] (fun r h=>∃(y:ZU),r=Tw y/\h=[.many (Xt y)]/\y.er=TR s):=by
 have hkz:=Ql s
 have haz:=A1 s
 refine Zx 25 Tryz.func105 (ar (iA (WO s) fun b1=>iA [.i 0,.i 0,.i 0,nl,nl] fun b2=>?_))
 refine ie (Zf (Ym 2 [1] (iw (Ua s.kids) (Z0 (ab 0 (TP 2 (Wl (tB [] [] [] (YP []) (by simp [WN,WM,WV,WW,WX,WY,WU,Yx,YP,Xt,YS,X5,YZ,X2,Wd,We,Wf,Xe])) (ZR (fun fz gz m F h=>∃(k:Nat) (ys:List ZS) (u:Value),(k<=s.kids.length)/\(ys.length=k)/\(TB ys=(s.kids.take k).map W6)/\F=sF [1,2,4,9,10] fz [(5,TJ ys u),(11,.i k)]/\h=[Zy gz 2,Zy gz 3,.tail u 2,.many (YP ys)]/\m=s.kids.length-k) _ _ _ ⟨0,[],(.slice none 0 0),ob,ob,rfl,rfl,rfl,rfl⟩ (wk [2,2,1,0] (fc (x:=nl) (Zk.slh _ (by first|rfl|(subst_vars;rfl))) (ZT fl))) ?_))))))))
 rintro m F h ⟨k,ys,u,ZX,Z9,Zz,rfl,rfl,rfl⟩
 refine Zf (aq (Xf ((k:Int)<(s.kids.length:Int)) (fun Z5=>?_) (fun Z5=>?_)))
 ·refine ak (aq (ab 1 (ar ?_)))
  obtain ⟨x1,Z2⟩:=Zv s.kids k om
  have hks:=Ka Z2
  have hwk:=RX hw Z2
  have hrk:=Z96 hr Z2
  refine Zg (Zq none (k:Int) 2 (TA Z2)) (Z1 1 (iA [nl,.i 0] fun b3=>Y0 0 b3 (Vz x1) (ie (az (Y3 3 [0] (ic [] (ih x1 ob ob hwk hrk) ?_))))))
  rintro _ _ ⟨y1,rfl,rfl,Ya⟩
  have hy:=Ya
  exact iL [Tk y1] 1 2 fun v1=>XX 0 [(19,.sl [Tk y1] none)] (ip 5 (V2 (ys++[y1])) (V2 ys) [Tk y1] u none 2 (GG _) (CP rfl) rfl (by simp<;>omega) (by simp [MK,BB]) fun v2=>T4 (tB [6,2] [.many (YP ys),.many (YS y1)] (YP ys++(YS y1++[])) (YP (ys++[y1])) (by simp [WN,WM,WV,WW,WX,WY,WU,Yx,YP,Xt,YS,X5,YZ,X2,Wd,We,Wf,Xe])) (Z0 (az (ZK k (Z0 (ZJ ⟨k+1,(ys++[y1]),v2,ob,(by rw [Yz,Z9];rfl),(by rw [Z3d,Z3e,hy,Zz,WP Z2,List.map_append];rfl),rfl,rfl,rfl⟩ (wk [4,4,1,0] (fr (ZL k fl)))))))))
 refine ax 0 (ZB 2 [1] (ic [] (Z5o s ys u) ?_))
 rintro _ _ ⟨u1,rfl,rfl⟩
 exact Y0 1 b2 [.i s.op,.i s.num,.i s.into,ZV s.args u1,TJ ys u] (ie (Wl (tB [1,3,2] [.tail u1 1,.many (YP ys),.tail u 2] ((u1,1)::(YP ys++((u,2)::[]))) (Xt (ZU.mk s.op s.num s.into s.args u1 ys u)) (by simp [WN,WM,WV,WW,WX,WY,WU,Yx,YP,Xt,YS,X5,YZ,X2,Wd,We,Wf,Xe])) (ZG (r3 [0] [.agg [.i s.op,.i s.num,.i s.into,ZV s.args u1,TJ ys u]] [1] [(b2,b2)] ⟨(ZU.mk s.op s.num s.into s.args u1 ys u),rfl,rfl,(by rw [Ge,DM,ZU.er,Zz,W2 om])⟩ (lr _)))))
theorem Z54 (ds:List Zs) (z:Nat) (b:Zh) (hz:b.sz<=z+1:=by exact ob) (ih:∀(b2:Zh),(b2.sz<=z)->(b2.sz<=10000000)->(wB ds b2)->(pB b2)->Za 52 [YC b2] [] (fun r h=>∃(y:ZS),r=Tk y/\h=[.many (YS y)]/\y.er=W6 b2)) (hl:b.sz<=10000000:=by exact ob) (hw:wB ds b:=by exact ob) (hr:pB b:=by exact ob):Za 52 [YC b] [] (fun r h=>∃(y:ZS),r=Tk y/\h=[.many (YS y)]/\y.er=W6 b):=by
 have hbz:=JL b
 have hws:=(L0 b).1 hw
 have hbe:=b.sz_eq
 refine Zx 53 Tryz.func52 (ar (iA (Vz b) fun b1=>iA [nl,.i 0] fun b2=>ie (ZB 3 [1] (iA [nl,.i 0] fun b3=>Y0 0 b3 [nl,.i b.result] (ie (ar (iMk 3 3 fun b4=>iA [.val (.map none)] fun b5=>?_)))))))
 refine Y0 0 b5 [.val (.map (some b4))] (ie (Zf (Ym 2 [4] (iw (T2 b.steps) (Z0 (ab 0 (TP 5 (Wl (tB [] [] [] (Yx []) (by simp [WN,WM,WV,WW,WX,WY,WU,Yx,YP,Xt,YS,X5,YZ,X2,Wd,We,Wf,Xe])) (ZR (fun fz gz m F h=>∃(k:Nat) (xs:List ZU) (v:Value) (L:List (Int × Int)),(k<=b.steps.length)/\(WB xs++WT (b.steps.drop k) L=WT b.steps [])/\(L.length<=k)/\(Un L)/\(∀p∈L,0<=p.1/\p.1<=1000000000)/\F=sF [2,3,4,5,14,15] fz [(16,.i k)]/\h=[Zy gz 2,rM Tryz.prog b4 3 3 L,.obj b3 [U3 xs v,.i b.result],Zy gz 5,.tail v 5,.many (Yx xs)]/\m=b.steps.length-k) _ _ _ ⟨0,[],(.slice none 0 0),[],ob,rfl,ob,Un.nil,(fun p hp=>by cases hp),rfl,rfl,rfl⟩ (wk [2,2,2,2,1,0] (ZT fl)) ?_)))))))))
 rintro m F h ⟨k,xs,v,L,ZX,Z9,Zz,Y5,XD,rfl,rfl,rfl⟩
 refine Zf (aq (Xf ((k:Int)<(b.steps.length:Int)) (fun Z5=>?_) (fun Z5=>?_)))
 ·have hxl:=DO hws Z9
  rw [TC] at hxl
  refine ak (aq (ab 1 (ar ?_)))
  obtain ⟨x1,Z2⟩:=Zv b.steps k om
  have YD:=Df Z2
  have hwS:=RS hw Z2
  have hrS:=Z93 hr Z2
  have hse:=(x1).sz_eq
  refine Zg (Zq none (k:Int) 5 (U2 Z2)) (Z1 1 (iA [.i 0,.i 0,.i 0,nl,nl] fun b6=>Y0 0 b6 (WO x1) (ie (Jt [0] (ab 2 (ar (Yt (x1.op==14) Zr (fun Zd=>?_) (fun Zd=>?_))))))))
  ·refine aE 8 (Y7 5 8 [0,1,2] [1,0] ?_)
   obtain ⟨x2,Zt⟩:=Zv x1.args 0 (by obtain ⟨_,_,a,ha⟩:=Ba hwS (by simp [YU];omega);rw [ha];simp)
   obtain ⟨_,_,pa,hpa⟩:=Ba hwS (by simp [YU];omega)
   have hg0:=J1 Zt
   have hxb:=((ET x1).1 hrS).1 x2 (YA Zt)
   have hnb:=BU x2 Y5
   exact dx 3 (Zq none 0 1 (Yc Zt)) (Zm 3 4 [4] (Qh 5 (Ez 2 b4 3 3 L x2 om) (da 6 (((X7 L x2)+1)) (((X7 L x2))+(1)) (ZF 7 (MA 7 2 [] [] b4 3 3 L x2 1 ((X7 L x2)+1) om om om om (de (az (ZK k (Z0 (ZJ ⟨k+1,xs,v,(L++[(x2,1)]),ob,(by have h:=Gf Z2 (.inl (by assumption)) Z9;rw [ev,hg0,Z6 (by assumption)] at h;exact h),(by rw [Yz];simp only [XF,Vt];omega),(by have h:=Y5.snoc x1;rw [ev,hg0,Z6 (by assumption)] at h;exact h),(by have h:=N6 hrS hpa XD;rw [ev,hg0,Z6 (by assumption)] at h;exact h),rfl,rfl,rfl⟩ (wk [2,0,1,1,1,1] (ZL k fl))))))))))))
  refine ar (Yt (x1.op==15) Zr (fun Zw=>?_) (fun Zw=>?_))
  ·refine aE 8 (Y7 5 8 [0,1,2] [1,0] ?_)
   obtain ⟨x3,YW⟩:=Zv x1.args 0 (by obtain ⟨_,_,a,ha⟩:=Ba hwS (by simp [YU];omega);rw [ha];simp)
   obtain ⟨_,_,pa,hpa⟩:=Ba hwS (by simp [YU];omega)
   have hg0:=J1 YW
   have hxb:=((ET x1).1 hrS).1 x3 (YA YW)
   have hnb:=BU x3 Y5
   exact dx 3 (Zq none 0 1 (Yc YW)) (Zm 3 4 [4] (Qh 5 (Ez 2 b4 3 3 L x3 om) (da 6 (((X7 L x3)-1)) (((X7 L x3))-(1)) (ZF 7 (MA 7 2 [] [] b4 3 3 L x3 (-1) ((X7 L x3)-1) om om om om (de (az (ZK k (Z0 (ZJ ⟨k+1,xs,v,(L++[(x3,(-1))]),ob,(by have h:=Gf Z2 (.inr (by assumption)) Z9;rw [ev,hg0,Z4 (by assumption)] at h;exact h),(by rw [Yz];simp only [XF,Vt];omega),(by have h:=Y5.snoc x1;rw [ev,hg0,Z4 (by assumption)] at h;exact h),(by have h:=N6 hrS hpa XD;rw [ev,hg0,Z4 (by assumption)] at h;exact h),rfl,rfl,rfl⟩ (wk [2,0,1,1,1,1] (ZL k fl))))))))))))
  refine ZM 1 (ic [1,2,1,2,2] (NH b5 b3 b4 L xs v b.result (hu:=Y5) (hk:=XD)) ?_)
  rintro _ _ ⟨ys1,w1,rfl,Ya⟩
  have hfl:=Ya
  have hfll:=Yp List.length hfl
  rw [TC,Yz,TC] at hfll
  have hsl:=F6 Y5
  refine ie (aE 8 (Y7 5 8 [0,1,2] [1,5] (ZF 3 (dc 3 [] [1] [b3] (Z5f ds z x1 (hw:=hwS) (hr:=hrS) (ih:=ih)) ?_))))
  rintro _ _ ⟨y1,rfl,rfl,YT⟩
  have hmk:=YT
  exact ZF 4 (dL 4 [1] [b3] [Tw y1] 1 5 fun v1=>UN 3 3 [] [(28,.sl [Tw y1] none)] (ZF 5 (dp 5 5 [] [] (WA (ys1++[y1])) (WA ys1) [Tw y1] w1 none 5 (Cu _) (CP rfl) rfl (by simp<;>omega) (by simp [E6,A6]) fun v2=>Jo (tB [6,2] [.many (Yx ys1),.many (Xt y1)] (Yx ys1++(Xt y1++[])) (Yx (ys1++[y1])) (by simp [WN,WM,WV,WW,WX,WY,WU,Yx,YP,Xt,YS,X5,YZ,X2,Wd,We,Wf,Xe])) (Zm 1 2 [6] (ZF 7 (Uw 7 4 [] [] b3 [U3 (ys1++[y1]) v2,.i b.result] (de (az (ZK k (Z0 (ZJ ⟨k+1,(ys1++[y1]),v2,[],ob,(by rw [GP,GQ,hfl,hmk];exact Mb Z2 om Z9),(TO _),Un.nil,(fun p hp=>by cases hp),rfl,rfl,rfl⟩ (wk [4,4,0,4,1,0] (ZL k fl)))))))))))))
 have hxl:=DO hws Z9
 rw [TC] at hxl
 refine ax 0 (ZM 1 (ic [0,1,0,1,1] (NH b5 b3 b4 L xs v b.result (hu:=Y5) (hk:=XD)) ?_))
 rintro _ _ ⟨ys2,w2,rfl,Xy⟩
 have hfl:=Xy
 have hfll:=Yp List.length hfl
 rw [TC,Yz,TC] at hfll
 have hsl:=F6 Y5
 exact ie (ZB 1 [1] (Y0 5 b2 [U3 ys2 w2,.i b.result] (ie (Wl (tB [5,4] [.many (Yx ys2),.tail w2 5] (Yx ys2++((w2,5)::[])) (YS (ZS.mk ys2 w2 b.result)) (by simp [WN,WM,WV,WW,WX,WY,WU,Yx,YP,Xt,YS,X5,YZ,X2,Wd,We,Wf,Xe])) (ZG (r3 [0] [.agg [U3 ys2 w2,.i b.result]] [1] [(b2,b2)] ⟨(ZS.mk ys2 w2 b.result),rfl,rfl,(by rw [ZS.er,Gc,hfl];exact Yp (fun q=>Zh.mk q b.result) (Ma om Z9))⟩ (lr _)))))))
theorem Z55 (ds:List Zs) (m:Nat):∀(b2:Zh),(b2.sz<=m)->(b2.sz<=10000000)->(wB ds b2)->(pB b2)->Za 52 [YC b2] [] (fun r h=>∃(y:ZS),r=Tk y/\h=[.many (YS y)]/\y.er=W6 b2):=by
 induction m with
 | zero=>intro b h;have:=b.sz_pos;omega
 | succ m ih=>intro b h1 h2 h3 h4;exact Z54 ds m b h1 ih h2 h3 h4
theorem Z56 (ds:List Zs) (b:Zh) (hl:b.sz<=10000000:=by exact ob) (hw:wB ds b:=by exact ob) (hr:pB b:=by exact ob):Za 52 [YC b] [] (fun r h=>∃(y:ZS),r=Tk y/\h=[.many (YS y)]/\y.er=W6 b):=Z55 ds b.sz b (YX _) hl hw hr
theorem Z53 (ds:List Zs) (rt:YB) (b:Zh) (hl:b.sz<=10000000:=by exact ob) (hw:wB ds b:=by exact ob) (hr:pB b:=by exact ob):Za 51 [QU rt,YC b] [] (fun r h=>∃(y:ZS),r=Tk y/\h=[.many (YS y)]/\y.er=W6 b):=by
 refine Zx 7 Tryz.func51 (ar (iA (TH rt) fun b1=>iA (Vz b) fun b2=>iA [nl,.i 0] fun b3=>ie (ZB 1 [1] (ic [] (Z56 ds b) ?_))))
 rintro _ _ ⟨y1,rfl,rfl,Ya⟩
 exact Y0 1 b3 (JB y1) (ie (ZG (r3 [1] [Tk y1] [0] [(b3,b3)] ⟨y1,rfl,rfl,ob⟩ (lr _))))
theorem Z5e (n:Zl) (hn:YY n:=by exact ob) (hz:WI n:=by exact ob) (hbt:∀r∈n.routines,0<=Ys n r.params r.body):Za 50 [X3 n,.val (.func (.func 51) #[] #[])] [] (fun r h=>∃(y:X4),r=VE y/\h=[.many (Xe y)]/\y.er=Wm n):=by
 have hzl:=hn.len
 refine Zx 40 Tryz.func50 (ar (iA (W8 n) fun b1=>iA [nl,nl] fun b2=>ie (ZB 2 [1] (ic [] (Z57 n.decls (hd:=hn.decls)) ?_))))
 rintro _ _ ⟨ys1,w1,rfl,rfl,Ya⟩
 have hde:=Ya
 refine Z1 1 (iA [nl,nl] fun b3=>?_)
 refine Y0 0 b3 [Kb ys1 w1,nl] (ie (Ym 2 [4] (iw (UD n.routines) (Z0 (ab 0 (TP 5 (Wl (tB [] [] [] (X2 []) (by simp [WN,WM,WV,WW,WX,WY,WU,Yx,YP,Xt,YS,X5,YZ,X2,Wd,We,Wf,Xe])) (ZR (fun fz gz m F h=>∃(k:Nat) (xs:List YN) (v:Value),(k<=n.routines.length)/\(xs.map YN.er=(n.routines.take k).map VZ)/\(xs.length=k)/\F=sF [1,4,5,13,14] fz [(15,.i k)]/\h=[.obj b3 [Kb ys1 w1,JH xs v],Zy gz 3,Zy gz 5,.tail v 5,Zy gz 4,.many (X2 xs)]/\m=n.routines.length-k) _ _ _ ⟨0,[],(.slice none 0 0),ob,rfl,rfl,rfl,rfl,rfl⟩ (wk [2,2,3,1,1,0] (ZT fl)) ?_))))))))
 rintro m F h ⟨k,xs,v,ZX,Z9,Zz,rfl,rfl,rfl⟩
 refine Zf (aq (Xf ((k:Int)<(n.routines.length:Int)) (fun Z5=>?_) (fun Z5=>?_)))
 ·refine ak (aq (ab 1 (ar ?_)))
  obtain ⟨x1,Z2⟩:=Zv n.routines k om
  have hrm:=YA Z2
  have hbz:=hz.body _ hrm
  have hpl:=hn.params_at Z2
  have hll:=hn.lent_at Z2
  have hwb:=Dq hn hz hbt _ hrm
  have hpb:=Z94 hn hz hbt _ hrm
  refine Zg (Zq none (k:Int) 5 (Um Z2)) (Z1 1 (iA [nl,nl,.i 0,nl,.i 0] fun b4=>Y0 0 b4 (TH x1) (ie (aE 20 (Y7 8 20 [0,1,2,3,5,6,8,9,10,11,12,13] [1,0,0,0,0,0] (ZF 4 (dc 4 [] [0,0,0,0,1] [b4,b4,b4,b4,b3] (Co x1.params) ?_)))))))
  rintro _ _ ⟨v1,rfl,rfl⟩
  refine ZF 7 (dc 7 [] [0,0,0,1] [b4,b4,b4,b3] (Co x1.lent) ?_)
  rintro _ _ ⟨v2,rfl,rfl⟩
  refine ZF 14 (dc 14 [] [0,1] [b4,b3] (Z53 n.decls x1 x1.body (hw:=hwb) (hr:=hpb)) ?_)
  rintro _ _ ⟨y1,rfl,rfl,YT⟩
  exact Zm 4 5 [15] (ZF 16 (dL 16 [1] [b3] (V3 [YN.mk x1.params v1 x1.lent v2 x1.result (ZS.mk y1.steps y1.sv y1.result)]) 1 5 fun v3=>UN 3 3 [] [(35,Z85 [YN.mk x1.params v1 x1.lent v2 x1.result (ZS.mk y1.steps y1.sv y1.result)])] (ZF 17 (dp 17 8 [] [] (V3 (xs++[YN.mk x1.params v1 x1.lent v2 x1.result (ZS.mk y1.steps y1.sv y1.result)])) (V3 xs) (V3 [YN.mk x1.params v1 x1.lent v2 x1.result (ZS.mk y1.steps y1.sv y1.result)]) v none 5 (E4 _) (E4 _) (Z2r _) (by simp<;>omega) (by simp [MN,V3]) fun v4=>Jo (tB [10,4,3,2] [.many (X2 xs),.tail v1 1,.tail v2 1,.many (YS y1)] (X2 xs++((v1,1)::((v2,1)::(YS y1++[])))) (X2 (xs++[YN.mk x1.params v1 x1.lent v2 x1.result (ZS.mk y1.steps y1.sv y1.result)])) (by simp [WN,WM,WV,WW,WX,WY,WU,Yx,YP,Xt,YS,X5,YZ,X2,Wd,We,Wf,Xe,Ei,ZS.steps,ZS.sv])) (Zm 1 2 [18] (ZF 19 (Uw 19 4 [] [] b3 [Kb ys1 w1,JH (xs++[YN.mk x1.params v1 x1.lent v2 x1.result (ZS.mk y1.steps y1.sv y1.result)]) v4] (de (az (ZK k (Z0 (ZJ ⟨k+1,(xs++[YN.mk x1.params v1 x1.lent v2 x1.result (ZS.mk y1.steps y1.sv y1.result)]),v4,ob,(Z7s Z9 Z2 (by show YB.mk _ _ _ (ZS.er (ZS.mk y1.steps y1.sv y1.result))=YB.mk _ _ _ _;rw [ZS.eta];exact Yp (YB.mk x1.params x1.lent x1.result) (by assumption))),(by simp [Zz]),rfl,rfl,rfl⟩ (wk [0,4,4,1,3,0] (ZL k fl))))))))))))))
 exact ax 0 (ZB 1 [0] (Y0 2 b2 [Kb ys1 w1,JH xs v] (ie (Wl (tB [2,3,3,2] [.many (YZ ys1),.tail w1 3,.many (X2 xs),.tail v 5] (YZ ys1++((w1,3)::(X2 xs++((v,5)::[])))) (Xe (X4.mk ys1 w1 xs v)) (by simp [WN,WM,WV,WW,WX,WY,WU,Yx,YP,Xt,YS,X5,YZ,X2,Wd,We,Wf,Xe])) (ZG (r3 [0] [.agg [Kb ys1 w1,JH xs v]] [1] [(b2,b2)] ⟨(X4.mk ys1 w1 xs v),rfl,rfl,(by show Zl.mk (ys1.map YM.er) (xs.map YN.er)=_;rw [hde,Z9,W2 om];rfl)⟩ (lr _)))))))
theorem NA (n:Zl) (hz:WI n:=by exact ob) (hr:∀r∈n.routines,r.body.rng):Za 21 [X3 n] [] (fun r h=>∃(y:X4),r=.tup [VE y,.b ((XI n).2)]/\h=[.many (Xe y)]/\y.er=(XI n).1):=by
 refine Zx 10 Tryz.func21 (ar (iA (W8 n) fun b1=>iA [nl,nl] fun b2=>Z0 (Ym 1 [1] (ZC [] (Z4t n (hr:=ob)) (Yt (!VX n) (p:=¬(VX n=true)) (Yi Iff.rfl) (fun Z5=>?_) (fun Z5=>?_))))))
 ·have hE:XI n=(EQ,false):=Z4 Z5
  exact ZM 1 (Y0 0 b2 [nl,nl] (Z0 (TP 5 (TP 3 (Wl (tB [0,0] [.tail (.slice none 0 0) 3,.tail (.slice none 0 0) 5] (((.slice none 0 0),3)::(((.slice none 0 0),5)::[])) (Xe (X4.mk [] (.slice none 0 0) [] (.slice none 0 0))) (by simp [WN,WM,WV,WW,WX,WY,WU,Yx,YP,Xt,YS,X5,YZ,X2,Wd,We,Wf,Xe])) (ZG (r3 [0] [.agg [nl,nl],.b false] [1] [(b2,b2)] ⟨(X4.mk [] (.slice none 0 0) [] (.slice none 0 0)),rfl,rfl,(by rw [hE];rfl)⟩ (Zk.tup (.cons (lr _) (.cons (lb (by rw [hE])) .nil))))))))))
 have hB:VX n=true:=Wr.1 Z5
 obtain ⟨hn,hsg,hbt⟩:=Bo hz hB
 have hE:XI n=(Wm n,true):=Z6 hB
 refine ak (ZB 1 [1] (ic [] (Z5e n (hn:=hn) (hbt:=hbt)) ?_))
 rintro _ _ ⟨y1,rfl,rfl,Ya⟩
 have hmb:=Ya
 exact Y0 1 b2 (BR y1) (Z7 (r3 [1] [VE y1,.b true] [0] [(b2,b2)] ⟨y1,rfl,rfl,(by rw [hE];exact hmb)⟩ (Zk.tup (.cons (lr _) (.cons (lb (by rw [hE])) .nil)))))
theorem Zbv (ds:List Zs) (n:Nat) (hz:Jd ds:=by exact ob) (hn:n<ds.length:=by exact ob):Za 186 [ZI ds,.i n] [] (ZP (.b (AN ds n))):=by
 have hl_ds:ds.length<=4294967296:=by have:=hz.len;omega
 refine Zx 100 Tryz.func186 (Zf (ZM 2 ?_))
 obtain ⟨x1,Z2⟩:=Zv ds n om
 have hdo:=Ct Z2
 have hz1:=hz.cons_at Z2
 refine Zg (Zq none (n:Int) 3 (Vh Z2)) (Z1 1 (iA [.i 0,.i 0,nl] fun b1=>Y0 0 b1 (Uc x1) (ie (Ym 2 [0] (iw (Vg x1.cons) (ZN ((x1.cons.length:Int)>0) (fun Z5=>?_) (fun Z5=>?_)))))))
 ·refine Ym 2 [0] (iw (Vg x1.cons) (Xz 9 [0,5] [(24,.b ((decide ((x1.cons.length:Int)>3))||(x1.frm != 0)))] (fun gz=>gz) ?_ (fun hj1=>?_)))
  ·refine W7 [0,5] [(29,.b (((decide ((x1.cons.length:Int)>3))||(x1.frm != 0))||(x1.to_ != 0)))] (fun gz=>gz) ?_ ?_
   ·refine Z1 1 (ib (b:=((decide ((x1.cons.length:Int)>3))||(x1.frm != 0))) 25 (fun Zb=>?_) (fun Zb=>?_))
    ·have Ya:((x1.cons.length:Int)>3)∨(x1.frm≠0):=((Yg dq ZO)).1 Zb
     exact Z0 (wk [0] (Zp true Zb fl))
    have YT:¬(((x1.cons.length:Int)>3)∨(x1.frm≠0)):=ZZ (Yg dq ZO) Zb
    exact Vq [0] (wk [0] (Zp (x1.to_ != 0) Zb fl))
   refine ac (((decide ((x1.cons.length:Int)>3))||(x1.frm != 0))||(x1.to_ != 0)) (p:=(((x1.cons.length:Int)>3)∨(x1.frm≠0))∨(x1.to_≠0)) (Yg (Yg dq ZO) ZO) (fun Zd=>?_) (fun Zd=>?_)
   ·exact ar (Z7 (Zo (.b false) (lb (by clear Z2;first|rfl|omega|grind [Ul]))))
   refine ak (Yj (ab 0 (ZR (fun fz gz m F h=>∃(k:Nat),(k<=x1.cons.length)/\(Tb ds.length (x1.cons.drop k)=Tb ds.length x1.cons)/\F=sF [0,5] fz [(6,.i k)]/\h=gz/\m=x1.cons.length-k) _ _ _ ⟨0,ob,ob,rfl,rfl,rfl⟩ (wk [0] (ZT fl)) ?_)))
   rintro m F h ⟨k,ZX,Z9,rfl,rfl,rfl⟩
   refine Ym 3 [0] (iw (Vg x1.cons) (ZN ((k:Int)<(x1.cons.length:Int)) (fun Zw=>?_) (fun Zw=>?_)))
   ·refine ak (aq (ab 1 (ZB 3 [0] ?_)))
    obtain ⟨x2,Zt⟩:=Zv x1.cons k om
    refine Zg (Zq none (k:Int) 1 (Ky Zt)) (Z1 2 (iw (Yk x2.fields) (W7 [0,5,6] [(55,.b ((decide ((x2.fields.length:Int)>3))||(!XP ds.length x2.fields)))] (fun gz=>gz) ?_ ?_)))
    ·refine Z1 2 (ib (b:=(decide ((x2.fields.length:Int)>3))) 45 (fun ZD=>?_) (fun ZD=>?_))
     ·have Xy:(x2.fields.length:Int)>3:=(dq).1 ZD
      exact Z0 (wk [0] (Zp true ZD fl))
     have XE:¬((x2.fields.length:Int)>3):=ZZ dq ZD
     exact Y3 4 [0] (Zg (Zq none (k:Int) 1 (Ky Zt)) (Z1 2 (ZC [] (R5 ds x2.fields) (Z0 (wk [0] (Zp (!XP ds.length x2.fields) ZD fl))))))
    refine ac ((decide ((x2.fields.length:Int)>3))||(!XP ds.length x2.fields)) (p:=((x2.fields.length:Int)>3)∨(¬(XP ds.length x2.fields=true))) (Yg dq (Yi Iff.rfl)) (fun Yd=>?_) (fun Yd=>?_)
    ·refine Zf ?_
     rw [ZH Zt] at Z9
     exact ZG (Zo (.b false) (lb (by clear Z2 Zt;first|rfl|omega|grind [Tb,Kx,Ul])))
    refine ak (az (Z1 1 (ZK k (Z0 ?_))))
    have hdr:=ZH Zt
    exact ZJ ⟨k+1,ob,(by rw [hdr] at Z9;clear hdr Z2 Zt;grind [Tb,Kx]),rfl,rfl,rfl⟩ (wk [0] (ZL k fl))
   refine ax 0 (Zf ?_)
   try rw [YR (xs:=x1.cons) (k:=k) om] at Z9
   exact ZG (Zo (.b true) (lb (by clear Z2;first|rfl|omega|grind [Tb,Kx,Ul])))
  refine Z1 2 (ib (b:=(decide ((x1.cons.length:Int)>3))) 20 (fun Yn=>?_) (fun Yn=>?_))
  ·have VO:(x1.cons.length:Int)>3:=(dq).1 Yn
   exact Z1 4 (Yb (wk [0] (Zp true Yn fl)) hj1)
  have Up:¬((x1.cons.length:Int)>3):=ZZ dq Yn
  exact Y3 4 [0] (Yb (wk [0] (Zp (x1.frm != 0) Yn fl)) hj1)
 refine ak (Yj (ab 2 (ZR (fun fz gz m F h=>∃(j:Nat),(j<=n)/\(Qg x1 ((ds.take n).drop j)=Qg x1 (ds.take n))/\F=sF [0,1,5] fz [(7,.i j)]/\h=gz/\m=n-j) _ _ _ ⟨0,ob,ob,rfl,rfl,rfl⟩ (wk [0] (ZT fl)) ?_)))
 rintro m F h ⟨j,T0,Xh,rfl,rfl,rfl⟩
 refine Yq (ZN ((j:Int)<(n:Int)) (fun Xm=>?_) (fun Xm=>?_))
 ·refine ak (aq (ab 3 (aD 27 (Zm 25 27 [0,1] ?_))))
  obtain ⟨x3,YW⟩:=Zv ds j om
  refine dx 2 (Zq none (j:Int) 3 (Vh YW)) (Zm 22 24 [3,4] (dw 5 (Vg x3.cons) (Jm [0,1,5,7] [(87,.b (((x3.cons.length:Int)==0)&&((x3.frm==x1.frm)&&(x3.to_==x1.to_))))] (fun gz=>gz) ?_ ?_)))
  ·refine Zm 19 21 [6,7] (db (b:=((x3.cons.length:Int)==0)) 68 (fun Xd=>?_) (fun Xd=>?_))
   ·have UV:(x3.cons.length:Int)=0:=(Zr).1 Xd
    refine Zm 17 19 [8,9] (dx 10 (Zq none (j:Int) 3 (Vh YW)) (Y7 9 16 [11,12,13,14,15,16,17] [0] (db (b:=(x3.frm==x1.frm)) 78 (fun WC=>?_) (fun WC=>?_))))
    ·have Td:x3.frm=x1.frm:=(Zr).1 WC
     exact Zm 7 9 [18,19] (dx 20 (Zq none (j:Int) 3 (Vh YW)) (Y7 0 6 [21,22,23,24,25,26] [0] (de (wk [0] (Zp (x3.to_==x1.to_) (And.intro Xd WC) fl)))))
    have Qk:¬(x3.frm=x1.frm):=ZZ Zr WC
    exact Zm 0 9 [18,19,20,21,22,23,24,25,26] (de (wk [0] (Zp false (And.intro Xd WC) fl)))
   have K8:¬((x3.cons.length:Int)=0):=ZZ Zr Xd
   exact Zm 0 19 [8,9,10,11,12,13,14,15,16,17,18,19,20,21,22,23,24,25,26] (de (wk [0] (Zp false Xd fl)))
  refine ac (((x3.cons.length:Int)==0)&&((x3.frm==x1.frm)&&(x3.to_==x1.to_))) (p:=((x3.cons.length:Int)=0)/\((x3.frm=x1.frm)/\(x3.to_=x1.to_))) (Yy Zr (Yy Zr Zr)) (fun Wc=>?_) (fun Wc=>?_)
  ·refine Zf ?_
   rw [ZH (show (ds.take n)[j]? = some x3 by rw [TN,Z6 om];exact YW),Qg,Z6 om] at Xh
   exact ZG (Zo (.b false) (lb (by clear Z2 YW;first|rfl|omega|grind [Ul])))
  refine ak (az (Z1 1 (ZK j (hb:=(by have:=hz.len;omega)) (Z0 ?_))))
  have hdr:=ZH YW
  exact ZJ ⟨j+1,ob,(by rw [ZH (show (ds.take n)[j]? = some x3 by rw [TN,Z6 om];exact YW),Qg,Z4 om] at Xh;exact Xh),rfl,rfl,rfl⟩ (wk [0] (ZL j fl))
 refine ax 2 (ZB 3 [0] (iw (Vw ds) (ZC [] (Tg x1.frm 0 (ds.length:Int)) (Xz 12 [] [(99,.b ((decide (0<=x1.frm/\x1.frm<=(ds.length:Int)))&&(decide (0<=x1.to_/\x1.to_<=(ds.length:Int)))))] (fun gz=>gz) ?_ (fun hj2=>?_)))))
 ·refine Z0 ?_
  rw [YR (show (ds.take n).length<=j by rw [Ko];omega),Qg] at Xh
  exact ZG (Zo (.b ((decide (0<=x1.frm/\x1.frm<=(ds.length:Int)))&&(decide (0<=x1.to_/\x1.to_<=(ds.length:Int))))) (lb (by clear Z2;first|rfl|omega|grind [Ul])))
 refine Z1 1 (ib (b:=(decide (0<=x1.frm/\x1.frm<=(ds.length:Int)))) 93 (fun V9=>?_) (fun V9=>?_))
 ·have Jw:0<=x1.frm/\x1.frm<=(ds.length:Int):=(dq).1 V9
  exact Y3 3 [0] (iw (Vw ds) (ZC [] (Tg x1.to_ 0 (ds.length:Int)) (Z1 1 (Yb (wk [0] (Zp (decide (0<=x1.to_/\x1.to_<=(ds.length:Int))) V9 fl)) hj2))))
 have Ab:¬(0<=x1.frm/\x1.frm<=(ds.length:Int)):=ZZ dq V9
 exact Z1 6 (Yb (wk [0] (Zp false V9 fl)) hj2)
theorem Zc1 (ds:List Zs) (hz:Jd ds:=by exact ob):Za 125 [ZI ds] [] (ZP (.b (Wv ds))):=by
 have hzl:=hz.len
 refine Zx 17 Tryz.func125 (Zf (Y8 1 (iw (Vw ds) (ZN ((ds.length:Int)>4) (fun Z5=>?_) (fun Z5=>?_)))))
 ·exact ar (Z7 (Zo (.b false) (lb (by first|rfl|omega|grind [Wv]))))
 refine ak (Yj (ab 0 (ZR (fun fz gz m F h=>∃(k:Nat),(k<=ds.length)/\(UO ds (ds.drop k) k=UO ds ds 0)/\F=sF [0] fz [(3,.i k)]/\h=gz/\m=ds.length-k) _ _ _ ⟨0,ob,ob,rfl,rfl,rfl⟩ (wk [] (ZT fl)) ?_)))
 rintro m F h ⟨k,ZX,Z9,rfl,rfl,rfl⟩
 refine Y8 2 (iw (Vw ds) (ZN ((k:Int)<(ds.length:Int)) (fun Zd=>?_) (fun Zd=>?_)))
 ·refine ak (aq (ab 1 (ZM 2 (ZC [] (Zbv ds k) (Yt (!AN ds k) (p:=¬(AN ds k=true)) (Yi Iff.rfl) (fun Zw=>?_) (fun Zw=>?_))))))
  ·refine Zf ?_
   try rw [YR (xs:=ds) (k:=k) om] at Z9
   obtain ⟨x1,Z2⟩:=Zv ds k om
   rw [ZH Z2] at Z9
   exact ZG (Zo (.b false) (lb (by first|rfl|omega|grind [UO,Wv])))
  refine ak (az (Z1 1 (ZK k (Z0 ?_))))
  obtain ⟨x1,Z2⟩:=Zv ds k om
  have hdr:=ZH Z2
  exact ZJ ⟨k+1,ob,(by rw [hdr] at Z9;clear hdr ;grind [UO]),rfl,rfl,rfl⟩ (wk [] (ZL k fl))
 refine ax 0 (Zf ?_)
 try rw [YR (xs:=ds) (k:=k) om] at Z9
 exact ZG (Zo (.b true) (lb (by first|rfl|omega|grind [UO,Wv])))
theorem Zbq (n:Zl) (hz:n.routines.length<=4194304:=by exact ob):Za 195 [X3 n] [] (ZP (.agg [ZI n.decls,.sl (U1 (n.routines.map VU)) none])):=by
 refine Zx 35 Tryz.func195 (ar (iA (W8 n) fun b1=>iA [nl,nl] fun b2=>ie (ZB 2 [1] (iL (U1 []) 0 5 fun v1=>Z1 1 (iA [nl,nl] fun b3=>?_)))))
 refine Y0 0 b3 [ZI n.decls,.sl (U1 []) (some v1)] (ie (Yj (ab 0 (ZR (fun fz gz m F h=>∃(k:Nat) (v:Value),(k<=n.routines.length)/\F=sF [1,2,3] fz [(4,.i k)]/\h=[.obj b3 [ZI n.decls,.sl (U1 ((n.routines.take k).map VU)) (some v)],Zy gz 2,Zy gz 3,.tail v 5]/\m=n.routines.length-k) _ _ _ ⟨0,v1,ob,rfl,rfl,rfl⟩ (wk [0,1,1,0] (ZT fl)) ?_))))
 rintro m F h ⟨k,v,ZX,rfl,rfl,rfl⟩
 refine Ym 3 [2] (iw (UD n.routines) (ZN ((k:Int)<(n.routines.length:Int)) (fun Z5=>?_) (fun Z5=>?_)))
 ·refine ak (aq (ab 1 (aE 19 (Y7 14 19 [0,1,2,3,4] [0,2] ?_))))
  obtain ⟨x1,Z2⟩:=Zv n.routines k om
  refine dx 5 (Zq none (k:Int) 5 (Um Z2)) (Y7 8 13 [6,7,8,9,10] [2] (dx 11 (Zq none (k:Int) 5 (Um Z2)) (UN 4 7 [12,13,14] [(30,.agg [Ze x1.params,.i x1.result,.i 0,.i 0,.sl [] none])] (ZF 15 (dL 15 [0] [b3] (U1 [Sg.mk x1.params x1.result]) 1 5 fun v2=>UN 3 3 [] [(31,.sl (U1 [Sg.mk x1.params x1.result]) none)] (ZF 16 (dp 16 4 [] [] (U1 ((n.routines.take (k+1)).map VU)) (U1 ((n.routines.take k).map VU)) (U1 [Sg.mk x1.params x1.result]) v none 5 (MU _) (MU _) (Z2w _) (by simp<;>omega) (by rw [WP Z2];simp [U1,VU]) fun v3=>Zm 1 2 [17] (ZF 18 (Uw 18 2 [] [] b3 [ZI n.decls,.sl (U1 ((n.routines.take (k+1)).map VU)) (some v3)] (de (az (Z1 1 (ZK k (Z0 ?_))))))))))))))
  have hdr:=ZH Z2
  exact ZJ ⟨k+1,v3,ob,rfl,rfl,rfl⟩ (wk [0,2,2,0] (ZL k fl))
 exact ax 0 (ZB 1 [0] (Y0 1 b2 [ZI n.decls,.sl (U1 ((n.routines.take k).map VU)) (some v)] (ie (ZG (r3 [] [.agg [ZI n.decls,.sl (U1 ((n.routines.take k).map VU)) (some v)]] [0] [(b2,b2)] ⟨rfl,rfl⟩ (Zk.agg (.cons (lr _) (.cons (Zk.sl _ (Yp U1 (by rw [show k=n.routines.length by omega,Kr]))) .nil))))))))
theorem Zc0 (ds:List Zs) (fs:List Sg) (hz:Jd ds:=by exact ob) (hf:∀f∈fs,f.params.length<=1100000000):Za 70 [.agg [ZI ds,.sl (U1 fs) none]] [] (ZP (.b (Qs ds fs))):=by
 have hzl:=hz.len
 refine Zx 64 Tryz.func70 (ar (iA [ZI ds,.sl (U1 fs) none] fun b1=>Z0 (Ym 2 [0] (ZC [] (Zc1 ds) (W7 [1] [(15,.b ((!Wv ds)||(!(decide (1<=(fs.length:Int)/\(fs.length:Int)<=4)))))] (fun gz=>gz) ?_ ?_)))))
 ·refine Z1 2 (ib (b:=(!Wv ds)) 9 (fun Zb=>?_) (fun Zb=>?_))
  ·have Ya:¬(Wv ds=true):=((Yi Iff.rfl)).1 Zb
   exact Z0 (wk [0] (Zp true Zb fl))
  have YT:¬(¬(Wv ds=true)):=ZZ (Yi Iff.rfl) Zb
  exact Y3 2 [0] (iw (MV fs) (ZC [] (Tg (fs.length:Int) 1 4) (Z0 (wk [0] (Zp (!(decide (1<=(fs.length:Int)/\(fs.length:Int)<=4))) Zb fl)))))
 refine ac ((!Wv ds)||(!(decide (1<=(fs.length:Int)/\(fs.length:Int)<=4)))) (p:=(¬(Wv ds=true))∨(¬(1<=(fs.length:Int)/\(fs.length:Int)<=4))) (Yg (Yi Iff.rfl) (Yi dq)) (fun Z5=>?_) (fun Z5=>?_)
 ·exact ar (Z7 (Zo (.b false) (lb (by first|rfl|omega|grind [Qs]))))
 refine ak (Yj (ab 0 (ZR (fun fz gz m F h=>∃(k:Nat),(k<=fs.length)/\(Kf ds.length (fs.drop k)=Kf ds.length fs)/\F=sF [1] fz [(3,.i k)]/\h=gz/\m=fs.length-k) _ _ _ ⟨0,ob,ob,rfl,rfl,rfl⟩ (wk [0] (ZT fl)) ?_)))
 rintro m F h ⟨k,ZX,Z9,rfl,rfl,rfl⟩
 refine Ym 3 [0] (iw (MV fs) (ZN ((k:Int)<(fs.length:Int)) (fun Zd=>?_) (fun Zd=>?_)))
 ·refine ak (aq (ab 1 (ZB 3 [0] ?_)))
  obtain ⟨x1,Z2⟩:=Zv fs k om
  refine Zg (Zq none (k:Int) 5 (GL Z2)) (Z1 1 (iA [nl,.i 0,.i 0,.i 0,nl] fun b2=>Y0 0 b2 [Ze x1.params,.i x1.result,.i 0,.i 0,.sl [] none] (ie (ZB 2 [0] (iw (Yk x1.params) (Xz 12 [1,3,4] [(39,.b ((decide ((x1.params.length:Int)>3))||(!XP ds.length x1.params)))] (fun gz=>gz) ?_ (fun hj1=>?_)))))))
  ·refine W7 [1,3] [(48,.b (((decide ((x1.params.length:Int)>3))||(!XP ds.length x1.params))||(!(decide (0<=x1.result/\x1.result<=(ds.length:Int))))))] (fun gz=>gz) ?_ ?_
   ·refine Z1 1 (ib (b:=((decide ((x1.params.length:Int)>3))||(!XP ds.length x1.params))) 40 (fun ZD=>?_) (fun ZD=>?_))
    ·have Xy:((x1.params.length:Int)>3)∨(¬(XP ds.length x1.params=true)):=((Yg dq (Yi Iff.rfl))).1 ZD
     exact Z0 (wk [0,0] (Zp true ZD fl))
    have XE:¬(((x1.params.length:Int)>3)∨(¬(XP ds.length x1.params=true))):=ZZ (Yg dq (Yi Iff.rfl)) ZD
    exact Y3 4 [0,1] (iw (Vw ds) (ZC [] (Tg x1.result 0 (ds.length:Int)) (Z0 (wk [0,0] (Zp (!(decide (0<=x1.result/\x1.result<=(ds.length:Int)))) ZD fl)))))
   refine ac (((decide ((x1.params.length:Int)>3))||(!XP ds.length x1.params))||(!(decide (0<=x1.result/\x1.result<=(ds.length:Int))))) (p:=(((x1.params.length:Int)>3)∨(¬(XP ds.length x1.params=true)))∨(¬(0<=x1.result/\x1.result<=(ds.length:Int)))) (Yg (Yg dq (Yi Iff.rfl)) (Yi dq)) (fun Zw=>?_) (fun Zw=>?_)
   ·refine Zf ?_
    rw [ZH Z2] at Z9
    exact ZG (Zo (.b false) (lb (by clear Z2;first|rfl|omega|grind [Kf,Ke,Qs])))
   refine ak (az (Z1 1 (ZK k (Z0 ?_))))
   have hdr:=ZH Z2
   exact ZJ ⟨k+1,ob,(by rw [hdr] at Z9;clear hdr Z2;grind [Kf,Ke]),rfl,rfl,rfl⟩ (wk [1] (ZL k fl))
  refine Z1 2 (ib (b:=(decide ((x1.params.length:Int)>3))) 32 (fun Yn=>?_) (fun Yn=>?_))
  ·have VO:(x1.params.length:Int)>3:=(dq).1 Yn
   exact Z1 7 (Yb (wk [0,0] (Zp true Yn fl)) hj1)
  have Up:¬((x1.params.length:Int)>3):=ZZ dq Yn
  exact Y3 4 [1,0] (ZC [] (R5 ds x1.params) (Z1 2 (Yb (wk [0,0] (Zp (!XP ds.length x1.params) Yn fl)) hj1)))
 refine ax 0 (ZB 2 [0] ?_)
 obtain ⟨x2,Zt⟩:=Zv fs 0 om
 have hfo:=Z3k Zt
 refine Zg (Zq none 0 5 (GL Zt)) (Z1 2 (iw (Yk x2.params) (Xz 15 [] [(63,.b (((x2.params.length:Int)==0)&&(x2.result==0)))] (fun gz=>gz) ?_ (fun hj2=>?_))))
 ·refine Z0 ?_
  try rw [YR (xs:=fs) (k:=k) om] at Z9
  exact ZG (Zo (.b (((x2.params.length:Int)==0)&&(x2.result==0))) (lb (by clear Zt;first|rfl|omega|grind [Kf,Ke,Qs])))
 refine Z1 2 (ib (b:=((x2.params.length:Int)==0)) 56 (fun Xd=>?_) (fun Xd=>?_))
 ·have UV:(x2.params.length:Int)=0:=(Zr).1 Xd
  exact Y3 2 [0] (Zg (Zq none 0 5 (GL Zt)) (Z1 4 (Yb (wk [0] (Zp (x2.result==0) Xd fl)) hj2)))
 have Td:¬((x2.params.length:Int)=0):=ZZ Zr Xd
 exact Z1 7 (Yb (wk [0] (Zp false Xd fl)) hj2)
theorem Zbx (ps:LI) (ls:LI) (hl_ps:ps.length<=4294967296:=by exact ob) (hl_ls:ls.length<=4294967296:=by exact ob):Za 128 [Ze ps,Ze ls] [] (ZP (.b (Kj ps ls))):=by
 refine Zx 47 Tryz.func128 (Zf (Yj (ab 0 (ZR (fun fz gz m F h=>∃(k:Nat),(k<=ls.length)/\(TZ ps (ls.drop k) (if k=0 then none else ls[k-1]?)=Kj ps ls)/\F=sF [0,1] fz [(5,.i k)]/\h=gz/\m=ls.length-k) _ _ _ ⟨0,ob,ob,rfl,rfl,rfl⟩ (wk [] (ZT fl)) ?_))))
 rintro m F h ⟨k,ZX,Z9,rfl,rfl,rfl⟩
 refine Y8 2 (iw (Yk ls) (ZN ((k:Int)<(ls.length:Int)) (fun Z5=>?_) (fun Z5=>?_)))
 ·refine ak (aq (ab 1 (aD 35 (Zm 33 35 [0,1] ?_))))
  obtain ⟨x1,Z2⟩:=Zv ls k om
  refine dx 2 (Zq none (k:Int) 1 (Yc Z2)) (Zm 30 32 [3,4] (dw 5 (Yk ps) (da 6 (((ps.length:Int)-1)) (((ps.length:Int))-(1)) (ZF 7 (XY 7 [] [] [] (Tg x1 0 ((ps.length:Int)-1)) (Zm 25 27 [8,9] (db (b:=(!(decide (0<=x1/\x1<=((ps.length:Int)-1))))) 21 (fun Zb=>?_) (fun Zb=>?_))))))))
  ·have Ya:¬(0<=x1/\x1<=((ps.length:Int)-1)):=((Yi dq)).1 Zb
   refine Zm 0 25 [10,11,12,13,14,15,16,17,18,19,20,21,22,23,24,25,26,27,28,29,30,31,32,33,34] (de (W4 (Zf ?_)))
   rw [ZH Z2] at Z9
   exact ZG (Zo (.b false) (lb (by have hq:=EH (ps:=ps) (v:=x1) (r:=ls.drop (k+1)) (prev:=if k=0 then none else ls[k-1]?);rw [<-Z9,hq];rintro ⟨q1,q2,q3⟩;first|omega|(rw [hps] at q2;exact q2 (Yp some om))|(have:=q3 _ (by rw [Z4 om,hls]);omega))))
  have YT:¬(¬(0<=x1/\x1<=((ps.length:Int)-1))):=ZZ (Yi dq) Zb
  refine Zm 22 25 [10,11,12] (dx 13 (Zq none (k:Int) 1 (Yc Z2)) (Zm 20 21 [14] ?_))
  obtain ⟨x2,Zt⟩:=Zv ps x1.toNat om
  have hps:=Zt
  refine dx 15 (Zq none x1 1 (Yc Zt)) (Zm 15 19 [16,17,18,19] (db (b:=(x2==0)) 31 (fun ZD=>?_) (fun ZD=>?_)))
  ·have Xy:x2=0:=(Zr).1 ZD
   refine Zm 0 15 [20,21,22,23,24,25,26,27,28,29,30,31,32,33,34] (de (W4 (Zf ?_)))
   rw [ZH Z2] at Z9
   exact ZG (Zo (.b false) (lb (by have hq:=EH (ps:=ps) (v:=x1) (r:=ls.drop (k+1)) (prev:=if k=0 then none else ls[k-1]?);rw [<-Z9,hq];rintro ⟨q1,q2,q3⟩;first|omega|(rw [hps] at q2;exact q2 (Yp some om))|(have:=q3 _ (by rw [Z4 om,hls]);omega))))
  have XE:¬(x2=0):=ZZ Zr ZD
  refine Zm 12 15 [20,21,22] (db (b:=(decide ((k:Int)>0))) 34 (fun Yn=>?_) (fun Yn=>?_))
  ·have VO:(k:Int)>0:=(dq).1 Yn
   refine Zm 10 12 [23,24] (dx 25 (Zq none (k:Int) 1 (Yc Z2)) (Zm 6 9 [26,27,28] (da 29 (((k-1:Nat):Int)) (((k:Int))-(1)) ?_)))
   obtain ⟨x3,YW⟩:=Zv ls (k-1) om
   have hls:=YW
   refine dx 30 (Zq none ((k-1:Nat):Int) 1 (Yc YW)) (Zm 0 4 [31,32,33,34] (de (Xf (x1<=x3) (fun Zd=>?_) (fun Zd=>?_))))
   ·refine Zf ?_
    rw [ZH Z2] at Z9
    exact ZG (Zo (.b false) (lb (by have hq:=EH (ps:=ps) (v:=x1) (r:=ls.drop (k+1)) (prev:=if k=0 then none else ls[k-1]?);rw [<-Z9,hq];rintro ⟨q1,q2,q3⟩;first|omega|(rw [hps] at q2;exact q2 (Yp some om))|(have:=q3 _ (by rw [Z4 om,hls]);omega))))
   refine ak (az (Z1 1 (ZK k (Z0 ?_))))
   have hl1:ls[k+1-1]? = some x1:=Z2
   have hlc:(0<=x1/\x1<=(ps.length:Int)-1)/\ps[x1.toNat]?≠some 0/\(∀p,(if k=0 then none else ls[k-1]?)=some p->p<x1):=⟨by omega,by rw [hps];intro q;cases q;omega,fun p hp=>by first|(rw [Z4 om,hls] at hp;cases hp;omega)|(rw [Z6 om] at hp;cases hp)⟩
   have hdr:=ZH Z2
   exact ZJ ⟨k+1,ob,(by have hq:=Hy (r:=ls.drop (k+1)) hlc;rw [hdr,hq] at Z9;rw [Z4 om,hl1];exact Z9),rfl,rfl,rfl⟩ (wk [] (ZL k fl))
  have Up:¬((k:Int)>0):=ZZ dq Yn
  refine Zm 0 12 [23,24,25,26,27,28,29,30,31,32,33,34] (de (XC (ak (az (Z1 1 (ZK k (Z0 ?_)))))))
  have hl1:ls[k+1-1]? = some x1:=Z2
  have hlc:(0<=x1/\x1<=(ps.length:Int)-1)/\ps[x1.toNat]?≠some 0/\(∀p,(if k=0 then none else ls[k-1]?)=some p->p<x1):=⟨by omega,by rw [hps];intro q;cases q;omega,fun p hp=>by first|(rw [Z4 om,hls] at hp;cases hp;omega)|(rw [Z6 om] at hp;cases hp)⟩
  have hdr:=ZH Z2
  exact ZJ ⟨k+1,ob,(by have hq:=Hy (r:=ls.drop (k+1)) hlc;rw [hdr,hq] at Z9;rw [Z4 om,hl1];exact Z9),rfl,rfl,rfl⟩ (wk [] (ZL k fl))
 refine ax 0 (Zf ?_)
 try rw [YR (xs:=ls) (k:=k) om] at Z9
 exact ZG (Zo (.b true) (lb (by first|rfl|omega|grind [TZ])))
theorem Zby (n:Zl) (hz:Jd n.decls:=by exact ob) (hr:∀r∈n.routines,r.params.length<=4194304/\r.lent.length<=4194304):Za 140 [X3 n] [] (ZP (.b (V5 n))):=by
 have hzl:=hz.len
 refine Zx 35 Tryz.func140 (ar (iA (W8 n) fun b1=>Z0 (Ym 2 [0] (iw (UD n.routines) (W7 [1] [(13,.b ((decide ((n.routines.length:Int)>4))||(!Qs n.decls (n.routines.map VU))))] (fun gz=>gz) ?_ ?_)))))
 ·refine Z1 2 (ib (b:=(decide ((n.routines.length:Int)>4))) 8 (fun Zb=>?_) (fun Zb=>?_))
  ·have Ya:(n.routines.length:Int)>4:=(dq).1 Zb
   exact Z0 (wk [0] (Zp true Zb fl))
  have YT:¬((n.routines.length:Int)>4):=ZZ dq Zb
  exact Y3 1 [0] (ZC [] (Zbq n) (ZC [] (Zc0 n.decls (n.routines.map VU) (hf:=(by intro f hf;obtain ⟨r,h1,rfl⟩:=Xb.1 hf;have:=(hr r h1).1;show r.params.length<=_;omega))) (Z0 (wk [0] (Zp (!Qs n.decls (n.routines.map VU)) Zb fl)))))
 refine ac ((decide ((n.routines.length:Int)>4))||(!Qs n.decls (n.routines.map VU))) (p:=((n.routines.length:Int)>4)∨(¬(Qs n.decls (n.routines.map VU)=true))) (Yg dq (Yi Iff.rfl)) (fun Z5=>?_) (fun Z5=>?_)
 ·exact ar (Z7 (Zo (.b false) (lb (by first|rfl|omega|grind [V5]))))
 refine ak (Yj (ab 0 (ZR (fun fz gz m F h=>∃(k:Nat),(k<=n.routines.length)/\(TI (n.routines.drop k)=TI n.routines)/\F=sF [1] fz [(3,.i k)]/\h=gz/\m=n.routines.length-k) _ _ _ ⟨0,ob,ob,rfl,rfl,rfl⟩ (wk [0] (ZT fl)) ?_)))
 rintro m F h ⟨k,ZX,Z9,rfl,rfl,rfl⟩
 refine Ym 3 [0] (iw (UD n.routines) (ZN ((k:Int)<(n.routines.length:Int)) (fun Zd=>?_) (fun Zd=>?_)))
 ·refine ak (aq (ab 1 (aD 14 (Y7 11 14 [0,1,2] [0] ?_))))
  obtain ⟨x1,Z2⟩:=Zv n.routines k om
  refine dx 3 (Zq none (k:Int) 5 (Um Z2)) (Y7 5 10 [4,5,6,7,8] [0] (dx 9 (Zq none (k:Int) 5 (Um Z2)) (Zm 2 4 [10,11] (ZF 12 (XY 12 [] [] [] (Zbx x1.params x1.lent (hl_ps:=(by have:=hr _ (YA Z2);omega)) (hl_ls:=(by have:=hr _ (YA Z2);omega))) (Zm 0 1 [13] (de (ac (!Kj x1.params x1.lent) (p:=¬(Kj x1.params x1.lent=true)) (Yi Iff.rfl) (fun Zw=>?_) (fun Zw=>?_)))))))))
  ·refine Zf ?_
   rw [ZH Z2] at Z9
   exact ZG (Zo (.b false) (lb (by clear Z2;first|rfl|omega|grind [TI,V5])))
  refine ak (az (Z1 1 (ZK k (Z0 ?_))))
  have hdr:=ZH Z2
  exact ZJ ⟨k+1,ob,(by rw [hdr] at Z9;clear hdr Z2;grind [TI]),rfl,rfl,rfl⟩ (wk [0] (ZL k fl))
 refine ax 0 (Zf ?_)
 try rw [YR (xs:=n.routines) (k:=k) om] at Z9
 exact ZG (Zo (.b true) (lb (by first|rfl|omega|grind [TI,V5])))
theorem KL (op:Int) :Za 173 [.i op] [] (ZP (.b (Xx op))):=by
 exact Zx 5 Tryz.func173 (Zf (ZM 1 (ZC [] (Tg op 0 11) (Z7 (Zo (.b (decide (0<=op/\op<=11))) (lb (by first|rfl|omega|grind [Xx])))))))
theorem Zbk (op:Int) :Za 230 [.i op] [] (ZP (.b (V8 op))):=by
 refine Zx 21 Tryz.func230 (Zf (ar (Xz 6 [0] [(8,.b ((op==0)||(op==6)))] (fun gz=>gz) ?_ (fun hj1=>?_))))
 ·refine Xz 10 [0] [(12,.b (((op==0)||(op==6))||(op==8)))] (fun gz=>gz) ?_ (fun hj2=>?_)
  ·refine Xz 14 [0] [(16,.b ((((op==0)||(op==6))||(op==8))||(op==9)))] (fun gz=>gz) ?_ (fun hj3=>?_)
   ·refine Xz 18 [] [(20,.b (((((op==0)||(op==6))||(op==8))||(op==9))||(op==10)))] (fun gz=>gz) ?_ (fun hj4=>?_)
    ·exact Z7 (Zo (.b (((((op==0)||(op==6))||(op==8))||(op==9))||(op==10))) (lb (by rw [V8];simp only [Bool.or_assoc])))
    refine Z1 1 (ib (b:=((((op==0)||(op==6))||(op==8))||(op==9))) 17 (fun Zb=>?_) (fun Zb=>?_))
    ·exact Z1 3 (Yb (wk [] (Zp true Zb fl)) hj4)
    exact Z1 3 (Yb (wk [] (Zp (op==10) Zb fl)) hj4)
   refine Z1 1 (ib (b:=(((op==0)||(op==6))||(op==8))) 13 (fun ZD=>?_) (fun ZD=>?_))
   ·exact Z1 3 (Yb (wk [] (Zp true ZD fl)) hj3)
   exact Z1 3 (Yb (wk [] (Zp (op==9) ZD fl)) hj3)
  refine Z1 1 (ib (b:=((op==0)||(op==6))) 9 (fun Yn=>?_) (fun Yn=>?_))
  ·exact Z1 3 (Yb (wk [] (Zp true Yn fl)) hj2)
  exact Z1 3 (Yb (wk [] (Zp (op==8) Yn fl)) hj2)
 refine Z1 3 (ib (b:=(op==0)) 5 (fun Xd=>?_) (fun Xd=>?_))
 ·exact Z1 3 (Yb (wk [] (Zp true Xd fl)) hj1)
 exact Z1 3 (Yb (wk [] (Zp (op==6) Xd fl)) hj1)
theorem Au (us:LI) (args:LI) (tys:LI) (hl_us:us.length<=4294967296:=by exact ob) (hl_args:args.length<=4294967296:=by exact ob) (hl_tys:tys.length<=4294967296:=by exact ob):Za 232 [Ze us,Ze args,Ze tys] [] (ZP (.b (XA us args tys))):=by
 refine Zx 42 Tryz.func232 (Zf (Y8 1 (iw (Yk args) (Z1 1 (iw (Yk tys) (Yt ((args.length:Int) != (tys.length:Int)) ZO (fun Z5=>?_) (fun Z5=>?_)))))))
 ·exact ar (Z7 (Zo (.b false) (lb (RN om).symm)))
 refine ak (Yj (ab 0 (ZR (fun fz gz m F h=>∃(k:Nat),(k<=args.length)/\(UH us (args.drop k) (tys.drop k)=XA us args tys)/\F=sF [0,1,2] fz [(7,.i k)]/\h=gz/\m=args.length-k) _ _ _ ⟨0,ob,ob,rfl,rfl,rfl⟩ (wk [] (ZT fl)) ?_)))
 rintro m F h ⟨k,ZX,Z9,rfl,rfl,rfl⟩
 refine Y8 2 (iw (Yk args) (ZN ((k:Int)<(args.length:Int)) (fun Zd=>?_) (fun Zd=>?_)))
 ·refine ak (aq (ab 1 (aD 23 (Zm 21 23 [0,1] ?_))))
  obtain ⟨x1,Z2⟩:=Zv args k om
  refine dx 2 (Zq none (k:Int) 1 (Yc Z2)) (Zm 18 20 [3,4] (dw 5 (Yk us) (da 6 (((us.length:Int)-1)) (((us.length:Int))-(1)) (ZF 7 (XY 7 [] [] [] (Tg x1 0 ((us.length:Int)-1)) (Zm 13 15 [8,9] (db (b:=(!(decide (0<=x1/\x1<=((us.length:Int)-1))))) 28 (fun Zb=>?_) (fun Zb=>?_))))))))
  ·have Ya:¬(0<=x1/\x1<=((us.length:Int)-1)):=((Yi dq)).1 Zb
   refine Zm 0 13 [10,11,12,13,14,15,16,17,18,19,20,21,22] (de (W4 (Zf ?_)))
   obtain ⟨y,hy⟩:=Zv tys k om
   exact ZG (Zo (.b false) (lb (by rw [<-Z9];exact (RM Z2 hy (by rw [QD Ya];simp)).symm)))
  have YT:¬(¬(0<=x1/\x1<=((us.length:Int)-1))):=ZZ (Yi dq) Zb
  refine Zm 10 13 [10,11,12] (dx 13 (Zq none (k:Int) 1 (Yc Z2)) (Zm 8 9 [14] ?_))
  obtain ⟨x2,Zt⟩:=Zv us x1.toNat om
  refine dx 15 (Zq none x1 1 (Yc Zt)) (Zm 4 7 [16,17,18] ?_)
  obtain ⟨x3,YW⟩:=Zv tys k om
  refine dx 19 (Zq none (k:Int) 1 (Yc YW)) (Zm 0 3 [20,21,22] (de (ac (x2 != x3) ZO (fun Zw=>?_) (fun Zw=>?_))))
  ·exact ar (Z7 (Zo (.b false) (lb (by rw [<-Z9];exact (RM Z2 YW (by rw [Tx om Zt];simpa using Zw)).symm))))
  refine ak (az (Z1 1 (ZK k (Z0 ?_))))
  have hdr:=ZH Z2
  exact ZJ ⟨k+1,ob,(by rw [<-Z9];exact (Zdt Z2 YW (by rw [Tx om Zt];congr 1;omega)).symm),rfl,rfl,rfl⟩ (wk [] (ZL k fl))
 exact ax 0 (ar (Z7 (Zo (.b true) (lb (by rw [<-Z9];exact (Zds om om).symm)))))
theorem Zbw (us:LI) (s:Z8) (hl_us:us.length<=4294967296:=by exact ob):Za 231 [Ze us,XO s] [] (ZP (.b (Vl us s.op s.into))):=by
 refine Zx 27 Tryz.func231 (ar (iA (WO s) fun b1=>Z0 (Yq (Vq [0] (ac (s.into==0) Zr (fun Z5=>?_) (fun Z5=>?_))))))
 ·exact ar (Z7 (Zo (.b true) (lb (by rw [Vl,Z6 Z5]))))
 refine ak (ar (Xz 10 [0,3] [(17,.b ((s.op==6)&&(decide (1<=s.into/\s.into<=(us.length:Int)))))] (fun gz=>gz) ?_ (fun hj1=>?_)))
 ·refine Z1 1 (ib (b:=((s.op==6)&&(decide (1<=s.into/\s.into<=(us.length:Int))))) 18 (fun Zb=>?_) (fun Zb=>?_))
  ·have Ya:(s.op=6)/\(1<=s.into/\s.into<=(us.length:Int)):=((Yy Zr dq)).1 Zb
   refine Y3 3 [0] (ia ((s.into-1)) ((s.into)-(1)) ?_)
   obtain ⟨x1,Z2⟩:=Zv us ((s.into-1).toNat) om
   exact Zg (Zq none (s.into-1) 1 (Yc Z2)) (Z7 (Zo (.b (decide (x1>0))) (lb (by rw [Vl,Z4 Z5];first|(rw [Z6 om,Tx om Z2];rfl)|(rw [Z6 om,QD om];rfl)|(rw [Z4 om])|(by_cases q:s.op=6;rw [Z6 q,QD om];rfl;rw [Z4 q])))))
  have YT:¬((s.op=6)/\(1<=s.into/\s.into<=(us.length:Int))):=ZZ (Yy Zr dq) Zb
  exact Z7 (Zo (.b false) (lb (by rw [Vl,Z4 Z5];first|(rw [Z6 om,Tx om Z2];rfl)|(rw [Z6 om,QD om];rfl)|(rw [Z4 om])|(by_cases q:s.op=6;rw [Z6 q,QD om];rfl;rw [Z4 q]))))
 refine Y3 4 [0] (ib (b:=(s.op==6)) 11 (fun ZD=>?_) (fun ZD=>?_))
 ·have Xy:s.op=6:=(Zr).1 ZD
  exact Y3 3 [0] (iw (Yk us) (ZC [] (Tg s.into 1 (us.length:Int)) (Z1 1 (Yb (wk [0] (Zp (decide (1<=s.into/\s.into<=(us.length:Int))) ZD fl)) hj1))))
 have XE:¬(s.op=6):=ZZ Zr ZD
 exact Z1 6 (Yb (wk [0] (Zp false ZD fl)) hj1)
theorem Zbp (n:Zl) (us:LI) (s:Z8) (hn:YY n:=by exact ob) (hl_us:us.length<=4294967296:=by exact ob) (ha:s.args.length<=1000000000:=by exact ob):Za 234 [X3 n,Ze us,XO s] [] (ZP (.i (Tf n us s.op s.num s.args))):=by
 have hrl:=hn.len
 have hdl:=hn.decls.len
 refine Zx 69 Tryz.func234 (ar (iA (W8 n) fun b1=>iA (WO s) fun b2=>Z0 (Ym 4 [0,1] (iw (UD n.routines) (ia (((n.routines.length:Int)-1)) (((n.routines.length:Int))-(1)) (ZC [] (Tg s.num 0 ((n.routines.length:Int)-1)) (Yt (!(decide (0<=s.num/\s.num<=((n.routines.length:Int)-1)))) (p:=¬(0<=s.num/\s.num<=((n.routines.length:Int)-1))) (Yi dq) (fun Z5=>?_) (fun Z5=>?_))))))))
 ·exact ar (Z7 (Zo (.i (-1)) (li (Z9o om).symm)))
 refine ak (ZB 4 [1,0] ?_)
 obtain ⟨x1,Z2⟩:=Zv n.routines s.num.toNat om
 have hrp:=hn.params_at Z2
 have hrt:=hn.lent_at Z2
 have hre:Tf n us s.op s.num s.args=QL n.decls us s.op s.args x1:=Z9m om Z2
 refine Zg (Zq none s.num 5 (Um Z2)) (Z1 1 (iA [nl,nl,.i 0,nl,.i 0] fun b3=>Y0 0 b3 (TH x1) (ie (ZB 2 [0] (iw (Yk x1.params) (Z0 (Yq (Vq [1] (ac (s.op==9) Zr (fun Zd=>?_) (fun Zd=>?_))))))))))
 ·refine Ym 5 [1,0] (ZC [] (Au us s.args x1.params) (Yt (!XA us s.args x1.params) (p:=¬(XA us s.args x1.params=true)) (Yi Iff.rfl) (fun Zw=>?_) (fun Zw=>?_)))
  ·exact ar (Z7 (Zo (.i (-1)) (li (by clear Z2;first|rfl|omega|grind [QL,QW]))))
  exact ak (Jt [0] (ZG (Zo (.i x1.result) (li (by clear Z2;first|rfl|omega|grind [QL,QW])))))
 refine ak (aq (aD 20 (Jm [3,7,8] [(57,.b (((x1.params.length:Int)==0)||((decide ((x1.lent.length:Int)>0))||(!XA us s.args (x1.params.take (x1.params.length-1))))))] (fun gz=>gz) ?_ ?_)))
 ·refine Zm 17 20 [0,1,2] (db (b:=((x1.params.length:Int)==0)) 40 (fun Zb=>?_) (fun Zb=>?_))
  ·have Ya:(x1.params.length:Int)=0:=(Zr).1 Zb
   exact Zm 0 17 [3,4,5,6,7,8,9,10,11,12,13,14,15,16,17,18,19] (de (Y1 3 (Zp true Zb fl)))
  have YT:¬((x1.params.length:Int)=0):=ZZ Zr Zb
  refine Y7 15 17 [3,4] [0] (dw 5 (Yk x1.lent) (Zm 11 14 [6,7,8] (db (b:=(decide ((x1.lent.length:Int)>0))) 46 (fun ZD=>?_) (fun ZD=>?_))))
  ·have Xy:(x1.lent.length:Int)>0:=(dq).1 ZD
   exact Zm 0 11 [9,10,11,12,13,14,15,16,17,18,19] (de (Y1 3 (Zp true (And.intro Zb ZD) fl)))
  have XE:¬((x1.lent.length:Int)>0):=ZZ dq ZD
  exact Y7 5 11 [9,10,11,12,13,14] [1,0] (da 15 (((x1.params.length-1:Nat):Int)) (((x1.params.length:Int))-(1)) (dx 16 (De (es:=Zi x1.params) (hv:=none) (l:=0) (m:=((x1.params.length-1:Nat):Int)) (sz:=1) (es':=Zi (x1.params.take (x1.params.length-1))) kr om (by simp<;>omega) (by simp<;>omega) (Wq _) (by first|(simp only [Qt,Kr,Kz,Jp];done)|(simp only [Qt,Kr,Kz,Jp];rfl)|(simp [Kz,Jp];done))) (ZF 17 (XY 17 [] [] [] (Au us s.args (x1.params.take (x1.params.length-1))) (Zm 0 2 [18,19] (de (Y1 3 (Zp (!XA us s.args (x1.params.take (x1.params.length-1))) (And.intro Zb ZD) fl))))))))
 refine ac (((x1.params.length:Int)==0)||((decide ((x1.lent.length:Int)>0))||(!XA us s.args (x1.params.take (x1.params.length-1))))) (p:=((x1.params.length:Int)=0)∨(((x1.lent.length:Int)>0)∨(¬(XA us s.args (x1.params.take (x1.params.length-1))=true)))) (Yg Zr (Yg dq (Yi Iff.rfl))) (fun Yd=>?_) (fun Yd=>?_)
 ·exact ar (Z7 (Zo (.i (-1)) (li (by clear Z2;first|rfl|omega|grind [QL,QW]))))
 refine ak (aD 12 (Y7 7 12 [0,1,2,3,4] [2,0] (da 5 (((x1.params.length-1:Nat):Int)) (((x1.params.length:Int))-(1)) ?_)))
 obtain ⟨x2,Zt⟩:=Zv x1.params (x1.params.length-1) om
 have hgl:=Np Zt
 exact dx 6 (Zq none ((x1.params.length-1:Nat):Int) 1 (Yc Zt)) (Y7 2 5 [7,8,9] [0] (ZF 10 (XY 10 [] [] [] (Zb6 n.decls x2 x1.result) (Zm 0 1 [11] (de (ZG (Zo (.i (T9 n.decls x2 x1.result)) (li (by clear Z2 Zt;first|rfl|omega|grind [QL,QW])))))))))
theorem Zbd (n:Zl) (us:LI) (s:Z8) (hn:YY n:=by exact ob) (hl_us:us.length<=4294967296:=by exact ob) (ha:s.args.length<=1000000000:=by exact ob):Za 236 [X3 n,Ze us,XO s] [] (ZP (.i (Ty n.decls us s.op s.args))):=by
 have Ws:=hn.decls
 refine Zx 52 Tryz.func236 (ar (iA (W8 n) fun b1=>iA (WO s) fun b2=>Z0 (Ym 2 [0] (iw (Yk s.args) (Z1 2 (ib (b:=((s.args.length:Int) != 1)) 11 (fun Zb=>?_) (fun Zb=>?_)))))))
 ·have Ya:(s.args.length:Int)≠1:=(ZO).1 Zb
  exact Z0 (W4 (ar (Z7 (Zo (.i (-1)) (li (by first|assumption|omega|rfl|(rw [Bu om])|(rw [Bv (QV om Z2) om])|(rw [Bt (QV om Z2) om Zt];clear Z2 Zt;grind)))))))
 have YT:¬((s.args.length:Int)≠1):=ZZ ZO Zb
 refine Y3 2 [0] ?_
 obtain ⟨x1,Z2⟩:=Zv s.args 0 om
 refine Zg (Zq none 0 1 (Yc Z2)) (Z1 2 (iw (Yk us) (ia (((us.length:Int)-1)) (((us.length:Int))-(1)) (ZC [] (Tg x1 0 ((us.length:Int)-1)) (Z1 3 (ib (b:=(!(decide (0<=x1/\x1<=((us.length:Int)-1))))) 22 (fun ZD=>?_) (fun ZD=>?_)))))))
 ·have Xy:¬(0<=x1/\x1<=((us.length:Int)-1)):=((Yi dq)).1 ZD
  exact Z0 (W4 (ar (Z7 (Zo (.i (-1)) (li (by first|assumption|omega|rfl|(rw [Bu om])|(rw [Bv (QV om Z2) om])|(rw [Bt (QV om Z2) om Zt];clear Z2 Zt;grind)))))))
 have XE:¬(¬(0<=x1/\x1<=((us.length:Int)-1))):=ZZ (Yi dq) ZD
 refine Y3 3 [0] (Zg (Zq none 0 1 (Yc Z2)) (Z1 1 ?_))
 obtain ⟨x2,Zt⟩:=Zv us x1.toNat om
 refine Zg (Zq none x1 1 (Yc Zt)) (Yt (x2==0) Zr (fun Z5=>?_) (fun Z5=>?_))
 ·exact ar (Z7 (Zo (.i (-1)) (li (by first|assumption|omega|rfl|(rw [Bu om])|(rw [Bv (QV om Z2) om])|(rw [Bt (QV om Z2) om Zt];clear Z2 Zt;grind)))))
 refine ak (aq (aD 20 (Jm [] [(51,.b ((s.op != 14)&&((s.op != 15)&&XK n.decls x2)))] (fun gz=>gz) ?_ ?_)))
 ·refine Y7 16 20 [0,1,2,3] [0] (db (b:=(s.op != 14)) 35 (fun Yn=>?_) (fun Yn=>?_))
  ·have VO:s.op≠14:=(ZO).1 Yn
   refine Y7 11 16 [4,5,6,7,8] [0] (db (b:=(s.op != 15)) 40 (fun Xd=>?_) (fun Xd=>?_))
   ·have Up:s.op≠15:=(ZO).1 Xd
    exact Y7 6 11 [9,10,11,12,13] [1,0] (dx 14 (Zq none 0 1 (Yc Z2)) (Zm 4 5 [15] (dx 16 (Zq none x1 1 (Yc Zt)) (Zm 2 3 [17] (ZF 18 (XY 18 [] [] [] (Rb n.decls x2 (hd:=(by first|assumption|omega|rfl|(rw [Bu om])|(rw [Bv (QV om Z2) om])|(rw [Bt (QV om Z2) om Zt];clear Z2 Zt;grind)))) (Zm 0 1 [19] (de (wk [0,0] (Zp (XK n.decls x2) (And.intro Yn Xd) fl))))))))))
   have UV:¬(s.op≠15):=ZZ ZO Xd
   exact Zm 0 11 [9,10,11,12,13,14,15,16,17,18,19] (de (wk [0,0] (Zp false (And.intro Yn Xd) fl)))
  have Td:¬(s.op≠14):=ZZ ZO Yn
  exact Zm 0 16 [4,5,6,7,8,9,10,11,12,13,14,15,16,17,18,19] (de (wk [0,0] (Zp false Yn fl)))
 refine ac ((s.op != 14)&&((s.op != 15)&&XK n.decls x2)) (p:=(s.op≠14)/\((s.op≠15)/\(XK n.decls x2=true))) (Yy ZO (Yy ZO Iff.rfl)) (fun Zd=>?_) (fun Zd=>?_)
 ·exact ar (Z7 (Zo (.i (-1)) (li (by first|assumption|omega|rfl|(rw [Bu om])|(rw [Bv (QV om Z2) om])|(rw [Bt (QV om Z2) om Zt];clear Z2 Zt;grind)))))
 exact ak (ar (Z7 (Zo (.i 0) (li (by first|assumption|omega|rfl|(rw [Bu om])|(rw [Bv (QV om Z2) om])|(rw [Bt (QV om Z2) om Zt];clear Z2 Zt;grind))))))
theorem Rc (n:Zl) (us:LI) (s:Z8) (hn:YY n:=by exact ob) (hop:s.op=7∨s.op=8:=by exact ob) (hb:us.length+4*s.sz<=1000000000:=by exact ob) (ih:∀(b:Zh) (us:LI),(b.sz<s.sz)->(us.length+4*b.sz<=1000000000)->Za 142 [X3 n,Ze us,YC b] [] (ZP (.i (Ys n us b)))):Za 233 [X3 n,Ze us,XO s] [] (ZP (.i (T6 n us s.op s.num s.kids))):=by
 have Ws:=hn.decls
 have hkz:=Ql s
 refine Zx 71 Tryz.func233 (ar (iA (W8 n) fun b1=>iA (WO s) fun b2=>Z0 (ZB 4 [1,0] (ic [] (R8 n.decls s.num) ?_))))
 rintro _ _ ⟨v1,rfl,rfl⟩
 refine Z0 (ZM 1 (io (.i (((YG n.decls s.num).length:Nat):Int)) (.i (((Zi (YG n.decls s.num)).length:Nat):Int)) (li (by rw [Yk])) (Z0 (Yq (Vq [1] (Tz (fun fz gz F h=>F=sF [1,3,5] fz [(7,Ze (YG n.decls s.num)),(8,.i (((YF n.decls s.op s.num).length:Nat):Int))]/\h=[Zy gz 1,Zy gz 2]) ?_ ?_))))))
 ·refine ac (s.op==7) Zr (fun Z5=>?_) (fun Z5=>?_)
  ·exact Qj (Xk ⟨rfl,rfl⟩ (wk [1,1] (fc (x:=ZV (YG n.decls s.num) v1) (Zk.forget _ _) (fc (x:=.i 2) (li (by rw [YF,Z6 Z5];rfl)) fl))))
  exact ak (Xk ⟨rfl,rfl⟩ (wk [1,1] (fc (x:=ZV (YG n.decls s.num) v1) (Zk.forget _ _) (fc (x:=.i (((YG n.decls s.num).length:Nat):Int)) (li (by rw [YF,Z4 Z5,Uh])) fl))))
 rintro F h ⟨rfl,rfl⟩
 refine Yq (W7 [1,3,5,7,8] [(31,.b (((((YF n.decls s.op s.num).length:Nat):Int)==0)||((s.kids.length:Int) != (((YF n.decls s.op s.num).length:Nat):Int))))] (fun gz=>gz) ?_ ?_)
 ·refine Z1 3 (ib (b:=((((YF n.decls s.op s.num).length:Nat):Int)==0)) 25 (fun Zb=>?_) (fun Zb=>?_))
  ·exact Z0 (wk [0,0] (Zp true Zb fl))
  exact Y3 2 [0] (iw (Ua s.kids) (Z0 (wk [0,0] (Zp ((s.kids.length:Int) != (((YF n.decls s.op s.num).length:Nat):Int)) Zb fl))))
 refine ac (((((YF n.decls s.op s.num).length:Nat):Int)==0)||((s.kids.length:Int) != (((YF n.decls s.op s.num).length:Nat):Int))) (p:=((((YF n.decls s.op s.num).length:Nat):Int)=0)∨((s.kids.length:Int)≠(((YF n.decls s.op s.num).length:Nat):Int))) (Yg Zr ZO) (fun Zd=>?_) (fun Zd=>?_)
 ·exact ar (Z7 (Zo (.i (-1)) (li (by rw [T6,Z6 om]))))
 refine ak (Zf (Yj (ab 0 (ZR (fun fz gz m F h=>∃(k:Nat) (t:Int),(k<=s.kids.length)/\(XL n us (s.kids.drop k) ((YF n.decls s.op s.num).drop k) (decide (k=0)) t=XL n us s.kids (YF n.decls s.op s.num) true 0)/\F=sF [1,3,5,7,8] fz [(9,.i t),(10,.i k)]/\h=gz/\m=s.kids.length-k) _ _ _ ⟨0,0,ob,(by rfl),rfl,rfl,rfl⟩ (wk [0,0] (fr (ZT fl))) ?_))))
 rintro m F h ⟨k,t,ZX,Z9,rfl,rfl,rfl⟩
 refine Yq (ZN ((k:Int)<(((YF n.decls s.op s.num).length:Nat):Int)) (fun Zw=>?_) (fun Zw=>?_))
 ·refine ak (aq (ab 1 (Zf (Yq (Vq [0] (Tz (fun fz gz F h=>∃(m:LI),((YF n.decls s.op s.num)[k]? = some m)/\F=sF [1,3,5,7,8,9,10] fz [(11,Ze (us++m))]/\h=gz) ?_ ?_))))))
  ·refine ac (s.op==8) Zr (fun Yd=>?_) (fun Yd=>?_)
   ·refine aE 10 (Y7 5 10 [0,1,2,3,4] [1] ?_)
    obtain ⟨x1,Z2⟩:=Zv (YG n.decls s.num) k (by rw [YF,Z4 om,Uh] at Zw;omega)
    refine dx 5 (Zq none (k:Int) 1 (Yc Z2)) (Zm 3 4 [6] (ZF 7 (XY 7 [] [] [] (Fd n.decls x1) (ZF 8 (dc 8 [] [] [] (Zbh us (Y2 n.decls x1) (hl:=(by have:=TU Ws x1;omega))) ?_)))))
    rintro _ _ ⟨v2,rfl,rfl⟩
    exact Zm 0 1 [9] (de (Xk ⟨(Y2 n.decls x1),(by rw [show s.op=8 from Yd];exact SN Z2),rfl,rfl⟩ (wk [1,1] fl)))
   exact ak (Xk ⟨[],(by rw [YF,Z6 om];have:k=0∨k=1:=(by rw [YF,Z6 om] at Zw;simp at Zw;omega);rcases this with rfl|rfl<;>rfl),rfl,rfl⟩ (wk [0,0] (fc (x:=Ze us) (Zk.sl _ (Yp Zi (by simp))) fl)))
  rintro F h ⟨m,Hn,rfl,rfl⟩
  refine aD 9 (Y7 4 9 [0,1,2,3,4] [1,0] ?_)
  obtain ⟨x2,Zt⟩:=Zv s.kids k om
  have hks:=Ka Zt
  have hm3:=Bm Ws Hn
  refine dx 5 (Zq none (k:Int) 2 (TA Zt)) (Zm 2 3 [6] (ZF 7 (XY 7 [] [] [] (ih x2 (us++m) ob (by simp only [Yz];omega)) (Zm 0 1 [8] (de (Yq (W7 [1,3,5,7,8,10,12] [(68,.b ((decide ((Ys n (us++m) x2)<0))||((decide ((k:Int)>0))&&((Ys n (us++m) x2) != t))))] (fun gz=>gz) ?_ ?_)))))))
  ·refine Z1 3 (ib (b:=(decide ((Ys n (us++m) x2)<0))) 60 (fun ZD=>?_) (fun ZD=>?_))
   ·exact Z0 (wk [0,0] (Zp true ZD fl))
   refine Z1 3 (ib (b:=(decide ((k:Int)>0))) 63 (fun Yn=>?_) (fun Yn=>?_))
   ·exact Z0 (wk [0,0] (Zp ((Ys n (us++m) x2) != t) (And.intro ZD Yn) fl))
   exact Z0 (wk [0,0] (Zp false (And.intro ZD Yn) fl))
  refine ac ((decide ((Ys n (us++m) x2)<0))||((decide ((k:Int)>0))&&((Ys n (us++m) x2) != t))) (p:=((Ys n (us++m) x2)<0)∨(((k:Int)>0)/\((Ys n (us++m) x2)≠t))) (Yg dq (Yy dq ZO)) (fun Xm=>?_) (fun Xm=>?_)
  ·exact ar (Z7 (Zo (.i (-1)) (li (by rw [T6,Z4 om,<-Z9];exact (O8 Zt Hn Xm).symm))))
  exact ak (Qj (az (Z1 1 (ZK k (Z0 (ZJ ⟨k+1,Ys n (us++m) x2,ob,(by rw [<-Z9];exact (Ob Zt Hn Xm).symm),rfl,rfl,rfl⟩ (wk [0,0] (fr (ZL k fl)))))))))
 exact ax 0 (ar (Z7 (Zo (.i t) (li (by rw [T6,Z4 om,<-Z9];exact (O9 om).symm)))))
theorem Rf (n:Zl) (us:LI) (s:Z8) (hn:YY n:=by exact ob) (hb:us.length+4*s.sz<=1000000000:=by exact ob) (ih:∀(b:Zh) (us:LI),(b.sz<s.sz)->(us.length+4*b.sz<=1000000000)->Za 142 [X3 n,Ze us,YC b] [] (ZP (.i (Ys n us b)))):Za 197 [X3 n,Ze us,XO s] [] (ZP (.i (ZQ n us s))):=by
 have Ws:=hn.decls
 have hkz:=Ql s
 have haz:=A1 s
 have hdl:=Ws.len
 have hst:=KM n us s
 refine Zx 183 Tryz.func197 (ar (iA (W8 n) fun b1=>iA (WO s) fun b2=>Z0 (Yq (Xz 9 [1,3,5] [(16,.b ((s.num != 0)&&(!V8 s.op)))] (fun gz=>gz) ?_ (fun hj1=>?_)))))
 ·refine Xz 15 [1,3,5] [(22,.b (((s.num != 0)&&(!V8 s.op))||(!Vl us s.op s.into)))] (fun gz=>gz) ?_ (fun hj2=>?_)
  ·refine W7 [1,3,5] [(38,.b ((((s.num != 0)&&(!V8 s.op))||(!Vl us s.op s.into))||((decide ((s.kids.length:Int)>0))&&((s.op != 7)&&(s.op != 8)))))] (fun gz=>gz) ?_ ?_
   ·refine Z1 1 (ib (b:=(((s.num != 0)&&(!V8 s.op))||(!Vl us s.op s.into))) 23 (fun Zb=>?_) (fun Zb=>?_))
    ·have Ya:((s.num≠0)/\(¬(V8 s.op=true)))∨(¬(Vl us s.op s.into=true)):=((Yg (Yy ZO (Yi Iff.rfl)) (Yi Iff.rfl))).1 Zb
     exact Z0 (wk [0,0] (Zp true Zb fl))
    have YT:¬(((s.num≠0)/\(¬(V8 s.op=true)))∨(¬(Vl us s.op s.into=true))):=ZZ (Yg (Yy ZO (Yi Iff.rfl)) (Yi Iff.rfl)) Zb
    refine Y3 2 [0] (iw (Ua s.kids) (Z1 2 (ib (b:=(decide ((s.kids.length:Int)>0))) 28 (fun ZD=>?_) (fun ZD=>?_))))
    ·have Xy:(s.kids.length:Int)>0:=(dq).1 ZD
     refine Y3 5 [0] (ib (b:=(s.op != 7)) 33 (fun Yn=>?_) (fun Yn=>?_))
     ·have XE:s.op≠7:=(ZO).1 Yn
      exact Vq [0] (wk [0,0] (Zp (s.op != 8) (And.intro Zb (And.intro ZD Yn)) fl))
     have VO:¬(s.op≠7):=ZZ ZO Yn
     exact Z0 (wk [0,0] (Zp false (And.intro Zb (And.intro ZD Yn)) fl))
    have Up:¬((s.kids.length:Int)>0):=ZZ dq ZD
    exact Z0 (wk [0,0] (Zp false (And.intro Zb ZD) fl))
   refine ac ((((s.num != 0)&&(!V8 s.op))||(!Vl us s.op s.into))||((decide ((s.kids.length:Int)>0))&&((s.op != 7)&&(s.op != 8)))) (p:=(((s.num≠0)/\(¬(V8 s.op=true)))∨(¬(Vl us s.op s.into=true)))∨(((s.kids.length:Int)>0)/\((s.op≠7)/\(s.op≠8)))) (Yg (Yg (Yy ZO (Yi Iff.rfl)) (Yi Iff.rfl)) (Yy dq (Yy ZO ZO))) (fun Z5=>?_) (fun Z5=>?_)
   ·exact ar (Z7 (Zo (.i (-1)) (li (by first|rfl|( grind)|(have q:=Uy (ds:=n.decls) (us:=us) (args:=s.args) om; grind)|(have q:=Uz (ds:=n.decls) (us:=us) (args:=s.args) om ‹s.args[0]? = some _› om; grind)|(have q:=Uj (ds:=n.decls) (us:=us) (args:=s.args) om ‹s.args[0]? = some _› om ‹us[_]? = some _›; grind)))))
   refine ak (Yq (Vq [0] (ab 0 (ar (Yt (s.op==0) Zr (fun Zd=>?_) (fun Zd=>?_))))))
   ·refine ZB 2 [0] (iw (Yk s.args) (W7 [] [(51,.b (((s.args.length:Int)==0)&&(decide ((-999)<=s.num/\s.num<=999))))] (fun gz=>gz) ?_ ?_))
    ·refine Z1 2 (ib (b:=((s.args.length:Int)==0)) 47 (fun Xd=>?_) (fun Xd=>?_))
     ·have UV:(s.args.length:Int)=0:=(Zr).1 Xd
      exact Y3 2 [0] (ZC [] (Tg s.num (-999) 999) (Z0 (wk [0,0] (Zp (decide ((-999)<=s.num/\s.num<=999)) Xd fl))))
     have Td:¬((s.args.length:Int)=0):=ZZ Zr Xd
     exact Z0 (wk [0,0] (Zp false Xd fl))
    refine ac (((s.args.length:Int)==0)&&(decide ((-999)<=s.num/\s.num<=999))) (p:=((s.args.length:Int)=0)/\((-999)<=s.num/\s.num<=999)) (Yy Zr dq) (fun Zw=>?_) (fun Zw=>?_)
    ·exact ar (Z7 (Zo (.i 0) (li (by first|rfl|( grind)|(have q:=Uy (ds:=n.decls) (us:=us) (args:=s.args) om; grind)|(have q:=Uz (ds:=n.decls) (us:=us) (args:=s.args) om ‹s.args[0]? = some _› om; grind)|(have q:=Uj (ds:=n.decls) (us:=us) (args:=s.args) om ‹s.args[0]? = some _› om ‹us[_]? = some _›; grind)))))
    exact ak (ar (Z7 (Zo (.i (-1)) (li (by first|rfl|( grind)|(have q:=Uy (ds:=n.decls) (us:=us) (args:=s.args) om; grind)|(have q:=Uz (ds:=n.decls) (us:=us) (args:=s.args) om ‹s.args[0]? = some _› om; grind)|(have q:=Uj (ds:=n.decls) (us:=us) (args:=s.args) om ‹s.args[0]? = some _› om ‹us[_]? = some _›; grind))))))
   refine Yj (Tz (fun fz gz F h=>F=sF [1,3,5,40] fz [(52,.b ((s.op==1)||((s.op==2)||((s.op==3)||(s.op==4)))))]/\h=gz) ?_ ?_)
   ·refine ac (s.op==1) Zr (fun Yd=>?_) (fun Yd=>?_)
    ·exact ak (Xk ⟨rfl,rfl⟩ (wk [0,0] (fc (x:=.b (s.op==1)) (lb (by first|rfl|(rw [Z6 Yd])|(rw [Z4 Yd])|(simp [Yd];done)|(rw [Wk];simp [Yd];done)|omega)) fl)))
    refine ar (Yt (s.op==2) Zr (fun Xm=>?_) (fun Xm=>?_))
    ·exact ak (Xk ⟨rfl,rfl⟩ (wk [0,0] (fc (x:=.b (s.op==2)) (lb (by first|rfl|(rw [Z6 Yd])|(rw [Z4 Yd])|(simp [Yd,Xm];done)|(rw [Wk];simp [Yd,Xm];done)|omega)) fl)))
    refine ar (Yt (s.op==3) Zr (fun Wc=>?_) (fun Wc=>?_))
    ·exact ak (Xk ⟨rfl,rfl⟩ (wk [0,0] (fc (x:=.b (s.op==3)) (lb (by first|rfl|(rw [Z6 Yd])|(rw [Z4 Yd])|(simp [Yd,Xm,Wc];done)|(rw [Wk];simp [Yd,Xm,Wc];done)|omega)) fl)))
    exact Qj (Xk ⟨rfl,rfl⟩ (wk [0,0] (fc (x:=.b (s.op==4)) (lb (by first|rfl|(rw [Z6 Yd])|(rw [Z4 Yd])|(simp [Yd,Xm,Wc];done)|(rw [Wk];simp [Yd,Xm,Wc];done)|omega)) fl)))
   rintro F h ⟨rfl,rfl⟩
   refine ac ((s.op==1)||((s.op==2)||((s.op==3)||(s.op==4)))) (p:=(s.op=1)∨((s.op=2)∨((s.op=3)∨(s.op=4)))) (Yg Zr (Yg Zr (Yg Zr Zr))) (fun UU=>?_) (fun UU=>?_)
   ·refine ZB 3 [0] (iL (Zi [0,0]) 2 1 fun v1=>XX 0 [(60,Ze [0,0])] (ZC [] (Au us s.args [0,0] (hl_tys:=(by first|(simp;done)|(have:=TU Ws s.num;omega)))) (ie (ac (XA us s.args [0,0]) Iff.rfl (fun Vy=>?_) (fun Vy=>?_)))))
    ·exact ar (Z7 (Zo (.i 0) (li (by first|rfl|( grind)|(have q:=Uy (ds:=n.decls) (us:=us) (args:=s.args) om; grind)|(have q:=Uz (ds:=n.decls) (us:=us) (args:=s.args) om ‹s.args[0]? = some _› om; grind)|(have q:=Uj (ds:=n.decls) (us:=us) (args:=s.args) om ‹s.args[0]? = some _› om ‹us[_]? = some _›; grind)))))
    exact ak (ar (Z7 (Zo (.i (-1)) (li (by first|rfl|( grind)|(have q:=Uy (ds:=n.decls) (us:=us) (args:=s.args) om; grind)|(have q:=Uz (ds:=n.decls) (us:=us) (args:=s.args) om ‹s.args[0]? = some _› om; grind)|(have q:=Uj (ds:=n.decls) (us:=us) (args:=s.args) om ‹s.args[0]? = some _› om ‹us[_]? = some _›; grind))))))
   refine ar (Yt (s.op==5) Zr (fun T3=>?_) (fun T3=>?_))
   ·refine ZB 3 [0] (iL (Zi [0]) 1 1 fun v2=>XX 0 [(67,Ze [0])] (ZC [] (Au us s.args [0] (hl_tys:=(by first|(simp;done)|(have:=TU Ws s.num;omega)))) (ie (ac (XA us s.args [0]) Iff.rfl (fun To=>?_) (fun To=>?_)))))
    ·exact ar (Z7 (Zo (.i 0) (li (by first|rfl|( grind)|(have q:=Uy (ds:=n.decls) (us:=us) (args:=s.args) om; grind)|(have q:=Uz (ds:=n.decls) (us:=us) (args:=s.args) om ‹s.args[0]? = some _› om; grind)|(have q:=Uj (ds:=n.decls) (us:=us) (args:=s.args) om ‹s.args[0]? = some _› om ‹us[_]? = some _›; grind)))))
    exact ak (ar (Z7 (Zo (.i (-1)) (li (by first|rfl|( grind)|(have q:=Uy (ds:=n.decls) (us:=us) (args:=s.args) om; grind)|(have q:=Uz (ds:=n.decls) (us:=us) (args:=s.args) om ‹s.args[0]? = some _› om; grind)|(have q:=Uj (ds:=n.decls) (us:=us) (args:=s.args) om ‹s.args[0]? = some _› om ‹us[_]? = some _›; grind))))))
   refine ar (Yt (s.op==6) Zr (fun Jv=>?_) (fun Jv=>?_))
   ·refine aD 17 (Y7 13 17 [0,1,2,3] [1,0] (ZF 4 (XY 4 [] [] [] (IE n.decls s.num) (Jm [3,5] [(87,.b ((decide ((XJ n.decls s.num)>0))&&XA us s.args (Y2 n.decls s.num)))] (fun gz=>gz) ?_ ?_))))
    ·refine Zm 10 12 [5,6] (db (b:=(decide ((XJ n.decls s.num)>0))) 77 (fun WC=>?_) (fun WC=>?_))
     ·have Qk:(XJ n.decls s.num)>0:=(dq).1 WC
      exact Y7 3 10 [7,8,9,10,11,12,13] [0,1,0] (ZF 14 (XY 14 [] [0] [b2] (Fd n.decls s.num (hd:=Ws)) (ZF 15 (XY 15 [] [] [] (Au us s.args (Y2 n.decls s.num) (hl_tys:=(by first|(simp;done)|(have:=TU Ws s.num;omega)))) (Zm 0 1 [16] (de (wk [0,0] (Zp (XA us s.args (Y2 n.decls s.num)) WC fl))))))))
     have K8:¬((XJ n.decls s.num)>0):=ZZ dq WC
     exact Zm 0 10 [7,8,9,10,11,12,13,14,15,16] (de (wk [0,0] (Zp false WC fl)))
    refine ac ((decide ((XJ n.decls s.num)>0))&&XA us s.args (Y2 n.decls s.num)) (p:=((XJ n.decls s.num)>0)/\(XA us s.args (Y2 n.decls s.num)=true)) (Yy dq Iff.rfl) (fun Tp=>?_) (fun Tp=>?_)
    ·exact ZB 4 [1,0] (ZC [] (IE n.decls s.num) (Z7 (Zo (.i (XJ n.decls s.num)) (li (by first|rfl|( grind)|(have q:=Uy (ds:=n.decls) (us:=us) (args:=s.args) om; grind)|(have q:=Uz (ds:=n.decls) (us:=us) (args:=s.args) om ‹s.args[0]? = some _› om; grind)|(have q:=Uj (ds:=n.decls) (us:=us) (args:=s.args) om ‹s.args[0]? = some _› om ‹us[_]? = some _›; grind))))))
    exact ak (ar (Z7 (Zo (.i (-1)) (li (by first|rfl|( grind)|(have q:=Uy (ds:=n.decls) (us:=us) (args:=s.args) om; grind)|(have q:=Uz (ds:=n.decls) (us:=us) (args:=s.args) om ‹s.args[0]? = some _› om; grind)|(have q:=Uj (ds:=n.decls) (us:=us) (args:=s.args) om ‹s.args[0]? = some _› om ‹us[_]? = some _›; grind))))))
   refine ar (Yt (s.op==7) Zr (fun K6=>?_) (fun K6=>?_))
   ·refine ZB 3 [0] (iL (Zi [0]) 1 1 fun v3=>XX 0 [(98,Ze [0])] (ZC [] (Au us s.args [0] (hl_tys:=(by first|(simp;done)|(have:=TU Ws s.num;omega)))) (ie (ac (XA us s.args [0]) Iff.rfl (fun AS=>?_) (fun AS=>?_)))))
    ·exact ZB 3 [2,1] (ZC [] (Rc n us s (ih:=ob)) (Z7 (Zo (.i (T6 n us s.op s.num s.kids)) (li (by first|rfl|( grind)|(have q:=Uy (ds:=n.decls) (us:=us) (args:=s.args) om; grind)|(have q:=Uz (ds:=n.decls) (us:=us) (args:=s.args) om ‹s.args[0]? = some _› om; grind)|(have q:=Uj (ds:=n.decls) (us:=us) (args:=s.args) om ‹s.args[0]? = some _› om ‹us[_]? = some _›; grind))))))
    exact ak (ar (Z7 (Zo (.i (-1)) (li (by first|rfl|( grind)|(have q:=Uy (ds:=n.decls) (us:=us) (args:=s.args) om; grind)|(have q:=Uz (ds:=n.decls) (us:=us) (args:=s.args) om ‹s.args[0]? = some _› om; grind)|(have q:=Uj (ds:=n.decls) (us:=us) (args:=s.args) om ‹s.args[0]? = some _› om ‹us[_]? = some _›; grind))))))
   refine ar (Yt (s.op==8) Zr (fun H6=>?_) (fun H6=>?_))
   ·refine ZB 5 [0,0] (iL (Zi [s.num]) 1 1 fun v4=>XX 0 [(111,Ze [s.num])] (ZC [] (Au us s.args [s.num] (hl_tys:=(by first|(simp;done)|(have:=TU Ws s.num;omega)))) (ie (ac (XA us s.args [s.num]) Iff.rfl (fun H7=>?_) (fun H7=>?_)))))
    ·exact ZB 3 [2,1] (ZC [] (Rc n us s (ih:=ob)) (Z7 (Zo (.i (T6 n us s.op s.num s.kids)) (li (by first|rfl|( grind)|(have q:=Uy (ds:=n.decls) (us:=us) (args:=s.args) om; grind)|(have q:=Uz (ds:=n.decls) (us:=us) (args:=s.args) om ‹s.args[0]? = some _› om; grind)|(have q:=Uj (ds:=n.decls) (us:=us) (args:=s.args) om ‹s.args[0]? = some _› om ‹us[_]? = some _›; grind))))))
    exact ak (ar (Z7 (Zo (.i (-1)) (li (by first|rfl|( grind)|(have q:=Uy (ds:=n.decls) (us:=us) (args:=s.args) om; grind)|(have q:=Uz (ds:=n.decls) (us:=us) (args:=s.args) om ‹s.args[0]? = some _› om; grind)|(have q:=Uj (ds:=n.decls) (us:=us) (args:=s.args) om ‹s.args[0]? = some _› om ‹us[_]? = some _›; grind))))))
   refine Yj (Tz (fun fz gz F h=>F=sF [1,3,5,40] fz [(117,.b ((s.op==9)||(s.op==10)))]/\h=gz) ?_ ?_)
   ·refine ac (s.op==9) Zr (fun KD=>?_) (fun KD=>?_)
    ·exact ak (Xk ⟨rfl,rfl⟩ (wk [0,0] (fc (x:=.b (s.op==9)) (lb (by first|rfl|(rw [Z6 KD])|(rw [Z4 KD])|(simp [KD];done)|(rw [Wk];simp [KD];done)|omega)) fl)))
    exact Qj (Xk ⟨rfl,rfl⟩ (wk [0,0] (fc (x:=.b (s.op==10)) (lb (by first|rfl|(rw [Z6 KD])|(rw [Z4 KD])|(simp [KD];done)|(rw [Wk];simp [KD];done)|omega)) fl)))
   rintro F h ⟨rfl,rfl⟩
   refine ac ((s.op==9)||(s.op==10)) (p:=(s.op=9)∨(s.op=10)) (Yg Zr Zr) (fun Z3s=>?_) (fun Z3s=>?_)
   ·exact ZB 3 [1,0] (ZC [] (Zbp n us s) (Z7 (Zo (.i (Tf n us s.op s.num s.args)) (li (by first|rfl|( grind)|(have q:=Uy (ds:=n.decls) (us:=us) (args:=s.args) om; grind)|(have q:=Uz (ds:=n.decls) (us:=us) (args:=s.args) om ‹s.args[0]? = some _› om; grind)|(have q:=Uj (ds:=n.decls) (us:=us) (args:=s.args) om ‹s.args[0]? = some _› om ‹us[_]? = some _›; grind))))))
   refine ar (Yt (s.op==11) Zr (fun Z3t=>?_) (fun Z3t=>?_))
   ·refine aD 26 (Y7 24 26 [0,1] [0] (dw 2 (Yk s.args) (Zm 21 23 [3,4] (db (b:=((s.args.length:Int)==2)) 130 (fun V9=>?_) (fun V9=>?_)))))
    ·have Jw:(s.args.length:Int)=2:=(Zr).1 V9
     refine Y7 19 21 [5,6] [0] ?_
     obtain ⟨x1,Z2⟩:=Zv s.args 0 om
     refine dx 7 (Zq none 0 1 (Yc Z2)) (Zm 16 18 [8,9] (dw 10 (Yk us) (da 11 (((us.length:Int)-1)) (((us.length:Int))-(1)) (ZF 12 (XY 12 [] [] [] (Tg x1 0 ((us.length:Int)-1)) (Zm 11 13 [13,14] (db (b:=(decide (0<=x1/\x1<=((us.length:Int)-1)))) 140 (fun Vx=>?_) (fun Vx=>?_))))))))
     ·have Ab:0<=x1/\x1<=((us.length:Int)-1):=(dq).1 Vx
      refine Y7 6 11 [15,16,17,18,19] [1,0] (dx 20 (Zq none 0 1 (Yc Z2)) (Zm 4 5 [21] ?_))
      obtain ⟨x2,Zt⟩:=Zv us x1.toNat om
      refine dx 22 (Zq none x1 1 (Yc Zt)) (Zm 2 3 [23] (ZF 24 (XY 24 [] [] [] (Rb n.decls x2) (Zm 0 1 [25] (de (ac (XK n.decls x2) Iff.rfl (fun Z3u=>?_) (fun Z3u=>?_)))))))
      ·refine aD 14 (Y7 9 14 [0,1,2,3,4] [1,0] (dx 5 (Zq none 0 1 (Yc Z2)) (Zm 7 8 [6] (dx 7 (Zq none x1 1 (Yc Zt)) (Zm 5 6 [8] (da 9 ((x2-1)) ((x2)-(1)) (hb:=(by have:=Hl ‹XK n.decls _=true›;omega)) ?_))))))
       obtain ⟨x3,YW⟩:=Zv n.decls ((x2-1).toNat) (by have:=Hl ‹XK n.decls _=true›;omega)
       have had:=SG (us:=us) (args:=s.args) om ‹s.args[0]? = some _› om ‹us[_]? = some _› ‹XK n.decls _=true› YW
       refine dx 10 (JK (es:=X1 n.decls) (hv:=none) (j:=(x2-1)) (sz:=3) (y:=QT x3) kr (by have:=Hl ‹XK n.decls _=true›;omega) (Vh YW) rfl) (Zm 2 3 [11] (ZF 12 (dA 12 [0,1] [b2,b1] [.i 0,.i 0,nl] fun b3=>ZF 13 (Uw 13 0 [] [] b3 (Uc x3) (de (aD 8 (Y7 5 8 [0,1,2] [1] (dx 3 (De (es:=Zi s.args) (hv:=none) (l:=1) (m:=(((Zi s.args).length:Nat):Int)) (sz:=1) (es':=Zi (s.args.drop 1)) kr om (by simp<;>omega) (by simp<;>omega) (Wq _) (by first|(simp only [Qt,Kr,Kz,Jp];done)|(simp only [Qt,Kr,Kz,Jp];rfl)|(simp [Kz,Jp];done))) (Y7 2 4 [4,5] [0] (ZF 6 (dL 6 [1] [b2] (Zi [x3.frm]) 1 1 fun v5=>UN 1 1 [] [(170,Ze [x3.frm])] (ZF 7 (XY 7 [] [] [] (Au us (s.args.drop 1) [x3.frm] (hl_tys:=(by first|(simp;done)|(have:=TU Ws s.num;omega)))) (de (ac (XA us (s.args.drop 1) [x3.frm]) Iff.rfl (fun Z3v=>?_) (fun Z3v=>?_))))))))))))))))
       ·exact Jt [1] (ZG (Zo (.i x3.to_) (li (by first|rfl|(clear Z2 Zt YW;grind)|(have q:=Uy (ds:=n.decls) (us:=us) (args:=s.args) om;clear Z2 Zt YW;grind)|(have q:=Uz (ds:=n.decls) (us:=us) (args:=s.args) om ‹s.args[0]? = some _› om;clear Z2 Zt YW;grind)|(have q:=Uj (ds:=n.decls) (us:=us) (args:=s.args) om ‹s.args[0]? = some _› om ‹us[_]? = some _›;clear Z2 Zt YW;grind)))))
       exact ak (ar (Z7 (Zo (.i (-1)) (li (by first|rfl|(clear Z2 Zt YW;grind)|(have q:=Uy (ds:=n.decls) (us:=us) (args:=s.args) om;clear Z2 Zt YW;grind)|(have q:=Uz (ds:=n.decls) (us:=us) (args:=s.args) om ‹s.args[0]? = some _› om;clear Z2 Zt YW;grind)|(have q:=Uj (ds:=n.decls) (us:=us) (args:=s.args) om ‹s.args[0]? = some _› om ‹us[_]? = some _›;clear Z2 Zt YW;grind))))))
      exact ak (ar (Z7 (Zo (.i (-1)) (li (by first|rfl|(clear Z2 Zt;grind)|(have q:=Uy (ds:=n.decls) (us:=us) (args:=s.args) om;clear Z2 Zt;grind)|(have q:=Uz (ds:=n.decls) (us:=us) (args:=s.args) om ‹s.args[0]? = some _› om;clear Z2 Zt;grind)|(have q:=Uj (ds:=n.decls) (us:=us) (args:=s.args) om ‹s.args[0]? = some _› om ‹us[_]? = some _›;clear Z2 Zt;grind))))))
     have Ek:¬(0<=x1/\x1<=((us.length:Int)-1)):=ZZ dq Vx
     exact Zm 0 11 [15,16,17,18,19,20,21,22,23,24,25] (de (XC (ak (ar (Z7 (Zo (.i (-1)) (li (by first|rfl|(clear Z2;grind)|(have q:=Uy (ds:=n.decls) (us:=us) (args:=s.args) om;clear Z2;grind)|(have q:=Uz (ds:=n.decls) (us:=us) (args:=s.args) om ‹s.args[0]? = some _› om;clear Z2;grind)|(have q:=Uj (ds:=n.decls) (us:=us) (args:=s.args) om ‹s.args[0]? = some _› om ‹us[_]? = some _›;clear Z2;grind)))))))))
    have El:¬((s.args.length:Int)=2):=ZZ Zr V9
    exact Zm 0 21 [5,6,7,8,9,10,11,12,13,14,15,16,17,18,19,20,21,22,23,24,25] (de (XC (ak (ar (Z7 (Zo (.i (-1)) (li (by first|rfl|( grind)|(have q:=Uy (ds:=n.decls) (us:=us) (args:=s.args) om; grind)|(have q:=Uz (ds:=n.decls) (us:=us) (args:=s.args) om ‹s.args[0]? = some _› om; grind)|(have q:=Uj (ds:=n.decls) (us:=us) (args:=s.args) om ‹s.args[0]? = some _› om ‹us[_]? = some _›; grind)))))))))
   refine Yj (Tz (fun fz gz F h=>F=sF [1,3,5] fz [(174,.b ((s.op==14)||((s.op==15)||((s.op==16)||(s.op==17)))))]/\h=gz) ?_ ?_)
   ·refine ac (s.op==14) Zr (fun Tq=>?_) (fun Tq=>?_)
    ·exact ak (Xk ⟨rfl,rfl⟩ (wk [0,0] (fc (x:=.b (s.op==14)) (lb (by first|rfl|(rw [Z6 Tq])|(rw [Z4 Tq])|(simp [Tq];done)|(rw [Wk];simp [Tq];done)|omega)) fl)))
    refine ar (Yt (s.op==15) Zr (fun AT=>?_) (fun AT=>?_))
    ·exact ak (Xk ⟨rfl,rfl⟩ (wk [0,0] (fc (x:=.b (s.op==15)) (lb (by first|rfl|(rw [Z6 Tq])|(rw [Z4 Tq])|(simp [Tq,AT];done)|(rw [Wk];simp [Tq,AT];done)|omega)) fl)))
    refine ar (Yt (s.op==16) Zr (fun CK=>?_) (fun CK=>?_))
    ·exact ak (Xk ⟨rfl,rfl⟩ (wk [0,0] (fc (x:=.b (s.op==16)) (lb (by first|rfl|(rw [Z6 Tq])|(rw [Z4 Tq])|(simp [Tq,AT,CK];done)|(rw [Wk];simp [Tq,AT,CK];done)|omega)) fl)))
    exact Qj (Xk ⟨rfl,rfl⟩ (wk [0,0] (fc (x:=.b (s.op==17)) (lb (by first|rfl|(rw [Z6 Tq])|(rw [Z4 Tq])|(simp [Tq,AT,CK];done)|(rw [Wk];simp [Tq,AT,CK];done)|omega)) fl)))
   rintro F h ⟨rfl,rfl⟩
   refine ac ((s.op==14)||((s.op==15)||((s.op==16)||(s.op==17)))) (p:=(s.op=14)∨((s.op=15)∨((s.op=16)∨(s.op=17)))) (Yg Zr (Yg Zr (Yg Zr Zr))) (fun Z3w=>?_) (fun Z3w=>?_)
   ·exact ZB 3 [1,0] (ZC [] (Zbd n us s) (Z7 (Zo (.i (Ty n.decls us s.op s.args)) (li (by first|rfl|( grind)|(have q:=Uy (ds:=n.decls) (us:=us) (args:=s.args) om; grind)|(have q:=Uz (ds:=n.decls) (us:=us) (args:=s.args) om ‹s.args[0]? = some _› om; grind)|(have q:=Uj (ds:=n.decls) (us:=us) (args:=s.args) om ‹s.args[0]? = some _› om ‹us[_]? = some _›; grind))))))
   exact ak (ar (Z7 (Zo (.i (-1)) (li (by first|rfl|( grind)|(have q:=Uy (ds:=n.decls) (us:=us) (args:=s.args) om; grind)|(have q:=Uz (ds:=n.decls) (us:=us) (args:=s.args) om ‹s.args[0]? = some _› om; grind)|(have q:=Uj (ds:=n.decls) (us:=us) (args:=s.args) om ‹s.args[0]? = some _› om ‹us[_]? = some _›; grind))))))
  refine Z1 1 (ib (b:=((s.num != 0)&&(!V8 s.op))) 17 (fun Vi=>?_) (fun Vi=>?_))
  ·have BI:(s.num≠0)/\(¬(V8 s.op=true)):=((Yy ZO (Yi Iff.rfl))).1 Vi
   exact Z1 5 (Yb (wk [0,0] (Zp true Vi fl)) hj2)
  have BJ:¬((s.num≠0)/\(¬(V8 s.op=true))):=ZZ (Yy ZO (Yi Iff.rfl)) Vi
  exact Y3 2 [0] (ZC [] (Zbw us s) (Z1 2 (Yb (wk [0,0] (Zp (!Vl us s.op s.into) Vi fl)) hj2)))
 refine Y3 4 [0] (ib (b:=(s.num != 0)) 11 (fun Vj=>?_) (fun Vj=>?_))
 ·have Em:s.num≠0:=(ZO).1 Vj
  exact Y3 2 [0] (ZC [] (Zbk s.op) (Z1 2 (Yb (wk [0,0] (Zp (!V8 s.op) Vj fl)) hj1)))
 have En:¬(s.num≠0):=ZZ ZO Vj
 exact Z1 5 (Yb (wk [0,0] (Zp false Vj fl)) hj1)
theorem Zb9 (n:Zl) (us:LI) (b:Zh) (hn:YY n:=by exact ob) (hb:us.length+4*b.sz<=1000000000:=by exact ob) (ih:∀(s:Z8) (us:LI),(s.sz<b.sz)->(us.length+4*s.sz<=1000000000)->Za 197 [X3 n,Ze us,XO s] [] (ZP (.i (ZQ n us s)))):Za 142 [X3 n,Ze us,YC b] [] (ZP (.i (Ys n us b))):=by
 have hbz:=JL b
 have hbe:=DI n us b
 refine Zx 52 Tryz.func142 (ar (iA (W8 n) fun b1=>iA (Vz b) fun b2=>Z0 (ZM 1 (ic [] (At us) ?_))))
 rintro _ _ ⟨v1,rfl,rfl⟩
 refine Z0 (Yj (ab 0 (ZR (fun fz gz m F h=>∃(k:Nat) (vs:LI) (v:Value),(k<=b.steps.length)/\(vs.length<=us.length+k)/\(Xr n (b.steps.drop k) vs=Xr n b.steps us)/\F=sF [3,5] fz [(7,ZV vs v),(8,.i k)]/\h=[Zy gz 1,Zy gz 2,.tail v 1]/\m=b.steps.length-k) _ _ _ ⟨0,us,v1,ob,ob,ob,rfl,rfl,rfl⟩ (wk [1,1,0] (fr (ZT fl))) ?_)))
 rintro m F h ⟨k,vs,v,ZX,Z9,Zz,rfl,rfl,rfl⟩
 refine Ym 3 [0] (iw (T2 b.steps) (ZN ((k:Int)<(b.steps.length:Int)) (fun Z5=>?_) (fun Z5=>?_)))
 ·refine ak (aq (ab 1 (aD 9 (Y7 4 9 [0,1,2,3,4] [1,0] ?_))))
  obtain ⟨x1,Z2⟩:=Zv b.steps k om
  have hss:=Ff Z2
  refine dx 5 (Zq none (k:Int) 5 (U2 Z2)) (UN 2 3 [6] [(20,Ze vs)] (ZF 7 (XY 7 [] [] [] (ih x1 vs ob ob) (Zm 0 1 [8] (de (Yq (ZN ((ZQ n vs x1)<0) (fun Zd=>?_) (fun Zd=>?_))))))))
  ·refine Zf ?_
   rw [ZH Z2] at Zz
   exact ZG (Zo (.i (-1)) (li (by clear Z2;first|rfl|omega|grind [Xr])))
  refine ak (ZB 3 [0] (Zg (Zq none (k:Int) 5 (U2 Z2)) (Z1 2 (ZC [] (KL x1.op) (ie (DX (fun fz gz F h=>∃(w:Value),F=sF [3,5,8] fz [(7,ZV (if Xx x1.op=true then vs++[ZQ n vs x1] else vs) w)]/\h=[Zy gz 0,Zy gz 1,.tail w 1]) (fun _ _=>rfl) ?_ ?_))))))
  ·refine ac (Xx x1.op) Iff.rfl (fun Zw=>?_) (fun Zw=>?_)
   ·exact az (Z1 2 (iL (Zi [ZQ n vs x1]) 1 1 fun v2=>XX 0 [(38,Ze [ZQ n vs x1])] (ip 3 (Zi (vs++[ZQ n vs x1])) (Zi vs) (Zi [ZQ n vs x1]) v none 1 (Wq _) (Wq _) (TY _) (by simp<;>omega) (by simp [TX,Zi]) fun v3=>Z0 (Xk ⟨v3,rfl,rfl⟩ (wk [2,2,0] (fc (x:=ZV (vs++[ZQ n vs x1]) v3) (Zk.slh _ (Yp Zi (by first|rfl|(rw [Z6 Zw])|(rw [Z4 Zw])|(simp [Zw];done)|(rw [Wk];simp [Zw];done)|omega))) fl))))))
   exact ak (Xk ⟨v,rfl,rfl⟩ (Y1 3 (fc (x:=ZV vs v) (Zk.slh _ (Yp Zi (by first|rfl|(rw [Z6 Zw])|(rw [Z4 Zw])|(simp [Zw];done)|(rw [Wk];simp [Zw];done)|omega))) fl)))
  rintro F h ⟨w,rfl,rfl⟩
  refine az (Z1 1 (ZK k (Z0 ?_)))
  have hdr:=ZH Z2
  exact ZJ ⟨k+1,(if Xx x1.op=true then vs++[ZQ n vs x1] else vs),w,ob,(by split<;>(try simp)<;>omega),(by rw [hdr] at Zz;clear hdr Z2;grind [Xr]),rfl,rfl,rfl⟩ (Y1 3 (fr (ZL k fl)))
 refine ax 0 (Ym 3 [0] (iw (Yk vs) (ia (((vs.length:Int)-1)) (((vs.length:Int))-(1)) (ZC [] (Tg b.result 0 ((vs.length:Int)-1)) (Yt (!(decide (0<=b.result/\b.result<=((vs.length:Int)-1)))) (p:=¬(0<=b.result/\b.result<=((vs.length:Int)-1))) (Yi dq) (fun Yd=>?_) (fun Yd=>?_))))))
 ·refine Zf ?_
  try rw [YR (xs:=b.steps) (k:=k) om] at Zz
  exact ZG (Zo (.i (-1)) (li (by rw [hbe,<-Zz];show _=(YJ vs b.result).getD (-1);rw [QD Yd];rfl)))
 refine ak (ZB 3 [0] ?_)
 obtain ⟨x2,Zt⟩:=Zv vs b.result.toNat om
 refine Zg (Zq (some v) b.result 1 (Yc Zt)) (Z0 ?_)
 try rw [YR (xs:=b.steps) (k:=k) om] at Zz
 exact ZG (Zo (.i x2) (li (by rw [hbe,<-Zz];show _=(YJ vs b.result).getD (-1);rw [Tx om Zt];rfl)))
theorem Zbt (b:Zh) (l:Int) (hb:b.sz<=1000000000) (hl:0<=l/\l<=600) (ih:∀(b2:Zh) (l:Int),(b2.sz<b.sz)->(0<=l/\l<=600)->Za 196 [YC b2,.i l] [] (ZP (.i (XS b2 l)))):Za 196 [YC b,.i l] [] (ZP (.i (XS b l))):=by
 have hbz:=JL b
 have hbe:=Oh b l
 refine Zx 43 Tryz.func196 (ar (iA (Vz b) fun b1=>?_))
 refine Z0 (Yj (ab 0 (ZR (fun fz gz m F h=>∃(k:Nat) (q:Int),(k<=b.steps.length)/\(0<=q/\q<=600)/\(V4 (b.steps.drop k) q=V4 b.steps l)/\F=sF [2] fz [(1,.i q),(5,.i k)]/\h=gz/\m=b.steps.length-k) _ _ _ ⟨0,l,ob,ob,ob,rfl,rfl,rfl⟩ (wk [0] (fr (ZT fl))) ?_)))
 rintro m F h ⟨k,q,ZX,Z9,Zz,rfl,rfl,rfl⟩
 refine Ym 3 [0] (iw (T2 b.steps) (ZN ((k:Int)<(b.steps.length:Int)) (fun Z5=>?_) (fun Z5=>?_)))
 ·refine ak (aq (ab 1 (Yq (ZN (q<1) (fun Zd=>?_) (fun Zd=>?_)))))
  ·refine Zf ?_
   try rw [YR (xs:=b.steps) (k:=k) om] at Zz
   obtain ⟨x1,Z2⟩:=Zv b.steps k om
   rw [ZH Z2] at Zz
   clear Z2
   exact ZG (Zo (.i (-1)) (li (by first|rfl|omega|grind [V4])))
  obtain ⟨s1,hxs1⟩:=Zv b.steps k om
  have hss:=Df hxs1
  have hkz:=Ql s1
  refine ak (ZM 1 (ia ((q-1)) ((q)-(1)) (Z0 (Zf (ab 2 (ZR (fun fz gz m F h=>∃(j:Nat) (j2:Int),(j<=s1.kids.length)/\(0<=j2/\j2<=600)/\(VJ (s1.kids.drop j) j2=VJ s1.kids (q-1))/\F=sF [2,5] fz [(1,.i j2),(6,.i j)]/\h=gz/\m=s1.kids.length-j) _ _ _ ⟨0,(q-1),ob,ob,ob,rfl,rfl,rfl⟩ (wk [0] (fr (ZT fl))) ?_))))))
  rintro m F h ⟨j,j2,T0,Xh,U7,rfl,rfl,rfl⟩
  refine Ym 4 [0] (Zg (Zq none (k:Int) 5 (U2 hxs1)) (Z1 2 (iw (Ua s1.kids) (ZN ((j:Int)<(s1.kids.length:Int)) (fun Zw=>?_) (fun Zw=>?_)))))
  ·refine ak (aq (ab 3 (ZB 3 [0] (Zg (Zq none (k:Int) 5 (U2 hxs1)) (Z1 3 ?_)))))
   obtain ⟨x1,Z2⟩:=Zv s1.kids j om
   have hks:=Ka Z2
   have hle:=CO.2 x1 j2 om
   refine Zg (Zq none (j:Int) 2 (TA Z2)) (Z1 2 (ZC [] (ih x1 j2 ob ob) (Z0 (ar (ZN ((XS x1 j2)<0) (fun Yd=>?_) (fun Yd=>?_))))))
   ·refine Zf ?_
    rw [ZH hxs1] at Zz
    rw [ZH Z2] at U7
    have hls:=EE s1 (q-1)
    exact ZG (Zo (.i (-1)) (li (by clear Z2 hxs1;first|rfl|omega|grind [V4,VJ])))
   refine ak (az (Z1 1 (ZK j (Z0 ?_))))
   have hdr:=ZH Z2
   exact ZJ ⟨j+1,(XS x1 j2),ob,ob,(by rw [hdr] at U7;clear hdr Z2 hxs1;grind [VJ]),rfl,rfl,rfl⟩ (wk [0] (fr (ZL j fl)))
  refine ax 2 (az (Z1 1 (ZK k (Z0 ?_))))
  rw [YR om] at U7
  have hls:=EE s1 (q-1)
  rw [VJ] at U7
  have hdr:=ZH hxs1
  exact ZJ ⟨k+1,j2,ob,ob,(by rw [hdr] at Zz;clear hdr hxs1;grind [V4]),rfl,rfl,rfl⟩ (wk [0] (fr (ZL k fl)))
 refine ax 0 (Zf ?_)
 try rw [YR (xs:=b.steps) (k:=k) om] at Zz
 exact ZG (Zo (.i q) (li (by first|rfl|omega|grind [V4])))
theorem Zbs (b:Zh) (l:Int) (hb:b.sz<=1000000000) (hl:0<=l/\l<=600):Za 196 [.agg [.sl (Xj b.steps) none,.i b.result],.i l] [] (ZP (.i (XS b l))):=by
 have key:∀m:Nat,∀(b:Zh) (l:Int),b.sz<=m->b.sz<=1000000000->(0<=l/\l<=600)->Za 196 [.agg [.sl (Xj b.steps) none,.i b.result],.i l] [] (ZP (.i (XS b l))):=by
  intro m
  induction m with
  | zero=>intro b l h;have:=b.sz_pos;omega
  | succ m ih=>intro b l h1 h2 h3;exact Zbt b l h2 h3 fun b2 l2 k1 k2=>ih b2 l2 om om k2
 exact key b.sz b l (YX _) hb hl
theorem Zb8 (n:Zl) (hn:YY n) (m:Nat):∀(b:Zh) (us:LI),(b.sz<=m)->(us.length+4*b.sz<=1000000000)->Za 142 [X3 n,Ze us,YC b] [] (ZP (.i (Ys n us b))):=by
 induction m with
 | zero=>intro b us h;have:=b.sz_pos;omega
 | succ m ih=>intro b us h1 h2;exact Zb9 n us b hn h2 fun s us2 k1 k2=>Rf n us2 s hn k2 fun b2 us3 q1 q2=>ih b2 us3 om q2
theorem R7 (n:Zl) (us:LI) (b:Zh) (hn:YY n) (hb:us.length+4*b.sz<=1000000000):Za 142 [X3 n,Ze us,YC b] [] (ZP (.i (Ys n us b))):=
 Zb8 n hn b.sz b us (YX _) hb
theorem Zbr (n:Zl) (us:LI) (s:Z8) (hn:YY n) (hb:us.length+4*s.sz<=1000000000):Za 197 [X3 n,Ze us,XO s] [] (ZP (.i (ZQ n us s))):=
 Rf n us s hn hb fun b2 us3 _ q2=>R7 n us3 b2 hn q2
theorem Zbu (b:Zh) (hb:b.sz<=1000000000:=by exact ob):Za 141 [YC b] [] (ZP (.i (UG b))):=by
 have hle:=CO.2 b 600 om
 refine Zx 10 Tryz.func141 (ar (iA (Vz b) fun b1=>Z0 (ZB 1 [0] (ZC [] (Zbs b 600 ob ob) (Z0 (Yq (ZN ((XS b 600)<0) (fun Z5=>?_) (fun Z5=>?_))))))))
 ·exact ar (Z7 (Zo (.i (-1)) (li (by first|rfl|omega|grind [UG]))))
 exact ak (ZM 1 (ia ((600-(XS b 600))) ((600)-(XS b 600)) (Z7 (Zo (.i (600-(XS b 600))) (li (by first|rfl|omega|grind [UG]))))))
theorem Zbz (n:Zl) (hz:WI n:=by exact ob):Za 84 [X3 n] [] (ZP (.b (XT n))):=by
 have hzl:=hz.len
 refine Zx 35 Tryz.func84 (ar (iA (W8 n) fun b1=>Z0 (Ym 1 [0] (ZC [] (Zby n (hz:=hz.decls) (hr:=(fun r hr=>⟨hz.params r hr,hz.lent r hr⟩))) (Yt (!V5 n) (p:=¬(V5 n=true)) (Yi Iff.rfl) (fun Z5=>?_) (fun Z5=>?_))))))
 ·exact ar (Z7 (Zo (.b false) (lb (by first|rfl|omega|grind [XT]))))
 have hok:=HP hz (by simpa using Z5)
 refine ak (Yj (ab 0 (ZR (fun fz gz m F h=>∃(k:Nat),(k<=n.routines.length)/\(Tu n (n.routines.drop k)=Tu n n.routines)/\F=sF [1] fz [(3,.i k)]/\h=gz/\m=n.routines.length-k) _ _ _ ⟨0,ob,ob,rfl,rfl,rfl⟩ (wk [0] (ZT fl)) ?_)))
 rintro m F h ⟨k,ZX,Z9,rfl,rfl,rfl⟩
 refine Ym 3 [0] (iw (UD n.routines) (ZN ((k:Int)<(n.routines.length:Int)) (fun Zd=>?_) (fun Zd=>?_)))
 ·refine ak (aq (ab 1 (ZB 3 [0] ?_)))
  obtain ⟨x1,Z2⟩:=Zv n.routines k om
  have CJ:=hz.body _ (YA Z2)
  have hps:=hok.params_at Z2
  refine Zg (Zq none (k:Int) 5 (Um Z2)) (Z1 1 (iA [nl,nl,.i 0,nl,.i 0] fun b2=>Y0 0 b2 (TH x1) (ie (aD 15 (Y7 13 15 [0,1] [0] (ZF 2 (XY 2 [] [] [] (Zbu x1.body) (Jm [1,3] [(34,.b ((decide ((UG x1.body)<0))||((Ys n x1.params x1.body) != x1.result)))] (fun gz=>gz) ?_ ?_))))))))
  ·refine Zm 10 12 [3,4] (db (b:=(decide ((UG x1.body)<0))) 24 (fun Zb=>?_) (fun Zb=>?_))
   ·exact Zm 0 10 [5,6,7,8,9,10,11,12,13,14] (de (wk [0,0] (Zp true Zb fl)))
   exact Y7 3 10 [5,6,7,8,9,11,12] [1,0,0,0] (ZF 10 (XY 10 [] [0] [b2] (R7 n x1.params x1.body ob ob) (Zm 0 2 [13,14] (de (wk [0,0] (Zp ((Ys n x1.params x1.body) != x1.result) Zb fl))))))
  refine ac ((decide ((UG x1.body)<0))||((Ys n x1.params x1.body) != x1.result)) (p:=((UG x1.body)<0)∨((Ys n x1.params x1.body)≠x1.result)) (Yg dq ZO) (fun Zw=>?_) (fun Zw=>?_)
  ·refine Zf ?_
   rw [ZH Z2] at Z9
   exact ZG (Zo (.b false) (lb (by clear Z2;first|rfl|omega|grind [Tu,XT])))
  refine ak (az (Z1 1 (ZK k (Z0 ?_))))
  have hdr:=ZH Z2
  exact ZJ ⟨k+1,ob,(by rw [hdr] at Z9;clear hdr Z2;grind [Tu]),rfl,rfl,rfl⟩ (wk [1] (ZL k fl))
 refine ax 0 (Zf ?_)
 try rw [YR (xs:=n.routines) (k:=k) om] at Z9
 exact ZG (Zo (.b true) (lb (by first|rfl|omega|grind [Tu,XT])))
theorem Zbm (op:Int) :Za 146 [.i op] [] (ZP (.b (YU op))):=by
 exact Zx 5 Tryz.func146 (Zf (ZM 1 (ZC [] (Tg op 14 17) (Z7 (Zo (.b (decide (14<=op/\op<=17))) (lb (by first|rfl|omega|grind [YU])))))))
theorem Zba (op:Int) :Za 324 [.i op] [] (ZP (.b (Qf op))):=by
 refine Zx 17 Tryz.func324 (Zf (ar (Xz 6 [0] [(8,.b ((op==6)||(op==9)))] (fun gz=>gz) ?_ (fun hj1=>?_))))
 ·refine Xz 10 [0] [(12,.b (((op==6)||(op==9))||(op==10)))] (fun gz=>gz) ?_ (fun hj2=>?_)
  ·refine Xz 14 [] [(16,.b ((((op==6)||(op==9))||(op==10))||(op==11)))] (fun gz=>gz) ?_ (fun hj3=>?_)
   ·exact Z7 (Zo (.b ((((op==6)||(op==9))||(op==10))||(op==11))) (lb (by first|rfl|omega|grind [Qf])))
   refine Z1 1 (ib (b:=(((op==6)||(op==9))||(op==10))) 13 (fun Zb=>?_) (fun Zb=>?_))
   ·exact Z1 3 (Yb (wk [] (Zp true Zb fl)) hj3)
   exact Z1 3 (Yb (wk [] (Zp (op==11) Zb fl)) hj3)
  refine Z1 1 (ib (b:=((op==6)||(op==9))) 9 (fun ZD=>?_) (fun ZD=>?_))
  ·exact Z1 3 (Yb (wk [] (Zp true ZD fl)) hj2)
  exact Z1 3 (Yb (wk [] (Zp (op==10) ZD fl)) hj2)
 refine Z1 3 (ib (b:=(op==6)) 5 (fun Yn=>?_) (fun Yn=>?_))
 ·exact Z1 3 (Yb (wk [] (Zp true Yn fl)) hj1)
 exact Z1 3 (Yb (wk [] (Zp (op==9) Yn fl)) hj1)
theorem Rd (n:Zl) (s:Z8) (i:Nat) (hn:YY n:=by exact ob) (hnum:s.op=9->0<=s.num/\s.num<n.routines.length:=by exact ob):Za 285 [X3 n,XO s,.i i] [] (ZP (.b (VK n s.op s.num i))):=by
 refine Zx 21 Tryz.func285 (ar (iA (W8 n) fun b1=>iA (WO s) fun b2=>Z0 (ZB 4 [0] (ib (b:=(s.op==9)) 10 (fun Zb=>?_) (fun Zb=>?_)))))
 ·have Ya:s.op=9:=(Zr).1 Zb
  refine Y3 4 [1,0] ?_
  obtain ⟨x1,Z2⟩:=Zv n.routines s.num.toNat om
  have hlt:=hn.lent_at Z2
  have hlr:=Z7k (n:=n) Ya Z2
  exact Zg (Zq none s.num 5 (Um Z2)) (Z1 3 (ZC [] (IG x1.lent (i:Int)) (Z7 (Zo (.b (decide ((i:Int)∈x1.lent))) (lb (by rw [VK,hlr]))))))
 have YT:¬(s.op=9):=ZZ Zr Zb
 exact Z7 (Zo (.b false) (lb (by rw [VK,AZ,Z4 YT];simp)))
theorem Zbl (n:Zl) (us:LI) (s:Z8) (i:Nat) (a:Int) (hn:YY n:=by exact ob) (hnum:s.op=9->0<=s.num/\s.num<n.routines.length:=by exact ob) (ha:s.args[i]? = some a:=by exact ob) (hi:0<=a/\a<us.length:=by exact ob):Za 284 [X3 n,Ze us,XO s,.i i] [] (ZP (.b (TV n us s.op s.num a i))):=by
 have hal:=(XZ.1 ha).1
 refine Zx 30 Tryz.func284 (ar (iA (W8 n) fun b1=>iA (WO s) fun b2=>Z0 (ZB 2 [0] (ZC [] (Zba s.op) (Z1 1 (ib (b:=Qf s.op) 12 (fun Zb=>?_) (fun Zb=>?_)))))))
 ·refine Y3 4 [0] ?_
  obtain ⟨x1,Z2⟩:=Zv s.args i om
  have hxa:x1=a:=by rw [ha] at Z2;exact (Ti Z2).symm
  subst hxa
  refine Zg (Zq none (i:Int) 1 (Yc Z2)) (Z1 1 ?_)
  obtain ⟨x2,Zt⟩:=Zv us x1.toNat om
  have hga:=Vo Zt
  refine Zg (Zq none x1 1 (Yc Zt)) (Z1 4 (ib (b:=(x2 != 0)) 23 (fun ZD=>?_) (fun ZD=>?_)))
  ·exact Y3 3 [1,0] (ZC [] (Rd n s i) (Z7 (Zo (.b (!VK n s.op s.num i)) (lb (by clear Z2 Zt;first|rfl|(rw [TV];grind))))))
  exact Z7 (Zo (.b false) (lb (by clear Z2 Zt;first|rfl|(rw [TV];grind))))
 exact Z7 (Zo (.b false) (lb (by  first|rfl|(rw [TV];grind))))
theorem Re (xs:LI) (ys:LI) (hl_xs:xs.length<=4294967296:=by exact ob) (hl_ys:ys.length<=4294967296:=by exact ob):Za 283 [Ze xs,Ze ys] [] (ZP (.b (decide (xs=ys)))):=by
 refine Zx 26 Tryz.func283 (Zf (Y8 1 (iw (Yk xs) (Z1 1 (iw (Yk ys) (Yt ((xs.length:Int) != (ys.length:Int)) ZO (fun Z5=>?_) (fun Z5=>?_)))))))
 ·exact ar (Z7 (Zo (.b false) (lb (eq_comm.1 (decide_eq_false (fun q=>by rw [q] at Z5;exact Z5 rfl))))))
 refine ak (Yj (ab 0 (ZR (fun fz gz m F h=>∃(k:Nat),(k<=xs.length)/\(xs.take k=ys.take k)/\F=sF [0,1] fz [(5,.i k)]/\h=gz/\m=xs.length-k) _ _ _ ⟨0,ob,ob,rfl,rfl,rfl⟩ (wk [] (ZT fl)) ?_)))
 rintro m F h ⟨k,ZX,Z9,rfl,rfl,rfl⟩
 refine Y8 2 (iw (Yk xs) (ZN ((k:Int)<(xs.length:Int)) (fun Zd=>?_) (fun Zd=>?_)))
 ·refine ak (aq (ab 1 (aD 9 (Zm 7 9 [0,1] ?_))))
  obtain ⟨x1,Z2⟩:=Zv xs k om
  refine dx 2 (Zq none (k:Int) 1 (Yc Z2)) (Zm 3 6 [3,4,5] ?_)
  obtain ⟨x2,Zt⟩:=Zv ys k om
  refine dx 6 (Zq none (k:Int) 1 (Yc Zt)) (Zm 0 2 [7,8] (de (ac (x1 != x2) ZO (fun Zw=>?_) (fun Zw=>?_))))
  ·exact ar (Z7 (Zo (.b false) (lb (eq_comm.1 (decide_eq_false (fun q=>by subst q;rw [Z2] at Zt;cases Zt;exact Zw rfl))))))
  refine ak (az (Z1 1 (ZK k (Z0 ?_))))
  have hdr:=ZH Z2
  exact ZJ ⟨k+1,ob,(by rw [WP Z2,WP Zt,Z9];have hxx:x1=x2:=om;rw [hxx]),rfl,rfl,rfl⟩ (wk [] (ZL k fl))
 exact ax 0 (ar (Z7 (Zo (.b true) (lb (eq_comm.1 (decide_eq_true (by rw [W2 om,W2 om] at Z9;exact Z9)))))))
theorem B5 (xs:LI) (hlen:xs.length<=4294967296:=by exact ob):Za 115 [Ze xs] [] (fun r h=>∃(v:Hd),r=.h v/\h=[rV v xs]):=by
 exact Zx 6 Tryz.func115 (Zf (ar (He [] 0 fun v1=>Z1 1 (K9 0 v1 [] xs none fun v2=>Z7 (r1 [0] ⟨v2,rfl,rfl⟩ (eq:=(rv (xs:=([]++xs)) ob rz)))))))
theorem QJ (b:Nat) (ga:Hd) (gb:Hd) (gc:Hd) (gd:Hd) (ge:Hd) (gf:Hd) (L:Zc) (ln:LI) (t:Int) (o:Int) (p:Int) (hlb:L.vars.length<=1000000000:=by exact ob) (hlk:W9 L:=by exact ob):Za 199 [.p b 0,.i t,.i o,.i p] [.obj b [.h ga,.h gb,.h gc,.h gd,.h ge,.h gf,Ze ln],rV ga L.vars,rV gb L.own,rV gc L.par,rV gd L.con,rV ge L.fst,rV gf L.tok] (fun r h=>∃(wa:Hd) (wb:Hd) (wc:Hd) (wd:Hd) (we:Hd) (wf:Hd),h=[.obj b [.h wa,.h wb,.h wc,.h wd,.h we,.h wf,Ze ln],rV wa ((L.grow t o p).vars),rV wb ((L.grow t o p).own),rV wc ((L.grow t o p).par),rV wd ((L.grow t o p).con),rV we ((L.grow t o p).fst),rV wf ((L.grow t o p).tok)]):=by
 obtain ⟨e1,e2,e3,e4,e5⟩:=hlk
 exact Zx 65 Tryz.func199 (ZB 6 [0] (iL (Zi [t]) 1 1 fun v1=>XX 0 [(14,Ze [t])] (K9 2 ga L.vars [t] none fun v2=>Z1 2 (Y0 2 b [.h v2,.h gb,.h gc,.h gd,.h ge,.h gf,Ze ln] (ie (ZB 6 [0] (iL (Zi [o]) 1 1 fun v3=>XX 0 [(24,Ze [o])] (K9 4 gb L.own [o] none fun v4=>Z1 2 (Y0 2 b [.h v2,.h v4,.h gc,.h gd,.h ge,.h gf,Ze ln] (ie (ZB 6 [0] (iL (Zi [p]) 1 1 fun v5=>XX 0 [(34,Ze [p])] (K9 6 gc L.par [p] none fun v6=>Z1 2 (Y0 2 b [.h v2,.h v4,.h v6,.h gd,.h ge,.h gf,Ze ln] (ie (ZB 5 [0] (iL (Zi [-1]) 1 1 fun v7=>XX 0 [(43,Ze [-1])] (K9 8 gd L.con [-1] none fun v8=>Z1 2 (Y0 2 b [.h v2,.h v4,.h v6,.h v8,.h ge,.h gf,Ze ln] (ie (ZB 5 [0] (iL (Zi [-1]) 1 1 fun v9=>XX 0 [(52,Ze [-1])] (K9 10 ge L.fst [-1] none fun v10=>Z1 2 (Y0 2 b [.h v2,.h v4,.h v6,.h v8,.h v10,.h gf,Ze ln] (ie (az (Y3 5 [0] (iL (Zi [-1]) 1 1 fun v11=>XX 0 [(61,Ze [-1])] (K9 12 gf L.tok [-1] none fun v12=>Z1 2 (Y0 2 b [.h v2,.h v4,.h v6,.h v8,.h v10,.h v12,Ze ln] (ie (r2 [0,10,8,6,4,2,0] [] ⟨v2,v4,v6,v8,v10,v12,rfl⟩ (lr _) (eq:=(rc (rv (xs:=(L.vars++[t])) ob (rv (xs:=(L.own++[o])) ob (rv (xs:=(L.par++[p])) ob (rv (xs:=(L.con++[-1])) ob (rv (xs:=(L.fst++[-1])) ob (rv (xs:=(L.tok++[-1])) ob rz))))))))))))))))))))))))))))))))))))))))
theorem Z7a (b:Nat) (ga:Hd) (gb:Hd) (gc:Hd) (gd:Hd) (ge:Hd) (gf:Hd) (L:Zc) (ln:LI) (hlb:L.vars.length<=1000000000:=by exact ob) (hlk:W9 L:=by exact ob) (hln:ln.length<=4294967296:=by exact ob):Za 323 [.p b 0] [.obj b [.h ga,.h gb,.h gc,.h gd,.h ge,.h gf,Ze ln],rV ga L.vars,rV gb L.own,rV gc L.par,rV gd L.con,rV ge L.fst,rV gf L.tok] (fun r h=>∃(c:Nat) (wa:Hd) (wb:Hd) (wc:Hd) (wd:Hd) (we:Hd) (wf:Hd),r=.p c 0/\h=[.obj c [.h wa,.h wb,.h wc,.h wd,.h we,.h wf,Ze ln],rV wa L.vars,rV wb L.own,rV wc L.par,rV wd L.con,rV we L.fst,rV wf L.tok,.obj b [.h ga,.h gb,.h gc,.h gd,.h ge,.h gf,Ze ln],rV ga L.vars,rV gb L.own,rV gc L.par,rV gd L.con,rV ge L.fst,rV gf L.tok]):=by
 obtain ⟨e1,e2,e3,e4,e5⟩:=hlk
 refine Zx 40 Tryz.func323 (Zf (aD 38 (Y7 10 38 [0,1,2,3,5,6,7,8,10,11,12,13,15,16,17,18,20,21,22,23,25,26,27,28,30,31,32,33] [0,0,0,0,0,0,0] (ZF 4 (U9 4 [1] [0,0,0,0,0,0] [b,b,b,b,b,b] [rV ga L.vars] (B5 L.vars) QG (gL (v:=ga) 0 gN) (Vk VQ) ?_)))))
 rintro _ _ ⟨v1,rfl,rfl⟩
 refine ZF 9 (U9 9 [3] [0,0,0,0,0] [b,b,b,b,b] [rV gb L.own] (B5 L.own) QG (gL (v:=gb) 0 gN) (Vk VQ) ?_)
 rintro _ _ ⟨v2,rfl,rfl⟩
 refine ZF 14 (U9 14 [5] [0,0,0,0] [b,b,b,b] [rV gc L.par] (B5 L.par) QG (gL (v:=gc) 0 gN) (Vk VQ) ?_)
 rintro _ _ ⟨v3,rfl,rfl⟩
 refine ZF 19 (U9 19 [7] [0,0,0] [b,b,b] [rV gd L.con] (B5 L.con) QG (gL (v:=gd) 0 gN) (Vk VQ) ?_)
 rintro _ _ ⟨v4,rfl,rfl⟩
 refine ZF 24 (U9 24 [9] [0,0] [b,b] [rV ge L.fst] (B5 L.fst) QG (gL (v:=ge) 0 gN) (Vk VQ) ?_)
 rintro _ _ ⟨v5,rfl,rfl⟩
 refine ZF 29 (U9 29 [11] [0] [b] [rV gf L.tok] (B5 L.tok) QG (gL (v:=gf) 0 gN) (Vk VQ) ?_)
 rintro _ _ ⟨v6,rfl,rfl⟩
 refine ZF 34 (dc 34 [] [] [] (At ln) ?_)
 rintro _ _ ⟨v7,rfl,rfl⟩
 exact UN 2 3 [35] [(38,.agg [.h v1,.h v2,.h v3,.h v4,.h v5,.h v6,Ze ln])] (ZF 36 (dA 36 [] [] [.h v1,.h v2,.h v3,.h v4,.h v5,.h v6,Ze ln] fun b1=>Zm 0 1 [37] (de (ZG (r1 [0,11,9,7,5,3,1,7,6,5,4,3,2,1] ⟨b1,v1,v2,v3,v4,v5,v6,rfl,rfl⟩)))))
theorem ED (b:Nat) (ga:Hd) (gb:Hd) (gc:Hd) (gd:Hd) (ge:Hd) (gf:Hd) (L:Zc) (ln:LI) (i:Int) (hlk:W9 L:=by exact ob) (hi:0<=i/\i<L.vars.length:=by exact ob) (hq:∀x∈L.own,0<=x/\x<=1000000000):Za 201 [.p b 0,.i i] [.obj b [.h ga,.h gb,.h gc,.h gd,.h ge,.h gf,Ze ln],rV ga L.vars,rV gb L.own,rV gc L.par,rV gd L.con,rV ge L.fst,rV gf L.tok] (fun r h=>(∃(wa:Hd) (wb:Hd) (wc:Hd) (wd:Hd) (we:Hd) (wf:Hd) (L':Zc),r=.b true/\h=[.obj b [.h wa,.h wb,.h wc,.h wd,.h we,.h wf,Ze ln],rV wa L'.vars,rV wb L'.own,rV wc L'.par,rV wd L'.con,rV we L'.fst,rV wf L'.tok]/\Ug L i=some L')∨(r=.b false/\h=[]/\Ug L i=none)):=by
 obtain ⟨e1,e2,e3,e4,e5⟩:=hlk
 refine Zx 27 Tryz.func201 (Zf (Ym 5 [0] (Zg (XB 2 gb L.own i i.toNat (hq:=rfl)) ?_)))
 obtain ⟨x1,Z2⟩:=Zv L.own i.toNat om
 have hxq:=hq _ (YA Z2)
 have hgi:=Vo Z2
 refine Xu (WQ 2 gb L.own i.toNat x1 Z2) (ZN (x1<1) (fun Z5=>?_) (fun Z5=>?_))
 ·exact ar (Z7 (r1 [] (.inr ⟨rfl,rfl,(by rw [Ug,hgi,Z6 Z5])⟩)))
 exact ak (aD 15 (Y7 5 15 [0,1,2,3,4,5,6,7,8,9] [0,0] (dx 10 (XB 2 gb L.own i i.toNat (hq:=rfl)) (Qh 11 (WQ 2 gb L.own i.toNat x1 Z2) (da 12 ((x1-1)) ((x1)-(1)) (dx 13 (XB 2 gb L.own i i.toNat (hq:=rfl)) (ZF 14 (Jn 14 2 [] [] gb L.own i.toNat (x1-1) (de (ar (Z7 (r1 [1,1,0,0,0,0,0] (.inl ⟨ga,gb,gc,gd,ge,gf,(Zc.mk L.vars (L.own.set i.toNat (x1-1)) L.par L.con L.fst L.tok),rfl,rfl,(by rw [Ug,hgi,Z4 Z5])⟩) (eq:=(rc (rv (xs:=L.vars) ob (rv (xs:=(L.own.set i.toNat (x1-1))) ob (rv (xs:=L.par) ob (rv (xs:=L.con) ob (rv (xs:=L.fst) ob (rv (xs:=L.tok) ob rz))))))))))))))))))))
theorem Hq (b:Nat) (ga:Hd) (gb:Hd) (gc:Hd) (gd:Hd) (ge:Hd) (gf:Hd) (L:Zc) (ln:LI) (i:Int) (hlk:W9 L:=by exact ob) (hln:ln.length<=4294967296:=by exact ob) (hi:0<=i/\i<L.vars.length:=by exact ob) (hd:∀j:Int,0<=j->j<L.vars.length->gI L.par j<j):Za 178 [.p b 0,.i i] [.obj b [.h ga,.h gb,.h gc,.h gd,.h ge,.h gf,Ze ln],rV ga L.vars,rV gb L.own,rV gc L.par,rV gd L.con,rV ge L.fst,rV gf L.tok] (fun r h=>r=.b (XV L ln i)/\h=[.obj b [.h ga,.h gb,.h gc,.h gd,.h ge,.h gf,Ze ln],rV ga L.vars,rV gb L.own,rV gc L.par,rV gd L.con,rV ge L.fst,rV gf L.tok]):=by
 obtain ⟨e1,e2,e3,e4,e5⟩:=hlk
 refine Zx 31 Tryz.func178 (Zf (aq (ab 0 (ZR (fun fz gz m F h=>∃(j:Int),(0<=j/\j<L.vars.length)/\(Qa L.own L.par ln (j.toNat+1) j=XV L ln i)/\F=sF [0] fz [(1,.i j)]/\h=gz/\m=j.toNat) _ _ _ ⟨i,ob,ob,rfl,rfl,rfl⟩ (Y1 7 fl) ?_))))
 rintro m F h ⟨j,ZX,Z9,rfl,rfl,rfl⟩
 refine Ym 5 [0] (Zg (XB 2 gb L.own j j.toNat (hq:=rfl)) ?_)
 obtain ⟨x1,Z2⟩:=Zv L.own j.toNat om
 have hg1:=Vo Z2
 refine Xu (WQ 2 gb L.own j.toNat x1 Z2) (W7 [0,1] [(21,.b ((decide (x1<1))&&(!(decide (j∈ln)))))] (fun gz=>gz) ?_ ?_)
 ·refine Z1 2 (ib (b:=(decide (x1<1))) 13 (fun Zb=>?_) (fun Zb=>?_))
  ·exact Y3 5 [0] (ZC [] (IG ln j) (Z0 (Y1 7 (Zp (!(decide (j∈ln))) Zb fl))))
  exact Z0 (Y1 7 (Zp false Zb fl))
 refine ac ((decide (x1<1))&&(!(decide (j∈ln)))) (p:=(x1<1)/\(¬(j∈ln))) (Yy dq (Yi dq)) (fun Z5=>?_) (fun Z5=>?_)
 ·refine ak (ab 1 (ZB 5 [0] (Zg (XB 3 gc L.par j j.toNat (hq:=rfl)) ?_)))
  obtain ⟨x2,Zt⟩:=Zv L.par j.toNat om
  have hg2:=Vo Zt
  have hdj:=hd j om om
  rw [hg2] at hdj
  refine Xu (WQ 3 gc L.par j.toNat x2 Zt) (Z0 (ar (ZN (x2<0) (fun Zd=>?_) (fun Zd=>?_))))
  ·exact ar (Z7 (r2 [0,0,0,0,0,0,0] [.b false] ⟨rfl,rfl⟩ (lb (LD hg1 hg2 Z5 Zd Z9))))
  exact ak (ZJ ⟨x2,om,(LE hg1 hg2 ZX Z5 Zd hd Z9),rfl,rfl,rfl⟩ (Y1 7 fl))
 exact ax 0 (ar (Z7 (r2 [0,0,0,0,0,0,0] [.b true] ⟨rfl,rfl⟩ (lb (LF hg1 Z5 Z9)))))
theorem Hr (b:Nat) (ga:Hd) (gb:Hd) (gc:Hd) (gd:Hd) (ge:Hd) (gf:Hd) (L:Zc) (ln:LI) (mm:Nat) (hlk:W9 L:=by exact ob) (hlb:L.vars.length<=1000000000:=by exact ob) (hm:mm<=L.vars.length:=by exact ob):Za 145 [.p b 0,.i mm] [.obj b [.h ga,.h gb,.h gc,.h gd,.h ge,.h gf,Ze ln],rV ga L.vars,rV gb L.own,rV gc L.par,rV gd L.con,rV ge L.fst,rV gf L.tok] (fun r h=>(∃(wa:Hd) (wb:Hd) (wc:Hd) (wd:Hd) (we:Hd) (wf:Hd) (L':Zc),r=.b true/\h=[.obj b [.h wa,.h wb,.h wc,.h wd,.h we,.h wf,Ze ln],rV wa L'.vars,rV wb L'.own,rV wc L'.par,rV wd L'.con,rV we L'.fst,rV wf L'.tok]/\U8 L mm=some L')∨(r=.b false/\h=[]/\U8 L mm=none)):=by
 obtain ⟨e1,e2,e3,e4,e5⟩:=hlk
 refine Zx 88 Tryz.func145 (Zf (Yj (ab 0 (ZR (fun fz gz m F h=>∃(k:Nat),(mm<=k/\k<=L.vars.length)/\(WF (L.own.drop k) (L.tok.drop k)=WF (L.own.drop mm) (L.tok.drop mm))/\F=sF [0,1] fz [(5,.i k)]/\h=gz/\m=L.vars.length-k) _ _ _ ⟨mm,ob,ob,rfl,rfl,rfl⟩ (Y1 7 fl) ?_))))
 rintro m F h ⟨k,ZX,Z9,rfl,rfl,rfl⟩
 refine Ym 5 [0] (Zg (KN 1 ga L.vars) (ZN ((k:Int)<(L.vars.length:Int)) (fun Z5=>?_) (fun Z5=>?_)))
 ·refine ak (aq (ab 1 (ZB 5 [0] (Zg (XB 2 gb L.own (k:Int) k) ?_))))
  obtain ⟨x1,Z2⟩:=Zv L.own k om
  refine Xu (WQ 2 gb L.own k x1 Z2) (Z1 2 (ib (b:=(x1 != 0)) 24 (fun Zb=>?_) (fun Zb=>?_)))
  ·have Ya:x1≠0:=(ZO).1 Zb
   refine Z0 (W4 (Zf ?_))
   obtain ⟨y2,hy2⟩:=Zv L.tok k om
   exact ZG (r1 [] (.inr ⟨rfl,rfl,(by rw [U8,<-Z9,ZH Z2,ZH hy2,WF,Z6 (show x1≠0∨0<=y2 by omega)];rfl)⟩))
  have YT:¬(x1≠0):=ZZ ZO Zb
  refine Y3 5 [0] (Zg (XB 6 gf L.tok (k:Int) k) ?_)
  obtain ⟨x2,Zt⟩:=Zv L.tok k om
  refine Xu (WQ 6 gf L.tok k x2 Zt) (ZN (x2>=0) (fun Zd=>?_) (fun Zd=>?_))
  ·exact ar (Z7 (r1 [] (.inr ⟨rfl,rfl,(by rw [U8,<-Z9,ZH Z2,ZH Zt,WF,Z6 (show x1≠0∨0<=x2 by omega)];rfl)⟩)))
  exact ak (az (Z1 1 (ZK k (Z0 (ZJ ⟨k+1,ob,(by rw [ZH Z2,ZH Zt,WF,Z4 om] at Z9;exact Z9),rfl,rfl,rfl⟩ (Y1 7 (ZL k fl)))))))
 exact ax 0 (ZB 6 [0] (Zg (Qr 1 ga L.vars mm) (Z1 2 (T4 (B7 1 mm ga L.vars) (Y0 1 b [.h (ga.cut mm),.h gb,.h gc,.h gd,.h ge,.h gf,Ze ln] (ie (ZB 6 [0] (Zg (Qr 2 gb L.own mm) (Z1 2 (T4 (B7 2 mm gb L.own) (Y0 1 b [.h (ga.cut mm),.h (gb.cut mm),.h gc,.h gd,.h ge,.h gf,Ze ln] (ie (ZB 6 [0] (Zg (Qr 3 gc L.par mm) (Z1 2 (T4 (B7 3 mm gc L.par) (Y0 1 b [.h (ga.cut mm),.h (gb.cut mm),.h (gc.cut mm),.h gd,.h ge,.h gf,Ze ln] (ie (ZB 6 [0] (Zg (Qr 4 gd L.con mm) (Z1 2 (T4 (B7 4 mm gd L.con) (Y0 1 b [.h (ga.cut mm),.h (gb.cut mm),.h (gc.cut mm),.h (gd.cut mm),.h ge,.h gf,Ze ln] (ie (ZB 6 [0] (Zg (Qr 5 ge L.fst mm) (Z1 2 (T4 (B7 5 mm ge L.fst) (Y0 1 b [.h (ga.cut mm),.h (gb.cut mm),.h (gc.cut mm),.h (gd.cut mm),.h (ge.cut mm),.h gf,Ze ln] (ie (ZB 6 [0] (Zg (Qr 6 gf L.tok mm) (Z1 2 (T4 (B7 6 mm gf L.tok) (Y0 1 b [.h (ga.cut mm),.h (gb.cut mm),.h (gc.cut mm),.h (gd.cut mm),.h (ge.cut mm),.h (gf.cut mm),Ze ln] (ie (ar (Z7 (r1 [0,5,4,3,2,1,0] (.inl ⟨(ga.cut mm),(gb.cut mm),(gc.cut mm),(gd.cut mm),(ge.cut mm),(gf.cut mm),(Zc.mk (L.vars.take mm) (L.own.take mm) (L.par.take mm) (L.con.take mm) (L.fst.take mm) (L.tok.take mm)),rfl,rfl,(by rw [U8,Z6 (by rw [<-Z9,YR om];rfl)];rfl)⟩) (eq:=(rc (rv (xs:=(L.vars.take mm)) ob (rv (xs:=(L.own.take mm)) ob (rv (xs:=(L.par.take mm)) ob (rv (xs:=(L.con.take mm)) ob (rv (xs:=(L.fst.take mm)) ob (rv (xs:=(L.tok.take mm)) ob rz)))))))))))))))))))))))))))))))))))))))))))))))
theorem Z7c (b:Nat) (ga:Hd) (gb:Hd) (gc:Hd) (gd:Hd) (ge:Hd) (gf:Hd) (n:Zl) (s:Z8) (L:Zc) (ln:LI) (q:Int) (x:Int) (hn:YY n:=by exact ob) (hk:YI n.decls L q:=by exact ob) (hlb:L.vars.length<=1000000000:=by exact ob) (ha:s.args[0]? = some x:=by exact ob) (hx:0<=x/\x<L.vars.length:=by exact ob) (hq:0<=q/\q<=999999990:=by exact ob):Za 237 [.p b 0,X3 n,XO s] [.obj b [.h ga,.h gb,.h gc,.h gd,.h ge,.h gf,Ze ln],rV ga L.vars,rV gb L.own,rV gc L.par,rV gd L.con,rV ge L.fst,rV gf L.tok] (fun r h=>(∃(wa:Hd) (wb:Hd) (wc:Hd) (wd:Hd) (we:Hd) (wf:Hd) (L':Zc),r=.b true/\h=[.obj b [.h wa,.h wb,.h wc,.h wd,.h we,.h wf,Ze ln],rV wa L'.vars,rV wb L'.own,rV wc L'.par,rV wd L'.con,rV we L'.fst,rV wf L'.tok]/\TK n.decls L s.op x=some L')∨(r=.b false/\h=[]/\TK n.decls L s.op x=none)):=by
 obtain ⟨e1,e2,e3,e4,e5⟩:=hk.len
 have Ws:=hn.decls
 have hal:=(XZ.1 ha).1
 obtain ⟨xcon,hxcon⟩:=Zv L.con ((x).toNat) om
 have hgcon:=Vo hxcon
 obtain ⟨xtok,hxtok⟩:=Zv L.tok ((x).toNat) om
 have hgtok:=Vo hxtok
 obtain ⟨xfst,hxfst⟩:=Zv L.fst ((x).toNat) om
 have hgfst:=Vo hxfst
 have hfl:=TU Ws xcon
 have har:=hk.arm x om om
 rw [hgcon,hgfst] at har
 refine Zx 105 Tryz.func237 (ar (iA (W8 n) fun b1=>iA (WO s) fun b2=>Z0 (ZB 2 [0] (Zg (Zq none 0 1 (Yc ha)) (Z0 (Ym 5 [2] (Zg (XB 6 gd L.con x x.toNat (hq:=rfl)) (Xu (WQ 6 gd L.con x.toNat xcon hxcon) (Xz 23 [0,4,5,7] [(36,.b ((decide (xcon<0))||((s.op==17)&&(decide (xtok>=0)))))] (fun gz=>gz) ?_ (fun hj1=>?_))))))))))
 ·refine Z1 1 (ib (b:=((decide (xcon<0))||((s.op==17)&&(decide (xtok>=0))))) 37 (fun Zb=>?_) (fun Zb=>?_))
  ·have Ya:(xcon<0)∨((s.op=17)/\(xtok>=0)):=((Yg dq (Yy Zr dq))).1 Zb
   exact Z0 (W4 (ar (Z7 (r1 [] (.inr ⟨rfl,rfl,(by rw [TK,hgcon,hgtok,Z6 om])⟩)))))
  have YT:¬((xcon<0)∨((s.op=17)/\(xtok>=0))):=ZZ (Yg dq (Yy Zr dq)) Zb
  refine Z1 2 (ic [2,2,2,2,2,2,2] (ED b ga gb gc gd ge gf L ln x (hlk:=hk.len) (hq:=(fun y hy=>⟨hk.nn y hy,by have:=hk.bd y hy;omega⟩))) ?_)
  rintro _ _ (⟨wa1,wb1,wc1,wd1,we1,wf1,L'1,rfl,rfl,Xy⟩|⟨rfl,rfl,XE⟩)
  ·obtain ⟨t1,t2,t3,t4,t5,t6,t7⟩:=Qp Xy
   have hk1:=hk.take Xy
   obtain ⟨f1,f2,f3,f4,f5⟩:=hk1.len
   have hxcon1:L'1.con[x.toNat]? = some xcon:=by rw [t4];exact hxcon
   have hvl:L'1.vars.length=L.vars.length:=by rw [t2]
   have har2:=har om
   have hxfst1:L'1.fst[x.toNat]? = some xfst:=by rw [t5];exact hxfst
   refine Z0 (XC (ak (aD 11 (Y7 4 11 [0,1,2,3,4,5,6] [8,0] (dx 7 (XB 4 wd1 L'1.con x x.toNat (hq:=rfl)) (Qh 8 (WQ 4 wd1 L'1.con x.toNat xcon hxcon1) (ZF 9 (XY 9 [] [] [] (Fd n.decls xcon) (Zm 0 1 [10] (de (Yj (ab 0 (ZR (fun fz gz m F h=>∃(k:Nat) (o:LI),(k<=(Y2 n.decls xcon).length)/\(o.length=L.vars.length)/\(∀y∈o,0<=y/\y<=q+k)/\(UJ o (xfst+k) ((Y2 n.decls xcon).drop k)=UJ L'1.own xfst (Y2 n.decls xcon))/\F=sF [0,5,7,8] fz [(9,.i k)]/\h=[Zy gz 0,Zy gz 1,rV wb1 o,Zy gz 3,Zy gz 4,Zy gz 5,Zy gz 6,Zy gz 7]/\m=(Y2 n.decls xcon).length-k) _ _ _ ⟨0,L'1.own,ob,om,(by intro y hy;have h1:=hk1.nn y hy;have h2:=hk1.bd y hy;omega),(by rw [show xfst+((0:Nat):Int)=xfst by omega,TM]),rfl,rfl,rfl⟩ (Y1 8 (ZT fl)) ?_)))))))))))))
   rintro m F h ⟨k,o,ZX,Z9,Zz,Y5,rfl,rfl,rfl⟩
   refine Y8 2 (io (.i (((Y2 n.decls xcon).length:Nat):Int)) (.i (((Zi (Y2 n.decls xcon)).length:Nat):Int)) (li (by rw [Yk])) (ZN ((k:Int)<(((Y2 n.decls xcon).length:Nat):Int)) (fun Z5=>?_) (fun Z5=>?_)))
   ·refine ak (aq (ab 1 (ZM 2 ?_)))
    obtain ⟨x1,Z2⟩:=Zv (Y2 n.decls xcon) k om
    refine Zg (Zq none (k:Int) 1 (Yc Z2)) (Yt (x1 != 0) ZO (fun Zd=>?_) (fun Zd=>?_))
    ·refine aE 31 (Y7 22 31 [0,1,2,3,4,5,6,7,8] [0,0] (dx 9 (XB 5 we1 L'1.fst x x.toNat (hq:=rfl)) (Qh 10 (WQ 5 we1 L'1.fst x.toNat xfst hxfst1) (Zm 19 20 [11] (da 12 ((xfst+(k:Int))) ((xfst)+((k:Int))) (Y7 9 18 [13,14,15,16,17,18,19,20,21] [0,0] (dx 22 (XB 5 we1 L'1.fst x x.toNat (hq:=rfl)) (Qh 23 (WQ 5 we1 L'1.fst x.toNat xfst hxfst1) (Zm 6 7 [24] (da 25 ((xfst+(k:Int))) ((xfst)+((k:Int))) (dx 26 (XB 2 wb1 o (xfst+(k:Int)) ((xfst+(k:Int)).toNat) (hq:=rfl)) ?_)))))))))))
     obtain ⟨x2,Zt⟩:=Zv o ((xfst+(k:Int)).toNat) om
     have hy2:=Zz _ (YA Zt)
     exact Qh 27 (WQ 2 wb1 o ((xfst+(k:Int)).toNat) x2 Zt) (da 28 ((x2+1)) ((x2)+(1)) (dx 29 (XB 2 wb1 o (xfst+(k:Int)) ((xfst+(k:Int)).toNat) (hq:=rfl)) (ZF 30 (Jn 30 2 [] [] wb1 o ((xfst+(k:Int)).toNat) (x2+1) (de (az (Z1 1 (ZK k (Z0 (ZJ ⟨k+1,(o.set (xfst+(k:Nat)).toNat (x2+1)),ob,ob,(by intro y hy;first|(rcases QK hy with hy|rfl<;>first|(have:=Zz y hy;omega)|omega)|(have:=Zz y hy;omega)),(by rw [ZH Z2,UJ] at Y5;first|(rw [Z6 Zd,Vo Zt] at Y5;rw [show xfst+((k+1:Nat):Int)=xfst+k+1 by omega];exact Y5)|(rw [Z4 Zd] at Y5;rw [show xfst+((k+1:Nat):Int)=xfst+k+1 by omega];exact Y5)),rfl,rfl,rfl⟩ (wk [1,1,0,0,0,0,0,0] (ZL k fl) (e:=(rc (rc (rv (xs:=(o.set ((xfst+(k:Int)).toNat) (x2+1))) ob (rc (rc (rc (rc (rc rz))))))))))))))))))))
    exact ak (az (Z1 1 (ZK k (Z0 (ZJ ⟨k+1,o,ob,ob,(by intro y hy;first|(rcases QK hy with hy|rfl<;>first|(have:=Zz y hy;omega)|omega)|(have:=Zz y hy;omega)),(by rw [ZH Z2,UJ] at Y5;first|(rw [Z6 Zd,Vo Zt] at Y5;rw [show xfst+((k+1:Nat):Int)=xfst+k+1 by omega];exact Y5)|(rw [Z4 Zd] at Y5;rw [show xfst+((k+1:Nat):Int)=xfst+k+1 by omega];exact Y5)),rfl,rfl,rfl⟩ (Y1 8 (ZL k fl)))))))
   refine ax 0 (Yq (Vq [7] (ac (s.op==17) Zr (fun Zw=>?_) (fun Zw=>?_))))
   ·refine az (Y3 6 [0] (io (.i (((Y2 n.decls xcon).length:Nat):Int)) (.i (((Zi (Y2 n.decls xcon)).length:Nat):Int)) (li (by rw [Yk])) (Zg (XB 6 wf1 L'1.tok x x.toNat (hq:=rfl)) (BL 6 wf1 L'1.tok x.toNat (((Y2 n.decls xcon).length:Nat):Int) (ie (Zf ?_))))))
    have hof:o=UJ L'1.own xfst (Y2 n.decls xcon):=by rw [<-Y5,YR om];rfl
    exact ZG (r1 [1,1,1,1,1,1,0] (.inl ⟨wa1,wb1,wc1,wd1,we1,wf1,(Zc.mk L'1.vars o L'1.par L'1.con L'1.fst (L'1.tok.set x.toNat (((Y2 n.decls xcon).length:Nat):Int))),rfl,rfl,(by rw [TK,hgcon,hgfst,hgtok,Z4 om,Xy,hof,t6];simp [Zw,t2,t3,t4,t5])⟩) (eq:=(rc (rv (xs:=L'1.vars) ob (rv (xs:=o) ob (rv (xs:=L'1.par) ob (rv (xs:=L'1.con) ob (rv (xs:=L'1.fst) ob (rv (xs:=(L'1.tok.set x.toNat (((Y2 n.decls xcon).length:Nat):Int))) ob rz)))))))))
   refine ak (Zf ?_)
   have hof:o=UJ L'1.own xfst (Y2 n.decls xcon):=by rw [<-Y5,YR om];rfl
   exact ZG (r1 [0,0,0,0,0,0,0] (.inl ⟨wa1,wb1,wc1,wd1,we1,wf1,(Zc.mk L'1.vars o L'1.par L'1.con L'1.fst L'1.tok),rfl,rfl,(by rw [TK,hgcon,hgfst,hgtok,Z4 om,Xy,hof,t6];simp [Zw,t2,t3,t4,t5])⟩) (eq:=(rc (rv (xs:=L'1.vars) ob (rv (xs:=o) ob (rv (xs:=L'1.par) ob (rv (xs:=L'1.con) ob (rv (xs:=L'1.fst) ob (rv (xs:=L'1.tok) ob rz)))))))))
  exact Z0 (W4 (ar (Z7 (r1 [] (.inr ⟨rfl,rfl,(by rw [TK,hgcon,hgtok,Z4 om,XE])⟩)))))
 refine Z1 2 (ib (b:=(decide (xcon<0))) 22 (fun ZD=>?_) (fun ZD=>?_))
 ·have VO:xcon<0:=(dq).1 ZD
  exact Z1 14 (Yb (Y1 9 (Zp true ZD fl)) hj1)
 have Up:¬(xcon<0):=ZZ dq ZD
 refine Y3 4 [0] (ib (b:=(s.op==17)) 26 (fun Yn=>?_) (fun Yn=>?_))
 ·have UV:s.op=17:=(Zr).1 Yn
  exact Y3 5 [2] (Zg (XB 8 gf L.tok x x.toNat (hq:=rfl)) (Xu (WQ 8 gf L.tok x.toNat xtok hxtok) (Z1 3 (Yb (Y1 9 (Zp (decide (xtok>=0)) (And.intro ZD Yn) fl)) hj1))))
 have Td:¬(s.op=17):=ZZ Zr Yn
 exact Z1 10 (Yb (Y1 9 (Zp false (And.intro ZD Yn) fl)) hj1)
theorem Z7b (b:Nat) (ga:Hd) (gb:Hd) (gc:Hd) (gd:Hd) (ge:Hd) (gf:Hd) (n:Zl) (s:Z8) (L:Zc) (ln:LI) (q:Int) (hn:YY n:=by exact ob) (hnum:s.op=9->0<=s.num/\s.num<n.routines.length:=by exact ob) (hk:YI n.decls L q:=by exact ob) (hlb:L.vars.length<=1000000000:=by exact ob) (hargs:∀a∈s.args,0<=a/\a<L.vars.length) (hinto:0<s.into->s.into<=L.vars.length:=by exact ob) (hal:s.args.length<=1000000000:=by exact ob) (hln:ln.length<=4294967296:=by exact ob) (hq:0<=q/\q<=999999990:=by exact ob):Za 239 [.p b 0,X3 n,XO s] [.obj b [.h ga,.h gb,.h gc,.h gd,.h ge,.h gf,Ze ln],rV ga L.vars,rV gb L.own,rV gc L.par,rV gd L.con,rV ge L.fst,rV gf L.tok] (fun r h=>(∃(wa:Hd) (wb:Hd) (wc:Hd) (wd:Hd) (we:Hd) (wf:Hd) (L':Zc),r=.b true/\h=[.obj b [.h wa,.h wb,.h wc,.h wd,.h we,.h wf,Ze ln],rV wa L'.vars,rV wb L'.own,rV wc L'.par,rV wd L'.con,rV we L'.fst,rV wf L'.tok]/\Uo n ln L s.op s.num s.into s.args=some L')∨(r=.b false/\h=[]/\Uo n ln L s.op s.num s.into s.args=none)):=by
 obtain ⟨e1,e2,e3,e4,e5⟩:=hk.len
 refine Zx 79 Tryz.func239 (ar (iA (W8 n) fun b1=>iA (WO s) fun b2=>?_))
 refine Z0 (Yj (ab 0 (ZR (fun fz gz m F h=>∃(k:Nat) (L2:Zc) (ka:Hd) (kb:Hd) (kc:Hd) (kd:Hd) (ke:Hd) (kf:Hd),(k<=s.args.length)/\(YI n.decls L2 q)/\(L2.vars=L.vars)/\(TE n s.op s.num (s.args.drop k) k L2=TE n s.op s.num s.args 0 L)/\F=sF [0,4,5] fz [(7,.i k)]/\h=[Zy gz 0,Zy gz 1,.obj b [.h ka,.h kb,.h kc,.h kd,.h ke,.h kf,Ze ln],rV ka L2.vars,rV kb L2.own,rV kc L2.par,rV kd L2.con,rV ke L2.fst,rV kf L2.tok]/\m=s.args.length-k) _ _ _ ⟨0,L,ga,gb,gc,gd,ge,gf,ob,hk,ob,ob,rfl,rfl,rfl⟩ (Y1 9 (ZT fl)) ?_)))
 rintro m F h ⟨k,L2,ka,kb,kc,kd,ke,kf,ZX,Z9,Zz,Y5,rfl,rfl,rfl⟩
 refine Ym 3 [0] (iw (Yk s.args) (ZN ((k:Int)<(s.args.length:Int)) (fun Z5=>?_) (fun Z5=>?_)))
 ·obtain ⟨a1,ha1⟩:=Zv s.args k om
  obtain ⟨e6,e7,e8,e9,e10⟩:=Z9.len
  have hav:=hargs a1 (YA ha1)
  have hvl:L2.vars.length=L.vars.length:=by rw [Zz]
  refine ak (aq (ab 1 (aD 18 (Y7 11 18 [0,1,2,3,4,5,6] [1,2,0] (ZF 7 (U9 7 [3] [] [] [rV ka L2.vars] (Zbl n L2.vars s k a1 (ha:=ha1)) A3 (gS (gL (v:=ka) 0 (gS (gS gN)))) (Vk VQ) ?_))))))
  rintro _ _ ⟨rfl,rfl⟩
  refine Zm 9 10 [8] (db (b:=TV n L2.vars s.op s.num a1 k) 24 (fun Zb=>?_) (fun Zb=>?_))
  ·have Ya:TV n L2.vars s.op s.num a1 k=true:=(Iff.rfl).1 Zb
   refine Y7 5 9 [9,10,11,12] [1] (dx 13 (Zq none (k:Int) 1 (Yc ha1)) (Zm 3 4 [14] (ZF 15 (dc 15 [3,0,2,2,2,2,2] [] [] (ED b ka kb kc kd ke kf L2 ln a1 (hlk:=Z9.len) (hq:=(fun y hy=>⟨Z9.nn y hy,by have:=Z9.bd y hy;omega⟩))) ?_))))
   rintro _ _ (⟨wa1,wb1,wc1,wd1,we1,wf1,L'1,rfl,rfl,YT⟩|⟨rfl,rfl,Xy⟩)
   ·obtain ⟨t1,t2,t3,t4,t5,t6,t7⟩:=Qp YT
    have hk2:=Z9.take YT
    exact Zm 0 2 [16,17] (de (XC (ak (az (Z1 1 (ZK k (Z0 (ZJ ⟨k+1,L'1,wa1,wb1,wc1,wd1,we1,wf1,ob,hk2,(t2.trans Zz),(by rw [ZH ha1,TE,Z6 Ya] at Y5;simp only [YT] at Y5;exact Y5),rfl,rfl,rfl⟩ (wk [7,7,0,0,0,0,0,0,0] (ZL k fl))))))))))
   exact Zm 0 2 [16,17] (de (W4 (ar (Z7 (r1 [] (.inr ⟨rfl,rfl,(by rw [Uo,<-Y5,ZH ha1,TE,Z6 Ya,Xy])⟩))))))
  have XE:¬(TV n L2.vars s.op s.num a1 k=true):=ZZ Iff.rfl Zb
  exact Zm 0 9 [9,10,11,12,13,14,15,16,17] (de (XC (ak (az (Z1 1 (ZK k (Z0 (ZJ ⟨k+1,L2,ka,kb,kc,kd,ke,kf,ob,Z9,Zz,(by rw [ZH ha1,TE,Z4 XE] at Y5;exact Y5),rfl,rfl,rfl⟩ (wk [1,1,1,0,0,0,0,0,0] (ZL k fl))))))))))
 have hT:TE n s.op s.num s.args 0 L=some L2:=by rw [<-Y5,YR om];rfl
 obtain ⟨e6,e7,e8,e9,e10⟩:=Z9.len
 have hvl:L2.vars.length=L.vars.length:=by rw [Zz]
 refine ax 0 (Yj (ab 2 (ZR (fun fz gz m F h=>∃(j:Nat),(j<=s.args.length)/\(K4 n s.op s.num ln L2 (s.args.drop j) j=K4 n s.op s.num ln L2 s.args 0)/\F=sF [0,4,5] fz [(8,.i j)]/\h=gz/\m=s.args.length-j) _ _ _ ⟨0,ob,ob,rfl,rfl,rfl⟩ (Y1 9 (ZT fl)) ?_)))
 rintro m F h ⟨j,T0,Xh,rfl,rfl,rfl⟩
 refine Ym 3 [0] (iw (Yk s.args) (ZN ((j:Int)<(s.args.length:Int)) (fun Zd=>?_) (fun Zd=>?_)))
 ·obtain ⟨a2,ha2⟩:=Zv s.args j om
  have hav:=hargs a2 (YA ha2)
  refine ak (aq (ab 3 (ZB 3 [1,0] (ZC [] (Rd n s j) (W7 [0,4,5,8] [(54,.b (VK n s.op s.num j&&(!XV L2 ln a2)))] (fun gz=>[Zy gz 2,Zy gz 3,Zy gz 4,Zy gz 5,Zy gz 6,Zy gz 7,Zy gz 8,Zy gz 0,Zy gz 1]) ?_ ?_)))))
  ·refine Z1 1 (ib (b:=VK n s.op s.num j) 45 (fun ZD=>?_) (fun ZD=>?_))
   ·exact Y3 4 [0] (Zg (Zq none (j:Int) 1 (Yc ha2)) (Z1 1 (ZC [2,2,2,2,2,2,2] (Hq b ka kb kc kd ke kf L2 ln a2 (hlk:=Z9.len) (hd:=Z9.down)) (Z0 (Y1 9 (Zp (!XV L2 ln a2) ZD fl))))))
   exact Z0 (wk [2,2,2,2,2,2,2,0,0] (Zp false ZD fl))
  refine ac (VK n s.op s.num j&&(!XV L2 ln a2)) (p:=(VK n s.op s.num j=true)/\(¬(XV L2 ln a2=true))) (Yy Iff.rfl (Yi Iff.rfl)) (fun Zw=>?_) (fun Zw=>?_)
  ·refine Zf ?_
   have hA:K4 n s.op s.num ln L2 s.args 0=false:=by rw [<-Xh,ZH ha2,K4,Z6 Zw]
   exact ZG (r1 [] (.inr ⟨rfl,rfl,(by rw [Uo,hT];simp only [hA];rfl)⟩))
  exact ak (az (Z1 1 (ZK j (Z0 (ZJ ⟨j+1,ob,(by rw [ZH ha2,K4,Z4 Zw] at Xh;exact Xh),rfl,rfl,rfl⟩ (wk [7,7,0,0,0,0,0,0,0] (ZL j fl)))))))
 have hA:K4 n s.op s.num ln L2 s.args 0=true:=by rw [<-Xh,YR om];rfl
 refine ax 2 (Yq (Vq [0] (Xf (s.into>0) (fun Yd=>?_) (fun Yd=>?_))))
 ·obtain ⟨xt,hxt⟩:=Zv L2.tok ((s.into-1).toNat) (by have:=hinto Yd;omega)
  have hgt:=Vo hxt
  refine aq (aD 13 (Y7 7 13 [0,1,2,3,4,5] [2,0] (da 6 ((s.into-1)) ((s.into)-(1)) (dx 7 (XB 8 kf L2.tok (s.into-1) ((s.into-1).toNat) (hq:=rfl)) (Qh 8 (WQ 8 kf L2.tok ((s.into-1).toNat) xt hxt) (Y7 2 4 [9,10] [0] (dw 11 (Yk s.args) (Zm 0 1 [12] (de (ac (xt != (s.args.length:Int)) ZO (fun Xm=>?_) (fun Xm=>?_)))))))))))
  ·exact ar (Z7 (r1 [] (.inr ⟨rfl,rfl,(by rw [Uo,hT];simp only [hA,↓reduceIte];rw [K5,Z6 Yd,hgt,Z6 Xm])⟩)))
  exact ak (aE 9 (Y7 3 9 [0,1,2,3,4,5] [2,0] (da 6 ((s.into-1)) ((s.into)-(1)) (dx 7 (XB 8 kf L2.tok (s.into-1) ((s.into-1).toNat) (hq:=rfl)) (ZF 8 (Jn 8 8 [] [] kf L2.tok ((s.into-1).toNat) (-1) (de (ar (Z7 (r1 [3,3,3,3,3,3,0] (.inl ⟨ka,kb,kc,kd,ke,kf,(Zc.mk L2.vars L2.own L2.par L2.con L2.fst (L2.tok.set ((s.into-1).toNat) (-1))),rfl,rfl,(by rw [Uo,hT];simp only [hA,↓reduceIte];rw [K5,Z6 Yd,hgt,Z4 Xm])⟩) (eq:=(rc (rv (xs:=L2.vars) ob (rv (xs:=L2.own) ob (rv (xs:=L2.par) ob (rv (xs:=L2.con) ob (rv (xs:=L2.fst) ob (rv (xs:=(L2.tok.set ((s.into-1).toNat) (-1))) ob rz))))))))))))))))))
 exact ak (ar (Z7 (r1 [2,2,2,2,2,2,2] (.inl ⟨ka,kb,kc,kd,ke,kf,L2,rfl,rfl,(by rw [Uo,hT];simp only [hA,↓reduceIte];rw [K5,Z4 Yd])⟩))))
theorem Og (b:Nat) (ga:Hd) (gb:Hd) (gc:Hd) (gd:Hd) (ge:Hd) (gf:Hd) (n:Zl) (s:Z8) (L:Zc) (ln:LI) (q:Int) (i:Nat) (kb0:Zh) (m:LI) (hn:YY n:=by exact ob) (hk:YI n.decls L q:=by exact ob) (hf:Jf n L.vars s:=by exact ob) (hop:s.op=7∨s.op=8:=by exact ob) (hkb:s.kids[i]? = some kb0:=by exact ob) (harm:(YF n.decls s.op s.num)[i]? = some m:=by exact ob) (hbt:0<=Ys n (L.vars++m) kb0:=by exact ob) (hb:L.vars.length+4*s.sz<=1000000000:=by exact ob) (hq:0<=q/\q+4*s.sz<=999999990:=by exact ob) (hln:ln.length<=4294967296:=by exact ob) (ih:∀(b2:Zh) (c:Nat) (ra:Hd) (rb:Hd) (rc:Hd) (rd:Hd) (re:Hd) (rf:Hd) (M:Zc) (mm:Nat) (p:Int),(b2.sz<s.sz)->(YI n.decls M p)->(0<=Ys n M.vars b2)->(mm<=M.vars.length)->(M.vars.length+4*b2.sz<=1000000000)->(0<=p/\p+4*b2.sz<=999999990)->Za 144 [.p c 0,X3 n,YC b2,.i mm] [.obj c [.h ra,.h rb,.h rc,.h rd,.h re,.h rf,Ze ln],rV ra M.vars,rV rb M.own,rV rc M.par,rV rd M.con,rV re M.fst,rV rf M.tok] (fun r h=>(∃(wa:Hd) (wb:Hd) (wc:Hd) (wd:Hd) (we:Hd) (wf:Hd) (M':Zc),r=.b true/\h=[.obj c [.h wa,.h wb,.h wc,.h wd,.h we,.h wf,Ze ln],rV wa M'.vars,rV wb M'.own,rV wc M'.par,rV wd M'.con,rV we M'.fst,rV wf M'.tok]/\WL n ln M mm b2=some M')∨(r=.b false/\h=[]/\WL n ln M mm b2=none))):Za 282 [.p b 0,X3 n,XO s,.i i] [.obj b [.h ga,.h gb,.h gc,.h gd,.h ge,.h gf,Ze ln],rV ga L.vars,rV gb L.own,rV gc L.par,rV gd L.con,rV ge L.fst,rV gf L.tok] (fun r h=>(∃(c:Nat) (wa:Hd) (wb:Hd) (wc:Hd) (wd:Hd) (we:Hd) (wf:Hd) (L':Zc),r=.tup [.p c 0,.b true]/\h=[.obj c [.h wa,.h wb,.h wc,.h wd,.h we,.h wf,Ze ln],rV wa L'.vars,rV wb L'.own,rV wc L'.par,rV wd L'.con,rV we L'.fst,rV wf L'.tok,.obj b [.h ga,.h gb,.h gc,.h gd,.h ge,.h gf,Ze ln],rV ga L.vars,rV gb L.own,rV gc L.par,rV gd L.con,rV ge L.fst,rV gf L.tok]/\WL n ln (Vb n.decls L s.op s.num s.args i) L.vars.length kb0=some L')∨(r=.tup [.any,.b false]/\h=[.obj b [.h ga,.h gb,.h gc,.h gd,.h ge,.h gf,Ze ln],rV ga L.vars,rV gb L.own,rV gc L.par,rV gd L.con,rV ge L.fst,rV gf L.tok]/\WL n ln (Vb n.decls L s.op s.num s.args i) L.vars.length kb0=none)):=by
 obtain ⟨e1,e2,e3,e4,e5⟩:=hk.len
 have Ws:=hn.decls
 have hkz:=Ql s
 have haz:=A1 s
 have hK:=BQ hk hq.1 hf hop harm
 have hm3:=Bm Ws harm
 have hkl:=(XZ.1 hkb).1
 have hks:=Ka hkb
 refine Zx 83 Tryz.func282 (ar (iA (W8 n) fun b1=>iA (WO s) fun b2=>Z0 (ZB 4 [2] (Zg (KN 3 ga L.vars) (Z0 (ZM 1 (ic [2,2,2,2,2,2,2] (Z7a b ga gb gc gd ge gf L ln (hlk:=hk.len)) ?_)))))))
 rintro _ _ ⟨c1,wa1,wb1,wc1,wd1,we1,wf1,rfl,rfl⟩
 refine Z0 (Yq (Vq [14] (ac (s.op==8) Zr (fun Z5=>?_) (fun Z5=>?_))))
 ·obtain ⟨x,hxa⟩:=hf.one om
  have ha:s.args[0]? = some x:=by rw [hxa];rfl
  have hx:=hf.args x (by rw [hxa];simp)
  obtain ⟨cc,hcc,hmc⟩:=FX Z5 harm
  have hal:=(XZ.1 ha).1
  have hcl:=(XZ.1 hcc).1
  have hm4:=hm3
  rw [hmc] at hm4
  refine ZB 4 [15,14] (ic [] (R8 n.decls s.num) ?_)
  rintro _ _ ⟨v1,rfl,rfl⟩
  refine Z1 1 (Zg (Zq (some v1) (i:Int) 1 (Yc hcc)) (Z0 (ZB 3 [16] (ZC [] (Fd n.decls cc) (Z0 (aD 11 (Y7 5 11 [0,1,2,3,4,5] [1,15] (dx 6 (Zq none 0 1 (Yc ha)) (Zm 2 4 [7,8] (dx 9 (XB 5 wd1 L.con x x.toNat (hq:=rfl)) (ZF 10 (Jn 10 5 [] [] wd1 L.con x.toNat cc (de (aD 11 (Y7 5 11 [0,1,2,3,4,5] [2,15] (dx 6 (Zq none 0 1 (Yc ha)) (Zm 2 4 [7,8] (dx 9 (XB 6 we1 L.fst x x.toNat (hq:=rfl)) (ZF 10 (Jn 10 6 [] [] we1 L.fst x.toNat (L.vars.length:Int) (de (Zf (ab 0 (ZR (fun fz gz m F h=>∃(k:Nat) (L3:Zc) (ka:Hd) (kb:Hd) (kc:Hd) (kd:Hd) (ke:Hd) (kf:Hd),(k<=(Y2 n.decls cc).length)/\(W9 L3)/\(L3.vars.length=L.vars.length+k)/\(K2 L3 x ((Y2 n.decls cc).drop k)=KU n.decls L x cc)/\F=sF [3,5,6,10,11,13] fz [(14,.i k)]/\h=[.obj c1 [.h ka,.h kb,.h kc,.h kd,.h ke,.h kf,Ze ln],Zy gz 8,Zy gz 9,Zy gz 10,Zy gz 11,Zy gz 12,Zy gz 13,Zy gz 14,Zy gz 15,Zy gz 16,rV ka L3.vars,rV kb L3.own,rV kc L3.par,rV kd L3.con,rV ke L3.fst,rV kf L3.tok]/\m=(Y2 n.decls cc).length-k) _ _ _ ⟨0,(Zc.mk L.vars L.own L.par (L.con.set x.toNat cc) (L.fst.set x.toNat (L.vars.length:Int)) L.tok),wa1,wb1,wc1,wd1,we1,wf1,ob,(W9.arm hk.len),ob,(by rw [KU];rfl),rfl,rfl,rfl⟩ (wk [3,7,7,7,7,7,7,7,7,7,3,3,3,1,0,1] (ZT fl) (e:=(rc (rc (rc (rc (rc (rc (rc (rc (rc (rc (rv (xs:=L.vars) ob (rv (xs:=L.own) ob (rv (xs:=L.par) ob (rv (xs:=(L.con.set x.toNat cc)) ob (rv (xs:=(L.fst.set x.toNat (L.vars.length:Int))) ob (rv (xs:=L.tok) ob rz)))))))))))))))))) ?_))))))))))))))))))))))))
  rintro m F h ⟨k,L3,ka,kb,kc,kd,ke,kf,ZX,Z9,Zz,Y5,rfl,rfl,rfl⟩
  refine Y8 2 (io (.i (((Y2 n.decls cc).length:Nat):Int)) (.i (((Zi (Y2 n.decls cc)).length:Nat):Int)) (li (by rw [Yk])) (ZN ((k:Int)<(((Y2 n.decls cc).length:Nat):Int)) (fun Zd=>?_) (fun Zd=>?_)))
  ·refine ak (aq (ab 1 (aE 10 (Zm 7 10 [0,1,2] ?_))))
   obtain ⟨x1,Z2⟩:=Zv (Y2 n.decls cc) k om
   refine dx 3 (Zq none (k:Int) 1 (Yc Z2)) (Y7 3 6 [4,5,6] [8] (dx 7 (Zq none 0 1 (Yc ha)) (Zm 1 2 [8] (ZF 9 (dc 9 [0,9,9,9,9,9,9] [] [] (QJ c1 ka kb kc kd ke kf L3 ln x1 0 x (hlk:=Z9)) ?_)))))
   rintro _ _ ⟨wa2,wb2,wc2,wd2,we2,wf2,rfl⟩
   exact de (az (Z1 1 (ZK k (Z0 (ZJ ⟨k+1,(L3.grow x1 0 x),wa2,wb2,wc2,wd2,we2,wf2,ob,(W9.grow Z9),(by simp [Zc.grow];omega),(by rw [ZH Z2,K2] at Y5;exact Y5),rfl,rfl,rfl⟩ (wk [0,6,6,6,6,6,6,6,6,6,0,0,0,0,0,0] (ZL k fl)))))))
  have hE:Vb n.decls L s.op s.num s.args i=L3:=by rw [Z6n Z5 ha hcc,<-Y5,YR om];rfl
  refine ax 0 (aD 12 (Y7 6 12 [0,1,2,3,4,5] [9,8] (dx 6 (Zq none (i:Int) 2 (TA hkb)) (Zm 3 5 [7,8] (ZF 9 (dc 9 [0,9,9,9,9,9,9] [] [] (ih kb0 c1 ka kb kc kd ke kf L3 L.vars.length q ob (by rw [<-hE];exact hK.1) (by rw [<-hE,hK.2];exact hbt) (by rw [<-hE,hK.2];simp) (by rw [<-hE,hK.2,Yz];omega) ob) ?_))))))
  rintro _ _ (⟨wa3,wb3,wc3,wd3,we3,wf3,M'1,rfl,rfl,Ya⟩|⟨rfl,rfl,YT⟩)
  ·exact Zm 0 2 [10,11] (de (ZG (r2 [0,0,0,0,0,0,0,0,0,0,0,0,0,0] [.p c1 0,.b true] (.inl ⟨c1,wa3,wb3,wc3,wd3,we3,wf3,M'1,rfl,rfl,(by rw [hE];exact Ya)⟩) (lr _))))
  exact Zm 0 2 [10,11] (de (ZG (r2 [0,0,0,0,0,0,0] [.p c1 0,.b false] (.inr ⟨rfl,rfl,(by rw [hE];exact YT)⟩) (Zk.tup (.cons (Zk.any _) (.cons (lr _) .nil))))))
 have hE:=Z6o (ds:=n.decls) (L:=L) (num:=s.num) (args:=s.args) (i:=i) Z5
 refine ak (aD 12 (Y7 6 12 [0,1,2,3,4,5] [15,14] (dx 6 (Zq none (i:Int) 2 (TA hkb)) (Zm 3 5 [7,8] (ZF 9 (dc 9 [0,0,0,0,0,0,0] [] [] (ih kb0 c1 wa1 wb1 wc1 wd1 we1 wf1 L L.vars.length q ob (by rw [<-hE];exact hK.1) (by rw [<-hE,hK.2];exact hbt) (by rw [<-hE,hK.2];simp) (by rw [<-hE,hK.2,Yz];omega) ob) ?_))))))
 rintro _ _ (⟨wa4,wb4,wc4,wd4,we4,wf4,M'2,rfl,rfl,Xy⟩|⟨rfl,rfl,XE⟩)
 ·exact Zm 0 2 [10,11] (de (ZG (r2 [0,0,0,0,0,0,0,0,0,0,0,0,0,0] [.p c1 0,.b true] (.inl ⟨c1,wa4,wb4,wc4,wd4,we4,wf4,M'2,rfl,rfl,(by rw [hE];exact Xy)⟩) (lr _))))
 exact Zm 0 2 [10,11] (de (ZG (r2 [0,0,0,0,0,0,0] [.p c1 0,.b false] (.inr ⟨rfl,rfl,(by rw [hE];exact XE)⟩) (Zk.tup (.cons (Zk.any _) (.cons (lr _) .nil))))))
theorem Z79 (b:Nat) (ga:Hd) (gb:Hd) (gc:Hd) (gd:Hd) (ge:Hd) (gf:Hd) (n:Zl) (s:Z8) (L:Zc) (ln:LI) (q:Int) (hn:YY n:=by exact ob) (hk:YI n.decls L q:=by exact ob) (hf:Jf n L.vars s:=by exact ob) (hop:s.op=7∨s.op=8:=by exact ob) (hb:L.vars.length+4*s.sz<=1000000000:=by exact ob) (hq:0<=q/\q+4*s.sz<=999999990:=by exact ob) (hln:ln.length<=4294967296:=by exact ob) (ih:∀(b2:Zh) (c:Nat) (ra:Hd) (rb:Hd) (rc:Hd) (rd:Hd) (re:Hd) (rf:Hd) (M:Zc) (mm:Nat) (p:Int),(b2.sz<s.sz)->(YI n.decls M p)->(0<=Ys n M.vars b2)->(mm<=M.vars.length)->(M.vars.length+4*b2.sz<=1000000000)->(0<=p/\p+4*b2.sz<=999999990)->Za 144 [.p c 0,X3 n,YC b2,.i mm] [.obj c [.h ra,.h rb,.h rc,.h rd,.h re,.h rf,Ze ln],rV ra M.vars,rV rb M.own,rV rc M.par,rV rd M.con,rV re M.fst,rV rf M.tok] (fun r h=>(∃(wa:Hd) (wb:Hd) (wc:Hd) (wd:Hd) (we:Hd) (wf:Hd) (M':Zc),r=.b true/\h=[.obj c [.h wa,.h wb,.h wc,.h wd,.h we,.h wf,Ze ln],rV wa M'.vars,rV wb M'.own,rV wc M'.par,rV wd M'.con,rV we M'.fst,rV wf M'.tok]/\WL n ln M mm b2=some M')∨(r=.b false/\h=[]/\WL n ln M mm b2=none))):Za 238 [.p b 0,X3 n,XO s] [.obj b [.h ga,.h gb,.h gc,.h gd,.h ge,.h gf,Ze ln],rV ga L.vars,rV gb L.own,rV gc L.par,rV gd L.con,rV ge L.fst,rV gf L.tok] (fun r h=>(∃(wa:Hd) (wb:Hd) (wc:Hd) (wd:Hd) (we:Hd) (wf:Hd) (L':Zc),r=.b true/\h=[.obj b [.h wa,.h wb,.h wc,.h wd,.h we,.h wf,Ze ln],rV wa L'.vars,rV wb L'.own,rV wc L'.par,rV wd L'.con,rV we L'.fst,rV wf L'.tok]/\Kw n ln L s=some L')∨(r=.b false/\h=[]/\Kw n ln L s=none)):=by
 obtain ⟨e1,e2,e3,e4,e5⟩:=hk.len
 have Ws:=hn.decls
 have hkz:=Ql s
 have haz:=A1 s
 obtain ⟨hk1,hk2,hk3⟩:=hf.kids hop
 obtain ⟨kd,hkd⟩:=Zv s.kids 0 om
 obtain ⟨m0,hm0⟩:=Zv (YF n.decls s.op s.num) 0 om
 obtain ⟨x,hxa⟩:=hf.one om
 have ha:s.args[0]? = some x:=by rw [hxa];rfl
 have hx:=hf.args x (by rw [hxa];simp)
 have hgx:=J1 ha
 have hal:=(XZ.1 ha).1
 refine Zx 88 Tryz.func238 (ar (iA (W8 n) fun b1=>iA (WO s) fun b2=>Z0 (Yq (W7 [0,4,5] [(23,.b ((s.op==8)&&(!XV L ln x)))] (fun gz=>[Zy gz 2,Zy gz 3,Zy gz 4,Zy gz 5,Zy gz 6,Zy gz 7,Zy gz 8,Zy gz 0,Zy gz 1]) ?_ ?_))))
 ·refine Y3 4 [0] (ib (b:=(s.op==8)) 15 (fun Zb=>?_) (fun Zb=>?_))
  ·exact Y3 3 [0] (Zg (Zq none 0 1 (Yc ha)) (Z1 1 (ZC [2,2,2,2,2,2,2] (Hq b ga gb gc gd ge gf L ln x (hlk:=hk.len) (hd:=hk.down)) (Z0 (Y1 9 (Zp (!XV L ln x) Zb fl))))))
  exact Z0 (wk [2,2,2,2,2,2,2,0,0] (Zp false Zb fl))
 refine ac ((s.op==8)&&(!XV L ln x)) (p:=(s.op=8)/\(¬(XV L ln x=true))) (Yy Zr (Yi Iff.rfl)) (fun Z5=>?_) (fun Z5=>?_)
 ·exact ar (Z7 (r1 [] (.inr ⟨rfl,rfl,(by rw [Kw,Z6 (by rw [hgx];exact Z5)])⟩)))
 have hgo:=Mf (n:=n) (ln:=ln) (L:=L) (s:=s) (by rw [hgx];exact Z5) hkd
 refine ak (ZB 3 [8,7] (ic [0,0,0,0,0,0,0] (Og b ga gb gc gd ge gf n s L ln q 0 kd m0 (hkb:=hkd) (harm:=hm0) (hbt:=(hk3 0 kd m0 hkd hm0)) (ih:=ob)) ?_))
 rintro _ _ (⟨c1,wa1,wb1,wc1,wd1,we1,wf1,L'1,rfl,rfl,Xy⟩|⟨rfl,rfl,XE⟩)
 ·have hone:=Xy
  obtain ⟨l1,l2⟩:=O6 hn hk hq.1 hf hop hkd hm0 (hk3 0 kd m0 hkd hm0) hone
  refine Z0 (Yj (XC (ak (Yj (ab 0 (ZR (fun fz gz m F h=>∃(k:Nat),(1<=k/\k<=s.kids.length)/\(QI n ln L s.op s.num s.args L'1 (s.kids.drop k) k=QI n ln L s.op s.num s.args L'1 (s.kids.drop 1) 1)/\F=sF [0,4,5,7] fz [(9,.i k)]/\h=gz/\m=s.kids.length-k) _ _ _ ⟨1,ob,ob,rfl,rfl,rfl⟩ (Y1 16 (fc (x:=.i 1) li fl)) ?_))))))
  rintro m F h ⟨k,ZX,Z9,rfl,rfl,rfl⟩
  refine Ym 3 [14] (iw (Ua s.kids) (ZN ((k:Int)<(s.kids.length:Int)) (fun Zd=>?_) (fun Zd=>?_)))
  ·obtain ⟨ke,hke⟩:=Zv s.kids k om
   obtain ⟨mk,hmk⟩:=Zv (YF n.decls s.op s.num) k om
   have hcs:=CM (n:=n) (ln:=ln) (L:=L) (op:=s.op) (num:=s.num) (args:=s.args) (one:=L'1) hke
   refine ak (aq (ab 1 (ZB 4 [15,14] (ic [7,7,7,7,7,7,7] (Og b ga gb gc gd ge gf n s L ln q k ke mk (hkb:=hke) (harm:=hmk) (hbt:=(hk3 k ke mk hke hmk)) (ih:=ob)) ?_))))
   rintro _ _ (⟨c2,wa2,wb2,wc2,wd2,we2,wf2,L'2,rfl,rfl,VO⟩|⟨rfl,rfl,Up⟩)
   ·have htwo:=VO
    obtain ⟨l3,l4⟩:=O6 hn hk hq.1 hf hop hke hmk (hk3 k ke mk hke hmk) htwo
    refine Z0 (aD 26 (Y7 15 26 [0,1,2,3,4,5,6,7,8,9,10] [14,0] (ZF 11 (U9 11 [16,2] [] [] [rV wb1 L'1.own,rV wb2 L'2.own] (Re L'1.own L'2.own) A3 (gL (v:=wb1) 0 (gL (v:=wb2) 1 gN)) (Vk (Vk VQ)) ?_))))
    rintro _ _ ⟨rfl,rfl⟩
    refine Jm [0,4,5,7,9] [(73,.b ((!(decide (L'1.own=L'2.own)))||(!(decide (L'1.tok=L'2.tok)))))] (fun gz=>gz) ?_ ?_
    ·refine Zm 11 14 [12,13,14] (db (b:=(!(decide (L'1.own=L'2.own)))) 62 (fun ZD=>?_) (fun ZD=>?_))
     ·exact Zm 0 11 [15,16,17,18,19,20,21,22,23,24,25] (de (Y1 23 (Zp true ZD fl)))
     refine Y7 3 11 [15,16,17,18,19,20,21,22] [15,2] (ZF 23 (U9 23 [20,7] [] [] [rV wf1 L'1.tok,rV wf2 L'2.tok] (Re L'1.tok L'2.tok) A3 (gL (v:=wf1) 0 (gL (v:=wf2) 1 gN)) (Vk (Vk VQ)) ?_))
     rintro _ _ ⟨rfl,rfl⟩
     exact Zm 0 2 [24,25] (de (wk [2,2,2,2,2,2,2,1,1,1,1,1,1,1,1,1,1,1,1,1,0,0,0] (Zp (!(decide (L'1.tok=L'2.tok))) ZD fl)))
    refine ac ((!(decide (L'1.own=L'2.own)))||(!(decide (L'1.tok=L'2.tok)))) (p:=(¬(L'1.own=L'2.own))∨(¬(L'1.tok=L'2.tok))) (Yg (Yi dq) (Yi dq)) (fun Zw=>?_) (fun Zw=>?_)
    ·exact ar (Z7 (r1 [] (.inr ⟨rfl,rfl,(by rw [hgo,hone];exact CS (by rw [<-Z9,hcs,htwo];exact PI Zw))⟩)))
    exact ak (az (Z1 1 (ZK k (Z0 (ZJ ⟨k+1,ob,(by rw [hcs,htwo,PJ Zw] at Z9;exact Z9),rfl,rfl,rfl⟩ (wk [15,15,0,14,14,14,14,7,7,7,7,7,7,7,7,7] (ZL k fl)))))))
   have htwo:=Up
   exact Z0 (aD 26 (Zm 0 26 [0,1,2,3,4,5,6,7,8,9,10,11,12,13,14,15,16,17,18,19,20,21,22,23,24,25] (de (W4 (ar (Z7 (r1 [] (.inr ⟨rfl,rfl,(by rw [hgo,hone];exact CS (by rw [<-Z9,hcs,htwo];rfl))⟩))))))))
  have hE:QI n ln L s.op s.num s.args L'1 (s.kids.drop 1) 1=true:=by rw [<-Z9,YR om,QI]
  exact ax 0 (ZB 7 [0] (Y0 7 b [.h ga,.h wb1,.h gc,.h gd,.h ge,.h gf,Ze ln] (ie (ZB 7 [1] (Y0 0 b [.h ga,.h wb1,.h gc,.h gd,.h ge,.h wf1,Ze ln] (ie (ar (Z7 (r1 [0,7,2,7,7,7,5] (.inl ⟨ga,wb1,gc,gd,ge,wf1,(Zc.mk L.vars L'1.own L.par L.con L.fst L'1.tok),rfl,rfl,(by rw [hgo,hone];exact OC hE)⟩) (eq:=(rc (rv (xs:=L.vars) ob (rv (xs:=L'1.own) ob (rv (xs:=L.par) ob (rv (xs:=L.con) ob (rv (xs:=L.fst) ob (rv (xs:=L'1.tok) ob rz)))))))))))))))))
 have hone:=XE
 exact Z0 (Yj (W4 (ar (Z7 (r1 [] (.inr ⟨rfl,rfl,(by rw [hgo,hone];rfl)⟩))))))
theorem Z7d (b:Nat) (ga:Hd) (gb:Hd) (gc:Hd) (gd:Hd) (ge:Hd) (gf:Hd) (n:Zl) (s:Z8) (L:Zc) (ln:LI) (q:Int) (hn:YY n:=by exact ob) (hk:YI n.decls L q:=by exact ob) (ht:0<=ZQ n L.vars s:=by exact ob) (hb:L.vars.length+4*s.sz<=1000000000:=by exact ob) (hq:0<=q/\q+4*s.sz<=999999990:=by exact ob) (hln:ln.length<=4294967296:=by exact ob) (ih:∀(b2:Zh) (c:Nat) (ra:Hd) (rb:Hd) (rc:Hd) (rd:Hd) (re:Hd) (rf:Hd) (M:Zc) (mm:Nat) (p:Int),(b2.sz<s.sz)->(YI n.decls M p)->(0<=Ys n M.vars b2)->(mm<=M.vars.length)->(M.vars.length+4*b2.sz<=1000000000)->(0<=p/\p+4*b2.sz<=999999990)->Za 144 [.p c 0,X3 n,YC b2,.i mm] [.obj c [.h ra,.h rb,.h rc,.h rd,.h re,.h rf,Ze ln],rV ra M.vars,rV rb M.own,rV rc M.par,rV rd M.con,rV re M.fst,rV rf M.tok] (fun r h=>(∃(wa:Hd) (wb:Hd) (wc:Hd) (wd:Hd) (we:Hd) (wf:Hd) (M':Zc),r=.b true/\h=[.obj c [.h wa,.h wb,.h wc,.h wd,.h we,.h wf,Ze ln],rV wa M'.vars,rV wb M'.own,rV wc M'.par,rV wd M'.con,rV we M'.fst,rV wf M'.tok]/\WL n ln M mm b2=some M')∨(r=.b false/\h=[]/\WL n ln M mm b2=none))):Za 200 [.p b 0,X3 n,XO s] [.obj b [.h ga,.h gb,.h gc,.h gd,.h ge,.h gf,Ze ln],rV ga L.vars,rV gb L.own,rV gc L.par,rV gd L.con,rV ge L.fst,rV gf L.tok] (fun r h=>(∃(wa:Hd) (wb:Hd) (wc:Hd) (wd:Hd) (we:Hd) (wf:Hd) (L':Zc),r=.b true/\h=[.obj b [.h wa,.h wb,.h wc,.h wd,.h we,.h wf,Ze ln],rV wa L'.vars,rV wb L'.own,rV wc L'.par,rV wd L'.con,rV we L'.fst,rV wf L'.tok]/\UW n ln L s=some L')∨(r=.b false/\h=[]/\UW n ln L s=none)):=by
 obtain ⟨e1,e2,e3,e4,e5⟩:=hk.len
 have Ws:=hn.decls
 have hkz:=Ql s
 have haz:=A1 s
 have hf:=B6 ht
 refine Zx 89 Tryz.func200 (ar (iA (W8 n) fun b1=>iA (WO s) fun b2=>Z0 (aD 8 (Y7 2 8 [0,1,2,3,4,5] [1,2,0] (ZF 6 (U9 6 [3] [] [] [rV ga L.vars] (Zbr n L.vars s ob ob) A3 (gS (gL (v:=ga) 0 (gS gN))) (Vk VQ) ?_))))))
 rintro _ _ ⟨rfl,rfl⟩
 refine Zm 0 1 [7] (de (Zf (Yq (Vq [1] (ab 0 (ar (Yt (s.op==14) Zr (fun Z5=>?_) (fun Z5=>?_))))))))
 ·obtain ⟨x,hxa⟩:=hf.one om
  have ha:s.args[0]? = some x:=by rw [hxa];rfl
  have hx:=hf.args x (by rw [hxa];simp)
  have hgx:=J1 ha
  have hal:=(XZ.1 ha).1
  obtain ⟨xo,hxo⟩:=Zv L.own x.toNat om
  have hgo:=Vo hxo
  have hob:=hk.bd xo (YA hxo)
  have hon:=hk.nn xo (YA hxo)
  refine ZB 3 [1] (Zg (Zq none 0 1 (Yc ha)) (Z1 1 (ZC [3,0,2,2,2,2,2] (Hq b ga gb gc gd ge gf L ln x (hlk:=hk.len) (hd:=hk.down)) (Z0 (aE 21 (Y7 15 21 [0,1,2,3,4,5] [0,7] (dx 6 (Zq none 0 1 (Yc ha)) (Y7 7 14 [7,8,9,10,11,12,13] [0,7] (dx 14 (Zq none 0 1 (Yc ha)) (Zm 5 6 [15] (dx 16 (XB 2 gb L.own x x.toNat (hq:=rfl)) (Qh 17 (WQ 2 gb L.own x.toNat xo hxo) (da 18 ((xo+1)) ((xo)+(1)) (dx 19 (XB 2 gb L.own x x.toNat (hq:=rfl)) (ZF 20 (Jn 20 2 [] [] gb L.own x.toNat (xo+1) (de (Yq (Yt (!XV L ln x) (p:=¬(XV L ln x=true)) (Yi Iff.rfl) (fun Zd=>?_) (fun Zd=>?_))))))))))))))))))))
  ·have hP:=(HY (n:=n) (ln:=ln) (L:=L) Z5 hgx).trans (Z2c Zd)
   exact ar (Z7 (r1 [] (.inr ⟨rfl,rfl,(by rw [Uf,hP];first|rfl|exact UR (by assumption)|exact US (by assumption) (by assumption)|exact UT (by assumption))⟩)))
  have hP:=(HY (n:=n) (ln:=ln) (L:=L) Z5 hgx).trans (Z2d Zd hgo)
  obtain ⟨kx,hxv⟩:=An hn hk hq.1 hf hP
  refine ak (Ym 2 [7] (ZC [] (KL s.op) (W7 [0,5,7] [(80,.b (Xx s.op&&((ZQ n L.vars s) != 0)))] (fun gz=>gz) ?_ ?_)))
  ·refine Z1 1 (ib (b:=Xx s.op) 77 (fun Zb=>?_) (fun Zb=>?_))
   ·exact Z0 (Y1 9 (Zp ((ZQ n L.vars s) != 0) Zb fl))
   exact Z0 (Y1 9 (Zp false Zb fl))
  refine ac (Xx s.op&&((ZQ n L.vars s) != 0)) (p:=(Xx s.op=true)/\((ZQ n L.vars s)≠0)) (Yy Iff.rfl ZO) (fun Zw=>?_) (fun Zw=>?_)
  ·refine az (Z1 2 (ic [1,1,0,0,0,0,0] (QJ b ga gb gc gd ge gf (Zc.mk L.vars (L.own.set x.toNat (xo+1)) L.par L.con L.fst L.tok) ln (ZQ n L.vars s) 1 (-1) (hlb:=(by rw [hxv];omega)) (hlk:=kx.len)) ?_))
   rintro _ _ ⟨wa1,wb1,wc1,wd1,we1,wf1,rfl⟩
   exact ie (ar (Z7 (r1 [0,0,0,0,0,0,0] (.inl ⟨wa1,wb1,wc1,wd1,we1,wf1,((Zc.mk L.vars (L.own.set x.toNat (xo+1)) L.par L.con L.fst L.tok).grow (ZQ n L.vars s) 1 (-1)),rfl,rfl,(by rw [Uf,hP];first|rfl|exact UR (by assumption)|exact US (by assumption) (by assumption)|exact UT (by assumption))⟩))))
  refine ZB 2 [7] (ZC [] (KL s.op) (ie (ac (Xx s.op) Iff.rfl (fun Yd=>?_) (fun Yd=>?_))))
  ·refine az (Z1 1 (ic [1,1,0,0,0,0,0] (QJ b ga gb gc gd ge gf (Zc.mk L.vars (L.own.set x.toNat (xo+1)) L.par L.con L.fst L.tok) ln 0 0 (-1) (hlb:=(by rw [hxv];omega)) (hlk:=kx.len)) ?_))
   rintro _ _ ⟨wa2,wb2,wc2,wd2,we2,wf2,rfl⟩
   exact ie (ar (Z7 (r1 [0,0,0,0,0,0,0] (.inl ⟨wa2,wb2,wc2,wd2,we2,wf2,((Zc.mk L.vars (L.own.set x.toNat (xo+1)) L.par L.con L.fst L.tok).grow 0 0 (-1)),rfl,rfl,(by rw [Uf,hP];first|rfl|exact UR (by assumption)|exact US (by assumption) (by assumption)|exact UT (by assumption))⟩))))
  exact ak (ar (Z7 (r1 [1,1,0,0,0,0,0] (.inl ⟨ga,gb,gc,gd,ge,gf,(Zc.mk L.vars (L.own.set x.toNat (xo+1)) L.par L.con L.fst L.tok),rfl,rfl,(by rw [Uf,hP];first|rfl|exact UR (by assumption)|exact US (by assumption) (by assumption)|exact UT (by assumption))⟩) (eq:=(rc (rv (xs:=L.vars) ob (rv (xs:=(L.own.set x.toNat (xo+1))) ob (rv (xs:=L.par) ob (rv (xs:=L.con) ob (rv (xs:=L.fst) ob (rv (xs:=L.tok) ob rz)))))))))))
 refine ar (Yt (s.op==15) Zr (fun Xm=>?_) (fun Xm=>?_))
 ·obtain ⟨x,hxa⟩:=hf.one om
  have ha:s.args[0]? = some x:=by rw [hxa];rfl
  have hx:=hf.args x (by rw [hxa];simp)
  have hgx:=J1 ha
  have hal:=(XZ.1 ha).1
  refine az (Y3 3 [1] (Zg (Zq none 0 1 (Yc ha)) (Z1 1 (ic [3,0,2,2,2,2,2] (ED b ga gb gc gd ge gf L ln x (hlk:=hk.len) (hq:=(fun y hy=>⟨hk.nn y hy,by have:=hk.bd y hy;omega⟩))) ?_))))
  rintro _ _ (⟨wa3,wb3,wc3,wd3,we3,wf3,L'1,rfl,rfl,Xy⟩|⟨rfl,rfl,XE⟩)
  ·have hP:=(HZ (n:=n) (ln:=ln) (L:=L) Xm hgx).trans (Xy)
   obtain ⟨kx,hxv⟩:=An hn hk hq.1 hf hP
   refine Z0 (Yj (XC (ak (Ym 2 [7] (ZC [] (KL s.op) (W7 [0,5,7] [(80,.b (Xx s.op&&((ZQ n L.vars s) != 0)))] (fun gz=>gz) ?_ ?_))))))
   ·refine Z1 1 (ib (b:=Xx s.op) 77 (fun ZD=>?_) (fun ZD=>?_))
    ·exact Z0 (Y1 9 (Zp ((ZQ n L.vars s) != 0) ZD fl))
    exact Z0 (Y1 9 (Zp false ZD fl))
   refine ac (Xx s.op&&((ZQ n L.vars s) != 0)) (p:=(Xx s.op=true)/\((ZQ n L.vars s)≠0)) (Yy Iff.rfl ZO) (fun Wc=>?_) (fun Wc=>?_)
   ·refine az (Z1 2 (ic [0,0,0,0,0,0,0] (QJ b wa3 wb3 wc3 wd3 we3 wf3 L'1 ln (ZQ n L.vars s) 1 (-1) (hlb:=(by rw [hxv];omega)) (hlk:=kx.len)) ?_))
    rintro _ _ ⟨wa4,wb4,wc4,wd4,we4,wf4,rfl⟩
    exact ie (ar (Z7 (r1 [0,0,0,0,0,0,0] (.inl ⟨wa4,wb4,wc4,wd4,we4,wf4,(L'1.grow (ZQ n L.vars s) 1 (-1)),rfl,rfl,(by rw [Uf,hP];first|rfl|exact UR (by assumption)|exact US (by assumption) (by assumption)|exact UT (by assumption))⟩))))
   refine ZB 2 [7] (ZC [] (KL s.op) (ie (ac (Xx s.op) Iff.rfl (fun UU=>?_) (fun UU=>?_))))
   ·refine az (Z1 1 (ic [0,0,0,0,0,0,0] (QJ b wa3 wb3 wc3 wd3 we3 wf3 L'1 ln 0 0 (-1) (hlb:=(by rw [hxv];omega)) (hlk:=kx.len)) ?_))
    rintro _ _ ⟨wa5,wb5,wc5,wd5,we5,wf5,rfl⟩
    exact ie (ar (Z7 (r1 [0,0,0,0,0,0,0] (.inl ⟨wa5,wb5,wc5,wd5,we5,wf5,(L'1.grow 0 0 (-1)),rfl,rfl,(by rw [Uf,hP];first|rfl|exact UR (by assumption)|exact US (by assumption) (by assumption)|exact UT (by assumption))⟩))))
   exact ak (ar (Z7 (r1 [0,0,0,0,0,0,0] (.inl ⟨wa3,wb3,wc3,wd3,we3,wf3,L'1,rfl,rfl,(by rw [Uf,hP];first|rfl|exact UR (by assumption)|exact US (by assumption) (by assumption)|exact UT (by assumption))⟩))))
  have hP:=(HZ (n:=n) (ln:=ln) (L:=L) Xm hgx).trans (XE)
  exact Z0 (Yj (W4 (ar (Z7 (r1 [] (.inr ⟨rfl,rfl,(by rw [Uf,hP];first|rfl|exact UR (by assumption)|exact US (by assumption) (by assumption)|exact UT (by assumption))⟩))))))
 refine Yj (Tz (fun fz gz F h=>F=sF [0,4,5,7,17] fz [(58,.b ((s.op==16)||(s.op==17)))]/\h=gz) ?_ ?_)
 ·refine ac (s.op==16) Zr (fun Vy=>?_) (fun Vy=>?_)
  ·exact ak (Xk ⟨rfl,rfl⟩ (Y1 9 (fc (x:=.b (s.op==16)) (lb (by first|rfl|(rw [Z6 Vy])|(rw [Z4 Vy])|(simp [Vy];done)|(rw [Wk];simp [Vy];done)|omega)) fl)))
  exact Qj (Xk ⟨rfl,rfl⟩ (Y1 9 (fc (x:=.b (s.op==17)) (lb (by first|rfl|(rw [Z6 Vy])|(rw [Z4 Vy])|(simp [Vy];done)|(rw [Wk];simp [Vy];done)|omega)) fl)))
 rintro F h ⟨rfl,rfl⟩
 refine ac ((s.op==16)||(s.op==17)) (p:=(s.op=16)∨(s.op=17)) (Yg Zr Zr) (fun T3=>?_) (fun T3=>?_)
 ·obtain ⟨x,hxa⟩:=hf.one om
  have ha:s.args[0]? = some x:=by rw [hxa];rfl
  have hx:=hf.args x (by rw [hxa];simp)
  have hgx:=J1 ha
  have hal:=(XZ.1 ha).1
  refine az (Y3 3 [2,1] (ic [3,0,2,2,2,2,2] (Z7c b ga gb gc gd ge gf n s L ln q x) ?_))
  rintro _ _ (⟨wa6,wb6,wc6,wd6,we6,wf6,L'2,rfl,rfl,UV⟩|⟨rfl,rfl,Td⟩)
  ·have hP:=(I0 (n:=n) (ln:=ln) (L:=L) T3 hgx).trans (UV)
   obtain ⟨kx,hxv⟩:=An hn hk hq.1 hf hP
   refine Z0 (Yj (XC (ak (Ym 2 [7] (ZC [] (KL s.op) (W7 [0,5,7] [(80,.b (Xx s.op&&((ZQ n L.vars s) != 0)))] (fun gz=>gz) ?_ ?_))))))
   ·refine Z1 1 (ib (b:=Xx s.op) 77 (fun Yn=>?_) (fun Yn=>?_))
    ·exact Z0 (Y1 9 (Zp ((ZQ n L.vars s) != 0) Yn fl))
    exact Z0 (Y1 9 (Zp false Yn fl))
   refine ac (Xx s.op&&((ZQ n L.vars s) != 0)) (p:=(Xx s.op=true)/\((ZQ n L.vars s)≠0)) (Yy Iff.rfl ZO) (fun To=>?_) (fun To=>?_)
   ·refine az (Z1 2 (ic [0,0,0,0,0,0,0] (QJ b wa6 wb6 wc6 wd6 we6 wf6 L'2 ln (ZQ n L.vars s) 1 (-1) (hlb:=(by rw [hxv];omega)) (hlk:=kx.len)) ?_))
    rintro _ _ ⟨wa7,wb7,wc7,wd7,we7,wf7,rfl⟩
    exact ie (ar (Z7 (r1 [0,0,0,0,0,0,0] (.inl ⟨wa7,wb7,wc7,wd7,we7,wf7,(L'2.grow (ZQ n L.vars s) 1 (-1)),rfl,rfl,(by rw [Uf,hP];first|rfl|exact UR (by assumption)|exact US (by assumption) (by assumption)|exact UT (by assumption))⟩))))
   refine ZB 2 [7] (ZC [] (KL s.op) (ie (ac (Xx s.op) Iff.rfl (fun Jv=>?_) (fun Jv=>?_))))
   ·refine az (Z1 1 (ic [0,0,0,0,0,0,0] (QJ b wa6 wb6 wc6 wd6 we6 wf6 L'2 ln 0 0 (-1) (hlb:=(by rw [hxv];omega)) (hlk:=kx.len)) ?_))
    rintro _ _ ⟨wa8,wb8,wc8,wd8,we8,wf8,rfl⟩
    exact ie (ar (Z7 (r1 [0,0,0,0,0,0,0] (.inl ⟨wa8,wb8,wc8,wd8,we8,wf8,(L'2.grow 0 0 (-1)),rfl,rfl,(by rw [Uf,hP];first|rfl|exact UR (by assumption)|exact US (by assumption) (by assumption)|exact UT (by assumption))⟩))))
   exact ak (ar (Z7 (r1 [0,0,0,0,0,0,0] (.inl ⟨wa6,wb6,wc6,wd6,we6,wf6,L'2,rfl,rfl,(by rw [Uf,hP];first|rfl|exact UR (by assumption)|exact US (by assumption) (by assumption)|exact UT (by assumption))⟩))))
  have hP:=(I0 (n:=n) (ln:=ln) (L:=L) T3 hgx).trans (Td)
  exact Z0 (Yj (W4 (ar (Z7 (r1 [] (.inr ⟨rfl,rfl,(by rw [Uf,hP];first|rfl|exact UR (by assumption)|exact US (by assumption) (by assumption)|exact UT (by assumption))⟩))))))
 refine Yj (Tz (fun fz gz F h=>F=sF [0,4,5,7] fz [(65,.b ((s.op==7)||(s.op==8)))]/\h=gz) ?_ ?_)
 ·refine ac (s.op==7) Zr (fun Tp=>?_) (fun Tp=>?_)
  ·exact ak (Xk ⟨rfl,rfl⟩ (Y1 9 (fc (x:=.b (s.op==7)) (lb (by first|rfl|(rw [Z6 Tp])|(rw [Z4 Tp])|(simp [Tp];done)|(rw [Wk];simp [Tp];done)|omega)) fl)))
  exact Qj (Xk ⟨rfl,rfl⟩ (Y1 9 (fc (x:=.b (s.op==8)) (lb (by first|rfl|(rw [Z6 Tp])|(rw [Z4 Tp])|(simp [Tp];done)|(rw [Wk];simp [Tp];done)|omega)) fl)))
 rintro F h ⟨rfl,rfl⟩
 refine ac ((s.op==7)||(s.op==8)) (p:=(s.op=7)∨(s.op=8)) (Yg Zr Zr) (fun K6=>?_) (fun K6=>?_)
 ·refine az (Y3 3 [2,1] (ic [3,0,2,2,2,2,2] (Z79 b ga gb gc gd ge gf n s L ln q (ih:=ob)) ?_))
  rintro _ _ (⟨wa9,wb9,wc9,wd9,we9,wf9,L'3,rfl,rfl,Jw⟩|⟨rfl,rfl,Ab⟩)
  ·have hP:=(EU (n:=n) (ln:=ln) (L:=L) K6).trans (Jw)
   obtain ⟨kx,hxv⟩:=An hn hk hq.1 hf hP
   refine Z0 (Yj (XC (ak (Ym 2 [7] (ZC [] (KL s.op) (W7 [0,5,7] [(80,.b (Xx s.op&&((ZQ n L.vars s) != 0)))] (fun gz=>gz) ?_ ?_))))))
   ·refine Z1 1 (ib (b:=Xx s.op) 77 (fun Xd=>?_) (fun Xd=>?_))
    ·exact Z0 (Y1 9 (Zp ((ZQ n L.vars s) != 0) Xd fl))
    exact Z0 (Y1 9 (Zp false Xd fl))
   refine ac (Xx s.op&&((ZQ n L.vars s) != 0)) (p:=(Xx s.op=true)/\((ZQ n L.vars s)≠0)) (Yy Iff.rfl ZO) (fun AS=>?_) (fun AS=>?_)
   ·refine az (Z1 2 (ic [0,0,0,0,0,0,0] (QJ b wa9 wb9 wc9 wd9 we9 wf9 L'3 ln (ZQ n L.vars s) 1 (-1) (hlb:=(by rw [hxv];omega)) (hlk:=kx.len)) ?_))
    rintro _ _ ⟨wa10,wb10,wc10,wd10,we10,wf10,rfl⟩
    exact ie (ar (Z7 (r1 [0,0,0,0,0,0,0] (.inl ⟨wa10,wb10,wc10,wd10,we10,wf10,(L'3.grow (ZQ n L.vars s) 1 (-1)),rfl,rfl,(by rw [Uf,hP];first|rfl|exact UR (by assumption)|exact US (by assumption) (by assumption)|exact UT (by assumption))⟩))))
   refine ZB 2 [7] (ZC [] (KL s.op) (ie (ac (Xx s.op) Iff.rfl (fun H6=>?_) (fun H6=>?_))))
   ·refine az (Z1 1 (ic [0,0,0,0,0,0,0] (QJ b wa9 wb9 wc9 wd9 we9 wf9 L'3 ln 0 0 (-1) (hlb:=(by rw [hxv];omega)) (hlk:=kx.len)) ?_))
    rintro _ _ ⟨wa11,wb11,wc11,wd11,we11,wf11,rfl⟩
    exact ie (ar (Z7 (r1 [0,0,0,0,0,0,0] (.inl ⟨wa11,wb11,wc11,wd11,we11,wf11,(L'3.grow 0 0 (-1)),rfl,rfl,(by rw [Uf,hP];first|rfl|exact UR (by assumption)|exact US (by assumption) (by assumption)|exact UT (by assumption))⟩))))
   exact ak (ar (Z7 (r1 [0,0,0,0,0,0,0] (.inl ⟨wa9,wb9,wc9,wd9,we9,wf9,L'3,rfl,rfl,(by rw [Uf,hP];first|rfl|exact UR (by assumption)|exact US (by assumption) (by assumption)|exact UT (by assumption))⟩))))
  have hP:=(EU (n:=n) (ln:=ln) (L:=L) K6).trans (Ab)
  exact Z0 (Yj (W4 (ar (Z7 (r1 [] (.inr ⟨rfl,rfl,(by rw [Uf,hP];first|rfl|exact UR (by assumption)|exact US (by assumption) (by assumption)|exact UT (by assumption))⟩))))))
 refine az (Y3 3 [2,1] (ic [3,0,2,2,2,2,2] (Z7b b ga gb gc gd ge gf n s L ln q (hnum:=hf.num) (hargs:=hf.args) (hinto:=(fun q=>(hf.into om).2))) ?_))
 rintro _ _ (⟨wa12,wb12,wc12,wd12,we12,wf12,L'4,rfl,rfl,BI⟩|⟨rfl,rfl,BJ⟩)
 ·have hP:=(Pd (n:=n) (ln:=ln) (L:=L) Z5 Xm T3 K6).trans (BI)
  obtain ⟨kx,hxv⟩:=An hn hk hq.1 hf hP
  refine Z0 (Yj (XC (ak (Ym 2 [7] (ZC [] (KL s.op) (W7 [0,5,7] [(80,.b (Xx s.op&&((ZQ n L.vars s) != 0)))] (fun gz=>gz) ?_ ?_))))))
  ·refine Z1 1 (ib (b:=Xx s.op) 77 (fun WC=>?_) (fun WC=>?_))
   ·exact Z0 (Y1 9 (Zp ((ZQ n L.vars s) != 0) WC fl))
   exact Z0 (Y1 9 (Zp false WC fl))
  refine ac (Xx s.op&&((ZQ n L.vars s) != 0)) (p:=(Xx s.op=true)/\((ZQ n L.vars s)≠0)) (Yy Iff.rfl ZO) (fun H7=>?_) (fun H7=>?_)
  ·refine az (Z1 2 (ic [0,0,0,0,0,0,0] (QJ b wa12 wb12 wc12 wd12 we12 wf12 L'4 ln (ZQ n L.vars s) 1 (-1) (hlb:=(by rw [hxv];omega)) (hlk:=kx.len)) ?_))
   rintro _ _ ⟨wa13,wb13,wc13,wd13,we13,wf13,rfl⟩
   exact ie (ar (Z7 (r1 [0,0,0,0,0,0,0] (.inl ⟨wa13,wb13,wc13,wd13,we13,wf13,(L'4.grow (ZQ n L.vars s) 1 (-1)),rfl,rfl,(by rw [Uf,hP];first|rfl|exact UR (by assumption)|exact US (by assumption) (by assumption)|exact UT (by assumption))⟩))))
  refine ZB 2 [7] (ZC [] (KL s.op) (ie (ac (Xx s.op) Iff.rfl (fun KD=>?_) (fun KD=>?_))))
  ·refine az (Z1 1 (ic [0,0,0,0,0,0,0] (QJ b wa12 wb12 wc12 wd12 we12 wf12 L'4 ln 0 0 (-1) (hlb:=(by rw [hxv];omega)) (hlk:=kx.len)) ?_))
   rintro _ _ ⟨wa14,wb14,wc14,wd14,we14,wf14,rfl⟩
   exact ie (ar (Z7 (r1 [0,0,0,0,0,0,0] (.inl ⟨wa14,wb14,wc14,wd14,we14,wf14,(L'4.grow 0 0 (-1)),rfl,rfl,(by rw [Uf,hP];first|rfl|exact UR (by assumption)|exact US (by assumption) (by assumption)|exact UT (by assumption))⟩))))
  exact ak (ar (Z7 (r1 [0,0,0,0,0,0,0] (.inl ⟨wa12,wb12,wc12,wd12,we12,wf12,L'4,rfl,rfl,(by rw [Uf,hP];first|rfl|exact UR (by assumption)|exact US (by assumption) (by assumption)|exact UT (by assumption))⟩))))
 have hP:=(Pd (n:=n) (ln:=ln) (L:=L) Z5 Xm T3 K6).trans (BJ)
 exact Z0 (Yj (W4 (ar (Z7 (r1 [] (.inr ⟨rfl,rfl,(by rw [Uf,hP];first|rfl|exact UR (by assumption)|exact US (by assumption) (by assumption)|exact UT (by assumption))⟩))))))
theorem Z77 (c:Nat) (ga:Hd) (gb:Hd) (gc:Hd) (gd:Hd) (ge:Hd) (gf:Hd) (n:Zl) (b:Zh) (L:Zc) (ln:LI) (q:Int) (mm:Nat) (hn:YY n) (hk:YI n.decls L q) (ht:0<=Ys n L.vars b) (hm:mm<=L.vars.length) (hb:L.vars.length+4*b.sz<=1000000000) (hq:0<=q/\q+4*b.sz<=999999990) (hln:ln.length<=4294967296) (ih:∀(s2:Z8) (c:Nat) (ra:Hd) (rb:Hd) (rc:Hd) (rd:Hd) (re:Hd) (rf:Hd) (M:Zc) (p:Int),(s2.sz<b.sz)->(YI n.decls M p)->(0<=ZQ n M.vars s2)->(M.vars.length+4*s2.sz<=1000000000)->(0<=p/\p+4*s2.sz<=999999990)->Za 200 [.p c 0,X3 n,XO s2] [.obj c [.h ra,.h rb,.h rc,.h rd,.h re,.h rf,Ze ln],rV ra M.vars,rV rb M.own,rV rc M.par,rV rd M.con,rV re M.fst,rV rf M.tok] (fun r h=>(∃(wa:Hd) (wb:Hd) (wc:Hd) (wd:Hd) (we:Hd) (wf:Hd) (M':Zc),r=.b true/\h=[.obj c [.h wa,.h wb,.h wc,.h wd,.h we,.h wf,Ze ln],rV wa M'.vars,rV wb M'.own,rV wc M'.par,rV wd M'.con,rV we M'.fst,rV wf M'.tok]/\UW n ln M s2=some M')∨(r=.b false/\h=[]/\UW n ln M s2=none))):Za 144 [.p c 0,X3 n,YC b,.i mm] [.obj c [.h ga,.h gb,.h gc,.h gd,.h ge,.h gf,Ze ln],rV ga L.vars,rV gb L.own,rV gc L.par,rV gd L.con,rV ge L.fst,rV gf L.tok] (fun r h=>(∃(wa:Hd) (wb:Hd) (wc:Hd) (wd:Hd) (we:Hd) (wf:Hd) (L':Zc),r=.b true/\h=[.obj c [.h wa,.h wb,.h wc,.h wd,.h we,.h wf,Ze ln],rV wa L'.vars,rV wb L'.own,rV wc L'.par,rV wd L'.con,rV we L'.fst,rV wf L'.tok]/\WL n ln L mm b=some L')∨(r=.b false/\h=[]/\WL n ln L mm b=none)):=by
 have hbz:=b.sz_eq
 obtain ⟨vs,rt,hvs,hres,hrt⟩:=Bp ht
 have hri:=QX hres
 have YD:=JL b
 refine Zx 45 Tryz.func144 (ar (iA (W8 n) fun b1=>iA (Vz b) fun b2=>?_))
 refine Z0 (Yj (ab 0 (ZR (fun fz gz m F h=>∃(k:Nat) (q2:Int) (L2:Zc) (ka:Hd) (kb:Hd) (kc:Hd) (kd:Hd) (ke:Hd) (kf:Hd),(k<=b.steps.length)/\(YI n.decls L2 q2)/\(0<=q2/\q2+4*Y6 (b.steps.drop k)<=999999990)/\(L2.vars.length+4*Y6 (b.steps.drop k)<=1000000000)/\(Xr n (b.steps.drop k) L2.vars=some vs)/\(V0 n ln L2 (b.steps.drop k)=V0 n ln L b.steps)/\(L.vars.length<=L2.vars.length)/\F=sF [0,3,5,6] fz [(9,.i k)]/\h=[Zy gz 0,Zy gz 1,.obj c [.h ka,.h kb,.h kc,.h kd,.h ke,.h kf,Ze ln],rV ka L2.vars,rV kb L2.own,rV kc L2.par,rV kd L2.con,rV ke L2.fst,rV kf L2.tok]/\m=b.steps.length-k) _ _ _ ⟨0,q,L,ga,gb,gc,gd,ge,gf,ob,hk,(by rw [TM];omega),(by rw [TM];omega),hvs,rfl,om,rfl,rfl,rfl⟩ (Y1 9 (ZT fl)) ?_)))
 rintro m F h ⟨k,q2,L2,ka,kb,kc,kd,ke,kf,ZX,Z9,Zz,Y5,XD,KW,G8,rfl,rfl,rfl⟩
 refine Ym 3 [0] (iw (T2 b.steps) (ZN ((k:Int)<(b.steps.length:Int)) (fun Z5=>?_) (fun Z5=>?_)))
 ·obtain ⟨s1,hs1⟩:=Zv b.steps k om
  have hss:=Df hs1
  have hdr:=ZH hs1
  have hz:Y6 (b.steps.drop k)=s1.sz+Y6 (b.steps.drop (k+1)):=by rw [hdr,Y6]
  rw [hdr] at XD KW
  obtain ⟨g1,g2⟩:=C4 XD
  refine ak (aq (ab 1 (aD 9 (Y7 4 9 [0,1,2,3,4] [1,0] (dx 5 (Zq none (k:Int) 5 (U2 hs1)) (Zm 2 3 [6] (ZF 7 (dc 7 [2,2,2,2,2,2,2] [] [] (ih s1 c ka kb kc kd ke kf L2 q2 ob Z9 g1 om om) ?_))))))))
  rintro _ _ (⟨wa1,wb1,wc1,wd1,we1,wf1,M'1,rfl,rfl,Ya⟩|⟨rfl,rfl,YT⟩)
  ·have hP:=Ya
   have kx:=IM hn Z9 Zz.1 g1 hP
   exact Zm 0 1 [8] (de (XC (ak (az (Z1 1 (ZK k (Z0 (ZJ ⟨k+1,(q2+4*s1.sz),M'1,wa1,wb1,wc1,wd1,we1,wf1,ob,kx.1,om,(by rw [kx.2];have:=C1 n L2.vars s1;omega),(by rw [kx.2];exact g2),(by rw [<-KW,V0,hP];rfl),(by rw [kx.2];have:=C1 n L2.vars s1;omega),rfl,rfl,rfl⟩ (wk [7,7,0,0,0,0,0,0,0] (ZL k fl))))))))))
  have hP:=YT
  exact Zm 0 1 [8] (de (W4 (ar (Z7 (r1 [] (.inr ⟨rfl,rfl,(by rw [Ku,<-KW,V0,hP];rfl)⟩))))))
 rw [YR om] at XD KW
 have hvv:L2.vars=vs:=by rw [Xr] at XD;exact Ti XD
 have hB:WL n ln L mm b=VH mm b.result L2:=by rw [Ku,<-KW,V0];rfl
 obtain ⟨xr,hxr⟩:=Zv L2.vars b.result.toNat (by rw [hvv];omega)
 have hgr:=Vo hxr
 have hrl:0<=b.result/\b.result<L2.vars.length:=by rw [hvv];omega
 rw [Xr] at XD
 refine ax 0 (aq (aD 16 (Y7 10 16 [0,1,2,3,4,5] [2,0] (dx 6 (XB 3 ka L2.vars b.result b.result.toNat (hq:=rfl)) (Qh 7 (WQ 3 ka L2.vars b.result.toNat xr hxr) (Zm 6 8 [8,9] (db (b:=(xr != 0)) 35 (fun Zb=>?_) (fun Zb=>?_))))))))
 ·have Xy:xr≠0:=(ZO).1 Zb
  refine Y7 3 6 [10,11,12] [0] (ZF 13 (dc 13 [2,2,2,2,2,2,2] [] [] (ED c ka kb kc kd ke kf L2 ln b.result (hlk:=Z9.len) (hq:=(fun y hy=>⟨Z9.nn y hy,by have:=Z9.bd y hy;omega⟩))) ?_))
  rintro _ _ (⟨wa2,wb2,wc2,wd2,we2,wf2,L'1,rfl,rfl,XE⟩|⟨rfl,rfl,VO⟩)
  ·have hE:=hB.trans (Z33 hgr (by assumption) XE)
   have kx:=Z9.take XE
   have hxv:L'1.vars.length=L2.vars.length:=by rw [(Qp XE).2.1]
   refine Zm 0 2 [14,15] (de (XC (ak (ZM 2 (ic [0,0,0,0,0,0,0] (Hr c wa2 wb2 wc2 wd2 we2 wf2 L'1 ln mm (hlk:=(by first|exact kx.len|exact Z9.len)) (hlb:=om) (hm:=om)) ?_)))))
   rintro _ _ (⟨wa3,wb3,wc3,wd3,we3,wf3,L'2,rfl,rfl,Up⟩|⟨rfl,rfl,UV⟩)
   ·exact Z7 (r1 [0,0,0,0,0,0,0] (.inl ⟨wa3,wb3,wc3,wd3,we3,wf3,L'2,rfl,rfl,(by first|exact hE|(rw [hE];exact Up)|(rw [hB,Cy hgr (by assumption)];exact Up))⟩))
   exact Z7 (r1 [] (.inr ⟨rfl,rfl,(by first|exact hE|(rw [hE];exact UV)|(rw [hB,Cy hgr (by assumption)];exact UV))⟩))
  have hE:=hB.trans (Z32 hgr (by assumption) VO)
  exact Zm 0 2 [14,15] (de (W4 (ar (Z7 (r1 [] (.inr ⟨rfl,rfl,(by first|exact hE|(rw [hE];exact VO)|(rw [hB,Cy hgr (by assumption)];exact VO))⟩))))))
 have Td:¬(xr≠0):=ZZ ZO Zb
 refine Zm 0 6 [10,11,12,13,14,15] (de (XC (ak (ZM 2 (ic [2,2,2,2,2,2,2] (Hr c ka kb kc kd ke kf L2 ln mm (hlk:=(by first|exact kx.len|exact Z9.len)) (hlb:=om) (hm:=om)) ?_)))))
 rintro _ _ (⟨wa4,wb4,wc4,wd4,we4,wf4,L'3,rfl,rfl,Qk⟩|⟨rfl,rfl,K8⟩)
 ·exact Z7 (r1 [0,0,0,0,0,0,0] (.inl ⟨wa4,wb4,wc4,wd4,we4,wf4,L'3,rfl,rfl,(by first|exact hE|(rw [hE];exact Qk)|(rw [hB,Cy hgr (by assumption)];exact Qk))⟩))
 exact Z7 (r1 [] (.inr ⟨rfl,rfl,(by first|exact hE|(rw [hE];exact K8)|(rw [hB,Cy hgr (by assumption)];exact K8))⟩))
theorem Z78 (n:Zl) (ln:LI) (hn:YY n) (hln:ln.length<=4294967296) (m:Nat):∀(b2:Zh) (c:Nat) (ra:Hd) (rb:Hd) (rc:Hd) (rd:Hd) (re:Hd) (rf:Hd) (M:Zc) (mm:Nat) (p:Int),(b2.sz<m+1)->(YI n.decls M p)->(0<=Ys n M.vars b2)->(mm<=M.vars.length)->(M.vars.length+4*b2.sz<=1000000000)->(0<=p/\p+4*b2.sz<=999999990)->Za 144 [.p c 0,X3 n,YC b2,.i mm] [.obj c [.h ra,.h rb,.h rc,.h rd,.h re,.h rf,Ze ln],rV ra M.vars,rV rb M.own,rV rc M.par,rV rd M.con,rV re M.fst,rV rf M.tok] (fun r h=>(∃(wa:Hd) (wb:Hd) (wc:Hd) (wd:Hd) (we:Hd) (wf:Hd) (M':Zc),r=.b true/\h=[.obj c [.h wa,.h wb,.h wc,.h wd,.h we,.h wf,Ze ln],rV wa M'.vars,rV wb M'.own,rV wc M'.par,rV wd M'.con,rV we M'.fst,rV wf M'.tok]/\WL n ln M mm b2=some M')∨(r=.b false/\h=[]/\WL n ln M mm b2=none)):=by
 induction m with
 | zero=>intro b c ga gb gc gd ge gf L mm q h;have:=b.sz_pos;omega
 | succ m ih=>
  intro b c ga gb gc gd ge gf L mm q h1 hk ht hm hb hp
  exact Z77 c ga gb gc gd ge gf n b L ln q mm hn hk ht hm hb hp hln fun s c ga gb gc gd ge gf L q h2 hk ht hb hp=>Z7d c ga gb gc gd ge gf n s L ln q hn hk ht hb hp hln
   fun b2 c ga gb gc gd ge gf L mm q h3 hk ht hm hb hp=>ih b2 c ga gb gc gd ge gf L mm q om hk ht hm hb hp
theorem Z76 (c:Nat) (ra:Hd) (rb:Hd) (rc:Hd) (rd:Hd) (re:Hd) (rf:Hd) (n:Zl) (b2:Zh) (M:Zc) (ln:LI) (mm:Nat) (p:Int) (hn:YY n) (hln:ln.length<=4294967296) (hk:YI n.decls M p) (ht:0<=Ys n M.vars b2) (hm:mm<=M.vars.length) (hb:M.vars.length+4*b2.sz<=1000000000) (hp:0<=p/\p+4*b2.sz<=999999990):Za 144 [.p c 0,X3 n,YC b2,.i mm] [.obj c [.h ra,.h rb,.h rc,.h rd,.h re,.h rf,Ze ln],rV ra M.vars,rV rb M.own,rV rc M.par,rV rd M.con,rV re M.fst,rV rf M.tok] (fun r h=>(∃(wa:Hd) (wb:Hd) (wc:Hd) (wd:Hd) (we:Hd) (wf:Hd) (M':Zc),r=.b true/\h=[.obj c [.h wa,.h wb,.h wc,.h wd,.h we,.h wf,Ze ln],rV wa M'.vars,rV wb M'.own,rV wc M'.par,rV wd M'.con,rV we M'.fst,rV wf M'.tok]/\WL n ln M mm b2=some M')∨(r=.b false/\h=[]/\WL n ln M mm b2=none)):=Z78 n ln hn hln b2.sz b2 c ra rb rc rd re rf M mm p om hk ht hm hb hp
theorem Zbo (rt:YB) (hp:rt.params.length<=1000000:=by exact ob) (hl:rt.lent.length<=4294967296:=by exact ob):Za 143 [QU rt] [] (fun r h=>∃(c:Nat) (wa:Hd) (wb:Hd) (wc:Hd) (wd:Hd) (we:Hd) (wf:Hd),r=.p c 0/\h=[.obj c [.h wa,.h wb,.h wc,.h wd,.h we,.h wf,Ze rt.lent],rV wa ((Ur rt).vars),rV wb ((Ur rt).own),rV wc ((Ur rt).par),rV wd ((Ur rt).con),rV we ((Ur rt).fst),rV wf ((Ur rt).tok)]):=by
 refine Zx 45 Tryz.func143 (ar (iA (TH rt) fun b1=>Z0 (ZB 2 [0] (ic [] (At rt.lent) ?_))))
 rintro _ _ ⟨v1,rfl,rfl⟩
 refine XX 1 [(8,.agg [nl,nl,nl,nl,nl,nl,Ze rt.lent])] (iA [nl,nl,nl,nl,nl,nl,Ze rt.lent] fun b2=>?_)
 refine T4 (RJ 0 b2 [nl,nl,nl,nl,nl,nl,Ze rt.lent] [.h hN,.h hN,.h hN,.h hN,.h hN,.h hN,Ze rt.lent] (.cons (Zk.hd (v:=hN)) (.cons (Zk.hd (v:=hN)) (.cons (Zk.hd (v:=hN)) (.cons (Zk.hd (v:=hN)) (.cons (Zk.hd (v:=hN)) (.cons (Zk.hd (v:=hN)) (.cons (lr _) .nil)))))))) (T4 (Ki) (T4 (Ki) (T4 (Ki) (T4 (Ki) (T4 (Ki) (T4 (Ki) (Z0 (Yj (ab 0 (ZR (fun fz gz m F h=>∃(k:Nat) (L2:Zc) (ka:Hd) (kb:Hd) (kc:Hd) (kd:Hd) (ke:Hd) (kf:Hd),(k<=rt.params.length)/\(W9 L2)/\(L2.vars.length=k)/\(Qm rt.lent (rt.params.drop k) k L2=Ur rt)/\F=sF [1,3] fz [(4,.i k)]/\h=[.obj b2 [.h ka,.h kb,.h kc,.h kd,.h ke,.h kf,Ze rt.lent],Zy gz 8,rV ka L2.vars,rV kb L2.own,rV kc L2.par,rV kd L2.con,rV ke L2.fst,rV kf L2.tok]/\m=rt.params.length-k) _ _ _ ⟨0,(Zc.mk [] [] [] [] [] []),hN,hN,hN,hN,hN,hN,ob,⟨rfl,rfl,rfl,rfl,rfl⟩,rfl,rfl,rfl,rfl,rfl⟩ (wk [6,7,0,0,0,0,0,0] (ZT fl) (e:=(rc (rc (rv (xs:=[]) ob (rv (xs:=[]) ob (rv (xs:=[]) ob (rv (xs:=[]) ob (rv (xs:=[]) ob (rv (xs:=[]) ob rz)))))))))) ?_))))))))))
 rintro m F h ⟨k,L2,ka,kb,kc,kd,ke,kf,ZX,Z9,Zz,Y5,rfl,rfl,rfl⟩
 refine Ym 3 [1] (iw (Yk rt.params) (ZN ((k:Int)<(rt.params.length:Int)) (fun Z5=>?_) (fun Z5=>?_)))
 ·refine ak (aq (ab 1 (ZB 3 [1] ?_)))
  obtain ⟨x1,Z2⟩:=Zv rt.params k om
  refine Zg (Zq none (k:Int) 1 (Yc Z2)) (W7 [1,3,4] [(29,.b ((x1 != 0)&&(!(decide ((k:Int)∈rt.lent)))))] (fun gz=>gz) ?_ ?_)
  ·refine Z1 3 (ib (b:=(x1 != 0)) 23 (fun Zb=>?_) (fun Zb=>?_))
   ·exact Y3 3 [1] (ZC [] (IG rt.lent (k:Int)) (Z0 (Y1 8 (Zp (!(decide ((k:Int)∈rt.lent))) Zb fl))))
   exact Z0 (Y1 8 (Zp false Zb fl))
  refine ac ((x1 != 0)&&(!(decide ((k:Int)∈rt.lent)))) (p:=(x1≠0)/\(¬((k:Int)∈rt.lent))) (Yy ZO (Yi dq)) (fun Zd=>?_) (fun Zd=>?_)
  ·refine az (Y3 4 [1] (Zg (Zq none (k:Int) 1 (Yc Z2)) (Z1 1 (ic [0,1,1,1,1,1,1] (QJ b2 ka kb kc kd ke kf L2 rt.lent x1 1 (-1) (hlk:=Z9)) ?_))))
   rintro _ _ ⟨wa1,wb1,wc1,wd1,we1,wf1,rfl⟩
   exact ie (az (Z1 1 (ZK k (Z0 (ZJ ⟨k+1,(L2.grow x1 1 (-1)),wa1,wb1,wc1,wd1,we1,wf1,ob,(W9.grow Z9),(by simp [Zc.grow];omega),(by rw [ZH Z2,Qm] at Y5;first|(rw [Z6 Zd] at Y5;exact Y5)|(rw [Z4 Zd] at Y5;exact Y5)),rfl,rfl,rfl⟩ (wk [0,6,0,0,0,0,0,0] (ZL k fl)))))))
  refine az (Y3 4 [1] (Zg (Zq none (k:Int) 1 (Yc Z2)) (Z1 1 (ic [0,1,1,1,1,1,1] (QJ b2 ka kb kc kd ke kf L2 rt.lent x1 0 (-1) (hlk:=Z9)) ?_))))
  rintro _ _ ⟨wa2,wb2,wc2,wd2,we2,wf2,rfl⟩
  exact ie (az (Z1 1 (ZK k (Z0 (ZJ ⟨k+1,(L2.grow x1 0 (-1)),wa2,wb2,wc2,wd2,we2,wf2,ob,(W9.grow Z9),(by simp [Zc.grow];omega),(by rw [ZH Z2,Qm] at Y5;first|(rw [Z6 Zd] at Y5;exact Y5)|(rw [Z4 Zd] at Y5;exact Y5)),rfl,rfl,rfl⟩ (wk [0,6,0,0,0,0,0,0] (ZL k fl)))))))
 refine ax 0 (Zf ?_)
 have hNl:L2=Ur rt:=by rw [<-Y5,YR om];rfl
 exact ZG (r1 [0,1,1,1,1,1,1] ⟨b2,ka,kb,kc,kd,ke,kf,rfl,rfl⟩ (eq:=(rc (rv (xs:=L2.vars) (by rw [hNl]) (rv (xs:=L2.own) (by rw [hNl]) (rv (xs:=L2.par) (by rw [hNl]) (rv (xs:=L2.con) (by rw [hNl]) (rv (xs:=L2.fst) (by rw [hNl]) (rv (xs:=L2.tok) (by rw [hNl]) rz)))))))))
theorem Zb7 (n:Zl) (f:Nat) (rt:YB) (hn:YY n:=by exact ob) (hr:n.routines[f]? = some rt:=by exact ob) (ht:0<=Ys n rt.params rt.body:=by exact ob) (hz:rt.body.sz<=100000000:=by exact ob):Za 85 [X3 n,.i f] [] (ZP (.b (Qc n rt))):=by
 have hfl:=(XZ.1 hr).1
 have hpl:=hn.params_at hr
 have hll:=hn.lent_at hr
 obtain ⟨hk,hkv⟩:=OK n.decls rt
 refine Zx 26 Tryz.func85 (ar (iA (W8 n) fun b1=>Z0 (ZB 3 [0] (Zg (Zq none (f:Int) 5 (Um hr)) (Z1 1 (iA [nl,nl,.i 0,nl,.i 0] fun b2=>Y0 0 b2 (TH rt) (ie (ZB 1 [0] (ic [] (Zbo rt) ?_)))))))))
 rintro _ _ ⟨c1,wa1,wb1,wc1,wd1,we1,wf1,rfl,rfl⟩
 refine Z0 (ZB 6 [8,7,7] (iw (Yk rt.params) (ic [0,0,0,0,0,0,0] (Z76 c1 wa1 wb1 wc1 wd1 we1 wf1 n rt.body (Ur rt) rt.lent rt.params.length 1 ob ob hk (by rw [hkv];exact ht) (by rw [hkv];omega) (by rw [hkv];omega) ob) ?_)))
 rintro _ _ (⟨wa2,wb2,wc2,wd2,we2,wf2,M'1,rfl,rfl,Ya⟩|⟨rfl,rfl,YT⟩)
 ·have hB:=Ya
  obtain ⟨l1,l2⟩:=Z0b hn hk om (by rw [hkv];exact ht) (by rw [hkv];omega) hB
  refine Z1 2 (ic [0,0,0,0,0,0,0] (Hr c1 wa2 wb2 wc2 wd2 we2 wf2 M'1 rt.lent 0 (hlk:=l1)) ?_)
  rintro _ _ (⟨wa3,wb3,wc3,wd3,we3,wf3,L'1,rfl,rfl,Xy⟩|⟨rfl,rfl,XE⟩)
  ·exact Z7 (Zo (.b true) (lb (by rw [Qc,hB];exact (Z1m Xy).symm)))
  exact Z7 (Zo (.b false) (lb (by rw [Qc,hB];exact (Z1l XE).symm)))
 have hB:=YT
 exact Z7 (Zo (.b false) (lb (by rw [Qc,hB])))
theorem R6 (n:Zl) (hz:WI n:=by exact ob):Za 40 [X3 n] [] (ZP (.b (VX n))):=by
 have hzl:=hz.len
 refine Zx 18 Tryz.func40 (ar (iA (W8 n) fun b1=>Z0 (Ym 1 [0] (ZC [] (Zbz n) (Yt (!XT n) (p:=¬(XT n=true)) (Yi Iff.rfl) (fun Z5=>?_) (fun Z5=>?_))))))
 ·exact ar (Z7 (Zo (.b false) (lb (by first|rfl|omega|grind [VX]))))
 have hV:XT n=true:=Wr.1 Z5
 obtain ⟨hok,hall⟩:=Dp hz hV
 refine ak (Yj (ab 0 (ZR (fun fz gz m F h=>∃(k:Nat),(k<=n.routines.length)/\(QY n (n.routines.drop k)=QY n n.routines)/\F=sF [1] fz [(3,.i k)]/\h=gz/\m=n.routines.length-k) _ _ _ ⟨0,ob,ob,rfl,rfl,rfl⟩ (wk [0] (ZT fl)) ?_)))
 rintro m F h ⟨k,ZX,Z9,rfl,rfl,rfl⟩
 refine Ym 3 [0] (iw (UD n.routines) (ZN ((k:Int)<(n.routines.length:Int)) (fun Zd=>?_) (fun Zd=>?_)))
 ·obtain ⟨rt,hrt⟩:=Zv n.routines k om
  have hrm:=YA hrt
  refine ak (aq (ab 1 (ZB 2 [0] (ZC [] (Zb7 n k rt (hr:=hrt) (ht:=(hall rt hrm)) (hz:=(QR (hz.body rt hrm) om))) (Yt (!Qc n rt) (p:=¬(Qc n rt=true)) (Yi Iff.rfl) (fun Zw=>?_) (fun Zw=>?_))))))
  ·refine Zf ?_
   rw [ZH hrt] at Z9
   exact ZG (Zo (.b false) (lb (by first|rfl|omega|grind [QY,VX])))
  refine ak (az (Z1 1 (ZK k (Z0 ?_))))
  have hdr:=ZH hrt
  exact ZJ ⟨k+1,ob,(by rw [hdr] at Z9;clear hdr ;grind [QY]),rfl,rfl,rfl⟩ (wk [0] (ZL k fl))
 refine ax 0 (Zf ?_)
 try rw [YR (xs:=n.routines) (k:=k) om] at Z9
 exact ZG (Zo (.b true) (lb (by first|rfl|omega|grind [QY,VX])))
theorem Zbc (op:Int) (v:Int) :Za 180 [.i op,.i v] [] (ZP (XO (XW op v))):=by
 exact Zx 10 Tryz.func180 (ar (iA [.i 0,.i 0,.i 0,nl,nl] fun b1=>ie (ZM 2 (iL (Zi [v]) 1 1 fun v1=>iL (VG []) 0 2 fun v2=>Z1 1 (Y0 2 b1 [.i op,.i 0,.i 0,ZV [v] v1,HR [] v2] (ie (ZG (r3 [] [.agg [.i op,.i 0,.i 0,ZV [v] v1,HR [] v2]] [0] [(b1,b1)] ⟨rfl,rfl⟩ (Zk.agg (.cons li (.cons li (.cons li (.cons (Zk.sl _ (Yp Zi rfl)) (.cons (Zk.sl _ (Yp VG rfl)) .nil))))))))))))))
theorem R9 (op:Int) (xs:LI) (hl:xs.length<=1000000000:=by exact ob):Za 204 [.i op,Ze xs] [] (fun r h=>∃(v:Value),r=Kd (xs.map (XW op)) v/\h=[.tail v 5]):=by
 refine Zx 24 Tryz.func204 (Zf (ar (iL (Xj []) 0 5 fun v1=>?_)))
 refine Z0 (Yj (ab 0 (ZR (fun fz gz m F h=>∃(k:Nat) (v:Value),(k<=xs.length)/\F=sF [0,1] fz [(5,Kd ((xs.take k).map (XW op)) v),(6,.i k)]/\h=[.tail v 5]/\m=xs.length-k) _ _ _ ⟨0,v1,ob,rfl,rfl,rfl⟩ (wk [0] (fc (x:=Kd [] v1) (Zk.slh _ (Yp Xj rfl)) (ZT fl))) ?_)))
 rintro m F h ⟨k,v,ZX,rfl,rfl,rfl⟩
 refine Y8 2 (iw (Yk xs) (ZN ((k:Int)<(xs.length:Int)) (fun Z5=>?_) (fun Z5=>?_)))
 ·refine ak (aq (ab 1 (az (Z1 4 ?_))))
  obtain ⟨x1,Z2⟩:=Zv xs k om
  exact Zg (Zq none (k:Int) 1 (Yc Z2)) (Z1 1 (ZC [] (Zbc op x1) (iL [XO (XW op x1)] 1 5 fun v2=>XX 0 [(21,.sl [XO (XW op x1)] none)] (ip 1 (Xj ((xs.take (k+1)).map (XW op))) (Xj ((xs.take k).map (XW op))) [XO (XW op x1)] v none 5 (KA _) (CP rfl) rfl (by simp<;>omega) (by rw [WP Z2];simp [KZ]) fun v3=>Z0 (az (Z1 1 (ZK k (Z0 (ZJ ⟨k+1,v3,ob,rfl,rfl,rfl⟩ (wk [0] (fr (ZL k fl))))))))))))
 exact ax 0 (ar (Z7 (r2 [0] [Kd ((xs.take k).map (XW op)) v] ⟨v,rfl,rfl⟩ (Zk.slh _ (Yp Xj (by rw [W2 om]))))))
theorem Zbn (s:Z8) :Za 147 [XO s] [] (ZP (.b ((s.op==14)||(s.op==15)))):=by
 refine Zx 11 Tryz.func147 (ar (iA (WO s) fun b1=>Z0 (ar (Xz 8 [] [(10,.b ((s.op==14)||(s.op==15)))] (fun gz=>gz) ?_ (fun hj1=>?_)))))
 ·exact Z7 (T8)
 refine Y3 4 [0] (ib (b:=(s.op==14)) 6 (fun Zb=>?_) (fun Zb=>?_))
 ·have Ya:s.op=14:=(Zr).1 Zb
  exact Z1 4 (Yb (wk [0] (Zp true Zb fl)) hj1)
 have YT:¬(s.op=14):=ZZ Zr Zb
 exact Y3 4 [0] (Yb (wk [0] (Zp (s.op==15) Zb fl)) hj1)
theorem Zbb (ds:List Zs) (hd:Wy ds:=by exact ob):Za 87 [ZI ds] [] (ZP (ZI ds)):=by
 have hdl:=hd.len
 refine Zx 55 Tryz.func87 (Zf (ar (iL (X1 []) 0 3 fun v1=>?_)))
 refine Z0 (Yj (ab 0 (ZR (fun fz gz m F h=>∃(k:Nat) (v:Value),(k<=ds.length)/\F=sF [0] fz [(3,HS (ds.take k) v),(4,.i k)]/\h=[.tail v 3]/\m=ds.length-k) _ _ _ ⟨0,v1,ob,rfl,rfl,rfl⟩ (wk [0] (fc (x:=HS [] v1) (Zk.slh _ (Yp X1 rfl)) (ZT fl))) ?_)))
 rintro m F h ⟨k,v,ZX,rfl,rfl,rfl⟩
 refine Y8 2 (iw (Vw ds) (ZN ((k:Int)<(ds.length:Int)) (fun Z5=>?_) (fun Z5=>?_)))
 ·obtain ⟨xd,hxd⟩:=Zv ds k om
  have hcl:=hd.cons_at hxd
  refine ak (aq (ab 1 (ar (iL (Wa []) 0 1 fun v2=>?_))))
  refine Z0 (Yj (ab 2 (ZR (fun fz gz m F h=>∃(j:Nat) (u:Value),(j<=xd.cons.length)/\F=sF [0,3,4] fz [(5,OS (xd.cons.take j) u),(6,.i j)]/\h=[.tail u 1,Zy gz 1]/\m=xd.cons.length-j) _ _ _ ⟨0,v2,ob,rfl,rfl,rfl⟩ (wk [0,0] (fc (x:=OS [] v2) (Zk.slh _ (Yp Wa rfl)) (ZT fl))) ?_)))
  rintro m F h ⟨j,u,T0,rfl,rfl,rfl⟩
  refine Y8 3 (Zg (Zq none (k:Int) 3 (Vh hxd)) (Z1 2 (iw (Vg xd.cons) (ZN ((j:Int)<(xd.cons.length:Int)) (fun Zd=>?_) (fun Zd=>?_)))))
  ·refine ak (aq (ab 3 (az (Z1 3 (Zg (Zq none (k:Int) 3 (Vh hxd)) (Z1 3 ?_))))))
   obtain ⟨x1,Z2⟩:=Zv xd.cons j om
   have hfl:=hd.fields_at hxd Z2
   refine Zg (Zq none (j:Int) 1 (Ky Z2)) (Z1 2 (ic [] (At x1.fields) ?_))
   rintro _ _ ⟨v3,rfl,rfl⟩
   exact XX 1 [(36,KS x1)] (iL (Wa [x1]) 1 1 fun v4=>XX 0 [(37,JF [x1])] (ip 2 (Wa (xd.cons.take (j+1))) (Wa (xd.cons.take j)) (Wa [x1]) u none 1 (E2 _) (E2 _) (Z2k _) (by simp<;>omega) (by rw [WP Z2];simp [Wa]) fun v5=>Z0 (az (Z1 1 (ZK j (Z0 (ZJ ⟨j+1,v5,ob,rfl,rfl,rfl⟩ (wk [0,2] (fr (ZL j fl))))))))))
  exact ax 2 (aE 16 (Zm 13 16 [0,1,2] (dx 3 (Zq none (k:Int) 3 (Vh hxd)) (Zm 8 12 [4,5,6,7] (dx 8 (Zq none (k:Int) 3 (Vh hxd)) (UN 3 7 [9,10,11,12] [(51,.agg [.i xd.frm,.i xd.to_,JF (xd.cons.take j)])] (ZF 13 (dL 13 [] [] (X1 [Zs.mk xd.frm xd.to_ (xd.cons.take j)]) 1 3 fun v6=>UN 2 2 [] [(52,ZI [Zs.mk xd.frm xd.to_ (xd.cons.take j)])] (ZF 14 (dp 14 2 [] [] (X1 (ds.take (k+1))) (X1 (ds.take k)) (X1 [Zs.mk xd.frm xd.to_ (xd.cons.take j)]) v none 3 (Bz _) (Bz _) (Z2m _) (by simp<;>omega) (by rw [WP hxd];simp [X1,W2 (show xd.cons.length<=j by omega)]) fun v7=>Zm 0 1 [15] (de (az (Z1 1 (ZK k (Z0 (ZJ ⟨k+1,v7,ob,rfl,rfl,rfl⟩ (wk [0] (fr (ZL k fl)))))))))))))))))))
 exact ax 0 (ar (Z7 (Zo (HS (ds.take k) v) (Zk.sl _ (Yp X1 (by rw [W2 om]))))))
theorem Zc2 (rt:YB) (b:Zh) (hp:rt.params.length<=4294967296:=by exact ob) (hl:rt.lent.length<=4294967296:=by exact ob):Za 88 [QU rt,YC b] [] (ZP (QU (YB.mk rt.params rt.lent rt.result b))):=by
 refine Zx 15 Tryz.func88 (ar (iA (TH rt) fun b1=>iA (Vz b) fun b2=>iA [nl,nl,.i 0,nl,.i 0] fun b3=>ie (aD 11 (Y7 4 11 [0,1,3,4,6,7,8] [2,2,2,1] (ZF 2 (dc 2 [] [1,2,2] [b2,b1,b1] (At rt.params) ?_))))))
 rintro _ _ ⟨v1,rfl,rfl⟩
 refine ZF 5 (dc 5 [] [1,2] [b2,b1] (At rt.lent) ?_)
 rintro _ _ ⟨v2,rfl,rfl⟩
 exact Zm 1 2 [9] (ZF 10 (Uw 10 2 [] [] b3 [ZV rt.params v1,ZV rt.lent v2,.i rt.result,VR b.steps,.i b.result] (de (ZG (r3 [] [.agg [ZV rt.params v1,ZV rt.lent v2,.i rt.result,VR b.steps,.i b.result]] [0] [(b3,b3)] ⟨rfl,rfl⟩ (Zk.agg (.cons (Zk.sl _ (Yp Zi ob)) (.cons (Zk.sl _ (Yp Zi ob)) (.cons li (.cons (Zk.sl _ (Yp Xj ob)) (.cons li .nil)))))))))))
theorem Z3p (xs:LI) (y:Int) (hl:xs.length<=1000000000:=by exact ob):Za 240 [Ze xs,.i y] [] (fun r h=>∃(v:Value),r=ZV (VP xs y) v/\h=[.tail v 1]):=by
 refine Zx 49 Tryz.func240 (Zf (ar (iL (Zi []) 0 1 fun v1=>?_)))
 refine Z0 (Zf (Yj (ab 0 (ZR (fun fz gz m F h=>∃(k:Nat) (acc:LI) (d:Bool) (v:Value),(k<=xs.length)/\(acc.length<=k+(if d=true then 1 else 0))/\(acc++TF d (xs.drop k) y=VP xs y)/\F=sF [0,1] fz [(5,ZV acc v),(6,.b d),(7,.i k)]/\h=[.tail v 1]/\m=xs.length-k) _ _ _ ⟨0,[],false,v1,ob,(by simp),rfl,rfl,rfl,rfl⟩ (wk [0] (fw (ZT fl))) ?_))))
 rintro m F h ⟨k,acc,d,v,ZX,Z9,Zz,rfl,rfl,rfl⟩
 refine Y8 2 (iw (Yk xs) (ZN ((k:Int)<(xs.length:Int)) (fun Z5=>?_) (fun Z5=>?_)))
 ·obtain ⟨x1,Z2⟩:=Zv xs k om
  have hil:acc.length<=k+1:=QR Z9 (by split<;>omega)
  refine ak (aq (ab 1 (Yq (W7 [0,1,5,6,7] [(24,.b ((!d)&&(decide (x1>=y))))] (fun gz=>gz) ?_ ?_))))
  ·refine Z1 3 (ib (b:=(!d)) 17 (fun Zb=>?_) (fun Zb=>?_))
   ·have Ya:¬(d=true):=((Yi Iff.rfl)).1 Zb
    exact Z1 2 (Zg (Zq none (k:Int) 1 (Yc Z2)) (Z0 (wk [0] (Zp (decide (x1>=y)) Zb fl))))
   have YT:¬(¬(d=true)):=ZZ (Yi Iff.rfl) Zb
   exact Z0 (wk [0] (Zp false Zb fl))
  refine Tz (fun fz gz F h=>∃(acc2:LI) (d2:Bool) (w:Value),((acc2=acc/\d2=d/\(d=true∨¬x1>=y))∨(acc2=acc++[y]/\d2=true/\¬d=true/\x1>y)∨(acc2=acc/\d2=true/\¬d=true/\x1=y))/\(acc2.length<=k+(if d2=true then 1 else 0))/\(acc2.length<=k+1)/\F=sF [0,1,7] fz [(5,ZV acc2 w),(6,.b d2)]/\h=[.tail w 1]) ?_ ?_
  ·refine ac ((!d)&&(decide (x1>=y))) (p:=(¬(d=true))/\(x1>=y)) (Yy (Yi Iff.rfl) dq) (fun Zd=>?_) (fun Zd=>?_)
   ·refine Y8 2 (Zg (Zq none (k:Int) 1 (Yc Z2)) (Z0 (Tz (fun fz gz F h=>∃(w3:Value),F=sF [0,1,7] fz [(5,ZV (if x1>y then (acc++[y]) else acc) w3)]/\h=[.tail w3 1]) ?_ ?_)))
    ·refine Xf (x1>y) (fun Zw=>?_) (fun Zw=>?_)
     ·exact az (Z1 2 (iL (Zi [y]) 1 1 fun v2=>XX 0 [(33,Ze [y])] (ip 1 (Zi (acc++[y])) (Zi acc) (Zi [y]) v none 1 (Wq _) (Wq _) (TY _) (by simp<;>omega) (by simp [TX,Zi]) fun v3=>Z0 (Xk ⟨v3,rfl,rfl⟩ (wk [0] (fc (x:=ZV (acc++[y]) v3) (Zk.slh _ (Yp Zi (by first|rfl|(rw [Z6 Zw])|(rw [Z4 Zw])|(simp [Zw];done)|(rw [Wk];simp [Zw];done)|omega))) fl))))))
     exact ak (Xk ⟨v,rfl,rfl⟩ (wk [0] (fc (x:=ZV acc v) (Zk.slh _ (Yp Zi (by first|rfl|(rw [Z6 Zw])|(rw [Z4 Zw])|(simp [Zw];done)|(rw [Wk];simp [Zw];done)|omega))) fl)))
    rintro F h ⟨w3,rfl,rfl⟩
    exact Qj (Xk ⟨(if x1>y then (acc++[y]) else acc),true,w3,(if h:x1>y then (by rw [Z6 h];exact .inr (.inl ⟨rfl,rfl,Zd.1,h⟩)) else (by rw [Z4 h];exact .inr (.inr ⟨rfl,rfl,Zd.1,by have:=Zd.2;omega⟩))),(by have h1:=Z9;rw [Z4 Zd.1] at h1;split<;>(simp<;>omega)),(by have h1:=Z9;rw [Z4 Zd.1] at h1;split<;>(simp<;>omega)),rfl,rfl⟩ (wk [0] fl))
   exact ak (Xk ⟨acc,d,v,(.inl ⟨rfl,rfl,by by_cases q:d=true;exact .inl q;exact .inr (fun z=>Zd ⟨q,z⟩)⟩),Z9,hil,rfl,rfl⟩ (wk [0] fl))
  rintro F h ⟨acc2,d2,w,Z6g,Zez,Zf0,rfl,rfl⟩
  exact az (Z1 3 (Zg (Zq none (k:Int) 1 (Yc Z2)) (Z1 1 (iL (Zi [x1]) 1 1 fun v4=>XX 0 [(40,Ze [x1])] (ip 1 (Zi (acc2++[x1])) (Zi acc2) (Zi [x1]) w none 1 (Wq _) (Wq _) (TY _) (by simp<;>omega) (by simp [TX,Zi]) fun v5=>Z0 (az (Z1 1 (ZK k (Z0 (ZJ ⟨k+1,(acc2++[x1]),d2,v5,ob,(by simp only [Yz,XF,Vt];omega),(Z64 Z2 Zz Z6g),rfl,rfl,rfl⟩ (wk [0] (fw (ZL k fl)))))))))))))
 have hil:acc.length<=k+1:=QR Z9 (by split<;>omega)
 refine ax 0 (Yj (Tz (fun fz gz F h=>∃(w4:Value),F=sF [] fz [(5,ZV (if d=true then acc else (acc++[y])) w4)]/\h=[.tail w4 1]) ?_ ?_))
 ·refine ac (!d) (p:=¬(d=true)) (Yi Iff.rfl) (fun Yd=>?_) (fun Yd=>?_)
  ·exact az (Z1 2 (iL (Zi [y]) 1 1 fun v6=>XX 0 [(46,Ze [y])] (ip 1 (Zi (acc++[y])) (Zi acc) (Zi [y]) v none 1 (Wq _) (Wq _) (TY _) (by simp<;>omega) (by simp [TX,Zi]) fun v7=>Z0 (Xk ⟨v7,rfl,rfl⟩ (wk [0] (fc (x:=ZV (acc++[y]) v7) (Zk.slh _ (Yp Zi (by first|rfl|(rw [Z6 Yd])|(rw [Z4 Yd])|(simp [Yd];done)|(rw [Wk];simp [Yd];done)|omega))) fl))))))
  exact ak (Xk ⟨v,rfl,rfl⟩ (wk [0] (fc (x:=ZV acc v) (Zk.slh _ (Yp Zi (by first|rfl|(rw [Z6 Yd])|(rw [Z4 Yd])|(simp [Yd];done)|(rw [Wk];simp [Yd];done)|omega))) fl)))
 rintro F h ⟨w4,rfl,rfl⟩
 exact ar (Z7 (r2 [0] [ZV (if d=true then acc else (acc++[y])) w4] ⟨w4,rfl,rfl⟩ (Zk.slh _ (Yp Zi (Z63 om Zz)))))
theorem Z30 (rn:List Z8) (hrn:∀s∈rn,∃a,s.args=[a]) (hl:rn.length<=10000000:=by exact ob):Za 202 [VR rn] [] (ZP (Ze (YQ (evs rn)))):=by
 refine Zx 22 Tryz.func202 (Zf (ar (iL (Zi []) 0 1 fun v1=>?_)))
 refine Z0 (Yj (ab 0 (ZR (fun fz gz m F h=>∃(k:Nat),(k<=rn.length)/\F=sF [0] fz [(3,Ze (YQ (evs (rn.take k)))),(4,.i k)]/\h=[]/\m=rn.length-k) _ _ _ ⟨0,ob,rfl,rfl,rfl⟩ (wk [] (fc (x:=ZV [] v1) (Zk.sl _ (Yp Zi rfl)) (ZT fl))) ?_)))
 rintro m F h ⟨k,ZX,rfl,rfl,rfl⟩
 refine Y8 2 (iw (T2 rn) (ZN ((k:Int)<(rn.length:Int)) (fun Z5=>?_) (fun Z5=>?_)))
 ·refine ak (aq (ab 1 (az (Z1 3 ?_))))
  obtain ⟨x1,Z2⟩:=Zv rn k om
  have hxm:=YA Z2
  obtain ⟨xa,hxa⟩:=hrn _ hxm
  have hml:=HL (evs (rn.take k))
  rw [CC,Ko] at hml
  refine Zg (Zq none (k:Int) 5 (U2 Z2)) (Z1 2 ?_)
  obtain ⟨x2,Zt⟩:=Zv x1.args 0 (by rw [hxa];simp)
  have hg0:=J1 Zt
  refine Zg (Zq none 0 1 (Yc Zt)) (Z1 1 (ic [] (Z3p (YQ (evs (rn.take k))) x2) ?_))
  rintro _ _ ⟨v2,rfl,rfl⟩
  exact Z0 (az (Z1 1 (ZK k (Z0 (ZJ ⟨k+1,ob,rfl,rfl,rfl⟩ (wk [] (fc (x:=ZV (VP (YQ (evs (rn.take k))) x2) v2) (Zk.sl _ (Yp Zi (by rw [N8 Z2,Z84,ev,hg0]))) (ZL k fl))))))))
 exact ax 0 (ar (Z7 (Zo (Ze (YQ (evs (rn.take k)))) (Zk.sl _ (Yp Zi (by rw [W2 om]))))))
theorem Z2z (rn:List Z8) (v:Int) (hrn:∀s∈rn,∃a,s.args=[a]) (hl:rn.length<=10000000:=by exact ob):Za 203 [VR rn,.i v] [] (ZP (.i (X7 (evs rn) v))):=by
 refine Zx 44 Tryz.func203 (Zf (Zf (Yj (ab 0 (ZR (fun fz gz m F h=>∃(k:Nat),(k<=rn.length)/\F=sF [0,1] fz [(5,.i (X7 (evs (rn.take k)) v)),(6,.i k)]/\h=gz/\m=rn.length-k) _ _ _ ⟨0,ob,rfl,rfl,rfl⟩ (wk [] (fc (x:=.i 0) (li rfl) (ZT fl))) ?_)))))
 rintro m F h ⟨k,ZX,rfl,rfl,rfl⟩
 refine Y8 2 (iw (T2 rn) (ZN ((k:Int)<(rn.length:Int)) (fun Z5=>?_) (fun Z5=>?_)))
 ·refine ak (aq (ab 1 (ZM 2 ?_)))
  obtain ⟨x1,Z2⟩:=Zv rn k om
  have hxm:=YA Z2
  obtain ⟨xa,hxa⟩:=hrn _ hxm
  have hnb:=BU v (Un.evs (rn.take k))
  rw [CC,Ko] at hnb
  refine Zg (Zq none (k:Int) 5 (U2 Z2)) (Z1 2 ?_)
  obtain ⟨x2,Zt⟩:=Zv x1.args 0 (by rw [hxa];simp)
  have hg0:=J1 Zt
  have hnt:=Z86 (v:=v) Z2
  rw [hg0] at hnt
  refine Zg (Zq none 0 1 (Yc Zt)) (W7 [0,1,5,6] [(29,.b ((x2==v)&&(x1.op==14)))] (fun gz=>gz) ?_ ?_)
  ·refine Z1 4 (ib (b:=(x2==v)) 22 (fun Zb=>?_) (fun Zb=>?_))
   ·have Ya:x2=v:=(Zr).1 Zb
    exact Z1 2 (Zg (Zq none (k:Int) 5 (U2 Z2)) (Z0 (wk [] (Zp (x1.op==14) Zb fl))))
   have YT:¬(x2=v):=ZZ Zr Zb
   exact Z0 (wk [] (Zp false Zb fl))
  refine ac ((x2==v)&&(x1.op==14)) (p:=(x2=v)/\(x1.op=14)) (Yy Zr Zr) (fun Zd=>?_) (fun Zd=>?_)
  ·exact az (Z1 1 (ia (((X7 (evs (rn.take k)) v)+1)) (((X7 (evs (rn.take k)) v))+(1)) (Z0 (az (Z1 1 (ZK k (Z0 (ZJ ⟨k+1,ob,rfl,rfl,rfl⟩ (wk [] (fc (x:=.i ((X7 (evs (rn.take k)) v)+1)) (li (by first|(rw [hnt,Z6 om,Z6 om]<;>omega)|(rw [hnt,Z6 om,Z4 om]<;>omega)|(rw [hnt,Z4 om]<;>omega))) (ZL k fl)))))))))))
  refine ZM 2 (Zg (Zq none (k:Int) 5 (U2 Z2)) (Z1 2 (Zg (Zq none 0 1 (Yc Zt)) (Yt (x2==v) Zr (fun Zw=>?_) (fun Zw=>?_)))))
  ·exact az (Z1 1 (ia (((X7 (evs (rn.take k)) v)-1)) (((X7 (evs (rn.take k)) v))-(1)) (Z0 (az (Z1 1 (ZK k (Z0 (ZJ ⟨k+1,ob,rfl,rfl,rfl⟩ (wk [] (fc (x:=.i ((X7 (evs (rn.take k)) v)-1)) (li (by first|(rw [hnt,Z6 om,Z6 om]<;>omega)|(rw [hnt,Z6 om,Z4 om]<;>omega)|(rw [hnt,Z4 om]<;>omega))) (ZL k fl)))))))))))
  exact ak (az (Z1 1 (ZK k (Z0 (ZJ ⟨k+1,ob,rfl,rfl,rfl⟩ (wk [] (fc (x:=.i (X7 (evs (rn.take k)) v)) (li (by first|(rw [hnt,Z6 om,Z6 om]<;>omega)|(rw [hnt,Z6 om,Z4 om]<;>omega)|(rw [hnt,Z4 om]<;>omega))) (ZL k fl))))))))
 exact ax 0 (ar (Z7 (Zo (.i (X7 (evs (rn.take k)) v)) (li (by rw [W2 om])))))
theorem MY (rn:List Z8) (hrn:∀s∈rn,∃a,s.args=[a]) (hl:rn.length<=10000000:=by exact ob):Za 148 [VR rn] [] (fun r h=>∃(v:Value),r=Kd (Ve (evs rn)) v/\h=[.tail v 5]):=by
 have hun:=Un.evs rn
 have hel:=CC rn
 have hda:=Cs hun
 have hml:=HL (evs rn)
 refine Zx 51 Tryz.func148 (Zf (ar (iL (Zi []) 0 1 fun v1=>Z0 (ar (iL (Zi []) 0 1 fun v2=>?_)))))
 refine Z0 (ZM 1 (ZC [] (Z30 rn (hrn:=ob)) (Z0 (Yj (ab 0 (ZR (fun fz gz m F h=>∃(k:Nat) (D:LI) (u:Value) (R:LI) (w:Value),(k<=(YQ (evs rn)).length)/\(D=UC (evs rn) ((YQ (evs rn)).take k))/\(R=Tm (evs rn) ((YQ (evs rn)).take k))/\F=sF [0,5] fz [(3,ZV D u),(4,ZV R w),(6,.i k)]/\h=[.tail u 1,.tail w 1]/\m=(YQ (evs rn)).length-k) _ _ _ ⟨0,[],v1,[],v2,ob,rfl,rfl,rfl,rfl,rfl⟩ (wk [1,0] (fw (ZT fl))) ?_))))))
 rintro m F h ⟨k,D,u,R,w,ZX,Z9,Zz,rfl,rfl,rfl⟩
 refine Y8 2 (io (.i (((YQ (evs rn)).length:Nat):Int)) (.i (((Zi (YQ (evs rn))).length:Nat):Int)) (li (by rw [Yk])) (ZN ((k:Int)<(((YQ (evs rn)).length:Nat):Int)) (fun Z5=>?_) (fun Z5=>?_)))
 ·have hdt:=A4 hun k
  have Ws:=A4 hun (k+1)
  refine ak (aq (ab 1 (ZM 3 ?_)))
  obtain ⟨x1,Z2⟩:=Zv (YQ (evs rn)) k om
  have hds:=MG (L:=evs rn) Z2
  have hrs:=MF (L:=evs rn) Z2
  have hdl:=Yp List.length hds
  have hrl:=Yp List.length hrs
  simp only [Yz,List.length_replicate] at hdl hrl
  have hnb:=BU x1 hun
  have hDl:=Yp List.length Z9
  have hRl:=Yp List.length Zz
  refine Zg (Zq none (k:Int) 1 (Yc Z2)) (Z1 1 (ZC [] (Z2z rn x1 (hrn:=ob)) (Z0 (aq (ab 2 (ZR (fun fz gz m F h=>∃(z:Int) (D2:LI) (u2:Value) (w2:Value),(z<=X7 (evs rn) x1)/\(D2++List.replicate z.toNat x1=D++List.replicate (X7 (evs rn) x1).toNat x1)/\(0<=z∨z=X7 (evs rn) x1)/\F=sF [0,5,6] fz [(3,ZV D2 u2),(4,ZV R w2),(7,.i z)]/\h=[.tail u2 1,.tail w2 1]/\m=z.toNat) _ _ _ ⟨(X7 (evs rn) x1),D,u,w,(Int.le_refl _),rfl,(.inr rfl),rfl,rfl,rfl⟩ (wk [0,0] fl) ?_))))))
  rintro m F h ⟨z,D2,u2,w2,T0,Xh,U7,rfl,rfl,rfl⟩
  refine Yq (ZN (z>0) (fun Zd=>?_) (fun Zd=>?_))
  ·have hl1:=Yp List.length Xh
   simp only [Yz,List.length_replicate] at hl1
   exact ak (aq (ab 3 (az (Z1 3 (Zg (Zq none (k:Int) 1 (Yc Z2)) (Z1 1 (iL (Zi [x1]) 1 1 fun v3=>XX 0 [(33,Ze [x1])] (ip 1 (Zi (D2++[x1])) (Zi D2) (Zi [x1]) u2 none 1 (Wq _) (Wq _) (TY _) (by simp<;>omega) (by simp [TX,Zi]) fun v4=>Z0 (az (Z1 1 (ia ((z-1)) ((z)-(1)) (Z0 (ZJ ⟨(z-1),(D2++[x1]),v4,w2,om,(by rw [<-Xh,Z9j (z:=z) om];simp),(.inl om),rfl,rfl,rfl⟩ (wk [0,1] fl))))))))))))))
  have hD2:D2=D++List.replicate (X7 (evs rn) x1).toNat x1:=by rw [<-Xh,show z.toNat=0 by omega];simp
  refine ax 2 (ab 4 (ZR (fun fz gz m F h=>∃(y:Int) (R2:LI) (u3:Value) (w3:Value),(y<=0∨y=z)/\(R2++List.replicate (-y).toNat x1=R++List.replicate (-z).toNat x1)/\F=sF [0,5,6] fz [(3,ZV D2 u3),(4,ZV R2 w3),(7,.i y)]/\h=[.tail u3 1,.tail w3 1]/\m=(-y).toNat) _ _ _ ⟨z,R,u2,w2,(.inr rfl),rfl,rfl,rfl,rfl⟩ (wk [0,0] fl) ?_))
  rintro m F h ⟨y,R2,u3,w3,M8,Kv,rfl,rfl,rfl⟩
  refine Yq (ZN (y<0) (fun Zw=>?_) (fun Zw=>?_))
  ·have hl2:=Yp List.length Kv
   simp only [Yz,List.length_replicate] at hl2
   exact ak (aq (ab 5 (az (Z1 3 (Zg (Zq none (k:Int) 1 (Yc Z2)) (Z1 1 (iL (Zi [x1]) 1 1 fun v5=>XX 0 [(44,Ze [x1])] (ip 2 (Zi (R2++[x1])) (Zi R2) (Zi [x1]) w3 none 1 (Wq _) (Wq _) (TY _) (by simp<;>omega) (by simp [TX,Zi]) fun v6=>Z0 (az (Z1 1 (ia ((y+1)) ((y)+(1)) (Z0 (ZJ ⟨(y+1),(R2++[x1]),u3,v6,(.inl om),(by rw [<-Kv,Z9i (y:=y) om];simp),rfl,rfl,rfl⟩ (wk [2,0] fl))))))))))))))
  have hR2:R2=R++List.replicate (-(X7 (evs rn) x1)).toNat x1:=by rw [show (-(X7 (evs rn) x1)).toNat=(-z).toNat by omega,<-Kv,show (-y).toNat=0 by omega];simp
  exact ax 4 (az (Z1 1 (ZK k (Z0 (ZJ ⟨k+1,D2,u3,R2,w3,ob,(by rw [hD2,Z9,hds]),(by rw [hR2,Zz,hrs]),rfl,rfl,rfl⟩ (wk [0,0] (fw (ZL k fl))))))))
 have hdt:=A4 hun k
 have hDl:=Yp List.length Z9
 have hRl:=Yp List.length Zz
 refine ax 0 (ar (XX 1 [(46,Ze D)] (ic [] (R9 14 D) ?_)))
 rintro _ _ ⟨v7,rfl,rfl⟩
 refine XX 1 [(48,Ze R)] (ic [] (R9 15 R) ?_)
 rintro _ _ ⟨v8,rfl,rfl⟩
 exact XX 0 [(49,VR (R.map (XW 15)))] (ip 1 (Xj ((D.map (XW 14))++(R.map (XW 15)))) (Xj (D.map (XW 14))) (Xj (R.map (XW 15))) v7 none 5 (KA _) (KA _) (Cx _) (by simp<;>omega) (by simp [Cw,Xj]) fun v9=>Z7 (r2 [0] [Kd ((D.map (XW 14))++(R.map (XW 15))) v9] ⟨v9,rfl,rfl⟩ (Zk.slh _ (Yp Xj (by rw [Z9,Zz,W2 om];rfl)))))
theorem Z2y (ds:List Zs) (b:Zh) (hw:wB ds b) (hz:b.sz<=10000000) (ih:∀(b2:Zh),(wB ds b2)->(b2.sz<=10000000)->(b2.sz<b.sz)->Za 89 [YC b2] [] (ZP (YC (W6 b2)))):Za 89 [YC b] [] (ZP (YC (W6 b))):=by
 have hbe:=b.sz_eq
 have CJ:=JL b
 have hws:=(L0 b).1 hw
 refine Zx 72 Tryz.func89 (ar (iA (Vz b) fun b1=>iA [nl,.i 0] fun b2=>ie (ar (iL (Xj []) 0 5 fun v1=>Z0 (ar (iL (Xj []) 0 5 fun v2=>?_))))))
 refine Z0 (Yj (ab 0 (ZR (fun fz gz m F h=>∃(k:Nat) (xs:List Z8) (v:Value) (rn:List Z8) (u:Value),(k<=b.steps.length)/\(xs++WT (b.steps.drop k) (evs rn)=WT b.steps [])/\(rn.length<=k)/\(∀s∈rn,∃a,s.args=[a])/\F=sF [1,2] fz [(3,Kd xs v),(4,Kd rn u),(5,.i k)]/\h=[Zy gz 2,Zy gz 3,.tail u 5,.tail v 5]/\m=b.steps.length-k) _ _ _ ⟨0,[],v1,[],v2,ob,rfl,ob,(fun s hs=>by cases hs),rfl,rfl,rfl⟩ (wk [2,2,0,0] (fw (ZT fl))) ?_)))
 rintro m F h ⟨k,xs,v,rn,u,ZX,Z9,Zz,Y5,rfl,rfl,rfl⟩
 refine Ym 3 [1] (iw (T2 b.steps) (ZN ((k:Int)<(b.steps.length:Int)) (fun Z5=>?_) (fun Z5=>?_)))
 ·have hxl:=DO hws Z9
  refine ak (aq (ab 1 (ZB 3 [1] ?_)))
  obtain ⟨x1,Z2⟩:=Zv b.steps k om
  have YD:=Df Z2
  have hwS:=RS hw Z2
  have hse:=(x1).sz_eq
  have hkl2:=Ql x1
  have hsl:=F6 (Un.evs rn)
  rw [CC] at hsl
  refine Zg (Zq none (k:Int) 5 (U2 Z2)) (Z1 1 (iA [.i 0,.i 0,.i 0,nl,nl] fun b3=>Y0 0 b3 (WO x1) (ie (ZB 1 [0] (ZC [] (Zbn x1) (ie (ac ((x1.op==14)||(x1.op==15)) (p:=(x1.op=14)∨(x1.op=15)) (Yg Zr Zr) (fun Zd=>?_) (fun Zd=>?_))))))))
  ·refine az (Y3 2 [0] (Nx [XO x1] (Xj [x1]) (KZ [x1]).symm 1 5 fun v3=>XX 0 [(27,VR [x1])] (ip 4 (Xj (rn++[x1])) (Xj rn) (Xj [x1]) u none 5 (KA _) (KA _) (Cx _) (by simp<;>omega) (by simp [Cw,Xj]) fun v4=>Z0 (az (Z1 1 (ZK k (Z0 ?_)))))))
   obtain ⟨_,_,hpa⟩:=Ba hwS (by simp [YU];omega)
   exact ZJ ⟨k+1,xs,v,(rn++[x1]),v4,ob,(by rw [N7];exact Gf Z2 (by assumption) Z9),(by rw [Yz];simp only [XF,Vt];omega),(SB Y5 hpa),rfl,rfl,rfl⟩ (wk [3,3,0,2] (fw (ZL k fl)))
  refine ar (XX 2 [(30,VR rn)] (ic [] (MY rn (hrn:=Y5)) ?_))
  rintro _ _ ⟨v5,rfl,rfl⟩
  refine XX 0 [(31,VR (Ve (evs rn)))] (ip 5 (Xj (xs++(Ve (evs rn)))) (Xj xs) (Xj (Ve (evs rn))) v none 5 (KA _) (KA _) (Cx _) (by simp<;>omega) (by simp [Cw,Xj]) fun v6=>Z0 (ar (iL (Xj []) 0 5 fun v7=>Z0 (ar (iL (VG []) 0 2 fun v8=>?_)))))
  refine Z0 (Yj (ab 2 (ZR (fun fz gz m F h=>∃(j:Nat) (ks:List Zh) (w:Value) (v3:Value) (u4:Value),(j<=x1.kids.length)/\(ks=(x1.kids.take j).map W6)/\F=sF [1,2,5,6] fz [(3,Kd (xs++(Ve (evs rn))) v3),(4,Kd [] u4),(7,HR ks w),(8,.i j)]/\h=[Zy gz 4,Zy gz 5,Zy gz 6,.tail u4 5,.tail v3 5,.tail w 2]/\m=x1.kids.length-j) _ _ _ ⟨0,[],v8,v6,v7,ob,rfl,rfl,rfl,rfl⟩ (wk [4,4,4,1,1,0] (fw (fr (ZT fl)))) ?_)))
  rintro m F h ⟨j,ks,w,v3,u4,T0,Xh,rfl,rfl,rfl⟩
  refine Ym 3 [0] (iw (Ua x1.kids) (ZN ((j:Int)<(x1.kids.length:Int)) (fun Zw=>?_) (fun Zw=>?_)))
  ·refine ak (aq (ab 3 (az (Y3 4 [0] ?_))))
   obtain ⟨x2,Zt⟩:=Zv x1.kids j om
   have hkz:=Ka Zt
   have hwk:=RX hwS Zt
   have hkl:=Yp List.length Xh
   rw [Uh,Ko] at hkl
   exact Zg (Zq none (j:Int) 2 (TA Zt)) (Z1 1 (ZC [] (ih x2 hwk ob ob) (Nx [YC (W6 x2)] (VG [W6 x2]) (A5 [W6 x2]).symm 1 2 fun v9=>XX 0 [(49,KI [W6 x2])] (ip 6 (VG (ks++[W6 x2])) (VG ks) (VG [W6 x2]) w none 2 (MJ _) (MJ _) (Z2i _) (by simp<;>omega) (by simp [Z2h,VG]) fun v10=>Z0 (az (Z1 1 (ZK j (Z0 (ZJ ⟨j+1,(ks++[W6 x2]),v10,v3,u4,ob,(by rw [Xh,WP Zt,List.map_append];rfl),rfl,rfl,rfl⟩ (wk [2,2,2,2,2,0] (fw (fr (ZL j fl)))))))))))))
  refine ax 2 (aE 15 (Y7 5 15 [0,1,2,3,4,5,6,7,8,10] [0,0,0,0] (ZF 9 (dc 9 [] [0,0,0] [b3,b3,b3] (At x1.args) ?_))))
  rintro _ _ ⟨v11,rfl,rfl⟩
  exact UN 3 4 [11] [(62,.agg [.i x1.op,.i x1.num,.i x1.into,Ze x1.args,KI ks])] (ZF 12 (dLE 12 [] [] [XO (Z8.mk x1.op x1.num x1.into x1.args ks)] (Xj [Z8.mk x1.op x1.num x1.into x1.args ks]) (KZ [Z8.mk x1.op x1.num x1.into x1.args ks]).symm 1 5 fun v12=>UN 2 2 [] [(63,VR [Z8.mk x1.op x1.num x1.into x1.args ks])] (ZF 13 (dp 13 6 [] [] (Xj ((xs++(Ve (evs rn)))++[Z8.mk x1.op x1.num x1.into x1.args ks])) (Xj (xs++(Ve (evs rn)))) (Xj [Z8.mk x1.op x1.num x1.into x1.args ks]) v3 none 5 (KA _) (KA _) (Cx _) (by simp<;>omega) (by simp [Cw,Xj]) fun v13=>Zm 0 1 [14] (de (az (Z1 1 (ZK k (Z0 (ZJ ⟨k+1,((xs++(Ve (evs rn)))++[Z8.mk x1.op x1.num x1.into x1.args ks]),v13,[],u4,ob,(by have h:=Mb Z2 (by assumption) Z9;rw [Ge,DM] at h;rw [Xh,W2 om];exact h),(TO _),(fun s hs=>by cases hs),rfl,rfl,rfl⟩ (wk [4,4,4,0] (fw (ZL k fl)))))))))))))
 have hxl:=DO hws Z9
 have hsl:=F6 (Un.evs rn)
 rw [CC] at hsl
 refine ax 0 (aD 8 (Gs 4 8 [0,1,4,5] [(66,VR rn)] [1] (ZF 2 (dc 2 [] [1] [b1] (MY rn (hrn:=Y5)) ?_))))
 rintro _ _ ⟨v14,rfl,rfl⟩
 exact UN 3 3 [] [(67,VR (Ve (evs rn)))] (ZF 3 (dp 3 4 [1] [b1] (Xj (xs++(Ve (evs rn)))) (Xj xs) (Xj (Ve (evs rn))) v none 5 (KA _) (KA _) (Cx _) (by simp<;>omega) (by simp [Cw,Xj]) fun v15=>Zm 1 2 [6] (ZF 7 (Uw 7 2 [] [] b2 [Kd (xs++(Ve (evs rn))) v15,.i b.result] (de (ZG (r3 [] [.agg [Kd (xs++(Ve (evs rn))) v15,.i b.result]] [0] [(b2,b2)] ⟨rfl,rfl⟩ (Zk.agg (.cons (Zk.sl _ (Yp Xj (by rw [Gc];exact Ma om Z9))) (.cons (li (by rw [Gc];rfl)) .nil))))))))))
theorem Z2x (ds:List Zs) (b:Zh) (hw:wB ds b:=by exact ob) (hz:b.sz<=10000000:=by exact ob):Za 89 [YC b] [] (ZP (YC (W6 b))):=by
 have key:∀k:Nat,∀(b2:Zh),(wB ds b2)->(b2.sz<=10000000)->(b2.sz<k)->Za 89 [YC b2] [] (ZP (YC (W6 b2))):=by
  intro k
  induction k with
  | zero=>intro b2 h1 h2 h9;omega
  | succ k ih=>intro b2 h1 h2 h9;exact Z2y ds b2 h1 h2 fun b3 q1 q2 q9=>ih b3 q1 q2 om
 exact key (b.sz+1) b hw hz om
theorem MX (n:Zl) (hn:YY n:=by exact ob) (hz:WI n:=by exact ob) (hbt:∀r∈n.routines,0<=Ys n r.params r.body):Za 43 [X3 n] [] (ZP (X3 (Wm n))):=by
 have hzl:=hn.len
 refine Zx 36 Tryz.func43 (ar (iA (W8 n) fun b1=>iA [nl,nl] fun b2=>ie (ZB 2 [1] (ZC [] (Zbb n.decls (hd:=hn.decls)) (iL (UP []) 0 5 fun v1=>Z1 1 (iA [nl,nl] fun b3=>?_))))))
 refine Y0 0 b3 [ZI n.decls,CW [] v1] (ie (Yj (ab 0 (ZR (fun fz gz m F h=>∃(k:Nat) (v:Value),(k<=n.routines.length)/\F=sF [1,2,3] fz [(4,.i k)]/\h=[.obj b3 [ZI n.decls,CW ((n.routines.take k).map VZ) v],Zy gz 2,Zy gz 3,.tail v 5]/\m=n.routines.length-k) _ _ _ ⟨0,v1,ob,rfl,rfl,rfl⟩ (wk [0,1,1,0] (ZT fl)) ?_))))
 rintro m F h ⟨k,v,ZX,rfl,rfl,rfl⟩
 refine Ym 3 [2] (iw (UD n.routines) (ZN ((k:Int)<(n.routines.length:Int)) (fun Z5=>?_) (fun Z5=>?_)))
 ·refine ak (aq (ab 1 (aE 19 (Y7 14 19 [0,1,2,3,4] [0,2] ?_))))
  obtain ⟨x1,Z2⟩:=Zv n.routines k om
  have hrm:=YA Z2
  have hbz:=hz.body _ hrm
  have hpl:=hn.params_at Z2
  have hll:=hn.lent_at Z2
  have hwb:=Dq hn hz hbt _ hrm
  exact dx 5 (Zq none (k:Int) 5 (Um Z2)) (Y7 9 13 [6,7,8,9] [2] (dx 10 (Zq none (k:Int) 5 (Um Z2)) (Zm 6 8 [11,12] (ZF 13 (XY 13 [] [2,0] [b1,b3] (Z2x _ x1.body (hw:=hwb)) (ZF 14 (XY 14 [] [0] [b3] (Zc2 x1 (W6 x1.body)) (ZF 15 (dL 15 [0] [b3] (UP [YB.mk x1.params x1.lent x1.result (W6 x1.body)]) 1 5 fun v2=>UN 3 3 [] [(32,BS [YB.mk x1.params x1.lent x1.result (W6 x1.body)])] (ZF 16 (dp 16 4 [] [] (UP ((n.routines.take (k+1)).map VZ)) (UP ((n.routines.take k).map VZ)) (UP [YB.mk x1.params x1.lent x1.result (W6 x1.body)]) v none 5 (MS _) (MS _) (Z2u _) (by simp<;>omega) (by rw [WP Z2];simp [UP,VZ]) fun v3=>Zm 1 2 [17] (ZF 18 (Uw 18 2 [] [] b3 [ZI n.decls,CW ((n.routines.take (k+1)).map VZ) v3] (de (az (Z1 1 (ZK k (Z0 (ZJ ⟨k+1,v3,ob,rfl,rfl,rfl⟩ (wk [0,2,2,0] (ZL k fl)))))))))))))))))))))
 exact ax 0 (ZB 1 [0] (Y0 1 b2 [ZI n.decls,CW ((n.routines.take k).map VZ) v] (ie (ZG (r3 [] [.agg [ZI n.decls,CW ((n.routines.take k).map VZ) v]] [0] [(b2,b2)] ⟨rfl,rfl⟩ (Zk.agg (.cons (Zk.sl _ (Yp X1 ob)) (.cons (Zk.sl _ (Yp UP (by rw [W2 om];rfl))) .nil))))))))
theorem Zb4 (n:Zl) (hz:WI n):Za 20 [X3 n] [] (ZP (.tup [X3 ((XI n).1),.b ((XI n).2)])):=by
 refine Zx 10 Tryz.func20 (ar (iA (W8 n) fun b1=>iA [nl,nl] fun b2=>Z0 (Ym 1 [1] (ZC [] (R6 n) (Yt (!VX n) (p:=¬(VX n=true)) (Yi Iff.rfl) (fun Z5=>?_) (fun Z5=>?_))))))
 ·refine ZM 1 (Y0 0 b2 [nl,nl] (Z0 ?_))
  have hE:XI n=(EQ,false):=Z4 Z5
  exact ZG (r3 [] [.agg [nl,nl],.b false] [0] [(b2,b2)] ⟨rfl,rfl⟩ (Zk.tup (.cons (Zk.agg (.cons (Zk.sl _ (by rw [hE];rfl)) (.cons (Zk.sl _ (by rw [hE];rfl)) .nil))) (.cons (lb (by rw [hE])) .nil))))
 refine ak (ZB 1 [1] (ZC [] (MX n (hn:=(Bo hz (Wr.1 Z5)).1) (hbt:=(Bo hz (Wr.1 Z5)).2.2)) (Y0 0 b2 (W8 (Wm n)) (Z0 ?_))))
 have hE:XI n=(Wm n,true):=Z6 (Wr.1 Z5)
 exact ZG (r3 [] [X3 (Wm n),.b true] [0] [(b2,b2)] ⟨rfl,rfl⟩ (Zk.tup (.cons (Zk.agg (.cons (Zk.sl _ (Yp X1 (by rw [hE]))) (.cons (Zk.sl _ (Yp UP (by rw [hE]))) .nil))) (.cons (lb (by rw [hE])) .nil))))
theorem Fm (xs:LI) (hl_xs:xs.length<=4294967296:=by exact ob):Za 150 [Ze xs] [] (fun r h=>∃(v:Value),r=ZV xs v/\h=[.tail v 1]):=by
 refine Zx 22 Tryz.func150 (Zf (ZM 1 (iw (Yk xs) (BK xs.length [AV.i 0] 1 fun g1=>?_))))
 refine Z0 (Yj (ab 0 (ZR (fun fz gz m F h=>∃(k:Nat),(k<=xs.length)/\F=sF [0,3] fz [(4,.i k)]/\h=[.row (.slice (some ⟨g1,0,none⟩) xs.length xs.length) 1 (Zu (Zi (xs.take k))++(List.replicate (xs.length-k) ([.i 0]:List AV)).flatten)]/\m=xs.length-k) _ _ _ ⟨0,ob,rfl,rfl,rfl⟩ (wk [0] (ZT fl) (e:=(rr (ls:=(List.replicate xs.length [AV.i 0]).flatten) (by rfl) rz))) ?_)))
 rintro m F h ⟨k,ZX,rfl,rfl,rfl⟩
 refine Y8 2 (iw (Yk xs) (ZN ((k:Int)<(xs.length:Int)) (fun Z5=>?_) (fun Z5=>?_)))
 ·refine ak (aq (ab 1 (az (Z1 4 ?_))))
  obtain ⟨x1,Z2⟩:=Zv xs k om
  exact Zg (Zq none (k:Int) 1 (Yc Z2)) (Z1 1 (Zg (J3 g1 xs.length xs.length k 1 (k:Int)) (AU 0 g1 xs.length xs.length 1 (k*1) [.i x1] (Zu (Zi (xs.take k))++(List.replicate (xs.length-k) ([.i 0]:List AV)).flatten) (Zu (Zi (xs.take k))++([AV.i x1]++(List.replicate (xs.length-(k+1)) ([.i 0]:List AV)).flatten)) (by rw [BX (a:=0) (q:=1) (by rw [Nj,Ko,AD ZX]) ZX rfl];simp;omega) (by rw [BY om];exact Ap (by rw [Nj,Ko,AD ZX]) rfl) (ie (az (Z1 1 (ZK k (Z0 (ZJ ⟨k+1,ob,rfl,rfl,rfl⟩ (wk [0] (ZL k fl) (e:=(rr (ls:=Zu (Zi (xs.take k))++([AV.i x1]++(List.replicate (xs.length-(k+1)) ([.i 0]:List AV)).flatten)) (Z9z Z2) rz))))))))))))
 exact ax 0 (Zf (Wl (JN 0 (.slice (some ⟨g1,0,none⟩) xs.length xs.length) 1 (Zu (Zi (xs.take k))++(List.replicate (xs.length-k) ([.i 0]:List AV)).flatten) (Zu (Zi xs)) (by rw [BW om,W2 om])) (AY 2 0 (v:=(⟨some ⟨g1,0,none⟩,xs.length,xs.length⟩:Hd)) (Zi xs) (Wq _) (ZG (r1 [0] ⟨(⟨some ⟨g1,0,none⟩,xs.length,xs.length⟩:Hd).v,rfl,rfl⟩)))))
theorem Zdd (x:Xp) (hl:T1 x<=1000000000:=by exact ob):Za 205 [KS x] [] (fun r h=>∃(y:X0),r=FA y/\h=[.many (Wd y)]/\y.er=x):=by
 refine Zx 9 Tryz.func205 (ar (iA (KH x) fun b1=>iA [nl] fun b2=>ie (ar (iA [nl] fun b3=>ie (ZB 2 [2] (ic [] (Fm x.fields (hl_xs:=(by have h:=hl;unfold T1 at h;omega))) ?_))))))
 rintro _ _ ⟨v1,rfl,rfl⟩
 exact Z1 1 (Y0 1 b3 [ZV x.fields v1] (ie (ZB 1 [0] (Y0 2 b2 [ZV x.fields v1] (ie (Wl (tB [2] [.tail v1 1] ((v1,1)::[]) (Wd (X0.mk x.fields v1)) (by simp [WN,WM,WV,WW,WX,WY,WU,Yx,YP,Xt,YS,X5,YZ,X2,Wd,We,Wf,Xe])) (ZG (r3 [0] [.agg [ZV x.fields v1]] [1] [(b2,b2)] ⟨(X0.mk x.fields v1),rfl,rfl,rfl⟩ (lr _)))))))))
theorem Zde (xs:List Xp) (hl:Uk xs<=1000000000:=by exact ob):Za 149 [JF xs] [] (fun r h=>∃(ys:List X0) (w:Value),r=JG ys w/\h=[.many (X5 ys),.tail w 1]/\ys.map X0.er=xs):=by
 refine Zx 23 Tryz.func149 (Zf (ZM 1 (iw (Vg xs) (BK xs.length [nl] 1 ?_ (hl:=(by have h:=hl;unfold Uk at h;omega))))))
 intro g1
 refine Z0 (Yj (ab 0 (Wl (tB [] [] [] (X5 []) (by simp [WN,WM,WV,WW,WX,WY,WU,Yx,YP,Xt,YS,X5,YZ,X2,Wd,We,Wf,Xe])) (ZR (fun fz gz m F h=>∃(k:Nat) (ys:List X0),(k<=xs.length)/\(ys.map X0.er=xs.take k)/\(ys.length=k)/\F=sF [0,3] fz [(4,.i k)]/\h=[.row (.slice (some ⟨g1,0,none⟩) xs.length xs.length) 1 (Zu (Wn ys)++(List.replicate (xs.length-k) ([nl]:List AV)).flatten),.many (X5 ys)]/\m=xs.length-k) _ _ _ ⟨0,[],ob,rfl,rfl,rfl,rfl,rfl⟩ (wk [1,0] (ZT fl) (e:=(rr (ls:=(List.replicate xs.length [nl]).flatten) (by rfl) (rc rz)))) ?_))))
 rintro m F h ⟨k,ys,ZX,Z9,Zz,rfl,rfl,rfl⟩
 refine Y8 2 (iw (Vg xs) (ZN ((k:Int)<(xs.length:Int)) (fun Z5=>?_) (fun Z5=>?_)))
 ·refine ak (aq (ab 1 (az (Z1 4 ?_))))
  obtain ⟨x1,Z2⟩:=Zv xs k om
  have hcl:=DT Z2
  have hl2:=hl
  unfold Uk at hl2
  refine Zg (Zq none (k:Int) 1 (Ky Z2)) (Z1 1 (ic [] (Zdd x1) ?_))
  rintro _ _ ⟨y1,rfl,rfl,Ya⟩
  have hy:=Ya
  exact Zg (J3 g1 xs.length xs.length k 1 (k:Int)) (AU 1 g1 xs.length xs.length 1 (k*1) (Ad y1) (Zu (Wn ys)++(List.replicate (xs.length-k) ([nl]:List AV)).flatten) (Zu (Wn ys)++(Ad y1++(List.replicate (xs.length-(k+1)) ([nl]:List AV)).flatten)) (by rw [BX (a:=0) (q:=1) (by rw [Ng,Zz]) ZX rfl];simp;omega) (by rw [BY om];exact Ap (by rw [Ng,Zz]) rfl) (T4 (tB [2,1] [.many (X5 ys),.many (Wd y1)] (X5 ys++(Wd y1++[])) (X5 (ys++[y1])) (by simp [WN,WM,WV,WW,WX,WY,WU,Yx,YP,Xt,YS,X5,YZ,X2,Wd,We,Wf,Xe])) (ie (az (Z1 1 (ZK k (Z0 (ZJ ⟨k+1,(ys++[y1]),ob,(CR Z9 Z2 hy),(by simp [Zz]),rfl,rfl,rfl⟩ (wk [1,0] (ZL k fl) (e:=(rr (ls:=Zu (Wn ys)++(Ad y1++(List.replicate (xs.length-(k+1)) ([nl]:List AV)).flatten)) Z9v (rc rz))))))))))))
 exact ax 0 (Zf (Wl (JN 0 (.slice (some ⟨g1,0,none⟩) xs.length xs.length) 1 (Zu (Wn ys)++(List.replicate (xs.length-k) ([nl]:List AV)).flatten) (Zu (Wn ys)) (BW om)) (AY 2 0 (v:=(⟨some ⟨g1,0,none⟩,xs.length,xs.length⟩:Hd)) (Wn ys) (GH _) (ZG (r1 [1,0] ⟨ys,(⟨some ⟨g1,0,none⟩,xs.length,xs.length⟩:Hd).v,rfl,rfl,(by rw [Z9,W2 om])⟩)))))
theorem Zdf (x:Zs) (hl:U0 x<=1000000000:=by exact ob):Za 90 [QT x] [] (fun r h=>∃(y:YM),r=FB y/\h=[.many (We y)]/\y.er=x):=by
 refine Zx 15 Tryz.func90 (ar (iA (Uc x) fun b1=>iA [.i 0,.i 0,nl] fun b2=>ie (ar (iA [.i 0,.i 0,nl] fun b3=>ie (ZB 3 [2] (Y0 0 b3 [.i x.frm,.i 0,nl] (ie (ZB 3 [2] (Y0 0 b3 [.i x.frm,.i x.to_,nl] (ie (ZB 2 [2] (ic [] (Zde x.cons (hl:=(by have h:=hl;unfold U0 at h;exact h))) ?_))))))))))))
 rintro _ _ ⟨ys1,w1,rfl,rfl,Ya⟩
 have hy:=Ya
 exact Z1 1 (Y0 2 b3 [.i x.frm,.i x.to_,JG ys1 w1] (ie (ZB 1 [0] (Y0 3 b2 [.i x.frm,.i x.to_,JG ys1 w1] (ie (Wl (tB [2,2] [.many (X5 ys1),.tail w1 1] (X5 ys1++((w1,1)::[])) (We (YM.mk x.frm x.to_ ys1 w1)) (by simp [WN,WM,WV,WW,WX,WY,WU,Yx,YP,Xt,YS,X5,YZ,X2,Wd,We,Wf,Xe])) (ZG (r3 [0] [.agg [.i x.frm,.i x.to_,JG ys1 w1]] [1] [(b2,b2)] ⟨(YM.mk x.frm x.to_ ys1 w1),rfl,rfl,(by show Zs.mk _ _ _=_;rw [hy])⟩ (lr _)))))))))
theorem Zdg (xs:List Zs) (hl:Vv xs<=1000000000:=by exact ob):Za 44 [ZI xs] [] (fun r h=>∃(ys:List YM) (w:Value),r=Kb ys w/\h=[.many (YZ ys),.tail w 3]/\ys.map YM.er=xs):=by
 refine Zx 23 Tryz.func44 (Zf (ZM 1 (iw (Vw xs) (BK xs.length [.i 0,.i 0,nl] 3 ?_ (hl:=(by have h:=hl;unfold Vv at h;omega))))))
 intro g1
 refine Z0 (Yj (ab 0 (Wl (tB [] [] [] (YZ []) (by simp [WN,WM,WV,WW,WX,WY,WU,Yx,YP,Xt,YS,X5,YZ,X2,Wd,We,Wf,Xe])) (ZR (fun fz gz m F h=>∃(k:Nat) (ys:List YM),(k<=xs.length)/\(ys.map YM.er=xs.take k)/\(ys.length=k)/\F=sF [0,3] fz [(4,.i k)]/\h=[.row (.slice (some ⟨g1,0,none⟩) xs.length xs.length) 3 (Zu (XR ys)++(List.replicate (xs.length-k) ([.i 0,.i 0,nl]:List AV)).flatten),.many (YZ ys)]/\m=xs.length-k) _ _ _ ⟨0,[],ob,rfl,rfl,rfl,rfl,rfl⟩ (wk [1,0] (ZT fl) (e:=(rr (ls:=(List.replicate xs.length [.i 0,.i 0,nl]).flatten) (by rfl) (rc rz)))) ?_))))
 rintro m F h ⟨k,ys,ZX,Z9,Zz,rfl,rfl,rfl⟩
 refine Y8 2 (iw (Vw xs) (ZN ((k:Int)<(xs.length:Int)) (fun Z5=>?_) (fun Z5=>?_)))
 ·refine ak (aq (ab 1 (az (Z1 4 ?_))))
  obtain ⟨x1,Z2⟩:=Zv xs k om
  have hcl:=E1 Z2
  have hl2:=hl
  unfold Vv at hl2
  refine Zg (Zq none (k:Int) 3 (Vh Z2)) (Z1 1 (ic [] (Zdf x1) ?_))
  rintro _ _ ⟨y1,rfl,rfl,Ya⟩
  have hy:=Ya
  exact Zg (J3 g1 xs.length xs.length k 3 (k:Int)) (AU 1 g1 xs.length xs.length 3 (k*3) (Ae y1) (Zu (XR ys)++(List.replicate (xs.length-k) ([.i 0,.i 0,nl]:List AV)).flatten) (Zu (XR ys)++(Ae y1++(List.replicate (xs.length-(k+1)) ([.i 0,.i 0,nl]:List AV)).flatten)) (by rw [BX (a:=0) (q:=3) (by rw [Js,Zz]) ZX rfl];simp;omega) (by rw [BY om];exact Ap (by rw [Js,Zz]) rfl) (T4 (tB [2,1] [.many (YZ ys),.many (We y1)] (YZ ys++(We y1++[])) (YZ (ys++[y1])) (by simp [WN,WM,WV,WW,WX,WY,WU,Yx,YP,Xt,YS,X5,YZ,X2,Wd,We,Wf,Xe])) (ie (az (Z1 1 (ZK k (Z0 (ZJ ⟨k+1,(ys++[y1]),ob,(CR Z9 Z2 hy),(by simp [Zz]),rfl,rfl,rfl⟩ (wk [1,0] (ZL k fl) (e:=(rr (ls:=Zu (XR ys)++(Ae y1++(List.replicate (xs.length-(k+1)) ([.i 0,.i 0,nl]:List AV)).flatten)) Z9w (rc rz))))))))))))
 exact ax 0 (Zf (Wl (JN 0 (.slice (some ⟨g1,0,none⟩) xs.length xs.length) 3 (Zu (XR ys)++(List.replicate (xs.length-k) ([.i 0,.i 0,nl]:List AV)).flatten) (Zu (XR ys)) (BW om)) (AY 2 0 (v:=(⟨some ⟨g1,0,none⟩,xs.length,xs.length⟩:Hd)) (XR ys) (GI _) (ZG (r1 [1,0] ⟨ys,(⟨some ⟨g1,0,none⟩,xs.length,xs.length⟩:Hd).v,rfl,rfl,(by rw [Z9,W2 om])⟩)))))
theorem Zdc (xs:List Zh) (hl:VY xs<=1000000000) (ih:∀(b2:Zh),(b2.sz<=Xl xs)->(b2.cst<=1000000000)->Za 151 [YC b2] [] (fun r h=>∃(y:ZS),r=Tk y/\h=[.many (YS y)]/\y.er=b2)):Za 286 [KI xs] [] (fun r h=>∃(ys:List ZS) (w:Value),r=TJ ys w/\h=[.many (YP ys),.tail w 2]/\ys.map ZS.er=xs):=by
 refine Zx 23 Tryz.func286 (Zf (ZM 1 (iw (Ua xs) (BK xs.length [nl,.i 0] 2 ?_ (hl:=(by have h:=hl;unfold VY at h;omega))))))
 intro g1
 refine Z0 (Yj (ab 0 (Wl (tB [] [] [] (YP []) (by simp [WN,WM,WV,WW,WX,WY,WU,Yx,YP,Xt,YS,X5,YZ,X2,Wd,We,Wf,Xe])) (ZR (fun fz gz m F h=>∃(k:Nat) (ys:List ZS),(k<=xs.length)/\(ys.map ZS.er=xs.take k)/\(ys.length=k)/\F=sF [0,3] fz [(4,.i k)]/\h=[.row (.slice (some ⟨g1,0,none⟩) xs.length xs.length) 2 (Zu (V2 ys)++(List.replicate (xs.length-k) ([nl,.i 0]:List AV)).flatten),.many (YP ys)]/\m=xs.length-k) _ _ _ ⟨0,[],ob,rfl,rfl,rfl,rfl,rfl⟩ (wk [1,0] (ZT fl) (e:=(rr (ls:=(List.replicate xs.length [nl,.i 0]).flatten) (by rfl) (rc rz)))) ?_))))
 rintro m F h ⟨k,ys,ZX,Z9,Zz,rfl,rfl,rfl⟩
 refine Y8 2 (iw (Ua xs) (ZN ((k:Int)<(xs.length:Int)) (fun Z5=>?_) (fun Z5=>?_)))
 ·refine ak (aq (ab 1 (az (Z1 4 ?_))))
  obtain ⟨x1,Z2⟩:=Zv xs k om
  have hcl:=G3 Z2
  have YD:=Bq Z2
  have hl2:=hl
  unfold VY at hl2
  refine Zg (Zq none (k:Int) 2 (TA Z2)) (Z1 1 (ic [] (ih x1 ob ob) ?_))
  rintro _ _ ⟨y1,rfl,rfl,Ya⟩
  have hy:=Ya
  exact Zg (J3 g1 xs.length xs.length k 2 (k:Int)) (AU 1 g1 xs.length xs.length 2 (k*2) (JB y1) (Zu (V2 ys)++(List.replicate (xs.length-k) ([nl,.i 0]:List AV)).flatten) (Zu (V2 ys)++(JB y1++(List.replicate (xs.length-(k+1)) ([nl,.i 0]:List AV)).flatten)) (by rw [BX (a:=0) (q:=2) (by rw [Nf,Zz]) ZX rfl];simp;omega) (by rw [BY om];exact Ap (by rw [Nf,Zz]) rfl) (T4 (tB [2,1] [.many (YP ys),.many (YS y1)] (YP ys++(YS y1++[])) (YP (ys++[y1])) (by simp [WN,WM,WV,WW,WX,WY,WU,Yx,YP,Xt,YS,X5,YZ,X2,Wd,We,Wf,Xe])) (ie (az (Z1 1 (ZK k (Z0 (ZJ ⟨k+1,(ys++[y1]),ob,(CR Z9 Z2 hy),(by simp [Zz]),rfl,rfl,rfl⟩ (wk [1,0] (ZL k fl) (e:=(rr (ls:=Zu (V2 ys)++(JB y1++(List.replicate (xs.length-(k+1)) ([nl,.i 0]:List AV)).flatten)) Z9u (rc rz))))))))))))
 exact ax 0 (Zf (Wl (JN 0 (.slice (some ⟨g1,0,none⟩) xs.length xs.length) 2 (Zu (V2 ys)++(List.replicate (xs.length-k) ([nl,.i 0]:List AV)).flatten) (Zu (V2 ys)) (BW om)) (AY 2 0 (v:=(⟨some ⟨g1,0,none⟩,xs.length,xs.length⟩:Hd)) (V2 ys) (GG _) (ZG (r1 [1,0] ⟨ys,(⟨some ⟨g1,0,none⟩,xs.length,xs.length⟩:Hd).v,rfl,rfl,(by rw [Z9,W2 om])⟩)))))
theorem Zdl (xs:List Z8) (hl:Uu xs<=1000000000) (ih:∀(s2:Z8),(s2.sz<=Y6 xs)->(s2.cst<=1000000000)->Za 241 [XO s2] [] (fun r h=>∃(y:ZU),r=Tw y/\h=[.many (Xt y)]/\y.er=s2)):Za 206 [VR xs] [] (fun r h=>∃(ys:List ZU) (w:Value),r=U3 ys w/\h=[.many (Yx ys),.tail w 5]/\ys.map ZU.er=xs):=by
 refine Zx 23 Tryz.func206 (Zf (ZM 1 (iw (T2 xs) (BK xs.length [.i 0,.i 0,.i 0,nl,nl] 5 ?_ (hl:=(by have h:=hl;unfold Uu at h;omega))))))
 intro g1
 refine Z0 (Yj (ab 0 (Wl (tB [] [] [] (Yx []) (by simp [WN,WM,WV,WW,WX,WY,WU,Yx,YP,Xt,YS,X5,YZ,X2,Wd,We,Wf,Xe])) (ZR (fun fz gz m F h=>∃(k:Nat) (ys:List ZU),(k<=xs.length)/\(ys.map ZU.er=xs.take k)/\(ys.length=k)/\F=sF [0,3] fz [(4,.i k)]/\h=[.row (.slice (some ⟨g1,0,none⟩) xs.length xs.length) 5 (Zu (WA ys)++(List.replicate (xs.length-k) ([.i 0,.i 0,.i 0,nl,nl]:List AV)).flatten),.many (Yx ys)]/\m=xs.length-k) _ _ _ ⟨0,[],ob,rfl,rfl,rfl,rfl,rfl⟩ (wk [1,0] (ZT fl) (e:=(rr (ls:=(List.replicate xs.length [.i 0,.i 0,.i 0,nl,nl]).flatten) (by rfl) (rc rz)))) ?_))))
 rintro m F h ⟨k,ys,ZX,Z9,Zz,rfl,rfl,rfl⟩
 refine Y8 2 (iw (T2 xs) (ZN ((k:Int)<(xs.length:Int)) (fun Z5=>?_) (fun Z5=>?_)))
 ·refine ak (aq (ab 1 (az (Z1 4 ?_))))
  obtain ⟨x1,Z2⟩:=Zv xs k om
  have hcl:=Ik Z2
  have YD:=Dd Z2
  have hl2:=hl
  unfold Uu at hl2
  refine Zg (Zq none (k:Int) 5 (U2 Z2)) (Z1 1 (ic [] (ih x1 ob ob) ?_))
  rintro _ _ ⟨y1,rfl,rfl,Ya⟩
  have hy:=Ya
  exact Zg (J3 g1 xs.length xs.length k 5 (k:Int)) (AU 1 g1 xs.length xs.length 5 (k*5) (Ag y1) (Zu (WA ys)++(List.replicate (xs.length-k) ([.i 0,.i 0,.i 0,nl,nl]:List AV)).flatten) (Zu (WA ys)++(Ag y1++(List.replicate (xs.length-(k+1)) ([.i 0,.i 0,.i 0,nl,nl]:List AV)).flatten)) (by rw [BX (a:=0) (q:=5) (by rw [Ni,Zz]) ZX rfl];simp;omega) (by rw [BY om];exact Ap (by rw [Ni,Zz]) rfl) (T4 (tB [2,1] [.many (Yx ys),.many (Xt y1)] (Yx ys++(Xt y1++[])) (Yx (ys++[y1])) (by simp [WN,WM,WV,WW,WX,WY,WU,Yx,YP,Xt,YS,X5,YZ,X2,Wd,We,Wf,Xe])) (ie (az (Z1 1 (ZK k (Z0 (ZJ ⟨k+1,(ys++[y1]),ob,(CR Z9 Z2 hy),(by simp [Zz]),rfl,rfl,rfl⟩ (wk [1,0] (ZL k fl) (e:=(rr (ls:=Zu (WA ys)++(Ag y1++(List.replicate (xs.length-(k+1)) ([.i 0,.i 0,.i 0,nl,nl]:List AV)).flatten)) Z9y (rc rz))))))))))))
 exact ax 0 (Zf (Wl (JN 0 (.slice (some ⟨g1,0,none⟩) xs.length xs.length) 5 (Zu (WA ys)++(List.replicate (xs.length-k) ([.i 0,.i 0,.i 0,nl,nl]:List AV)).flatten) (Zu (WA ys)) (BW om)) (AY 2 0 (v:=(⟨some ⟨g1,0,none⟩,xs.length,xs.length⟩:Hd)) (WA ys) (Cu _) (ZG (r1 [1,0] ⟨ys,(⟨some ⟨g1,0,none⟩,xs.length,xs.length⟩:Hd).v,rfl,rfl,(by rw [Z9,W2 om])⟩)))))
theorem Zdk (x:Z8) (hl:x.cst<=1000000000) (ih:∀(bs:List Zh),(Xl bs<x.sz)->(VY bs<=1000000000)->Za 286 [KI bs] [] (fun r h=>∃(ys:List ZS) (w:Value),r=TJ ys w/\h=[.many (YP ys),.tail w 2]/\ys.map ZS.er=bs)):Za 241 [XO x] [] (fun r h=>∃(y:ZU),r=Tw y/\h=[.many (Xt y)]/\y.er=x):=by
 have hce:=x.cst_eq
 have hse:=x.sz_eq
 have hbc:VY x.kids=x.kids.length+UA x.kids:=rfl
 refine Zx 22 Tryz.func241 (ar (iA (WO x) fun b1=>iA [.i 0,.i 0,.i 0,nl,nl] fun b2=>ie (ar (iA [.i 0,.i 0,.i 0,nl,nl] fun b3=>ie (ZB 3 [2] (Y0 0 b3 [.i x.op,.i 0,.i 0,nl,nl] (ie (ZB 3 [2] (Y0 0 b3 [.i x.op,.i x.num,.i 0,nl,nl] (ie (ZB 3 [2] (Y0 0 b3 [.i x.op,.i x.num,.i x.into,nl,nl] (ie (ZB 2 [2] (ic [] (Fm x.args) ?_)))))))))))))))
 rintro _ _ ⟨v1,rfl,rfl⟩
 refine Z1 1 (Y0 1 b3 [.i x.op,.i x.num,.i x.into,ZV x.args v1,nl] (ie (ZB 2 [3] (ic [] (ih x.kids ob ob) ?_))))
 rintro _ _ ⟨ys1,w1,rfl,rfl,Ya⟩
 have hy:=Ya
 exact Z1 1 (Y0 2 b3 [.i x.op,.i x.num,.i x.into,ZV x.args v1,TJ ys1 w1] (ie (ZB 1 [0] (Y0 4 b2 [.i x.op,.i x.num,.i x.into,ZV x.args v1,TJ ys1 w1] (ie (Wl (tB [4,2,2] [.tail v1 1,.many (YP ys1),.tail w1 2] ((v1,1)::(YP ys1++((w1,2)::[]))) (Xt (ZU.mk x.op x.num x.into x.args v1 ys1 w1)) (by simp [WN,WM,WV,WW,WX,WY,WU,Yx,YP,Xt,YS,X5,YZ,X2,Wd,We,Wf,Xe])) (ZG (r3 [0] [.agg [.i x.op,.i x.num,.i x.into,ZV x.args v1,TJ ys1 w1]] [1] [(b2,b2)] ⟨(ZU.mk x.op x.num x.into x.args v1 ys1 w1),rfl,rfl,(by rw [ZU.er,Ea,hy];cases x;rfl)⟩ (lr _)))))))))
theorem Zdb (x:Zh) (hl:x.cst<=1000000000) (ih:∀(ss:List Z8),(Y6 ss<x.sz)->(Uu ss<=1000000000)->Za 206 [VR ss] [] (fun r h=>∃(ys:List ZU) (w:Value),r=U3 ys w/\h=[.many (Yx ys),.tail w 5]/\ys.map ZU.er=ss)):Za 151 [YC x] [] (fun r h=>∃(y:ZS),r=Tk y/\h=[.many (YS y)]/\y.er=x):=by
 have hce:=x.cst_eq
 have hse:=x.sz_eq
 have hbc:Uu x.steps=x.steps.length+UF x.steps:=rfl
 refine Zx 12 Tryz.func151 (ar (iA (Vz x) fun b1=>iA [nl,.i 0] fun b2=>ie (ar (iA [nl,.i 0] fun b3=>ie (ZB 2 [2] (ic [] (ih x.steps ob ob) ?_))))))
 rintro _ _ ⟨ys1,w1,rfl,rfl,Ya⟩
 have hy:=Ya
 exact Z1 1 (Y0 2 b3 [U3 ys1 w1,.i 0] (ie (ZB 3 [4] (Y0 0 b3 [U3 ys1 w1,.i x.result] (ie (ZB 1 [0] (Y0 3 b2 [U3 ys1 w1,.i x.result] (ie (Wl (tB [2,2] [.many (Yx ys1),.tail w1 5] (Yx ys1++((w1,5)::[])) (YS (ZS.mk ys1 w1 x.result)) (by simp [WN,WM,WV,WW,WX,WY,WU,Yx,YP,Xt,YS,X5,YZ,X2,Wd,We,Wf,Xe])) (ZG (r3 [0] [.agg [U3 ys1 w1,.i x.result]] [1] [(b2,b2)] ⟨(ZS.mk ys1 w1 x.result),rfl,rfl,(by rw [ZS.er,Cz,hy];cases x;rfl)⟩ (lr _))))))))))))
theorem Zd9 (k:Nat):(∀(s:Z8),(s.sz<k)->(s.cst<=1000000000)->Za 241 [XO s] [] (fun r h=>∃(y:ZU),r=Tw y/\h=[.many (Xt y)]/\y.er=s))/\(∀(b:Zh),(b.sz<k)->(b.cst<=1000000000)->Za 151 [YC b] [] (fun r h=>∃(y:ZS),r=Tk y/\h=[.many (YS y)]/\y.er=b))/\(∀(ss:List Z8),(Y6 ss<k)->(Uu ss<=1000000000)->Za 206 [VR ss] [] (fun r h=>∃(ys:List ZU) (w:Value),r=U3 ys w/\h=[.many (Yx ys),.tail w 5]/\ys.map ZU.er=ss))/\(∀(bs:List Zh),(Xl bs<k)->(VY bs<=1000000000)->Za 286 [KI bs] [] (fun r h=>∃(ys:List ZS) (w:Value),r=TJ ys w/\h=[.many (YP ys),.tail w 2]/\ys.map ZS.er=bs)):=by
 induction k with
 | zero=>exact ⟨fun s h=>by omega,fun s h=>by omega,fun s h=>by omega,fun s h=>by omega⟩
 | succ k ih=>
  obtain ⟨i1,i2,i3,i4⟩:=ih
  have k1:∀(s:Z8),(s.sz<k+1)->(s.cst<=1000000000)->Za 241 [XO s] [] (fun r h=>∃(y:ZU),r=Tw y/\h=[.many (Xt y)]/\y.er=s):=fun s h hl=>Zdk s hl fun bs h2 h3=>i4 bs om h3
  have k2:∀(b:Zh),(b.sz<k+1)->(b.cst<=1000000000)->Za 151 [YC b] [] (fun r h=>∃(y:ZS),r=Tk y/\h=[.many (YS y)]/\y.er=b):=fun b h hl=>Zdb b hl fun ss h2 h3=>i3 ss om h3
  exact ⟨k1,k2,fun ss h hl=>Zdl ss hl fun s h2 h3=>k1 s om h3,fun bs h hl=>Zdc bs hl fun b h2 h3=>k2 b om h3⟩
theorem Zda (b:Zh) (hl:b.cst<=1000000000:=by exact ob):Za 151 [YC b] [] (fun r h=>∃(y:ZS),r=Tk y/\h=[.many (YS y)]/\y.er=b):=(Zd9 (b.sz+1)).2.1 b om hl
theorem Zdi (x:YB) (hl:VA x<=1000000000:=by exact ob):Za 91 [QU x] [] (fun r h=>∃(y:YN),r=FC y/\h=[.many (Wf y)]/\y.er=x):=by
 have hl2:=hl
 unfold VA at hl2
 refine Zx 20 Tryz.func91 (ar (iA (TH x) fun b1=>iA [nl,nl,.i 0,nl,.i 0] fun b2=>ie (ar (iA [nl,nl,.i 0,nl,.i 0] fun b3=>ie (ZB 2 [2] (ic [] (Fm x.params) ?_))))))
 rintro _ _ ⟨v1,rfl,rfl⟩
 refine Z1 1 (Y0 1 b3 [ZV x.params v1,nl,.i 0,nl,.i 0] (ie (ZB 2 [3] (ic [] (Fm x.lent) ?_))))
 rintro _ _ ⟨v2,rfl,rfl⟩
 refine Z1 1 (Y0 1 b3 [ZV x.params v1,ZV x.lent v2,.i 0,nl,.i 0] (ie (ZB 3 [4] (Y0 0 b3 [ZV x.params v1,ZV x.lent v2,.i x.result,nl,.i 0] (ie (ZB 2 [4] (ic [] (Zda x.body) ?_)))))))
 rintro _ _ ⟨y1,rfl,rfl,Ya⟩
 have hy:=Ya
 exact Z1 1 (Y0 1 b3 [ZV x.params v1,ZV x.lent v2,.i x.result,U3 y1.steps y1.sv,.i y1.result] (ie (ZB 1 [0] (Y0 4 b2 [ZV x.params v1,ZV x.lent v2,.i x.result,U3 y1.steps y1.sv,.i y1.result] (ie (Wl (tB [4,3,2] [.tail v1 1,.tail v2 1,.many (YS y1)] ((v1,1)::((v2,1)::(YS y1++[]))) (Wf (YN.mk x.params v1 x.lent v2 x.result (ZS.mk y1.steps y1.sv y1.result))) (by simp [WN,WM,WV,WW,WX,WY,WU,Yx,YP,Xt,YS,X5,YZ,X2,Wd,We,Wf,Xe,Ei,ZS.steps,ZS.sv])) (ZG (r3 [0] [.agg [ZV x.params v1,ZV x.lent v2,.i x.result,U3 y1.steps y1.sv,.i y1.result]] [1] [(b2,b2)] ⟨(YN.mk x.params v1 x.lent v2 x.result (ZS.mk y1.steps y1.sv y1.result)),rfl,rfl,(by show YB.mk _ _ _ (ZS.er (ZS.mk y1.steps y1.sv y1.result))=_;rw [ZS.eta,hy])⟩ (lr _)))))))))
theorem Zdj (xs:List YB) (hl:VT xs<=1000000000:=by exact ob):Za 45 [BS xs] [] (fun r h=>∃(ys:List YN) (w:Value),r=JH ys w/\h=[.many (X2 ys),.tail w 5]/\ys.map YN.er=xs):=by
 refine Zx 23 Tryz.func45 (Zf (ZM 1 (iw (UD xs) (BK xs.length [nl,nl,.i 0,nl,.i 0] 5 ?_ (hl:=(by have h:=hl;unfold VT at h;omega))))))
 intro g1
 refine Z0 (Yj (ab 0 (Wl (tB [] [] [] (X2 []) (by simp [WN,WM,WV,WW,WX,WY,WU,Yx,YP,Xt,YS,X5,YZ,X2,Wd,We,Wf,Xe])) (ZR (fun fz gz m F h=>∃(k:Nat) (ys:List YN),(k<=xs.length)/\(ys.map YN.er=xs.take k)/\(ys.length=k)/\F=sF [0,3] fz [(4,.i k)]/\h=[.row (.slice (some ⟨g1,0,none⟩) xs.length xs.length) 5 (Zu (V3 ys)++(List.replicate (xs.length-k) ([nl,nl,.i 0,nl,.i 0]:List AV)).flatten),.many (X2 ys)]/\m=xs.length-k) _ _ _ ⟨0,[],ob,rfl,rfl,rfl,rfl,rfl⟩ (wk [1,0] (ZT fl) (e:=(rr (ls:=(List.replicate xs.length [nl,nl,.i 0,nl,.i 0]).flatten) (by rfl) (rc rz)))) ?_))))
 rintro m F h ⟨k,ys,ZX,Z9,Zz,rfl,rfl,rfl⟩
 refine Y8 2 (iw (UD xs) (ZN ((k:Int)<(xs.length:Int)) (fun Z5=>?_) (fun Z5=>?_)))
 ·refine ak (aq (ab 1 (az (Z1 4 ?_))))
  obtain ⟨x1,Z2⟩:=Zv xs k om
  have hcl:=EY Z2
  have hl2:=hl
  unfold VT at hl2
  refine Zg (Zq none (k:Int) 5 (Um Z2)) (Z1 1 (ic [] (Zdi x1) ?_))
  rintro _ _ ⟨y1,rfl,rfl,Ya⟩
  have hy:=Ya
  exact Zg (J3 g1 xs.length xs.length k 5 (k:Int)) (AU 1 g1 xs.length xs.length 5 (k*5) (Af y1) (Zu (V3 ys)++(List.replicate (xs.length-k) ([nl,nl,.i 0,nl,.i 0]:List AV)).flatten) (Zu (V3 ys)++(Af y1++(List.replicate (xs.length-(k+1)) ([nl,nl,.i 0,nl,.i 0]:List AV)).flatten)) (by rw [BX (a:=0) (q:=5) (by rw [Nh,Zz]) ZX rfl];simp;omega) (by rw [BY om];exact Ap (by rw [Nh,Zz]) rfl) (T4 (tB [2,1] [.many (X2 ys),.many (Wf y1)] (X2 ys++(Wf y1++[])) (X2 (ys++[y1])) (by simp [WN,WM,WV,WW,WX,WY,WU,Yx,YP,Xt,YS,X5,YZ,X2,Wd,We,Wf,Xe])) (ie (az (Z1 1 (ZK k (Z0 (ZJ ⟨k+1,(ys++[y1]),ob,(CR Z9 Z2 hy),(by simp [Zz]),rfl,rfl,rfl⟩ (wk [1,0] (ZL k fl) (e:=(rr (ls:=Zu (V3 ys)++(Af y1++(List.replicate (xs.length-(k+1)) ([nl,nl,.i 0,nl,.i 0]:List AV)).flatten)) Z9x (rc rz))))))))))))
 exact ax 0 (Zf (Wl (JN 0 (.slice (some ⟨g1,0,none⟩) xs.length xs.length) 5 (Zu (V3 ys)++(List.replicate (xs.length-k) ([nl,nl,.i 0,nl,.i 0]:List AV)).flatten) (Zu (V3 ys)) (BW om)) (AY 2 0 (v:=(⟨some ⟨g1,0,none⟩,xs.length,xs.length⟩:Hd)) (V3 ys) (E4 _) (ZG (r1 [1,0] ⟨ys,(⟨some ⟨g1,0,none⟩,xs.length,xs.length⟩:Hd).v,rfl,rfl,(by rw [Z9,W2 om])⟩)))))
theorem B9 (x:Zl) (hl:Wj x<=1000000000):Za 17 [X3 x] [] (fun r h=>∃(y:X4),r=VE y/\h=[.many (Xe y)]/\y.er=x):=by
 have hl2:=hl
 unfold Wj at hl2
 refine Zx 13 Tryz.func17 (ar (iA (W8 x) fun b1=>iA [nl,nl] fun b2=>ie (ar (iA [nl,nl] fun b3=>ie (ZB 2 [2] (ic [] (Zdg x.decls) ?_))))))
 rintro _ _ ⟨ys1,w1,rfl,rfl,Ya⟩
 have hy1:=Ya
 refine Z1 1 (Y0 2 b3 [Kb ys1 w1,nl] (ie (ZB 2 [4] (ic [] (Zdj x.routines) ?_))))
 rintro _ _ ⟨ys2,w2,rfl,rfl,YT⟩
 have hy2:=YT
 exact Z1 1 (Y0 2 b3 [Kb ys1 w1,JH ys2 w2] (ie (ZB 1 [0] (Y0 5 b2 [Kb ys1 w1,JH ys2 w2] (ie (Wl (tB [4,4,2,2] [.many (YZ ys1),.tail w1 3,.many (X2 ys2),.tail w2 5] (YZ ys1++((w1,3)::(X2 ys2++((w2,5)::[])))) (Xe (X4.mk ys1 w1 ys2 w2)) (by simp [WN,WM,WV,WW,WX,WY,WU,Yx,YP,Xt,YS,X5,YZ,X2,Wd,We,Wf,Xe])) (ZG (r3 [0] [.agg [Kb ys1 w1,JH ys2 w2]] [1] [(b2,b2)] ⟨(X4.mk ys1 w1 ys2 w2),rfl,rfl,(by rw [X4.er];simp only [hy1,hy2])⟩ (lr _)))))))))
end Go.Abs
