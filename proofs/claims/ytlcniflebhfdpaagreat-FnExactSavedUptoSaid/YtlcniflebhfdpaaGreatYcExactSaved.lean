/-
  FnExactSavedUptoSaid: the law FnExactSaved returns true at every argument of bulk at most 1048576, and the argument reads behind the call as it read before.
-/
import Derived.Test.YtlcniflebhfdpaaGreatYcE
import Derived.Test.YtlcniflebhfdpaaGreatRows
import Derived.WalkKit
import Derived.ProofKit
import Derived.OpenShut
import Derived.JoinedCond
import Derived.ReadAgain
set_option linter.all false
set_option linter.unusedVariables false
set_option linter.unusedSimpArgs false
set_option linter.unusedSectionVars false
set_option maxRecDepth 10000
set_option maxHeartbeats 4000000
section
namespace Go.Proofs.YtlcniflebhfdpaaGreat.fnExactSaved
open Go.ChangeShapes Go.WideShapes Go.ChangeAt Go.RowKit Go.Abs
theorem own:ownKnob Tryz.prog.godebug=none:=by kernel_rfl
theorem kids:Kids Tryz.prog (·<Tryz.prog.types.size):=kids_rows kr kr
theorem GY:∀t e,t<Tryz.prog.types.size->Tryz.prog.underlying t=some (.slice e)->0<Tryz.prog.cellsOf e:=slices_full_of Tryz.prog kr
theorem FU {v:Value} (h:v.cells.toList.length=2):v=.agg v.cells:=by
 cases v<;>first|rfl|(simp [Value.cells] at h)
theorem D9 {w w':World} {G G':ZE} {h':List Res} (hx:Yr w G [] w' G' h'):∀b,b<w.heap.size->w'.heap[b]? = w.heap[b]?:=
 fun b hb=>(hx.same b hb).eq fun o ⟨r,hr,_⟩=>by cases hr
theorem Gh {w w':World} {b o:Nat} (h:w'.heap[b]? = w.heap[b]?):w'.cell? ⟨b,o,none⟩=w.cell? ⟨b,o,none⟩:=by simp [World.cell?,h]
theorem HH {t:Nat} (h:Nat.blt t Tryz.prog.types.size=true):t<Tryz.prog.types.size:=Nat.le_of_ble_eq_true h
theorem Gq (H:Type) (enc:TypeId × Value->H) (W:World) (base:Nat) (args:Array Value) (ds gs:List (DataW H)) (before:List MemPlace) (hkb:Rows.uptoSmall H (ds++gs)=true)
  (hW:DataW.Whole enc Tryz.prog Tryz.f5.params.toList Rows.fnExactSavedSpec.vars false W args.toList ds gs before) :
  Calls Tryz.prog 5 args W fun e W'=>∃v,e=.returned v/\Rows.fnExactSavedSpec.post enc Tryz.prog Tryz.f5 false true false false W args v W':=by
 have hW':=hW
 obtain ⟨p,q,hA0,hV,rfl,hfz,hnd⟩:=hW
 have hA:DataW.TrodAll enc Tryz.prog W 0 (fun _=>true) true Tryz.f5.params.toList args.toList ds p:=hA0
 rw [Tryz.params5] at hA
 obtain ⟨v0,vs0,d0,ds0,p0,q0,hargs,rfl,rfl,h0,r0⟩:=trodAll_cons hA
 obtain ⟨rfl,rfl,rfl⟩:=trodAll_nil r0
 obtain rfl:args=#[v0]:=by cases args;simp_all
 obtain ⟨rfl,rfl⟩:=trodVars_none hV
 obtain ⟨fuel,htr⟩:=h0
 obtain ⟨a,hrc,YD,hrg⟩:=Pk htr
 have hb:Rows.uptoBulkAll ([d0]++[])<=1048576:=of_decide_eq_true hkb
 simp only [List.append_nil,Rows.uptoBulkAll] at hb
 have YD:Wj a<=Rows.uptoBulk d0:=YD
 have hv0:v0=.agg v0.cells:=FU (by rw [hrc.length];rfl)
 have hrv:RV W (GA W) (X3 a) v0:=by
  rw [hv0]
  have:=RV.agg hrc
  simpa using this
 have hh:ZW W (GA W) []:=⟨(fun r hr=>by cases hr),List.Pairwise.nil,(fun r hr=>by cases hr),fun b o hg=>hg⟩
 refine (Z6t a om hrg W (GA W) [v0] (.cons hrv .nil) hh).mono ?_
 rintro e W' ⟨v,r,h',G',rfl,⟨rfl,rfl⟩,hv,hh',hx⟩
 have hvb:=hv.val_inv
 subst hvb
 refine ⟨_,rfl,[d0],[],p0++[]++[],[],p0++[],[],hW',?_,?_,rfl,?_,(fun h=>by cases h)⟩
 ·exact trodAll_cons_mk (shut_bool Tryz.underlying4 _) trodAll_mk0
 ·have X6:∀b,b<W.heap.size->W'.heap[b]? = W.heap[b]?:=D9 hx
  have hlt:=hW'.lt
  have hcar:DataW.TrodAll enc Tryz.prog W' 0 (fun _=>true) true Tryz.f5.params.toList [v0] [d0] (p0++[]):=by
   rw [Tryz.params5]
   refine ⟨p0,[],⟨fuel,DataW.trod_carry fuel 40 _ _ htr fun y hy=>?_⟩,rfl,rfl⟩
   have hyl:=hlt y (by simpa using hy)
   cases y with
   | cell b o=>exact Gh (X6 b hyl)
   | map b=>exact X6 b hyl
  exact DataW.TrodAll.respare kids GY (by rw [Tryz.params5];intro t ht;rw [List.mem_singleton.1 ht];exact HH kr) hcar (fun y hy=>by have:=hlt y (by simpa using hy);simpa using this)
 ·refine ⟨hx.os,hx.output,fun i hi=>?_⟩
  rw [D9 hx i hi]
  cases W.heap[i]? with
  | none=>rfl
  | some o=>cases o<;>first | rfl | exact ⟨rfl,rfl,rfl,fun _ _=>rfl⟩ | exact .inr ⟨rfl,rfl⟩
set_option maxRecDepth 100000 in
theorem HA (os:Os) (started:os.Started) (H:Type) (enc:TypeId × Value->H) (F:Stop.Interp) :
  ReturnsInHanded {} Tryz.checked os 5 .any ((Rows.OpenSpec.upto Rows.fnExactSavedSpec).pre6 enc Tryz.prog Tryz.f5 Rows.fnExactSavedUptoRow.domain false) (((Rows.OpenSpec.upto Rows.fnExactSavedSpec).at F).post enc Tryz.prog Tryz.f5 false true false false):=by
 refine returnsInHanded_of_cond (C:=Tryz.checked) (s:=Rows.OpenSpec.upto Rows.fnExactSavedSpec) (k:=Rows.uptoSmall) rfl own started kr Tryz.func5
  (OpenSpec.witness (enc:=enc) (C:=Tryz.checked) (s:=Rows.OpenSpec.upto Rows.fnExactSavedSpec) (k:=Rows.uptoSmall) rfl false ⟨#[],#[.agg #[.slice none 0 0,.slice none 0 0]],[]⟩ 8 kr kr kr
   (x:=([.agg [.nil,.nil]],[],[])) kr rfl kr) ?_
 intro W base args ds gs before hval hW _ hk _
 exact Gq H enc W base args ds gs before hk hW
theorem FV {a b:Bool} (ha:a=true) (hb:b=true):(a&&b)=true:=by rw [ha,hb];rfl
set_option maxHeartbeats 4000000 in
theorem Gk:joinedFacts Tryz.pinned.checked.prog 5 Tryz.f5 (Rows.OpenSpec.upto Rows.fnExactSavedSpec).bare Rows.fnExactSavedUptoRow=true:=by
 unfold joinedFacts
 iterate 31 refine FV ?_ (by as_aux_lemma=>kernel_rfl)
 as_aux_lemma=>kernel_rfl
theorem HV:Rows.fnExactSavedUptoRow.holds Tryz.pinned (Rows.OpenSpec.upto Rows.fnExactSavedSpec):=
 OpenClaim.holds_of_cond 5 Tryz.f5 rfl rfl rfl rfl rfl rfl rfl ⟨rfl,rfl,rfl,rfl,rfl⟩ rfl rfl rfl rfl rfl (by as_aux_lemma=>kernel_rfl) Tryz.func5 Gk
  (of_decide_eq_true kr) (by unfold Func.isWrapper;first|(rw [if_pos (by decide +kernel)];kernel_rfl)|(rw [if_neg (by decide +kernel)];exact ⟨rfl,rfl⟩))
  (fun os started H enc _ F=>HA os started H enc F)
theorem proved:Rows.FnExactSavedUptoSaid:=
 HV
#print axioms proved
end Go.Proofs.YtlcniflebhfdpaaGreat.fnExactSaved
end
