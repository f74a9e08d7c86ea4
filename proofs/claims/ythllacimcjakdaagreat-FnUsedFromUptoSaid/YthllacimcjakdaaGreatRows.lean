/-
  No cell of these rows narrows 'for every input' (looked for: loops, veiled, ifaces, maps, wideKeys, modest, calm, conditions, laid).
  DERIVED. THE GIVEN ROWS OF THIS SEAT. 12 by the template 'for every input the law returns true; each argument reads behind the call as it read before'; 0 by the template 'total and deterministic' (their statements: YthllacimcjakdaaGreatTotals.lean).
  GIVEN WITH THE SEED: the statements are not yours to turn. If you find one false, say at which input.
  Laid BY PROGRAM, IN A SANDBOX (cutbox-rows.mjs): the forced cells as the released guide's own fill.sh prints them over the translation de1673ea0b140480… (all of the seat's roots in one cut). By AI agents, Wed Nov 11 2026. No macro, syntax, notation, axiom, sorry.
-/
import Derived.Test.YthllacimcjakdaaGreatChecked
import GoSem.Claim
import GoSem.ClaimJoined
import GoSem.ClaimMapViews
import Derived.JoinedTies
import Derived.KernelRfl
namespace Go.Proofs.YthllacimcjakdaaGreat
/- THE CELL 'sum', in the pinned program and in every row, IS THE sha256 OF THE DUMP (.gsa) THAT YthllacimcjakdaaGreatProg.lean LOADS. Nothing in Lean hashes anything: it is a label: what it is worth is what the hold of that sum in a sandbox is worth. -/
noncomputable def Tryz.pinned : Pinned := { name := "ythllacimcjakdaagreat", sum := "de1673ea0b140480b6448c226b6f608cc83eb8ca91acc1bf1fccb00e4652195e", checked := Tryz.checked }
namespace Rows
def none {H : Type} : Left H := { results := [], args := [] }

/-- 'laws.FnBlockType': WHATEVER THE INPUT: true; the input reads as it did. -/
def fnBlockTypeSpec : ChangeSpec := { name := "fnBlockType", fn := fun _ => fun
  | [d] => { results := [.lit (.bool true)], args := [d] }
  | _ => none }
def fnBlockTypeRow : OpenClaim := { program := "ythllacimcjakdaagreat", sum := "de1673ea0b140480b6448c226b6f608cc83eb8ca91acc1bf1fccb00e4652195e", func := "loop.example/refcountml/laws.FnBlockType", spec := "fnBlockType", recurses := true, apart := false }
def FnBlockTypeSaid : Prop := fnBlockTypeRow.holds Tryz.pinned (OpenSpec.ofChange fnBlockTypeSpec)

/-- ITS FALSE NEIGHBOUR: 'it returns false'. Refute it at one input. -/
def fnBlockTypeWrong : ChangeSpec := { name := "fnBlockType", fn := fun _ => fun
  | [d] => { results := [.lit (.bool false)], args := [d] }
  | _ => none }
def FnBlockTypeWrongFalsely : Prop := fnBlockTypeRow.holds Tryz.pinned (OpenSpec.ofChange fnBlockTypeWrong)

/-- 'laws.FnValidNormal': WHATEVER THE INPUT: true; the input reads as it did. -/
def fnValidNormalSpec : ChangeSpec := { name := "fnValidNormal", fn := fun _ => fun
  | [d] => { results := [.lit (.bool true)], args := [d] }
  | _ => none }
def fnValidNormalRow : OpenClaim := { program := "ythllacimcjakdaagreat", sum := "de1673ea0b140480b6448c226b6f608cc83eb8ca91acc1bf1fccb00e4652195e", func := "loop.example/refcountml/laws.FnValidNormal", spec := "fnValidNormal", recurses := true, apart := false }
def FnValidNormalSaid : Prop := fnValidNormalRow.holds Tryz.pinned (OpenSpec.ofChange fnValidNormalSpec)

/-- ITS FALSE NEIGHBOUR: 'it returns false'. Refute it at one input. -/
def fnValidNormalWrong : ChangeSpec := { name := "fnValidNormal", fn := fun _ => fun
  | [d] => { results := [.lit (.bool false)], args := [d] }
  | _ => none }
def FnValidNormalWrongFalsely : Prop := fnValidNormalRow.holds Tryz.pinned (OpenSpec.ofChange fnValidNormalWrong)

/-- 'laws.FnBlockTypeStep': WHATEVER THE INPUT: true; the input reads as it did. -/
def fnBlockTypeStepSpec : ChangeSpec := { name := "fnBlockTypeStep", fn := fun _ => fun
  | [d] => { results := [.lit (.bool true)], args := [d] }
  | _ => none }
def fnBlockTypeStepRow : OpenClaim := { program := "ythllacimcjakdaagreat", sum := "de1673ea0b140480b6448c226b6f608cc83eb8ca91acc1bf1fccb00e4652195e", func := "loop.example/refcountml/laws.FnBlockTypeStep", spec := "fnBlockTypeStep", recurses := true, apart := false }
def FnBlockTypeStepSaid : Prop := fnBlockTypeStepRow.holds Tryz.pinned (OpenSpec.ofChange fnBlockTypeStepSpec)

/-- ITS FALSE NEIGHBOUR: 'it returns false'. Refute it at one input. -/
def fnBlockTypeStepWrong : ChangeSpec := { name := "fnBlockTypeStep", fn := fun _ => fun
  | [d] => { results := [.lit (.bool false)], args := [d] }
  | _ => none }
def FnBlockTypeStepWrongFalsely : Prop := fnBlockTypeStepRow.holds Tryz.pinned (OpenSpec.ofChange fnBlockTypeStepWrong)

/-- 'laws.FnCountsOf': WHATEVER THE INPUT: true; the input reads as it did. -/
def fnCountsOfSpec : ChangeSpec := { name := "fnCountsOf", fn := fun _ => fun
  | [d] => { results := [.lit (.bool true)], args := [d] }
  | _ => none }
def fnCountsOfRow : OpenClaim := { program := "ythllacimcjakdaagreat", sum := "de1673ea0b140480b6448c226b6f608cc83eb8ca91acc1bf1fccb00e4652195e", func := "loop.example/refcountml/laws.FnCountsOf", spec := "fnCountsOf", unfollowed := true, recurses := true, apart := false }
def FnCountsOfSaid : Prop := fnCountsOfRow.holds Tryz.pinned (OpenSpec.ofChange fnCountsOfSpec)

/-- ITS FALSE NEIGHBOUR: 'it returns false'. Refute it at one input. -/
def fnCountsOfWrong : ChangeSpec := { name := "fnCountsOf", fn := fun _ => fun
  | [d] => { results := [.lit (.bool false)], args := [d] }
  | _ => none }
def FnCountsOfWrongFalsely : Prop := fnCountsOfRow.holds Tryz.pinned (OpenSpec.ofChange fnCountsOfWrong)

/-- 'laws.FnIsPlainCounts': WHATEVER THE INPUT: true; the input reads as it did. -/
def fnIsPlainCountsSpec : ChangeSpec := { name := "fnIsPlainCounts", fn := fun _ => fun
  | [d] => { results := [.lit (.bool true)], args := [d] }
  | _ => none }
def fnIsPlainCountsRow : OpenClaim := { program := "ythllacimcjakdaagreat", sum := "de1673ea0b140480b6448c226b6f608cc83eb8ca91acc1bf1fccb00e4652195e", func := "loop.example/refcountml/laws.FnIsPlainCounts", spec := "fnIsPlainCounts", unfollowed := true, recurses := true, apart := false }
def FnIsPlainCountsSaid : Prop := fnIsPlainCountsRow.holds Tryz.pinned (OpenSpec.ofChange fnIsPlainCountsSpec)

/-- ITS FALSE NEIGHBOUR: 'it returns false'. Refute it at one input. -/
def fnIsPlainCountsWrong : ChangeSpec := { name := "fnIsPlainCounts", fn := fun _ => fun
  | [d] => { results := [.lit (.bool false)], args := [d] }
  | _ => none }
def FnIsPlainCountsWrongFalsely : Prop := fnIsPlainCountsRow.holds Tryz.pinned (OpenSpec.ofChange fnIsPlainCountsWrong)

/-- 'laws.FnUsedInMore': WHATEVER THE INPUT: true; the input reads as it did. -/
def fnUsedInMoreSpec : ChangeSpec := { name := "fnUsedInMore", fn := fun _ => fun
  | [d] => { results := [.lit (.bool true)], args := [d] }
  | _ => none }
def fnUsedInMoreRow : OpenClaim := { program := "ythllacimcjakdaagreat", sum := "de1673ea0b140480b6448c226b6f608cc83eb8ca91acc1bf1fccb00e4652195e", func := "loop.example/refcountml/laws.FnUsedInMore", spec := "fnUsedInMore", unfollowed := true, recurses := true, apart := false }
def FnUsedInMoreSaid : Prop := fnUsedInMoreRow.holds Tryz.pinned (OpenSpec.ofChange fnUsedInMoreSpec)

/-- ITS FALSE NEIGHBOUR: 'it returns false'. Refute it at one input. -/
def fnUsedInMoreWrong : ChangeSpec := { name := "fnUsedInMore", fn := fun _ => fun
  | [d] => { results := [.lit (.bool false)], args := [d] }
  | _ => none }
def FnUsedInMoreWrongFalsely : Prop := fnUsedInMoreRow.holds Tryz.pinned (OpenSpec.ofChange fnUsedInMoreWrong)

/-- 'laws.FnPlainOf': WHATEVER THE INPUT: true; the input reads as it did. -/
def fnPlainOfSpec : ChangeSpec := { name := "fnPlainOf", fn := fun _ => fun
  | [d] => { results := [.lit (.bool true)], args := [d] }
  | _ => none }
def fnPlainOfRow : OpenClaim := { program := "ythllacimcjakdaagreat", sum := "de1673ea0b140480b6448c226b6f608cc83eb8ca91acc1bf1fccb00e4652195e", func := "loop.example/refcountml/laws.FnPlainOf", spec := "fnPlainOf", unfollowed := true, recurses := true, apart := false }
def FnPlainOfSaid : Prop := fnPlainOfRow.holds Tryz.pinned (OpenSpec.ofChange fnPlainOfSpec)

/-- ITS FALSE NEIGHBOUR: 'it returns false'. Refute it at one input. -/
def fnPlainOfWrong : ChangeSpec := { name := "fnPlainOf", fn := fun _ => fun
  | [d] => { results := [.lit (.bool false)], args := [d] }
  | _ => none }
def FnPlainOfWrongFalsely : Prop := fnPlainOfRow.holds Tryz.pinned (OpenSpec.ofChange fnPlainOfWrong)

/-- 'laws.FnUsedFromStep': WHATEVER THE INPUT: true; the input reads as it did. -/
def fnUsedFromStepSpec : ChangeSpec := { name := "fnUsedFromStep", fn := fun _ => fun
  | [d] => { results := [.lit (.bool true)], args := [d] }
  | _ => none }
def fnUsedFromStepRow : OpenClaim := { program := "ythllacimcjakdaagreat", sum := "de1673ea0b140480b6448c226b6f608cc83eb8ca91acc1bf1fccb00e4652195e", func := "loop.example/refcountml/laws.FnUsedFromStep", spec := "fnUsedFromStep", unfollowed := true, recurses := true, apart := false }
def FnUsedFromStepSaid : Prop := fnUsedFromStepRow.holds Tryz.pinned (OpenSpec.ofChange fnUsedFromStepSpec)

/-- ITS FALSE NEIGHBOUR: 'it returns false'. Refute it at one input. -/
def fnUsedFromStepWrong : ChangeSpec := { name := "fnUsedFromStep", fn := fun _ => fun
  | [d] => { results := [.lit (.bool false)], args := [d] }
  | _ => none }
def FnUsedFromStepWrongFalsely : Prop := fnUsedFromStepRow.holds Tryz.pinned (OpenSpec.ofChange fnUsedFromStepWrong)

/-- 'laws.FnUsedIn': WHATEVER THE INPUT: true; the input reads as it did. -/
def fnUsedInSpec : ChangeSpec := { name := "fnUsedIn", fn := fun _ => fun
  | [d] => { results := [.lit (.bool true)], args := [d] }
  | _ => none }
def fnUsedInRow : OpenClaim := { program := "ythllacimcjakdaagreat", sum := "de1673ea0b140480b6448c226b6f608cc83eb8ca91acc1bf1fccb00e4652195e", func := "loop.example/refcountml/laws.FnUsedIn", spec := "fnUsedIn", unfollowed := true, recurses := true, apart := false }
def FnUsedInSaid : Prop := fnUsedInRow.holds Tryz.pinned (OpenSpec.ofChange fnUsedInSpec)

/-- ITS FALSE NEIGHBOUR: 'it returns false'. Refute it at one input. -/
def fnUsedInWrong : ChangeSpec := { name := "fnUsedIn", fn := fun _ => fun
  | [d] => { results := [.lit (.bool false)], args := [d] }
  | _ => none }
def FnUsedInWrongFalsely : Prop := fnUsedInRow.holds Tryz.pinned (OpenSpec.ofChange fnUsedInWrong)

/-- 'laws.FnIsPlain': WHATEVER THE INPUT: true; the input reads as it did. -/
def fnIsPlainSpec : ChangeSpec := { name := "fnIsPlain", fn := fun _ => fun
  | [d] => { results := [.lit (.bool true)], args := [d] }
  | _ => none }
def fnIsPlainRow : OpenClaim := { program := "ythllacimcjakdaagreat", sum := "de1673ea0b140480b6448c226b6f608cc83eb8ca91acc1bf1fccb00e4652195e", func := "loop.example/refcountml/laws.FnIsPlain", spec := "fnIsPlain", unfollowed := true, recurses := true, apart := false }
def FnIsPlainSaid : Prop := fnIsPlainRow.holds Tryz.pinned (OpenSpec.ofChange fnIsPlainSpec)

/-- ITS FALSE NEIGHBOUR: 'it returns false'. Refute it at one input. -/
def fnIsPlainWrong : ChangeSpec := { name := "fnIsPlain", fn := fun _ => fun
  | [d] => { results := [.lit (.bool false)], args := [d] }
  | _ => none }
def FnIsPlainWrongFalsely : Prop := fnIsPlainRow.holds Tryz.pinned (OpenSpec.ofChange fnIsPlainWrong)

/-- 'laws.FnPlainOfSteps': WHATEVER THE INPUT: true; the input reads as it did. -/
def fnPlainOfStepsSpec : ChangeSpec := { name := "fnPlainOfSteps", fn := fun _ => fun
  | [d] => { results := [.lit (.bool true)], args := [d] }
  | _ => none }
def fnPlainOfStepsRow : OpenClaim := { program := "ythllacimcjakdaagreat", sum := "de1673ea0b140480b6448c226b6f608cc83eb8ca91acc1bf1fccb00e4652195e", func := "loop.example/refcountml/laws.FnPlainOfSteps", spec := "fnPlainOfSteps", unfollowed := true, recurses := true, apart := false }
def FnPlainOfStepsSaid : Prop := fnPlainOfStepsRow.holds Tryz.pinned (OpenSpec.ofChange fnPlainOfStepsSpec)

/-- ITS FALSE NEIGHBOUR: 'it returns false'. Refute it at one input. -/
def fnPlainOfStepsWrong : ChangeSpec := { name := "fnPlainOfSteps", fn := fun _ => fun
  | [d] => { results := [.lit (.bool false)], args := [d] }
  | _ => none }
def FnPlainOfStepsWrongFalsely : Prop := fnPlainOfStepsRow.holds Tryz.pinned (OpenSpec.ofChange fnPlainOfStepsWrong)

/-- 'laws.FnUsedFrom': WHATEVER THE INPUT: true; the input reads as it did. -/
def fnUsedFromSpec : ChangeSpec := { name := "fnUsedFrom", fn := fun _ => fun
  | [d] => { results := [.lit (.bool true)], args := [d] }
  | _ => none }
def fnUsedFromRow : OpenClaim := { program := "ythllacimcjakdaagreat", sum := "de1673ea0b140480b6448c226b6f608cc83eb8ca91acc1bf1fccb00e4652195e", func := "loop.example/refcountml/laws.FnUsedFrom", spec := "fnUsedFrom", unfollowed := true, recurses := true, apart := false }
def FnUsedFromSaid : Prop := fnUsedFromRow.holds Tryz.pinned (OpenSpec.ofChange fnUsedFromSpec)

/-- ITS FALSE NEIGHBOUR: 'it returns false'. Refute it at one input. -/
def fnUsedFromWrong : ChangeSpec := { name := "fnUsedFrom", fn := fun _ => fun
  | [d] => { results := [.lit (.bool false)], args := [d] }
  | _ => none }
def FnUsedFromWrongFalsely : Prop := fnUsedFromRow.holds Tryz.pinned (OpenSpec.ofChange fnUsedFromWrong)

/- THE SECOND FORM. 'bulk': how many values and letters a reading holds, each counted each time it is reached (what is shared counts as often as it is met; a slice's spare places count too). A statement '..UptoSaid' is the law's where the arguments, and the package variables that the reading takes, are together of bulk at most 1048576: NARROWER than '..Said'. Prove '..Said' where nothing that the law and all that it calls make is longer than what came in: it says more and counts as full. Else prove '..UptoSaid'. A law counts once. -/
mutual
def uptoBulk {H : Type} : DataW H → Nat
  | .lit (.string bytes) => bytes.length + 1
  | .lit _ => 1
  | .nil => 1
  | .ptr d => uptoBulk d + 1
  | .slice elems spare => uptoBulkAll elems + uptoBulkAll spare + 1
  | .agg parts => uptoBulkAll parts + 1
  | .iface _ d => uptoBulk d + 1
  | .map entries => uptoBulkEntries entries + 1
  | .held _ => 1
def uptoBulkAll {H : Type} : List (DataW H) → Nat
  | [] => 0
  | d :: r => uptoBulk d + uptoBulkAll r
def uptoBulkEntries {H : Type} : List (Lit × DataW H) → Nat
  | [] => 0
  | x :: r => uptoBulkEntry x + uptoBulkEntries r
def uptoBulkEntry {H : Type} : Lit × DataW H → Nat
  | (.string bytes, d) => bytes.length + uptoBulk d + 1
  | (_, d) => uptoBulk d + 1
 end
def uptoSmall : (H : Type) → List (DataW H) → Bool := fun _ ds => decide (uptoBulkAll ds ≤ 1048576)
def OpenSpec.upto (s : _root_.Go.ChangeSpec) : _root_.Go.OpenSpec := { _root_.Go.OpenSpec.ofChange s with cond := some uptoSmall }

/-- 'laws.FnBlockType', WHERE WHAT IT READS IS OF BULK AT MOST 1048576: true; the input reads as it did. -/
def fnBlockTypeUptoRow : OpenClaim := { program := "ythllacimcjakdaagreat", sum := "de1673ea0b140480b6448c226b6f608cc83eb8ca91acc1bf1fccb00e4652195e", func := "loop.example/refcountml/laws.FnBlockType", spec := "fnBlockType", recurses := true, apart := false, narrowed := true }
def FnBlockTypeUptoSaid : Prop := fnBlockTypeUptoRow.holds Tryz.pinned (OpenSpec.upto fnBlockTypeSpec)

/-- 'laws.FnValidNormal', WHERE WHAT IT READS IS OF BULK AT MOST 1048576: true; the input reads as it did. -/
def fnValidNormalUptoRow : OpenClaim := { program := "ythllacimcjakdaagreat", sum := "de1673ea0b140480b6448c226b6f608cc83eb8ca91acc1bf1fccb00e4652195e", func := "loop.example/refcountml/laws.FnValidNormal", spec := "fnValidNormal", recurses := true, apart := false, narrowed := true }
def FnValidNormalUptoSaid : Prop := fnValidNormalUptoRow.holds Tryz.pinned (OpenSpec.upto fnValidNormalSpec)

/-- 'laws.FnBlockTypeStep', WHERE WHAT IT READS IS OF BULK AT MOST 1048576: true; the input reads as it did. -/
def fnBlockTypeStepUptoRow : OpenClaim := { program := "ythllacimcjakdaagreat", sum := "de1673ea0b140480b6448c226b6f608cc83eb8ca91acc1bf1fccb00e4652195e", func := "loop.example/refcountml/laws.FnBlockTypeStep", spec := "fnBlockTypeStep", recurses := true, apart := false, narrowed := true }
def FnBlockTypeStepUptoSaid : Prop := fnBlockTypeStepUptoRow.holds Tryz.pinned (OpenSpec.upto fnBlockTypeStepSpec)

/-- 'laws.FnCountsOf', WHERE WHAT IT READS IS OF BULK AT MOST 1048576: true; the input reads as it did. -/
def fnCountsOfUptoRow : OpenClaim := { program := "ythllacimcjakdaagreat", sum := "de1673ea0b140480b6448c226b6f608cc83eb8ca91acc1bf1fccb00e4652195e", func := "loop.example/refcountml/laws.FnCountsOf", spec := "fnCountsOf", unfollowed := true, recurses := true, apart := false, narrowed := true }
def FnCountsOfUptoSaid : Prop := fnCountsOfUptoRow.holds Tryz.pinned (OpenSpec.upto fnCountsOfSpec)

/-- 'laws.FnIsPlainCounts', WHERE WHAT IT READS IS OF BULK AT MOST 1048576: true; the input reads as it did. -/
def fnIsPlainCountsUptoRow : OpenClaim := { program := "ythllacimcjakdaagreat", sum := "de1673ea0b140480b6448c226b6f608cc83eb8ca91acc1bf1fccb00e4652195e", func := "loop.example/refcountml/laws.FnIsPlainCounts", spec := "fnIsPlainCounts", unfollowed := true, recurses := true, apart := false, narrowed := true }
def FnIsPlainCountsUptoSaid : Prop := fnIsPlainCountsUptoRow.holds Tryz.pinned (OpenSpec.upto fnIsPlainCountsSpec)

/-- 'laws.FnUsedInMore', WHERE WHAT IT READS IS OF BULK AT MOST 1048576: true; the input reads as it did. -/
def fnUsedInMoreUptoRow : OpenClaim := { program := "ythllacimcjakdaagreat", sum := "de1673ea0b140480b6448c226b6f608cc83eb8ca91acc1bf1fccb00e4652195e", func := "loop.example/refcountml/laws.FnUsedInMore", spec := "fnUsedInMore", unfollowed := true, recurses := true, apart := false, narrowed := true }
def FnUsedInMoreUptoSaid : Prop := fnUsedInMoreUptoRow.holds Tryz.pinned (OpenSpec.upto fnUsedInMoreSpec)

/-- 'laws.FnPlainOf', WHERE WHAT IT READS IS OF BULK AT MOST 1048576: true; the input reads as it did. -/
def fnPlainOfUptoRow : OpenClaim := { program := "ythllacimcjakdaagreat", sum := "de1673ea0b140480b6448c226b6f608cc83eb8ca91acc1bf1fccb00e4652195e", func := "loop.example/refcountml/laws.FnPlainOf", spec := "fnPlainOf", unfollowed := true, recurses := true, apart := false, narrowed := true }
def FnPlainOfUptoSaid : Prop := fnPlainOfUptoRow.holds Tryz.pinned (OpenSpec.upto fnPlainOfSpec)

/-- 'laws.FnUsedFromStep', WHERE WHAT IT READS IS OF BULK AT MOST 1048576: true; the input reads as it did. -/
def fnUsedFromStepUptoRow : OpenClaim := { program := "ythllacimcjakdaagreat", sum := "de1673ea0b140480b6448c226b6f608cc83eb8ca91acc1bf1fccb00e4652195e", func := "loop.example/refcountml/laws.FnUsedFromStep", spec := "fnUsedFromStep", unfollowed := true, recurses := true, apart := false, narrowed := true }
def FnUsedFromStepUptoSaid : Prop := fnUsedFromStepUptoRow.holds Tryz.pinned (OpenSpec.upto fnUsedFromStepSpec)

/-- 'laws.FnUsedIn', WHERE WHAT IT READS IS OF BULK AT MOST 1048576: true; the input reads as it did. -/
def fnUsedInUptoRow : OpenClaim := { program := "ythllacimcjakdaagreat", sum := "de1673ea0b140480b6448c226b6f608cc83eb8ca91acc1bf1fccb00e4652195e", func := "loop.example/refcountml/laws.FnUsedIn", spec := "fnUsedIn", unfollowed := true, recurses := true, apart := false, narrowed := true }
def FnUsedInUptoSaid : Prop := fnUsedInUptoRow.holds Tryz.pinned (OpenSpec.upto fnUsedInSpec)

/-- 'laws.FnIsPlain', WHERE WHAT IT READS IS OF BULK AT MOST 1048576: true; the input reads as it did. -/
def fnIsPlainUptoRow : OpenClaim := { program := "ythllacimcjakdaagreat", sum := "de1673ea0b140480b6448c226b6f608cc83eb8ca91acc1bf1fccb00e4652195e", func := "loop.example/refcountml/laws.FnIsPlain", spec := "fnIsPlain", unfollowed := true, recurses := true, apart := false, narrowed := true }
def FnIsPlainUptoSaid : Prop := fnIsPlainUptoRow.holds Tryz.pinned (OpenSpec.upto fnIsPlainSpec)

/-- 'laws.FnPlainOfSteps', WHERE WHAT IT READS IS OF BULK AT MOST 1048576: true; the input reads as it did. -/
def fnPlainOfStepsUptoRow : OpenClaim := { program := "ythllacimcjakdaagreat", sum := "de1673ea0b140480b6448c226b6f608cc83eb8ca91acc1bf1fccb00e4652195e", func := "loop.example/refcountml/laws.FnPlainOfSteps", spec := "fnPlainOfSteps", unfollowed := true, recurses := true, apart := false, narrowed := true }
def FnPlainOfStepsUptoSaid : Prop := fnPlainOfStepsUptoRow.holds Tryz.pinned (OpenSpec.upto fnPlainOfStepsSpec)

/-- 'laws.FnUsedFrom', WHERE WHAT IT READS IS OF BULK AT MOST 1048576: true; the input reads as it did. -/
def fnUsedFromUptoRow : OpenClaim := { program := "ythllacimcjakdaagreat", sum := "de1673ea0b140480b6448c226b6f608cc83eb8ca91acc1bf1fccb00e4652195e", func := "loop.example/refcountml/laws.FnUsedFrom", spec := "fnUsedFrom", unfollowed := true, recurses := true, apart := false, narrowed := true }
def FnUsedFromUptoSaid : Prop := fnUsedFromUptoRow.holds Tryz.pinned (OpenSpec.upto fnUsedFromSpec)

end Rows
end Go.Proofs.YthllacimcjakdaaGreat
