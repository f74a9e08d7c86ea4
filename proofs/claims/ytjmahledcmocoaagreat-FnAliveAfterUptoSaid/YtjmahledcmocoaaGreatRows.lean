/-
  No cell of these rows narrows 'for every input' (looked for: loops, veiled, ifaces, maps, wideKeys, modest, calm, conditions, laid).
  DERIVED. THE GIVEN ROWS OF THIS SEAT. 12 by the template 'for every input the law returns true; each argument reads behind the call as it read before'; 0 by the template 'total and deterministic' (their statements: YtjmahledcmocoaaGreatTotals.lean).
  GIVEN WITH THE SEED: the statements are not yours to turn. If you find one false, say at which input.
  Laid BY PROGRAM, IN A SANDBOX (cutbox-rows.mjs): the forced cells as the released guide's own fill.sh prints them over the translation 3383295879b1de40… (all of the seat's roots in one cut). By AI agents, Wed Nov 11 2026. No macro, syntax, notation, axiom, sorry.
-/
import Derived.Test.YtjmahledcmocoaaGreatChecked
import GoSem.Claim
import GoSem.ClaimJoined
import GoSem.ClaimMapViews
import Derived.JoinedTies
import Derived.KernelRfl
namespace Go.Proofs.YtjmahledcmocoaaGreat
/- THE CELL 'sum', in the pinned program and in every row, IS THE sha256 OF THE DUMP (.gsa) THAT YtjmahledcmocoaaGreatProg.lean LOADS. Nothing in Lean hashes anything: it is a label: what it is worth is what the hold of that sum in a sandbox is worth. -/
noncomputable def Tryz.pinned : Pinned := { name := "ytjmahledcmocoaagreat", sum := "3383295879b1de40270bd936b2502b9ed0e8f6d67ff991199a2f522cf90097c8", checked := Tryz.checked }
namespace Rows
def none {H : Type} : Left H := { results := [], args := [] }

/-- 'laws.FnUnlend': WHATEVER THE INPUT: true; the input reads as it did. -/
def fnUnlendSpec : ChangeSpec := { name := "fnUnlend", fn := fun _ => fun
  | [d] => { results := [.lit (.bool true)], args := [d] }
  | _ => none }
def fnUnlendRow : OpenClaim := { program := "ytjmahledcmocoaagreat", sum := "3383295879b1de40270bd936b2502b9ed0e8f6d67ff991199a2f522cf90097c8", func := "loop.example/refcountml/laws.FnUnlend", spec := "fnUnlend", unfollowed := true, recurses := true, apart := false }
def FnUnlendSaid : Prop := fnUnlendRow.holds Tryz.pinned (OpenSpec.ofChange fnUnlendSpec)

/-- ITS FALSE NEIGHBOUR: 'it returns false'. Refute it at one input. -/
def fnUnlendWrong : ChangeSpec := { name := "fnUnlend", fn := fun _ => fun
  | [d] => { results := [.lit (.bool false)], args := [d] }
  | _ => none }
def FnUnlendWrongFalsely : Prop := fnUnlendRow.holds Tryz.pinned (OpenSpec.ofChange fnUnlendWrong)

/-- 'laws.FnUsesOf': WHATEVER THE INPUT: true; the input reads as it did. -/
def fnUsesOfSpec : ChangeSpec := { name := "fnUsesOf", fn := fun _ => fun
  | [d] => { results := [.lit (.bool true)], args := [d] }
  | _ => none }
def fnUsesOfRow : OpenClaim := { program := "ytjmahledcmocoaagreat", sum := "3383295879b1de40270bd936b2502b9ed0e8f6d67ff991199a2f522cf90097c8", func := "loop.example/refcountml/laws.FnUsesOf", spec := "fnUsesOf", unfollowed := true, recurses := true, apart := false }
def FnUsesOfSaid : Prop := fnUsesOfRow.holds Tryz.pinned (OpenSpec.ofChange fnUsesOfSpec)

/-- ITS FALSE NEIGHBOUR: 'it returns false'. Refute it at one input. -/
def fnUsesOfWrong : ChangeSpec := { name := "fnUsesOf", fn := fun _ => fun
  | [d] => { results := [.lit (.bool false)], args := [d] }
  | _ => none }
def FnUsesOfWrongFalsely : Prop := fnUsesOfRow.holds Tryz.pinned (OpenSpec.ofChange fnUsesOfWrong)

/-- 'laws.FnLastUse': WHATEVER THE INPUT: true; the input reads as it did. -/
def fnLastUseSpec : ChangeSpec := { name := "fnLastUse", fn := fun _ => fun
  | [d] => { results := [.lit (.bool true)], args := [d] }
  | _ => none }
def fnLastUseRow : OpenClaim := { program := "ytjmahledcmocoaagreat", sum := "3383295879b1de40270bd936b2502b9ed0e8f6d67ff991199a2f522cf90097c8", func := "loop.example/refcountml/laws.FnLastUse", spec := "fnLastUse", unfollowed := true, recurses := true, apart := false }
def FnLastUseSaid : Prop := fnLastUseRow.holds Tryz.pinned (OpenSpec.ofChange fnLastUseSpec)

/-- ITS FALSE NEIGHBOUR: 'it returns false'. Refute it at one input. -/
def fnLastUseWrong : ChangeSpec := { name := "fnLastUse", fn := fun _ => fun
  | [d] => { results := [.lit (.bool false)], args := [d] }
  | _ => none }
def FnLastUseWrongFalsely : Prop := fnLastUseRow.holds Tryz.pinned (OpenSpec.ofChange fnLastUseWrong)

/-- 'laws.FnBalanced': WHATEVER THE INPUT: true; the input reads as it did. -/
def fnBalancedSpec : ChangeSpec := { name := "fnBalanced", fn := fun _ => fun
  | [d] => { results := [.lit (.bool true)], args := [d] }
  | _ => none }
def fnBalancedRow : OpenClaim := { program := "ytjmahledcmocoaagreat", sum := "3383295879b1de40270bd936b2502b9ed0e8f6d67ff991199a2f522cf90097c8", func := "loop.example/refcountml/laws.FnBalanced", spec := "fnBalanced", inPlace := ["slices.overlaps[int]"], unfollowed := true, recurses := true, apart := false }
def FnBalancedSaid : Prop := fnBalancedRow.holds Tryz.pinned (OpenSpec.ofChange fnBalancedSpec)

/-- ITS FALSE NEIGHBOUR: 'it returns false'. Refute it at one input. -/
def fnBalancedWrong : ChangeSpec := { name := "fnBalanced", fn := fun _ => fun
  | [d] => { results := [.lit (.bool false)], args := [d] }
  | _ => none }
def FnBalancedWrongFalsely : Prop := fnBalancedRow.holds Tryz.pinned (OpenSpec.ofChange fnBalancedWrong)

/-- 'laws.FnOwnedAfterStep': WHATEVER THE INPUT: true; the input reads as it did. -/
def fnOwnedAfterStepSpec : ChangeSpec := { name := "fnOwnedAfterStep", fn := fun _ => fun
  | [d] => { results := [.lit (.bool true)], args := [d] }
  | _ => none }
def fnOwnedAfterStepRow : OpenClaim := { program := "ytjmahledcmocoaagreat", sum := "3383295879b1de40270bd936b2502b9ed0e8f6d67ff991199a2f522cf90097c8", func := "loop.example/refcountml/laws.FnOwnedAfterStep", spec := "fnOwnedAfterStep", inPlace := ["slices.overlaps[int]"], unfollowed := true, recurses := true, apart := false }
def FnOwnedAfterStepSaid : Prop := fnOwnedAfterStepRow.holds Tryz.pinned (OpenSpec.ofChange fnOwnedAfterStepSpec)

/-- ITS FALSE NEIGHBOUR: 'it returns false'. Refute it at one input. -/
def fnOwnedAfterStepWrong : ChangeSpec := { name := "fnOwnedAfterStep", fn := fun _ => fun
  | [d] => { results := [.lit (.bool false)], args := [d] }
  | _ => none }
def FnOwnedAfterStepWrongFalsely : Prop := fnOwnedAfterStepRow.holds Tryz.pinned (OpenSpec.ofChange fnOwnedAfterStepWrong)

/-- 'laws.FnOwnedAfter': WHATEVER THE INPUT: true; the input reads as it did. -/
def fnOwnedAfterSpec : ChangeSpec := { name := "fnOwnedAfter", fn := fun _ => fun
  | [d] => { results := [.lit (.bool true)], args := [d] }
  | _ => none }
def fnOwnedAfterRow : OpenClaim := { program := "ytjmahledcmocoaagreat", sum := "3383295879b1de40270bd936b2502b9ed0e8f6d67ff991199a2f522cf90097c8", func := "loop.example/refcountml/laws.FnOwnedAfter", spec := "fnOwnedAfter", inPlace := ["slices.overlaps[int]"], unfollowed := true, recurses := true, apart := false }
def FnOwnedAfterSaid : Prop := fnOwnedAfterRow.holds Tryz.pinned (OpenSpec.ofChange fnOwnedAfterSpec)

/-- ITS FALSE NEIGHBOUR: 'it returns false'. Refute it at one input. -/
def fnOwnedAfterWrong : ChangeSpec := { name := "fnOwnedAfter", fn := fun _ => fun
  | [d] => { results := [.lit (.bool false)], args := [d] }
  | _ => none }
def FnOwnedAfterWrongFalsely : Prop := fnOwnedAfterRow.holds Tryz.pinned (OpenSpec.ofChange fnOwnedAfterWrong)

/-- 'laws.FnKeptAfter': WHATEVER THE INPUT: true; the input reads as it did. -/
def fnKeptAfterSpec : ChangeSpec := { name := "fnKeptAfter", fn := fun _ => fun
  | [d] => { results := [.lit (.bool true)], args := [d] }
  | _ => none }
def fnKeptAfterRow : OpenClaim := { program := "ytjmahledcmocoaagreat", sum := "3383295879b1de40270bd936b2502b9ed0e8f6d67ff991199a2f522cf90097c8", func := "loop.example/refcountml/laws.FnKeptAfter", spec := "fnKeptAfter", inPlace := ["slices.overlaps[int]"], unfollowed := true, recurses := true, apart := false }
def FnKeptAfterSaid : Prop := fnKeptAfterRow.holds Tryz.pinned (OpenSpec.ofChange fnKeptAfterSpec)

/-- ITS FALSE NEIGHBOUR: 'it returns false'. Refute it at one input. -/
def fnKeptAfterWrong : ChangeSpec := { name := "fnKeptAfter", fn := fun _ => fun
  | [d] => { results := [.lit (.bool false)], args := [d] }
  | _ => none }
def FnKeptAfterWrongFalsely : Prop := fnKeptAfterRow.holds Tryz.pinned (OpenSpec.ofChange fnKeptAfterWrong)

/-- 'laws.FnKeptAfterEnd': WHATEVER THE INPUT: true; the input reads as it did. -/
def fnKeptAfterEndSpec : ChangeSpec := { name := "fnKeptAfterEnd", fn := fun _ => fun
  | [d] => { results := [.lit (.bool true)], args := [d] }
  | _ => none }
def fnKeptAfterEndRow : OpenClaim := { program := "ytjmahledcmocoaagreat", sum := "3383295879b1de40270bd936b2502b9ed0e8f6d67ff991199a2f522cf90097c8", func := "loop.example/refcountml/laws.FnKeptAfterEnd", spec := "fnKeptAfterEnd", inPlace := ["slices.overlaps[int]"], unfollowed := true, recurses := true, apart := false }
def FnKeptAfterEndSaid : Prop := fnKeptAfterEndRow.holds Tryz.pinned (OpenSpec.ofChange fnKeptAfterEndSpec)

/-- ITS FALSE NEIGHBOUR: 'it returns false'. Refute it at one input. -/
def fnKeptAfterEndWrong : ChangeSpec := { name := "fnKeptAfterEnd", fn := fun _ => fun
  | [d] => { results := [.lit (.bool false)], args := [d] }
  | _ => none }
def FnKeptAfterEndWrongFalsely : Prop := fnKeptAfterEndRow.holds Tryz.pinned (OpenSpec.ofChange fnKeptAfterEndWrong)

/-- 'laws.FnKeptAfterInto': WHATEVER THE INPUT: true; the input reads as it did. -/
def fnKeptAfterIntoSpec : ChangeSpec := { name := "fnKeptAfterInto", fn := fun _ => fun
  | [d] => { results := [.lit (.bool true)], args := [d] }
  | _ => none }
def fnKeptAfterIntoRow : OpenClaim := { program := "ytjmahledcmocoaagreat", sum := "3383295879b1de40270bd936b2502b9ed0e8f6d67ff991199a2f522cf90097c8", func := "loop.example/refcountml/laws.FnKeptAfterInto", spec := "fnKeptAfterInto", inPlace := ["slices.overlaps[int]"], unfollowed := true, recurses := true, apart := false }
def FnKeptAfterIntoSaid : Prop := fnKeptAfterIntoRow.holds Tryz.pinned (OpenSpec.ofChange fnKeptAfterIntoSpec)

/-- ITS FALSE NEIGHBOUR: 'it returns false'. Refute it at one input. -/
def fnKeptAfterIntoWrong : ChangeSpec := { name := "fnKeptAfterInto", fn := fun _ => fun
  | [d] => { results := [.lit (.bool false)], args := [d] }
  | _ => none }
def FnKeptAfterIntoWrongFalsely : Prop := fnKeptAfterIntoRow.holds Tryz.pinned (OpenSpec.ofChange fnKeptAfterIntoWrong)

/-- 'laws.FnOwnedAfterEnd': WHATEVER THE INPUT: true; the input reads as it did. -/
def fnOwnedAfterEndSpec : ChangeSpec := { name := "fnOwnedAfterEnd", fn := fun _ => fun
  | [d] => { results := [.lit (.bool true)], args := [d] }
  | _ => none }
def fnOwnedAfterEndRow : OpenClaim := { program := "ytjmahledcmocoaagreat", sum := "3383295879b1de40270bd936b2502b9ed0e8f6d67ff991199a2f522cf90097c8", func := "loop.example/refcountml/laws.FnOwnedAfterEnd", spec := "fnOwnedAfterEnd", inPlace := ["slices.overlaps[int]"], unfollowed := true, recurses := true, apart := false }
def FnOwnedAfterEndSaid : Prop := fnOwnedAfterEndRow.holds Tryz.pinned (OpenSpec.ofChange fnOwnedAfterEndSpec)

/-- ITS FALSE NEIGHBOUR: 'it returns false'. Refute it at one input. -/
def fnOwnedAfterEndWrong : ChangeSpec := { name := "fnOwnedAfterEnd", fn := fun _ => fun
  | [d] => { results := [.lit (.bool false)], args := [d] }
  | _ => none }
def FnOwnedAfterEndWrongFalsely : Prop := fnOwnedAfterEndRow.holds Tryz.pinned (OpenSpec.ofChange fnOwnedAfterEndWrong)

/-- 'laws.FnBalancedRoutine': WHATEVER THE INPUT: true; the input reads as it did. -/
def fnBalancedRoutineSpec : ChangeSpec := { name := "fnBalancedRoutine", fn := fun _ => fun
  | [d] => { results := [.lit (.bool true)], args := [d] }
  | _ => none }
def fnBalancedRoutineRow : OpenClaim := { program := "ytjmahledcmocoaagreat", sum := "3383295879b1de40270bd936b2502b9ed0e8f6d67ff991199a2f522cf90097c8", func := "loop.example/refcountml/laws.FnBalancedRoutine", spec := "fnBalancedRoutine", inPlace := ["slices.overlaps[int]"], unfollowed := true, recurses := true, apart := false }
def FnBalancedRoutineSaid : Prop := fnBalancedRoutineRow.holds Tryz.pinned (OpenSpec.ofChange fnBalancedRoutineSpec)

/-- ITS FALSE NEIGHBOUR: 'it returns false'. Refute it at one input. -/
def fnBalancedRoutineWrong : ChangeSpec := { name := "fnBalancedRoutine", fn := fun _ => fun
  | [d] => { results := [.lit (.bool false)], args := [d] }
  | _ => none }
def FnBalancedRoutineWrongFalsely : Prop := fnBalancedRoutineRow.holds Tryz.pinned (OpenSpec.ofChange fnBalancedRoutineWrong)

/-- 'laws.FnAliveAfter': WHATEVER THE INPUT: true; the input reads as it did. -/
def fnAliveAfterSpec : ChangeSpec := { name := "fnAliveAfter", fn := fun _ => fun
  | [d] => { results := [.lit (.bool true)], args := [d] }
  | _ => none }
def fnAliveAfterRow : OpenClaim := { program := "ytjmahledcmocoaagreat", sum := "3383295879b1de40270bd936b2502b9ed0e8f6d67ff991199a2f522cf90097c8", func := "loop.example/refcountml/laws.FnAliveAfter", spec := "fnAliveAfter", inPlace := ["slices.overlaps[int]"], unfollowed := true, recurses := true, apart := false }
def FnAliveAfterSaid : Prop := fnAliveAfterRow.holds Tryz.pinned (OpenSpec.ofChange fnAliveAfterSpec)

/-- ITS FALSE NEIGHBOUR: 'it returns false'. Refute it at one input. -/
def fnAliveAfterWrong : ChangeSpec := { name := "fnAliveAfter", fn := fun _ => fun
  | [d] => { results := [.lit (.bool false)], args := [d] }
  | _ => none }
def FnAliveAfterWrongFalsely : Prop := fnAliveAfterRow.holds Tryz.pinned (OpenSpec.ofChange fnAliveAfterWrong)

/- THE SECOND FORM. 'bulk': how many values and letters a reading holds, each counted each time it is reached (what is shared counts as often as it is met; a slice's spare places count too). A statement '..UptoSaid' is the law's where the arguments, and the package variables that the reading takes, are together of bulk at most 1048576: NARROWER than '..Said'. Prove '..Said' where nothing that the law and all that it calls make is longer than what came in: it says more and counts as full. Else prove '..UptoSaid'. A law counts once. -/
mutual
def uptoBulk {H : Type} : DataW H → Nat
  | .lit (.string bytes) => bytes.length + 1
  | .lit _ => 1
  | .nil => 1
  | .ptr d => uptoBulk d + 1
  | .slice elems spare => uptoBulkAll elems + uptoBulkAll spare + 1
  | .agg parts => uptoBulkAll parts + 1
  | .iface _ d => uptoBulk d + 1
  | .map entries => uptoBulkEntries entries + 1
  | .held _ => 1
def uptoBulkAll {H : Type} : List (DataW H) → Nat
  | [] => 0
  | d :: r => uptoBulk d + uptoBulkAll r
def uptoBulkEntries {H : Type} : List (Lit × DataW H) → Nat
  | [] => 0
  | x :: r => uptoBulkEntry x + uptoBulkEntries r
def uptoBulkEntry {H : Type} : Lit × DataW H → Nat
  | (.string bytes, d) => bytes.length + uptoBulk d + 1
  | (_, d) => uptoBulk d + 1
 end
def uptoSmall : (H : Type) → List (DataW H) → Bool := fun _ ds => decide (uptoBulkAll ds ≤ 1048576)
def OpenSpec.upto (s : _root_.Go.ChangeSpec) : _root_.Go.OpenSpec := { _root_.Go.OpenSpec.ofChange s with cond := some uptoSmall }

/-- 'laws.FnUnlend', WHERE WHAT IT READS IS OF BULK AT MOST 1048576: true; the input reads as it did. -/
def fnUnlendUptoRow : OpenClaim := { program := "ytjmahledcmocoaagreat", sum := "3383295879b1de40270bd936b2502b9ed0e8f6d67ff991199a2f522cf90097c8", func := "loop.example/refcountml/laws.FnUnlend", spec := "fnUnlend", unfollowed := true, recurses := true, apart := false, narrowed := true }
def FnUnlendUptoSaid : Prop := fnUnlendUptoRow.holds Tryz.pinned (OpenSpec.upto fnUnlendSpec)

/-- 'laws.FnUsesOf', WHERE WHAT IT READS IS OF BULK AT MOST 1048576: true; the input reads as it did. -/
def fnUsesOfUptoRow : OpenClaim := { program := "ytjmahledcmocoaagreat", sum := "3383295879b1de40270bd936b2502b9ed0e8f6d67ff991199a2f522cf90097c8", func := "loop.example/refcountml/laws.FnUsesOf", spec := "fnUsesOf", unfollowed := true, recurses := true, apart := false, narrowed := true }
def FnUsesOfUptoSaid : Prop := fnUsesOfUptoRow.holds Tryz.pinned (OpenSpec.upto fnUsesOfSpec)

/-- 'laws.FnLastUse', WHERE WHAT IT READS IS OF BULK AT MOST 1048576: true; the input reads as it did. -/
def fnLastUseUptoRow : OpenClaim := { program := "ytjmahledcmocoaagreat", sum := "3383295879b1de40270bd936b2502b9ed0e8f6d67ff991199a2f522cf90097c8", func := "loop.example/refcountml/laws.FnLastUse", spec := "fnLastUse", unfollowed := true, recurses := true, apart := false, narrowed := true }
def FnLastUseUptoSaid : Prop := fnLastUseUptoRow.holds Tryz.pinned (OpenSpec.upto fnLastUseSpec)

/-- 'laws.FnBalanced', WHERE WHAT IT READS IS OF BULK AT MOST 1048576: true; the input reads as it did. -/
def fnBalancedUptoRow : OpenClaim := { program := "ytjmahledcmocoaagreat", sum := "3383295879b1de40270bd936b2502b9ed0e8f6d67ff991199a2f522cf90097c8", func := "loop.example/refcountml/laws.FnBalanced", spec := "fnBalanced", inPlace := ["slices.overlaps[int]"], unfollowed := true, recurses := true, apart := false, narrowed := true }
def FnBalancedUptoSaid : Prop := fnBalancedUptoRow.holds Tryz.pinned (OpenSpec.upto fnBalancedSpec)

/-- 'laws.FnOwnedAfterStep', WHERE WHAT IT READS IS OF BULK AT MOST 1048576: true; the input reads as it did. -/
def fnOwnedAfterStepUptoRow : OpenClaim := { program := "ytjmahledcmocoaagreat", sum := "3383295879b1de40270bd936b2502b9ed0e8f6d67ff991199a2f522cf90097c8", func := "loop.example/refcountml/laws.FnOwnedAfterStep", spec := "fnOwnedAfterStep", inPlace := ["slices.overlaps[int]"], unfollowed := true, recurses := true, apart := false, narrowed := true }
def FnOwnedAfterStepUptoSaid : Prop := fnOwnedAfterStepUptoRow.holds Tryz.pinned (OpenSpec.upto fnOwnedAfterStepSpec)

/-- 'laws.FnOwnedAfter', WHERE WHAT IT READS IS OF BULK AT MOST 1048576: true; the input reads as it did. -/
def fnOwnedAfterUptoRow : OpenClaim := { program := "ytjmahledcmocoaagreat", sum := "3383295879b1de40270bd936b2502b9ed0e8f6d67ff991199a2f522cf90097c8", func := "loop.example/refcountml/laws.FnOwnedAfter", spec := "fnOwnedAfter", inPlace := ["slices.overlaps[int]"], unfollowed := true, recurses := true, apart := false, narrowed := true }
def FnOwnedAfterUptoSaid : Prop := fnOwnedAfterUptoRow.holds Tryz.pinned (OpenSpec.upto fnOwnedAfterSpec)

/-- 'laws.FnKeptAfter', WHERE WHAT IT READS IS OF BULK AT MOST 1048576: true; the input reads as it did. -/
def fnKeptAfterUptoRow : OpenClaim := { program := "ytjmahledcmocoaagreat", sum := "3383295879b1de40270bd936b2502b9ed0e8f6d67ff991199a2f522cf90097c8", func := "loop.example/refcountml/laws.FnKeptAfter", spec := "fnKeptAfter", inPlace := ["slices.overlaps[int]"], unfollowed := true, recurses := true, apart := false, narrowed := true }
def FnKeptAfterUptoSaid : Prop := fnKeptAfterUptoRow.holds Tryz.pinned (OpenSpec.upto fnKeptAfterSpec)

/-- 'laws.FnKeptAfterEnd', WHERE WHAT IT READS IS OF BULK AT MOST 1048576: true; the input reads as it did. -/
def fnKeptAfterEndUptoRow : OpenClaim := { program := "ytjmahledcmocoaagreat", sum := "3383295879b1de40270bd936b2502b9ed0e8f6d67ff991199a2f522cf90097c8", func := "loop.example/refcountml/laws.FnKeptAfterEnd", spec := "fnKeptAfterEnd", inPlace := ["slices.overlaps[int]"], unfollowed := true, recurses := true, apart := false, narrowed := true }
def FnKeptAfterEndUptoSaid : Prop := fnKeptAfterEndUptoRow.holds Tryz.pinned (OpenSpec.upto fnKeptAfterEndSpec)

/-- 'laws.FnKeptAfterInto', WHERE WHAT IT READS IS OF BULK AT MOST 1048576: true; the input reads as it did. -/
def fnKeptAfterIntoUptoRow : OpenClaim := { program := "ytjmahledcmocoaagreat", sum := "3383295879b1de40270bd936b2502b9ed0e8f6d67ff991199a2f522cf90097c8", func := "loop.example/refcountml/laws.FnKeptAfterInto", spec := "fnKeptAfterInto", inPlace := ["slices.overlaps[int]"], unfollowed := true, recurses := true, apart := false, narrowed := true }
def FnKeptAfterIntoUptoSaid : Prop := fnKeptAfterIntoUptoRow.holds Tryz.pinned (OpenSpec.upto fnKeptAfterIntoSpec)

/-- 'laws.FnOwnedAfterEnd', WHERE WHAT IT READS IS OF BULK AT MOST 1048576: true; the input reads as it did. -/
def fnOwnedAfterEndUptoRow : OpenClaim := { program := "ytjmahledcmocoaagreat", sum := "3383295879b1de40270bd936b2502b9ed0e8f6d67ff991199a2f522cf90097c8", func := "loop.example/refcountml/laws.FnOwnedAfterEnd", spec := "fnOwnedAfterEnd", inPlace := ["slices.overlaps[int]"], unfollowed := true, recurses := true, apart := false, narrowed := true }
def FnOwnedAfterEndUptoSaid : Prop := fnOwnedAfterEndUptoRow.holds Tryz.pinned (OpenSpec.upto fnOwnedAfterEndSpec)

/-- 'laws.FnBalancedRoutine', WHERE WHAT IT READS IS OF BULK AT MOST 1048576: true; the input reads as it did. -/
def fnBalancedRoutineUptoRow : OpenClaim := { program := "ytjmahledcmocoaagreat", sum := "3383295879b1de40270bd936b2502b9ed0e8f6d67ff991199a2f522cf90097c8", func := "loop.example/refcountml/laws.FnBalancedRoutine", spec := "fnBalancedRoutine", inPlace := ["slices.overlaps[int]"], unfollowed := true, recurses := true, apart := false, narrowed := true }
def FnBalancedRoutineUptoSaid : Prop := fnBalancedRoutineUptoRow.holds Tryz.pinned (OpenSpec.upto fnBalancedRoutineSpec)

/-- 'laws.FnAliveAfter', WHERE WHAT IT READS IS OF BULK AT MOST 1048576: true; the input reads as it did. -/
def fnAliveAfterUptoRow : OpenClaim := { program := "ytjmahledcmocoaagreat", sum := "3383295879b1de40270bd936b2502b9ed0e8f6d67ff991199a2f522cf90097c8", func := "loop.example/refcountml/laws.FnAliveAfter", spec := "fnAliveAfter", inPlace := ["slices.overlaps[int]"], unfollowed := true, recurses := true, apart := false, narrowed := true }
def FnAliveAfterUptoSaid : Prop := fnAliveAfterUptoRow.holds Tryz.pinned (OpenSpec.upto fnAliveAfterSpec)

end Rows
end Go.Proofs.YtjmahledcmocoaaGreat
