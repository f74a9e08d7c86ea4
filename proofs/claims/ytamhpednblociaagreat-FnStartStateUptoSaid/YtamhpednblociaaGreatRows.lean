/-
  No cell of these rows narrows 'for every input' (looked for: loops, veiled, ifaces, maps, wideKeys, modest, calm, conditions, laid).
  DERIVED. THE GIVEN ROWS OF THIS SEAT. 6 by the template 'for every input the law returns true; each argument reads behind the call as it read before'; 0 by the template 'total and deterministic' (their statements: YtamhpednblociaaGreatTotals.lean).
  GIVEN WITH THE SEED: the statements are not yours to turn. If you find one false, say at which input.
  Laid BY PROGRAM, IN A SANDBOX (cutbox-rows.mjs): the forced cells as the released guide's own fill.sh prints them over the translation 815e47f8f8baa696… (all of the seat's roots in one cut). By AI agents, Wed Nov 11 2026. No macro, syntax, notation, axiom, sorry.
-/
import Derived.Test.YtamhpednblociaaGreatChecked
import GoSem.Claim
import GoSem.ClaimJoined
import GoSem.ClaimMapViews
import Derived.JoinedTies
import Derived.KernelRfl
namespace Go.Proofs.YtamhpednblociaaGreat
/- THE CELL 'sum', in the pinned program and in every row, IS THE sha256 OF THE DUMP (.gsa) THAT YtamhpednblociaaGreatProg.lean LOADS. Nothing in Lean hashes anything: it is a label: what it is worth is what the hold of that sum in a sandbox is worth. -/
noncomputable def Tryz.pinned : Pinned := { name := "ytamhpednblociaagreat", sum := "815e47f8f8baa696cb30f71168ce6985ac43a19ed2584663d6e031750c148f3b", checked := Tryz.checked }
namespace Rows
def none {H : Type} : Left H := { results := [], args := [] }

/-- 'laws.FnEncodeImage': WHATEVER THE INPUT: true; the input reads as it did. -/
def fnEncodeImageSpec : ChangeSpec := { name := "fnEncodeImage", fn := fun _ => fun
  | [d] => { results := [.lit (.bool true)], args := [d] }
  | _ => none }
def fnEncodeImageRow : OpenClaim := { program := "ytamhpednblociaagreat", sum := "815e47f8f8baa696cb30f71168ce6985ac43a19ed2584663d6e031750c148f3b", func := "loop.example/refcountml/laws.FnEncodeImage", spec := "fnEncodeImage", unfollowed := true, recurses := true, apart := false }
def FnEncodeImageSaid : Prop := fnEncodeImageRow.holds Tryz.pinned (OpenSpec.ofChange fnEncodeImageSpec)

/-- ITS FALSE NEIGHBOUR: 'it returns false'. Refute it at one input. -/
def fnEncodeImageWrong : ChangeSpec := { name := "fnEncodeImage", fn := fun _ => fun
  | [d] => { results := [.lit (.bool false)], args := [d] }
  | _ => none }
def FnEncodeImageWrongFalsely : Prop := fnEncodeImageRow.holds Tryz.pinned (OpenSpec.ofChange fnEncodeImageWrong)

/-- 'laws.FnDecodeImage': WHATEVER THE INPUT: true; the input reads as it did. -/
def fnDecodeImageSpec : ChangeSpec := { name := "fnDecodeImage", fn := fun _ => fun
  | [d] => { results := [.lit (.bool true)], args := [d] }
  | _ => none }
def fnDecodeImageRow : OpenClaim := { program := "ytamhpednblociaagreat", sum := "815e47f8f8baa696cb30f71168ce6985ac43a19ed2584663d6e031750c148f3b", func := "loop.example/refcountml/laws.FnDecodeImage", spec := "fnDecodeImage", unfollowed := true, recurses := true, apart := false }
def FnDecodeImageSaid : Prop := fnDecodeImageRow.holds Tryz.pinned (OpenSpec.ofChange fnDecodeImageSpec)

/-- ITS FALSE NEIGHBOUR: 'it returns false'. Refute it at one input. -/
def fnDecodeImageWrong : ChangeSpec := { name := "fnDecodeImage", fn := fun _ => fun
  | [d] => { results := [.lit (.bool false)], args := [d] }
  | _ => none }
def FnDecodeImageWrongFalsely : Prop := fnDecodeImageRow.holds Tryz.pinned (OpenSpec.ofChange fnDecodeImageWrong)

/-- 'laws.FnDecodeImageCut': WHATEVER THE INPUT: true; the input reads as it did. -/
def fnDecodeImageCutSpec : ChangeSpec := { name := "fnDecodeImageCut", fn := fun _ => fun
  | [d] => { results := [.lit (.bool true)], args := [d] }
  | _ => none }
def fnDecodeImageCutRow : OpenClaim := { program := "ytamhpednblociaagreat", sum := "815e47f8f8baa696cb30f71168ce6985ac43a19ed2584663d6e031750c148f3b", func := "loop.example/refcountml/laws.FnDecodeImageCut", spec := "fnDecodeImageCut", unfollowed := true, recurses := true, apart := false }
def FnDecodeImageCutSaid : Prop := fnDecodeImageCutRow.holds Tryz.pinned (OpenSpec.ofChange fnDecodeImageCutSpec)

/-- ITS FALSE NEIGHBOUR: 'it returns false'. Refute it at one input. -/
def fnDecodeImageCutWrong : ChangeSpec := { name := "fnDecodeImageCut", fn := fun _ => fun
  | [d] => { results := [.lit (.bool false)], args := [d] }
  | _ => none }
def FnDecodeImageCutWrongFalsely : Prop := fnDecodeImageCutRow.holds Tryz.pinned (OpenSpec.ofChange fnDecodeImageCutWrong)

/-- 'laws.FnLiveRegs': WHATEVER THE INPUT: true; the input reads as it did. -/
def fnLiveRegsSpec : ChangeSpec := { name := "fnLiveRegs", fn := fun _ => fun
  | [d] => { results := [.lit (.bool true)], args := [d] }
  | _ => none }
def fnLiveRegsRow : OpenClaim := { program := "ytamhpednblociaagreat", sum := "815e47f8f8baa696cb30f71168ce6985ac43a19ed2584663d6e031750c148f3b", func := "loop.example/refcountml/laws.FnLiveRegs", spec := "fnLiveRegs", unfollowed := true, recurses := true, apart := false }
def FnLiveRegsSaid : Prop := fnLiveRegsRow.holds Tryz.pinned (OpenSpec.ofChange fnLiveRegsSpec)

/-- ITS FALSE NEIGHBOUR: 'it returns false'. Refute it at one input. -/
def fnLiveRegsWrong : ChangeSpec := { name := "fnLiveRegs", fn := fun _ => fun
  | [d] => { results := [.lit (.bool false)], args := [d] }
  | _ => none }
def FnLiveRegsWrongFalsely : Prop := fnLiveRegsRow.holds Tryz.pinned (OpenSpec.ofChange fnLiveRegsWrong)

/-- 'laws.FnLiveRegsNext': WHATEVER THE INPUT: true; the input reads as it did. -/
def fnLiveRegsNextSpec : ChangeSpec := { name := "fnLiveRegsNext", fn := fun _ => fun
  | [d] => { results := [.lit (.bool true)], args := [d] }
  | _ => none }
def fnLiveRegsNextRow : OpenClaim := { program := "ytamhpednblociaagreat", sum := "815e47f8f8baa696cb30f71168ce6985ac43a19ed2584663d6e031750c148f3b", func := "loop.example/refcountml/laws.FnLiveRegsNext", spec := "fnLiveRegsNext", unfollowed := true, recurses := true, apart := false }
def FnLiveRegsNextSaid : Prop := fnLiveRegsNextRow.holds Tryz.pinned (OpenSpec.ofChange fnLiveRegsNextSpec)

/-- ITS FALSE NEIGHBOUR: 'it returns false'. Refute it at one input. -/
def fnLiveRegsNextWrong : ChangeSpec := { name := "fnLiveRegsNext", fn := fun _ => fun
  | [d] => { results := [.lit (.bool false)], args := [d] }
  | _ => none }
def FnLiveRegsNextWrongFalsely : Prop := fnLiveRegsNextRow.holds Tryz.pinned (OpenSpec.ofChange fnLiveRegsNextWrong)

/-- 'laws.FnStartState': WHATEVER THE INPUT: true; the input reads as it did. -/
def fnStartStateSpec : ChangeSpec := { name := "fnStartState", fn := fun _ => fun
  | [d] => { results := [.lit (.bool true)], args := [d] }
  | _ => none }
def fnStartStateRow : OpenClaim := { program := "ytamhpednblociaagreat", sum := "815e47f8f8baa696cb30f71168ce6985ac43a19ed2584663d6e031750c148f3b", func := "loop.example/refcountml/laws.FnStartState", spec := "fnStartState", unfollowed := true, recurses := true, apart := false }
def FnStartStateSaid : Prop := fnStartStateRow.holds Tryz.pinned (OpenSpec.ofChange fnStartStateSpec)

/-- ITS FALSE NEIGHBOUR: 'it returns false'. Refute it at one input. -/
def fnStartStateWrong : ChangeSpec := { name := "fnStartState", fn := fun _ => fun
  | [d] => { results := [.lit (.bool false)], args := [d] }
  | _ => none }
def FnStartStateWrongFalsely : Prop := fnStartStateRow.holds Tryz.pinned (OpenSpec.ofChange fnStartStateWrong)

/- THE SECOND FORM. 'bulk': how many values and letters a reading holds, each counted each time it is reached (what is shared counts as often as it is met; a slice's spare places count too). A statement '..UptoSaid' is the law's where the arguments, and the package variables that the reading takes, are together of bulk at most 1048576: NARROWER than '..Said'. Prove '..Said' where nothing that the law and all that it calls make is longer than what came in: it says more and counts as full. Else prove '..UptoSaid'. A law counts once. -/
mutual
def uptoBulk {H : Type} : DataW H → Nat
  | .lit (.string bytes) => bytes.length + 1
  | .lit _ => 1
  | .nil => 1
  | .ptr d => uptoBulk d + 1
  | .slice elems spare => uptoBulkAll elems + uptoBulkAll spare + 1
  | .agg parts => uptoBulkAll parts + 1
  | .iface _ d => uptoBulk d + 1
  | .map entries => uptoBulkEntries entries + 1
  | .held _ => 1
def uptoBulkAll {H : Type} : List (DataW H) → Nat
  | [] => 0
  | d :: r => uptoBulk d + uptoBulkAll r
def uptoBulkEntries {H : Type} : List (Lit × DataW H) → Nat
  | [] => 0
  | x :: r => uptoBulkEntry x + uptoBulkEntries r
def uptoBulkEntry {H : Type} : Lit × DataW H → Nat
  | (.string bytes, d) => bytes.length + uptoBulk d + 1
  | (_, d) => uptoBulk d + 1
 end
def uptoSmall : (H : Type) → List (DataW H) → Bool := fun _ ds => decide (uptoBulkAll ds ≤ 1048576)
def OpenSpec.upto (s : _root_.Go.ChangeSpec) : _root_.Go.OpenSpec := { _root_.Go.OpenSpec.ofChange s with cond := some uptoSmall }

/-- 'laws.FnEncodeImage', WHERE WHAT IT READS IS OF BULK AT MOST 1048576: true; the input reads as it did. -/
def fnEncodeImageUptoRow : OpenClaim := { program := "ytamhpednblociaagreat", sum := "815e47f8f8baa696cb30f71168ce6985ac43a19ed2584663d6e031750c148f3b", func := "loop.example/refcountml/laws.FnEncodeImage", spec := "fnEncodeImage", unfollowed := true, recurses := true, apart := false, narrowed := true }
def FnEncodeImageUptoSaid : Prop := fnEncodeImageUptoRow.holds Tryz.pinned (OpenSpec.upto fnEncodeImageSpec)

/-- 'laws.FnDecodeImage', WHERE WHAT IT READS IS OF BULK AT MOST 1048576: true; the input reads as it did. -/
def fnDecodeImageUptoRow : OpenClaim := { program := "ytamhpednblociaagreat", sum := "815e47f8f8baa696cb30f71168ce6985ac43a19ed2584663d6e031750c148f3b", func := "loop.example/refcountml/laws.FnDecodeImage", spec := "fnDecodeImage", unfollowed := true, recurses := true, apart := false, narrowed := true }
def FnDecodeImageUptoSaid : Prop := fnDecodeImageUptoRow.holds Tryz.pinned (OpenSpec.upto fnDecodeImageSpec)

/-- 'laws.FnDecodeImageCut', WHERE WHAT IT READS IS OF BULK AT MOST 1048576: true; the input reads as it did. -/
def fnDecodeImageCutUptoRow : OpenClaim := { program := "ytamhpednblociaagreat", sum := "815e47f8f8baa696cb30f71168ce6985ac43a19ed2584663d6e031750c148f3b", func := "loop.example/refcountml/laws.FnDecodeImageCut", spec := "fnDecodeImageCut", unfollowed := true, recurses := true, apart := false, narrowed := true }
def FnDecodeImageCutUptoSaid : Prop := fnDecodeImageCutUptoRow.holds Tryz.pinned (OpenSpec.upto fnDecodeImageCutSpec)

/-- 'laws.FnLiveRegs', WHERE WHAT IT READS IS OF BULK AT MOST 1048576: true; the input reads as it did. -/
def fnLiveRegsUptoRow : OpenClaim := { program := "ytamhpednblociaagreat", sum := "815e47f8f8baa696cb30f71168ce6985ac43a19ed2584663d6e031750c148f3b", func := "loop.example/refcountml/laws.FnLiveRegs", spec := "fnLiveRegs", unfollowed := true, recurses := true, apart := false, narrowed := true }
def FnLiveRegsUptoSaid : Prop := fnLiveRegsUptoRow.holds Tryz.pinned (OpenSpec.upto fnLiveRegsSpec)

/-- 'laws.FnLiveRegsNext', WHERE WHAT IT READS IS OF BULK AT MOST 1048576: true; the input reads as it did. -/
def fnLiveRegsNextUptoRow : OpenClaim := { program := "ytamhpednblociaagreat", sum := "815e47f8f8baa696cb30f71168ce6985ac43a19ed2584663d6e031750c148f3b", func := "loop.example/refcountml/laws.FnLiveRegsNext", spec := "fnLiveRegsNext", unfollowed := true, recurses := true, apart := false, narrowed := true }
def FnLiveRegsNextUptoSaid : Prop := fnLiveRegsNextUptoRow.holds Tryz.pinned (OpenSpec.upto fnLiveRegsNextSpec)

/-- 'laws.FnStartState', WHERE WHAT IT READS IS OF BULK AT MOST 1048576: true; the input reads as it did. -/
def fnStartStateUptoRow : OpenClaim := { program := "ytamhpednblociaagreat", sum := "815e47f8f8baa696cb30f71168ce6985ac43a19ed2584663d6e031750c148f3b", func := "loop.example/refcountml/laws.FnStartState", spec := "fnStartState", unfollowed := true, recurses := true, apart := false, narrowed := true }
def FnStartStateUptoSaid : Prop := fnStartStateUptoRow.holds Tryz.pinned (OpenSpec.upto fnStartStateSpec)

end Rows
end Go.Proofs.YtamhpednblociaaGreat
