/-
  NARROWER THAN 'FOR EVERY INPUT', by the rows' own cells (each row's printed sentence says how): FnExactSaved: loops · FnExactCancel: loops.
  DERIVED. THE GIVEN ROWS OF THIS SEAT. 4 by the template 'for every input the law returns true; each argument reads behind the call as it read before'; 0 by the template 'total and deterministic' (their statements: YtlcniflebhfdpaaGreatTotals.lean).
  GIVEN WITH THE SEED: the statements are not yours to turn. If you find one false, say at which input.
  Laid BY PROGRAM, IN A SANDBOX (cutbox-rows.mjs): the forced cells as the released guide's own fill.sh prints them over the translation 1f1aeac623fb1dd6… (all of the seat's roots in one cut). By AI agents, Wed Nov 11 2026. No macro, syntax, notation, axiom, sorry.
-/
import Derived.Test.YtlcniflebhfdpaaGreatChecked
import GoSem.Claim
import GoSem.ClaimJoined
import GoSem.ClaimMapViews
import Derived.JoinedTies
import Derived.KernelRfl
namespace Go.Proofs.YtlcniflebhfdpaaGreat
/- THE CELL 'sum', in the pinned program and in every row, IS THE sha256 OF THE DUMP (.gsa) THAT YtlcniflebhfdpaaGreatProg.lean LOADS. Nothing in Lean hashes anything: it is a label: what it is worth is what the hold of that sum in a sandbox is worth. -/
noncomputable def Tryz.pinned : Pinned := { name := "ytlcniflebhfdpaagreat", sum := "1f1aeac623fb1dd6cf883809830e1c273473636e36cc77fbea1b1b758c6a2d38", checked := Tryz.checked }
namespace Rows
def none {H : Type} : Left H := { results := [], args := [] }

/-- 'laws.FnDecodeImage': WHATEVER THE INPUT: true; the input reads as it did. -/
def fnDecodeImageSpec : ChangeSpec := { name := "fnDecodeImage", fn := fun _ => fun
  | [d] => { results := [.lit (.bool true)], args := [d] }
  | _ => none }
def fnDecodeImageRow : OpenClaim := { program := "ytlcniflebhfdpaagreat", sum := "1f1aeac623fb1dd6cf883809830e1c273473636e36cc77fbea1b1b758c6a2d38", func := "loop.example/refcountml/laws.FnDecodeImage", spec := "fnDecodeImage", unfollowed := true, recurses := true, apart := false }
def FnDecodeImageSaid : Prop := fnDecodeImageRow.holds Tryz.pinned (OpenSpec.ofChange fnDecodeImageSpec)

/-- ITS FALSE NEIGHBOUR: 'it returns false'. Refute it at one input. -/
def fnDecodeImageWrong : ChangeSpec := { name := "fnDecodeImage", fn := fun _ => fun
  | [d] => { results := [.lit (.bool false)], args := [d] }
  | _ => none }
def FnDecodeImageWrongFalsely : Prop := fnDecodeImageRow.holds Tryz.pinned (OpenSpec.ofChange fnDecodeImageWrong)

/-- 'laws.FnDecodeImageCut': WHATEVER THE INPUT: true; the input reads as it did. -/
def fnDecodeImageCutSpec : ChangeSpec := { name := "fnDecodeImageCut", fn := fun _ => fun
  | [d] => { results := [.lit (.bool true)], args := [d] }
  | _ => none }
def fnDecodeImageCutRow : OpenClaim := { program := "ytlcniflebhfdpaagreat", sum := "1f1aeac623fb1dd6cf883809830e1c273473636e36cc77fbea1b1b758c6a2d38", func := "loop.example/refcountml/laws.FnDecodeImageCut", spec := "fnDecodeImageCut", unfollowed := true, recurses := true, apart := false }
def FnDecodeImageCutSaid : Prop := fnDecodeImageCutRow.holds Tryz.pinned (OpenSpec.ofChange fnDecodeImageCutSpec)

/-- ITS FALSE NEIGHBOUR: 'it returns false'. Refute it at one input. -/
def fnDecodeImageCutWrong : ChangeSpec := { name := "fnDecodeImageCut", fn := fun _ => fun
  | [d] => { results := [.lit (.bool false)], args := [d] }
  | _ => none }
def FnDecodeImageCutWrongFalsely : Prop := fnDecodeImageCutRow.holds Tryz.pinned (OpenSpec.ofChange fnDecodeImageCutWrong)

/-- 'laws.FnExactSaved': WHATEVER THE INPUT: true; the input reads as it did. -/
def fnExactSavedSpec : ChangeSpec := { name := "fnExactSaved", fn := fun _ => fun
  | [d] => { results := [.lit (.bool true)], args := [d] }
  | _ => none }
def fnExactSavedRow : OpenClaim := { program := "ytlcniflebhfdpaagreat", sum := "1f1aeac623fb1dd6cf883809830e1c273473636e36cc77fbea1b1b758c6a2d38", func := "loop.example/refcountml/laws.FnExactSaved", spec := "fnExactSaved", inPlace := ["slices.overlaps[int]"], unfollowed := true, recurses := true, loops := true, apart := false }
def FnExactSavedSaid : Prop := fnExactSavedRow.holds Tryz.pinned (OpenSpec.ofChange fnExactSavedSpec)

/-- ITS FALSE NEIGHBOUR: 'it returns false'. Refute it at one input. -/
def fnExactSavedWrong : ChangeSpec := { name := "fnExactSaved", fn := fun _ => fun
  | [d] => { results := [.lit (.bool false)], args := [d] }
  | _ => none }
def FnExactSavedWrongFalsely : Prop := fnExactSavedRow.holds Tryz.pinned (OpenSpec.ofChange fnExactSavedWrong)

/-- 'laws.FnExactCancel': WHATEVER THE INPUT: true; the input reads as it did. -/
def fnExactCancelSpec : ChangeSpec := { name := "fnExactCancel", fn := fun _ => fun
  | [d] => { results := [.lit (.bool true)], args := [d] }
  | _ => none }
def fnExactCancelRow : OpenClaim := { program := "ytlcniflebhfdpaagreat", sum := "1f1aeac623fb1dd6cf883809830e1c273473636e36cc77fbea1b1b758c6a2d38", func := "loop.example/refcountml/laws.FnExactCancel", spec := "fnExactCancel", inPlace := ["slices.overlaps[int]"], unfollowed := true, recurses := true, loops := true, apart := false }
def FnExactCancelSaid : Prop := fnExactCancelRow.holds Tryz.pinned (OpenSpec.ofChange fnExactCancelSpec)

/-- ITS FALSE NEIGHBOUR: 'it returns false'. Refute it at one input. -/
def fnExactCancelWrong : ChangeSpec := { name := "fnExactCancel", fn := fun _ => fun
  | [d] => { results := [.lit (.bool false)], args := [d] }
  | _ => none }
def FnExactCancelWrongFalsely : Prop := fnExactCancelRow.holds Tryz.pinned (OpenSpec.ofChange fnExactCancelWrong)

/- THE SECOND FORM. 'bulk': how many values and letters a reading holds, each counted each time it is reached (what is shared counts as often as it is met; a slice's spare places count too). A statement '..UptoSaid' is the law's where the arguments, and the package variables that the reading takes, are together of bulk at most 1048576: NARROWER than '..Said'. Prove '..Said' where nothing that the law and all that it calls make is longer than what came in: it says more and counts as full. Else prove '..UptoSaid'. A law counts once. -/
mutual
def uptoBulk {H : Type} : DataW H → Nat
  | .lit (.string bytes) => bytes.length + 1
  | .lit _ => 1
  | .nil => 1
  | .ptr d => uptoBulk d + 1
  | .slice elems spare => uptoBulkAll elems + uptoBulkAll spare + 1
  | .agg parts => uptoBulkAll parts + 1
  | .iface _ d => uptoBulk d + 1
  | .map entries => uptoBulkEntries entries + 1
  | .held _ => 1
def uptoBulkAll {H : Type} : List (DataW H) → Nat
  | [] => 0
  | d :: r => uptoBulk d + uptoBulkAll r
def uptoBulkEntries {H : Type} : List (Lit × DataW H) → Nat
  | [] => 0
  | x :: r => uptoBulkEntry x + uptoBulkEntries r
def uptoBulkEntry {H : Type} : Lit × DataW H → Nat
  | (.string bytes, d) => bytes.length + uptoBulk d + 1
  | (_, d) => uptoBulk d + 1
 end
def uptoSmall : (H : Type) → List (DataW H) → Bool := fun _ ds => decide (uptoBulkAll ds ≤ 1048576)
def OpenSpec.upto (s : _root_.Go.ChangeSpec) : _root_.Go.OpenSpec := { _root_.Go.OpenSpec.ofChange s with cond := some uptoSmall }

/-- 'laws.FnDecodeImage', WHERE WHAT IT READS IS OF BULK AT MOST 1048576: true; the input reads as it did. -/
def fnDecodeImageUptoRow : OpenClaim := { program := "ytlcniflebhfdpaagreat", sum := "1f1aeac623fb1dd6cf883809830e1c273473636e36cc77fbea1b1b758c6a2d38", func := "loop.example/refcountml/laws.FnDecodeImage", spec := "fnDecodeImage", unfollowed := true, recurses := true, apart := false, narrowed := true }
def FnDecodeImageUptoSaid : Prop := fnDecodeImageUptoRow.holds Tryz.pinned (OpenSpec.upto fnDecodeImageSpec)

/-- 'laws.FnDecodeImageCut', WHERE WHAT IT READS IS OF BULK AT MOST 1048576: true; the input reads as it did. -/
def fnDecodeImageCutUptoRow : OpenClaim := { program := "ytlcniflebhfdpaagreat", sum := "1f1aeac623fb1dd6cf883809830e1c273473636e36cc77fbea1b1b758c6a2d38", func := "loop.example/refcountml/laws.FnDecodeImageCut", spec := "fnDecodeImageCut", unfollowed := true, recurses := true, apart := false, narrowed := true }
def FnDecodeImageCutUptoSaid : Prop := fnDecodeImageCutUptoRow.holds Tryz.pinned (OpenSpec.upto fnDecodeImageCutSpec)

/-- 'laws.FnExactSaved', WHERE WHAT IT READS IS OF BULK AT MOST 1048576: true; the input reads as it did. -/
def fnExactSavedUptoRow : OpenClaim := { program := "ytlcniflebhfdpaagreat", sum := "1f1aeac623fb1dd6cf883809830e1c273473636e36cc77fbea1b1b758c6a2d38", func := "loop.example/refcountml/laws.FnExactSaved", spec := "fnExactSaved", inPlace := ["slices.overlaps[int]"], unfollowed := true, recurses := true, loops := true, apart := false, narrowed := true }
def FnExactSavedUptoSaid : Prop := fnExactSavedUptoRow.holds Tryz.pinned (OpenSpec.upto fnExactSavedSpec)

/-- 'laws.FnExactCancel', WHERE WHAT IT READS IS OF BULK AT MOST 1048576: true; the input reads as it did. -/
def fnExactCancelUptoRow : OpenClaim := { program := "ytlcniflebhfdpaagreat", sum := "1f1aeac623fb1dd6cf883809830e1c273473636e36cc77fbea1b1b758c6a2d38", func := "loop.example/refcountml/laws.FnExactCancel", spec := "fnExactCancel", inPlace := ["slices.overlaps[int]"], unfollowed := true, recurses := true, loops := true, apart := false, narrowed := true }
def FnExactCancelUptoSaid : Prop := fnExactCancelUptoRow.holds Tryz.pinned (OpenSpec.upto fnExactCancelSpec)

end Rows
end Go.Proofs.YtlcniflebhfdpaaGreat
