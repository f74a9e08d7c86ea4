/-
  No cell of these rows narrows 'for every input' (looked for: loops, veiled, ifaces, maps, wideKeys, modest, calm, conditions, laid).
  DERIVED. THE GIVEN ROWS OF THIS SEAT. 8 by the template 'for every input the law returns true; each argument reads behind the call as it read before'; 0 by the template 'total and deterministic' (their statements: YtabmbhgiodcppaaGreatTotals.lean).
  GIVEN WITH THE SEED: the statements are not yours to turn. If you find one false, say at which input.
  Laid BY PROGRAM, IN A SANDBOX (cutbox-rows.mjs): the forced cells as the released guide's own fill.sh prints them over the translation 56a5e860a700f93e… (all of the seat's roots in one cut). By AI agents, Wed Nov 11 2026. No macro, syntax, notation, axiom, sorry.
-/
import Derived.Test.YtabmbhgiodcppaaGreatChecked
import GoSem.Claim
import GoSem.ClaimJoined
import GoSem.ClaimMapViews
import Derived.JoinedTies
import Derived.KernelRfl
namespace Go.Proofs.YtabmbhgiodcppaaGreat
/- THE CELL 'sum', in the pinned program and in every row, IS THE sha256 OF THE DUMP (.gsa) THAT YtabmbhgiodcppaaGreatProg.lean LOADS. Nothing in Lean hashes anything: it is a label: what it is worth is what the hold of that sum in a sandbox is worth. -/
noncomputable def Tryz.pinned : Pinned := { name := "ytabmbhgiodcppaagreat", sum := "56a5e860a700f93ec73c9abf0635cc0c36a7e8891c3b2e5695b0a95cef614739", checked := Tryz.checked }
namespace Rows
def none {H : Type} : Left H := { results := [], args := [] }

/-- 'laws.FnValidImage': WHATEVER THE INPUT: true; the input reads as it did. -/
def fnValidImageSpec : ChangeSpec := { name := "fnValidImage", fn := fun _ => fun
  | [d] => { results := [.lit (.bool true)], args := [d] }
  | _ => none }
def fnValidImageRow : OpenClaim := { program := "ytabmbhgiodcppaagreat", sum := "56a5e860a700f93ec73c9abf0635cc0c36a7e8891c3b2e5695b0a95cef614739", func := "loop.example/refcountml/laws.FnValidImage", spec := "fnValidImage", unfollowed := true, recurses := true, apart := false }
def FnValidImageSaid : Prop := fnValidImageRow.holds Tryz.pinned (OpenSpec.ofChange fnValidImageSpec)

/-- ITS FALSE NEIGHBOUR: 'it returns false'. Refute it at one input. -/
def fnValidImageWrong : ChangeSpec := { name := "fnValidImage", fn := fun _ => fun
  | [d] => { results := [.lit (.bool false)], args := [d] }
  | _ => none }
def FnValidImageWrongFalsely : Prop := fnValidImageRow.holds Tryz.pinned (OpenSpec.ofChange fnValidImageWrong)

/-- 'laws.FnValidImageJumps': WHATEVER THE INPUT: true; the input reads as it did. -/
def fnValidImageJumpsSpec : ChangeSpec := { name := "fnValidImageJumps", fn := fun _ => fun
  | [d] => { results := [.lit (.bool true)], args := [d] }
  | _ => none }
def fnValidImageJumpsRow : OpenClaim := { program := "ytabmbhgiodcppaagreat", sum := "56a5e860a700f93ec73c9abf0635cc0c36a7e8891c3b2e5695b0a95cef614739", func := "loop.example/refcountml/laws.FnValidImageJumps", spec := "fnValidImageJumps", unfollowed := true, recurses := true, apart := false }
def FnValidImageJumpsSaid : Prop := fnValidImageJumpsRow.holds Tryz.pinned (OpenSpec.ofChange fnValidImageJumpsSpec)

/-- ITS FALSE NEIGHBOUR: 'it returns false'. Refute it at one input. -/
def fnValidImageJumpsWrong : ChangeSpec := { name := "fnValidImageJumps", fn := fun _ => fun
  | [d] => { results := [.lit (.bool false)], args := [d] }
  | _ => none }
def FnValidImageJumpsWrongFalsely : Prop := fnValidImageJumpsRow.holds Tryz.pinned (OpenSpec.ofChange fnValidImageJumpsWrong)

/-- 'laws.FnTailCalls': WHATEVER THE INPUT: true; the input reads as it did. -/
def fnTailCallsSpec : ChangeSpec := { name := "fnTailCalls", fn := fun _ => fun
  | [d] => { results := [.lit (.bool true)], args := [d] }
  | _ => none }
def fnTailCallsRow : OpenClaim := { program := "ytabmbhgiodcppaagreat", sum := "56a5e860a700f93ec73c9abf0635cc0c36a7e8891c3b2e5695b0a95cef614739", func := "loop.example/refcountml/laws.FnTailCalls", spec := "fnTailCalls", unfollowed := true, recurses := true, apart := false }
def FnTailCallsSaid : Prop := fnTailCallsRow.holds Tryz.pinned (OpenSpec.ofChange fnTailCallsSpec)

/-- ITS FALSE NEIGHBOUR: 'it returns false'. Refute it at one input. -/
def fnTailCallsWrong : ChangeSpec := { name := "fnTailCalls", fn := fun _ => fun
  | [d] => { results := [.lit (.bool false)], args := [d] }
  | _ => none }
def FnTailCallsWrongFalsely : Prop := fnTailCallsRow.holds Tryz.pinned (OpenSpec.ofChange fnTailCallsWrong)

/-- 'laws.FnTailCallsTwice': WHATEVER THE INPUT: true; the input reads as it did. -/
def fnTailCallsTwiceSpec : ChangeSpec := { name := "fnTailCallsTwice", fn := fun _ => fun
  | [d] => { results := [.lit (.bool true)], args := [d] }
  | _ => none }
def fnTailCallsTwiceRow : OpenClaim := { program := "ytabmbhgiodcppaagreat", sum := "56a5e860a700f93ec73c9abf0635cc0c36a7e8891c3b2e5695b0a95cef614739", func := "loop.example/refcountml/laws.FnTailCallsTwice", spec := "fnTailCallsTwice", unfollowed := true, recurses := true, apart := false }
def FnTailCallsTwiceSaid : Prop := fnTailCallsTwiceRow.holds Tryz.pinned (OpenSpec.ofChange fnTailCallsTwiceSpec)

/-- ITS FALSE NEIGHBOUR: 'it returns false'. Refute it at one input. -/
def fnTailCallsTwiceWrong : ChangeSpec := { name := "fnTailCallsTwice", fn := fun _ => fun
  | [d] => { results := [.lit (.bool false)], args := [d] }
  | _ => none }
def FnTailCallsTwiceWrongFalsely : Prop := fnTailCallsTwiceRow.holds Tryz.pinned (OpenSpec.ofChange fnTailCallsTwiceWrong)

/-- 'laws.FnReachedCode': WHATEVER THE INPUT: true; the input reads as it did. -/
def fnReachedCodeSpec : ChangeSpec := { name := "fnReachedCode", fn := fun _ => fun
  | [d] => { results := [.lit (.bool true)], args := [d] }
  | _ => none }
def fnReachedCodeRow : OpenClaim := { program := "ytabmbhgiodcppaagreat", sum := "56a5e860a700f93ec73c9abf0635cc0c36a7e8891c3b2e5695b0a95cef614739", func := "loop.example/refcountml/laws.FnReachedCode", spec := "fnReachedCode", unfollowed := true, recurses := true, apart := false }
def FnReachedCodeSaid : Prop := fnReachedCodeRow.holds Tryz.pinned (OpenSpec.ofChange fnReachedCodeSpec)

/-- ITS FALSE NEIGHBOUR: 'it returns false'. Refute it at one input. -/
def fnReachedCodeWrong : ChangeSpec := { name := "fnReachedCode", fn := fun _ => fun
  | [d] => { results := [.lit (.bool false)], args := [d] }
  | _ => none }
def FnReachedCodeWrongFalsely : Prop := fnReachedCodeRow.holds Tryz.pinned (OpenSpec.ofChange fnReachedCodeWrong)

/-- 'laws.FnReachedCodeTail': WHATEVER THE INPUT: true; the input reads as it did. -/
def fnReachedCodeTailSpec : ChangeSpec := { name := "fnReachedCodeTail", fn := fun _ => fun
  | [d] => { results := [.lit (.bool true)], args := [d] }
  | _ => none }
def fnReachedCodeTailRow : OpenClaim := { program := "ytabmbhgiodcppaagreat", sum := "56a5e860a700f93ec73c9abf0635cc0c36a7e8891c3b2e5695b0a95cef614739", func := "loop.example/refcountml/laws.FnReachedCodeTail", spec := "fnReachedCodeTail", unfollowed := true, recurses := true, apart := false }
def FnReachedCodeTailSaid : Prop := fnReachedCodeTailRow.holds Tryz.pinned (OpenSpec.ofChange fnReachedCodeTailSpec)

/-- ITS FALSE NEIGHBOUR: 'it returns false'. Refute it at one input. -/
def fnReachedCodeTailWrong : ChangeSpec := { name := "fnReachedCodeTail", fn := fun _ => fun
  | [d] => { results := [.lit (.bool false)], args := [d] }
  | _ => none }
def FnReachedCodeTailWrongFalsely : Prop := fnReachedCodeTailRow.holds Tryz.pinned (OpenSpec.ofChange fnReachedCodeTailWrong)

/-- 'laws.FnEncodedLength': WHATEVER THE INPUT: true; the input reads as it did. -/
def fnEncodedLengthSpec : ChangeSpec := { name := "fnEncodedLength", fn := fun _ => fun
  | [d] => { results := [.lit (.bool true)], args := [d] }
  | _ => none }
def fnEncodedLengthRow : OpenClaim := { program := "ytabmbhgiodcppaagreat", sum := "56a5e860a700f93ec73c9abf0635cc0c36a7e8891c3b2e5695b0a95cef614739", func := "loop.example/refcountml/laws.FnEncodedLength", spec := "fnEncodedLength", unfollowed := true, recurses := true, apart := false }
def FnEncodedLengthSaid : Prop := fnEncodedLengthRow.holds Tryz.pinned (OpenSpec.ofChange fnEncodedLengthSpec)

/-- ITS FALSE NEIGHBOUR: 'it returns false'. Refute it at one input. -/
def fnEncodedLengthWrong : ChangeSpec := { name := "fnEncodedLength", fn := fun _ => fun
  | [d] => { results := [.lit (.bool false)], args := [d] }
  | _ => none }
def FnEncodedLengthWrongFalsely : Prop := fnEncodedLengthRow.holds Tryz.pinned (OpenSpec.ofChange fnEncodedLengthWrong)

/-- 'laws.FnEncodedLengthTail': WHATEVER THE INPUT: true; the input reads as it did. -/
def fnEncodedLengthTailSpec : ChangeSpec := { name := "fnEncodedLengthTail", fn := fun _ => fun
  | [d] => { results := [.lit (.bool true)], args := [d] }
  | _ => none }
def fnEncodedLengthTailRow : OpenClaim := { program := "ytabmbhgiodcppaagreat", sum := "56a5e860a700f93ec73c9abf0635cc0c36a7e8891c3b2e5695b0a95cef614739", func := "loop.example/refcountml/laws.FnEncodedLengthTail", spec := "fnEncodedLengthTail", unfollowed := true, recurses := true, apart := false }
def FnEncodedLengthTailSaid : Prop := fnEncodedLengthTailRow.holds Tryz.pinned (OpenSpec.ofChange fnEncodedLengthTailSpec)

/-- ITS FALSE NEIGHBOUR: 'it returns false'. Refute it at one input. -/
def fnEncodedLengthTailWrong : ChangeSpec := { name := "fnEncodedLengthTail", fn := fun _ => fun
  | [d] => { results := [.lit (.bool false)], args := [d] }
  | _ => none }
def FnEncodedLengthTailWrongFalsely : Prop := fnEncodedLengthTailRow.holds Tryz.pinned (OpenSpec.ofChange fnEncodedLengthTailWrong)

/- THE SECOND FORM. 'bulk': how many values and letters a reading holds, each counted each time it is reached (what is shared counts as often as it is met; a slice's spare places count too). A statement '..UptoSaid' is the law's where the arguments, and the package variables that the reading takes, are together of bulk at most 1048576: NARROWER than '..Said'. Prove '..Said' where nothing that the law and all that it calls make is longer than what came in: it says more and counts as full. Else prove '..UptoSaid'. A law counts once. -/
mutual
def uptoBulk {H : Type} : DataW H → Nat
  | .lit (.string bytes) => bytes.length + 1
  | .lit _ => 1
  | .nil => 1
  | .ptr d => uptoBulk d + 1
  | .slice elems spare => uptoBulkAll elems + uptoBulkAll spare + 1
  | .agg parts => uptoBulkAll parts + 1
  | .iface _ d => uptoBulk d + 1
  | .map entries => uptoBulkEntries entries + 1
  | .held _ => 1
def uptoBulkAll {H : Type} : List (DataW H) → Nat
  | [] => 0
  | d :: r => uptoBulk d + uptoBulkAll r
def uptoBulkEntries {H : Type} : List (Lit × DataW H) → Nat
  | [] => 0
  | x :: r => uptoBulkEntry x + uptoBulkEntries r
def uptoBulkEntry {H : Type} : Lit × DataW H → Nat
  | (.string bytes, d) => bytes.length + uptoBulk d + 1
  | (_, d) => uptoBulk d + 1
 end
def uptoSmall : (H : Type) → List (DataW H) → Bool := fun _ ds => decide (uptoBulkAll ds ≤ 1048576)
def OpenSpec.upto (s : _root_.Go.ChangeSpec) : _root_.Go.OpenSpec := { _root_.Go.OpenSpec.ofChange s with cond := some uptoSmall }

/-- 'laws.FnValidImage', WHERE WHAT IT READS IS OF BULK AT MOST 1048576: true; the input reads as it did. -/
def fnValidImageUptoRow : OpenClaim := { program := "ytabmbhgiodcppaagreat", sum := "56a5e860a700f93ec73c9abf0635cc0c36a7e8891c3b2e5695b0a95cef614739", func := "loop.example/refcountml/laws.FnValidImage", spec := "fnValidImage", unfollowed := true, recurses := true, apart := false, narrowed := true }
def FnValidImageUptoSaid : Prop := fnValidImageUptoRow.holds Tryz.pinned (OpenSpec.upto fnValidImageSpec)

/-- 'laws.FnValidImageJumps', WHERE WHAT IT READS IS OF BULK AT MOST 1048576: true; the input reads as it did. -/
def fnValidImageJumpsUptoRow : OpenClaim := { program := "ytabmbhgiodcppaagreat", sum := "56a5e860a700f93ec73c9abf0635cc0c36a7e8891c3b2e5695b0a95cef614739", func := "loop.example/refcountml/laws.FnValidImageJumps", spec := "fnValidImageJumps", unfollowed := true, recurses := true, apart := false, narrowed := true }
def FnValidImageJumpsUptoSaid : Prop := fnValidImageJumpsUptoRow.holds Tryz.pinned (OpenSpec.upto fnValidImageJumpsSpec)

/-- 'laws.FnTailCalls', WHERE WHAT IT READS IS OF BULK AT MOST 1048576: true; the input reads as it did. -/
def fnTailCallsUptoRow : OpenClaim := { program := "ytabmbhgiodcppaagreat", sum := "56a5e860a700f93ec73c9abf0635cc0c36a7e8891c3b2e5695b0a95cef614739", func := "loop.example/refcountml/laws.FnTailCalls", spec := "fnTailCalls", unfollowed := true, recurses := true, apart := false, narrowed := true }
def FnTailCallsUptoSaid : Prop := fnTailCallsUptoRow.holds Tryz.pinned (OpenSpec.upto fnTailCallsSpec)

/-- 'laws.FnTailCallsTwice', WHERE WHAT IT READS IS OF BULK AT MOST 1048576: true; the input reads as it did. -/
def fnTailCallsTwiceUptoRow : OpenClaim := { program := "ytabmbhgiodcppaagreat", sum := "56a5e860a700f93ec73c9abf0635cc0c36a7e8891c3b2e5695b0a95cef614739", func := "loop.example/refcountml/laws.FnTailCallsTwice", spec := "fnTailCallsTwice", unfollowed := true, recurses := true, apart := false, narrowed := true }
def FnTailCallsTwiceUptoSaid : Prop := fnTailCallsTwiceUptoRow.holds Tryz.pinned (OpenSpec.upto fnTailCallsTwiceSpec)

/-- 'laws.FnReachedCode', WHERE WHAT IT READS IS OF BULK AT MOST 1048576: true; the input reads as it did. -/
def fnReachedCodeUptoRow : OpenClaim := { program := "ytabmbhgiodcppaagreat", sum := "56a5e860a700f93ec73c9abf0635cc0c36a7e8891c3b2e5695b0a95cef614739", func := "loop.example/refcountml/laws.FnReachedCode", spec := "fnReachedCode", unfollowed := true, recurses := true, apart := false, narrowed := true }
def FnReachedCodeUptoSaid : Prop := fnReachedCodeUptoRow.holds Tryz.pinned (OpenSpec.upto fnReachedCodeSpec)

/-- 'laws.FnReachedCodeTail', WHERE WHAT IT READS IS OF BULK AT MOST 1048576: true; the input reads as it did. -/
def fnReachedCodeTailUptoRow : OpenClaim := { program := "ytabmbhgiodcppaagreat", sum := "56a5e860a700f93ec73c9abf0635cc0c36a7e8891c3b2e5695b0a95cef614739", func := "loop.example/refcountml/laws.FnReachedCodeTail", spec := "fnReachedCodeTail", unfollowed := true, recurses := true, apart := false, narrowed := true }
def FnReachedCodeTailUptoSaid : Prop := fnReachedCodeTailUptoRow.holds Tryz.pinned (OpenSpec.upto fnReachedCodeTailSpec)

/-- 'laws.FnEncodedLength', WHERE WHAT IT READS IS OF BULK AT MOST 1048576: true; the input reads as it did. -/
def fnEncodedLengthUptoRow : OpenClaim := { program := "ytabmbhgiodcppaagreat", sum := "56a5e860a700f93ec73c9abf0635cc0c36a7e8891c3b2e5695b0a95cef614739", func := "loop.example/refcountml/laws.FnEncodedLength", spec := "fnEncodedLength", unfollowed := true, recurses := true, apart := false, narrowed := true }
def FnEncodedLengthUptoSaid : Prop := fnEncodedLengthUptoRow.holds Tryz.pinned (OpenSpec.upto fnEncodedLengthSpec)

/-- 'laws.FnEncodedLengthTail', WHERE WHAT IT READS IS OF BULK AT MOST 1048576: true; the input reads as it did. -/
def fnEncodedLengthTailUptoRow : OpenClaim := { program := "ytabmbhgiodcppaagreat", sum := "56a5e860a700f93ec73c9abf0635cc0c36a7e8891c3b2e5695b0a95cef614739", func := "loop.example/refcountml/laws.FnEncodedLengthTail", spec := "fnEncodedLengthTail", unfollowed := true, recurses := true, apart := false, narrowed := true }
def FnEncodedLengthTailUptoSaid : Prop := fnEncodedLengthTailUptoRow.holds Tryz.pinned (OpenSpec.upto fnEncodedLengthTailSpec)

end Rows
end Go.Proofs.YtabmbhgiodcppaaGreat
