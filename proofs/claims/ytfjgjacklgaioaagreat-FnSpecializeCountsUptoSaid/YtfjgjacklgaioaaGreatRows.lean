/-
  No cell of these rows narrows 'for every input' (looked for: loops, veiled, ifaces, maps, wideKeys, modest, calm, conditions, laid).
  DERIVED. THE GIVEN ROWS OF THIS SEAT. 9 by the template 'for every input the law returns true; each argument reads behind the call as it read before'; 0 by the template 'total and deterministic' (their statements: YtfjgjacklgaioaaGreatTotals.lean).
  GIVEN WITH THE SEED: the statements are not yours to turn. If you find one false, say at which input.
  Laid BY PROGRAM, IN A SANDBOX (cutbox-rows.mjs): the forced cells as the released guide's own fill.sh prints them over the translation 94d7f1aa56f9d2e9… (all of the seat's roots in one cut). By AI agents, Wed Nov 11 2026. No macro, syntax, notation, axiom, sorry.
-/
import Derived.Test.YtfjgjacklgaioaaGreatChecked
import GoSem.Claim
import GoSem.ClaimJoined
import GoSem.ClaimMapViews
import Derived.JoinedTies
import Derived.KernelRfl
namespace Go.Proofs.YtfjgjacklgaioaaGreat
/- THE CELL 'sum', in the pinned program and in every row, IS THE sha256 OF THE DUMP (.gsa) THAT YtfjgjacklgaioaaGreatProg.lean LOADS. Nothing in Lean hashes anything: it is a label: what it is worth is what the hold of that sum in a sandbox is worth. -/
noncomputable def Tryz.pinned : Pinned := { name := "ytfjgjacklgaioaagreat", sum := "94d7f1aa56f9d2e98ccf2391f4bf7dd80bec7da2c3e74e43a9f910a250e7fdf1", checked := Tryz.checked }
namespace Rows
def none {H : Type} : Left H := { results := [], args := [] }

/-- 'laws.FnReuseCounts': WHATEVER THE INPUT: true; the input reads as it did. -/
def fnReuseCountsSpec : ChangeSpec := { name := "fnReuseCounts", fn := fun _ => fun
  | [d] => { results := [.lit (.bool true)], args := [d] }
  | _ => none }
def fnReuseCountsRow : OpenClaim := { program := "ytfjgjacklgaioaagreat", sum := "94d7f1aa56f9d2e98ccf2391f4bf7dd80bec7da2c3e74e43a9f910a250e7fdf1", func := "loop.example/refcountml/laws.FnReuseCounts", spec := "fnReuseCounts", inPlace := ["slices.overlaps[int]"], unfollowed := true, recurses := true, apart := false }
def FnReuseCountsSaid : Prop := fnReuseCountsRow.holds Tryz.pinned (OpenSpec.ofChange fnReuseCountsSpec)

/-- ITS FALSE NEIGHBOUR: 'it returns false'. Refute it at one input. -/
def fnReuseCountsWrong : ChangeSpec := { name := "fnReuseCounts", fn := fun _ => fun
  | [d] => { results := [.lit (.bool false)], args := [d] }
  | _ => none }
def FnReuseCountsWrongFalsely : Prop := fnReuseCountsRow.holds Tryz.pinned (OpenSpec.ofChange fnReuseCountsWrong)

/-- 'laws.FnReuseTwice': WHATEVER THE INPUT: true; the input reads as it did. -/
def fnReuseTwiceSpec : ChangeSpec := { name := "fnReuseTwice", fn := fun _ => fun
  | [d] => { results := [.lit (.bool true)], args := [d] }
  | _ => none }
def fnReuseTwiceRow : OpenClaim := { program := "ytfjgjacklgaioaagreat", sum := "94d7f1aa56f9d2e98ccf2391f4bf7dd80bec7da2c3e74e43a9f910a250e7fdf1", func := "loop.example/refcountml/laws.FnReuseTwice", spec := "fnReuseTwice", inPlace := ["slices.overlaps[int]"], unfollowed := true, recurses := true, apart := false }
def FnReuseTwiceSaid : Prop := fnReuseTwiceRow.holds Tryz.pinned (OpenSpec.ofChange fnReuseTwiceSpec)

/-- ITS FALSE NEIGHBOUR: 'it returns false'. Refute it at one input. -/
def fnReuseTwiceWrong : ChangeSpec := { name := "fnReuseTwice", fn := fun _ => fun
  | [d] => { results := [.lit (.bool false)], args := [d] }
  | _ => none }
def FnReuseTwiceWrongFalsely : Prop := fnReuseTwiceRow.holds Tryz.pinned (OpenSpec.ofChange fnReuseTwiceWrong)

/-- 'laws.FnSpecialize': WHATEVER THE INPUT: true; the input reads as it did. -/
def fnSpecializeSpec : ChangeSpec := { name := "fnSpecialize", fn := fun _ => fun
  | [d] => { results := [.lit (.bool true)], args := [d] }
  | _ => none }
def fnSpecializeRow : OpenClaim := { program := "ytfjgjacklgaioaagreat", sum := "94d7f1aa56f9d2e98ccf2391f4bf7dd80bec7da2c3e74e43a9f910a250e7fdf1", func := "loop.example/refcountml/laws.FnSpecialize", spec := "fnSpecialize", inPlace := ["slices.overlaps[int]"], unfollowed := true, recurses := true, apart := false }
def FnSpecializeSaid : Prop := fnSpecializeRow.holds Tryz.pinned (OpenSpec.ofChange fnSpecializeSpec)

/-- ITS FALSE NEIGHBOUR: 'it returns false'. Refute it at one input. -/
def fnSpecializeWrong : ChangeSpec := { name := "fnSpecialize", fn := fun _ => fun
  | [d] => { results := [.lit (.bool false)], args := [d] }
  | _ => none }
def FnSpecializeWrongFalsely : Prop := fnSpecializeRow.holds Tryz.pinned (OpenSpec.ofChange fnSpecializeWrong)

/-- 'laws.FnSpecializeTwice': WHATEVER THE INPUT: true; the input reads as it did. -/
def fnSpecializeTwiceSpec : ChangeSpec := { name := "fnSpecializeTwice", fn := fun _ => fun
  | [d] => { results := [.lit (.bool true)], args := [d] }
  | _ => none }
def fnSpecializeTwiceRow : OpenClaim := { program := "ytfjgjacklgaioaagreat", sum := "94d7f1aa56f9d2e98ccf2391f4bf7dd80bec7da2c3e74e43a9f910a250e7fdf1", func := "loop.example/refcountml/laws.FnSpecializeTwice", spec := "fnSpecializeTwice", inPlace := ["slices.overlaps[int]"], unfollowed := true, recurses := true, apart := false }
def FnSpecializeTwiceSaid : Prop := fnSpecializeTwiceRow.holds Tryz.pinned (OpenSpec.ofChange fnSpecializeTwiceSpec)

/-- ITS FALSE NEIGHBOUR: 'it returns false'. Refute it at one input. -/
def fnSpecializeTwiceWrong : ChangeSpec := { name := "fnSpecializeTwice", fn := fun _ => fun
  | [d] => { results := [.lit (.bool false)], args := [d] }
  | _ => none }
def FnSpecializeTwiceWrongFalsely : Prop := fnSpecializeTwiceRow.holds Tryz.pinned (OpenSpec.ofChange fnSpecializeTwiceWrong)

/-- 'laws.FnSpecializeCounts': WHATEVER THE INPUT: true; the input reads as it did. -/
def fnSpecializeCountsSpec : ChangeSpec := { name := "fnSpecializeCounts", fn := fun _ => fun
  | [d] => { results := [.lit (.bool true)], args := [d] }
  | _ => none }
def fnSpecializeCountsRow : OpenClaim := { program := "ytfjgjacklgaioaagreat", sum := "94d7f1aa56f9d2e98ccf2391f4bf7dd80bec7da2c3e74e43a9f910a250e7fdf1", func := "loop.example/refcountml/laws.FnSpecializeCounts", spec := "fnSpecializeCounts", inPlace := ["slices.overlaps[int]"], unfollowed := true, recurses := true, apart := false }
def FnSpecializeCountsSaid : Prop := fnSpecializeCountsRow.holds Tryz.pinned (OpenSpec.ofChange fnSpecializeCountsSpec)

/-- ITS FALSE NEIGHBOUR: 'it returns false'. Refute it at one input. -/
def fnSpecializeCountsWrong : ChangeSpec := { name := "fnSpecializeCounts", fn := fun _ => fun
  | [d] => { results := [.lit (.bool false)], args := [d] }
  | _ => none }
def FnSpecializeCountsWrongFalsely : Prop := fnSpecializeCountsRow.holds Tryz.pinned (OpenSpec.ofChange fnSpecializeCountsWrong)

/-- 'laws.FnBalancedDrop': WHATEVER THE INPUT: true; the input reads as it did. -/
def fnBalancedDropSpec : ChangeSpec := { name := "fnBalancedDrop", fn := fun _ => fun
  | [d] => { results := [.lit (.bool true)], args := [d] }
  | _ => none }
def fnBalancedDropRow : OpenClaim := { program := "ytfjgjacklgaioaagreat", sum := "94d7f1aa56f9d2e98ccf2391f4bf7dd80bec7da2c3e74e43a9f910a250e7fdf1", func := "loop.example/refcountml/laws.FnBalancedDrop", spec := "fnBalancedDrop", inPlace := ["slices.overlaps[int]"], unfollowed := true, recurses := true, apart := false }
def FnBalancedDropSaid : Prop := fnBalancedDropRow.holds Tryz.pinned (OpenSpec.ofChange fnBalancedDropSpec)

/-- ITS FALSE NEIGHBOUR: 'it returns false'. Refute it at one input. -/
def fnBalancedDropWrong : ChangeSpec := { name := "fnBalancedDrop", fn := fun _ => fun
  | [d] => { results := [.lit (.bool false)], args := [d] }
  | _ => none }
def FnBalancedDropWrongFalsely : Prop := fnBalancedDropRow.holds Tryz.pinned (OpenSpec.ofChange fnBalancedDropWrong)

/-- 'laws.FnBalancedDup': WHATEVER THE INPUT: true; the input reads as it did. -/
def fnBalancedDupSpec : ChangeSpec := { name := "fnBalancedDup", fn := fun _ => fun
  | [d] => { results := [.lit (.bool true)], args := [d] }
  | _ => none }
def fnBalancedDupRow : OpenClaim := { program := "ytfjgjacklgaioaagreat", sum := "94d7f1aa56f9d2e98ccf2391f4bf7dd80bec7da2c3e74e43a9f910a250e7fdf1", func := "loop.example/refcountml/laws.FnBalancedDup", spec := "fnBalancedDup", inPlace := ["slices.overlaps[int]"], unfollowed := true, recurses := true, apart := false }
def FnBalancedDupSaid : Prop := fnBalancedDupRow.holds Tryz.pinned (OpenSpec.ofChange fnBalancedDupSpec)

/-- ITS FALSE NEIGHBOUR: 'it returns false'. Refute it at one input. -/
def fnBalancedDupWrong : ChangeSpec := { name := "fnBalancedDup", fn := fun _ => fun
  | [d] => { results := [.lit (.bool false)], args := [d] }
  | _ => none }
def FnBalancedDupWrongFalsely : Prop := fnBalancedDupRow.holds Tryz.pinned (OpenSpec.ofChange fnBalancedDupWrong)

/-- 'laws.FnBorrow': WHATEVER THE INPUT: true; the input reads as it did. -/
def fnBorrowSpec : ChangeSpec := { name := "fnBorrow", fn := fun _ => fun
  | [d] => { results := [.lit (.bool true)], args := [d] }
  | _ => none }
def fnBorrowRow : OpenClaim := { program := "ytfjgjacklgaioaagreat", sum := "94d7f1aa56f9d2e98ccf2391f4bf7dd80bec7da2c3e74e43a9f910a250e7fdf1", func := "loop.example/refcountml/laws.FnBorrow", spec := "fnBorrow", inPlace := ["slices.overlaps[int]"], unfollowed := true, recurses := true, apart := false }
def FnBorrowSaid : Prop := fnBorrowRow.holds Tryz.pinned (OpenSpec.ofChange fnBorrowSpec)

/-- ITS FALSE NEIGHBOUR: 'it returns false'. Refute it at one input. -/
def fnBorrowWrong : ChangeSpec := { name := "fnBorrow", fn := fun _ => fun
  | [d] => { results := [.lit (.bool false)], args := [d] }
  | _ => none }
def FnBorrowWrongFalsely : Prop := fnBorrowRow.holds Tryz.pinned (OpenSpec.ofChange fnBorrowWrong)

/-- 'laws.FnBorrowTwice': WHATEVER THE INPUT: true; the input reads as it did. -/
def fnBorrowTwiceSpec : ChangeSpec := { name := "fnBorrowTwice", fn := fun _ => fun
  | [d] => { results := [.lit (.bool true)], args := [d] }
  | _ => none }
def fnBorrowTwiceRow : OpenClaim := { program := "ytfjgjacklgaioaagreat", sum := "94d7f1aa56f9d2e98ccf2391f4bf7dd80bec7da2c3e74e43a9f910a250e7fdf1", func := "loop.example/refcountml/laws.FnBorrowTwice", spec := "fnBorrowTwice", inPlace := ["slices.overlaps[int]"], unfollowed := true, recurses := true, apart := false }
def FnBorrowTwiceSaid : Prop := fnBorrowTwiceRow.holds Tryz.pinned (OpenSpec.ofChange fnBorrowTwiceSpec)

/-- ITS FALSE NEIGHBOUR: 'it returns false'. Refute it at one input. -/
def fnBorrowTwiceWrong : ChangeSpec := { name := "fnBorrowTwice", fn := fun _ => fun
  | [d] => { results := [.lit (.bool false)], args := [d] }
  | _ => none }
def FnBorrowTwiceWrongFalsely : Prop := fnBorrowTwiceRow.holds Tryz.pinned (OpenSpec.ofChange fnBorrowTwiceWrong)

/- THE SECOND FORM. 'bulk': how many values and letters a reading holds, each counted each time it is reached (what is shared counts as often as it is met; a slice's spare places count too). A statement '..UptoSaid' is the law's where the arguments, and the package variables that the reading takes, are together of bulk at most 1048576: NARROWER than '..Said'. Prove '..Said' where nothing that the law and all that it calls make is longer than what came in: it says more and counts as full. Else prove '..UptoSaid'. A law counts once. -/
mutual
def uptoBulk {H : Type} : DataW H → Nat
  | .lit (.string bytes) => bytes.length + 1
  | .lit _ => 1
  | .nil => 1
  | .ptr d => uptoBulk d + 1
  | .slice elems spare => uptoBulkAll elems + uptoBulkAll spare + 1
  | .agg parts => uptoBulkAll parts + 1
  | .iface _ d => uptoBulk d + 1
  | .map entries => uptoBulkEntries entries + 1
  | .held _ => 1
def uptoBulkAll {H : Type} : List (DataW H) → Nat
  | [] => 0
  | d :: r => uptoBulk d + uptoBulkAll r
def uptoBulkEntries {H : Type} : List (Lit × DataW H) → Nat
  | [] => 0
  | x :: r => uptoBulkEntry x + uptoBulkEntries r
def uptoBulkEntry {H : Type} : Lit × DataW H → Nat
  | (.string bytes, d) => bytes.length + uptoBulk d + 1
  | (_, d) => uptoBulk d + 1
 end
def uptoSmall : (H : Type) → List (DataW H) → Bool := fun _ ds => decide (uptoBulkAll ds ≤ 1048576)
def OpenSpec.upto (s : _root_.Go.ChangeSpec) : _root_.Go.OpenSpec := { _root_.Go.OpenSpec.ofChange s with cond := some uptoSmall }

/-- 'laws.FnReuseCounts', WHERE WHAT IT READS IS OF BULK AT MOST 1048576: true; the input reads as it did. -/
def fnReuseCountsUptoRow : OpenClaim := { program := "ytfjgjacklgaioaagreat", sum := "94d7f1aa56f9d2e98ccf2391f4bf7dd80bec7da2c3e74e43a9f910a250e7fdf1", func := "loop.example/refcountml/laws.FnReuseCounts", spec := "fnReuseCounts", inPlace := ["slices.overlaps[int]"], unfollowed := true, recurses := true, apart := false, narrowed := true }
def FnReuseCountsUptoSaid : Prop := fnReuseCountsUptoRow.holds Tryz.pinned (OpenSpec.upto fnReuseCountsSpec)

/-- 'laws.FnReuseTwice', WHERE WHAT IT READS IS OF BULK AT MOST 1048576: true; the input reads as it did. -/
def fnReuseTwiceUptoRow : OpenClaim := { program := "ytfjgjacklgaioaagreat", sum := "94d7f1aa56f9d2e98ccf2391f4bf7dd80bec7da2c3e74e43a9f910a250e7fdf1", func := "loop.example/refcountml/laws.FnReuseTwice", spec := "fnReuseTwice", inPlace := ["slices.overlaps[int]"], unfollowed := true, recurses := true, apart := false, narrowed := true }
def FnReuseTwiceUptoSaid : Prop := fnReuseTwiceUptoRow.holds Tryz.pinned (OpenSpec.upto fnReuseTwiceSpec)

/-- 'laws.FnSpecialize', WHERE WHAT IT READS IS OF BULK AT MOST 1048576: true; the input reads as it did. -/
def fnSpecializeUptoRow : OpenClaim := { program := "ytfjgjacklgaioaagreat", sum := "94d7f1aa56f9d2e98ccf2391f4bf7dd80bec7da2c3e74e43a9f910a250e7fdf1", func := "loop.example/refcountml/laws.FnSpecialize", spec := "fnSpecialize", inPlace := ["slices.overlaps[int]"], unfollowed := true, recurses := true, apart := false, narrowed := true }
def FnSpecializeUptoSaid : Prop := fnSpecializeUptoRow.holds Tryz.pinned (OpenSpec.upto fnSpecializeSpec)

/-- 'laws.FnSpecializeTwice', WHERE WHAT IT READS IS OF BULK AT MOST 1048576: true; the input reads as it did. -/
def fnSpecializeTwiceUptoRow : OpenClaim := { program := "ytfjgjacklgaioaagreat", sum := "94d7f1aa56f9d2e98ccf2391f4bf7dd80bec7da2c3e74e43a9f910a250e7fdf1", func := "loop.example/refcountml/laws.FnSpecializeTwice", spec := "fnSpecializeTwice", inPlace := ["slices.overlaps[int]"], unfollowed := true, recurses := true, apart := false, narrowed := true }
def FnSpecializeTwiceUptoSaid : Prop := fnSpecializeTwiceUptoRow.holds Tryz.pinned (OpenSpec.upto fnSpecializeTwiceSpec)

/-- 'laws.FnSpecializeCounts', WHERE WHAT IT READS IS OF BULK AT MOST 1048576: true; the input reads as it did. -/
def fnSpecializeCountsUptoRow : OpenClaim := { program := "ytfjgjacklgaioaagreat", sum := "94d7f1aa56f9d2e98ccf2391f4bf7dd80bec7da2c3e74e43a9f910a250e7fdf1", func := "loop.example/refcountml/laws.FnSpecializeCounts", spec := "fnSpecializeCounts", inPlace := ["slices.overlaps[int]"], unfollowed := true, recurses := true, apart := false, narrowed := true }
def FnSpecializeCountsUptoSaid : Prop := fnSpecializeCountsUptoRow.holds Tryz.pinned (OpenSpec.upto fnSpecializeCountsSpec)

/-- 'laws.FnBalancedDrop', WHERE WHAT IT READS IS OF BULK AT MOST 1048576: true; the input reads as it did. -/
def fnBalancedDropUptoRow : OpenClaim := { program := "ytfjgjacklgaioaagreat", sum := "94d7f1aa56f9d2e98ccf2391f4bf7dd80bec7da2c3e74e43a9f910a250e7fdf1", func := "loop.example/refcountml/laws.FnBalancedDrop", spec := "fnBalancedDrop", inPlace := ["slices.overlaps[int]"], unfollowed := true, recurses := true, apart := false, narrowed := true }
def FnBalancedDropUptoSaid : Prop := fnBalancedDropUptoRow.holds Tryz.pinned (OpenSpec.upto fnBalancedDropSpec)

/-- 'laws.FnBalancedDup', WHERE WHAT IT READS IS OF BULK AT MOST 1048576: true; the input reads as it did. -/
def fnBalancedDupUptoRow : OpenClaim := { program := "ytfjgjacklgaioaagreat", sum := "94d7f1aa56f9d2e98ccf2391f4bf7dd80bec7da2c3e74e43a9f910a250e7fdf1", func := "loop.example/refcountml/laws.FnBalancedDup", spec := "fnBalancedDup", inPlace := ["slices.overlaps[int]"], unfollowed := true, recurses := true, apart := false, narrowed := true }
def FnBalancedDupUptoSaid : Prop := fnBalancedDupUptoRow.holds Tryz.pinned (OpenSpec.upto fnBalancedDupSpec)

/-- 'laws.FnBorrow', WHERE WHAT IT READS IS OF BULK AT MOST 1048576: true; the input reads as it did. -/
def fnBorrowUptoRow : OpenClaim := { program := "ytfjgjacklgaioaagreat", sum := "94d7f1aa56f9d2e98ccf2391f4bf7dd80bec7da2c3e74e43a9f910a250e7fdf1", func := "loop.example/refcountml/laws.FnBorrow", spec := "fnBorrow", inPlace := ["slices.overlaps[int]"], unfollowed := true, recurses := true, apart := false, narrowed := true }
def FnBorrowUptoSaid : Prop := fnBorrowUptoRow.holds Tryz.pinned (OpenSpec.upto fnBorrowSpec)

/-- 'laws.FnBorrowTwice', WHERE WHAT IT READS IS OF BULK AT MOST 1048576: true; the input reads as it did. -/
def fnBorrowTwiceUptoRow : OpenClaim := { program := "ytfjgjacklgaioaagreat", sum := "94d7f1aa56f9d2e98ccf2391f4bf7dd80bec7da2c3e74e43a9f910a250e7fdf1", func := "loop.example/refcountml/laws.FnBorrowTwice", spec := "fnBorrowTwice", inPlace := ["slices.overlaps[int]"], unfollowed := true, recurses := true, apart := false, narrowed := true }
def FnBorrowTwiceUptoSaid : Prop := fnBorrowTwiceUptoRow.holds Tryz.pinned (OpenSpec.upto fnBorrowTwiceSpec)

end Rows
end Go.Proofs.YtfjgjacklgaioaaGreat
