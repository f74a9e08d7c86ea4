/-
  NARROWER THAN 'FOR EVERY INPUT', by the rows' own cells (each row's printed sentence says how): FnExactExpand: loops · FnExactSpecialize: loops · FnExactReuse: loops.
  DERIVED. THE GIVEN ROWS OF THIS SEAT. 3 by the template 'for every input the law returns true; each argument reads behind the call as it read before'; 0 by the template 'total and deterministic' (their statements: YtjneabekegkopaaGreatTotals.lean).
  GIVEN WITH THE SEED: the statements are not yours to turn. If you find one false, say at which input.
  Laid BY PROGRAM, IN A SANDBOX (cutbox-rows.mjs): the forced cells as the released guide's own fill.sh prints them over the translation 8040528898e3325f… (all of the seat's roots in one cut). By AI agents, Wed Nov 11 2026. No macro, syntax, notation, axiom, sorry.
-/
import Derived.Test.YtjneabekegkopaaGreatChecked
import GoSem.Claim
import GoSem.ClaimJoined
import GoSem.ClaimMapViews
import Derived.JoinedTies
import Derived.KernelRfl
namespace Go.Proofs.YtjneabekegkopaaGreat
/- THE CELL 'sum', in the pinned program and in every row, IS THE sha256 OF THE DUMP (.gsa) THAT YtjneabekegkopaaGreatProg.lean LOADS. Nothing in Lean hashes anything: it is a label: what it is worth is what the hold of that sum in a sandbox is worth. -/
noncomputable def Tryz.pinned : Pinned := { name := "ytjneabekegkopaagreat", sum := "8040528898e3325f958d381f0a346aa6330b407fa74e2b26124d2122565fd769", checked := Tryz.checked }
namespace Rows
def none {H : Type} : Left H := { results := [], args := [] }

/-- 'laws.FnExactExpand': WHATEVER THE INPUT: true; the input reads as it did. -/
def fnExactExpandSpec : ChangeSpec := { name := "fnExactExpand", fn := fun _ => fun
  | [d] => { results := [.lit (.bool true)], args := [d] }
  | _ => none }
def fnExactExpandRow : OpenClaim := { program := "ytjneabekegkopaagreat", sum := "8040528898e3325f958d381f0a346aa6330b407fa74e2b26124d2122565fd769", func := "loop.example/refcountml/laws.FnExactExpand", spec := "fnExactExpand", inPlace := ["slices.overlaps[int]"], unfollowed := true, recurses := true, loops := true, apart := false }
def FnExactExpandSaid : Prop := fnExactExpandRow.holds Tryz.pinned (OpenSpec.ofChange fnExactExpandSpec)

/-- ITS FALSE NEIGHBOUR: 'it returns false'. Refute it at one input. -/
def fnExactExpandWrong : ChangeSpec := { name := "fnExactExpand", fn := fun _ => fun
  | [d] => { results := [.lit (.bool false)], args := [d] }
  | _ => none }
def FnExactExpandWrongFalsely : Prop := fnExactExpandRow.holds Tryz.pinned (OpenSpec.ofChange fnExactExpandWrong)

/-- 'laws.FnExactSpecialize': WHATEVER THE INPUT: true; the input reads as it did. -/
def fnExactSpecializeSpec : ChangeSpec := { name := "fnExactSpecialize", fn := fun _ => fun
  | [d] => { results := [.lit (.bool true)], args := [d] }
  | _ => none }
def fnExactSpecializeRow : OpenClaim := { program := "ytjneabekegkopaagreat", sum := "8040528898e3325f958d381f0a346aa6330b407fa74e2b26124d2122565fd769", func := "loop.example/refcountml/laws.FnExactSpecialize", spec := "fnExactSpecialize", inPlace := ["slices.overlaps[int]"], unfollowed := true, recurses := true, loops := true, apart := false }
def FnExactSpecializeSaid : Prop := fnExactSpecializeRow.holds Tryz.pinned (OpenSpec.ofChange fnExactSpecializeSpec)

/-- ITS FALSE NEIGHBOUR: 'it returns false'. Refute it at one input. -/
def fnExactSpecializeWrong : ChangeSpec := { name := "fnExactSpecialize", fn := fun _ => fun
  | [d] => { results := [.lit (.bool false)], args := [d] }
  | _ => none }
def FnExactSpecializeWrongFalsely : Prop := fnExactSpecializeRow.holds Tryz.pinned (OpenSpec.ofChange fnExactSpecializeWrong)

/-- 'laws.FnExactReuse': WHATEVER THE INPUT: true; the input reads as it did. -/
def fnExactReuseSpec : ChangeSpec := { name := "fnExactReuse", fn := fun _ => fun
  | [d] => { results := [.lit (.bool true)], args := [d] }
  | _ => none }
def fnExactReuseRow : OpenClaim := { program := "ytjneabekegkopaagreat", sum := "8040528898e3325f958d381f0a346aa6330b407fa74e2b26124d2122565fd769", func := "loop.example/refcountml/laws.FnExactReuse", spec := "fnExactReuse", inPlace := ["slices.overlaps[int]"], unfollowed := true, recurses := true, loops := true, apart := false }
def FnExactReuseSaid : Prop := fnExactReuseRow.holds Tryz.pinned (OpenSpec.ofChange fnExactReuseSpec)

/-- ITS FALSE NEIGHBOUR: 'it returns false'. Refute it at one input. -/
def fnExactReuseWrong : ChangeSpec := { name := "fnExactReuse", fn := fun _ => fun
  | [d] => { results := [.lit (.bool false)], args := [d] }
  | _ => none }
def FnExactReuseWrongFalsely : Prop := fnExactReuseRow.holds Tryz.pinned (OpenSpec.ofChange fnExactReuseWrong)

/- THE SECOND FORM. 'bulk': how many values and letters a reading holds, each counted each time it is reached (what is shared counts as often as it is met; a slice's spare places count too). A statement '..UptoSaid' is the law's where the arguments, and the package variables that the reading takes, are together of bulk at most 1048576: NARROWER than '..Said'. Prove '..Said' where nothing that the law and all that it calls make is longer than what came in: it says more and counts as full. Else prove '..UptoSaid'. A law counts once. -/
mutual
def uptoBulk {H : Type} : DataW H → Nat
  | .lit (.string bytes) => bytes.length + 1
  | .lit _ => 1
  | .nil => 1
  | .ptr d => uptoBulk d + 1
  | .slice elems spare => uptoBulkAll elems + uptoBulkAll spare + 1
  | .agg parts => uptoBulkAll parts + 1
  | .iface _ d => uptoBulk d + 1
  | .map entries => uptoBulkEntries entries + 1
  | .held _ => 1
def uptoBulkAll {H : Type} : List (DataW H) → Nat
  | [] => 0
  | d :: r => uptoBulk d + uptoBulkAll r
def uptoBulkEntries {H : Type} : List (Lit × DataW H) → Nat
  | [] => 0
  | x :: r => uptoBulkEntry x + uptoBulkEntries r
def uptoBulkEntry {H : Type} : Lit × DataW H → Nat
  | (.string bytes, d) => bytes.length + uptoBulk d + 1
  | (_, d) => uptoBulk d + 1
 end
def uptoSmall : (H : Type) → List (DataW H) → Bool := fun _ ds => decide (uptoBulkAll ds ≤ 1048576)
def OpenSpec.upto (s : _root_.Go.ChangeSpec) : _root_.Go.OpenSpec := { _root_.Go.OpenSpec.ofChange s with cond := some uptoSmall }

/-- 'laws.FnExactExpand', WHERE WHAT IT READS IS OF BULK AT MOST 1048576: true; the input reads as it did. -/
def fnExactExpandUptoRow : OpenClaim := { program := "ytjneabekegkopaagreat", sum := "8040528898e3325f958d381f0a346aa6330b407fa74e2b26124d2122565fd769", func := "loop.example/refcountml/laws.FnExactExpand", spec := "fnExactExpand", inPlace := ["slices.overlaps[int]"], unfollowed := true, recurses := true, loops := true, apart := false, narrowed := true }
def FnExactExpandUptoSaid : Prop := fnExactExpandUptoRow.holds Tryz.pinned (OpenSpec.upto fnExactExpandSpec)

/-- 'laws.FnExactSpecialize', WHERE WHAT IT READS IS OF BULK AT MOST 1048576: true; the input reads as it did. -/
def fnExactSpecializeUptoRow : OpenClaim := { program := "ytjneabekegkopaagreat", sum := "8040528898e3325f958d381f0a346aa6330b407fa74e2b26124d2122565fd769", func := "loop.example/refcountml/laws.FnExactSpecialize", spec := "fnExactSpecialize", inPlace := ["slices.overlaps[int]"], unfollowed := true, recurses := true, loops := true, apart := false, narrowed := true }
def FnExactSpecializeUptoSaid : Prop := fnExactSpecializeUptoRow.holds Tryz.pinned (OpenSpec.upto fnExactSpecializeSpec)

/-- 'laws.FnExactReuse', WHERE WHAT IT READS IS OF BULK AT MOST 1048576: true; the input reads as it did. -/
def fnExactReuseUptoRow : OpenClaim := { program := "ytjneabekegkopaagreat", sum := "8040528898e3325f958d381f0a346aa6330b407fa74e2b26124d2122565fd769", func := "loop.example/refcountml/laws.FnExactReuse", spec := "fnExactReuse", inPlace := ["slices.overlaps[int]"], unfollowed := true, recurses := true, loops := true, apart := false, narrowed := true }
def FnExactReuseUptoSaid : Prop := fnExactReuseUptoRow.holds Tryz.pinned (OpenSpec.upto fnExactReuseSpec)

end Rows
end Go.Proofs.YtjneabekegkopaaGreat
