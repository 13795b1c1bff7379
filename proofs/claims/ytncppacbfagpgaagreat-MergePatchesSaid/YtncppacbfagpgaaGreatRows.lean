/-
  No cell of these rows narrows 'for every input' (looked for: loops, veiled, ifaces, maps, wideKeys, modest, calm, conditions, laid).
  DERIVED. THE GIVEN ROWS OF THIS SEAT. 4 by the template 'for every input the law returns true; each argument reads behind the call as it read before'; 0 by the template 'total and deterministic' (their statements: YtncppacbfagpgaaGreatTotals.lean).
  GIVEN WITH THE SEED: the statements are not yours to turn. If you find one false, say at which input.
  Laid BY PROGRAM, IN A SANDBOX (cutbox-rows.mjs): the forced cells as the released guide's own fill.sh prints them over the translation 69998015d791449c… (all of the seat's roots in one cut). By AI agents, Wed Nov 11 2026. No macro, syntax, notation, axiom, sorry.
-/
import Derived.Test.YtncppacbfagpgaaGreatChecked
import GoSem.Claim
import GoSem.ClaimJoined
import GoSem.ClaimMapViews
import Derived.JoinedTies
import Derived.KernelRfl
namespace Go.Proofs.YtncppacbfagpgaaGreat
/- THE CELL 'sum', in the pinned program and in every row, IS THE sha256 OF THE DUMP (.gsa) THAT YtncppacbfagpgaaGreatProg.lean LOADS. Nothing in Lean hashes anything: it is a label: what it is worth is what the hold of that sum in a sandbox is worth. -/
noncomputable def Tryz.pinned : Pinned := { name := "ytncppacbfagpgaagreat", sum := "69998015d791449cce35a4e85d52d2f348b8c6d236499aa9e0e8e3309619a2eb", checked := Tryz.checked }
namespace Rows
def none {H : Type} : Left H := { results := [], args := [] }

/-- 'quicksetlaw17.DiffJoins': WHATEVER THE INPUT: true; the input reads as it did. -/
def diffJoinsSpec : ChangeSpec := { name := "diffJoins", fn := fun _ => fun
  | [d1, d2, d3, d4, d5, d6, d7, d8] => { results := [.lit (.bool true)], args := [d1, d2, d3, d4, d5, d6, d7, d8] }
  | _ => none }
def diffJoinsRow : OpenClaim := { program := "ytncppacbfagpgaagreat", sum := "69998015d791449cce35a4e85d52d2f348b8c6d236499aa9e0e8e3309619a2eb", func := "quickset/quicksetlaw17.DiffJoins", spec := "diffJoins", inPlace := ["slices.overlaps[quickset/pair.Pair]", "slices.overlaps[*quickset/node.Node]", "slices.overlaps[*quickset/radix.Node]"], unfollowed := true, recurses := true, apart := false }
def DiffJoinsSaid : Prop := diffJoinsRow.holds Tryz.pinned (OpenSpec.ofChange diffJoinsSpec)

/-- ITS FALSE NEIGHBOUR: 'it returns false'. Refute it at one input. -/
def diffJoinsWrong : ChangeSpec := { name := "diffJoins", fn := fun _ => fun
  | [d1, d2, d3, d4, d5, d6, d7, d8] => { results := [.lit (.bool false)], args := [d1, d2, d3, d4, d5, d6, d7, d8] }
  | _ => none }
def DiffJoinsWrongFalsely : Prop := diffJoinsRow.holds Tryz.pinned (OpenSpec.ofChange diffJoinsWrong)

/-- 'quicksetlaw17.DiffParts': WHATEVER THE INPUT: true; the input reads as it did. -/
def diffPartsSpec : ChangeSpec := { name := "diffParts", fn := fun _ => fun
  | [d1, d2, d3, d4, d5, d6, d7] => { results := [.lit (.bool true)], args := [d1, d2, d3, d4, d5, d6, d7] }
  | _ => none }
def diffPartsRow : OpenClaim := { program := "ytncppacbfagpgaagreat", sum := "69998015d791449cce35a4e85d52d2f348b8c6d236499aa9e0e8e3309619a2eb", func := "quickset/quicksetlaw17.DiffParts", spec := "diffParts", inPlace := ["slices.overlaps[quickset/pair.Pair]", "slices.overlaps[*quickset/node.Node]", "slices.overlaps[*quickset/radix.Node]"], unfollowed := true, recurses := true, apart := false }
def DiffPartsSaid : Prop := diffPartsRow.holds Tryz.pinned (OpenSpec.ofChange diffPartsSpec)

/-- ITS FALSE NEIGHBOUR: 'it returns false'. Refute it at one input. -/
def diffPartsWrong : ChangeSpec := { name := "diffParts", fn := fun _ => fun
  | [d1, d2, d3, d4, d5, d6, d7] => { results := [.lit (.bool false)], args := [d1, d2, d3, d4, d5, d6, d7] }
  | _ => none }
def DiffPartsWrongFalsely : Prop := diffPartsRow.holds Tryz.pinned (OpenSpec.ofChange diffPartsWrong)

/-- 'quicksetlaw18.MergeSides': WHATEVER THE INPUT: true; the input reads as it did. -/
def mergeSidesSpec : ChangeSpec := { name := "mergeSides", fn := fun _ => fun
  | [d1, d2, d3, d4, d5, d6, d7, d8] => { results := [.lit (.bool true)], args := [d1, d2, d3, d4, d5, d6, d7, d8] }
  | _ => none }
def mergeSidesRow : OpenClaim := { program := "ytncppacbfagpgaagreat", sum := "69998015d791449cce35a4e85d52d2f348b8c6d236499aa9e0e8e3309619a2eb", func := "quickset/quicksetlaw18.MergeSides", spec := "mergeSides", inPlace := ["slices.overlaps[quickset/pair.Pair]", "slices.overlaps[*quickset/node.Node]", "slices.overlaps[*quickset/radix.Node]"], unfollowed := true, recurses := true, apart := false }
def MergeSidesSaid : Prop := mergeSidesRow.holds Tryz.pinned (OpenSpec.ofChange mergeSidesSpec)

/-- ITS FALSE NEIGHBOUR: 'it returns false'. Refute it at one input. -/
def mergeSidesWrong : ChangeSpec := { name := "mergeSides", fn := fun _ => fun
  | [d1, d2, d3, d4, d5, d6, d7, d8] => { results := [.lit (.bool false)], args := [d1, d2, d3, d4, d5, d6, d7, d8] }
  | _ => none }
def MergeSidesWrongFalsely : Prop := mergeSidesRow.holds Tryz.pinned (OpenSpec.ofChange mergeSidesWrong)

/-- 'quicksetlaw18.MergePatches': WHATEVER THE INPUT: true; the input reads as it did. -/
def mergePatchesSpec : ChangeSpec := { name := "mergePatches", fn := fun _ => fun
  | [d1, d2, d3, d4, d5, d6, d7] => { results := [.lit (.bool true)], args := [d1, d2, d3, d4, d5, d6, d7] }
  | _ => none }
def mergePatchesRow : OpenClaim := { program := "ytncppacbfagpgaagreat", sum := "69998015d791449cce35a4e85d52d2f348b8c6d236499aa9e0e8e3309619a2eb", func := "quickset/quicksetlaw18.MergePatches", spec := "mergePatches", inPlace := ["slices.overlaps[quickset/pair.Pair]", "slices.overlaps[*quickset/node.Node]", "slices.overlaps[*quickset/radix.Node]"], unfollowed := true, recurses := true, apart := false }
def MergePatchesSaid : Prop := mergePatchesRow.holds Tryz.pinned (OpenSpec.ofChange mergePatchesSpec)

/-- ITS FALSE NEIGHBOUR: 'it returns false'. Refute it at one input. -/
def mergePatchesWrong : ChangeSpec := { name := "mergePatches", fn := fun _ => fun
  | [d1, d2, d3, d4, d5, d6, d7] => { results := [.lit (.bool false)], args := [d1, d2, d3, d4, d5, d6, d7] }
  | _ => none }
def MergePatchesWrongFalsely : Prop := mergePatchesRow.holds Tryz.pinned (OpenSpec.ofChange mergePatchesWrong)

/- THE SECOND FORM. 'bulk': how many values and letters a reading holds, each counted each time it is reached (what is shared counts as often as it is met; a slice's spare places count too). A statement '..UptoSaid' is the law's where the arguments, and the package variables that the reading takes, are together of bulk at most 1048576: NARROWER than '..Said'. Prove '..Said' where nothing that the law and all that it calls make is longer than what came in: it says more and counts as full. Else prove '..UptoSaid'. A law counts once. -/
mutual
def uptoBulk {H : Type} : DataW H → Nat
  | .lit (.string bytes) => bytes.length + 1
  | .lit _ => 1
  | .nil => 1
  | .ptr d => uptoBulk d + 1
  | .slice elems spare => uptoBulkAll elems + uptoBulkAll spare + 1
  | .agg parts => uptoBulkAll parts + 1
  | .iface _ d => uptoBulk d + 1
  | .map entries => uptoBulkEntries entries + 1
  | .held _ => 1
def uptoBulkAll {H : Type} : List (DataW H) → Nat
  | [] => 0
  | d :: r => uptoBulk d + uptoBulkAll r
def uptoBulkEntries {H : Type} : List (Lit × DataW H) → Nat
  | [] => 0
  | x :: r => uptoBulkEntry x + uptoBulkEntries r
def uptoBulkEntry {H : Type} : Lit × DataW H → Nat
  | (.string bytes, d) => bytes.length + uptoBulk d + 1
  | (_, d) => uptoBulk d + 1
 end
def uptoSmall : (H : Type) → List (DataW H) → Bool := fun _ ds => decide (uptoBulkAll ds ≤ 1048576)
def OpenSpec.upto (s : _root_.Go.ChangeSpec) : _root_.Go.OpenSpec := { _root_.Go.OpenSpec.ofChange s with cond := some uptoSmall }

/-- 'quicksetlaw17.DiffJoins', WHERE WHAT IT READS IS OF BULK AT MOST 1048576: true; the input reads as it did. -/
def diffJoinsUptoRow : OpenClaim := { program := "ytncppacbfagpgaagreat", sum := "69998015d791449cce35a4e85d52d2f348b8c6d236499aa9e0e8e3309619a2eb", func := "quickset/quicksetlaw17.DiffJoins", spec := "diffJoins", inPlace := ["slices.overlaps[quickset/pair.Pair]", "slices.overlaps[*quickset/node.Node]", "slices.overlaps[*quickset/radix.Node]"], unfollowed := true, recurses := true, apart := false, narrowed := true }
def DiffJoinsUptoSaid : Prop := diffJoinsUptoRow.holds Tryz.pinned (OpenSpec.upto diffJoinsSpec)

/-- 'quicksetlaw17.DiffParts', WHERE WHAT IT READS IS OF BULK AT MOST 1048576: true; the input reads as it did. -/
def diffPartsUptoRow : OpenClaim := { program := "ytncppacbfagpgaagreat", sum := "69998015d791449cce35a4e85d52d2f348b8c6d236499aa9e0e8e3309619a2eb", func := "quickset/quicksetlaw17.DiffParts", spec := "diffParts", inPlace := ["slices.overlaps[quickset/pair.Pair]", "slices.overlaps[*quickset/node.Node]", "slices.overlaps[*quickset/radix.Node]"], unfollowed := true, recurses := true, apart := false, narrowed := true }
def DiffPartsUptoSaid : Prop := diffPartsUptoRow.holds Tryz.pinned (OpenSpec.upto diffPartsSpec)

/-- 'quicksetlaw18.MergeSides', WHERE WHAT IT READS IS OF BULK AT MOST 1048576: true; the input reads as it did. -/
def mergeSidesUptoRow : OpenClaim := { program := "ytncppacbfagpgaagreat", sum := "69998015d791449cce35a4e85d52d2f348b8c6d236499aa9e0e8e3309619a2eb", func := "quickset/quicksetlaw18.MergeSides", spec := "mergeSides", inPlace := ["slices.overlaps[quickset/pair.Pair]", "slices.overlaps[*quickset/node.Node]", "slices.overlaps[*quickset/radix.Node]"], unfollowed := true, recurses := true, apart := false, narrowed := true }
def MergeSidesUptoSaid : Prop := mergeSidesUptoRow.holds Tryz.pinned (OpenSpec.upto mergeSidesSpec)

/-- 'quicksetlaw18.MergePatches', WHERE WHAT IT READS IS OF BULK AT MOST 1048576: true; the input reads as it did. -/
def mergePatchesUptoRow : OpenClaim := { program := "ytncppacbfagpgaagreat", sum := "69998015d791449cce35a4e85d52d2f348b8c6d236499aa9e0e8e3309619a2eb", func := "quickset/quicksetlaw18.MergePatches", spec := "mergePatches", inPlace := ["slices.overlaps[quickset/pair.Pair]", "slices.overlaps[*quickset/node.Node]", "slices.overlaps[*quickset/radix.Node]"], unfollowed := true, recurses := true, apart := false, narrowed := true }
def MergePatchesUptoSaid : Prop := mergePatchesUptoRow.holds Tryz.pinned (OpenSpec.upto mergePatchesSpec)

end Rows
end Go.Proofs.YtncppacbfagpgaaGreat
