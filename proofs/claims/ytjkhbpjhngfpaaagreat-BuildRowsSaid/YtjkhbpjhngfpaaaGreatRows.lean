/-
  No cell of these rows narrows 'for every input' (looked for: loops, veiled, ifaces, maps, wideKeys, modest, calm, conditions, laid).
  DERIVED. THE GIVEN ROWS OF THIS SEAT. 4 by the template 'for every input the law returns true; each argument reads behind the call as it read before'; 0 by the template 'total and deterministic' (their statements: YtjkhbpjhngfpaaaGreatTotals.lean).
  GIVEN WITH THE SEED: the statements are not yours to turn. If you find one false, say at which input.
  Laid BY PROGRAM, IN A SANDBOX (cutbox-rows.mjs): the forced cells as the released guide's own fill.sh prints them over the translation d4582283286e8c0d… (all of the seat's roots in one cut). By AI agents, Wed Nov 11 2026. No macro, syntax, notation, axiom, sorry.
-/
import Derived.Test.YtjkhbpjhngfpaaaGreatChecked
import GoSem.Claim
import GoSem.ClaimJoined
import GoSem.ClaimMapViews
import Derived.JoinedTies
import Derived.KernelRfl
namespace Go.Proofs.YtjkhbpjhngfpaaaGreat
/- THE CELL 'sum', in the pinned program and in every row, IS THE sha256 OF THE DUMP (.gsa) THAT YtjkhbpjhngfpaaaGreatProg.lean LOADS. Nothing in Lean hashes anything: it is a label: what it is worth is what the hold of that sum in a sandbox is worth. -/
noncomputable def Tryz.pinned : Pinned := { name := "ytjkhbpjhngfpaaagreat", sum := "d4582283286e8c0d5e30911e08f3ba888491a845f3293464d2acfbbae6722440", checked := Tryz.checked }
namespace Rows
def none {H : Type} : Left H := { results := [], args := [] }

/-- 'quicksetlaw15.BuildRoots': WHATEVER THE INPUT: true; the input reads as it did. -/
def buildRootsSpec : ChangeSpec := { name := "buildRoots", fn := fun _ => fun
  | [d1, d2] => { results := [.lit (.bool true)], args := [d1, d2] }
  | _ => none }
def buildRootsRow : OpenClaim := { program := "ytjkhbpjhngfpaaagreat", sum := "d4582283286e8c0d5e30911e08f3ba888491a845f3293464d2acfbbae6722440", func := "quickset/quicksetlaw15.BuildRoots", spec := "buildRoots", inPlace := ["slices.overlaps[quickset/pair.Pair]", "slices.overlaps[*quickset/node.Node]"], unfollowed := true, recurses := true, apart := false }
def BuildRootsSaid : Prop := buildRootsRow.holds Tryz.pinned (OpenSpec.ofChange buildRootsSpec)

/-- ITS FALSE NEIGHBOUR: 'it returns false'. Refute it at one input. -/
def buildRootsWrong : ChangeSpec := { name := "buildRoots", fn := fun _ => fun
  | [d1, d2] => { results := [.lit (.bool false)], args := [d1, d2] }
  | _ => none }
def BuildRootsWrongFalsely : Prop := buildRootsRow.holds Tryz.pinned (OpenSpec.ofChange buildRootsWrong)

/-- 'quicksetlaw15.BuildRows': WHATEVER THE INPUT: true; the input reads as it did. -/
def buildRowsSpec : ChangeSpec := { name := "buildRows", fn := fun _ => fun
  | [d1, d2, d3, d4] => { results := [.lit (.bool true)], args := [d1, d2, d3, d4] }
  | _ => none }
def buildRowsRow : OpenClaim := { program := "ytjkhbpjhngfpaaagreat", sum := "d4582283286e8c0d5e30911e08f3ba888491a845f3293464d2acfbbae6722440", func := "quickset/quicksetlaw15.BuildRows", spec := "buildRows", inPlace := ["slices.overlaps[quickset/pair.Pair]", "slices.overlaps[*quickset/node.Node]"], unfollowed := true, recurses := true, apart := false }
def BuildRowsSaid : Prop := buildRowsRow.holds Tryz.pinned (OpenSpec.ofChange buildRowsSpec)

/-- ITS FALSE NEIGHBOUR: 'it returns false'. Refute it at one input. -/
def buildRowsWrong : ChangeSpec := { name := "buildRows", fn := fun _ => fun
  | [d1, d2, d3, d4] => { results := [.lit (.bool false)], args := [d1, d2, d3, d4] }
  | _ => none }
def BuildRowsWrongFalsely : Prop := buildRowsRow.holds Tryz.pinned (OpenSpec.ofChange buildRowsWrong)

/-- 'quicksetlaw14.TreeSame': WHATEVER THE INPUT: true; the input reads as it did. -/
def treeSameSpec : ChangeSpec := { name := "treeSame", fn := fun _ => fun
  | [d1, d2, d3, d4, d5, d6, d7] => { results := [.lit (.bool true)], args := [d1, d2, d3, d4, d5, d6, d7] }
  | _ => none }
def treeSameRow : OpenClaim := { program := "ytjkhbpjhngfpaaagreat", sum := "d4582283286e8c0d5e30911e08f3ba888491a845f3293464d2acfbbae6722440", func := "quickset/quicksetlaw14.TreeSame", spec := "treeSame", inPlace := ["slices.overlaps[*quickset/radix.Node]", "slices.overlaps[quickset/pair.Pair]", "slices.overlaps[*quickset/node.Node]"], unfollowed := true, recurses := true, apart := false }
def TreeSameSaid : Prop := treeSameRow.holds Tryz.pinned (OpenSpec.ofChange treeSameSpec)

/-- ITS FALSE NEIGHBOUR: 'it returns false'. Refute it at one input. -/
def treeSameWrong : ChangeSpec := { name := "treeSame", fn := fun _ => fun
  | [d1, d2, d3, d4, d5, d6, d7] => { results := [.lit (.bool false)], args := [d1, d2, d3, d4, d5, d6, d7] }
  | _ => none }
def TreeSameWrongFalsely : Prop := treeSameRow.holds Tryz.pinned (OpenSpec.ofChange treeSameWrong)

/-- 'quicksetlaw14.TreeTurns': WHATEVER THE INPUT: true; the input reads as it did. -/
def treeTurnsSpec : ChangeSpec := { name := "treeTurns", fn := fun _ => fun
  | [d1, d2, d3, d4, d5] => { results := [.lit (.bool true)], args := [d1, d2, d3, d4, d5] }
  | _ => none }
def treeTurnsRow : OpenClaim := { program := "ytjkhbpjhngfpaaagreat", sum := "d4582283286e8c0d5e30911e08f3ba888491a845f3293464d2acfbbae6722440", func := "quickset/quicksetlaw14.TreeTurns", spec := "treeTurns", inPlace := ["slices.overlaps[*quickset/radix.Node]", "slices.overlaps[quickset/pair.Pair]", "slices.overlaps[*quickset/node.Node]"], unfollowed := true, recurses := true, apart := false }
def TreeTurnsSaid : Prop := treeTurnsRow.holds Tryz.pinned (OpenSpec.ofChange treeTurnsSpec)

/-- ITS FALSE NEIGHBOUR: 'it returns false'. Refute it at one input. -/
def treeTurnsWrong : ChangeSpec := { name := "treeTurns", fn := fun _ => fun
  | [d1, d2, d3, d4, d5] => { results := [.lit (.bool false)], args := [d1, d2, d3, d4, d5] }
  | _ => none }
def TreeTurnsWrongFalsely : Prop := treeTurnsRow.holds Tryz.pinned (OpenSpec.ofChange treeTurnsWrong)

/- THE SECOND FORM. 'bulk': how many values and letters a reading holds, each counted each time it is reached (what is shared counts as often as it is met; a slice's spare places count too). A statement '..UptoSaid' is the law's where the arguments, and the package variables that the reading takes, are together of bulk at most 1048576: NARROWER than '..Said'. Prove '..Said' where nothing that the law and all that it calls make is longer than what came in: it says more and counts as full. Else prove '..UptoSaid'. A law counts once. -/
mutual
def uptoBulk {H : Type} : DataW H → Nat
  | .lit (.string bytes) => bytes.length + 1
  | .lit _ => 1
  | .nil => 1
  | .ptr d => uptoBulk d + 1
  | .slice elems spare => uptoBulkAll elems + uptoBulkAll spare + 1
  | .agg parts => uptoBulkAll parts + 1
  | .iface _ d => uptoBulk d + 1
  | .map entries => uptoBulkEntries entries + 1
  | .held _ => 1
def uptoBulkAll {H : Type} : List (DataW H) → Nat
  | [] => 0
  | d :: r => uptoBulk d + uptoBulkAll r
def uptoBulkEntries {H : Type} : List (Lit × DataW H) → Nat
  | [] => 0
  | x :: r => uptoBulkEntry x + uptoBulkEntries r
def uptoBulkEntry {H : Type} : Lit × DataW H → Nat
  | (.string bytes, d) => bytes.length + uptoBulk d + 1
  | (_, d) => uptoBulk d + 1
 end
def uptoSmall : (H : Type) → List (DataW H) → Bool := fun _ ds => decide (uptoBulkAll ds ≤ 1048576)
def OpenSpec.upto (s : _root_.Go.ChangeSpec) : _root_.Go.OpenSpec := { _root_.Go.OpenSpec.ofChange s with cond := some uptoSmall }

/-- 'quicksetlaw15.BuildRoots', WHERE WHAT IT READS IS OF BULK AT MOST 1048576: true; the input reads as it did. -/
def buildRootsUptoRow : OpenClaim := { program := "ytjkhbpjhngfpaaagreat", sum := "d4582283286e8c0d5e30911e08f3ba888491a845f3293464d2acfbbae6722440", func := "quickset/quicksetlaw15.BuildRoots", spec := "buildRoots", inPlace := ["slices.overlaps[quickset/pair.Pair]", "slices.overlaps[*quickset/node.Node]"], unfollowed := true, recurses := true, apart := false, narrowed := true }
def BuildRootsUptoSaid : Prop := buildRootsUptoRow.holds Tryz.pinned (OpenSpec.upto buildRootsSpec)

/-- 'quicksetlaw15.BuildRows', WHERE WHAT IT READS IS OF BULK AT MOST 1048576: true; the input reads as it did. -/
def buildRowsUptoRow : OpenClaim := { program := "ytjkhbpjhngfpaaagreat", sum := "d4582283286e8c0d5e30911e08f3ba888491a845f3293464d2acfbbae6722440", func := "quickset/quicksetlaw15.BuildRows", spec := "buildRows", inPlace := ["slices.overlaps[quickset/pair.Pair]", "slices.overlaps[*quickset/node.Node]"], unfollowed := true, recurses := true, apart := false, narrowed := true }
def BuildRowsUptoSaid : Prop := buildRowsUptoRow.holds Tryz.pinned (OpenSpec.upto buildRowsSpec)

/-- 'quicksetlaw14.TreeSame', WHERE WHAT IT READS IS OF BULK AT MOST 1048576: true; the input reads as it did. -/
def treeSameUptoRow : OpenClaim := { program := "ytjkhbpjhngfpaaagreat", sum := "d4582283286e8c0d5e30911e08f3ba888491a845f3293464d2acfbbae6722440", func := "quickset/quicksetlaw14.TreeSame", spec := "treeSame", inPlace := ["slices.overlaps[*quickset/radix.Node]", "slices.overlaps[quickset/pair.Pair]", "slices.overlaps[*quickset/node.Node]"], unfollowed := true, recurses := true, apart := false, narrowed := true }
def TreeSameUptoSaid : Prop := treeSameUptoRow.holds Tryz.pinned (OpenSpec.upto treeSameSpec)

/-- 'quicksetlaw14.TreeTurns', WHERE WHAT IT READS IS OF BULK AT MOST 1048576: true; the input reads as it did. -/
def treeTurnsUptoRow : OpenClaim := { program := "ytjkhbpjhngfpaaagreat", sum := "d4582283286e8c0d5e30911e08f3ba888491a845f3293464d2acfbbae6722440", func := "quickset/quicksetlaw14.TreeTurns", spec := "treeTurns", inPlace := ["slices.overlaps[*quickset/radix.Node]", "slices.overlaps[quickset/pair.Pair]", "slices.overlaps[*quickset/node.Node]"], unfollowed := true, recurses := true, apart := false, narrowed := true }
def TreeTurnsUptoSaid : Prop := treeTurnsUptoRow.holds Tryz.pinned (OpenSpec.upto treeTurnsSpec)

end Rows
end Go.Proofs.YtjkhbpjhngfpaaaGreat
