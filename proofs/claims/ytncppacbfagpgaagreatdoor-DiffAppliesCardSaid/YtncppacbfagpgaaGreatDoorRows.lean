/-
  NARROWER THAN 'FOR EVERY INPUT', by the rows' own cells (each row's printed sentence says how): BuildTrees: laid · TreeRoots: laid · TreePlays: laid · BuildPaths: laid · DiffApplies: laid · DiffTells: laid · MergeKinds: laid · MergeTakes: laid.
  DERIVED. THE GIVEN ROWS OF THIS SEAT. 8 by the template 'for every input the law returns true; each argument reads behind the call as it read before'; 0 by the template 'total and deterministic' (their statements: YtncppacbfagpgaaGreatDoorTotals.lean).
  GIVEN WITH THE SEED: the statements are not yours to turn. If you find one false, say at which input.
  Laid BY PROGRAM, IN A SANDBOX (cutbox-rows.mjs): the forced cells as the released guide's own fill.sh prints them over the translation 30c830e66f0f55bd… (all of the seat's roots in one cut). By AI agents, Wed Nov 11 2026. No macro, syntax, notation, axiom, sorry.
-/
import Derived.Test.YtncppacbfagpgaaGreatDoorChecked
import GoSem.Claim
import GoSem.ClaimJoined
import GoSem.ClaimMapViews
import Derived.JoinedTies
import Derived.KernelRfl
namespace Go.Proofs.YtncppacbfagpgaaGreatDoor
/- THE CELL 'sum', in the pinned program and in every row, IS THE sha256 OF THE DUMP (.gsa) THAT YtncppacbfagpgaaGreatDoorProg.lean LOADS. Nothing in Lean hashes anything: it is a label: what it is worth is what the hold of that sum in a sandbox is worth. -/
noncomputable def Tryz.pinned : Pinned := { name := "ytncppacbfagpgaagreatdoor", sum := "30c830e66f0f55bd8fd819839919b9e7d5d6a28f7fd35fd3191b9fee4cee9464", checked := Tryz.checked }
namespace Rows
def none {H : Type} : Left H := { results := [], args := [] }

/- WHAT THE LISTED PACKAGE-LEVEL VARIABLES READ AS WHEN THE CALL BEGINS. Each datum BY PROGRAM (the guide's laid-datum.mjs) off the statement by which the dump's own 'gosem.cut.vars' lays the variable. In a bare row this is a premise. The card (YtncppacbfagpgaaGreatDoorCards.lean) ties it to the program's text. -/
def laid_math_bits_deBruijn32tab {H : Type} : DataW H := .agg [.lit (.int .u8 0), .lit (.int .u8 1), .lit (.int .u8 28), .lit (.int .u8 2), .lit (.int .u8 29), .lit (.int .u8 14), .lit (.int .u8 24), .lit (.int .u8 3), .lit (.int .u8 30), .lit (.int .u8 22), .lit (.int .u8 20), .lit (.int .u8 15), .lit (.int .u8 25), .lit (.int .u8 17), .lit (.int .u8 4), .lit (.int .u8 8), .lit (.int .u8 31), .lit (.int .u8 27), .lit (.int .u8 13), .lit (.int .u8 23), .lit (.int .u8 21), .lit (.int .u8 19), .lit (.int .u8 16), .lit (.int .u8 7), .lit (.int .u8 26), .lit (.int .u8 12), .lit (.int .u8 18), .lit (.int .u8 6), .lit (.int .u8 11), .lit (.int .u8 5), .lit (.int .u8 10), .lit (.int .u8 9)]

/-- 'quicksetlaw15.BuildTrees': WHATEVER THE INPUT: true; the input reads as it did. -/
def buildTreesSpec : ChangeSpec := { name := "buildTrees", fn := fun _ => fun
  | [d1, d2, d3, d4, d5, d6] => { results := [.lit (.bool true)], args := [d1, d2, d3, d4, d5, d6] }
  | _ => none }
def buildTreesRow : OpenClaim := { program := "ytncppacbfagpgaagreatdoor", sum := "30c830e66f0f55bd8fd819839919b9e7d5d6a28f7fd35fd3191b9fee4cee9464", func := "quickset/quicksetlaw15.BuildTrees", spec := "buildTrees", inPlace := ["slices.overlaps[quickset/pair.Pair]", "slices.overlaps[*quickset/node.Node]"], unfollowed := true, recurses := true, named := ["math/bits.deBruijn32tab"], apart := false, laid := [("math/bits.deBruijn32tab", laid_math_bits_deBruijn32tab)] }
def BuildTreesSaid : Prop := buildTreesRow.holds Tryz.pinned (OpenSpec.ofChange buildTreesSpec)

/-- ITS FALSE NEIGHBOUR: 'it returns false'. Refute it at one input. -/
def buildTreesWrong : ChangeSpec := { name := "buildTrees", fn := fun _ => fun
  | [d1, d2, d3, d4, d5, d6] => { results := [.lit (.bool false)], args := [d1, d2, d3, d4, d5, d6] }
  | _ => none }
def BuildTreesWrongFalsely : Prop := buildTreesRow.holds Tryz.pinned (OpenSpec.ofChange buildTreesWrong)

/-- 'quicksetlaw14.TreeRoots': WHATEVER THE INPUT: true; the input reads as it did. -/
def treeRootsSpec : ChangeSpec := { name := "treeRoots", fn := fun _ => fun
  | [d1, d2, d3] => { results := [.lit (.bool true)], args := [d1, d2, d3] }
  | _ => none }
def treeRootsRow : OpenClaim := { program := "ytncppacbfagpgaagreatdoor", sum := "30c830e66f0f55bd8fd819839919b9e7d5d6a28f7fd35fd3191b9fee4cee9464", func := "quickset/quicksetlaw14.TreeRoots", spec := "treeRoots", inPlace := ["slices.overlaps[*quickset/radix.Node]", "slices.overlaps[quickset/pair.Pair]", "slices.overlaps[*quickset/node.Node]"], unfollowed := true, recurses := true, named := ["math/bits.deBruijn32tab"], apart := false, laid := [("math/bits.deBruijn32tab", laid_math_bits_deBruijn32tab)] }
def TreeRootsSaid : Prop := treeRootsRow.holds Tryz.pinned (OpenSpec.ofChange treeRootsSpec)

/-- ITS FALSE NEIGHBOUR: 'it returns false'. Refute it at one input. -/
def treeRootsWrong : ChangeSpec := { name := "treeRoots", fn := fun _ => fun
  | [d1, d2, d3] => { results := [.lit (.bool false)], args := [d1, d2, d3] }
  | _ => none }
def TreeRootsWrongFalsely : Prop := treeRootsRow.holds Tryz.pinned (OpenSpec.ofChange treeRootsWrong)

/-- 'quicksetlaw14.TreePlays': WHATEVER THE INPUT: true; the input reads as it did. -/
def treePlaysSpec : ChangeSpec := { name := "treePlays", fn := fun _ => fun
  | [d1, d2, d3] => { results := [.lit (.bool true)], args := [d1, d2, d3] }
  | _ => none }
def treePlaysRow : OpenClaim := { program := "ytncppacbfagpgaagreatdoor", sum := "30c830e66f0f55bd8fd819839919b9e7d5d6a28f7fd35fd3191b9fee4cee9464", func := "quickset/quicksetlaw14.TreePlays", spec := "treePlays", inPlace := ["slices.overlaps[*quickset/radix.Node]", "slices.overlaps[quickset/pair.Pair]", "slices.overlaps[*quickset/node.Node]"], unfollowed := true, recurses := true, named := ["math/bits.deBruijn32tab"], apart := false, laid := [("math/bits.deBruijn32tab", laid_math_bits_deBruijn32tab)] }
def TreePlaysSaid : Prop := treePlaysRow.holds Tryz.pinned (OpenSpec.ofChange treePlaysSpec)

/-- ITS FALSE NEIGHBOUR: 'it returns false'. Refute it at one input. -/
def treePlaysWrong : ChangeSpec := { name := "treePlays", fn := fun _ => fun
  | [d1, d2, d3] => { results := [.lit (.bool false)], args := [d1, d2, d3] }
  | _ => none }
def TreePlaysWrongFalsely : Prop := treePlaysRow.holds Tryz.pinned (OpenSpec.ofChange treePlaysWrong)

/-- 'quicksetlaw15.BuildPaths': WHATEVER THE INPUT: true; the input reads as it did. -/
def buildPathsSpec : ChangeSpec := { name := "buildPaths", fn := fun _ => fun
  | [d1, d2, d3, d4] => { results := [.lit (.bool true)], args := [d1, d2, d3, d4] }
  | _ => none }
def buildPathsRow : OpenClaim := { program := "ytncppacbfagpgaagreatdoor", sum := "30c830e66f0f55bd8fd819839919b9e7d5d6a28f7fd35fd3191b9fee4cee9464", func := "quickset/quicksetlaw15.BuildPaths", spec := "buildPaths", inPlace := ["slices.overlaps[quickset/pair.Pair]", "slices.overlaps[*quickset/node.Node]", "slices.overlaps[*quickset/radix.Node]"], unfollowed := true, recurses := true, named := ["math/bits.deBruijn32tab"], apart := false, laid := [("math/bits.deBruijn32tab", laid_math_bits_deBruijn32tab)] }
def BuildPathsSaid : Prop := buildPathsRow.holds Tryz.pinned (OpenSpec.ofChange buildPathsSpec)

/-- ITS FALSE NEIGHBOUR: 'it returns false'. Refute it at one input. -/
def buildPathsWrong : ChangeSpec := { name := "buildPaths", fn := fun _ => fun
  | [d1, d2, d3, d4] => { results := [.lit (.bool false)], args := [d1, d2, d3, d4] }
  | _ => none }
def BuildPathsWrongFalsely : Prop := buildPathsRow.holds Tryz.pinned (OpenSpec.ofChange buildPathsWrong)

/-- 'quicksetlaw17.DiffApplies': WHATEVER THE INPUT: true; the input reads as it did. -/
def diffAppliesSpec : ChangeSpec := { name := "diffApplies", fn := fun _ => fun
  | [d1, d2, d3, d4, d5, d6, d7] => { results := [.lit (.bool true)], args := [d1, d2, d3, d4, d5, d6, d7] }
  | _ => none }
def diffAppliesRow : OpenClaim := { program := "ytncppacbfagpgaagreatdoor", sum := "30c830e66f0f55bd8fd819839919b9e7d5d6a28f7fd35fd3191b9fee4cee9464", func := "quickset/quicksetlaw17.DiffApplies", spec := "diffApplies", inPlace := ["slices.overlaps[quickset/pair.Pair]", "slices.overlaps[*quickset/node.Node]", "slices.overlaps[*quickset/radix.Node]"], unfollowed := true, recurses := true, named := ["math/bits.deBruijn32tab"], apart := false, laid := [("math/bits.deBruijn32tab", laid_math_bits_deBruijn32tab)] }
def DiffAppliesSaid : Prop := diffAppliesRow.holds Tryz.pinned (OpenSpec.ofChange diffAppliesSpec)

/-- ITS FALSE NEIGHBOUR: 'it returns false'. Refute it at one input. -/
def diffAppliesWrong : ChangeSpec := { name := "diffApplies", fn := fun _ => fun
  | [d1, d2, d3, d4, d5, d6, d7] => { results := [.lit (.bool false)], args := [d1, d2, d3, d4, d5, d6, d7] }
  | _ => none }
def DiffAppliesWrongFalsely : Prop := diffAppliesRow.holds Tryz.pinned (OpenSpec.ofChange diffAppliesWrong)

/-- 'quicksetlaw17.DiffTells': WHATEVER THE INPUT: true; the input reads as it did. -/
def diffTellsSpec : ChangeSpec := { name := "diffTells", fn := fun _ => fun
  | [d1, d2, d3, d4, d5, d6] => { results := [.lit (.bool true)], args := [d1, d2, d3, d4, d5, d6] }
  | _ => none }
def diffTellsRow : OpenClaim := { program := "ytncppacbfagpgaagreatdoor", sum := "30c830e66f0f55bd8fd819839919b9e7d5d6a28f7fd35fd3191b9fee4cee9464", func := "quickset/quicksetlaw17.DiffTells", spec := "diffTells", inPlace := ["slices.overlaps[quickset/pair.Pair]", "slices.overlaps[*quickset/node.Node]", "slices.overlaps[*quickset/radix.Node]"], unfollowed := true, recurses := true, named := ["math/bits.deBruijn32tab"], apart := false, laid := [("math/bits.deBruijn32tab", laid_math_bits_deBruijn32tab)] }
def DiffTellsSaid : Prop := diffTellsRow.holds Tryz.pinned (OpenSpec.ofChange diffTellsSpec)

/-- ITS FALSE NEIGHBOUR: 'it returns false'. Refute it at one input. -/
def diffTellsWrong : ChangeSpec := { name := "diffTells", fn := fun _ => fun
  | [d1, d2, d3, d4, d5, d6] => { results := [.lit (.bool false)], args := [d1, d2, d3, d4, d5, d6] }
  | _ => none }
def DiffTellsWrongFalsely : Prop := diffTellsRow.holds Tryz.pinned (OpenSpec.ofChange diffTellsWrong)

/-- 'quicksetlaw18.MergeKinds': WHATEVER THE INPUT: true; the input reads as it did. -/
def mergeKindsSpec : ChangeSpec := { name := "mergeKinds", fn := fun _ => fun
  | [d1, d2, d3, d4, d5, d6, d7] => { results := [.lit (.bool true)], args := [d1, d2, d3, d4, d5, d6, d7] }
  | _ => none }
def mergeKindsRow : OpenClaim := { program := "ytncppacbfagpgaagreatdoor", sum := "30c830e66f0f55bd8fd819839919b9e7d5d6a28f7fd35fd3191b9fee4cee9464", func := "quickset/quicksetlaw18.MergeKinds", spec := "mergeKinds", inPlace := ["slices.overlaps[quickset/pair.Pair]", "slices.overlaps[*quickset/node.Node]", "slices.overlaps[*quickset/radix.Node]"], unfollowed := true, recurses := true, named := ["math/bits.deBruijn32tab"], apart := false, laid := [("math/bits.deBruijn32tab", laid_math_bits_deBruijn32tab)] }
def MergeKindsSaid : Prop := mergeKindsRow.holds Tryz.pinned (OpenSpec.ofChange mergeKindsSpec)

/-- ITS FALSE NEIGHBOUR: 'it returns false'. Refute it at one input. -/
def mergeKindsWrong : ChangeSpec := { name := "mergeKinds", fn := fun _ => fun
  | [d1, d2, d3, d4, d5, d6, d7] => { results := [.lit (.bool false)], args := [d1, d2, d3, d4, d5, d6, d7] }
  | _ => none }
def MergeKindsWrongFalsely : Prop := mergeKindsRow.holds Tryz.pinned (OpenSpec.ofChange mergeKindsWrong)

/-- 'quicksetlaw18.MergeTakes': WHATEVER THE INPUT: true; the input reads as it did. -/
def mergeTakesSpec : ChangeSpec := { name := "mergeTakes", fn := fun _ => fun
  | [d1, d2, d3, d4, d5, d6, d7, d8, d9] => { results := [.lit (.bool true)], args := [d1, d2, d3, d4, d5, d6, d7, d8, d9] }
  | _ => none }
def mergeTakesRow : OpenClaim := { program := "ytncppacbfagpgaagreatdoor", sum := "30c830e66f0f55bd8fd819839919b9e7d5d6a28f7fd35fd3191b9fee4cee9464", func := "quickset/quicksetlaw18.MergeTakes", spec := "mergeTakes", inPlace := ["slices.overlaps[quickset/pair.Pair]", "slices.overlaps[*quickset/node.Node]", "slices.overlaps[*quickset/radix.Node]"], unfollowed := true, recurses := true, named := ["math/bits.deBruijn32tab"], apart := false, laid := [("math/bits.deBruijn32tab", laid_math_bits_deBruijn32tab)] }
def MergeTakesSaid : Prop := mergeTakesRow.holds Tryz.pinned (OpenSpec.ofChange mergeTakesSpec)

/-- ITS FALSE NEIGHBOUR: 'it returns false'. Refute it at one input. -/
def mergeTakesWrong : ChangeSpec := { name := "mergeTakes", fn := fun _ => fun
  | [d1, d2, d3, d4, d5, d6, d7, d8, d9] => { results := [.lit (.bool false)], args := [d1, d2, d3, d4, d5, d6, d7, d8, d9] }
  | _ => none }
def MergeTakesWrongFalsely : Prop := mergeTakesRow.holds Tryz.pinned (OpenSpec.ofChange mergeTakesWrong)

/- THE SECOND FORM. 'bulk': how many values and letters a reading holds, each counted each time it is reached (what is shared counts as often as it is met; a slice's spare places count too). A statement '..UptoSaid' is the law's where the arguments, and the package variables that the reading takes, are together of bulk at most 1048576: NARROWER than '..Said'. Prove '..Said' where nothing that the law and all that it calls make is longer than what came in: it says more and counts as full. Else prove '..UptoSaid'. A law counts once. -/
mutual
def uptoBulk {H : Type} : DataW H → Nat
  | .lit (.string bytes) => bytes.length + 1
  | .lit _ => 1
  | .nil => 1
  | .ptr d => uptoBulk d + 1
  | .slice elems spare => uptoBulkAll elems + uptoBulkAll spare + 1
  | .agg parts => uptoBulkAll parts + 1
  | .iface _ d => uptoBulk d + 1
  | .map entries => uptoBulkEntries entries + 1
  | .held _ => 1
def uptoBulkAll {H : Type} : List (DataW H) → Nat
  | [] => 0
  | d :: r => uptoBulk d + uptoBulkAll r
def uptoBulkEntries {H : Type} : List (Lit × DataW H) → Nat
  | [] => 0
  | x :: r => uptoBulkEntry x + uptoBulkEntries r
def uptoBulkEntry {H : Type} : Lit × DataW H → Nat
  | (.string bytes, d) => bytes.length + uptoBulk d + 1
  | (_, d) => uptoBulk d + 1
 end
def uptoSmall : (H : Type) → List (DataW H) → Bool := fun _ ds => decide (uptoBulkAll ds ≤ 1048576)
def OpenSpec.upto (s : _root_.Go.ChangeSpec) : _root_.Go.OpenSpec := { _root_.Go.OpenSpec.ofChange s with cond := some uptoSmall }

/-- 'quicksetlaw15.BuildTrees', WHERE WHAT IT READS IS OF BULK AT MOST 1048576: true; the input reads as it did. -/
def buildTreesUptoRow : OpenClaim := { program := "ytncppacbfagpgaagreatdoor", sum := "30c830e66f0f55bd8fd819839919b9e7d5d6a28f7fd35fd3191b9fee4cee9464", func := "quickset/quicksetlaw15.BuildTrees", spec := "buildTrees", inPlace := ["slices.overlaps[quickset/pair.Pair]", "slices.overlaps[*quickset/node.Node]"], unfollowed := true, recurses := true, named := ["math/bits.deBruijn32tab"], apart := false, laid := [("math/bits.deBruijn32tab", laid_math_bits_deBruijn32tab)], narrowed := true }
def BuildTreesUptoSaid : Prop := buildTreesUptoRow.holds Tryz.pinned (OpenSpec.upto buildTreesSpec)

/-- 'quicksetlaw14.TreeRoots', WHERE WHAT IT READS IS OF BULK AT MOST 1048576: true; the input reads as it did. -/
def treeRootsUptoRow : OpenClaim := { program := "ytncppacbfagpgaagreatdoor", sum := "30c830e66f0f55bd8fd819839919b9e7d5d6a28f7fd35fd3191b9fee4cee9464", func := "quickset/quicksetlaw14.TreeRoots", spec := "treeRoots", inPlace := ["slices.overlaps[*quickset/radix.Node]", "slices.overlaps[quickset/pair.Pair]", "slices.overlaps[*quickset/node.Node]"], unfollowed := true, recurses := true, named := ["math/bits.deBruijn32tab"], apart := false, laid := [("math/bits.deBruijn32tab", laid_math_bits_deBruijn32tab)], narrowed := true }
def TreeRootsUptoSaid : Prop := treeRootsUptoRow.holds Tryz.pinned (OpenSpec.upto treeRootsSpec)

/-- 'quicksetlaw14.TreePlays', WHERE WHAT IT READS IS OF BULK AT MOST 1048576: true; the input reads as it did. -/
def treePlaysUptoRow : OpenClaim := { program := "ytncppacbfagpgaagreatdoor", sum := "30c830e66f0f55bd8fd819839919b9e7d5d6a28f7fd35fd3191b9fee4cee9464", func := "quickset/quicksetlaw14.TreePlays", spec := "treePlays", inPlace := ["slices.overlaps[*quickset/radix.Node]", "slices.overlaps[quickset/pair.Pair]", "slices.overlaps[*quickset/node.Node]"], unfollowed := true, recurses := true, named := ["math/bits.deBruijn32tab"], apart := false, laid := [("math/bits.deBruijn32tab", laid_math_bits_deBruijn32tab)], narrowed := true }
def TreePlaysUptoSaid : Prop := treePlaysUptoRow.holds Tryz.pinned (OpenSpec.upto treePlaysSpec)

/-- 'quicksetlaw15.BuildPaths', WHERE WHAT IT READS IS OF BULK AT MOST 1048576: true; the input reads as it did. -/
def buildPathsUptoRow : OpenClaim := { program := "ytncppacbfagpgaagreatdoor", sum := "30c830e66f0f55bd8fd819839919b9e7d5d6a28f7fd35fd3191b9fee4cee9464", func := "quickset/quicksetlaw15.BuildPaths", spec := "buildPaths", inPlace := ["slices.overlaps[quickset/pair.Pair]", "slices.overlaps[*quickset/node.Node]", "slices.overlaps[*quickset/radix.Node]"], unfollowed := true, recurses := true, named := ["math/bits.deBruijn32tab"], apart := false, laid := [("math/bits.deBruijn32tab", laid_math_bits_deBruijn32tab)], narrowed := true }
def BuildPathsUptoSaid : Prop := buildPathsUptoRow.holds Tryz.pinned (OpenSpec.upto buildPathsSpec)

/-- 'quicksetlaw17.DiffApplies', WHERE WHAT IT READS IS OF BULK AT MOST 1048576: true; the input reads as it did. -/
def diffAppliesUptoRow : OpenClaim := { program := "ytncppacbfagpgaagreatdoor", sum := "30c830e66f0f55bd8fd819839919b9e7d5d6a28f7fd35fd3191b9fee4cee9464", func := "quickset/quicksetlaw17.DiffApplies", spec := "diffApplies", inPlace := ["slices.overlaps[quickset/pair.Pair]", "slices.overlaps[*quickset/node.Node]", "slices.overlaps[*quickset/radix.Node]"], unfollowed := true, recurses := true, named := ["math/bits.deBruijn32tab"], apart := false, laid := [("math/bits.deBruijn32tab", laid_math_bits_deBruijn32tab)], narrowed := true }
def DiffAppliesUptoSaid : Prop := diffAppliesUptoRow.holds Tryz.pinned (OpenSpec.upto diffAppliesSpec)

/-- 'quicksetlaw17.DiffTells', WHERE WHAT IT READS IS OF BULK AT MOST 1048576: true; the input reads as it did. -/
def diffTellsUptoRow : OpenClaim := { program := "ytncppacbfagpgaagreatdoor", sum := "30c830e66f0f55bd8fd819839919b9e7d5d6a28f7fd35fd3191b9fee4cee9464", func := "quickset/quicksetlaw17.DiffTells", spec := "diffTells", inPlace := ["slices.overlaps[quickset/pair.Pair]", "slices.overlaps[*quickset/node.Node]", "slices.overlaps[*quickset/radix.Node]"], unfollowed := true, recurses := true, named := ["math/bits.deBruijn32tab"], apart := false, laid := [("math/bits.deBruijn32tab", laid_math_bits_deBruijn32tab)], narrowed := true }
def DiffTellsUptoSaid : Prop := diffTellsUptoRow.holds Tryz.pinned (OpenSpec.upto diffTellsSpec)

/-- 'quicksetlaw18.MergeKinds', WHERE WHAT IT READS IS OF BULK AT MOST 1048576: true; the input reads as it did. -/
def mergeKindsUptoRow : OpenClaim := { program := "ytncppacbfagpgaagreatdoor", sum := "30c830e66f0f55bd8fd819839919b9e7d5d6a28f7fd35fd3191b9fee4cee9464", func := "quickset/quicksetlaw18.MergeKinds", spec := "mergeKinds", inPlace := ["slices.overlaps[quickset/pair.Pair]", "slices.overlaps[*quickset/node.Node]", "slices.overlaps[*quickset/radix.Node]"], unfollowed := true, recurses := true, named := ["math/bits.deBruijn32tab"], apart := false, laid := [("math/bits.deBruijn32tab", laid_math_bits_deBruijn32tab)], narrowed := true }
def MergeKindsUptoSaid : Prop := mergeKindsUptoRow.holds Tryz.pinned (OpenSpec.upto mergeKindsSpec)

/-- 'quicksetlaw18.MergeTakes', WHERE WHAT IT READS IS OF BULK AT MOST 1048576: true; the input reads as it did. -/
def mergeTakesUptoRow : OpenClaim := { program := "ytncppacbfagpgaagreatdoor", sum := "30c830e66f0f55bd8fd819839919b9e7d5d6a28f7fd35fd3191b9fee4cee9464", func := "quickset/quicksetlaw18.MergeTakes", spec := "mergeTakes", inPlace := ["slices.overlaps[quickset/pair.Pair]", "slices.overlaps[*quickset/node.Node]", "slices.overlaps[*quickset/radix.Node]"], unfollowed := true, recurses := true, named := ["math/bits.deBruijn32tab"], apart := false, laid := [("math/bits.deBruijn32tab", laid_math_bits_deBruijn32tab)], narrowed := true }
def MergeTakesUptoSaid : Prop := mergeTakesUptoRow.holds Tryz.pinned (OpenSpec.upto mergeTakesSpec)

end Rows
end Go.Proofs.YtncppacbfagpgaaGreatDoor
