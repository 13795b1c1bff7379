/-
  NARROWER THAN 'FOR EVERY INPUT', by the rows' own cells (each row's printed sentence says how): EditWide: laid · EditSnaps: laid · EditRuns: laid · EditFrozen: laid · TreeOwns: laid · EditPlays: laid.
  DERIVED. THE GIVEN ROWS OF THIS SEAT. 6 by the template 'for every input the law returns true; each argument reads behind the call as it read before'; 0 by the template 'total and deterministic' (their statements: YtajpljopgikpgaaGreatDoorTotals.lean).
  GIVEN WITH THE SEED: the statements are not yours to turn. If you find one false, say at which input.
  Laid BY PROGRAM, IN A SANDBOX (cutbox-rows.mjs): the forced cells as the released guide's own fill.sh prints them over the translation 44d05ee5f1c9354f… (all of the seat's roots in one cut). By AI agents, Wed Nov 11 2026. No macro, syntax, notation, axiom, sorry.
-/
import Derived.Test.YtajpljopgikpgaaGreatDoorChecked
import GoSem.Claim
import GoSem.ClaimJoined
import GoSem.ClaimMapViews
import Derived.JoinedTies
import Derived.KernelRfl
namespace Go.Proofs.YtajpljopgikpgaaGreatDoor
/- THE CELL 'sum', in the pinned program and in every row, IS THE sha256 OF THE DUMP (.gsa) THAT YtajpljopgikpgaaGreatDoorProg.lean LOADS. Nothing in Lean hashes anything: it is a label: what it is worth is what the hold of that sum in a sandbox is worth. -/
noncomputable def Tryz.pinned : Pinned := { name := "ytajpljopgikpgaagreatdoor", sum := "44d05ee5f1c9354f4ea9a34133b1387969833f1e91e46fade3a9bb4ed0b42b42", checked := Tryz.checked }
namespace Rows
def none {H : Type} : Left H := { results := [], args := [] }

/- WHAT THE LISTED PACKAGE-LEVEL VARIABLES READ AS WHEN THE CALL BEGINS. Each datum BY PROGRAM (the guide's laid-datum.mjs) off the statement by which the dump's own 'gosem.cut.vars' lays the variable. In a bare row this is a premise. The card (YtajpljopgikpgaaGreatDoorCards.lean) ties it to the program's text. -/
def laid_math_bits_deBruijn32tab {H : Type} : DataW H := .agg [.lit (.int .u8 0), .lit (.int .u8 1), .lit (.int .u8 28), .lit (.int .u8 2), .lit (.int .u8 29), .lit (.int .u8 14), .lit (.int .u8 24), .lit (.int .u8 3), .lit (.int .u8 30), .lit (.int .u8 22), .lit (.int .u8 20), .lit (.int .u8 15), .lit (.int .u8 25), .lit (.int .u8 17), .lit (.int .u8 4), .lit (.int .u8 8), .lit (.int .u8 31), .lit (.int .u8 27), .lit (.int .u8 13), .lit (.int .u8 23), .lit (.int .u8 21), .lit (.int .u8 19), .lit (.int .u8 16), .lit (.int .u8 7), .lit (.int .u8 26), .lit (.int .u8 12), .lit (.int .u8 18), .lit (.int .u8 6), .lit (.int .u8 11), .lit (.int .u8 5), .lit (.int .u8 10), .lit (.int .u8 9)]

/-- 'quicksetlaw16.EditWide': WHATEVER THE INPUT: true; the input reads as it did. -/
def editWideSpec : ChangeSpec := { name := "editWide", fn := fun _ => fun
  | [d1, d2, d3, d4] => { results := [.lit (.bool true)], args := [d1, d2, d3, d4] }
  | _ => none }
def editWideRow : OpenClaim := { program := "ytajpljopgikpgaagreatdoor", sum := "44d05ee5f1c9354f4ea9a34133b1387969833f1e91e46fade3a9bb4ed0b42b42", func := "quickset/quicksetlaw16.EditWide", spec := "editWide", inPlace := ["slices.overlaps[*quickset/radix.Node]", "slices.overlaps[quickset/pair.Pair]", "slices.overlaps[*quickset/node.Node]"], unfollowed := true, recurses := true, named := ["math/bits.deBruijn32tab"], apart := false, laid := [("math/bits.deBruijn32tab", laid_math_bits_deBruijn32tab)] }
def EditWideSaid : Prop := editWideRow.holds Tryz.pinned (OpenSpec.ofChange editWideSpec)

/-- ITS FALSE NEIGHBOUR: 'it returns false'. Refute it at one input. -/
def editWideWrong : ChangeSpec := { name := "editWide", fn := fun _ => fun
  | [d1, d2, d3, d4] => { results := [.lit (.bool false)], args := [d1, d2, d3, d4] }
  | _ => none }
def EditWideWrongFalsely : Prop := editWideRow.holds Tryz.pinned (OpenSpec.ofChange editWideWrong)

/-- 'quicksetlaw16.EditSnaps': WHATEVER THE INPUT: true; the input reads as it did. -/
def editSnapsSpec : ChangeSpec := { name := "editSnaps", fn := fun _ => fun
  | [d1, d2, d3, d4] => { results := [.lit (.bool true)], args := [d1, d2, d3, d4] }
  | _ => none }
def editSnapsRow : OpenClaim := { program := "ytajpljopgikpgaagreatdoor", sum := "44d05ee5f1c9354f4ea9a34133b1387969833f1e91e46fade3a9bb4ed0b42b42", func := "quickset/quicksetlaw16.EditSnaps", spec := "editSnaps", inPlace := ["slices.overlaps[*quickset/radix.Node]", "slices.overlaps[quickset/pair.Pair]", "slices.overlaps[*quickset/node.Node]"], unfollowed := true, recurses := true, named := ["math/bits.deBruijn32tab"], apart := false, laid := [("math/bits.deBruijn32tab", laid_math_bits_deBruijn32tab)] }
def EditSnapsSaid : Prop := editSnapsRow.holds Tryz.pinned (OpenSpec.ofChange editSnapsSpec)

/-- ITS FALSE NEIGHBOUR: 'it returns false'. Refute it at one input. -/
def editSnapsWrong : ChangeSpec := { name := "editSnaps", fn := fun _ => fun
  | [d1, d2, d3, d4] => { results := [.lit (.bool false)], args := [d1, d2, d3, d4] }
  | _ => none }
def EditSnapsWrongFalsely : Prop := editSnapsRow.holds Tryz.pinned (OpenSpec.ofChange editSnapsWrong)

/-- 'quicksetlaw16.EditRuns': WHATEVER THE INPUT: true; the input reads as it did. -/
def editRunsSpec : ChangeSpec := { name := "editRuns", fn := fun _ => fun
  | [d1, d2, d3, d4, d5, d6] => { results := [.lit (.bool true)], args := [d1, d2, d3, d4, d5, d6] }
  | _ => none }
def editRunsRow : OpenClaim := { program := "ytajpljopgikpgaagreatdoor", sum := "44d05ee5f1c9354f4ea9a34133b1387969833f1e91e46fade3a9bb4ed0b42b42", func := "quickset/quicksetlaw16.EditRuns", spec := "editRuns", inPlace := ["slices.overlaps[*quickset/radix.Node]", "slices.overlaps[quickset/pair.Pair]", "slices.overlaps[*quickset/node.Node]"], unfollowed := true, recurses := true, named := ["math/bits.deBruijn32tab"], apart := false, laid := [("math/bits.deBruijn32tab", laid_math_bits_deBruijn32tab)] }
def EditRunsSaid : Prop := editRunsRow.holds Tryz.pinned (OpenSpec.ofChange editRunsSpec)

/-- ITS FALSE NEIGHBOUR: 'it returns false'. Refute it at one input. -/
def editRunsWrong : ChangeSpec := { name := "editRuns", fn := fun _ => fun
  | [d1, d2, d3, d4, d5, d6] => { results := [.lit (.bool false)], args := [d1, d2, d3, d4, d5, d6] }
  | _ => none }
def EditRunsWrongFalsely : Prop := editRunsRow.holds Tryz.pinned (OpenSpec.ofChange editRunsWrong)

/-- 'quicksetlaw16.EditFrozen': WHATEVER THE INPUT: true; the input reads as it did. -/
def editFrozenSpec : ChangeSpec := { name := "editFrozen", fn := fun _ => fun
  | [d1, d2, d3, d4] => { results := [.lit (.bool true)], args := [d1, d2, d3, d4] }
  | _ => none }
def editFrozenRow : OpenClaim := { program := "ytajpljopgikpgaagreatdoor", sum := "44d05ee5f1c9354f4ea9a34133b1387969833f1e91e46fade3a9bb4ed0b42b42", func := "quickset/quicksetlaw16.EditFrozen", spec := "editFrozen", inPlace := ["slices.overlaps[*quickset/radix.Node]", "slices.overlaps[quickset/pair.Pair]", "slices.overlaps[*quickset/node.Node]"], unfollowed := true, recurses := true, named := ["math/bits.deBruijn32tab"], apart := false, laid := [("math/bits.deBruijn32tab", laid_math_bits_deBruijn32tab)] }
def EditFrozenSaid : Prop := editFrozenRow.holds Tryz.pinned (OpenSpec.ofChange editFrozenSpec)

/-- ITS FALSE NEIGHBOUR: 'it returns false'. Refute it at one input. -/
def editFrozenWrong : ChangeSpec := { name := "editFrozen", fn := fun _ => fun
  | [d1, d2, d3, d4] => { results := [.lit (.bool false)], args := [d1, d2, d3, d4] }
  | _ => none }
def EditFrozenWrongFalsely : Prop := editFrozenRow.holds Tryz.pinned (OpenSpec.ofChange editFrozenWrong)

/-- 'quicksetlaw14.TreeOwns': WHATEVER THE INPUT: true; the input reads as it did. -/
def treeOwnsSpec : ChangeSpec := { name := "treeOwns", fn := fun _ => fun
  | [d1, d2, d3, d4, d5] => { results := [.lit (.bool true)], args := [d1, d2, d3, d4, d5] }
  | _ => none }
def treeOwnsRow : OpenClaim := { program := "ytajpljopgikpgaagreatdoor", sum := "44d05ee5f1c9354f4ea9a34133b1387969833f1e91e46fade3a9bb4ed0b42b42", func := "quickset/quicksetlaw14.TreeOwns", spec := "treeOwns", inPlace := ["slices.overlaps[*quickset/radix.Node]", "slices.overlaps[quickset/pair.Pair]", "slices.overlaps[*quickset/node.Node]"], unfollowed := true, recurses := true, named := ["math/bits.deBruijn32tab"], apart := false, laid := [("math/bits.deBruijn32tab", laid_math_bits_deBruijn32tab)] }
def TreeOwnsSaid : Prop := treeOwnsRow.holds Tryz.pinned (OpenSpec.ofChange treeOwnsSpec)

/-- ITS FALSE NEIGHBOUR: 'it returns false'. Refute it at one input. -/
def treeOwnsWrong : ChangeSpec := { name := "treeOwns", fn := fun _ => fun
  | [d1, d2, d3, d4, d5] => { results := [.lit (.bool false)], args := [d1, d2, d3, d4, d5] }
  | _ => none }
def TreeOwnsWrongFalsely : Prop := treeOwnsRow.holds Tryz.pinned (OpenSpec.ofChange treeOwnsWrong)

/-- 'quicksetlaw16.EditPlays': WHATEVER THE INPUT: true; the input reads as it did. -/
def editPlaysSpec : ChangeSpec := { name := "editPlays", fn := fun _ => fun
  | [d1, d2, d3, d4] => { results := [.lit (.bool true)], args := [d1, d2, d3, d4] }
  | _ => none }
def editPlaysRow : OpenClaim := { program := "ytajpljopgikpgaagreatdoor", sum := "44d05ee5f1c9354f4ea9a34133b1387969833f1e91e46fade3a9bb4ed0b42b42", func := "quickset/quicksetlaw16.EditPlays", spec := "editPlays", inPlace := ["slices.overlaps[*quickset/radix.Node]", "slices.overlaps[quickset/pair.Pair]", "slices.overlaps[*quickset/node.Node]"], unfollowed := true, recurses := true, named := ["math/bits.deBruijn32tab"], apart := false, laid := [("math/bits.deBruijn32tab", laid_math_bits_deBruijn32tab)] }
def EditPlaysSaid : Prop := editPlaysRow.holds Tryz.pinned (OpenSpec.ofChange editPlaysSpec)

/-- ITS FALSE NEIGHBOUR: 'it returns false'. Refute it at one input. -/
def editPlaysWrong : ChangeSpec := { name := "editPlays", fn := fun _ => fun
  | [d1, d2, d3, d4] => { results := [.lit (.bool false)], args := [d1, d2, d3, d4] }
  | _ => none }
def EditPlaysWrongFalsely : Prop := editPlaysRow.holds Tryz.pinned (OpenSpec.ofChange editPlaysWrong)

/- THE SECOND FORM. 'bulk': how many values and letters a reading holds, each counted each time it is reached (what is shared counts as often as it is met; a slice's spare places count too). A statement '..UptoSaid' is the law's where the arguments, and the package variables that the reading takes, are together of bulk at most 1048576: NARROWER than '..Said'. Prove '..Said' where nothing that the law and all that it calls make is longer than what came in: it says more and counts as full. Else prove '..UptoSaid'. A law counts once. -/
mutual
def uptoBulk {H : Type} : DataW H → Nat
  | .lit (.string bytes) => bytes.length + 1
  | .lit _ => 1
  | .nil => 1
  | .ptr d => uptoBulk d + 1
  | .slice elems spare => uptoBulkAll elems + uptoBulkAll spare + 1
  | .agg parts => uptoBulkAll parts + 1
  | .iface _ d => uptoBulk d + 1
  | .map entries => uptoBulkEntries entries + 1
  | .held _ => 1
def uptoBulkAll {H : Type} : List (DataW H) → Nat
  | [] => 0
  | d :: r => uptoBulk d + uptoBulkAll r
def uptoBulkEntries {H : Type} : List (Lit × DataW H) → Nat
  | [] => 0
  | x :: r => uptoBulkEntry x + uptoBulkEntries r
def uptoBulkEntry {H : Type} : Lit × DataW H → Nat
  | (.string bytes, d) => bytes.length + uptoBulk d + 1
  | (_, d) => uptoBulk d + 1
 end
def uptoSmall : (H : Type) → List (DataW H) → Bool := fun _ ds => decide (uptoBulkAll ds ≤ 1048576)
def OpenSpec.upto (s : _root_.Go.ChangeSpec) : _root_.Go.OpenSpec := { _root_.Go.OpenSpec.ofChange s with cond := some uptoSmall }

/-- 'quicksetlaw16.EditWide', WHERE WHAT IT READS IS OF BULK AT MOST 1048576: true; the input reads as it did. -/
def editWideUptoRow : OpenClaim := { program := "ytajpljopgikpgaagreatdoor", sum := "44d05ee5f1c9354f4ea9a34133b1387969833f1e91e46fade3a9bb4ed0b42b42", func := "quickset/quicksetlaw16.EditWide", spec := "editWide", inPlace := ["slices.overlaps[*quickset/radix.Node]", "slices.overlaps[quickset/pair.Pair]", "slices.overlaps[*quickset/node.Node]"], unfollowed := true, recurses := true, named := ["math/bits.deBruijn32tab"], apart := false, laid := [("math/bits.deBruijn32tab", laid_math_bits_deBruijn32tab)], narrowed := true }
def EditWideUptoSaid : Prop := editWideUptoRow.holds Tryz.pinned (OpenSpec.upto editWideSpec)

/-- 'quicksetlaw16.EditSnaps', WHERE WHAT IT READS IS OF BULK AT MOST 1048576: true; the input reads as it did. -/
def editSnapsUptoRow : OpenClaim := { program := "ytajpljopgikpgaagreatdoor", sum := "44d05ee5f1c9354f4ea9a34133b1387969833f1e91e46fade3a9bb4ed0b42b42", func := "quickset/quicksetlaw16.EditSnaps", spec := "editSnaps", inPlace := ["slices.overlaps[*quickset/radix.Node]", "slices.overlaps[quickset/pair.Pair]", "slices.overlaps[*quickset/node.Node]"], unfollowed := true, recurses := true, named := ["math/bits.deBruijn32tab"], apart := false, laid := [("math/bits.deBruijn32tab", laid_math_bits_deBruijn32tab)], narrowed := true }
def EditSnapsUptoSaid : Prop := editSnapsUptoRow.holds Tryz.pinned (OpenSpec.upto editSnapsSpec)

/-- 'quicksetlaw16.EditRuns', WHERE WHAT IT READS IS OF BULK AT MOST 1048576: true; the input reads as it did. -/
def editRunsUptoRow : OpenClaim := { program := "ytajpljopgikpgaagreatdoor", sum := "44d05ee5f1c9354f4ea9a34133b1387969833f1e91e46fade3a9bb4ed0b42b42", func := "quickset/quicksetlaw16.EditRuns", spec := "editRuns", inPlace := ["slices.overlaps[*quickset/radix.Node]", "slices.overlaps[quickset/pair.Pair]", "slices.overlaps[*quickset/node.Node]"], unfollowed := true, recurses := true, named := ["math/bits.deBruijn32tab"], apart := false, laid := [("math/bits.deBruijn32tab", laid_math_bits_deBruijn32tab)], narrowed := true }
def EditRunsUptoSaid : Prop := editRunsUptoRow.holds Tryz.pinned (OpenSpec.upto editRunsSpec)

/-- 'quicksetlaw16.EditFrozen', WHERE WHAT IT READS IS OF BULK AT MOST 1048576: true; the input reads as it did. -/
def editFrozenUptoRow : OpenClaim := { program := "ytajpljopgikpgaagreatdoor", sum := "44d05ee5f1c9354f4ea9a34133b1387969833f1e91e46fade3a9bb4ed0b42b42", func := "quickset/quicksetlaw16.EditFrozen", spec := "editFrozen", inPlace := ["slices.overlaps[*quickset/radix.Node]", "slices.overlaps[quickset/pair.Pair]", "slices.overlaps[*quickset/node.Node]"], unfollowed := true, recurses := true, named := ["math/bits.deBruijn32tab"], apart := false, laid := [("math/bits.deBruijn32tab", laid_math_bits_deBruijn32tab)], narrowed := true }
def EditFrozenUptoSaid : Prop := editFrozenUptoRow.holds Tryz.pinned (OpenSpec.upto editFrozenSpec)

/-- 'quicksetlaw14.TreeOwns', WHERE WHAT IT READS IS OF BULK AT MOST 1048576: true; the input reads as it did. -/
def treeOwnsUptoRow : OpenClaim := { program := "ytajpljopgikpgaagreatdoor", sum := "44d05ee5f1c9354f4ea9a34133b1387969833f1e91e46fade3a9bb4ed0b42b42", func := "quickset/quicksetlaw14.TreeOwns", spec := "treeOwns", inPlace := ["slices.overlaps[*quickset/radix.Node]", "slices.overlaps[quickset/pair.Pair]", "slices.overlaps[*quickset/node.Node]"], unfollowed := true, recurses := true, named := ["math/bits.deBruijn32tab"], apart := false, laid := [("math/bits.deBruijn32tab", laid_math_bits_deBruijn32tab)], narrowed := true }
def TreeOwnsUptoSaid : Prop := treeOwnsUptoRow.holds Tryz.pinned (OpenSpec.upto treeOwnsSpec)

/-- 'quicksetlaw16.EditPlays', WHERE WHAT IT READS IS OF BULK AT MOST 1048576: true; the input reads as it did. -/
def editPlaysUptoRow : OpenClaim := { program := "ytajpljopgikpgaagreatdoor", sum := "44d05ee5f1c9354f4ea9a34133b1387969833f1e91e46fade3a9bb4ed0b42b42", func := "quickset/quicksetlaw16.EditPlays", spec := "editPlays", inPlace := ["slices.overlaps[*quickset/radix.Node]", "slices.overlaps[quickset/pair.Pair]", "slices.overlaps[*quickset/node.Node]"], unfollowed := true, recurses := true, named := ["math/bits.deBruijn32tab"], apart := false, laid := [("math/bits.deBruijn32tab", laid_math_bits_deBruijn32tab)], narrowed := true }
def EditPlaysUptoSaid : Prop := editPlaysUptoRow.holds Tryz.pinned (OpenSpec.upto editPlaysSpec)

end Rows
end Go.Proofs.YtajpljopgikpgaaGreatDoor
