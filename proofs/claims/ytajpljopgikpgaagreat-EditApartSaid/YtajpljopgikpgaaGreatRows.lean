/-
  No cell of these rows narrows 'for every input' (looked for: loops, veiled, ifaces, maps, wideKeys, modest, calm, conditions, laid).
  DERIVED. THE GIVEN ROWS OF THIS SEAT. 2 by the template 'for every input the law returns true; each argument reads behind the call as it read before'; 0 by the template 'total and deterministic' (their statements: YtajpljopgikpgaaGreatTotals.lean).
  GIVEN WITH THE SEED: the statements are not yours to turn. If you find one false, say at which input.
  Laid BY PROGRAM, IN A SANDBOX (cutbox-rows.mjs): the forced cells as the released guide's own fill.sh prints them over the translation b29d987c9b8f50b0… (all of the seat's roots in one cut). By AI agents, Wed Nov 11 2026. No macro, syntax, notation, axiom, sorry.
-/
import Derived.Test.YtajpljopgikpgaaGreatChecked
import GoSem.Claim
import GoSem.ClaimJoined
import GoSem.ClaimMapViews
import Derived.JoinedTies
import Derived.KernelRfl
namespace Go.Proofs.YtajpljopgikpgaaGreat
/- THE CELL 'sum', in the pinned program and in every row, IS THE sha256 OF THE DUMP (.gsa) THAT YtajpljopgikpgaaGreatProg.lean LOADS. Nothing in Lean hashes anything: it is a label: what it is worth is what the hold of that sum in a sandbox is worth. -/
noncomputable def Tryz.pinned : Pinned := { name := "ytajpljopgikpgaagreat", sum := "b29d987c9b8f50b0df90db274b7648dc55cc0818b994bb1a2dcab79a2441eb70", checked := Tryz.checked }
namespace Rows
def none {H : Type} : Left H := { results := [], args := [] }

/-- 'quicksetlaw16.EditApart': WHATEVER THE INPUT: true; the input reads as it did. -/
def editApartSpec : ChangeSpec := { name := "editApart", fn := fun _ => fun
  | [d1, d2, d3, d4, d5] => { results := [.lit (.bool true)], args := [d1, d2, d3, d4, d5] }
  | _ => none }
def editApartRow : OpenClaim := { program := "ytajpljopgikpgaagreat", sum := "b29d987c9b8f50b0df90db274b7648dc55cc0818b994bb1a2dcab79a2441eb70", func := "quickset/quicksetlaw16.EditApart", spec := "editApart", inPlace := ["slices.overlaps[*quickset/radix.Node]", "slices.overlaps[quickset/pair.Pair]", "slices.overlaps[*quickset/node.Node]"], unfollowed := true, recurses := true, apart := false }
def EditApartSaid : Prop := editApartRow.holds Tryz.pinned (OpenSpec.ofChange editApartSpec)

/-- ITS FALSE NEIGHBOUR: 'it returns false'. Refute it at one input. -/
def editApartWrong : ChangeSpec := { name := "editApart", fn := fun _ => fun
  | [d1, d2, d3, d4, d5] => { results := [.lit (.bool false)], args := [d1, d2, d3, d4, d5] }
  | _ => none }
def EditApartWrongFalsely : Prop := editApartRow.holds Tryz.pinned (OpenSpec.ofChange editApartWrong)

/-- 'quicksetlaw16.EditNil': WHATEVER THE INPUT: true; the input reads as it did. -/
def editNilSpec : ChangeSpec := { name := "editNil", fn := fun _ => fun
  | [d] => { results := [.lit (.bool true)], args := [d] }
  | _ => none }
def editNilRow : OpenClaim := { program := "ytajpljopgikpgaagreat", sum := "b29d987c9b8f50b0df90db274b7648dc55cc0818b994bb1a2dcab79a2441eb70", func := "quickset/quicksetlaw16.EditNil", spec := "editNil", inPlace := ["slices.overlaps[*quickset/radix.Node]", "slices.overlaps[quickset/pair.Pair]", "slices.overlaps[*quickset/node.Node]"], unfollowed := true, recurses := true, apart := false }
def EditNilSaid : Prop := editNilRow.holds Tryz.pinned (OpenSpec.ofChange editNilSpec)

/-- ITS FALSE NEIGHBOUR: 'it returns false'. Refute it at one input. -/
def editNilWrong : ChangeSpec := { name := "editNil", fn := fun _ => fun
  | [d] => { results := [.lit (.bool false)], args := [d] }
  | _ => none }
def EditNilWrongFalsely : Prop := editNilRow.holds Tryz.pinned (OpenSpec.ofChange editNilWrong)

/- THE SECOND FORM. 'bulk': how many values and letters a reading holds, each counted each time it is reached (what is shared counts as often as it is met; a slice's spare places count too). A statement '..UptoSaid' is the law's where the arguments, and the package variables that the reading takes, are together of bulk at most 1048576: NARROWER than '..Said'. Prove '..Said' where nothing that the law and all that it calls make is longer than what came in: it says more and counts as full. Else prove '..UptoSaid'. A law counts once. -/
mutual
def uptoBulk {H : Type} : DataW H → Nat
  | .lit (.string bytes) => bytes.length + 1
  | .lit _ => 1
  | .nil => 1
  | .ptr d => uptoBulk d + 1
  | .slice elems spare => uptoBulkAll elems + uptoBulkAll spare + 1
  | .agg parts => uptoBulkAll parts + 1
  | .iface _ d => uptoBulk d + 1
  | .map entries => uptoBulkEntries entries + 1
  | .held _ => 1
def uptoBulkAll {H : Type} : List (DataW H) → Nat
  | [] => 0
  | d :: r => uptoBulk d + uptoBulkAll r
def uptoBulkEntries {H : Type} : List (Lit × DataW H) → Nat
  | [] => 0
  | x :: r => uptoBulkEntry x + uptoBulkEntries r
def uptoBulkEntry {H : Type} : Lit × DataW H → Nat
  | (.string bytes, d) => bytes.length + uptoBulk d + 1
  | (_, d) => uptoBulk d + 1
 end
def uptoSmall : (H : Type) → List (DataW H) → Bool := fun _ ds => decide (uptoBulkAll ds ≤ 1048576)
def OpenSpec.upto (s : _root_.Go.ChangeSpec) : _root_.Go.OpenSpec := { _root_.Go.OpenSpec.ofChange s with cond := some uptoSmall }

/-- 'quicksetlaw16.EditApart', WHERE WHAT IT READS IS OF BULK AT MOST 1048576: true; the input reads as it did. -/
def editApartUptoRow : OpenClaim := { program := "ytajpljopgikpgaagreat", sum := "b29d987c9b8f50b0df90db274b7648dc55cc0818b994bb1a2dcab79a2441eb70", func := "quickset/quicksetlaw16.EditApart", spec := "editApart", inPlace := ["slices.overlaps[*quickset/radix.Node]", "slices.overlaps[quickset/pair.Pair]", "slices.overlaps[*quickset/node.Node]"], unfollowed := true, recurses := true, apart := false, narrowed := true }
def EditApartUptoSaid : Prop := editApartUptoRow.holds Tryz.pinned (OpenSpec.upto editApartSpec)

/-- 'quicksetlaw16.EditNil', WHERE WHAT IT READS IS OF BULK AT MOST 1048576: true; the input reads as it did. -/
def editNilUptoRow : OpenClaim := { program := "ytajpljopgikpgaagreat", sum := "b29d987c9b8f50b0df90db274b7648dc55cc0818b994bb1a2dcab79a2441eb70", func := "quickset/quicksetlaw16.EditNil", spec := "editNil", inPlace := ["slices.overlaps[*quickset/radix.Node]", "slices.overlaps[quickset/pair.Pair]", "slices.overlaps[*quickset/node.Node]"], unfollowed := true, recurses := true, apart := false, narrowed := true }
def EditNilUptoSaid : Prop := editNilUptoRow.holds Tryz.pinned (OpenSpec.upto editNilSpec)

end Rows
end Go.Proofs.YtajpljopgikpgaaGreat
