/-
  No cell of these rows narrows 'for every input' (looked for: loops, veiled, ifaces, maps, wideKeys, modest, calm, conditions, laid).
  DERIVED. THE GIVEN ROWS OF THIS SEAT. 2 by the template 'for every input the law returns true; each argument reads behind the call as it read before'; 0 by the template 'total and deterministic' (their statements: YtfmnhpbjeapjaaaGreatTotals.lean).
  GIVEN WITH THE SEED: the statements are not yours to turn. If you find one false, say at which input.
  Laid BY PROGRAM, IN A SANDBOX (cutbox-rows.mjs): the forced cells as the released guide's own fill.sh prints them over the translation 764b47f041191a61… (all of the seat's roots in one cut). By AI agents, Wed Nov 11 2026. No macro, syntax, notation, axiom, sorry.
-/
import Derived.Test.YtfmnhpbjeapjaaaGreatChecked
import GoSem.Claim
import GoSem.ClaimJoined
import GoSem.ClaimMapViews
import Derived.JoinedTies
import Derived.KernelRfl
namespace Go.Proofs.YtfmnhpbjeapjaaaGreat
/- THE CELL 'sum', in the pinned program and in every row, IS THE sha256 OF THE DUMP (.gsa) THAT YtfmnhpbjeapjaaaGreatProg.lean LOADS. Nothing in Lean hashes anything: it is a label: what it is worth is what the hold of that sum in a sandbox is worth. -/
noncomputable def Tryz.pinned : Pinned := { name := "ytfmnhpbjeapjaaagreat", sum := "764b47f041191a61b8809d4b9a6797b2d4262eec1771bf343783df10e01c537d", checked := Tryz.checked }
namespace Rows
def none {H : Type} : Left H := { results := [], args := [] }

/-- 'quicksetlaw22.StoreBranches': WHATEVER THE INPUT: true; the input reads as it did. -/
def storeBranchesSpec : ChangeSpec := { name := "storeBranches", fn := fun _ => fun
  | [d1, d2, d3, d4] => { results := [.lit (.bool true)], args := [d1, d2, d3, d4] }
  | _ => none }
def storeBranchesRow : OpenClaim := { program := "ytfmnhpbjeapjaaagreat", sum := "764b47f041191a61b8809d4b9a6797b2d4262eec1771bf343783df10e01c537d", func := "quickset/quicksetlaw22.StoreBranches", spec := "storeBranches", inPlace := ["slices.overlaps[*quickset/radix.Node]", "slices.overlaps[quickset/pair.Pair]", "slices.overlaps[*quickset/node.Node]", "maps.clone"], unfollowed := true, recurses := true, apart := false }
def StoreBranchesSaid : Prop := storeBranchesRow.holds Tryz.pinned (OpenSpec.ofChange storeBranchesSpec)

/-- ITS FALSE NEIGHBOUR: 'it returns false'. Refute it at one input. -/
def storeBranchesWrong : ChangeSpec := { name := "storeBranches", fn := fun _ => fun
  | [d1, d2, d3, d4] => { results := [.lit (.bool false)], args := [d1, d2, d3, d4] }
  | _ => none }
def StoreBranchesWrongFalsely : Prop := storeBranchesRow.holds Tryz.pinned (OpenSpec.ofChange storeBranchesWrong)

/-- 'quicksetlaw22.StoreSessions': WHATEVER THE INPUT: true; the input reads as it did. -/
def storeSessionsSpec : ChangeSpec := { name := "storeSessions", fn := fun _ => fun
  | [d1, d2, d3] => { results := [.lit (.bool true)], args := [d1, d2, d3] }
  | _ => none }
def storeSessionsRow : OpenClaim := { program := "ytfmnhpbjeapjaaagreat", sum := "764b47f041191a61b8809d4b9a6797b2d4262eec1771bf343783df10e01c537d", func := "quickset/quicksetlaw22.StoreSessions", spec := "storeSessions", inPlace := ["slices.overlaps[*quickset/radix.Node]", "slices.overlaps[quickset/pair.Pair]", "slices.overlaps[*quickset/node.Node]", "maps.clone"], unfollowed := true, recurses := true, apart := false }
def StoreSessionsSaid : Prop := storeSessionsRow.holds Tryz.pinned (OpenSpec.ofChange storeSessionsSpec)

/-- ITS FALSE NEIGHBOUR: 'it returns false'. Refute it at one input. -/
def storeSessionsWrong : ChangeSpec := { name := "storeSessions", fn := fun _ => fun
  | [d1, d2, d3] => { results := [.lit (.bool false)], args := [d1, d2, d3] }
  | _ => none }
def StoreSessionsWrongFalsely : Prop := storeSessionsRow.holds Tryz.pinned (OpenSpec.ofChange storeSessionsWrong)

/- THE SECOND FORM. 'bulk': how many values and letters a reading holds, each counted each time it is reached (what is shared counts as often as it is met; a slice's spare places count too). A statement '..UptoSaid' is the law's where the arguments, and the package variables that the reading takes, are together of bulk at most 1048576: NARROWER than '..Said'. Prove '..Said' where nothing that the law and all that it calls make is longer than what came in: it says more and counts as full. Else prove '..UptoSaid'. A law counts once. -/
mutual
def uptoBulk {H : Type} : DataW H → Nat
  | .lit (.string bytes) => bytes.length + 1
  | .lit _ => 1
  | .nil => 1
  | .ptr d => uptoBulk d + 1
  | .slice elems spare => uptoBulkAll elems + uptoBulkAll spare + 1
  | .agg parts => uptoBulkAll parts + 1
  | .iface _ d => uptoBulk d + 1
  | .map entries => uptoBulkEntries entries + 1
  | .held _ => 1
def uptoBulkAll {H : Type} : List (DataW H) → Nat
  | [] => 0
  | d :: r => uptoBulk d + uptoBulkAll r
def uptoBulkEntries {H : Type} : List (Lit × DataW H) → Nat
  | [] => 0
  | x :: r => uptoBulkEntry x + uptoBulkEntries r
def uptoBulkEntry {H : Type} : Lit × DataW H → Nat
  | (.string bytes, d) => bytes.length + uptoBulk d + 1
  | (_, d) => uptoBulk d + 1
 end
def uptoSmall : (H : Type) → List (DataW H) → Bool := fun _ ds => decide (uptoBulkAll ds ≤ 1048576)
def OpenSpec.upto (s : _root_.Go.ChangeSpec) : _root_.Go.OpenSpec := { _root_.Go.OpenSpec.ofChange s with cond := some uptoSmall }

/-- 'quicksetlaw22.StoreBranches', WHERE WHAT IT READS IS OF BULK AT MOST 1048576: true; the input reads as it did. -/
def storeBranchesUptoRow : OpenClaim := { program := "ytfmnhpbjeapjaaagreat", sum := "764b47f041191a61b8809d4b9a6797b2d4262eec1771bf343783df10e01c537d", func := "quickset/quicksetlaw22.StoreBranches", spec := "storeBranches", inPlace := ["slices.overlaps[*quickset/radix.Node]", "slices.overlaps[quickset/pair.Pair]", "slices.overlaps[*quickset/node.Node]", "maps.clone"], unfollowed := true, recurses := true, apart := false, narrowed := true }
def StoreBranchesUptoSaid : Prop := storeBranchesUptoRow.holds Tryz.pinned (OpenSpec.upto storeBranchesSpec)

/-- 'quicksetlaw22.StoreSessions', WHERE WHAT IT READS IS OF BULK AT MOST 1048576: true; the input reads as it did. -/
def storeSessionsUptoRow : OpenClaim := { program := "ytfmnhpbjeapjaaagreat", sum := "764b47f041191a61b8809d4b9a6797b2d4262eec1771bf343783df10e01c537d", func := "quickset/quicksetlaw22.StoreSessions", spec := "storeSessions", inPlace := ["slices.overlaps[*quickset/radix.Node]", "slices.overlaps[quickset/pair.Pair]", "slices.overlaps[*quickset/node.Node]", "maps.clone"], unfollowed := true, recurses := true, apart := false, narrowed := true }
def StoreSessionsUptoSaid : Prop := storeSessionsUptoRow.holds Tryz.pinned (OpenSpec.upto storeSessionsSpec)

end Rows
end Go.Proofs.YtfmnhpbjeapjaaaGreat
