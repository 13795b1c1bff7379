/-
  No cell of these rows narrows 'for every input' (looked for: loops, veiled, ifaces, maps, wideKeys, modest, calm, conditions, laid).
  DERIVED. THE GIVEN ROWS OF THIS SEAT. 3 by the template 'for every input the law returns true; each argument reads behind the call as it read before'; 0 by the template 'total and deterministic' (their statements: YtcpiahjlddmfiaaGreatTotals.lean).
  GIVEN WITH THE SEED: the statements are not yours to turn. If you find one false, say at which input.
  Laid BY PROGRAM, IN A SANDBOX (cutbox-rows.mjs): the forced cells as the released guide's own fill.sh prints them over the translation 5f0cc5e67792c04c… (all of the seat's roots in one cut). By AI agents, Wed Nov 11 2026. No macro, syntax, notation, axiom, sorry.
-/
import Derived.Test.YtcpiahjlddmfiaaGreatChecked
import GoSem.Claim
import GoSem.ClaimJoined
import GoSem.ClaimMapViews
import Derived.JoinedTies
import Derived.KernelRfl
namespace Go.Proofs.YtcpiahjlddmfiaaGreat
/- THE CELL 'sum', in the pinned program and in every row, IS THE sha256 OF THE DUMP (.gsa) THAT YtcpiahjlddmfiaaGreatProg.lean LOADS. Nothing in Lean hashes anything: it is a label: what it is worth is what the hold of that sum in a sandbox is worth. -/
noncomputable def Tryz.pinned : Pinned := { name := "ytcpiahjlddmfiaagreat", sum := "5f0cc5e67792c04c77819f81a3f6ce8f27ebf527da323ce13456a65c63d5edf8", checked := Tryz.checked }
namespace Rows
def none {H : Type} : Left H := { results := [], args := [] }

/-- 'quicksetlaw21.VaultMeets': WHATEVER THE INPUT: true; the input reads as it did. -/
def vaultMeetsSpec : ChangeSpec := { name := "vaultMeets", fn := fun _ => fun
  | [d1, d2, d3, d4, d5, d6] => { results := [.lit (.bool true)], args := [d1, d2, d3, d4, d5, d6] }
  | _ => none }
def vaultMeetsRow : OpenClaim := { program := "ytcpiahjlddmfiaagreat", sum := "5f0cc5e67792c04c77819f81a3f6ce8f27ebf527da323ce13456a65c63d5edf8", func := "quickset/quicksetlaw21.VaultMeets", spec := "vaultMeets", inPlace := ["slices.overlaps[*quickset/radix.Node]", "slices.overlaps[quickset/pair.Pair]", "slices.overlaps[*quickset/node.Node]", "maps.clone"], unfollowed := true, recurses := true, apart := false }
def VaultMeetsSaid : Prop := vaultMeetsRow.holds Tryz.pinned (OpenSpec.ofChange vaultMeetsSpec)

/-- ITS FALSE NEIGHBOUR: 'it returns false'. Refute it at one input. -/
def vaultMeetsWrong : ChangeSpec := { name := "vaultMeets", fn := fun _ => fun
  | [d1, d2, d3, d4, d5, d6] => { results := [.lit (.bool false)], args := [d1, d2, d3, d4, d5, d6] }
  | _ => none }
def VaultMeetsWrongFalsely : Prop := vaultMeetsRow.holds Tryz.pinned (OpenSpec.ofChange vaultMeetsWrong)

/-- 'quicksetlaw21.VaultGoes': WHATEVER THE INPUT: true; the input reads as it did. -/
def vaultGoesSpec : ChangeSpec := { name := "vaultGoes", fn := fun _ => fun
  | [d1, d2, d3, d4] => { results := [.lit (.bool true)], args := [d1, d2, d3, d4] }
  | _ => none }
def vaultGoesRow : OpenClaim := { program := "ytcpiahjlddmfiaagreat", sum := "5f0cc5e67792c04c77819f81a3f6ce8f27ebf527da323ce13456a65c63d5edf8", func := "quickset/quicksetlaw21.VaultGoes", spec := "vaultGoes", inPlace := ["slices.overlaps[*quickset/radix.Node]", "slices.overlaps[quickset/pair.Pair]", "slices.overlaps[*quickset/node.Node]", "maps.clone"], unfollowed := true, recurses := true, apart := false }
def VaultGoesSaid : Prop := vaultGoesRow.holds Tryz.pinned (OpenSpec.ofChange vaultGoesSpec)

/-- ITS FALSE NEIGHBOUR: 'it returns false'. Refute it at one input. -/
def vaultGoesWrong : ChangeSpec := { name := "vaultGoes", fn := fun _ => fun
  | [d1, d2, d3, d4] => { results := [.lit (.bool false)], args := [d1, d2, d3, d4] }
  | _ => none }
def VaultGoesWrongFalsely : Prop := vaultGoesRow.holds Tryz.pinned (OpenSpec.ofChange vaultGoesWrong)

/-- 'quicksetlaw21.VaultPuts': WHATEVER THE INPUT: true; the input reads as it did. -/
def vaultPutsSpec : ChangeSpec := { name := "vaultPuts", fn := fun _ => fun
  | [d1, d2, d3, d4, d5] => { results := [.lit (.bool true)], args := [d1, d2, d3, d4, d5] }
  | _ => none }
def vaultPutsRow : OpenClaim := { program := "ytcpiahjlddmfiaagreat", sum := "5f0cc5e67792c04c77819f81a3f6ce8f27ebf527da323ce13456a65c63d5edf8", func := "quickset/quicksetlaw21.VaultPuts", spec := "vaultPuts", inPlace := ["slices.overlaps[*quickset/radix.Node]", "slices.overlaps[quickset/pair.Pair]", "slices.overlaps[*quickset/node.Node]", "maps.clone"], unfollowed := true, recurses := true, apart := false }
def VaultPutsSaid : Prop := vaultPutsRow.holds Tryz.pinned (OpenSpec.ofChange vaultPutsSpec)

/-- ITS FALSE NEIGHBOUR: 'it returns false'. Refute it at one input. -/
def vaultPutsWrong : ChangeSpec := { name := "vaultPuts", fn := fun _ => fun
  | [d1, d2, d3, d4, d5] => { results := [.lit (.bool false)], args := [d1, d2, d3, d4, d5] }
  | _ => none }
def VaultPutsWrongFalsely : Prop := vaultPutsRow.holds Tryz.pinned (OpenSpec.ofChange vaultPutsWrong)

/- THE SECOND FORM. 'bulk': how many values and letters a reading holds, each counted each time it is reached (what is shared counts as often as it is met; a slice's spare places count too). A statement '..UptoSaid' is the law's where the arguments, and the package variables that the reading takes, are together of bulk at most 1048576: NARROWER than '..Said'. Prove '..Said' where nothing that the law and all that it calls make is longer than what came in: it says more and counts as full. Else prove '..UptoSaid'. A law counts once. -/
mutual
def uptoBulk {H : Type} : DataW H → Nat
  | .lit (.string bytes) => bytes.length + 1
  | .lit _ => 1
  | .nil => 1
  | .ptr d => uptoBulk d + 1
  | .slice elems spare => uptoBulkAll elems + uptoBulkAll spare + 1
  | .agg parts => uptoBulkAll parts + 1
  | .iface _ d => uptoBulk d + 1
  | .map entries => uptoBulkEntries entries + 1
  | .held _ => 1
def uptoBulkAll {H : Type} : List (DataW H) → Nat
  | [] => 0
  | d :: r => uptoBulk d + uptoBulkAll r
def uptoBulkEntries {H : Type} : List (Lit × DataW H) → Nat
  | [] => 0
  | x :: r => uptoBulkEntry x + uptoBulkEntries r
def uptoBulkEntry {H : Type} : Lit × DataW H → Nat
  | (.string bytes, d) => bytes.length + uptoBulk d + 1
  | (_, d) => uptoBulk d + 1
 end
def uptoSmall : (H : Type) → List (DataW H) → Bool := fun _ ds => decide (uptoBulkAll ds ≤ 1048576)
def OpenSpec.upto (s : _root_.Go.ChangeSpec) : _root_.Go.OpenSpec := { _root_.Go.OpenSpec.ofChange s with cond := some uptoSmall }

/-- 'quicksetlaw21.VaultMeets', WHERE WHAT IT READS IS OF BULK AT MOST 1048576: true; the input reads as it did. -/
def vaultMeetsUptoRow : OpenClaim := { program := "ytcpiahjlddmfiaagreat", sum := "5f0cc5e67792c04c77819f81a3f6ce8f27ebf527da323ce13456a65c63d5edf8", func := "quickset/quicksetlaw21.VaultMeets", spec := "vaultMeets", inPlace := ["slices.overlaps[*quickset/radix.Node]", "slices.overlaps[quickset/pair.Pair]", "slices.overlaps[*quickset/node.Node]", "maps.clone"], unfollowed := true, recurses := true, apart := false, narrowed := true }
def VaultMeetsUptoSaid : Prop := vaultMeetsUptoRow.holds Tryz.pinned (OpenSpec.upto vaultMeetsSpec)

/-- 'quicksetlaw21.VaultGoes', WHERE WHAT IT READS IS OF BULK AT MOST 1048576: true; the input reads as it did. -/
def vaultGoesUptoRow : OpenClaim := { program := "ytcpiahjlddmfiaagreat", sum := "5f0cc5e67792c04c77819f81a3f6ce8f27ebf527da323ce13456a65c63d5edf8", func := "quickset/quicksetlaw21.VaultGoes", spec := "vaultGoes", inPlace := ["slices.overlaps[*quickset/radix.Node]", "slices.overlaps[quickset/pair.Pair]", "slices.overlaps[*quickset/node.Node]", "maps.clone"], unfollowed := true, recurses := true, apart := false, narrowed := true }
def VaultGoesUptoSaid : Prop := vaultGoesUptoRow.holds Tryz.pinned (OpenSpec.upto vaultGoesSpec)

/-- 'quicksetlaw21.VaultPuts', WHERE WHAT IT READS IS OF BULK AT MOST 1048576: true; the input reads as it did. -/
def vaultPutsUptoRow : OpenClaim := { program := "ytcpiahjlddmfiaagreat", sum := "5f0cc5e67792c04c77819f81a3f6ce8f27ebf527da323ce13456a65c63d5edf8", func := "quickset/quicksetlaw21.VaultPuts", spec := "vaultPuts", inPlace := ["slices.overlaps[*quickset/radix.Node]", "slices.overlaps[quickset/pair.Pair]", "slices.overlaps[*quickset/node.Node]", "maps.clone"], unfollowed := true, recurses := true, apart := false, narrowed := true }
def VaultPutsUptoSaid : Prop := vaultPutsUptoRow.holds Tryz.pinned (OpenSpec.upto vaultPutsSpec)

end Rows
end Go.Proofs.YtcpiahjlddmfiaaGreat
