/-
  No cell of these rows narrows 'for every input' (looked for: loops, veiled, ifaces, maps, wideKeys, modest, calm, conditions, laid).
  DERIVED. THE GIVEN ROWS OF THIS SEAT. 2 by the template 'for every input the law returns true; each argument reads behind the call as it read before'; 0 by the template 'total and deterministic' (their statements: YtakmnggbneeicaaGreatTotals.lean).
  GIVEN WITH THE SEED: the statements are not yours to turn. If you find one false, say at which input.
  Laid BY PROGRAM, IN A SANDBOX (cutbox-rows.mjs): the forced cells as the released guide's own fill.sh prints them over the translation 18c4bc6fc45140bf… (all of the seat's roots in one cut). By AI agents, Wed Nov 11 2026. No macro, syntax, notation, axiom, sorry.
-/
import Derived.Test.YtakmnggbneeicaaGreatChecked
import GoSem.Claim
import GoSem.ClaimJoined
import GoSem.ClaimMapViews
import Derived.JoinedTies
import Derived.KernelRfl
namespace Go.Proofs.YtakmnggbneeicaaGreat
/- THE CELL 'sum', in the pinned program and in every row, IS THE sha256 OF THE DUMP (.gsa) THAT YtakmnggbneeicaaGreatProg.lean LOADS. Nothing in Lean hashes anything: it is a label: what it is worth is what the hold of that sum in a sandbox is worth. -/
noncomputable def Tryz.pinned : Pinned := { name := "ytakmnggbneeicaagreat", sum := "18c4bc6fc45140bf8688e0903e87c62e09b567826ccd89ce7d7a8e542d062dce", checked := Tryz.checked }
namespace Rows
def none {H : Type} : Left H := { results := [], args := [] }

/-- 'quicksetlaw21.VaultPrunes': WHATEVER THE INPUT: true; the input reads as it did. -/
def vaultPrunesSpec : ChangeSpec := { name := "vaultPrunes", fn := fun _ => fun
  | [d1, d2, d3] => { results := [.lit (.bool true)], args := [d1, d2, d3] }
  | _ => none }
def vaultPrunesRow : OpenClaim := { program := "ytakmnggbneeicaagreat", sum := "18c4bc6fc45140bf8688e0903e87c62e09b567826ccd89ce7d7a8e542d062dce", func := "quickset/quicksetlaw21.VaultPrunes", spec := "vaultPrunes", inPlace := ["slices.overlaps[*quickset/radix.Node]", "slices.overlaps[quickset/pair.Pair]", "slices.overlaps[*quickset/node.Node]", "maps.clone"], unfollowed := true, recurses := true, apart := false }
def VaultPrunesSaid : Prop := vaultPrunesRow.holds Tryz.pinned (OpenSpec.ofChange vaultPrunesSpec)

/-- ITS FALSE NEIGHBOUR: 'it returns false'. Refute it at one input. -/
def vaultPrunesWrong : ChangeSpec := { name := "vaultPrunes", fn := fun _ => fun
  | [d1, d2, d3] => { results := [.lit (.bool false)], args := [d1, d2, d3] }
  | _ => none }
def VaultPrunesWrongFalsely : Prop := vaultPrunesRow.holds Tryz.pinned (OpenSpec.ofChange vaultPrunesWrong)

/-- 'quicksetlaw21.VaultPlays': WHATEVER THE INPUT: true; the input reads as it did. -/
def vaultPlaysSpec : ChangeSpec := { name := "vaultPlays", fn := fun _ => fun
  | [d1, d2, d3] => { results := [.lit (.bool true)], args := [d1, d2, d3] }
  | _ => none }
def vaultPlaysRow : OpenClaim := { program := "ytakmnggbneeicaagreat", sum := "18c4bc6fc45140bf8688e0903e87c62e09b567826ccd89ce7d7a8e542d062dce", func := "quickset/quicksetlaw21.VaultPlays", spec := "vaultPlays", inPlace := ["slices.overlaps[*quickset/radix.Node]", "slices.overlaps[quickset/pair.Pair]", "slices.overlaps[*quickset/node.Node]", "maps.clone"], unfollowed := true, recurses := true, apart := false }
def VaultPlaysSaid : Prop := vaultPlaysRow.holds Tryz.pinned (OpenSpec.ofChange vaultPlaysSpec)

/-- ITS FALSE NEIGHBOUR: 'it returns false'. Refute it at one input. -/
def vaultPlaysWrong : ChangeSpec := { name := "vaultPlays", fn := fun _ => fun
  | [d1, d2, d3] => { results := [.lit (.bool false)], args := [d1, d2, d3] }
  | _ => none }
def VaultPlaysWrongFalsely : Prop := vaultPlaysRow.holds Tryz.pinned (OpenSpec.ofChange vaultPlaysWrong)

/- THE SECOND FORM. 'bulk': how many values and letters a reading holds, each counted each time it is reached (what is shared counts as often as it is met; a slice's spare places count too). A statement '..UptoSaid' is the law's where the arguments, and the package variables that the reading takes, are together of bulk at most 1048576: NARROWER than '..Said'. Prove '..Said' where nothing that the law and all that it calls make is longer than what came in: it says more and counts as full. Else prove '..UptoSaid'. A law counts once. -/
mutual
def uptoBulk {H : Type} : DataW H → Nat
  | .lit (.string bytes) => bytes.length + 1
  | .lit _ => 1
  | .nil => 1
  | .ptr d => uptoBulk d + 1
  | .slice elems spare => uptoBulkAll elems + uptoBulkAll spare + 1
  | .agg parts => uptoBulkAll parts + 1
  | .iface _ d => uptoBulk d + 1
  | .map entries => uptoBulkEntries entries + 1
  | .held _ => 1
def uptoBulkAll {H : Type} : List (DataW H) → Nat
  | [] => 0
  | d :: r => uptoBulk d + uptoBulkAll r
def uptoBulkEntries {H : Type} : List (Lit × DataW H) → Nat
  | [] => 0
  | x :: r => uptoBulkEntry x + uptoBulkEntries r
def uptoBulkEntry {H : Type} : Lit × DataW H → Nat
  | (.string bytes, d) => bytes.length + uptoBulk d + 1
  | (_, d) => uptoBulk d + 1
 end
def uptoSmall : (H : Type) → List (DataW H) → Bool := fun _ ds => decide (uptoBulkAll ds ≤ 1048576)
def OpenSpec.upto (s : _root_.Go.ChangeSpec) : _root_.Go.OpenSpec := { _root_.Go.OpenSpec.ofChange s with cond := some uptoSmall }

/-- 'quicksetlaw21.VaultPrunes', WHERE WHAT IT READS IS OF BULK AT MOST 1048576: true; the input reads as it did. -/
def vaultPrunesUptoRow : OpenClaim := { program := "ytakmnggbneeicaagreat", sum := "18c4bc6fc45140bf8688e0903e87c62e09b567826ccd89ce7d7a8e542d062dce", func := "quickset/quicksetlaw21.VaultPrunes", spec := "vaultPrunes", inPlace := ["slices.overlaps[*quickset/radix.Node]", "slices.overlaps[quickset/pair.Pair]", "slices.overlaps[*quickset/node.Node]", "maps.clone"], unfollowed := true, recurses := true, apart := false, narrowed := true }
def VaultPrunesUptoSaid : Prop := vaultPrunesUptoRow.holds Tryz.pinned (OpenSpec.upto vaultPrunesSpec)

/-- 'quicksetlaw21.VaultPlays', WHERE WHAT IT READS IS OF BULK AT MOST 1048576: true; the input reads as it did. -/
def vaultPlaysUptoRow : OpenClaim := { program := "ytakmnggbneeicaagreat", sum := "18c4bc6fc45140bf8688e0903e87c62e09b567826ccd89ce7d7a8e542d062dce", func := "quickset/quicksetlaw21.VaultPlays", spec := "vaultPlays", inPlace := ["slices.overlaps[*quickset/radix.Node]", "slices.overlaps[quickset/pair.Pair]", "slices.overlaps[*quickset/node.Node]", "maps.clone"], unfollowed := true, recurses := true, apart := false, narrowed := true }
def VaultPlaysUptoSaid : Prop := vaultPlaysUptoRow.holds Tryz.pinned (OpenSpec.upto vaultPlaysSpec)

end Rows
end Go.Proofs.YtakmnggbneeicaaGreat
