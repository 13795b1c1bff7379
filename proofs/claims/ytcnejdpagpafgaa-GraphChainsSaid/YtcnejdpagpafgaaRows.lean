/-
  No cell of these rows narrows 'for every input' (looked for: loops, veiled, ifaces, maps, wideKeys, modest, calm, conditions, laid).
  DERIVED. THE GIVEN ROWS OF THIS SEAT. 6 by the template 'for every input the law returns true; each argument reads behind the call as it read before'; 0 by the template 'total and deterministic' (their statements: YtcnejdpagpafgaaTotals.lean).
  GIVEN WITH THE SEED: the statements are not yours to turn. If you find one false, say at which input.
  Laid BY PROGRAM, IN A SANDBOX (cutbox-rows.mjs): the forced cells as the released guide's own fill.sh prints them over the translation a1537cd08aa23a41… (all of the seat's roots in one cut). By AI agents, Wed Nov 11 2026. No macro, syntax, notation, axiom, sorry.
-/
import Derived.Test.YtcnejdpagpafgaaChecked
import GoSem.Claim
import GoSem.ClaimJoined
import GoSem.ClaimMapViews
import Derived.JoinedTies
import Derived.KernelRfl
namespace Go.Proofs.Ytcnejdpagpafgaa
/- THE CELL 'sum', in the pinned program and in every row, IS THE sha256 OF THE DUMP (.gsa) THAT YtcnejdpagpafgaaProg.lean LOADS. Nothing in Lean hashes anything: it is a label: what it is worth is what the hold of that sum in a sandbox is worth. -/
noncomputable def Try.pinned : Pinned := { name := "ytcnejdpagpafgaa", sum := "a1537cd08aa23a416036166f0d502ad305f4c9c14d6b2d4e2f9efcd079cb0318", checked := Try.checked }
namespace Rows
def none {H : Type} : Left H := { results := [], args := [] }

/-- 'quicksetlaw20.GraphChains': WHATEVER THE INPUT: true; the input reads as it did. -/
def graphChainsSpec : ChangeSpec := { name := "graphChains", fn := fun _ => fun
  | [d1, d2, d3, d4, d5] => { results := [.lit (.bool true)], args := [d1, d2, d3, d4, d5] }
  | _ => none }
def graphChainsRow : OpenClaim := { program := "ytcnejdpagpafgaa", sum := "a1537cd08aa23a416036166f0d502ad305f4c9c14d6b2d4e2f9efcd079cb0318", func := "quickset/quicksetlaw20.GraphChains", spec := "graphChains", unfollowed := true, recurses := true, apart := false }
def GraphChainsSaid : Prop := graphChainsRow.holds Try.pinned (OpenSpec.ofChange graphChainsSpec)

/-- ITS FALSE NEIGHBOUR: 'it returns false'. Refute it at one input. -/
def graphChainsWrong : ChangeSpec := { name := "graphChains", fn := fun _ => fun
  | [d1, d2, d3, d4, d5] => { results := [.lit (.bool false)], args := [d1, d2, d3, d4, d5] }
  | _ => none }
def GraphChainsWrongFalsely : Prop := graphChainsRow.holds Try.pinned (OpenSpec.ofChange graphChainsWrong)

/-- 'quicksetlaw20.GraphLeads': WHATEVER THE INPUT: true; the input reads as it did. -/
def graphLeadsSpec : ChangeSpec := { name := "graphLeads", fn := fun _ => fun
  | [d1, d2, d3] => { results := [.lit (.bool true)], args := [d1, d2, d3] }
  | _ => none }
def graphLeadsRow : OpenClaim := { program := "ytcnejdpagpafgaa", sum := "a1537cd08aa23a416036166f0d502ad305f4c9c14d6b2d4e2f9efcd079cb0318", func := "quickset/quicksetlaw20.GraphLeads", spec := "graphLeads", unfollowed := true, recurses := true, apart := false }
def GraphLeadsSaid : Prop := graphLeadsRow.holds Try.pinned (OpenSpec.ofChange graphLeadsSpec)

/-- ITS FALSE NEIGHBOUR: 'it returns false'. Refute it at one input. -/
def graphLeadsWrong : ChangeSpec := { name := "graphLeads", fn := fun _ => fun
  | [d1, d2, d3] => { results := [.lit (.bool false)], args := [d1, d2, d3] }
  | _ => none }
def GraphLeadsWrongFalsely : Prop := graphLeadsRow.holds Try.pinned (OpenSpec.ofChange graphLeadsWrong)

/-- 'quicksetlaw20.GraphMeets': WHATEVER THE INPUT: true; the input reads as it did. -/
def graphMeetsSpec : ChangeSpec := { name := "graphMeets", fn := fun _ => fun
  | [d1, d2, d3] => { results := [.lit (.bool true)], args := [d1, d2, d3] }
  | _ => none }
def graphMeetsRow : OpenClaim := { program := "ytcnejdpagpafgaa", sum := "a1537cd08aa23a416036166f0d502ad305f4c9c14d6b2d4e2f9efcd079cb0318", func := "quickset/quicksetlaw20.GraphMeets", spec := "graphMeets", unfollowed := true, recurses := true, apart := false }
def GraphMeetsSaid : Prop := graphMeetsRow.holds Try.pinned (OpenSpec.ofChange graphMeetsSpec)

/-- ITS FALSE NEIGHBOUR: 'it returns false'. Refute it at one input. -/
def graphMeetsWrong : ChangeSpec := { name := "graphMeets", fn := fun _ => fun
  | [d1, d2, d3] => { results := [.lit (.bool false)], args := [d1, d2, d3] }
  | _ => none }
def GraphMeetsWrongFalsely : Prop := graphMeetsRow.holds Try.pinned (OpenSpec.ofChange graphMeetsWrong)

/-- 'quicksetlaw20.GraphPlays': WHATEVER THE INPUT: true; the input reads as it did. -/
def graphPlaysSpec : ChangeSpec := { name := "graphPlays", fn := fun _ => fun
  | [d] => { results := [.lit (.bool true)], args := [d] }
  | _ => none }
def graphPlaysRow : OpenClaim := { program := "ytcnejdpagpafgaa", sum := "a1537cd08aa23a416036166f0d502ad305f4c9c14d6b2d4e2f9efcd079cb0318", func := "quickset/quicksetlaw20.GraphPlays", spec := "graphPlays", unfollowed := true, recurses := true, apart := false }
def GraphPlaysSaid : Prop := graphPlaysRow.holds Try.pinned (OpenSpec.ofChange graphPlaysSpec)

/-- ITS FALSE NEIGHBOUR: 'it returns false'. Refute it at one input. -/
def graphPlaysWrong : ChangeSpec := { name := "graphPlays", fn := fun _ => fun
  | [d] => { results := [.lit (.bool false)], args := [d] }
  | _ => none }
def GraphPlaysWrongFalsely : Prop := graphPlaysRow.holds Try.pinned (OpenSpec.ofChange graphPlaysWrong)

/-- 'quicksetlaw20.GraphFull': WHATEVER THE INPUT: true; the input reads as it did. -/
def graphFullSpec : ChangeSpec := { name := "graphFull", fn := fun _ => fun
  | [d] => { results := [.lit (.bool true)], args := [d] }
  | _ => none }
def graphFullRow : OpenClaim := { program := "ytcnejdpagpafgaa", sum := "a1537cd08aa23a416036166f0d502ad305f4c9c14d6b2d4e2f9efcd079cb0318", func := "quickset/quicksetlaw20.GraphFull", spec := "graphFull", inPlace := ["maps.clone"], unfollowed := true, recurses := true, apart := false }
def GraphFullSaid : Prop := graphFullRow.holds Try.pinned (OpenSpec.ofChange graphFullSpec)

/-- ITS FALSE NEIGHBOUR: 'it returns false'. Refute it at one input. -/
def graphFullWrong : ChangeSpec := { name := "graphFull", fn := fun _ => fun
  | [d] => { results := [.lit (.bool false)], args := [d] }
  | _ => none }
def GraphFullWrongFalsely : Prop := graphFullRow.holds Try.pinned (OpenSpec.ofChange graphFullWrong)

/-- 'quicksetlaw20.GraphDrops': WHATEVER THE INPUT: true; the input reads as it did. -/
def graphDropsSpec : ChangeSpec := { name := "graphDrops", fn := fun _ => fun
  | [d1, d2, d3] => { results := [.lit (.bool true)], args := [d1, d2, d3] }
  | _ => none }
def graphDropsRow : OpenClaim := { program := "ytcnejdpagpafgaa", sum := "a1537cd08aa23a416036166f0d502ad305f4c9c14d6b2d4e2f9efcd079cb0318", func := "quickset/quicksetlaw20.GraphDrops", spec := "graphDrops", inPlace := ["maps.clone"], unfollowed := true, recurses := true, apart := false }
def GraphDropsSaid : Prop := graphDropsRow.holds Try.pinned (OpenSpec.ofChange graphDropsSpec)

/-- ITS FALSE NEIGHBOUR: 'it returns false'. Refute it at one input. -/
def graphDropsWrong : ChangeSpec := { name := "graphDrops", fn := fun _ => fun
  | [d1, d2, d3] => { results := [.lit (.bool false)], args := [d1, d2, d3] }
  | _ => none }
def GraphDropsWrongFalsely : Prop := graphDropsRow.holds Try.pinned (OpenSpec.ofChange graphDropsWrong)

/- THE SECOND FORM. 'bulk': how many values and letters a reading holds, each counted each time it is reached (what is shared counts as often as it is met; a slice's spare places count too). A statement '..UptoSaid' is the law's where the arguments, and the package variables that the reading takes, are together of bulk at most 1048576: NARROWER than '..Said'. Prove '..Said' where nothing that the law and all that it calls make is longer than what came in: it says more and counts as full. Else prove '..UptoSaid'. A law counts once. -/
mutual
def uptoBulk {H : Type} : DataW H → Nat
  | .lit (.string bytes) => bytes.length + 1
  | .lit _ => 1
  | .nil => 1
  | .ptr d => uptoBulk d + 1
  | .slice elems spare => uptoBulkAll elems + uptoBulkAll spare + 1
  | .agg parts => uptoBulkAll parts + 1
  | .iface _ d => uptoBulk d + 1
  | .map entries => uptoBulkEntries entries + 1
  | .held _ => 1
def uptoBulkAll {H : Type} : List (DataW H) → Nat
  | [] => 0
  | d :: r => uptoBulk d + uptoBulkAll r
def uptoBulkEntries {H : Type} : List (Lit × DataW H) → Nat
  | [] => 0
  | x :: r => uptoBulkEntry x + uptoBulkEntries r
def uptoBulkEntry {H : Type} : Lit × DataW H → Nat
  | (.string bytes, d) => bytes.length + uptoBulk d + 1
  | (_, d) => uptoBulk d + 1
 end
def uptoSmall : (H : Type) → List (DataW H) → Bool := fun _ ds => decide (uptoBulkAll ds ≤ 1048576)
def OpenSpec.upto (s : _root_.Go.ChangeSpec) : _root_.Go.OpenSpec := { _root_.Go.OpenSpec.ofChange s with cond := some uptoSmall }

/-- 'quicksetlaw20.GraphChains', WHERE WHAT IT READS IS OF BULK AT MOST 1048576: true; the input reads as it did. -/
def graphChainsUptoRow : OpenClaim := { program := "ytcnejdpagpafgaa", sum := "a1537cd08aa23a416036166f0d502ad305f4c9c14d6b2d4e2f9efcd079cb0318", func := "quickset/quicksetlaw20.GraphChains", spec := "graphChains", unfollowed := true, recurses := true, apart := false, narrowed := true }
def GraphChainsUptoSaid : Prop := graphChainsUptoRow.holds Try.pinned (OpenSpec.upto graphChainsSpec)

/-- 'quicksetlaw20.GraphLeads', WHERE WHAT IT READS IS OF BULK AT MOST 1048576: true; the input reads as it did. -/
def graphLeadsUptoRow : OpenClaim := { program := "ytcnejdpagpafgaa", sum := "a1537cd08aa23a416036166f0d502ad305f4c9c14d6b2d4e2f9efcd079cb0318", func := "quickset/quicksetlaw20.GraphLeads", spec := "graphLeads", unfollowed := true, recurses := true, apart := false, narrowed := true }
def GraphLeadsUptoSaid : Prop := graphLeadsUptoRow.holds Try.pinned (OpenSpec.upto graphLeadsSpec)

/-- 'quicksetlaw20.GraphMeets', WHERE WHAT IT READS IS OF BULK AT MOST 1048576: true; the input reads as it did. -/
def graphMeetsUptoRow : OpenClaim := { program := "ytcnejdpagpafgaa", sum := "a1537cd08aa23a416036166f0d502ad305f4c9c14d6b2d4e2f9efcd079cb0318", func := "quickset/quicksetlaw20.GraphMeets", spec := "graphMeets", unfollowed := true, recurses := true, apart := false, narrowed := true }
def GraphMeetsUptoSaid : Prop := graphMeetsUptoRow.holds Try.pinned (OpenSpec.upto graphMeetsSpec)

/-- 'quicksetlaw20.GraphPlays', WHERE WHAT IT READS IS OF BULK AT MOST 1048576: true; the input reads as it did. -/
def graphPlaysUptoRow : OpenClaim := { program := "ytcnejdpagpafgaa", sum := "a1537cd08aa23a416036166f0d502ad305f4c9c14d6b2d4e2f9efcd079cb0318", func := "quickset/quicksetlaw20.GraphPlays", spec := "graphPlays", unfollowed := true, recurses := true, apart := false, narrowed := true }
def GraphPlaysUptoSaid : Prop := graphPlaysUptoRow.holds Try.pinned (OpenSpec.upto graphPlaysSpec)

/-- 'quicksetlaw20.GraphFull', WHERE WHAT IT READS IS OF BULK AT MOST 1048576: true; the input reads as it did. -/
def graphFullUptoRow : OpenClaim := { program := "ytcnejdpagpafgaa", sum := "a1537cd08aa23a416036166f0d502ad305f4c9c14d6b2d4e2f9efcd079cb0318", func := "quickset/quicksetlaw20.GraphFull", spec := "graphFull", inPlace := ["maps.clone"], unfollowed := true, recurses := true, apart := false, narrowed := true }
def GraphFullUptoSaid : Prop := graphFullUptoRow.holds Try.pinned (OpenSpec.upto graphFullSpec)

/-- 'quicksetlaw20.GraphDrops', WHERE WHAT IT READS IS OF BULK AT MOST 1048576: true; the input reads as it did. -/
def graphDropsUptoRow : OpenClaim := { program := "ytcnejdpagpafgaa", sum := "a1537cd08aa23a416036166f0d502ad305f4c9c14d6b2d4e2f9efcd079cb0318", func := "quickset/quicksetlaw20.GraphDrops", spec := "graphDrops", inPlace := ["maps.clone"], unfollowed := true, recurses := true, apart := false, narrowed := true }
def GraphDropsUptoSaid : Prop := graphDropsUptoRow.holds Try.pinned (OpenSpec.upto graphDropsSpec)

end Rows
end Go.Proofs.Ytcnejdpagpafgaa
