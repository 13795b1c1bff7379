/-
  DERIVED. GIVEN WITH THE SEED: THE CARDS: each row of YtncppacbfagpgaaGreatDoorRows.lean that lists a variable, with what it lists TIED to the program's text (the seventh form; the later family's looks); each row that meets fmt, with fmt's text TOLD by the authors' own Lean function (tested against real Go, not proved from fmt's source: count such statements apart). THE CARD IS WHAT COUNTS. Prove the row's statement (the work); the ties are given (YtncppacbfagpgaaGreatDoorTie.lean); close each card by the builder's one call (the guide's Derived/Test/ToyasCard.lean, 'card_holds'). Laid BY PROGRAM, IN A SANDBOX (cutbox-door.mjs). By AI agents, Wed Nov 11 2026. No macro, syntax, notation, axiom, sorry.
-/
import Derived.Test.YtncppacbfagpgaaGreatDoorRows
import GoSem.ClaimSeven
namespace Go.Proofs.YtncppacbfagpgaaGreatDoor
namespace Rows

/-- THE TIED CARD OF 'quicksetlaw15.BuildTrees'. -/
def buildTreesCard : Claim7 := { stood := { row := buildTreesRow, standIns := [], harness := (true, "3e26572691208f6ca28453b63b0794e34a508a677aedfedba8e1f0deab5fc60c"), looks := false }, kinds := [], alts := [], laidByText := true, laidKinds := [.data], laidTests := true, laidLooks := .later }
def BuildTreesCardSaid : Prop := Claim7.holds Tryz.pinned (.plain (OpenSpec.ofChange buildTreesSpec)) buildTreesCard

/-- THE TIED CARD OF 'quicksetlaw14.TreeRoots'. -/
def treeRootsCard : Claim7 := { stood := { row := treeRootsRow, standIns := [], harness := (true, "3e26572691208f6ca28453b63b0794e34a508a677aedfedba8e1f0deab5fc60c"), looks := false }, kinds := [], alts := [], laidByText := true, laidKinds := [.data], laidTests := true, laidLooks := .later }
def TreeRootsCardSaid : Prop := Claim7.holds Tryz.pinned (.plain (OpenSpec.ofChange treeRootsSpec)) treeRootsCard

/-- THE TIED CARD OF 'quicksetlaw14.TreePlays'. -/
def treePlaysCard : Claim7 := { stood := { row := treePlaysRow, standIns := [], harness := (true, "3e26572691208f6ca28453b63b0794e34a508a677aedfedba8e1f0deab5fc60c"), looks := false }, kinds := [], alts := [], laidByText := true, laidKinds := [.data], laidTests := true, laidLooks := .later }
def TreePlaysCardSaid : Prop := Claim7.holds Tryz.pinned (.plain (OpenSpec.ofChange treePlaysSpec)) treePlaysCard

/-- THE TIED CARD OF 'quicksetlaw15.BuildPaths'. -/
def buildPathsCard : Claim7 := { stood := { row := buildPathsRow, standIns := [], harness := (true, "3e26572691208f6ca28453b63b0794e34a508a677aedfedba8e1f0deab5fc60c"), looks := false }, kinds := [], alts := [], laidByText := true, laidKinds := [.data], laidTests := true, laidLooks := .later }
def BuildPathsCardSaid : Prop := Claim7.holds Tryz.pinned (.plain (OpenSpec.ofChange buildPathsSpec)) buildPathsCard

/-- THE TIED CARD OF 'quicksetlaw17.DiffApplies'. -/
def diffAppliesCard : Claim7 := { stood := { row := diffAppliesRow, standIns := [], harness := (true, "3e26572691208f6ca28453b63b0794e34a508a677aedfedba8e1f0deab5fc60c"), looks := false }, kinds := [], alts := [], laidByText := true, laidKinds := [.data], laidTests := true, laidLooks := .later }
def DiffAppliesCardSaid : Prop := Claim7.holds Tryz.pinned (.plain (OpenSpec.ofChange diffAppliesSpec)) diffAppliesCard

/-- THE TIED CARD OF 'quicksetlaw17.DiffTells'. -/
def diffTellsCard : Claim7 := { stood := { row := diffTellsRow, standIns := [], harness := (true, "3e26572691208f6ca28453b63b0794e34a508a677aedfedba8e1f0deab5fc60c"), looks := false }, kinds := [], alts := [], laidByText := true, laidKinds := [.data], laidTests := true, laidLooks := .later }
def DiffTellsCardSaid : Prop := Claim7.holds Tryz.pinned (.plain (OpenSpec.ofChange diffTellsSpec)) diffTellsCard

/-- THE TIED CARD OF 'quicksetlaw18.MergeKinds'. -/
def mergeKindsCard : Claim7 := { stood := { row := mergeKindsRow, standIns := [], harness := (true, "3e26572691208f6ca28453b63b0794e34a508a677aedfedba8e1f0deab5fc60c"), looks := false }, kinds := [], alts := [], laidByText := true, laidKinds := [.data], laidTests := true, laidLooks := .later }
def MergeKindsCardSaid : Prop := Claim7.holds Tryz.pinned (.plain (OpenSpec.ofChange mergeKindsSpec)) mergeKindsCard

/-- THE TIED CARD OF 'quicksetlaw18.MergeTakes'. -/
def mergeTakesCard : Claim7 := { stood := { row := mergeTakesRow, standIns := [], harness := (true, "3e26572691208f6ca28453b63b0794e34a508a677aedfedba8e1f0deab5fc60c"), looks := false }, kinds := [], alts := [], laidByText := true, laidKinds := [.data], laidTests := true, laidLooks := .later }
def MergeTakesCardSaid : Prop := Claim7.holds Tryz.pinned (.plain (OpenSpec.ofChange mergeTakesSpec)) mergeTakesCard

/-- THE SECOND FORM's CARD OF 'quicksetlaw15.BuildTrees'. -/
def buildTreesUptoCard : Claim7 := { stood := { row := buildTreesUptoRow, standIns := [], harness := (true, "3e26572691208f6ca28453b63b0794e34a508a677aedfedba8e1f0deab5fc60c"), looks := false }, kinds := [], alts := [], laidByText := true, laidKinds := [.data], laidTests := true, laidLooks := .later }
def BuildTreesUptoCardSaid : Prop := Claim7.holds Tryz.pinned (.plain (OpenSpec.upto buildTreesSpec)) buildTreesUptoCard

/-- THE SECOND FORM's CARD OF 'quicksetlaw14.TreeRoots'. -/
def treeRootsUptoCard : Claim7 := { stood := { row := treeRootsUptoRow, standIns := [], harness := (true, "3e26572691208f6ca28453b63b0794e34a508a677aedfedba8e1f0deab5fc60c"), looks := false }, kinds := [], alts := [], laidByText := true, laidKinds := [.data], laidTests := true, laidLooks := .later }
def TreeRootsUptoCardSaid : Prop := Claim7.holds Tryz.pinned (.plain (OpenSpec.upto treeRootsSpec)) treeRootsUptoCard

/-- THE SECOND FORM's CARD OF 'quicksetlaw14.TreePlays'. -/
def treePlaysUptoCard : Claim7 := { stood := { row := treePlaysUptoRow, standIns := [], harness := (true, "3e26572691208f6ca28453b63b0794e34a508a677aedfedba8e1f0deab5fc60c"), looks := false }, kinds := [], alts := [], laidByText := true, laidKinds := [.data], laidTests := true, laidLooks := .later }
def TreePlaysUptoCardSaid : Prop := Claim7.holds Tryz.pinned (.plain (OpenSpec.upto treePlaysSpec)) treePlaysUptoCard

/-- THE SECOND FORM's CARD OF 'quicksetlaw15.BuildPaths'. -/
def buildPathsUptoCard : Claim7 := { stood := { row := buildPathsUptoRow, standIns := [], harness := (true, "3e26572691208f6ca28453b63b0794e34a508a677aedfedba8e1f0deab5fc60c"), looks := false }, kinds := [], alts := [], laidByText := true, laidKinds := [.data], laidTests := true, laidLooks := .later }
def BuildPathsUptoCardSaid : Prop := Claim7.holds Tryz.pinned (.plain (OpenSpec.upto buildPathsSpec)) buildPathsUptoCard

/-- THE SECOND FORM's CARD OF 'quicksetlaw17.DiffApplies'. -/
def diffAppliesUptoCard : Claim7 := { stood := { row := diffAppliesUptoRow, standIns := [], harness := (true, "3e26572691208f6ca28453b63b0794e34a508a677aedfedba8e1f0deab5fc60c"), looks := false }, kinds := [], alts := [], laidByText := true, laidKinds := [.data], laidTests := true, laidLooks := .later }
def DiffAppliesUptoCardSaid : Prop := Claim7.holds Tryz.pinned (.plain (OpenSpec.upto diffAppliesSpec)) diffAppliesUptoCard

/-- THE SECOND FORM's CARD OF 'quicksetlaw17.DiffTells'. -/
def diffTellsUptoCard : Claim7 := { stood := { row := diffTellsUptoRow, standIns := [], harness := (true, "3e26572691208f6ca28453b63b0794e34a508a677aedfedba8e1f0deab5fc60c"), looks := false }, kinds := [], alts := [], laidByText := true, laidKinds := [.data], laidTests := true, laidLooks := .later }
def DiffTellsUptoCardSaid : Prop := Claim7.holds Tryz.pinned (.plain (OpenSpec.upto diffTellsSpec)) diffTellsUptoCard

/-- THE SECOND FORM's CARD OF 'quicksetlaw18.MergeKinds'. -/
def mergeKindsUptoCard : Claim7 := { stood := { row := mergeKindsUptoRow, standIns := [], harness := (true, "3e26572691208f6ca28453b63b0794e34a508a677aedfedba8e1f0deab5fc60c"), looks := false }, kinds := [], alts := [], laidByText := true, laidKinds := [.data], laidTests := true, laidLooks := .later }
def MergeKindsUptoCardSaid : Prop := Claim7.holds Tryz.pinned (.plain (OpenSpec.upto mergeKindsSpec)) mergeKindsUptoCard

/-- THE SECOND FORM's CARD OF 'quicksetlaw18.MergeTakes'. -/
def mergeTakesUptoCard : Claim7 := { stood := { row := mergeTakesUptoRow, standIns := [], harness := (true, "3e26572691208f6ca28453b63b0794e34a508a677aedfedba8e1f0deab5fc60c"), looks := false }, kinds := [], alts := [], laidByText := true, laidKinds := [.data], laidTests := true, laidLooks := .later }
def MergeTakesUptoCardSaid : Prop := Claim7.holds Tryz.pinned (.plain (OpenSpec.upto mergeTakesSpec)) mergeTakesUptoCard
end Rows
end Go.Proofs.YtncppacbfagpgaaGreatDoor
