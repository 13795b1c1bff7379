/-
  DERIVED. GIVEN WITH THE SEED: THE CARDS: each row of YtajpljopgikpgaaGreatDoorRows.lean that lists a variable, with what it lists TIED to the program's text (the seventh form; the later family's looks); each row that meets fmt, with fmt's text TOLD by the authors' own Lean function (tested against real Go, not proved from fmt's source: count such statements apart). THE CARD IS WHAT COUNTS. Prove the row's statement (the work); the ties are given (YtajpljopgikpgaaGreatDoorTie.lean); close each card by the builder's one call (the guide's Derived/Test/ToyasCard.lean, 'card_holds'). Laid BY PROGRAM, IN A SANDBOX (cutbox-door.mjs). By AI agents, Wed Nov 11 2026. No macro, syntax, notation, axiom, sorry.
-/
import Derived.Test.YtajpljopgikpgaaGreatDoorRows
import GoSem.ClaimSeven
namespace Go.Proofs.YtajpljopgikpgaaGreatDoor
namespace Rows

/-- THE TIED CARD OF 'quicksetlaw16.EditWide'. -/
def editWideCard : Claim7 := { stood := { row := editWideRow, standIns := [], harness := (true, "9ba128358c7824de27a08e203211f3e0ad7de9ecb0cf4962246ebc3df8925b42"), looks := false }, kinds := [], alts := [], laidByText := true, laidKinds := [.data], laidTests := true, laidLooks := .later }
def EditWideCardSaid : Prop := Claim7.holds Tryz.pinned (.plain (OpenSpec.ofChange editWideSpec)) editWideCard

/-- THE TIED CARD OF 'quicksetlaw16.EditSnaps'. -/
def editSnapsCard : Claim7 := { stood := { row := editSnapsRow, standIns := [], harness := (true, "9ba128358c7824de27a08e203211f3e0ad7de9ecb0cf4962246ebc3df8925b42"), looks := false }, kinds := [], alts := [], laidByText := true, laidKinds := [.data], laidTests := true, laidLooks := .later }
def EditSnapsCardSaid : Prop := Claim7.holds Tryz.pinned (.plain (OpenSpec.ofChange editSnapsSpec)) editSnapsCard

/-- THE TIED CARD OF 'quicksetlaw16.EditRuns'. -/
def editRunsCard : Claim7 := { stood := { row := editRunsRow, standIns := [], harness := (true, "9ba128358c7824de27a08e203211f3e0ad7de9ecb0cf4962246ebc3df8925b42"), looks := false }, kinds := [], alts := [], laidByText := true, laidKinds := [.data], laidTests := true, laidLooks := .later }
def EditRunsCardSaid : Prop := Claim7.holds Tryz.pinned (.plain (OpenSpec.ofChange editRunsSpec)) editRunsCard

/-- THE TIED CARD OF 'quicksetlaw16.EditFrozen'. -/
def editFrozenCard : Claim7 := { stood := { row := editFrozenRow, standIns := [], harness := (true, "9ba128358c7824de27a08e203211f3e0ad7de9ecb0cf4962246ebc3df8925b42"), looks := false }, kinds := [], alts := [], laidByText := true, laidKinds := [.data], laidTests := true, laidLooks := .later }
def EditFrozenCardSaid : Prop := Claim7.holds Tryz.pinned (.plain (OpenSpec.ofChange editFrozenSpec)) editFrozenCard

/-- THE TIED CARD OF 'quicksetlaw14.TreeOwns'. -/
def treeOwnsCard : Claim7 := { stood := { row := treeOwnsRow, standIns := [], harness := (true, "9ba128358c7824de27a08e203211f3e0ad7de9ecb0cf4962246ebc3df8925b42"), looks := false }, kinds := [], alts := [], laidByText := true, laidKinds := [.data], laidTests := true, laidLooks := .later }
def TreeOwnsCardSaid : Prop := Claim7.holds Tryz.pinned (.plain (OpenSpec.ofChange treeOwnsSpec)) treeOwnsCard

/-- THE TIED CARD OF 'quicksetlaw16.EditPlays'. -/
def editPlaysCard : Claim7 := { stood := { row := editPlaysRow, standIns := [], harness := (true, "9ba128358c7824de27a08e203211f3e0ad7de9ecb0cf4962246ebc3df8925b42"), looks := false }, kinds := [], alts := [], laidByText := true, laidKinds := [.data], laidTests := true, laidLooks := .later }
def EditPlaysCardSaid : Prop := Claim7.holds Tryz.pinned (.plain (OpenSpec.ofChange editPlaysSpec)) editPlaysCard

/-- THE SECOND FORM's CARD OF 'quicksetlaw16.EditWide'. -/
def editWideUptoCard : Claim7 := { stood := { row := editWideUptoRow, standIns := [], harness := (true, "9ba128358c7824de27a08e203211f3e0ad7de9ecb0cf4962246ebc3df8925b42"), looks := false }, kinds := [], alts := [], laidByText := true, laidKinds := [.data], laidTests := true, laidLooks := .later }
def EditWideUptoCardSaid : Prop := Claim7.holds Tryz.pinned (.plain (OpenSpec.upto editWideSpec)) editWideUptoCard

/-- THE SECOND FORM's CARD OF 'quicksetlaw16.EditSnaps'. -/
def editSnapsUptoCard : Claim7 := { stood := { row := editSnapsUptoRow, standIns := [], harness := (true, "9ba128358c7824de27a08e203211f3e0ad7de9ecb0cf4962246ebc3df8925b42"), looks := false }, kinds := [], alts := [], laidByText := true, laidKinds := [.data], laidTests := true, laidLooks := .later }
def EditSnapsUptoCardSaid : Prop := Claim7.holds Tryz.pinned (.plain (OpenSpec.upto editSnapsSpec)) editSnapsUptoCard

/-- THE SECOND FORM's CARD OF 'quicksetlaw16.EditRuns'. -/
def editRunsUptoCard : Claim7 := { stood := { row := editRunsUptoRow, standIns := [], harness := (true, "9ba128358c7824de27a08e203211f3e0ad7de9ecb0cf4962246ebc3df8925b42"), looks := false }, kinds := [], alts := [], laidByText := true, laidKinds := [.data], laidTests := true, laidLooks := .later }
def EditRunsUptoCardSaid : Prop := Claim7.holds Tryz.pinned (.plain (OpenSpec.upto editRunsSpec)) editRunsUptoCard

/-- THE SECOND FORM's CARD OF 'quicksetlaw16.EditFrozen'. -/
def editFrozenUptoCard : Claim7 := { stood := { row := editFrozenUptoRow, standIns := [], harness := (true, "9ba128358c7824de27a08e203211f3e0ad7de9ecb0cf4962246ebc3df8925b42"), looks := false }, kinds := [], alts := [], laidByText := true, laidKinds := [.data], laidTests := true, laidLooks := .later }
def EditFrozenUptoCardSaid : Prop := Claim7.holds Tryz.pinned (.plain (OpenSpec.upto editFrozenSpec)) editFrozenUptoCard

/-- THE SECOND FORM's CARD OF 'quicksetlaw14.TreeOwns'. -/
def treeOwnsUptoCard : Claim7 := { stood := { row := treeOwnsUptoRow, standIns := [], harness := (true, "9ba128358c7824de27a08e203211f3e0ad7de9ecb0cf4962246ebc3df8925b42"), looks := false }, kinds := [], alts := [], laidByText := true, laidKinds := [.data], laidTests := true, laidLooks := .later }
def TreeOwnsUptoCardSaid : Prop := Claim7.holds Tryz.pinned (.plain (OpenSpec.upto treeOwnsSpec)) treeOwnsUptoCard

/-- THE SECOND FORM's CARD OF 'quicksetlaw16.EditPlays'. -/
def editPlaysUptoCard : Claim7 := { stood := { row := editPlaysUptoRow, standIns := [], harness := (true, "9ba128358c7824de27a08e203211f3e0ad7de9ecb0cf4962246ebc3df8925b42"), looks := false }, kinds := [], alts := [], laidByText := true, laidKinds := [.data], laidTests := true, laidLooks := .later }
def EditPlaysUptoCardSaid : Prop := Claim7.holds Tryz.pinned (.plain (OpenSpec.upto editPlaysSpec)) editPlaysUptoCard
end Rows
end Go.Proofs.YtajpljopgikpgaaGreatDoor
