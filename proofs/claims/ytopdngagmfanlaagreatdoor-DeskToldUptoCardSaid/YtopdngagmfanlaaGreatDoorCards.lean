/-
  DERIVED. GIVEN WITH THE SEED: THE CARDS: each row of YtopdngagmfanlaaGreatDoorRows.lean that lists a variable, with what it lists TIED to the program's text (the seventh form; the later family's looks); each row that meets fmt, with fmt's text TOLD by the authors' own Lean function (tested against real Go, not proved from fmt's source: count such statements apart). THE CARD IS WHAT COUNTS. Prove the row's statement (the work); the ties are given (YtopdngagmfanlaaGreatDoorTie.lean); close each card by the builder's one call (the guide's Derived/Test/ToyasCard.lean, 'card_holds'). Laid BY PROGRAM, IN A SANDBOX (cutbox-door.mjs). By AI agents, Wed Nov 11 2026. No macro, syntax, notation, axiom, sorry.
-/
import Derived.Test.YtopdngagmfanlaaGreatDoorRows
import GoSem.ClaimSeven
namespace Go.Proofs.YtopdngagmfanlaaGreatDoor
namespace Rows

/-- THE TIED CARD OF 'quicksetlaw24.DeskTold'. -/
def deskToldCard : Claim7 := { stood := { row := deskToldRow, standIns := [], harness := (true, "f03f36b53a8ed3afe7ae761f0e64580a1c62a85a6b562d416f1666223d9e739f"), looks := true }, kinds := [], alts := [], laidByText := true, laidKinds := [.pinned, .data, .data, .data, .data, .sentinel, .sentinel], laidTests := true, laidLooks := .later }
def DeskToldCardSaid : Prop := Claim7.holds Tryz.pinned (.plain (OpenSpec.ofChange deskToldSpec)) deskToldCard

/-- THE TIED CARD OF 'quicksetlaw24.DeskWords'. -/
def deskWordsCard : Claim7 := { stood := { row := deskWordsRow, standIns := [], harness := (true, "f03f36b53a8ed3afe7ae761f0e64580a1c62a85a6b562d416f1666223d9e739f"), looks := true }, kinds := [], alts := [], laidByText := true, laidKinds := [.pinned, .data, .data, .data, .data, .sentinel, .sentinel], laidTests := true, laidLooks := .later }
def DeskWordsCardSaid : Prop := Claim7.holds Tryz.pinned (.plain (OpenSpec.ofChange deskWordsSpec)) deskWordsCard

/-- THE TIED CARD OF 'quicksetlaw24.DeskTexts'. -/
def deskTextsCard : Claim7 := { stood := { row := deskTextsRow, standIns := [], harness := (true, "f03f36b53a8ed3afe7ae761f0e64580a1c62a85a6b562d416f1666223d9e739f"), looks := true }, kinds := [], alts := [], laidByText := true, laidKinds := [.pinned, .data, .data, .data, .data, .sentinel, .sentinel], laidTests := true, laidLooks := .later }
def DeskTextsCardSaid : Prop := Claim7.holds Tryz.pinned (.plain (OpenSpec.ofChange deskTextsSpec)) deskTextsCard

/-- THE TIED CARD OF 'quicksetlaw24.DeskParses'. -/
def deskParsesCard : Claim7 := { stood := { row := deskParsesRow, standIns := [], harness := (true, "f03f36b53a8ed3afe7ae761f0e64580a1c62a85a6b562d416f1666223d9e739f"), looks := true }, kinds := [], alts := [], laidByText := true, laidKinds := [.pinned, .data, .data, .data, .data, .sentinel, .sentinel], laidTests := true, laidLooks := .later }
def DeskParsesCardSaid : Prop := Claim7.holds Tryz.pinned (.plain (OpenSpec.ofChange deskParsesSpec)) deskParsesCard

/-- THE SECOND FORM's CARD OF 'quicksetlaw24.DeskTold'. -/
def deskToldUptoCard : Claim7 := { stood := { row := deskToldUptoRow, standIns := [], harness := (true, "f03f36b53a8ed3afe7ae761f0e64580a1c62a85a6b562d416f1666223d9e739f"), looks := true }, kinds := [], alts := [], laidByText := true, laidKinds := [.pinned, .data, .data, .data, .data, .sentinel, .sentinel], laidTests := true, laidLooks := .later }
def DeskToldUptoCardSaid : Prop := Claim7.holds Tryz.pinned (.plain (OpenSpec.upto deskToldSpec)) deskToldUptoCard

/-- THE SECOND FORM's CARD OF 'quicksetlaw24.DeskWords'. -/
def deskWordsUptoCard : Claim7 := { stood := { row := deskWordsUptoRow, standIns := [], harness := (true, "f03f36b53a8ed3afe7ae761f0e64580a1c62a85a6b562d416f1666223d9e739f"), looks := true }, kinds := [], alts := [], laidByText := true, laidKinds := [.pinned, .data, .data, .data, .data, .sentinel, .sentinel], laidTests := true, laidLooks := .later }
def DeskWordsUptoCardSaid : Prop := Claim7.holds Tryz.pinned (.plain (OpenSpec.upto deskWordsSpec)) deskWordsUptoCard

/-- THE SECOND FORM's CARD OF 'quicksetlaw24.DeskTexts'. -/
def deskTextsUptoCard : Claim7 := { stood := { row := deskTextsUptoRow, standIns := [], harness := (true, "f03f36b53a8ed3afe7ae761f0e64580a1c62a85a6b562d416f1666223d9e739f"), looks := true }, kinds := [], alts := [], laidByText := true, laidKinds := [.pinned, .data, .data, .data, .data, .sentinel, .sentinel], laidTests := true, laidLooks := .later }
def DeskTextsUptoCardSaid : Prop := Claim7.holds Tryz.pinned (.plain (OpenSpec.upto deskTextsSpec)) deskTextsUptoCard

/-- THE SECOND FORM's CARD OF 'quicksetlaw24.DeskParses'. -/
def deskParsesUptoCard : Claim7 := { stood := { row := deskParsesUptoRow, standIns := [], harness := (true, "f03f36b53a8ed3afe7ae761f0e64580a1c62a85a6b562d416f1666223d9e739f"), looks := true }, kinds := [], alts := [], laidByText := true, laidKinds := [.pinned, .data, .data, .data, .data, .sentinel, .sentinel], laidTests := true, laidLooks := .later }
def DeskParsesUptoCardSaid : Prop := Claim7.holds Tryz.pinned (.plain (OpenSpec.upto deskParsesSpec)) deskParsesUptoCard
end Rows
end Go.Proofs.YtopdngagmfanlaaGreatDoor
