/- A part of the proof that the named laws of this program answer true, whatever the input. -/
import Derived.Stop.Joined
import Derived.SevenTiedAt
import Derived.Test.YtopdngagmfanlaaGreatDoorRows
namespace Go.Proofs.YtopdngagmfanlaaGreatDoor
open Go Go.Proofs
theorem com_B1 : (laidOutB Tryz.pinned.checked.prog) = true := by kernel_rfl
theorem com_B2 : (mapsRowed Tryz.pinned.checked.prog) = true := by kernel_rfl
theorem com_H : (Rows.deskParsesRow.plainKeys == Program.plainKeys Tryz.pinned.checked.prog) = true := by kernel_rfl
end Go.Proofs.YtopdngagmfanlaaGreatDoor
