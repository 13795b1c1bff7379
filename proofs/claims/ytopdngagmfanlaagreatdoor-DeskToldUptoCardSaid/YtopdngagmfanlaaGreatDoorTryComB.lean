/- A part of the proof that the named laws of this program answer true, whatever the input. -/
import Derived.Stop.Joined
import Derived.SevenTiedAt
import Derived.Test.YtopdngagmfanlaaGreatDoorRows
namespace Go.Proofs.YtopdngagmfanlaaGreatDoor
open Go Go.Proofs
theorem com_S : (Program.stopsHeard Tryz.pinned.checked.prog) = true := by kernel_rfl
theorem com_M : (Program.mayEnter Tryz.pinned.checked.prog) = true := by kernel_rfl
theorem com_L : (Rows.deskParsesRow.lifted == Program.liftsFinal Tryz.pinned.checked.prog) = true := by kernel_rfl
end Go.Proofs.YtopdngagmfanlaaGreatDoor
