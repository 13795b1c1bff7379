/- A part of the proof that the named laws of this program answer true, whatever the input. -/
import Derived.Stop.Joined
import Derived.SevenTiedAt
import Derived.Test.YtopdngagmfanlaaGreatDoorRows
namespace Go.Proofs.YtopdngagmfanlaaGreatDoor
open Go Go.Proofs
theorem DeskTold_cE1 : ((Rows.deskToldUptoRow.unfollowed == Program.unfollowed Tryz.pinned.checked.prog 3)) = true := by kernel_rfl
end Go.Proofs.YtopdngagmfanlaaGreatDoor
