/- A part of the proof that the named laws of this program answer true, whatever the input. -/
import Derived.Stop.Joined
import Derived.SevenTiedAt
import Derived.Test.YtopdngagmfanlaaGreatDoorRows
namespace Go.Proofs.YtopdngagmfanlaaGreatDoor
open Go Go.Proofs
theorem com_main : Tryz.pinned.checked.prog.mainIs = some (true, "f03f36b53a8ed3afe7ae761f0e64580a1c62a85a6b562d416f1666223d9e739f".toList) := by kernel_rfl
theorem com_looks : true = Tryz.pinned.checked.prog.looks [] := by kernel_rfl
end Go.Proofs.YtopdngagmfanlaaGreatDoor
