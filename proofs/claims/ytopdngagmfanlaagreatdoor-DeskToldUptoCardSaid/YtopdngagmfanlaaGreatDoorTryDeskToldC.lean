/- A part of the proof that the named laws of this program answer true, whatever the input. -/
import Derived.Stop.Joined
import Derived.SevenTiedAt
import Derived.Test.YtopdngagmfanlaaGreatDoorRows
import Derived.Test.YtopdngagmfanlaaGreatDoorTryComA
import Derived.Test.YtopdngagmfanlaaGreatDoorTryComB
import Derived.Test.YtopdngagmfanlaaGreatDoorTryDeskToldB
import Derived.Test.YtopdngagmfanlaaGreatDoorTryDeskToldD
import Derived.Test.YtopdngagmfanlaaGreatDoorTryDeskToldE
import Derived.Test.YtopdngagmfanlaaGreatDoorTryDeskToldG
namespace Go.Proofs.YtopdngagmfanlaaGreatDoor
open Go Go.Proofs
theorem iq{a b:Bool}(h:a=true)(c:b=true):(a&&b)=true:=by rw[h,c];rfl
theorem EI:joinedFacts Tryz.pinned.checked.prog 3 Tryz.f3 (Rows.OpenSpec.upto Rows.deskToldSpec).bare Rows.deskToldUptoRow=true:=iq (iq (iq (iq (iq (iq (iq (iq (iq (iq (iq (iq (iq (iq (iq (iq (iq (iq (iq (iq (iq (iq (iq (iq (iq (iq (iq (iq (iq (iq (iq (by kernel_rfl) com_B1) com_B2) (by kernel_rfl)) (by kernel_rfl)) (by kernel_rfl)) (by kernel_rfl)) (by kernel_rfl)) (by kernel_rfl)) DeskTold_cD) DeskTold_cE1) DeskTold_cE2) DeskTold_cN) (by kernel_rfl)) (by kernel_rfl)) (by kernel_rfl)) (by kernel_rfl)) (by kernel_rfl)) (by kernel_rfl)) (by kernel_rfl)) (by kernel_rfl)) (by kernel_rfl)) com_H) (by kernel_rfl)) com_S) com_M) com_L) (by kernel_rfl)) (by kernel_rfl)) (by kernel_rfl)) (by kernel_rfl)) (by kernel_rfl)
end Go.Proofs.YtopdngagmfanlaaGreatDoor
