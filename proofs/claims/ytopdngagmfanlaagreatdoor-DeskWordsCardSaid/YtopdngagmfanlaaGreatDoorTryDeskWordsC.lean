/- A part of the proof that the named laws of this program answer true, whatever the input. -/
import Derived.Stop.Joined
import Derived.SevenTiedAt
import Derived.Test.YtopdngagmfanlaaGreatDoorRows
import Derived.Test.YtopdngagmfanlaaGreatDoorTryComA
import Derived.Test.YtopdngagmfanlaaGreatDoorTryComB
import Derived.Test.YtopdngagmfanlaaGreatDoorTryDeskWordsB
import Derived.Test.YtopdngagmfanlaaGreatDoorTryDeskWordsD
import Derived.Test.YtopdngagmfanlaaGreatDoorTryDeskWordsE
import Derived.Test.YtopdngagmfanlaaGreatDoorTryDeskWordsG
namespace Go.Proofs.YtopdngagmfanlaaGreatDoor
open Go Go.Proofs
theorem gN{a b:Bool}(h:a=true)(c:b=true):(a&&b)=true:=by rw[h,c];rfl
theorem AS:joinedFacts Tryz.pinned.checked.prog 4 Tryz.f4 Rows.deskWordsSpec Rows.deskWordsRow=true:=gN (gN (gN (gN (gN (gN (gN (gN (gN (gN (gN (gN (gN (gN (gN (gN (gN (gN (gN (gN (gN (gN (gN (gN (gN (gN (gN (gN (gN (gN (gN (by kernel_rfl) com_B1) com_B2) (by kernel_rfl)) (by kernel_rfl)) (by kernel_rfl)) (by kernel_rfl)) (by kernel_rfl)) (by kernel_rfl)) DeskWords_cD) DeskWords_cE1) DeskWords_cE2) DeskWords_cN) (by kernel_rfl)) (by kernel_rfl)) (by kernel_rfl)) (by kernel_rfl)) (by kernel_rfl)) (by kernel_rfl)) (by kernel_rfl)) (by kernel_rfl)) (by kernel_rfl)) com_H) (by kernel_rfl)) com_S) com_M) com_L) (by kernel_rfl)) (by kernel_rfl)) (by kernel_rfl)) (by kernel_rfl)) (by kernel_rfl)
end Go.Proofs.YtopdngagmfanlaaGreatDoor
