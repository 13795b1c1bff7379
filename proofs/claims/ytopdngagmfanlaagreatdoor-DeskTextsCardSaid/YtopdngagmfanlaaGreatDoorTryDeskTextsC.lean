/- A part of the proof that the named laws of this program answer true, whatever the input. -/
import Derived.Stop.Joined
import Derived.SevenTiedAt
import Derived.Test.YtopdngagmfanlaaGreatDoorRows
import Derived.Test.YtopdngagmfanlaaGreatDoorTryComA
import Derived.Test.YtopdngagmfanlaaGreatDoorTryComB
import Derived.Test.YtopdngagmfanlaaGreatDoorTryDeskTextsB
import Derived.Test.YtopdngagmfanlaaGreatDoorTryDeskTextsD
import Derived.Test.YtopdngagmfanlaaGreatDoorTryDeskTextsE
import Derived.Test.YtopdngagmfanlaaGreatDoorTryDeskTextsG
namespace Go.Proofs.YtopdngagmfanlaaGreatDoor
open Go Go.Proofs
theorem jq{a b:Bool}(h:a=true)(c:b=true):(a&&b)=true:=by rw[h,c];rfl
theorem ET:joinedFacts Tryz.pinned.checked.prog 5 Tryz.f5 Rows.deskTextsSpec Rows.deskTextsRow=true:=jq (jq (jq (jq (jq (jq (jq (jq (jq (jq (jq (jq (jq (jq (jq (jq (jq (jq (jq (jq (jq (jq (jq (jq (jq (jq (jq (jq (jq (jq (jq (by kernel_rfl) com_B1) com_B2) (by kernel_rfl)) (by kernel_rfl)) (by kernel_rfl)) (by kernel_rfl)) (by kernel_rfl)) (by kernel_rfl)) DeskTexts_cD) DeskTexts_cE1) DeskTexts_cE2) DeskTexts_cN) (by kernel_rfl)) (by kernel_rfl)) (by kernel_rfl)) (by kernel_rfl)) (by kernel_rfl)) (by kernel_rfl)) (by kernel_rfl)) (by kernel_rfl)) (by kernel_rfl)) com_H) (by kernel_rfl)) com_S) com_M) com_L) (by kernel_rfl)) (by kernel_rfl)) (by kernel_rfl)) (by kernel_rfl)) (by kernel_rfl)
end Go.Proofs.YtopdngagmfanlaaGreatDoor
