/- A part of the proof that the named laws of this program answer true, whatever the input. -/
import Derived.Stop.Joined
import Derived.SevenTiedAt
import Derived.Test.YtopdngagmfanlaaGreatDoorRows
import Derived.Test.YtopdngagmfanlaaGreatDoorTryComA
import Derived.Test.YtopdngagmfanlaaGreatDoorTryComB
import Derived.Test.YtopdngagmfanlaaGreatDoorTryDeskParsesB
import Derived.Test.YtopdngagmfanlaaGreatDoorTryDeskParsesD
import Derived.Test.YtopdngagmfanlaaGreatDoorTryDeskParsesE
import Derived.Test.YtopdngagmfanlaaGreatDoorTryDeskParsesG
namespace Go.Proofs.YtopdngagmfanlaaGreatDoor
open Go Go.Proofs
theorem jg{a b:Bool}(h:a=true)(c:b=true):(a&&b)=true:=by rw[h,c];rfl
theorem Dr:joinedFacts Tryz.pinned.checked.prog 6 Tryz.f6 Rows.deskParsesSpec Rows.deskParsesRow=true:=jg (jg (jg (jg (jg (jg (jg (jg (jg (jg (jg (jg (jg (jg (jg (jg (jg (jg (jg (jg (jg (jg (jg (jg (jg (jg (jg (jg (jg (jg (jg (by kernel_rfl) com_B1) com_B2) (by kernel_rfl)) (by kernel_rfl)) (by kernel_rfl)) (by kernel_rfl)) (by kernel_rfl)) (by kernel_rfl)) DeskParses_cD) DeskParses_cE1) DeskParses_cE2) DeskParses_cN) (by kernel_rfl)) (by kernel_rfl)) (by kernel_rfl)) (by kernel_rfl)) (by kernel_rfl)) (by kernel_rfl)) (by kernel_rfl)) (by kernel_rfl)) (by kernel_rfl)) com_H) (by kernel_rfl)) com_S) com_M) com_L) (by kernel_rfl)) (by kernel_rfl)) (by kernel_rfl)) (by kernel_rfl)) (by kernel_rfl)
end Go.Proofs.YtopdngagmfanlaaGreatDoor
