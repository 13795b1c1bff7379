/- A part of the proof that the named laws of this program answer true, whatever the input. -/
import Derived.Test.YtopdngagmfanlaaGreatDoorRows
import Derived.Test.YtopdngagmfanlaaGreatDoorPart0
namespace Go.Proofs.YtopdngagmfanlaaGreatDoor
open Go Go.Lift Go.Proofs Go.ChangeShapes Go.WideShapes Go.ChangeAt Go.RowKit
theorem Tryz.own:ownKnob Tryz.prog.godebug=none:=by kernel_rfl
theorem Tryz.laidOut:laidOutB Tryz.prog=true:=by kernel_rfl
theorem YR:Tryz.prog.underlying cn=some .string:=by kernel_rfl
theorem XX:Tryz.prog.underlying yh=some .bool:=by kernel_rfl
section
variable {H:Type} {enc:TypeId×Value→H} {w:World} {sp:Nat→Bool} {held:Bool}
set_option maxRecDepth 100000 in
theorem Xo{b:Nat}{v:Value}{d:DataW H}{p:List MemPlace}(a:Value.okWide Tryz.prog w .any b cn v)(_:DataW.Trod enc Tryz.prog w 0 sp held cn v d p):∃s:ByteArray,v=.string s:=okWide_string YR a
end
end Go.Proofs.YtopdngagmfanlaaGreatDoor
