/- A part of the proof that the named laws of this program answer true, whatever the input. -/
import Derived.Test.YtajpljopgikpgaaGreatDoorTryTree
namespace Go.Proofs.YtajpljopgikpgaaGreatDoor
open Go Go.Lift Go.Proofs Go.ChangeShapes Go.WideShapes Go.ChangeAt Go.RowKit
theorem Tw:Tryz.prog.underlying EK=some (.int .u16):=by kernel_rfl
section
variable {H:Type} {enc:TypeId×Value→H} {w:World} {sp:Nat→Bool} {held:Bool}
set_option maxRecDepth 100000 in
theorem Ri{c:Nat}{v:Value}{d:DataW H}{p:List MemPlace}(a:Value.okWide Tryz.prog w .any c EK v)(h:DataW.Trod enc Tryz.prog w 0 sp held EK v d p):
  ∃n:Int,v=.int .u16 n∧0≤n∧n≤65535:=by
 obtain⟨n,e,_,_,b⟩:=open_int Tw a h;exact⟨n,e,EH b⟩
end
end Go.Proofs.YtajpljopgikpgaaGreatDoor
