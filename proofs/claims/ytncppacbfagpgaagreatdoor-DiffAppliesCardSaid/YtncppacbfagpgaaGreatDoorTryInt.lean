/- A part of the proof that the named laws of this program answer true, whatever the input. -/
import Derived.Test.YtncppacbfagpgaaGreatDoorTryTree
namespace Go.Proofs.YtncppacbfagpgaaGreatDoor
open Go Go.Lift Go.Proofs Go.ChangeShapes Go.WideShapes Go.ChangeAt Go.RowKit
theorem aaM:Tryz.prog.underlying Ln=some (.int .u16):=by kernel_rfl
section
variable {H:Type} {enc:TypeId×Value→H} {w:World} {sp:Nat→Bool} {held:Bool}
set_option maxRecDepth 100000 in
theorem Zc{b:Nat}{v:Value}{d:DataW H}{p:List MemPlace}(a:Value.okWide Tryz.prog w .any b Ln v)(h:DataW.Trod enc Tryz.prog w 0 sp held Ln v d p):
  ∃n:Int,v=.int .u16 n∧0≤n∧n≤65535:=by
 obtain⟨n,e,_,_,c⟩:=open_int aaM a h;exact⟨n,e,Li c⟩
end
end Go.Proofs.YtncppacbfagpgaaGreatDoor
