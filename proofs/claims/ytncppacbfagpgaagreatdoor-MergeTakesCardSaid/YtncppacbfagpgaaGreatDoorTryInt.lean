/- A part of the proof that the named laws of this program answer true, whatever the input. -/
import Derived.Test.YtncppacbfagpgaaGreatDoorTryTree
namespace Go.Proofs.YtncppacbfagpgaaGreatDoor
open Go Go.Lift Go.Proofs Go.ChangeShapes Go.WideShapes Go.ChangeAt Go.RowKit
theorem acm:Tryz.prog.underlying jJ=some (.int .i64):=by kernel_rfl
section
variable {H:Type} {enc:TypeId×Value→H} {w:World} {sp:Nat→Bool} {held:Bool}
set_option maxRecDepth 100000 in
theorem aaE{b:Nat}{v:Value}{d:DataW H}{p:List MemPlace}(a:Value.okWide Tryz.prog w .any b jJ v)(h:DataW.Trod enc Tryz.prog w 0 sp held jJ v d p):
  ∃n:Int,v=.int .i64 n:=by
 obtain⟨n,e,_⟩:=open_int acm a h;exact⟨n,e⟩
end
end Go.Proofs.YtncppacbfagpgaaGreatDoor
