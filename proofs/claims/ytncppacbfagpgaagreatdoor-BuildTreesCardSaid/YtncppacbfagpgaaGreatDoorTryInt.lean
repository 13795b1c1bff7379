/- A part of the proof that the named laws of this program answer true, whatever the input. -/
import Derived.Test.YtncppacbfagpgaaGreatDoorTryTree
namespace Go.Proofs.YtncppacbfagpgaaGreatDoor
open Go Go.Lift Go.Proofs Go.ChangeShapes Go.WideShapes Go.ChangeAt Go.RowKit
theorem PQ:Tryz.prog.underlying ko=some (.int .i64):=by kernel_rfl
theorem PO:Tryz.prog.underlying wq=some (.int .u16):=by kernel_rfl
section
variable {H:Type} {enc:TypeId×Value→H} {w:World} {sp:Nat→Bool} {held:Bool}
set_option maxRecDepth 100000 in
theorem On{b0:Nat}{v:Value}{d:DataW H}{p:List MemPlace}(hval:Value.okWide Tryz.prog w .any b0 ko v)(h:DataW.Trod enc Tryz.prog w 0 sp held ko v d p):
  ∃n:Int,v=.int .i64 n:=by
 obtain⟨n,e,_⟩:=open_int PQ hval h;exact⟨n,e⟩
set_option maxRecDepth 100000 in
theorem JG{b0:Nat}{v:Value}{d:DataW H}{p:List MemPlace}(hval:Value.okWide Tryz.prog w .any b0 wq v)(h:DataW.Trod enc Tryz.prog w 0 sp held wq v d p):
  ∃n:Int,v=.int .u16 n∧0≤n∧n≤65535:=by
 obtain⟨n,e,_,_,hw⟩:=open_int PO hval h;exact⟨n,e,CX hw⟩
end
end Go.Proofs.YtncppacbfagpgaaGreatDoor
