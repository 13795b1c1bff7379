/- A part of the proof that the named laws of this program answer true, whatever the input. -/
import Derived.Test.YtceikogjngfacaaGreatRows
import Derived.Test.YtceikogjngfacaaGreatPart0
namespace Go.Proofs.YtceikogjngfacaaGreat
open Go Go.Lift Go.Proofs Go.ChangeShapes Go.WideShapes Go.ChangeAt Go.RowKit
theorem Tryz.own:ownKnob Tryz.prog.godebug=none:=by kernel_rfl
theorem Tryz.laidOut:laidOutB Tryz.prog=true:=by kernel_rfl
theorem VW:Tryz.prog.underlying lI=some (.int .u8):=by kernel_rfl
theorem T0:Tryz.prog.underlying C4=some .bool:=by kernel_rfl
theorem Wy:Tryz.prog.cellsOf lI=1:=by kernel_rfl
theorem Ot{k:IntKind}{n:Int}(h:(Lit.int k n).wf=true):k.min≤n∧n≤k.max:=by
 simpa only[Lit.wf,Bool.and_eq_true,decide_eq_true_iff]using h
section
variable {H:Type} {enc:TypeId×Value→H} {w:World} {sp:Nat→Bool} {held:Bool}
end
end Go.Proofs.YtceikogjngfacaaGreat
