/- A part of the proof that the named laws of this program answer true, whatever the input. -/
import Derived.Test.YtceikogjngfacaaGreatRows
import Derived.Test.YtceikogjngfacaaGreatPart0
namespace Go.Proofs.YtceikogjngfacaaGreat
open Go Go.Lift Go.Proofs Go.ChangeShapes Go.WideShapes Go.ChangeAt Go.RowKit
theorem Tryz.own:ownKnob Tryz.prog.godebug=none:=by kernel_rfl
theorem Tryz.laidOut:laidOutB Tryz.prog=true:=by kernel_rfl
theorem aaw:Tryz.prog.underlying 5=some (.int .u8):=by kernel_rfl
theorem Yj:Tryz.prog.underlying 4=some .bool:=by kernel_rfl
theorem aa8:Tryz.prog.cellsOf 5=1:=by kernel_rfl
theorem Rs{k:IntKind}{n:Int}(h:(Lit.int k n).wf=true):k.min≤n∧n≤k.max:=by
 simpa only[Lit.wf,Bool.and_eq_true,decide_eq_true_iff]using h
section
variable {H:Type} {enc:TypeId×Value→H} {w:World} {sp:Nat→Bool} {held:Bool}
end
end Go.Proofs.YtceikogjngfacaaGreat
