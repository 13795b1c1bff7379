/- A part of the proof that the named laws of this program answer true, whatever the input. -/
import Derived.Test.YtfbbjmjfkopdnaaGreatRows
import Derived.Test.YtfbbjmjfkopdnaaGreatPart0
namespace Go.Proofs.YtfbbjmjfkopdnaaGreat
open Go Go.Lift Go.Proofs Go.ChangeShapes Go.WideShapes Go.ChangeAt Go.RowKit
theorem Tryz.own : ownKnob Tryz.prog.godebug = none := by kernel_rfl
theorem Tryz.laidOut : laidOutB Tryz.prog = true := by kernel_rfl
theorem u_str : Tryz.prog.underlying t_str = some .string := by kernel_rfl
theorem u_bool : Tryz.prog.underlying t_bool = some .bool := by kernel_rfl
theorem c_str : Tryz.prog.cellsOf t_str = 1 := by kernel_rfl
section
variable {H : Type} {enc : TypeId × Value → H} {w : World} {sp : Nat → Bool} {held : Bool}
end
end Go.Proofs.YtfbbjmjfkopdnaaGreat
