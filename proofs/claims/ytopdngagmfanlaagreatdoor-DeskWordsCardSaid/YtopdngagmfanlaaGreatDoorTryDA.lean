/- A part of the proof that the named laws of this program answer true, whatever the input. -/
import Derived.Test.YtopdngagmfanlaaGreatDoorRows
import Derived.Test.YtopdngagmfanlaaGreatDoorPart0
namespace Go.Proofs.YtopdngagmfanlaaGreatDoor
open Go Go.Lift Go.Proofs Go.ChangeShapes Go.WideShapes Go.ChangeAt Go.RowKit
theorem Tryz.own:ownKnob Tryz.prog.godebug=none:=by kernel_rfl
theorem Tryz.laidOut:laidOutB Tryz.prog=true:=by kernel_rfl
theorem Se:Tryz.prog.underlying EO=some (.int .u64):=by kernel_rfl
theorem Sf:Tryz.prog.underlying eS=some .string:=by kernel_rfl
theorem Rf:Tryz.prog.underlying uF=some .bool:=by kernel_rfl
theorem L0{k:IntKind}{n:Int}(h:(Lit.int k n).wf=true):k.min≤n∧n≤k.max:=by
 simpa only[Lit.wf,Bool.and_eq_true,decide_eq_true_iff]using h
section
variable {H:Type} {enc:TypeId×Value→H} {w:World} {sp:Nat→Bool} {held:Bool}
set_option maxRecDepth 100000 in
theorem QI{f:Nat}{v:Value}{d:DataW H}{p:List MemPlace}(a:Value.okWide Tryz.prog w .any f EO v)(h:DataW.Trod enc Tryz.prog w 0 sp held EO v d p):
  ∃n:Nat,v=.int .u64 (n:Int)∧n<18446744073709551616:=by
 obtain⟨n,e,_,_,c⟩:=open_int Se a h;have b:0≤n∧n≤18446744073709551615:=L0 c;exact⟨n.toNat,by rw[e,Int.toNat_of_nonneg b.1],by omega⟩
set_option maxRecDepth 100000 in
theorem LU{b:Nat}{v:Value}{d:DataW H}{p:List MemPlace}(a:Value.okWide Tryz.prog w .any b eS v)(_:DataW.Trod enc Tryz.prog w 0 sp held eS v d p):∃s:ByteArray,v=.string s:=okWide_string Sf a
end
end Go.Proofs.YtopdngagmfanlaaGreatDoor
