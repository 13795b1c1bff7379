/- A part of the proof that the named laws of this program answer true, whatever the input. -/
import Derived.Test.YtopdngagmfanlaaGreatDoorPart11
import Derived.Test.YtopdngagmfanlaaGreatDoorTryLaid
import Derived.Test.YtopdngagmfanlaaGreatDoorTryDA
namespace Go.Proofs.YtopdngagmfanlaaGreatDoor
open Go Go.Proofs Go.Lift Go.ChangeShapes Go.WideShapes Go.ChangeAt Go.RowKit
set_option maxRecDepth 100000 in
theorem DeskParses_lifted(os:Os)(a:os.Started)(H:Type)(enc:TypeId×Value→H):
  ReturnsInHanded {} Tryz.checked os 6 .any (fun w args=>(Rows.deskParsesSpec.pre enc Tryz.prog Tryz.f6 [] false w args∧laidMetH Tryz.prog listed w)∧sizedMet enc Tryz.prog Tryz.f6 (OpenSpec.ofChange Rows.deskParsesSpec) false w args) (Rows.deskParsesSpec.post enc Tryz.prog Tryz.f6 false true false false):=
 UT (C:=Tryz.checked) (ts:= [cn]) (tb:=yh) (by kernel_rfl) (by kernel_rfl) XX rfl (fun ds hd=>by
   match ds,hd with
   | [d0],_=>exact⟨rfl,rfl,rfl⟩) Tryz.own Tryz.laidOut (fun t c=>by
   simp only[List.mem_cons,List.not_mem_nil,or_false]at c
   rcases c with rfl<;>exact⟨by kernel_rfl,of_decide_eq_true (by kernel_rfl)⟩) a (by kernel_rfl) Tryz.func6
  (ChangeSpec.witness_shaped (enc:=enc) (C:=Tryz.checked) (os:=os) (X:=fun w _=>laidMetH Tryz.prog listed w) false (RN os) #[.string ⟨#[]⟩] 8 rfl (OU os _) (by kernel_rfl) (by kernel_rfl) (by kernel_rfl) (Vk os _)) Tryz.call6 (by
  intro W j args ds p b f i
  have tb:=XY f
  obtain⟨g,_,d0,_,_,_,rfl,_,d,e⟩:=RR i
  obtain rfl:=T3 e
  obtain⟨s0,rfl⟩:=Xo (b 0 _ g rfl rfl) d
  exact IB tb.1 tb.2 fun h' k=>⟨rfl,k⟩)
end Go.Proofs.YtopdngagmfanlaaGreatDoor
