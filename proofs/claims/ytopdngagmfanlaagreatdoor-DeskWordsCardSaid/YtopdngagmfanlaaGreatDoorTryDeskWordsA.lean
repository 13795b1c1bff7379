/- A part of the proof that the named laws of this program answer true, whatever the input. -/
import Derived.Test.YtopdngagmfanlaaGreatDoorPart8
import Derived.Test.YtopdngagmfanlaaGreatDoorTryLaid
import Derived.Test.YtopdngagmfanlaaGreatDoorTryDA
namespace Go.Proofs.YtopdngagmfanlaaGreatDoor
open Go Go.Proofs Go.Lift Go.ChangeShapes Go.WideShapes Go.ChangeAt Go.RowKit
set_option maxRecDepth 100000 in
theorem DeskWords_lifted(os:Os)(a:os.Started)(H:Type)(enc:TypeId×Value→H):
  ReturnsInHanded {} Tryz.checked os 4 .any (fun w args=>(Rows.deskWordsSpec.pre enc Tryz.prog Tryz.f4 [] false w args∧laidMetH Tryz.prog listed w)∧sizedMet enc Tryz.prog Tryz.f4 (OpenSpec.ofChange Rows.deskWordsSpec) false w args) (Rows.deskWordsSpec.post enc Tryz.prog Tryz.f4 false true false false):=
 OB (C:=Tryz.checked) (ts:= [eS,eS,EO]) (tb:=uF) (by kernel_rfl) (by kernel_rfl) Rf rfl (fun ds hd=>by
   match ds,hd with
   | [m,s,f],_=>exact⟨rfl,rfl,rfl⟩) Tryz.own Tryz.laidOut (fun t c=>by
   simp only[List.mem_cons,List.not_mem_nil,or_false]at c
   rcases c with rfl|rfl|rfl<;>exact⟨by kernel_rfl,of_decide_eq_true (by kernel_rfl)⟩) a (by kernel_rfl) Tryz.func4
  (ChangeSpec.witness_shaped (enc:=enc) (C:=Tryz.checked) (os:=os) (X:=fun w _=>laidMetH Tryz.prog listed w) false (LZ os) #[.string ⟨#[]⟩,.string ⟨#[]⟩,.int .u64 0] 8 rfl (Jj os _) (by kernel_rfl) (by kernel_rfl) (by kernel_rfl) (O2 os _)) Tryz.call4 (by
  intro W A args ds p b g q
  have tb:=Rg g
  obtain⟨j,_,m,_,_,_,rfl,_,o,d⟩:=zY q
  obtain⟨y,_,s,_,_,_,rfl,_,x,e⟩:=zY d
  obtain⟨i,_,f,_,_,_,rfl,_,z,u⟩:=zY e
  obtain rfl:=NJ u
  obtain⟨D,rfl⟩:=LU (b 0 _ j rfl rfl) o
  obtain⟨B,rfl⟩:=LU (b 1 _ y rfl rfl) x
  obtain⟨n,rfl,v⟩:=QI (b 2 _ i rfl rfl) z
  exact GF v tb.1 tb.2 fun h' k=>⟨rfl,k⟩)
end Go.Proofs.YtopdngagmfanlaaGreatDoor
