/- A part of the proof that the named laws of this program answer true, whatever the input. -/
import Derived.Test.YtopdngagmfanlaaGreatDoorPart11
import Derived.Test.YtopdngagmfanlaaGreatDoorTryDO
import Derived.Test.YtopdngagmfanlaaGreatDoorTryLaid
import Derived.Test.YtopdngagmfanlaaGreatDoorTryDA
namespace Go.Proofs.YtopdngagmfanlaaGreatDoor
open Go Go.Proofs Go.Lift Go.ChangeShapes Go.WideShapes Go.ChangeAt Go.RowKit
set_option maxRecDepth 100000 in
theorem DeskTexts_lifted(os:Os)(a:os.Started)(H:Type)(enc:TypeId×Value→H):
  ReturnsInHanded {} Tryz.checked os 5 .any (fun w args=>(Rows.deskTextsSpec.pre enc Tryz.prog Tryz.f5 [] false w args∧laidMetH Tryz.prog listed w)∧sizedMet enc Tryz.prog Tryz.f5 (OpenSpec.ofChange Rows.deskTextsSpec) false w args) (Rows.deskTextsSpec.post enc Tryz.prog Tryz.f5 false true false false):=
 VD (C:=Tryz.checked) (ts:= [aL]) (tb:=mB) (by kernel_rfl) (by kernel_rfl) GO rfl (fun ds hd=>by
   match ds,hd with
   | [d0],_=>exact⟨rfl,rfl,rfl⟩) Tryz.own Tryz.laidOut (fun t c=>by
   simp only[List.mem_cons,List.not_mem_nil,or_false]at c
   rcases c with rfl<;>exact⟨by kernel_rfl,of_decide_eq_true (by kernel_rfl)⟩) a (by kernel_rfl) Tryz.func5
  (ChangeSpec.witness_shaped (enc:=enc) (C:=Tryz.checked) (os:=os) (X:=fun w _=>laidMetH Tryz.prog listed w) false (SG os) #[.agg #[.int .i64 0,.string ⟨#[]⟩,.string ⟨#[]⟩,.string ⟨#[]⟩,.string ⟨#[]⟩,.int .u32 0,.int .u32 0,.int .i64 0,.int .i64 0,.bool false,.string ⟨#[]⟩,.string ⟨#[]⟩,.bool false,.slice none 0 0,.slice none 0 0]] 8 rfl (Px os _) (by kernel_rfl) (by kernel_rfl) (by kernel_rfl) (V5 os _)) Tryz.call5 (by
  intro W v args ds p b q g
  have tb:=YM q
  obtain⟨d,_,d0,_,_,_,rfl,_,o,j⟩:=SK g
  obtain rfl:=UM j
  obtain⟨D,u,x,rfl,m,s,num,f,n,i,e⟩:=Zl (b 0 _ d rfl rfl) o
  exact L7 m s num f n i e tb.1 tb.2 fun h' k=>⟨rfl,k⟩)
end Go.Proofs.YtopdngagmfanlaaGreatDoor
