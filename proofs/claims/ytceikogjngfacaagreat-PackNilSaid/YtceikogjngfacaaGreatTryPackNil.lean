/- A part of the proof that the named laws of this program answer true, whatever the input. -/
import Derived.Test.YtceikogjngfacaaGreatTryBts
import Derived.Test.YtceikogjngfacaaGreatPart11
namespace Go.Proofs.YtceikogjngfacaaGreat
open Go Go.Lift Go.Proofs Go.ChangeShapes Go.WideShapes Go.ChangeAt Go.RowKit
set_option maxRecDepth 100000 in
theorem PackNil_lifted(os:Os)(b:os.Started)(H:Type)(enc:TypeId×Value→H):
  ReturnsInHanded {} Tryz.checked os 4 .any (Rows.packNilSpec.pre6 enc Tryz.prog Tryz.f4 Rows.packNilRow.domain false) (Rows.packNilSpec.post enc Tryz.prog Tryz.f4 false true false false):=
 law_lifted (C:=Tryz.checked) (ts:= [IU]) (tb:=C4) (by kernel_rfl) (by kernel_rfl) T0 rfl (fun ds hd=>by
   match ds,hd with
   | [i],_=>exact⟨rfl,rfl,rfl⟩) Tryz.own Tryz.laidOut (fun t d=>by
   simp only[List.mem_cons,List.not_mem_nil,or_false]at d
   rcases d with rfl<;>exact⟨by kernel_rfl,of_decide_eq_true (by kernel_rfl)⟩) b (by kernel_rfl) Tryz.func4
  (ChangeSpec.witness6 (enc:=enc) (C:=Tryz.checked) false ⟨#[],#[.slice none 0 0],[]⟩ 8 (by kernel_rfl) (by kernel_rfl) (by kernel_rfl) (by kernel_rfl)) Tryz.call4 (by
  intro W n args ds p c f
  obtain⟨e,_,i,_,_,_,rfl,_,g,m⟩:=Oz f
  obtain rfl:=P3 m
  obtain⟨sl,l,rfl,k,j,hc⟩:=Tq (c 0 _ e rfl rfl) g
  exact MF k hc j)
theorem jy{a b:Bool}(h:a=true)(h2:b=true):(a&&b)=true:=by rw[h,h2];rfl
theorem LB:(laidOutB Tryz.pinned.checked.prog)=true:=by kernel_rfl
theorem LA:(mapsRowed Tryz.pinned.checked.prog)=true:=by kernel_rfl
theorem Nj:((Rows.packNilRow.inPlace==Program.inPlace Tryz.pinned.checked.prog 4))=true:=by kernel_rfl
theorem Lz:((Rows.packNilRow.unfollowed==Program.unfollowed Tryz.pinned.checked.prog 4))=true:=by kernel_rfl
theorem Ly:((Rows.packNilRow.recurses==Program.recurses Tryz.pinned.checked.prog 4))=true:=by kernel_rfl
theorem Nf:((Rows.packNilRow.named==Program.varsNamed Tryz.pinned.checked.prog 4))=true:=by kernel_rfl
theorem Ni:((Rows.packNilRow.plainKeys==Program.plainKeys Tryz.pinned.checked.prog))=true:=by kernel_rfl
theorem Nd:(Program.stopsHeard Tryz.pinned.checked.prog)=true:=by kernel_rfl
theorem Ng:(Program.mayEnter Tryz.pinned.checked.prog)=true:=by kernel_rfl
theorem Nh:((Rows.packNilRow.lifted==Program.liftsFinal Tryz.pinned.checked.prog))=true:=by kernel_rfl
theorem Gk:joinedFacts Tryz.pinned.checked.prog 4 Tryz.f4 Rows.packNilSpec Rows.packNilRow=true:=jy (jy (jy (jy (jy (jy (jy (jy (jy (jy (jy (jy (jy (jy (jy (jy (jy (jy (jy (jy (jy (jy (jy (jy (jy (jy (jy (jy (jy (jy (jy (by kernel_rfl) LB) LA) (by kernel_rfl)) (by kernel_rfl)) (by kernel_rfl)) (by kernel_rfl)) (by kernel_rfl)) (by kernel_rfl)) Nj) Lz) Ly) Nf) (by kernel_rfl)) (by kernel_rfl)) (by kernel_rfl)) (by kernel_rfl)) (by kernel_rfl)) (by kernel_rfl)) (by kernel_rfl)) (by kernel_rfl)) (by kernel_rfl)) Ni) (by kernel_rfl)) Nd) Ng) Nh) (by kernel_rfl)) (by kernel_rfl)) (by kernel_rfl)) (by kernel_rfl)) (by kernel_rfl)
theorem PackNil_holds:Rows.PackNilSaid:=
 OpenClaim.holds_of_wide 4 Tryz.f4 rfl rfl rfl rfl rfl rfl rfl ⟨rfl,rfl,rfl,rfl,rfl⟩ rfl rfl rfl rfl rfl (by kernel_rfl) Tryz.func4 Gk
  (of_decide_eq_true (by kernel_rfl)) (by unfold Func.isWrapper;first|(rw[if_pos (by decide+kernel)];kernel_rfl)|(rw[if_neg (by decide+kernel)];exact⟨rfl,rfl⟩))
  (fun os b H enc _=>PackNil_lifted os b H enc)
end Go.Proofs.YtceikogjngfacaaGreat
