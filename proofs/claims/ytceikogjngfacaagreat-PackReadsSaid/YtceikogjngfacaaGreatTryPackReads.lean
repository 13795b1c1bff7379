/- A part of the proof that the named laws of this program answer true, whatever the input. -/
import Derived.Test.YtceikogjngfacaaGreatTryBts
import Derived.Test.YtceikogjngfacaaGreatPart15
namespace Go.Proofs.YtceikogjngfacaaGreat
open Go Go.Lift Go.Proofs Go.ChangeShapes Go.WideShapes Go.ChangeAt Go.RowKit
set_option maxRecDepth 100000 in
theorem PackReads_lifted(os:Os)(b:os.Started)(H:Type)(enc:TypeId×Value→H):
  ReturnsInHanded {} Tryz.checked os 3 .any (Rows.packReadsSpec.pre6 enc Tryz.prog Tryz.f3 Rows.packReadsRow.domain false) (Rows.packReadsSpec.post enc Tryz.prog Tryz.f3 false true false false):=
 law_lifted (C:=Tryz.checked) (ts:= [22]) (tb:=4) (by kernel_rfl) (by kernel_rfl) Yj rfl (fun ds hd=>by
   match ds,hd with
   | [f],_=>exact⟨rfl,rfl,rfl⟩) Tryz.own Tryz.laidOut (fun t d=>by
   simp only[List.mem_cons,List.not_mem_nil,or_false]at d
   rcases d with rfl<;>exact⟨by kernel_rfl,of_decide_eq_true (by kernel_rfl)⟩) b (by kernel_rfl) Tryz.func3
  (ChangeSpec.witness6 (enc:=enc) (C:=Tryz.checked) false ⟨#[],#[.slice none 0 0],[]⟩ 8 (by kernel_rfl) (by kernel_rfl) (by kernel_rfl) (by kernel_rfl)) Tryz.call3 (by
  intro W o args ds p c n
  obtain⟨e,_,f,_,_,_,rfl,_,m,g⟩:=RH n
  obtain rfl:=TN g
  obtain⟨sl,l,rfl,j,i,hc⟩:=Xw (c 0 _ e rfl rfl) m
  exact Lp j hc i)
theorem jv{a b:Bool}(h:a=true)(h2:b=true):(a&&b)=true:=by rw[h,h2];rfl
theorem Jd:(laidOutB Tryz.pinned.checked.prog)=true:=by kernel_rfl
theorem Jc:(mapsRowed Tryz.pinned.checked.prog)=true:=by kernel_rfl
theorem Mi:((Rows.packReadsRow.inPlace==Program.inPlace Tryz.pinned.checked.prog 3))=true:=by kernel_rfl
theorem Jb:((Rows.packReadsRow.unfollowed==Program.unfollowed Tryz.pinned.checked.prog 3))=true:=by kernel_rfl
theorem Ja:((Rows.packReadsRow.recurses==Program.recurses Tryz.pinned.checked.prog 3))=true:=by kernel_rfl
theorem Me:((Rows.packReadsRow.named==Program.varsNamed Tryz.pinned.checked.prog 3))=true:=by kernel_rfl
theorem Mh:((Rows.packReadsRow.plainKeys==Program.plainKeys Tryz.pinned.checked.prog))=true:=by kernel_rfl
theorem Md:(Program.stopsHeard Tryz.pinned.checked.prog)=true:=by kernel_rfl
theorem Mf:(Program.mayEnter Tryz.pinned.checked.prog)=true:=by kernel_rfl
theorem Mg:((Rows.packReadsRow.lifted==Program.liftsFinal Tryz.pinned.checked.prog))=true:=by kernel_rfl
theorem Ec:joinedFacts Tryz.pinned.checked.prog 3 Tryz.f3 Rows.packReadsSpec Rows.packReadsRow=true:=jv (jv (jv (jv (jv (jv (jv (jv (jv (jv (jv (jv (jv (jv (jv (jv (jv (jv (jv (jv (jv (jv (jv (jv (jv (jv (jv (jv (jv (jv (jv (by kernel_rfl) Jd) Jc) (by kernel_rfl)) (by kernel_rfl)) (by kernel_rfl)) (by kernel_rfl)) (by kernel_rfl)) (by kernel_rfl)) Mi) Jb) Ja) Me) (by kernel_rfl)) (by kernel_rfl)) (by kernel_rfl)) (by kernel_rfl)) (by kernel_rfl)) (by kernel_rfl)) (by kernel_rfl)) (by kernel_rfl)) (by kernel_rfl)) Mh) (by kernel_rfl)) Md) Mf) Mg) (by kernel_rfl)) (by kernel_rfl)) (by kernel_rfl)) (by kernel_rfl)) (by kernel_rfl)
theorem PackReads_holds:Rows.PackReadsSaid:=
 OpenClaim.holds_of_wide 3 Tryz.f3 rfl rfl rfl rfl rfl rfl rfl ⟨rfl,rfl,rfl,rfl,rfl⟩ rfl rfl rfl rfl rfl (by kernel_rfl) Tryz.func3 Ec
  (of_decide_eq_true (by kernel_rfl)) (by unfold Func.isWrapper;first|(rw[if_pos (by decide+kernel)];kernel_rfl)|(rw[if_neg (by decide+kernel)];exact⟨rfl,rfl⟩))
  (fun os b H enc _=>PackReads_lifted os b H enc)
end Go.Proofs.YtceikogjngfacaaGreat
