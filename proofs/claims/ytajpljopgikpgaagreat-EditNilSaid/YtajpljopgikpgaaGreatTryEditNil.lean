/- A part of the proof that the named laws of this program answer true, whatever the input. -/
import Derived.Test.YtajpljopgikpgaaGreatTryTree
import Derived.Test.YtajpljopgikpgaaGreatPart6
namespace Go.Proofs.YtajpljopgikpgaaGreat
open Go Go.Lift Go.Proofs Go.ChangeShapes Go.WideShapes Go.ChangeAt Go.RowKit
set_option maxRecDepth 100000 in
theorem EditNil_lifted(os:Os)(a:os.Started)(H:Type)(enc:TypeId×Value→H):
  ReturnsInHanded {} Tryz.checked os 4 .any (Rows.editNilSpec.pre6 enc Tryz.prog Tryz.f4 Rows.editNilRow.domain false) (Rows.editNilSpec.post enc Tryz.prog Tryz.f4 false true false false):=
 law_lifted (C:=Tryz.checked) (ts:= [ah]) (tb:=mq) (by kernel_rfl) (by kernel_rfl) C9 rfl (fun ds hd=>by
   match ds,hd with
   | [i],_=>exact⟨rfl,rfl,rfl⟩) Tryz.own Tryz.laidOut (fun t c=>by
   simp only[List.mem_cons,List.not_mem_nil,or_false]at c
   rcases c with rfl<;>exact⟨by kernel_rfl,of_decide_eq_true (by kernel_rfl)⟩) a (by kernel_rfl) Tryz.func4
  (ChangeSpec.witness6 (enc:=enc) (C:=Tryz.checked) false ⟨#[],#[.agg #[.string ⟨#[]⟩,.string ⟨#[]⟩]],[]⟩ 8 (by kernel_rfl) (by kernel_rfl) (by kernel_rfl) (by kernel_rfl)) Tryz.call4 (by
  intro W j args ds p b e
  obtain⟨g,_,i,_,_,_,rfl,_,f,d⟩:=zD e
  obtain rfl:=AJ d
  obtain⟨p,rfl⟩:=DR (b 0 _ g rfl rfl) f
  exact yp p)
theorem EditNil_holds:Rows.EditNilSaid:=
 OpenClaim.holds_of_wide 4 Tryz.f4 rfl rfl rfl rfl rfl rfl rfl ⟨rfl,rfl,rfl,rfl,rfl⟩ rfl rfl rfl rfl rfl (by kernel_rfl) Tryz.func4 (by kernel_rfl)
  (of_decide_eq_true (by kernel_rfl)) (by unfold Func.isWrapper;first|(rw[if_pos (by decide+kernel)];kernel_rfl)|(rw[if_neg (by decide+kernel)];exact⟨rfl,rfl⟩))
  (fun os a H enc _=>EditNil_lifted os a H enc)
end Go.Proofs.YtajpljopgikpgaaGreat
