/- A part of the proof that the named laws of this program answer true, whatever the input. -/
import Derived.Test.YtcnejdpagpafgaaTryOpen
import Derived.Test.YtcnejdpagpafgaaGraphS21
namespace Go.Proofs.Ytcnejdpagpafgaa
open Go Go.Lift Go.Proofs Go.ChangeShapes Go.WideShapes Go.ChangeAt Go.RowKit
set_option maxRecDepth 100000 in
theorem GraphFull_lifted (os : Os) (started : os.Started) (H : Type) (enc : TypeId × Value → H) :
    ReturnsInHanded {} Try.checked os 7 .any (Rows.graphFullSpec.pre6 enc Try.prog Try.f7 Rows.graphFullRow.domain false) (Rows.graphFullSpec.post enc Try.prog Try.f7 false true false false) :=
  law_lifted (C := Try.checked) (ts := [t_A_u32]) (tb := t_bool) (by kernel_rfl) (by kernel_rfl) u_bool rfl (fun ds hd => by
      match ds, hd with
      | [d0], _ => exact ⟨rfl, rfl, rfl⟩) Try.own Try.laidOut (fun t ht => by
      simp only [List.mem_cons, List.not_mem_nil, or_false] at ht
      rcases ht with rfl <;> exact ⟨by kernel_rfl, of_decide_eq_true (by kernel_rfl)⟩) started (by kernel_rfl) Try.func7
    (ChangeSpec.witness6 (enc := enc) (C := Try.checked) false ⟨#[], #[.slice none 0 0], []⟩ 8 (by kernel_rfl) (by kernel_rfl) (by kernel_rfl) (by kernel_rfl)) Try.call7 (by
    intro W b0 args ds p hval hA
    obtain ⟨v0, _, d0, _, _, _, rfl, _, h0, r0⟩ := trod_cons hA
    obtain rfl := trod_nil r0
    obtain ⟨sk, keep, rfl, _⟩ := arg_nums (hval 0 _ v0 rfl rfl) h0
    exact fullLaw_ok (s := sk))
theorem GraphFull_holds : Rows.GraphFullSaid :=
  OpenClaim.holds_of_wide 7 Try.f7 rfl rfl rfl rfl rfl rfl rfl ⟨rfl, rfl, rfl, rfl, rfl⟩ rfl rfl rfl rfl rfl (by kernel_rfl) Try.func7 (by kernel_rfl)
    (of_decide_eq_true (by kernel_rfl)) (by unfold Func.isWrapper; first | (rw [if_pos (by decide +kernel)]; kernel_rfl) | (rw [if_neg (by decide +kernel)]; exact ⟨rfl, rfl⟩))
    (fun os started H enc _ => GraphFull_lifted os started H enc)
end Go.Proofs.Ytcnejdpagpafgaa
