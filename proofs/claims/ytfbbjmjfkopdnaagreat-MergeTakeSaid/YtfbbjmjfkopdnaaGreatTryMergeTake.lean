/- A part of the proof that the named laws of this program answer true, whatever the input. -/
import Derived.Test.YtfbbjmjfkopdnaaGreatTrySide
import Derived.Test.YtfbbjmjfkopdnaaGreatPart8
namespace Go.Proofs.YtfbbjmjfkopdnaaGreat
open Go Go.Lift Go.Proofs Go.ChangeShapes Go.WideShapes Go.ChangeAt Go.RowKit
set_option maxRecDepth 100000 in
theorem MergeTake_lifted (os : Os) (started : os.Started) (H : Type) (enc : TypeId × Value → H) :
    ReturnsInHanded {} Tryz.checked os 4 .any (Rows.mergeTakeSpec.pre6 enc Tryz.prog Tryz.f4 Rows.mergeTakeRow.domain false) (Rows.mergeTakeSpec.post enc Tryz.prog Tryz.f4 false true false false) :=
  law_lifted (C := Tryz.checked) (ts := [t_merge_Side, t_merge_Side, t_merge_Side, t_int]) (tb := t_bool) (by kernel_rfl) (by kernel_rfl) u_bool rfl (fun ds hd => by
      match ds, hd with
      | [d0, d1, d2, d3], _ => exact ⟨rfl, rfl, rfl⟩) Tryz.own Tryz.laidOut (fun t ht => by
      simp only [List.mem_cons, List.not_mem_nil, or_false] at ht
      rcases ht with rfl | rfl | rfl | rfl <;> exact ⟨by kernel_rfl, of_decide_eq_true (by kernel_rfl)⟩) started (by kernel_rfl) Tryz.func4
    (ChangeSpec.witness6 (enc := enc) (C := Tryz.checked) false ⟨#[], #[.agg #[.string ⟨#[]⟩, .bool false], .agg #[.string ⟨#[]⟩, .bool false], .agg #[.string ⟨#[]⟩, .bool false], .int .i64 0], []⟩ 8 (by kernel_rfl) (by kernel_rfl) (by kernel_rfl) (by kernel_rfl)) Tryz.call4 (by
    intro W b0 args ds p hval hA
    obtain ⟨v0, _, d0, _, _, _, rfl, _, h0, r0⟩ := trod_cons hA
    obtain ⟨v1, _, d1, _, _, _, rfl, _, h1, r1⟩ := trod_cons r0
    obtain ⟨v2, _, d2, _, _, _, rfl, _, h2, r2⟩ := trod_cons r1
    obtain ⟨v3, _, d3, _, _, _, rfl, _, h3, r3⟩ := trod_cons r2
    obtain rfl := trod_nil r3
    obtain ⟨b, rfl⟩ := arg_sd (hval 0 _ v0 rfl rfl) h0
    obtain ⟨o, rfl⟩ := arg_sd (hval 1 _ v1 rfl rfl) h1
    obtain ⟨t, rfl⟩ := arg_sd (hval 2 _ v2 rfl rfl) h2
    obtain ⟨n, rfl⟩ := arg_int (hval 3 _ v3 rfl rfl) h3
    exact mergeTake_ok)
theorem MergeTake_holds : Rows.MergeTakeSaid :=
  OpenClaim.holds_of_wide 4 Tryz.f4 rfl rfl rfl rfl rfl rfl rfl ⟨rfl, rfl, rfl, rfl, rfl⟩ rfl rfl rfl rfl rfl (by kernel_rfl) Tryz.func4 (by kernel_rfl)
    (of_decide_eq_true (by kernel_rfl)) (by unfold Func.isWrapper; first | (rw [if_pos (by decide +kernel)]; kernel_rfl) | (rw [if_neg (by decide +kernel)]; exact ⟨rfl, rfl⟩))
    (fun os started H enc _ => MergeTake_lifted os started H enc)
end Go.Proofs.YtfbbjmjfkopdnaaGreat
