/- A part of the proof that the named laws of this program answer true, whatever the input. -/
import Derived.Test.YtfbbjmjfkopdnaaGreatTryChs
import Derived.Test.YtfbbjmjfkopdnaaGreatPart8
namespace Go.Proofs.YtfbbjmjfkopdnaaGreat
open Go Go.Lift Go.Proofs Go.ChangeShapes Go.WideShapes Go.ChangeAt Go.RowKit
set_option maxRecDepth 100000 in
theorem DiffKinds_lifted (os : Os) (started : os.Started) (H : Type) (enc : TypeId × Value → H) :
    ReturnsInHanded {} Tryz.checked os 3 .any (Rows.diffKindsSpec.pre6 enc Tryz.prog Tryz.f3 Rows.diffKindsRow.domain false) (Rows.diffKindsSpec.post enc Tryz.prog Tryz.f3 false true false false) :=
  law_lifted (C := Tryz.checked) (ts := [t_u8, t_u8, t_sip_Hasher, t_sip_Hasher, t_A_pair_Pair, t_A_diff_Change, t_A_diff_Change, t_bool]) (tb := t_bool) (by kernel_rfl) (by kernel_rfl) u_bool rfl (fun ds hd => by
      match ds, hd with
      | [d0, d1, d2, d3, d4, d5, d6, d7], _ => exact ⟨rfl, rfl, rfl⟩) Tryz.own Tryz.laidOut (fun t ht => by
      simp only [List.mem_cons, List.not_mem_nil, or_false] at ht
      rcases ht with rfl | rfl | rfl | rfl | rfl | rfl | rfl | rfl <;> exact ⟨by kernel_rfl, of_decide_eq_true (by kernel_rfl)⟩) started (by kernel_rfl) Tryz.func3
    (ChangeSpec.witness6 (enc := enc) (C := Tryz.checked) false ⟨#[], #[.int .u8 0, .int .u8 0, .agg #[.int .u64 0, .int .u64 0, .int .u64 0], .agg #[.int .u64 0, .int .u64 0, .int .u64 0], .slice none 0 0, .slice none 0 0, .slice none 0 0, .bool false], []⟩ 8 (by kernel_rfl) (by kernel_rfl) (by kernel_rfl) (by kernel_rfl)) Tryz.call3 (by
    intro W b0 args ds p hval hA
    obtain ⟨v0, _, d0, _, _, _, rfl, _, h0, r0⟩ := trod_cons hA
    obtain ⟨v1, _, d1, _, _, _, rfl, _, h1, r1⟩ := trod_cons r0
    obtain ⟨v2, _, d2, _, _, _, rfl, _, h2, r2⟩ := trod_cons r1
    obtain ⟨v3, _, d3, _, _, _, rfl, _, h3, r3⟩ := trod_cons r2
    obtain ⟨v4, _, d4, _, _, _, rfl, _, h4, r4⟩ := trod_cons r3
    obtain ⟨v5, _, d5, _, _, _, rfl, _, h5, r5⟩ := trod_cons r4
    obtain ⟨v6, _, d6, _, _, _, rfl, _, h6, r6⟩ := trod_cons r5
    obtain ⟨v7, _, d7, _, _, _, rfl, _, h7, r7⟩ := trod_cons r6
    obtain rfl := trod_nil r7
    obtain ⟨k, rfl, hk⟩ := arg_u8 (hval 0 _ v0 rfl rfl) h0
    obtain ⟨o, rfl, ho⟩ := arg_u8 (hval 1 _ v1 rfl rfl) h1
    obtain ⟨x, rfl⟩ := arg_hs (hval 2 _ v2 rfl rfl) h2
    obtain ⟨y, rfl⟩ := arg_hs (hval 3 _ v3 rfl rfl) h3
    obtain ⟨s0, l0, rfl, hs0, hl0, _⟩ := arg_pairs (hval 4 _ v4 rfl rfl) h4
    obtain ⟨sc, c, rfl, hc0, hcl⟩ := arg_chs (hval 5 _ v5 rfl rfl) h5
    obtain ⟨sd, d, rfl, hd0, hdl⟩ := arg_chs (hval 6 _ v6 rfl rfl) h6
    obtain ⟨same, rfl⟩ := arg_bool (hval 7 _ v7 rfl rfl) h7
    exact diffKinds_ok hs0 hl0 hc0 hcl hd0 hdl hk.1 hk.2 ho.1 ho.2)
theorem DiffKinds_holds : Rows.DiffKindsSaid :=
  OpenClaim.holds_of_wide 3 Tryz.f3 rfl rfl rfl rfl rfl rfl rfl ⟨rfl, rfl, rfl, rfl, rfl⟩ rfl rfl rfl rfl rfl (by kernel_rfl) Tryz.func3 (by kernel_rfl)
    (of_decide_eq_true (by kernel_rfl)) (by unfold Func.isWrapper; first | (rw [if_pos (by decide +kernel)]; kernel_rfl) | (rw [if_neg (by decide +kernel)]; exact ⟨rfl, rfl⟩))
    (fun os started H enc _ => DiffKinds_lifted os started H enc)
end Go.Proofs.YtfbbjmjfkopdnaaGreat
