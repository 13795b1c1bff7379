/- A part of the proof that the named laws of this program answer true, whatever the input. -/
import Derived.Test.YtjkhbpjhngfpaaaGreatTryTree
import Derived.Test.YtjkhbpjhngfpaaaGreatPart8
namespace Go.Proofs.YtjkhbpjhngfpaaaGreat
open Go Go.Lift Go.Proofs Go.ChangeShapes Go.WideShapes Go.ChangeAt Go.RowKit
set_option maxRecDepth 100000 in
theorem BuildRoots_lifted (os : Os) (started : os.Started) (H : Type) (enc : TypeId × Value → H) :
    ReturnsInHanded {} Tryz.checked os 3 .any (Rows.buildRootsSpec.pre6 enc Tryz.prog Tryz.f3 Rows.buildRootsRow.domain false) (Rows.buildRootsSpec.post enc Tryz.prog Tryz.f3 false true false false) :=
  law_lifted (C := Tryz.checked) (ts := [t_sip_Hasher, t_A_pair_Pair]) (tb := t_bool) (by kernel_rfl) (by kernel_rfl) u_bool rfl (fun ds hd => by
      match ds, hd with
      | [d0, d1], _ => exact ⟨rfl, rfl, rfl⟩) Tryz.own Tryz.laidOut (fun t ht => by
      simp only [List.mem_cons, List.not_mem_nil, or_false] at ht
      rcases ht with rfl | rfl <;> exact ⟨by kernel_rfl, of_decide_eq_true (by kernel_rfl)⟩) started (by kernel_rfl) Tryz.func3
    (ChangeSpec.witness6 (enc := enc) (C := Tryz.checked) false ⟨#[], #[.agg #[.int .u64 0, .int .u64 0, .int .u64 0], .slice none 0 0], []⟩ 8 (by kernel_rfl) (by kernel_rfl) (by kernel_rfl) (by kernel_rfl)) Tryz.call3 (by
    intro W b0 args ds p hval hA
    obtain ⟨v0, _, d0, _, _, _, rfl, _, h0, r0⟩ := trod_cons hA
    obtain ⟨v1, _, d1, _, _, _, rfl, _, h1, r1⟩ := trod_cons r0
    obtain rfl := trod_nil r1
    obtain ⟨x, rfl⟩ := arg_hs (hval 0 _ v0 rfl rfl) h0
    obtain ⟨s0, l0, rfl, hs0, hl0, _⟩ := arg_pairs (hval 1 _ v1 rfl rfl) h1
    exact buildRoots_ok hs0 hl0)
theorem BuildRoots_holds : Rows.BuildRootsSaid :=
  OpenClaim.holds_of_wide 3 Tryz.f3 rfl rfl rfl rfl rfl rfl rfl ⟨rfl, rfl, rfl, rfl, rfl⟩ rfl rfl rfl rfl rfl (by kernel_rfl) Tryz.func3 (by kernel_rfl)
    (of_decide_eq_true (by kernel_rfl)) (by unfold Func.isWrapper; first | (rw [if_pos (by decide +kernel)]; kernel_rfl) | (rw [if_neg (by decide +kernel)]; exact ⟨rfl, rfl⟩))
    (fun os started H enc _ => BuildRoots_lifted os started H enc)
end Go.Proofs.YtjkhbpjhngfpaaaGreat
