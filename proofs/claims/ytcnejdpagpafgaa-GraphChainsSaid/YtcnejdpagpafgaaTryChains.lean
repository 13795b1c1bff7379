/- A part of the proof that the named laws of this program answer true, whatever the input. -/
import Derived.Test.YtcnejdpagpafgaaTryOpen
import Derived.Test.YtcnejdpagpafgaaGraphS22
namespace Go.Proofs.Ytcnejdpagpafgaa
open Go Go.Lift Go.Proofs Go.ChangeShapes Go.WideShapes Go.ChangeAt Go.RowKit
set_option maxRecDepth 100000 in
theorem GraphChains_lifted (os : Os) (started : os.Started) (H : Type) (enc : TypeId × Value → H) :
    ReturnsInHanded {} Try.checked os 3 .any (Rows.graphChainsSpec.pre6 enc Try.prog Try.f3 Rows.graphChainsRow.domain false) (Rows.graphChainsSpec.post enc Try.prog Try.f3 false true false false) :=
  law_lifted (C := Try.checked) (ts := [t_u8, t_u8, t_u8, t_u8, t_u8]) (tb := t_bool) (by kernel_rfl) (by kernel_rfl) u_bool rfl (fun ds hd => by
      match ds, hd with
      | [d0, d1, d2, d3, d4], _ => exact ⟨rfl, rfl, rfl⟩) Try.own Try.laidOut (fun t ht => by
      simp only [List.mem_cons, List.not_mem_nil, or_false] at ht
      rcases ht with rfl | rfl | rfl | rfl | rfl <;> exact ⟨by kernel_rfl, of_decide_eq_true (by kernel_rfl)⟩) started (by kernel_rfl) Try.func3
    (ChangeSpec.witness6 (enc := enc) (C := Try.checked) false ⟨#[], #[.int .u8 0, .int .u8 0, .int .u8 0, .int .u8 0, .int .u8 0], []⟩ 8 (by kernel_rfl) (by kernel_rfl) (by kernel_rfl) (by kernel_rfl)) Try.call3 (by
    intro W b0 args ds p hval hA
    obtain ⟨v0, _, d0, _, _, _, rfl, _, h0, r0⟩ := trod_cons hA
    obtain ⟨v1, _, d1, _, _, _, rfl, _, h1, r1⟩ := trod_cons r0
    obtain ⟨v2, _, d2, _, _, _, rfl, _, h2, r2⟩ := trod_cons r1
    obtain ⟨v3, _, d3, _, _, _, rfl, _, h3, r3⟩ := trod_cons r2
    obtain ⟨v4, _, d4, _, _, _, rfl, _, h4, r4⟩ := trod_cons r3
    obtain rfl := trod_nil r4
    obtain ⟨p0, rfl, k0⟩ := arg_u8 (hval 0 _ v0 rfl rfl) h0
    obtain ⟨p1, rfl, k1⟩ := arg_u8 (hval 1 _ v1 rfl rfl) h1
    obtain ⟨p2, rfl, k2⟩ := arg_u8 (hval 2 _ v2 rfl rfl) h2
    obtain ⟨p3, rfl, k3⟩ := arg_u8 (hval 3 _ v3 rfl rfl) h3
    obtain ⟨p4, rfl, k4⟩ := arg_u8 (hval 4 _ v4 rfl rfl) h4
    exact chainsLaw_ok k0 k1 k2 k3 k4)
theorem GraphChains_holds : Rows.GraphChainsSaid :=
  OpenClaim.holds_of_wide 3 Try.f3 rfl rfl rfl rfl rfl rfl rfl ⟨rfl, rfl, rfl, rfl, rfl⟩ rfl rfl rfl rfl rfl (by kernel_rfl) Try.func3 (by kernel_rfl)
    (of_decide_eq_true (by kernel_rfl)) (by unfold Func.isWrapper; first | (rw [if_pos (by decide +kernel)]; kernel_rfl) | (rw [if_neg (by decide +kernel)]; exact ⟨rfl, rfl⟩))
    (fun os started H enc _ => GraphChains_lifted os started H enc)
end Go.Proofs.Ytcnejdpagpafgaa
