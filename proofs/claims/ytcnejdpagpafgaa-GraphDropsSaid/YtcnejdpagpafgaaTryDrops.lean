/- A part of the proof that the named laws of this program answer true, whatever the input. -/
import Derived.Test.YtcnejdpagpafgaaTryOpen
import Derived.Test.YtcnejdpagpafgaaGraphS19
namespace Go.Proofs.Ytcnejdpagpafgaa
open Go Go.Lift Go.Proofs Go.ChangeShapes Go.WideShapes Go.ChangeAt Go.RowKit
set_option maxRecDepth 100000 in
theorem GraphDrops_lifted (os : Os) (started : os.Started) (H : Type) (enc : TypeId × Value → H) :
    ReturnsInHanded {} Try.checked os 8 .any (Rows.graphDropsSpec.pre6 enc Try.prog Try.f8 Rows.graphDropsRow.domain false) (Rows.graphDropsSpec.post enc Try.prog Try.f8 false true false false) :=
  law_lifted (C := Try.checked) (ts := [t_A_l20_Act, t_A_u32, t_A_l20_Act]) (tb := t_bool) (by kernel_rfl) (by kernel_rfl) u_bool rfl (fun ds hd => by
      match ds, hd with
      | [d0, d1, d2], _ => exact ⟨rfl, rfl, rfl⟩) Try.own Try.laidOut (fun t ht => by
      simp only [List.mem_cons, List.not_mem_nil, or_false] at ht
      rcases ht with rfl | rfl | rfl <;> exact ⟨by kernel_rfl, of_decide_eq_true (by kernel_rfl)⟩) started (by kernel_rfl) Try.func8
    (ChangeSpec.witness6 (enc := enc) (C := Try.checked) false ⟨#[], #[.slice none 0 0, .slice none 0 0, .slice none 0 0], []⟩ 8 (by kernel_rfl) (by kernel_rfl) (by kernel_rfl) (by kernel_rfl)) Try.call8 (by
    intro W b0 args ds p hval hA
    obtain ⟨v0, _, d0, _, _, _, rfl, _, h0, r0⟩ := trod_cons hA
    obtain ⟨v1, _, d1, _, _, _, rfl, _, h1, r1⟩ := trod_cons r0
    obtain ⟨v2, _, d2, _, _, _, rfl, _, h2, r2⟩ := trod_cons r1
    obtain rfl := trod_nil r2
    obtain ⟨s0, acts0, rfl, ha0⟩ := arg_acts (hval 0 _ v0 rfl rfl) h0
    obtain ⟨sk, keep, rfl, hc, hk, _⟩ := arg_nums (hval 1 _ v1 rfl rfl) h1
    obtain ⟨s2, acts2, rfl, ha2⟩ := arg_acts (hval 2 _ v2 rfl rfl) h2
    exact dropsLaw_ok ha0 hc hk ha2)
theorem GraphDrops_holds : Rows.GraphDropsSaid :=
  OpenClaim.holds_of_wide 8 Try.f8 rfl rfl rfl rfl rfl rfl rfl ⟨rfl, rfl, rfl, rfl, rfl⟩ rfl rfl rfl rfl rfl (by kernel_rfl) Try.func8 (by kernel_rfl)
    (of_decide_eq_true (by kernel_rfl)) (by unfold Func.isWrapper; first | (rw [if_pos (by decide +kernel)]; kernel_rfl) | (rw [if_neg (by decide +kernel)]; exact ⟨rfl, rfl⟩))
    (fun os started H enc _ => GraphDrops_lifted os started H enc)
end Go.Proofs.Ytcnejdpagpafgaa
