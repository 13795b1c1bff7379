/- A part of the proof that the named laws of this program answer true, whatever the input. -/
import Derived.Test.YtcnejdpagpafgaaTryOpen
import Derived.Test.YtcnejdpagpafgaaGraphS18
namespace Go.Proofs.Ytcnejdpagpafgaa
open Go Go.Lift Go.Proofs Go.ChangeShapes Go.WideShapes Go.ChangeAt Go.RowKit
set_option maxRecDepth 100000 in
theorem GraphMeets_lifted (os : Os) (started : os.Started) (H : Type) (enc : TypeId × Value → H) :
    ReturnsInHanded {} Try.checked os 5 .any (Rows.graphMeetsSpec.pre6 enc Try.prog Try.f5 Rows.graphMeetsRow.domain false) (Rows.graphMeetsSpec.post enc Try.prog Try.f5 false true false false) :=
  law_lifted (C := Try.checked) (ts := [t_A_l20_Act, t_u8, t_u8]) (tb := t_bool) (by kernel_rfl) (by kernel_rfl) u_bool rfl (fun ds hd => by
      match ds, hd with
      | [d0, d1, d2], _ => exact ⟨rfl, rfl, rfl⟩) Try.own Try.laidOut (fun t ht => by
      simp only [List.mem_cons, List.not_mem_nil, or_false] at ht
      rcases ht with rfl | rfl | rfl <;> exact ⟨by kernel_rfl, of_decide_eq_true (by kernel_rfl)⟩) started (by kernel_rfl) Try.func5
    (ChangeSpec.witness6 (enc := enc) (C := Try.checked) false ⟨#[], #[.slice none 0 0, .int .u8 0, .int .u8 0], []⟩ 8 (by kernel_rfl) (by kernel_rfl) (by kernel_rfl) (by kernel_rfl)) Try.call5 (by
    intro W b0 args ds p hval hA
    obtain ⟨v0, _, d0, _, _, _, rfl, _, h0, r0⟩ := trod_cons hA
    obtain ⟨v1, _, d1, _, _, _, rfl, _, h1, r1⟩ := trod_cons r0
    obtain ⟨v2, _, d2, _, _, _, rfl, _, h2, r2⟩ := trod_cons r1
    obtain rfl := trod_nil r2
    obtain ⟨s0, acts0, rfl, ha0⟩ := arg_acts (hval 0 _ v0 rfl rfl) h0
    obtain ⟨p, rfl, hp⟩ := arg_u8 (hval 1 _ v1 rfl rfl) h1
    obtain ⟨q, rfl, hq⟩ := arg_u8 (hval 2 _ v2 rfl rfl) h2
    exact meetsLaw_ok ha0 hp hq)
theorem GraphMeets_holds : Rows.GraphMeetsSaid :=
  OpenClaim.holds_of_wide 5 Try.f5 rfl rfl rfl rfl rfl rfl rfl ⟨rfl, rfl, rfl, rfl, rfl⟩ rfl rfl rfl rfl rfl (by kernel_rfl) Try.func5 (by kernel_rfl)
    (of_decide_eq_true (by kernel_rfl)) (by unfold Func.isWrapper; first | (rw [if_pos (by decide +kernel)]; kernel_rfl) | (rw [if_neg (by decide +kernel)]; exact ⟨rfl, rfl⟩))
    (fun os started H enc _ => GraphMeets_lifted os started H enc)
end Go.Proofs.Ytcnejdpagpafgaa
