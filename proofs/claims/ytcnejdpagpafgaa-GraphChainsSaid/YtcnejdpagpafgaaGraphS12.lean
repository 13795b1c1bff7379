/- A part of the proof that the named laws of this program answer true, whatever the input. -/
import Derived.Test.YtcnejdpagpafgaaGraphS11
import Derived.Test.YtcnejdpagpafgaaLiftIter
namespace Go.Proofs
open Go.Lift
/-! ### maps.Keys, slices.AppendSeq, slices.Collect -/
theorem keysI_ok {h : Heap} {r : Nat} {m : List (Int × Int)} (hm : MapAt KE iv h r m) {K : Value → Heap → Prop}
    (hk : ∀ fv h', Gives PG fv u32 m.length (fun xs => xs.Perm (m.map (·.1))) (fun b => b = r ∨ b = h.size) h' → Upd No h h' → K fv h') : HC PG f_maps_Keys_M_u32_int_u32_int [.map (some r)] [.c .raw] K h := by
  refine H_maps_Keys_M_u32_int_u32_int (some r) ?_
  unfold F_maps_Keys_M_u32_int_u32_int
  have k := Upd.hnew No h [.map (some r)] t_M_u32_int
  refine hk _ _ ?_ k
  refine keys_gives (hm.upd k id) (bx := h.size) (hnew_get ..) fun y h1 K hb hl => HE_maps_Keys_M_u32_int_u32_int_1 y ⟨h.size, 0, none⟩ ?_
  unfold F_maps_Keys_M_u32_int_u32_int_1
  obtain ⟨c, ⟨es, hes⟩, hl⟩ := hl
  refine ⟨some r, by rw [hcell_blk hb]; rfl, c, .inr ⟨r, es, rfl, hes⟩, ?_⟩
  refine (hl _ rfl).imp fun I t h n => n.imp id fun e h2 ⟨x, v, h3, h4, h5, h6⟩ => ⟨rfl, e, x, v, h3, h4, h5, h6⟩
theorem keysS_ok {h : Heap} {r : Nat} {m : List (Int × SliceV)} (hm : MapAt KE sv h r m) {K : Value → Heap → Prop}
    (hk : ∀ fv h', Gives PG fv u32 m.length (fun xs => xs.Perm (m.map (·.1))) (fun b => b = r ∨ b = h.size) h' → Upd No h h' → K fv h') : HC PG f_maps_Keys_M_u32_A_u32_u32_A_u32 [.map (some r)] [.c .raw] K h := by
  refine H_maps_Keys_M_u32_A_u32_u32_A_u32 (some r) ?_
  unfold F_maps_Keys_M_u32_A_u32_u32_A_u32
  have k := Upd.hnew No h [.map (some r)] t_M_u32_A_u32
  refine hk _ _ ?_ k
  refine keys_gives (hm.upd k id) (bx := h.size) (hnew_get ..) fun y h1 K hb hl => HE_maps_Keys_M_u32_A_u32_u32_A_u32_1 y ⟨h.size, 0, none⟩ ?_
  unfold F_maps_Keys_M_u32_A_u32_u32_A_u32_1
  obtain ⟨c, ⟨es, hes⟩, hl⟩ := hl
  refine ⟨some r, by rw [hcell_blk hb]; rfl, c, .inr ⟨r, es, rfl, hes⟩, ?_⟩
  refine (hl _ rfl).imp fun I t h n => n.imp id fun e h2 ⟨x, v, h3, h4, h5, h6⟩ => ⟨rfl, e, x, v, h3, h4, h5, h6⟩
theorem appendSeq_ok {h : Heap} {fv : Value} {N : Nat} {S : List Int → Prop} {Q : Nat → Prop} (hg : Gives PG fv u32 N S Q h) (hN : N ≤ 1000000000) {K : SliceV → Heap → Prop}
    (hk : ∀ s' h' xs, S xs → OwnS u32 1 t_u32 (fun b => h.size ≤ b) h' s' xs → Upd No h h' → K s' h') : HC PG f_slices_AppendSeq_A_u32_u32 [.slice none 0 0, fv] [.c .slice] K h := by
  refine H_slices_AppendSeq_A_u32_u32 ⟨none, 0, 0⟩ fv ?_
  unfold F_slices_AppendSeq_A_u32_u32
  have k0 := Upd.hnew No h [.slice none 0 0] t_A_u32
  have b0 := hnew_get h [.slice none 0 0] t_A_u32
  have hsz : (hnew h [.slice none 0 0] t_A_u32).size = h.size + 1 := hnew_size ..
  have hg1 := hg.upd k0 fun _ _ => id
  simp only [At]
  generalize hnew h [.slice none 0 0] t_A_u32 = h1 at hg1 k0 b0 hsz
  refine ⟨fun lo hlo hround => ?_⟩
  obtain ⟨f, first, cap, rfl, hrun⟩ := hg1.run
  refine ⟨f, first, cap, rfl, ?_⟩
  have k1 : Upd No h1 ((h1.push (.deferred (some []))).push (lo .ready none)) := (Upd.push No _ _).tr (Upd.push No _ _)
  have l2 : ((h1.push (.deferred (some []))).push (lo .ready none))[h1.size + 1]? = some (lo .ready none) := by
    have := push_get (h1.push (.deferred (some []))) (lo .ready none)
    rwa [Array.size_push] at this
  have l1 : ((h1.push (.deferred (some []))).push (lo .ready none))[h1.size]? = some (.deferred (some [])) := (Upd.push No _ _).get0 (push_get h1 _)
  refine hrun (.func (.yield (h1.size + 1)) #[] #[]) (fun pre A h' => (∀ b, A b → b < h'.size ∧ h.size ≤ b) ∧ A h.size ∧ A h1.size ∧ A (h1.size + 1) ∧ h'[h1.size]? = some (.deferred (some [])) ∧ h'[h1.size + 1]? = some (lo .ready none) ∧
      ∃ s : SliceV, h'[h.size]? = some (.cells #[sv s] t_A_u32 (0, 0)) ∧ OwnS u32 1 t_u32 (fun b => A b ∧ h1.size + 1 < b) h' s pre ∧ pre.length ≤ N)
    (fun b => b = h.size ∨ b = h1.size ∨ b = h1.size + 1) No _ _ ⟨fun _ _ _ hj b hb => (hj.1 b hb).1, fun pre A h' h'' B hj hu hB => ?_, fun pre A h' x K' hj hlen hK => ?_⟩ ?_ k1 (fun _ _ => id) (fun b hb hq => ?_) ?_
  · obtain ⟨h1', h2, h3, h4, h5, h6, s, h7, h8, h9⟩ := hj
    exact ⟨fun b hb => ⟨Nat.lt_of_lt_of_le (h1' b hb).1 hu.size, (h1' b hb).2⟩, h2, h3, h4, hu.get h5 (hB _ h3), hu.get h6 (hB _ h4), s, hu.get h7 (hB _ h2), h8.upd hu fun b hb => hB b hb.1, h9⟩
  · obtain ⟨hA, hA1, hA2, hA3, hd, hl, s, hs, ho, hpl⟩ := hj
    refine hround x h' K' hl ⟨hl, ?_⟩
    have kb : Upd (· = h1.size + 1) h' (h'.setIfInBounds (h1.size + 1) (lo .busy none)) := Upd.set _ _ rfl
    have lb := set_get (o := lo .busy none) hl
    have sb := kb.size
    generalize h'.setIfInBounds (h1.size + 1) (lo .busy none) = h2 at kb lb sb
    refine ⟨s, by rw [newA_eq, hcell_blk (kb.get hs (by omega))]; rfl, ?_⟩
    refine append1 (M := fun b => (A b ∨ h2.size ≤ b) ∧ h1.size + 1 < b) ((ho.upd kb fun b hb => by omega).more fun b hb => ⟨.inl hb.1, hb.2⟩) (fun b hb => ⟨.inr hb, by have := get_lt lb; omega⟩) (by omega) fun s' h3 ho3 hu3 => ?_
    have hs3 : h3[h.size]? = some (.cells #[sv s] t_A_u32 (0, 0)) := hu3.get (kb.get hs (by omega)) (by omega)
    refine ⟨by rw [newA_eq]; exact wr_blk hs3 (by simp), ?_⟩
    have k4 : Upd (· = h.size) h3 (hset h3 (newA h) (.slice s'.a s'.len s'.cap)) := Upd.hset _ _ rfl
    have hs4 : (hset h3 (newA h) (.slice s'.a s'.len s'.cap))[h.size]? = some (.cells #[sv s'] t_A_u32 (0, 0)) := by
      rw [newA_eq, hset_blk hs3, set_get hs3]; rfl
    generalize hset h3 (newA h) (.slice s'.a s'.len s'.cap) = h4 at k4 hs4
    have hl4 : h4[h1.size + 1]? = some (lo .busy none) := k4.get (hu3.get lb (by omega)) (by omega)
    refine ⟨hl4, ?_⟩
    have k5 : Upd (· = h1.size + 1) h4 (h4.setIfInBounds (h1.size + 1) (lo .ready none)) := Upd.set _ _ rfl
    have hl5 := set_get (o := lo .ready none) hl4
    have hall : Upd A h' h4 := ((kb.mono (M' := A) fun b hb => .inl (hb ▸ hA3)).trans hu3 fun b hb => hb.1.imp id fun h => by omega).trans k4 fun b hb => .inl (hb ▸ hA1)
    have z3 := hu3.size
    have z4 := k4.size
    have z5 := k5.size
    refine hK _ (fun b => (A b ∨ h2.size ≤ b) ∧ b < h4.size) ⟨fun b hb => ⟨Nat.lt_of_lt_of_le hb.2 z5, hb.1.elim (fun h => (hA b h).2) fun h => by have := (hA _ hA1).1; omega⟩, ⟨.inl hA1, by have := (hA _ hA1).1; omega⟩, ⟨.inl hA2, by have := (hA _ hA2).1; omega⟩, ⟨.inl hA3, by have := (hA _ hA3).1; omega⟩,
      k5.get (k4.get (hu3.get (kb.get hd (by omega)) (by omega)) (by omega)) (by omega), hl5, s', k5.get hs4 (by omega), ?_, by simp; omega⟩ (hall.trans k5 fun b hb => .inl (hb ▸ hA3)) fun b hb => hb.1.imp id fun h => by omega
    exact (((ho3.upd k4 fun b hb => by omega).within).more fun b hb => ⟨⟨hb.1.1, hb.2⟩, hb.1.2⟩).upd k5 fun b hb => by omega
  · refine ⟨fun b hb => ?_, .inl rfl, .inr (.inl rfl), .inr (.inr rfl), l1, l2, ⟨none, 0, 0⟩, k1.get0 b0, OwnS.nil u32_ne, Nat.zero_le _⟩
    have := get_lt l2
    rcases hb with rfl | rfl | rfl <;> omega
  · have := hg.lt b hq
    rcases hb with rfl | rfl | rfl <;> omega
  · rintro xs A' h' hS ⟨hA, hA1, hA2, hA3, hd, hl, s, hs, ho, hpl⟩ hu hA'
    refine ⟨.ready, none, by decide, hl, ?_⟩
    have k5 : Upd (· = h1.size + 1) h' (h'.setIfInBounds (h1.size + 1) (lo .exhausted none)) := Upd.set _ _ rfl
    show ∃ v : SliceV, hcell (h'.setIfInBounds (h1.size + 1) (lo .exhausted none)) (newA h) = some (.slice v.a v.len v.cap) ∧ _
    have hd5 := k5.get hd (show ¬ h1.size = h1.size + 1 by omega)
    have hs5 := k5.get hs (show ¬ h.size = h1.size + 1 by omega)
    have ho5 := ho.upd k5 fun b hb => by omega
    generalize h'.setIfInBounds (h1.size + 1) (lo .exhausted none) = h5 at k5 hd5 hs5 ho5
    refine ⟨s, by rw [newA_eq, hcell_blk hs5]; rfl, hd5, ?_⟩
    have k6 : Upd (· = h1.size) h5 (h5.setIfInBounds h1.size (.deferred none)) := Upd.set _ _ rfl
    refine hk s _ xs hS ((ho5.upd k6 fun b hb => by omega).more fun b hb => (hA b hb.1).2) ?_
    refine (((k0.tr k1).trans hu fun b hb => ?_).trans k5 fun b hb => .inr (by omega)).trans k6 fun b hb => .inr (by omega)
    rcases hb with rfl | rfl | rfl <;> (right; omega)
theorem collect_ok {h : Heap} {fv : Value} {N : Nat} {S : List Int → Prop} {Q : Nat → Prop} (hg : Gives PG fv u32 N S Q h) (hN : N ≤ 1000000000) {K : SliceV → Heap → Prop}
    (hk : ∀ s' h' xs, S xs → OwnS u32 1 t_u32 (fun b => h.size ≤ b) h' s' xs → Upd No h h' → K s' h') : HC PG f_slices_Collect_u32 [fv] [.c .slice] K h := by
  refine H_slices_Collect_u32 fv ?_
  unfold F_slices_Collect_u32
  exact appendSeq_ok hg hN hk
end Go.Proofs
