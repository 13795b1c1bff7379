/- A part of the proof that the named laws of this program answer true, whatever the input. -/
import Derived.Test.YtcnejdpagpafgaaGraphS10
namespace Go.Proofs
open Go.Lift
theorem Par.filter {W : Nat → Prop} {h : Heap} (p : Int → Bool) : ∀ {l : List (Int × SliceV)} {m : Vers}, Par W h l m → Par W h (l.filter fun v => p v.1) (m.filter fun v => p v.1)
  | [], [], _ => trivial
  | v :: l, u :: m, q => by
    rw [List.filter_cons, List.filter_cons, q.1]
    split
    · exact ⟨q.1, q.2.1, Par.filter p q.2.2⟩
    · exact Par.filter p q.2.2
  | [], _ :: _, q => q.elim
  | _ :: _, [], q => q.elim
/-- One more version behind one's own. -/
theorem append1v {M : Nat → Prop} {h : Heap} {so : SliceV} {out : List (Int × SliceV)} {v : Int × SliceV} {K : SliceV → Heap → Prop} (ho : OwnS vf 2 t_r20_Version M h so out) (hM : ∀ b, h.size ≤ b → M b) (hn : out.length ≤ 1000000000)
    (hk : ∀ s' h', OwnS vf 2 t_r20_Version M h' s' (out ++ [v]) → Upd M h h' → K s' h') :
    ∃ xs, SRow (hnew h [.int .u32 v.1, .slice v.2.a v.2.len v.2.cap] t_r20_Version) (some (newA h)) (1 * 2) xs ∧ AppP (some [.int .u32 0, .slice none 0 0]) 2 32 t_r20_Version so.a so.len so.cap 1 xs (hnew h [.int .u32 v.1, .slice v.2.a v.2.len v.2.cap] t_r20_Version) K := by
  have k := Upd.hnew No h [.int .u32 v.1, .slice v.2.a v.2.len v.2.cap] t_r20_Version
  have h1 : OwnS vf 2 t_r20_Version (fun _ => True) (hnew h [.int .u32 v.1, .slice v.2.a v.2.len v.2.cap] t_r20_Version) ⟨some (newA h), 1, 1⟩ [v] := ⟨rfl, vf_ne, Nat.le_refl _, .inr ⟨h.size, [], rfl, trivial, hnew_get .., rfl⟩⟩
  refine ⟨_, (h1.sl (W := No) fun _ _ _ h => h).srow, ?_⟩
  refine AppP.own (ys := [v]) (ho.upd k fun _ _ h => h) rfl rfl rfl rfl (by omega) (by simp only [List.length_singleton]; omega) (hM _ (by rw [hnew_size]; omega)) fun s' h' ho' hu => ?_
  exact hk s' h' ho' ((Upd.hnew M h _ _).tr hu)
/-- The loop that gathers all above those that are kept. -/
theorem xDrop_ok {W : Nat → Prop} {h : Heap} {xp : Nat} {L : Vers} {nx : Int} (g : RefAt W h xp L nx) (gd : Good L) {s : SliceV} {keep : List Int} (hs : Nums W h s keep) (hn : keep.length ≤ 1000)
    {K : SliceV → Heap → Prop} (hk : ∀ s' h' (st : List Int), (∀ y, y ∈ st ↔ ∃ k ∈ keep, Up L k y) → Nums (fun b => b < h.size) h' s' ((ids L).filter fun y => !decide (y ∈ st)) → RefAt W h' xp (L.filter fun v => decide (v.1 ∈ st)) nx → Upd (· = xp) h h' → K s' h') :
    HC PG f_r20_Drop [.pointer (some ⟨xp, 0, none⟩), .slice s.a s.len s.cap] [.c .slice] K h := by
  refine H_r20_Drop (some ⟨xp, 0, none⟩) s ?_
  unfold F_r20_Drop
  have hL := gd.len
  refine LoopP.ghost (fun (gh : Nat × List Int) (t : SliceV × Int) h' => t.2 = (gh.1 : Int) ∧ gh.1 ≤ keep.length ∧ Upd No h h' ∧ OwnS u32 1 t_u32 (fun b => h.size ≤ b) h' t.1 gh.2 ∧ (∀ y, y ∈ gh.2 ↔ ∃ k ∈ keep.take gh.1, Up L k y) ∧ gh.2.length ≤ gh.1 * 100000) (fun gh => keep.length - gh.1) (0, [])
    ⟨rfl, Nat.zero_le _, Upd.refl _ _, OwnS.nil u32_ne, fun y => by simp, Nat.zero_le _⟩ ?_
  rintro I ⟨i, st⟩ ⟨so, t⟩ h' ⟨ht, hi, hu, ho, hin, hlen⟩ hI
  simp only at ht hi ho hin hlen
  subst ht
  have hs1 : Nums W h' s keep := hs.upd hu fun _ h => h.elim
  refine condP_dec (fun hlt => ?_) fun hge => ?_
  · rw [hs.len] at hlt
    have hlt : i < keep.length := by omega
    obtain ⟨a, ha, _, hx⟩ := Nums.at hs1 hlt
    refine Join.plain ⟨by rw [hs.len]; omega, a, ha, _, hx, xAbove_ok (g.upd0 hu) gd _ fun s1 h1 xs hx1 hx2 hs2 hu1 => ?_⟩
    have hxl : xs.length ≤ L.length := by
      have := subset_len (hx1.imp fun h => Int.ne_of_lt h) (l' := ids L) fun y hy => ((hx2 y).1 hy).right
      simpa using this
    refine ⟨_, hs2.srow, ?_⟩
    refine AppP.own (ys := xs) (ho.upd hu1 fun _ _ h => h) hs2.len rfl (oneCell_nums xs) rfl (by omega) (by omega) (Nat.le_trans hu.size hu1.size) fun s2 h2 ho2 hu2 => ?_
    simp only
    rw [wrap_succ hlt (by omega)]
    refine hI (i + 1, st ++ xs) _ _ ⟨rfl, hlt, (hu.tr hu1).trans hu2 fun b hb => .inr hb, ho2, fun y => ?_, ?_⟩ (by simp only; omega)
    · simp only
      rw [List.mem_append, hin, hx2, List.take_succ_eq_append_getElem hlt]
      constructor
      · rintro (⟨k, hk, hu⟩ | hu)
        · exact ⟨k, List.mem_append_left _ hk, hu⟩
        · exact ⟨_, List.mem_append_right _ (List.mem_singleton.2 rfl), hu⟩
      · rintro ⟨k, hk, hu⟩
        rcases List.mem_append.1 hk with hk | hk
        · exact .inl ⟨k, hk, hu⟩
        · rw [List.mem_singleton.1 hk] at hu; exact .inr hu
    · simp only [List.length_append]
      rw [Nat.succ_mul]; omega
  · rw [hs.len] at hge
    rw [List.take_of_length_le (by omega)] at hin
    have g1 := g.upd0 hu
    obtain ⟨s0, t0, Ls, h1, h2, h3, hcap⟩ := g1.blk
    have hl := h3.len
    refine ⟨_, rfl, s0, by rw [adr_mk, hcell_blk h1]; rfl, ?_⟩
    have hst : Nums No h' so st := ho.sl fun _ _ _ h => h
    have hstl : st.length ≤ 4611686018427387904 := by omega
    refine LoopP.ghost (fun (gh : Nat × (Nat → Prop) × (Nat → Prop)) (t : SliceV × SliceV × Int) h2' => t.2.2 = (gh.1 : Int) ∧ gh.1 ≤ L.length ∧ Upd No h' h2' ∧ OwnS u32 1 t_u32 gh.2.1 h2' t.1 (((ids L).take gh.1).filter fun y => !decide (y ∈ st)) ∧
        OwnS vf 2 t_r20_Version gh.2.2 h2' t.2.1 ((Ls.take gh.1).filter fun v => decide (v.1 ∈ st)) ∧ (∀ b, gh.2.1 b → ¬ gh.2.2 b) ∧ (∀ b, gh.2.1 b ∨ gh.2.2 b → h'.size ≤ b ∧ b < h2'.size)) (fun gh => L.length - gh.1) (0, No, No)
      ⟨rfl, Nat.zero_le _, Upd.refl _ _, OwnS.nil u32_ne, OwnS.nil vf_ne, fun _ h => h.elim, fun _ h => h.elim (fun h => h.elim) fun h => h.elim⟩ ?_
    rintro I2 ⟨j, A, B⟩ ⟨out, left, t⟩ h2' ⟨ht, hj, hu2, hoo, hol, hab, hbd⟩ hI2
    simp only at ht hj hoo hol hab hbd
    subst ht
    have h2'' := h2.upd hu2 fun _ h => h.elim
    refine condP_dec (fun hlt => ?_) fun hge2 => ?_
    · have hlt : (j : Int) < (s0.len : Int) := hlt
      rw [h2.len, hl] at hlt
      have hlt : j < L.length := by omega
      obtain ⟨a, ha, c0, c1⟩ := verVar h2'' (hl ▸ hlt)
      obtain ⟨e1, e2⟩ := h3.get (hl ▸ hlt) hlt
      obtain ⟨q1, q2, q3⟩ := setVar h2' t_r20_Version (.int .u32 0) (.slice none 0 0) (Ls[j]'(hl ▸ hlt))
      refine Join.plain ⟨by show (0 : Int) ≤ (j : Int) ∧ (j : Int) < (s0.len : Int); rw [h2.len, hl]; omega, a, ha, _, c0, _, c1, q1, _, hcell_newA q2 0, has_ok ((hst.upd hu2 fun _ h => h.elim).upd q3 fun _ h => h.elim) hstl _ (condP_dec (fun hm => ?_) fun hm => ?_)⟩
      · refine ⟨_, hcell_newA q2 0, Ls[j].2, hcell_newA q2 1, ?_⟩
        refine append1v (M := fun b => B b ∨ Array.size h2' + 1 ≤ b) (v := Ls[j]) ((hol.upd q3 fun _ _ h => h).more fun b hb => .inl hb) (fun b hb => .inr (Nat.le_trans (get_lt q2) hb)) ?_ fun s5 h5 ho5 hu5 => ?_
        · have := List.length_filter_le (fun v : Int × SliceV => decide (v.1 ∈ st)) (Ls.take j); simp at this; omega
        · simp only
          rw [wrap_succ hlt (by omega)]
          refine hI2 (j + 1, A, fun b => (B b ∨ Array.size h2' + 1 ≤ b) ∧ b < h5.size) _ _ ⟨rfl, hlt, ?_, ?_, ?_, ?_, ?_⟩ (by simp only; omega)
          · exact (hu2.tr q3).trans hu5 fun b hb => .inr (hb.elim (fun hb => (hbd b (.inr hb)).1) fun hb => by have := hu2.size; omega)
          · simp only
            rw [List.take_succ_eq_append_getElem (by simpa using hlt), List.filter_append, List.filter_cons, List.getElem_map, if_neg (by rw [e1] at hm; simpa using hm), List.filter_nil, List.append_nil]
            exact (hoo.upd q3 fun _ _ h => h).upd hu5 fun b hb => fun h => h.elim (hab b hb) fun h => by have := (hbd b (.inl hb)).2; omega
          · simp only
            rw [List.take_succ_eq_append_getElem (hl ▸ hlt), List.filter_append, List.filter_cons, if_pos (decide_eq_true hm)]
            exact ho5.within
          · intro b hb hb2
            rcases hb2.1 with h6 | h6
            · exact hab b hb h6
            · have := (hbd b (.inl hb)).2; omega
          · intro b hb
            have hs5 := (q3.wide.tr hu5).size
            rcases hb with hb | ⟨hb | hb, hb3⟩
            · have := hbd b (.inl hb); show h'.size ≤ b ∧ b < h5.size; omega
            · have := hbd b (.inr hb); show h'.size ≤ b ∧ b < h5.size; omega
            · have := hu2.size; show h'.size ≤ b ∧ b < h5.size; omega
      · refine ⟨_, hcell_newA q2 0, ?_⟩
        refine append1 (M := fun b => A b ∨ Array.size h2' + 1 ≤ b) ((hoo.upd q3 fun _ _ h => h).more fun b hb => .inl hb) (fun b hb => .inr (Nat.le_trans (get_lt q2) hb)) ?_ fun s5 h5 ho5 hu5 => ?_
        · have := List.length_filter_le (fun y => !decide (y ∈ st)) ((ids L).take j); simp at this; omega
        · simp only
          rw [wrap_succ hlt (by omega)]
          refine hI2 (j + 1, (fun b => (A b ∨ Array.size h2' + 1 ≤ b) ∧ b < h5.size), B) _ _ ⟨rfl, hlt, ?_, ?_, ?_, ?_, ?_⟩ (by simp only; omega)
          · exact (hu2.tr q3).trans hu5 fun b hb => .inr (hb.elim (fun hb => (hbd b (.inl hb)).1) fun hb => by have := hu2.size; omega)
          · simp only
            rw [List.take_succ_eq_append_getElem (by simpa using hlt), List.filter_append, List.filter_cons, List.getElem_map, if_pos (by rw [e1] at hm; simpa using hm), ← e1]
            exact ho5.within
          · simp only
            rw [List.take_succ_eq_append_getElem (hl ▸ hlt), List.filter_append, List.filter_cons, if_neg (by simpa using hm), List.filter_nil, List.append_nil]
            exact (hol.upd q3 fun _ _ h => h).upd hu5 fun b hb => fun h => h.elim (fun h => hab b h hb) fun h => by have := (hbd b (.inr hb)).2; omega
          · intro b hb hb2
            rcases hb.1 with h6 | h6
            · exact hab b h6 hb2
            · have := (hbd b (.inr hb2)).2; omega
          · intro b hb
            have hs5 := (q3.wide.tr hu5).size
            rcases hb with ⟨hb | hb, hb3⟩ | hb
            · have := hbd b (.inl hb); show h'.size ≤ b ∧ b < h5.size; omega
            · have := hu2.size; show h'.size ≤ b ∧ b < h5.size; omega
            · have := hbd b (.inr hb); show h'.size ≤ b ∧ b < h5.size; omega
    · have hge2 : ¬ (j : Int) < (s0.len : Int) := hge2
      rw [h2.len, hl] at hge2
      have hjl : j = L.length := by omega
      rw [List.take_of_length_le (by simp; omega)] at hoo
      rw [List.take_of_length_le (by omega)] at hol
      have hu02 := hu.tr hu2
      have b2 := hu2.get0 h1
      have e0 : adr ⟨xp, 0, none⟩ 0 = ⟨xp, 0, none⟩ := rfl
      have k8 : Upd (· = xp) h2' (hset h2' ⟨xp, 0, none⟩ (.slice left.a left.len left.cap)) := Upd.hset _ _ rfl
      have hxl : xp < h.size := g.lt _ g.wp
      refine ⟨_, rfl, by rw [e0]; exact wr_blk b2 (by simp), ?_⟩
      rw [e0]
      refine hk out _ st hin ?_ ?_ (hu02.wide.tr k8)
      · refine (hoo.sl (W := fun b => b < h.size) fun b hb _ hw => ?_).upd k8 fun b hb => .inl (by omega)
        have := (hbd b (.inl hb)).1
        have := hu.size
        omega
      · refine ⟨⟨left, t0, (Ls.filter fun v => decide (v.1 ∈ st)), ?_, ?_, ?_, hol.cap⟩, g.wp, fun b hb => Nat.lt_of_lt_of_le (g.lt b hb) (hu02.wide.tr k8).size⟩
        · rw [hset_blk b2, set_get b2]; rfl
        · refine (hol.sl (W := W) fun b hb _ hw => ?_).upd k8 fun b hb => .inl (hb ▸ g.wp)
          have := (hbd b (.inr hb)).1
          have := g.lt b hw
          have := hu.size
          omega
        · exact Par.upd k8 (fun b hb => .inl (hb ▸ g.wp)) (Par.filter (fun y => decide (y ∈ st)) (Par.upd hu2 (fun _ h => h.elim) h3))
end Go.Proofs
