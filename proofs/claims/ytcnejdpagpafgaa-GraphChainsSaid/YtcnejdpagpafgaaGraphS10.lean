/- A part of the proof that the named laws of this program answer true, whatever the input. -/
import Derived.Test.YtcnejdpagpafgaaGraphS9
namespace Go.Proofs
open Go.Lift
theorem max_of : ∀ {xs : List Int}, xs ≠ [] → ∃ m ∈ xs, ∀ x ∈ xs, x ≤ m
  | [], h => absurd rfl h
  | [x], _ => ⟨x, List.mem_singleton.2 rfl, fun y hy => by rw [List.mem_singleton.1 hy]; exact Int.le_refl _⟩
  | x :: y :: xs, _ => by
    obtain ⟨m, hm, hle⟩ := max_of (xs := y :: xs) (by simp)
    by_cases h : x ≤ m
    · exact ⟨m, List.mem_cons_of_mem _ hm, fun z hz => by rcases List.mem_cons.1 hz with rfl | hz; exact h; exact hle z hz⟩
    · exact ⟨x, List.mem_cons_self .., fun z hz => by
        rcases List.mem_cons.1 hz with rfl | hz
        · exact Int.le_refl _
        · have := hle z hz; omega⟩
/-- One more number behind one's own. -/
theorem append1 {M : Nat → Prop} {h : Heap} {so : SliceV} {out : List Int} {x : Int} {K : SliceV → Heap → Prop} (ho : OwnS u32 1 t_u32 M h so out) (hM : ∀ b, h.size ≤ b → M b) (hn : out.length ≤ 1000000000)
    (hk : ∀ s' h', OwnS u32 1 t_u32 M h' s' (out ++ [x]) → Upd M h h' → K s' h') :
    ∃ xs, SRow (hnew h [.int .u32 x] t_u32) (some (newA h)) (1 * 1) xs ∧ AppP (some [.int .u32 0]) 1 4 t_u32 so.a so.len so.cap 1 xs (hnew h [.int .u32 x] t_u32) K := by
  have k := Upd.hnew No h [.int .u32 x] t_u32
  refine ⟨_, ((single (M := fun _ => True) h x trivial).sl (W := No) fun _ _ _ h => h).srow, ?_⟩
  refine AppP.own (ys := [x]) (ho.upd k fun _ _ h => h) rfl rfl rfl rfl (by omega) (by simp only [List.length_singleton]; omega) (hM _ (by rw [hnew_size]; omega)) fun s' h' ho' hu => ?_
  exact hk s' h' ho' ((Upd.hnew M h _ _).tr hu)
theorem xMeet_ok {W : Nat → Prop} {h : Heap} {xp : Nat} {L : Vers} {nx : Int} (g : RefAt W h xp L nx) (gd : Good L) (a b : Int)
    {K : Int × Bool → Heap → Prop} (hk : ∀ best h', (∀ c, Up L a c → Up L b c → c ≤ best) → (best = 0 ∨ Up L a best ∧ Up L b best) → 0 ≤ best → Upd No h h' → K (best, decide (best > 0)) h') :
    HC PG f_r20_Meet [.pointer (some ⟨xp, 0, none⟩), .int .u32 a, .int .u32 b] [.c (.int .u32), .c .bool] K h := by
  refine H_r20_Meet (some ⟨xp, 0, none⟩) a b ?_
  unfold F_r20_Meet
  have hL := gd.len
  refine xAbove_ok g gd a fun s1 h1 xs hx1 hx2 hs1 hu1 => ?_
  refine xAbove_ok (g.upd0 hu1) gd b fun s2 h2 ys hy1 hy2 hs2 hu2 => ?_
  have hs1' := (hs1.less (W' := No) fun _ h => h.elim).upd hu2 fun _ h => h.elim
  have hs2' := hs2.less (W' := No) fun _ h => h.elim
  have hxl : xs.length ≤ L.length := by
    have := subset_len (hx1.imp fun h => Int.ne_of_lt h) (l' := ids L) fun y hy => ((hx2 y).1 hy).right
    simpa using this
  have hyl : ys.length ≤ L.length := by
    have := subset_len (hy1.imp fun h => Int.ne_of_lt h) (l' := ids L) fun y hy => ((hy2 y).1 hy).right
    simpa using this
  have hu02 := hu1.tr hu2
  -- both
  refine LoopP.ghost (fun (i : Nat) (t : SliceV × Int) h' => t.2 = (i : Int) ∧ i ≤ xs.length ∧ Upd No h2 h' ∧ OwnS u32 1 t_u32 (fun b => h2.size ≤ b) h' t.1 ((xs.take i).filter fun x => decide (x ∈ ys))) (fun i => xs.length - i) 0
    ⟨rfl, Nat.zero_le _, Upd.refl _ _, OwnS.nil u32_ne⟩ ?_
  rintro I i ⟨so, t⟩ h' ⟨ht, hi, hu, ho⟩ hI
  simp only at ht ho
  subst ht
  refine condP_dec (fun hlt => ?_) fun hge => ?_
  · rw [hs1.len] at hlt
    have hlt : i < xs.length := by omega
    obtain ⟨a1, ha1, _, hx⟩ := Nums.at (hs1'.upd hu fun _ h => h.elim) hlt
    refine Join.plain ⟨by rw [hs1.len]; omega, a1, ha1, _, hx, has_ok (hs2'.upd hu fun _ h => h.elim) (by omega) _ (condP_dec (fun hm => ?_) fun hm => ?_)⟩
    · refine append1 ho (fun b hb => Nat.le_trans hu.size hb) (by have := List.length_filter_le (fun x => decide (x ∈ ys)) (xs.take i); simp at this; omega) fun s' h3 ho3 hu3 => ?_
      simp only
      rw [wrap_succ hlt (by omega)]
      refine hI (i + 1) _ _ ⟨rfl, hlt, hu.trans hu3 fun b hb => .inr hb, ?_⟩ (by omega)
      rw [List.take_succ_eq_append_getElem hlt, List.filter_append, List.filter_cons, if_pos (decide_eq_true hm)]
      exact ho3
    · simp only
      rw [wrap_succ hlt (by omega)]
      refine hI (i + 1) _ _ ⟨rfl, hlt, hu, ?_⟩ (by omega)
      rw [List.take_succ_eq_append_getElem hlt, List.filter_append, List.filter_cons, if_neg (by simpa using hm)]
      simpa using ho
  · rw [hs1.len] at hge
    have : i = xs.length := by omega
    rw [List.take_of_length_le (by omega)] at ho
    have hbm : ∀ y, y ∈ (xs.filter fun x => decide (x ∈ ys)) ↔ Up L a y ∧ Up L b y := fun y => by
      rw [List.mem_filter, decide_eq_true_iff, hx2, hy2]
    have hbl : (xs.filter fun x => decide (x ∈ ys)).length ≤ L.length := Nat.le_trans (List.length_filter_le ..) hxl
    have hs' : Nums No h' so (xs.filter fun x => decide (x ∈ ys)) := ho.sl fun _ _ _ h => h
    generalize hbo : (xs.filter fun x => decide (x ∈ ys)) = both at hs' hbm hbl
    have g2 := g.upd0 hu02
    have g3 := g2.upd0 hu
    -- the greatest of the lowest
    refine LoopP.ghost (fun (i : Nat) (t : Int × Int) h2' => t.2 = (i : Int) ∧ i ≤ both.length ∧ Upd No h' h2' ∧ 0 ≤ t.1 ∧ (t.1 = 0 ∨ t.1 ∈ both) ∧ ∀ x ∈ both.take i, (∀ y ∈ both, y ≤ x) → x ≤ t.1) (fun i => both.length - i) 0
      ⟨rfl, Nat.zero_le _, Upd.refl _ _, Int.le_refl _, .inl rfl, fun x hx => by simp at hx⟩ ?_
    rintro I2 j ⟨best, t⟩ h3 ⟨ht, hj, hu3, hb0, hbb, hmx⟩ hI2
    simp only at ht hb0 hbb hmx
    subst ht
    have hs3 := hs'.upd hu3 fun _ h => h.elim
    refine condP_dec (fun hlt => ?_) fun hge => ?_
    · rw [hs'.len] at hlt
      have hlt : j < both.length := by omega
      obtain ⟨a1, ha1, _, hx⟩ := Nums.at hs3 hlt
      refine Join.plain ⟨by rw [hs'.len]; omega, a1, ha1, _, hx, ?_⟩
      refine LoopP.ghost (fun (i : Nat) (t : Bool × Int) h4 => t.2 = (i : Int) ∧ i ≤ both.length ∧ Upd No h3 h4 ∧ (t.1 = false → ∃ y ∈ both, both[j] < y)) (fun i => both.length - i) 0
        ⟨rfl, Nat.zero_le _, Upd.refl _ _, fun e => by cases e⟩ ?_
      rintro I3 k ⟨low, t⟩ h4 ⟨ht, hkl, hu4, hlow⟩ hI3
      simp only at ht hlow
      subst ht
      have hs4 := hs3.upd hu4 fun _ h => h.elim
      refine condP_dec (fun hlt2 => ?_) fun hge2 => ?_
      · rw [hs'.len] at hlt2
        have hlt2 : k < both.length := by omega
        obtain ⟨a2, ha2, _, hx'⟩ := Nums.at hs4 hlt2
        refine Join.plain ⟨by rw [hs'.len]; omega, a2, ha2, _, hx', ?_⟩
        refine Join.intro (fun t h5 => Upd No h4 h5 ∧ (t = true → both[j] < both[k])) (fun R hR => ?_) ?_
        · refine CondP.intro (fun hne => ?_) fun _ => hR _ _ ⟨Upd.refl _ _, fun e => by cases e⟩
          have hne : both[k] ≠ both[j] := by simpa using hne
          refine xAbove_ok ((g3.upd0 hu3).upd0 hu4) gd both[k] fun s5 h5 zs hz1 hz2 hs5 hu5 => ?_
          have hzl : zs.length ≤ L.length := by
            have := subset_len (hz1.imp fun h => Int.ne_of_lt h) (l' := ids L) fun y hy => ((hz2 y).1 hy).right
            simpa using this
          refine has_ok hs5 (by omega) _ (hR _ _ ⟨hu5, fun e => ?_⟩)
          have := (hz2 _).1 (of_decide_eq_true e)
          have := Up.le gd this
          omega
        · rintro t h5 ⟨hu5, hlt5⟩
          refine CondP.intro (fun e => ?_) fun e => ?_
          · simp only
            rw [wrap_succ hlt2 (by omega)]
            exact hI3 (k + 1) _ _ ⟨rfl, hlt2, hu4.tr hu5, fun _ => ⟨_, List.getElem_mem hlt2, hlt5 e⟩⟩ (by omega)
          · simp only
            rw [wrap_succ hlt2 (by omega)]
            exact hI3 (k + 1) _ _ ⟨rfl, hlt2, hu4.tr hu5, hlow⟩ (by omega)
      · have step : ∀ best' : Int, (best' = best ∨ best' = both[j]) → best ≤ best' → ((∀ y ∈ both, y ≤ both[j]) → both[j] ≤ best') → I2 (best', IntKind.wrap .i64 ((j : Int) + 1)) h4 := fun best' h1 h2 h3' => by
          rw [wrap_succ hlt (by omega)]
          refine hI2 (j + 1) _ _ ⟨rfl, hlt, hu3.tr hu4, by simp only; omega, ?_, fun x hx hmax => ?_⟩ (by omega)
          · rcases h1 with rfl | rfl
            · exact hbb
            · exact .inr (List.getElem_mem hlt)
          · rw [List.take_succ_eq_append_getElem hlt] at hx
            rcases List.mem_append.1 hx with hx | hx
            · have := hmx x hx hmax; simp only; omega
            · rw [List.mem_singleton.1 hx] at hmax ⊢; exact h3' hmax
        refine Join.intro (fun t h5 => h5 = h4 ∧ (t = true → low = true ∧ both[j] > best) ∧ (t = false → low = true → ¬ both[j] > best)) (fun R hR => ?_) ?_
        · refine CondP.intro (fun e => hR _ _ ⟨rfl, fun e2 => ⟨e, of_decide_eq_true e2⟩, fun e2 _ => of_decide_eq_false e2⟩) fun e => hR _ _ ⟨rfl, fun e2 => (by cases e2), fun _ e2 => (by have e : low = false := e; rw [e] at e2; cases e2)⟩
        · rintro t h5 ⟨rfl, q1, q2⟩
          refine CondP.intro (fun e => ?_) fun e => ?_
          · obtain ⟨_, hgt⟩ := q1 e
            exact step _ (.inr rfl) (by omega) fun _ => Int.le_refl _
          · refine step _ (.inl rfl) (Int.le_refl _) fun hmax => ?_
            cases hl : low with
            | true => have := q2 e hl; omega
            | false =>
              obtain ⟨y, hy, hlt5⟩ := hlow hl
              have := hmax y hy; omega
    · rw [hs'.len] at hge
      have : j = both.length := by omega
      rw [List.take_of_length_le (by omega)] at hmx
      refine hk best h3 (fun c q1 q2 => ?_) (hbb.imp (fun h => h) fun hb => (hbm _).1 hb) hb0 ((hu02.tr hu).tr hu3)
      have hc := (hbm c).2 ⟨q1, q2⟩
      obtain ⟨m, hm, hle⟩ := max_of (xs := both) (List.ne_nil_of_mem hc)
      exact Int.le_trans (hle c hc) (hmx m hm hle)
end Go.Proofs
