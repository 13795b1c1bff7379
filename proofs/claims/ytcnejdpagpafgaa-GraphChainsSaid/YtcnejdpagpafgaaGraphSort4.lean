/- A part of the proof that the named laws of this program answer true, whatever the input. -/
import Derived.Test.YtcnejdpagpafgaaGraphSort3
namespace Go.Proofs
open Go.Lift Go.Sort
variable {s : SliceV} {b : Nat} {rest : List Value} {h : Heap} {d : Array Int}
@[simp] theorem shiftDown_size (lt : Int → Int → Bool) : ∀ (j : Nat) (d : Array Int), (shiftDown lt j d).size = d.size
  | 0, d => rfl
  | j + 1, d => by rw [shiftDown]; split; rfl; rw [shiftDown_size lt j]; simp
@[simp] theorem shiftUp_size (lt : Int → Int → Bool) (e j : Nat) (d : Array Int) : (shiftUp lt e j d).size = d.size := by
  fun_induction shiftUp lt e j d <;> simp_all
theorem partialIns_ok {a e : Nat} (hs : SA s b rest h d) (ha : a < e) (he : e ≤ d.size) {K : Bool → Heap → Prop} (hk : ∀ h', SA s b rest h' (partialInsertionSort ltInt d a e).1 → Upd (· = b) h h' → K (partialInsertionSort ltInt d a e).2 h') :
    HC PG f_slices_partialInsertionSortOrdered_u32 [.slice s.a s.len s.cap, .int .i64 a, .int .i64 e] [.c .bool] K h := by
  refine H_slices_partialInsertionSortOrdered_u32 s a e ?_
  unfold F_slices_partialInsertionSortOrdered_u32
  have hsm := hs.small
  refine LoopP.ghost (fun (g : Nat × Nat × Array Int) (t : Int × Int) h' => t.1 = (g.2.1 : Int) ∧ t.2 = 5 - (g.1 : Int) ∧ SA s b rest h' g.2.2 ∧ g.2.2.size = d.size ∧ partialIns ltInt a e g.1 g.2.1 g.2.2 = partialInsertionSort ltInt d a e ∧ Upd (· = b) h h' ∧ g.1 ≤ 5 ∧ a < g.2.1 ∧ g.2.1 ≤ e) (fun g => g.1) (5, a + 1, d)
    ⟨by simp only; rw [w64 (by omega)]; rfl, by simp only; omega, hs, rfl, rfl, Upd.refl _ _, by simp, by simp, by simp only; omega⟩ ?_
  rintro I ⟨st, i0, d1⟩ ⟨t1, t2⟩ h1 ⟨ht1, ht2, hs1, hz1, hr1, hu1, hst, hai, hie⟩ hI
  simp only at ht1 ht2 hs1 hz1 hr1 hst hai hie
  subst ht1 ht2
  refine condP_dec (fun hlt => ?_) fun hge => ?_
  · obtain ⟨st, rfl⟩ : ∃ k, st = k + 1 := ⟨st - 1, by have : 5 - (st : Int) < 5 := hlt; omega⟩
    refine Join.intro (fun t h' => ∃ i2 d2, t = (i2 : Nat) ∧ SA s b rest h' d2 ∧ d2.size = d.size ∧ partialIns ltInt a e st i2 d2 = partialInsertionSort ltInt d a e ∧ Upd (· = b) h h' ∧ a < i2 ∧ i2 ≤ e) (fun R hR => ?_) ?_
    · refine LoopP.ghost (fun (i : Nat) (t : Int) h' => t = (i : Int) ∧ h' = h1 ∧ scanSorted ltInt d1 e i = scanSorted ltInt d1 e i0 ∧ a < i ∧ i ≤ e) (fun i => e - i) i0 ⟨rfl, rfl, rfl, hai, hie⟩ ?_
      rintro I2 i t h' ⟨rfl, rfl, hsc, hai2, hie2⟩ hI2
      refine Join.intro (fun c h'' => h'' = h' ∧ (c = true ↔ i < e ∧ ltInt d1[i]! d1[i - 1]! = false)) (fun R2 hR2 => ?_) ?_
      · refine condP_dec (fun hle => ?_) fun hgt => hR2 _ _ ⟨rfl, by simp; omega⟩
        refine hs1.less (i := i) (j := i - 1) rfl (by rw [w64 (by omega)]; omega) (by omega) (by omega) (hR2 _ _ ⟨rfl, by simp; omega⟩)
      · rintro c h'' ⟨rfl, hc⟩
        refine CondP.intro (fun h2 => ?_) fun h2 => ?_
        · have hh := hc.1 h2
          refine hI2 (i + 1) _ _ ⟨by rw [w64 (by omega)]; rfl, rfl, ?_, by omega, by omega⟩ (by omega)
          rw [← hsc]
          conv => rhs; rw [scanSorted]
          rw [if_pos (by simp [hh])]
        · have hsi : scanSorted ltInt d1 e i = i := by
            rw [scanSorted, if_neg]
            intro hh
            simp only [Bool.and_eq_true, decide_eq_true_iff, Bool.not_eq_eq_eq_not, Bool.not_true] at hh
            rw [hc.2 hh] at h2; cases h2
          have hr2 := hr1
          rw [partialIns] at hr2
          simp only [← hsc, hsi] at hr2
          refine CondP.intro (fun h3 => ?_) fun h3 => ?_
          · have h3 : i = e := by have : (i : Int) = e := by simpa using h3
                                  omega
            rw [if_pos h3] at hr2
            rw [← hr2] at hk
            exact hk _ hs1 hu1
          · have h3 : i ≠ e := fun e' => by subst e'; simp at h3
            rw [if_neg h3] at hr2
            have we : IntKind.wrap .i64 ((e : Int) - (a : Int)) = ((e - a : Nat) : Int) := by rw [w64 (by omega)]; omega
            show CondP (decide (IntKind.wrap .i64 ((e : Int) - (a : Int)) < 50)) _ _
            rw [we]
            refine condP_dec (fun h4 => ?_) fun h4 => ?_
            · rw [if_pos (by omega)] at hr2
              rw [← hr2] at hk
              exact hk _ hs1 hu1
            · rw [if_neg (by omega)] at hr2
              have hi1 : 1 ≤ i := by omega
              refine hs1.swap (i := i) (j := i - 1) rfl (by rw [w64 (by omega)]; omega) (by omega) (by omega) fun h5 hs5 hu5 => ?_
              have hz5 : (swp d1 i (i - 1)).size = d.size := by simp [hz1]
              generalize swp d1 i (i - 1) = d5 at hs5 hz5 hr2
              refine Join.intro (fun _ h' => SA s b rest h' (if i - a ≥ 2 then shiftDown ltInt (i - 1) d5 else d5) ∧ Upd (· = b) h h') (fun R3 hR3 => ?_) ?_
              · have wi : IntKind.wrap .i64 ((i : Int) - (a : Int)) = ((i - a : Nat) : Int) := by rw [w64 (by omega)]; omega
                show CondP (decide (IntKind.wrap .i64 ((i : Int) - (a : Int)) ≥ 2)) _ _
                rw [wi]
                refine condP_dec (fun h6 => ?_) fun h6 => ?_
                · rw [if_pos (by omega)] at hR3
                  refine LoopP.ghost (fun (g : Nat × Array Int) (t : Int) h' => t = (g.1 : Int) ∧ SA s b rest h' g.2 ∧ g.2.size = d.size ∧ shiftDown ltInt g.1 g.2 = shiftDown ltInt (i - 1) d5 ∧ Upd (· = b) h h' ∧ g.1 < e) (fun g => g.1) (i - 1, d5)
                    ⟨by rw [w64 (by omega)]; simp only; omega, hs5, hz5, rfl, hu1.tr hu5, by simp only; omega⟩ ?_
                  rintro I4 ⟨j, d6⟩ t h7 ⟨ht, hs7, hz7, hr7, hu7, hje⟩ hI4
                  simp only at ht hs7 hz7 hr7 hje
                  subst ht
                  refine condP_dec (fun h8 => ?_) fun h8 => ?_
                  · obtain ⟨j, rfl⟩ : ∃ k, j = k + 1 := ⟨j - 1, by omega⟩
                    have e1 : IntKind.wrap .i64 (((j + 1 : Nat) : Int) - 1) = (j : Int) := by rw [w64 (by omega)]; omega
                    rw [shiftDown] at hr7
                    refine hs7.less (i := j + 1) (j := j) rfl e1 (by omega) (by omega) (CondP.intro (fun h9 => ?_) fun h9 => ?_)
                    · rw [if_pos h9] at hr7
                      exact hR3 _ _ ⟨by rw [← hr7]; exact hs7, hu7⟩
                    · rw [if_neg (by rw [h9]; simp)] at hr7
                      refine hs7.swap (i := j + 1) (j := j) rfl e1 (by omega) (by omega) fun h10 hs10 hu10 => ?_
                      exact hI4 (j, swp d6 (j + 1) j) _ _ ⟨e1, hs10, by simp [hz7], hr7, hu7.tr hu10, by simp only; omega⟩ (by simp)
                  · have : j = 0 := by omega
                    subst this
                    exact hR3 _ _ ⟨by rw [← hr7]; exact hs7, hu7⟩
                · rw [if_neg (by omega)] at hR3
                  exact hR3 _ _ ⟨hs5, hu1.tr hu5⟩
              · rintro _ h6 ⟨hs6, hu6⟩
                have hz6 : (if i - a ≥ 2 then shiftDown ltInt (i - 1) d5 else d5).size = d.size := by split <;> simp [hz5]
                generalize (if i - a ≥ 2 then shiftDown ltInt (i - 1) d5 else d5) = d6 at hs6 hz6 hr2
                have wi : IntKind.wrap .i64 ((e : Int) - (i : Int)) = ((e - i : Nat) : Int) := by rw [w64 (by omega)]; omega
                show CondP (decide (IntKind.wrap .i64 ((e : Int) - (i : Int)) ≥ 2)) _ _
                rw [wi]
                refine condP_dec (fun h7 => ?_) fun h7 => ?_
                · rw [if_pos (by omega)] at hr2
                  refine LoopP.ghost (fun (g : Nat × Array Int) (t : Int) h' => t = (g.1 : Int) ∧ SA s b rest h' g.2 ∧ g.2.size = d.size ∧ shiftUp ltInt e g.1 g.2 = shiftUp ltInt e (i + 1) d6 ∧ Upd (· = b) h h' ∧ 1 ≤ g.1 ∧ g.1 ≤ e) (fun g => e - g.1) (i + 1, d6)
                    ⟨by rw [w64 (by omega)]; rfl, hs6, hz6, rfl, hu6, by simp, by simp only; omega⟩ ?_
                  rintro I4 ⟨j, d7⟩ t h8 ⟨ht, hs8, hz8, hr8, hu8, hj1, hje⟩ hI4
                  simp only at ht hs8 hz8 hr8 hj1 hje
                  subst ht
                  refine condP_dec (fun h9 => ?_) fun h9 => ?_
                  · have e1 : IntKind.wrap .i64 ((j : Int) - 1) = ((j - 1 : Nat) : Int) := by rw [w64 (by omega)]; omega
                    rw [shiftUp, if_pos (by omega)] at hr8
                    refine hs8.less (i := j) (j := j - 1) rfl e1 (by omega) (by omega) (CondP.intro (fun h10 => ?_) fun h10 => ?_)
                    · rw [if_pos h10] at hr8
                      exact hR _ _ ⟨i, d7, rfl, hs8, hz8, by rw [hr8]; exact hr2, hu8, hai2, hie2⟩
                    · rw [if_neg (by rw [h10]; simp)] at hr8
                      refine hs8.swap (i := j) (j := j - 1) rfl e1 (by omega) (by omega) fun h11 hs11 hu11 => ?_
                      exact hI4 (j + 1, swp d7 j (j - 1)) _ _ ⟨by rw [w64 (by omega)]; rfl, hs11, by simp [hz8], hr8, hu8.tr hu11, by simp, by simp only; omega⟩ (by simp only; omega)
                  · rw [shiftUp, if_neg (by omega)] at hr8
                    exact hR _ _ ⟨i, d7, rfl, hs8, hz8, by rw [hr8]; exact hr2, hu8, hai2, hie2⟩
                · rw [if_neg (by omega)] at hr2
                  exact hR _ _ ⟨i, d6, rfl, hs6, hz6, hr2, hu6, hai2, hie2⟩
    · rintro t h' ⟨i2, d2, rfl, hs2, hz2, hr2, hu2, hai2, hie2⟩
      exact hI (st, i2, d2) _ _ ⟨rfl, by simp only; rw [w64 (by omega)]; omega, hs2, hz2, hr2, hu2, by simp only; omega, hai2, hie2⟩ (by simp)
  · have : st = 0 := by have : ¬ 5 - (st : Int) < 5 := hge; omega
    subst this
    rw [partialIns] at hr1
    rw [← hr1] at hk
    exact hk _ hs1 hu1
/-! ### The pivot -/
theorem order2_ok {x y : Nat} (hs : SA s b rest h d) (hx : x < d.size) (hy : y < d.size) {c : Nat} {n : Int} (hc : h[c]? = some (.cells #[.int .i64 n] t_int (0, 0))) (hcb : c ≠ b) {K : Int × Int → Heap → Prop}
    (hk : ∀ h' (p q : Nat) m, (p = x ∧ q = y ∨ p = y ∧ q = x) → SA s b rest h' d → h'[c]? = some (.cells #[.int .i64 m] t_int (0, 0)) → Upd (· = c) h h' → K ((p : Int), (q : Int)) h') :
    HC PG f_slices_order2Ordered_u32 [.slice s.a s.len s.cap, .int .i64 x, .int .i64 y, .pointer (some ⟨c, 0, none⟩)] [.c (.int .i64), .c (.int .i64)] K h := by
  refine H_slices_order2Ordered_u32 s x y (some ⟨c, 0, none⟩) ?_
  unfold F_slices_order2Ordered_u32
  refine hs.less (i := y) (j := x) rfl rfl hy hx (CondP.intro (fun h1 => ?_) fun h1 => ?_)
  · refine ⟨_, rfl, n, by rw [hcell_blk hc]; rfl, _, rfl, wr_blk hc (by simp), ?_⟩
    have k : Upd (· = c) h (hset h ⟨c, 0, none⟩ (.int .i64 (IntKind.wrap .i64 (n + 1)))) := Upd.hset _ _ rfl
    refine hk _ y x (IntKind.wrap .i64 (n + 1)) (.inr ⟨rfl, rfl⟩) (hs.upd k fun e => hcb e.symm) ?_ k
    rw [hset_blk hc, set_get hc]; rfl
  · exact hk _ x y _ (.inl ⟨rfl, rfl⟩) hs hc (Upd.refl _ _)
theorem median_ok {x y z : Nat} (hs : SA s b rest h d) (hx : x < d.size) (hy : y < d.size) (hz : z < d.size) {c : Nat} {n : Int} (hc : h[c]? = some (.cells #[.int .i64 n] t_int (0, 0))) (hcb : c ≠ b) {K : Int → Heap → Prop}
    (hk : ∀ h' (p : Nat) m, (p = x ∨ p = y ∨ p = z) → SA s b rest h' d → h'[c]? = some (.cells #[.int .i64 m] t_int (0, 0)) → Upd (· = c) h h' → K (p : Int) h') :
    HC PG f_slices_medianOrdered_u32 [.slice s.a s.len s.cap, .int .i64 x, .int .i64 y, .int .i64 z, .pointer (some ⟨c, 0, none⟩)] [.c (.int .i64)] K h := by
  refine H_slices_medianOrdered_u32 s x y z (some ⟨c, 0, none⟩) ?_
  unfold F_slices_medianOrdered_u32
  refine order2_ok hs hx hy hc hcb fun h1 p1 q1 m1 e1 hs1 hc1 hu1 => ?_
  have hq1 : q1 < d.size := by omega
  have hp1 : p1 < d.size := by omega
  refine order2_ok hs1 hq1 hz hc1 hcb fun h2 p2 q2 m2 e2 hs2 hc2 hu2 => ?_
  have hp2 : p2 < d.size := by omega
  refine order2_ok hs2 hp1 hp2 hc2 hcb fun h3 p3 q3 m3 e3 hs3 hc3 hu3 => ?_
  exact hk _ q3 m3 (by omega) hs3 hc3 ((hu1.tr hu2).tr hu3)
theorem medianAdj_ok {x : Nat} (hs : SA s b rest h d) (h1 : 1 ≤ x) (hx : x + 1 < d.size) {c : Nat} {n : Int} (hc : h[c]? = some (.cells #[.int .i64 n] t_int (0, 0))) (hcb : c ≠ b) {K : Int → Heap → Prop}
    (hk : ∀ h' (p : Nat) m, (x - 1 ≤ p ∧ p ≤ x + 1) → SA s b rest h' d → h'[c]? = some (.cells #[.int .i64 m] t_int (0, 0)) → Upd (· = c) h h' → K (p : Int) h') :
    HC PG f_slices_medianAdjacentOrdered_u32 [.slice s.a s.len s.cap, .int .i64 x, .pointer (some ⟨c, 0, none⟩)] [.c (.int .i64)] K h := by
  refine H_slices_medianAdjacentOrdered_u32 s x (some ⟨c, 0, none⟩) ?_
  unfold F_slices_medianAdjacentOrdered_u32
  have hsm := hs.small
  have e1 : IntKind.wrap .i64 ((x : Int) - 1) = ((x - 1 : Nat) : Int) := by rw [w64 (by omega)]; omega
  have e2 : IntKind.wrap .i64 ((x : Int) + 1) = ((x + 1 : Nat) : Int) := by rw [w64 (by omega)]; omega
  rw [e1, e2]
  exact median_ok hs (by omega) (by omega) hx hc hcb fun h' p m hp hs' hc' hu' => hk h' p m (by omega) hs' hc' hu'
theorem choosePivot_ok {a e : Nat} (hs : SA s b rest h d) (ha : a < e) (he : e ≤ d.size) {K : Int × Int → Heap → Prop}
    (hk : ∀ h' (p : Nat) (n : Int), a ≤ p → p < e → SA s b rest h' d → Upd No h h' → K ((p : Int), n) h') :
    HC PG f_slices_choosePivotOrdered_u32 [.slice s.a s.len s.cap, .int .i64 a, .int .i64 e] [.c (.int .i64), .c (.int .i64)] K h := by
  refine H_slices_choosePivotOrdered_u32 s a e ?_
  unfold F_slices_choosePivotOrdered_u32
  have hsm := hs.small
  have k0 := Upd.hnew No h [.int .i64 0] t_int
  have hc0 := hnew_get h [.int .i64 0] t_int
  have hs0 := hs.upd k0 id
  have hbl := get_lt hs.blk
  have hcb : h.size ≠ b := by omega
  simp only [At]
  generalize hnew h [.int .i64 0] t_int = h0 at k0 hc0 hs0
  have wl : IntKind.wrap .i64 ((e : Int) - (a : Int)) = ((e - a : Nat) : Int) := by rw [w64 (by omega)]; omega
  have wq : IntKind.wrap .i64 (Int.tdiv ((e - a : Nat) : Int) 4) = (((e - a) / 4 : Nat) : Int) := by
    rw [Int.tdiv_eq_ediv_of_nonneg (by omega), w64 (by omega)]; omega
  have wm : ∀ k : Nat, k ≤ 3 → IntKind.wrap .i64 (((((e - a) / 4 : Nat) : Int)) * (k : Int)) = (((e - a) / 4 * k : Nat) : Int) := fun k hk => by
    rw [Int.natCast_mul, w64]
    have : (e - a) / 4 * k ≤ 1000000000 * 3 := Nat.mul_le_mul (by omega) hk
    have : (((e - a) / 4 * k : Nat) : Int) = (((e - a) / 4 : Nat) : Int) * (k : Int) := Int.natCast_mul ..
    omega
  have w1 := wm 1 (by omega); have w2 := wm 2 (by omega); have w3 := wm 3 (by omega)
  simp only [Int.cast_ofNat_Int] at w1 w2 w3
  simp only [Bd, wl, wq]
  have w1' : IntKind.wrap .i64 ((((e - a) / 4 : Nat) : Int) * 1) = (((e - a) / 4 * 1 : Nat) : Int) := w1
  have w2' : IntKind.wrap .i64 ((((e - a) / 4 : Nat) : Int) * 2) = (((e - a) / 4 * 2 : Nat) : Int) := w2
  have w3' : IntKind.wrap .i64 ((((e - a) / 4 : Nat) : Int) * 3) = (((e - a) / 4 * 3 : Nat) : Int) := w3
  rw [w1', w2', w3']
  have wi : ∀ k : Nat, k ≤ 3 → IntKind.wrap .i64 ((a : Int) + (((e - a) / 4 * k : Nat) : Int)) = ((a + (e - a) / 4 * k : Nat) : Int) := fun k hk => by
    have : (e - a) / 4 * k ≤ (e - a) / 4 * 3 := Nat.mul_le_mul_left _ hk
    rw [w64 (by omega)]; omega
  refine ⟨by decide, by decide, by decide, ?_⟩
  refine Join.intro (fun t h' => ∃ p : Nat, t = (p : Int) ∧ a ≤ p ∧ p < e ∧ SA s b rest h' d ∧ Upd No h h' ∧ ∃ m, h'[h.size]? = some (.cells #[.int .i64 m] t_int (0, 0))) (fun R hR => ?_) ?_
  · rw [wi 1 (by omega), wi 2 (by omega), wi 3 (by omega)]
    refine condP_dec (fun h8 => ?_) fun h8 => ?_
    · have h8 : 8 ≤ e - a := by omega
      refine Join.intro (fun t h' => ∃ p q r : Nat, t = ((p : Int), (q : Int), (r : Int)) ∧ (a ≤ p ∧ p < e) ∧ (a ≤ q ∧ q < e) ∧ (a ≤ r ∧ r < e) ∧ SA s b rest h' d ∧ Upd No h h' ∧ ∃ m, h'[h.size]? = some (.cells #[.int .i64 m] t_int (0, 0))) (fun R2 hR2 => ?_) ?_
      · refine condP_dec (fun h50 => ?_) fun h50 => ?_
        · have h50 : 50 ≤ e - a := by omega
          refine medianAdj_ok hs0 (by omega) (by omega) hc0 hcb fun h1 p1 m1 e1 hs1 hc1 hu1 => ?_
          refine medianAdj_ok hs1 (by omega) (by omega) hc1 hcb fun h2 p2 m2 e2 hs2 hc2 hu2 => ?_
          refine medianAdj_ok hs2 (by omega) (by omega) hc2 hcb fun h3 p3 m3 e3 hs3 hc3 hu3 => ?_
          exact hR2 _ _ ⟨p1, p2, p3, rfl, by omega, by omega, by omega, hs3, k0.trans ((hu1.tr hu2).tr hu3) fun b hb => .inr (Nat.le_of_eq hb.symm), _, hc3⟩
        · exact hR2 _ _ ⟨_, _, _, rfl, by omega, by omega, by omega, hs0, k0, _, hc0⟩
      · rintro t h1 ⟨p, q, r, rfl, hp, hq, hr, hs1, hu1, m, hc1⟩
        refine median_ok hs1 (by omega) (by omega) (by omega) hc1 hcb fun h2 p2 m2 e2 hs2 hc2 hu2 => ?_
        exact hR _ _ ⟨p2, rfl, by omega, by omega, hs2, hu1.trans hu2 fun b hb => .inr (Nat.le_of_eq hb.symm), _, hc2⟩
    · exact hR _ _ ⟨_, rfl, by omega, by omega, hs0, k0, _, hc0⟩
  · rintro t h1 ⟨p, rfl, hp1, hp2, hs1, hu1, m, hc1⟩
    refine ⟨m, by rw [newA_eq, hcell_blk hc1]; rfl, CondP.intro (fun _ => hk _ p _ hp1 hp2 hs1 hu1) fun _ => CondP.intro (fun _ => hk _ p _ hp1 hp2 hs1 hu1) fun _ => hk _ p _ hp1 hp2 hs1 hu1⟩
end Go.Proofs
