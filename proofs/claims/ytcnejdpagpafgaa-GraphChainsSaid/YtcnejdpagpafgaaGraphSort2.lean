/- A part of the proof that the named laws of this program answer true, whatever the input. -/
import Derived.Test.YtcnejdpagpafgaaGraphSort1
namespace Go.Proofs
open Go.Lift Go.Sort
variable {s : SliceV} {b : Nat} {rest : List Value} {h : Heap} {d : Array Int}
@[simp] theorem siftDown_size (lt : Int → Int → Bool) (hi first root : Nat) (d : Array Int) : (siftDown lt hi first root d).size = d.size := by
  fun_induction siftDown lt hi first root d <;> simp_all
@[simp] theorem heapBuild_size (lt : Int → Int → Bool) (hi first : Nat) : ∀ (k : Nat) (d : Array Int), (heapBuild lt hi first k d).size = d.size
  | 0, d => rfl
  | k + 1, d => by rw [heapBuild, heapBuild_size lt hi first k]; simp
theorem siftDown_ok {root hi first : Nat} (hs : SA s b rest h d) (hb : first + hi ≤ d.size) {K : Unit → Heap → Prop} (hk : ∀ h', SA s b rest h' (siftDown ltInt hi first root d) → Upd (· = b) h h' → K () h') (hr : root ≤ 1000000000) :
    HC PG f_slices_siftDownOrdered_u32 [.slice s.a s.len s.cap, .int .i64 root, .int .i64 hi, .int .i64 first] [] K h := by
  refine H_slices_siftDownOrdered_u32 s root hi first ?_
  unfold F_slices_siftDownOrdered_u32
  have hsm := hs.small
  refine LoopP.ghost (fun (g : Nat × Array Int) (t : Int) h' => t = (g.1 : Int) ∧ SA s b rest h' g.2 ∧ g.2.size = d.size ∧ siftDown ltInt hi first g.1 g.2 = siftDown ltInt hi first root d ∧ Upd (· = b) h h' ∧ g.1 ≤ 1000000000) (fun g => hi - g.1) (root, d)
    ⟨rfl, hs, rfl, rfl, Upd.refl _ _, hr⟩ ?_
  rintro I ⟨i, d1⟩ t h1 ⟨ht, hs1, hz1, hr1, hu1, hi1⟩ hI
  simp only at ht hs1 hz1 hr1 hi1
  subst ht
  have w1 : IntKind.wrap .i64 (IntKind.wrap .i64 (2 * (i : Int)) + 1) = ((2 * i + 1 : Nat) : Int) := by rw [w64 (x := 2 * (i : Int)) (by omega), w64 (by omega)]; omega
  have w2 : IntKind.wrap .i64 (((2 * i + 1 : Nat) : Int) + 1) = ((2 * i + 2 : Nat) : Int) := by rw [w64 (by omega)]; omega
  rw [w1]
  refine condP_dec (fun hge => ?_) fun hlt => ?_
  · refine hk _ ?_ hu1
    rw [← hr1, siftDown, dif_pos (by omega)]; exact hs1
  · have hlt : 2 * i + 1 < hi := by omega
    refine Join.intro (fun t h' => h' = h1 ∧ ∃ c : Nat, t = (c : Int) ∧ c = if 2 * i + 2 < hi ∧ ltInt d1[first + (2 * i + 1)]! d1[first + (2 * i + 1) + 1]! = true then 2 * i + 2 else 2 * i + 1) (fun R hR => ?_) ?_
    · refine Join.intro (fun t h' => h' = h1 ∧ (t = true ↔ 2 * i + 2 < hi ∧ ltInt d1[first + (2 * i + 1)]! d1[first + (2 * i + 1) + 1]! = true)) (fun R2 hR2 => ?_) ?_
      · show CondP (decide (IntKind.wrap .i64 (((2 * i + 1 : Nat) : Int) + 1) < (hi : Int))) _ _
        rw [w2]
        refine condP_dec (fun h3 => ?_) fun h3 => hR2 _ _ ⟨rfl, by simp; omega⟩
        show (((0 : Int) ≤ IntKind.wrap .i64 ((first : Int) + ((2 * i + 1 : Nat) : Int)) ∧ _) ∧ _)
        refine hs1.less (i := first + (2 * i + 1)) (j := first + (2 * i + 1) + 1) (by rw [w64 (by omega)]; omega) (by rw [w64 (x := (first : Int) + _) (by omega), w64 (by omega)]; omega) (by omega) (by omega) (hR2 _ _ ⟨rfl, ?_⟩)
        simp; omega
      · rintro t h' ⟨rfl, htr⟩
        refine CondP.intro (fun h3 => ?_) fun h3 => ?_
        · show R (IntKind.wrap .i64 (((2 * i + 1 : Nat) : Int) + 1)) _
          rw [w2]
          exact hR _ _ ⟨rfl, _, rfl, by rw [if_pos (htr.1 h3)]⟩
        · exact hR _ _ ⟨rfl, _, rfl, by rw [if_neg fun hh => by rw [htr.2 hh] at h3; cases h3]⟩
    · rintro t h' ⟨rfl, c, rfl, hc⟩
      have hcb : c < hi ∧ i < c := by rw [hc]; split <;> omega
      refine hs1.less (i := first + i) (j := first + c) (by rw [w64 (by omega)]; omega) (by rw [w64 (by omega)]; omega) (by omega) (by omega) ?_
      have hstep : siftDown ltInt hi first i d1 = if !ltInt d1[first + i]! d1[first + c]! then d1 else siftDown ltInt hi first c (swp d1 (first + i) (first + c)) := by
        rw [siftDown, dif_neg (by omega)]
        by_cases hq : 2 * i + 2 < hi ∧ ltInt d1[first + (2 * i + 1)]! d1[first + (2 * i + 1) + 1]! = true
        · rw [if_pos (by simp only [Bool.and_eq_true, decide_eq_true_iff]; exact hq), dif_pos hq.1]
          rw [if_pos hq] at hc; rw [hc]
        · rw [if_neg (by simp only [Bool.and_eq_true, decide_eq_true_iff]; exact hq)]
          rw [if_neg hq] at hc; rw [hc]
      refine CondP.intro (fun h3 => ?_) fun h3 => ?_
      · refine hk _ ?_ hu1
        rw [← hr1, hstep, if_pos h3]; exact hs1
      · refine hs1.swap (i := first + i) (j := first + c) (by rw [w64 (by omega)]; omega) (by rw [w64 (by omega)]; omega) (by omega) (by omega) fun h6 hs6 hu6 => ?_
        refine hI (c, swp d1 (first + i) (first + c)) _ _ ⟨rfl, hs6, by simp [hz1], ?_, hu1.tr hu6, by simp only; omega⟩ (by simp only; omega)
        rw [← hr1, hstep, if_neg (by rw [h3]; simp)]
theorem heapSort_ok {a e : Nat} (hs : SA s b rest h d) (ha : a ≤ e) (he : e ≤ d.size) {K : Unit → Heap → Prop} (hk : ∀ h', SA s b rest h' (heapSort ltInt d a e) → Upd (· = b) h h' → K () h') :
    HC PG f_slices_heapSortOrdered_u32 [.slice s.a s.len s.cap, .int .i64 a, .int .i64 e] [] K h := by
  refine H_slices_heapSortOrdered_u32 s a e ?_
  unfold F_slices_heapSortOrdered_u32
  have hsm := hs.small
  have w1 : IntKind.wrap .i64 ((e : Int) - (a : Int)) = ((e - a : Nat) : Int) := by rw [w64 (by omega)]; omega
  rw [w1]
  refine ⟨by decide, ?_⟩
  have hst : IntKind.wrap .i64 (Int.tdiv (IntKind.wrap .i64 (((e - a : Nat) : Int) - 1)) 2) = (((e - a - 1) / 2 + 1 : Nat) : Int) - 1 := by
    rw [w64 (x := ((e - a : Nat) : Int) - 1) (by omega)]
    by_cases h0 : e - a = 0
    · rw [h0]; decide
    · rw [Int.tdiv_eq_ediv_of_nonneg (by omega), w64 (by omega)]; omega
  show LoopP _ (IntKind.wrap .i64 (Int.tdiv (IntKind.wrap .i64 (((e - a : Nat) : Int) - 1)) 2)) h
  rw [hst]
  refine LoopP.ghost (fun (g : Nat × Array Int) (t : Int) h' => t = (g.1 : Int) - 1 ∧ SA s b rest h' g.2 ∧ g.2.size = d.size ∧ heapBuild ltInt (e - a) a g.1 g.2 = heapBuild ltInt (e - a) a ((e - a - 1) / 2 + 1) d ∧ Upd (· = b) h h' ∧ g.1 ≤ 1000000000) (fun g => g.1) ((e - a - 1) / 2 + 1, d)
    ⟨rfl, hs, rfl, rfl, Upd.refl _ _, by simp only; omega⟩ ?_
  rintro I ⟨k, d1⟩ t h1 ⟨ht, hs1, hz1, hr1, hu1, hk1⟩ hI
  simp only at ht hs1 hz1 hr1 hk1
  subst ht
  refine condP_dec (fun hge => ?_) fun hlt => ?_
  · obtain ⟨k, rfl⟩ : ∃ k', k = k' + 1 := ⟨k - 1, by omega⟩
    have e1 : ((k + 1 : Nat) : Int) - 1 = (k : Int) := by omega
    rw [e1]
    refine siftDown_ok hs1 (by omega) (fun h2 hs2 hu2 => hI (k, _) _ _ ⟨by rw [w64 (by omega)], hs2, by simp [hz1], ?_, hu1.tr hu2, by simp only; omega⟩ (by simp)) (by omega)
    rw [← hr1]; rfl
  · have : k = 0 := by omega
    subst this
    rw [w64 (x := ((e - a : Nat) : Int) - 1) (by omega)]
    refine LoopP.ghost (fun (g : Nat × Array Int) (t : Int) h' => t = (g.1 : Int) - 1 ∧ SA s b rest h' g.2 ∧ g.2.size = d.size ∧ heapPop ltInt a g.1 g.2 = heapSort ltInt d a e ∧ Upd (· = b) h h' ∧ g.1 ≤ e - a) (fun g => g.1) (e - a, d1)
      ⟨rfl, hs1, hz1, by rw [heapSort, ← hr1]; rfl, hu1, Nat.le_refl _⟩ ?_
    rintro I2 ⟨k, d2⟩ t h2 ⟨ht, hs2, hz2, hr2, hu2, hk2⟩ hI2
    simp only at ht hs2 hz2 hr2 hk2
    subst ht
    refine condP_dec (fun hge => ?_) fun hlt2 => ?_
    · obtain ⟨k, rfl⟩ : ∃ k', k = k' + 1 := ⟨k - 1, by omega⟩
      have e1 : ((k + 1 : Nat) : Int) - 1 = (k : Int) := by omega
      rw [e1]
      refine hs2.swap (i := a) (j := a + k) rfl (by rw [w64 (by omega)]; omega) (by omega) (by omega) fun h3 hs3 hu3 => ?_
      refine siftDown_ok (root := 0) hs3 (by simp; omega) (fun h4 hs4 hu4 => hI2 (k, _) _ _ ⟨by rw [w64 (by omega)], hs4, by simp [hz2], ?_, (hu2.tr hu3).tr hu4, by simp only; omega⟩ (by simp)) (by omega)
      rw [← hr2]; rfl
    · have : k = 0 := by omega
      subst this
      refine hk _ ?_ hu2
      rw [← hr2]; exact hs2
theorem reverse_ok {a e : Nat} (hs : SA s b rest h d) (ha : a < e) (he : e ≤ d.size) {K : Unit → Heap → Prop} (hk : ∀ h', SA s b rest h' (reverseRange d a e) → Upd (· = b) h h' → K () h') :
    HC PG f_slices_reverseRangeOrdered_u32 [.slice s.a s.len s.cap, .int .i64 a, .int .i64 e] [] K h := by
  refine H_slices_reverseRangeOrdered_u32 s a e ?_
  unfold F_slices_reverseRangeOrdered_u32
  have hsm := hs.small
  refine LoopP.ghost (fun (g : Nat × Nat × Array Int) (t : Int × Int) h' => t.1 = (g.1 : Int) ∧ t.2 = (g.2.1 : Int) ∧ SA s b rest h' g.2.2 ∧ g.2.2.size = d.size ∧ reverseLoop g.1 g.2.1 g.2.2 = reverseRange d a e ∧ Upd (· = b) h h' ∧ g.2.1 < e) (fun g => g.2.1 - g.1) (a, e - 1, d)
    ⟨rfl, by simp only; rw [w64 (by omega)]; omega, hs, rfl, rfl, Upd.refl _ _, by simp only; omega⟩ ?_
  rintro I ⟨i, j, d1⟩ ⟨t1, t2⟩ h1 ⟨ht1, ht2, hs1, hz1, hr1, hu1, hj⟩ hI
  simp only at ht1 ht2 hs1 hz1 hr1 hj
  subst ht1 ht2
  refine condP_dec (fun hlt => ?_) fun hge => ?_
  · have hlt : i < j := by have : (i : Int) < (j : Int) := hlt; omega
    refine hs1.swap (i := i) (j := j) rfl rfl (by omega) (by omega) fun h2 hs2 hu2 => ?_
    refine hI (i + 1, j - 1, swp d1 i j) _ _ ⟨by simp only; rw [w64 (by omega)]; rfl, by simp only; rw [w64 (by omega)]; omega, hs2, by simp [hz1], ?_, hu1.tr hu2, by simp only; omega⟩ (by simp only; omega)
    rw [← hr1]
    conv => rhs; rw [reverseLoop]
    rw [if_pos hlt]
  · refine hk _ ?_ hu1
    rw [← hr1, reverseLoop, if_neg (by have hge : ¬ (i : Int) < (j : Int) := hge; omega)]; exact hs1
end Go.Proofs
