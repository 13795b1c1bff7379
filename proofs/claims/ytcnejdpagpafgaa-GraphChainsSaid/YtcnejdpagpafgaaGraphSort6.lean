/- A part of the proof that the named laws of this program answer true, whatever the input. -/
import Derived.Test.YtcnejdpagpafgaaGraphSort5
namespace Go.Proofs
open Go.Lift Go.Sort
variable {s : SliceV} {b : Nat} {rest : List Value} {h : Heap} {d : Array Int}
theorem swoI : SWO ltInt := ⟨fun x => by simp [ltInt], fun x y z h1 h2 => by simp only [ltInt, decide_eq_true_iff] at *; omega, fun x y z h1 h2 => by simp only [ltInt, decide_eq_false_iff_not] at *; omega⟩
theorem pdq_ok : ∀ (n : Nat) {a e : Nat} {lim : Int} {h : Heap} {d : Array Int} {K : Unit → Heap → Prop}, e - a = n → SA s b rest h d → a ≤ e → e ≤ d.size → Go.Sort.Below ltInt a e d →
    (∀ h' d', SA s b rest h' d' → PermIn a e d d' → SortedIn ltInt a e d' → Upd (· = b) h h' → K () h') → HC PG f_slices_pdqsortOrdered_u32 [.slice s.a s.len s.cap, .int .i64 a, .int .i64 e, .int .i64 lim] [] K h := by
  intro n
  induction n using Nat.strongRecOn with
  | _ n ih =>
  intro a e lim h d K hn hs ha he hB hk
  refine H_slices_pdqsortOrdered_u32 s a e lim ?_
  unfold F_slices_pdqsortOrdered_u32
  have hsm := hs.small
  refine LoopP.ghost (fun (g : Nat × Nat × Array Int) (t : Int × Int × Int × Bool × Bool) h' => t.1 = (g.1 : Int) ∧ t.2.1 = (g.2.1 : Int) ∧ SA s b rest h' g.2.2 ∧ g.2.2.size = d.size ∧ (a ≤ g.1 ∧ g.1 ≤ g.2.1 ∧ g.2.1 ≤ e) ∧ Go.Sort.Below ltInt g.1 g.2.1 g.2.2 ∧
      (∀ R, PermIn g.1 g.2.1 g.2.2 R → SortedIn ltInt g.1 g.2.1 R → PermIn a e d R ∧ SortedIn ltInt a e R) ∧ Upd (· = b) h h') (fun g => g.2.1 - g.1) (a, e, d)
    ⟨rfl, rfl, hs, rfl, ⟨Nat.le_refl _, ha, Nat.le_refl _⟩, hB, fun R h1 h2 => ⟨h1, h2⟩, Upd.refl _ _⟩ ?_
  rintro I ⟨a1, e1, d1⟩ ⟨t1, t2, l1, wb, wp⟩ h1 ⟨ht1, ht2, hs1, hz1, ⟨haa, hae, hee⟩, hB1, hfin, hu1⟩ hI
  simp only at ht1 ht2 hs1 hz1 haa hae hee hB1 hfin
  subst ht1 ht2
  have he1 : e1 ≤ d1.size := by omega
  have wl : IntKind.wrap .i64 ((e1 : Int) - (a1 : Int)) = ((e1 - a1 : Nat) : Int) := by rw [w64 (by omega)]; omega
  simp only
  rw [wl]
  refine condP_dec (fun hle => ?_) fun hgt => ?_
  · refine insSort_ok hs1 hae he1 fun h2 hs2 hu2 => ?_
    obtain ⟨p1, p2⟩ := insertionSort_holds swoI d1 a1 e1 hae he1
    obtain ⟨q1, q2⟩ := hfin _ p1 p2
    exact hk _ _ hs2 q1 q2 (hu1.tr hu2)
  have hgt : 12 < e1 - a1 := by omega
  refine CondP.intro (fun _ => ?_) fun _ => ?_
  · refine heapSort_ok hs1 hae he1 fun h2 hs2 hu2 => ?_
    obtain ⟨p1, p2⟩ := heapSort_holds swoI d1 a1 e1 hae he1
    obtain ⟨q1, q2⟩ := hfin _ p1 p2
    exact hk _ _ hs2 q1 q2 (hu1.tr hu2)
  refine Join.intro (fun _ h' => ∃ d2, SA s b rest h' d2 ∧ PermIn a1 e1 d1 d2 ∧ Upd (· = b) h h') (fun R hR => ?_) ?_
  · refine CondP.intro (fun _ => ?_) fun _ => hR _ _ ⟨d1, hs1, permIn_refl .., hu1⟩
    exact breakPatterns_ok hs1 hae he1 fun h2 d2 hs2 hp2 hu2 => hR _ _ ⟨d2, hs2, hp2, hu1.tr hu2⟩
  rintro lim2 h2 ⟨d2, hs2, hp2, hu2⟩
  have hz2 : d2.size = d.size := by rw [hp2.1, hz1]
  refine choosePivot_ok hs2 (by omega) (by omega) fun h3 p hn1 hpa hpe hs3 hu3 => ?_
  refine Join.intro (fun t h' => ∃ (q : Nat) (d3 : Array Int), t.1 = (q : Int) ∧ a1 ≤ q ∧ q < e1 ∧ SA s b rest h' d3 ∧ PermIn a1 e1 d1 d3 ∧ Upd (· = b) h h') (fun R hR => ?_) ?_
  · refine CondP.intro (fun _ => ?_) fun _ => hR _ _ ⟨p, d2, rfl, hpa, hpe, hs3, hp2, hu2.tr hu3.wide⟩
    refine reverse_ok hs3 (by omega) (by omega) fun h4 hs4 hu4 => hR _ _ ⟨e1 - 1 - (p - a1), _, ?_, by omega, by omega, hs4, permIn_trans _ _ _ _ _ hp2 (reverseRange_holds d2 a1 e1 hae (by omega)), (hu2.tr hu3.wide).tr hu4⟩
    show IntKind.wrap .i64 (IntKind.wrap .i64 ((e1 : Int) - 1) - IntKind.wrap .i64 ((p : Int) - (a1 : Int))) = _
    rw [w64 (x := (e1 : Int) - 1) (by omega), w64 (x := (p : Int) - (a1 : Int)) (by omega), w64 (by omega)]; omega
  rintro ⟨q1, hint⟩ h4 ⟨q, d3, hq, hqa, hqe, hs4, hp4, hu4⟩
  simp only at hq
  subst hq
  have hz3 : d3.size = d.size := by rw [hp4.1, hz1]
  have hB3 : Go.Sort.Below ltInt a1 e1 d3 := hB1.perm he1 hp4
  refine Join.intro (fun _ h' => ∃ d4, SA s b rest h' d4 ∧ PermIn a1 e1 d1 d4 ∧ Upd (· = b) h h') (fun R hR => ?_) ?_
  · refine Join.intro (fun _ h' => h' = h4) (fun R2 hR2 => CondP.intro (fun _ => CondP.intro (fun _ => hR2 _ _ rfl) fun _ => hR2 _ _ rfl) fun _ => hR2 _ _ rfl) ?_
    rintro _ h5 rfl
    refine CondP.intro (fun _ => ?_) fun _ => hR _ _ ⟨d3, hs4, hp4, hu4⟩
    refine partialIns_ok hs4 (by omega) (by omega) fun h6 hs6 hu6 => ?_
    obtain ⟨p1, p2⟩ := partialInsertionSort_holds swoI d3 a1 e1 (by omega) (by omega) hB3
    refine CondP.intro (fun hb => ?_) fun _ => hR _ _ ⟨_, hs6, permIn_trans _ _ _ _ _ hp4 p1, hu4.tr hu6⟩
    obtain ⟨r1, r2⟩ := hfin _ (permIn_trans _ _ _ _ _ hp4 p1) (p2 hb)
    exact hk _ _ hs6 r1 r2 (hu4.tr hu6)
  rintro _ h5 ⟨d4, hs5, hp5, hu5⟩
  have hz4 : d4.size = d.size := by rw [hp5.1, hz1]
  have hB4 : Go.Sort.Below ltInt a1 e1 d4 := hB1.perm he1 hp5
  refine Join.intro (fun t h' => h' = h5 ∧ (t = true → 0 < a1 ∧ ltInt d4[a1 - 1]! d4[q]! = false)) (fun R hR => ?_) ?_
  · refine condP_dec (fun h6 => ?_) fun _ => hR _ _ ⟨rfl, fun e => by cases e⟩
    refine hs5.less (i := a1 - 1) (j := q) (by rw [w64 (by omega)]; omega) rfl (by omega) (by omega) (hR _ _ ⟨rfl, fun e => ⟨by omega, by simpa using e⟩⟩)
  rintro t h6 ⟨rfl, ht⟩
  refine CondP.intro (fun ht1 => ?_) fun _ => ?_
  · obtain ⟨h7, h8⟩ := ht ht1
    refine partEq_ok hs5 hqa hqe (by omega) fun h9 hs9 hu9 => ?_
    cases hx : partitionEqual ltInt d4 a1 e1 q with
    | mk mid d5 =>
      rw [hx] at hs9
      obtain ⟨m1, m2, m3, m4, m5⟩ := round_eq swoI (partitionEqual_holds _) h7 hqa hqe (by omega) hB4 h8 hx
      refine hI (mid, e1, d5) _ _ ⟨rfl, rfl, hs9, by simp only; omega, ⟨by simp only; omega, m2, hee⟩, m4, fun R r1 r2 => ?_, hu5.tr hu9⟩ (by simp only; omega)
      obtain ⟨x1, x2⟩ := m5 R r1 r2
      exact hfin R (permIn_trans _ _ _ _ _ hp5 x1) x2
  · refine part_ok hs5 hqa hqe (by omega) fun h9 hs9 hu9 => ?_
    cases hx : partition ltInt d4 a1 e1 q with
    | mk mid r =>
      obtain ⟨ap, d5⟩ := r
      rw [hx] at hs9
      obtain ⟨m1, m2, m3, m4, m5, m6, m7⟩ := round_part swoI (partition_holds _) hqa hqe (by omega) hB4 hx
      simp only at hs9 ⊢
      refine ⟨by decide, ?_⟩
      have w1 : IntKind.wrap .i64 ((mid : Int) - (a1 : Int)) = ((mid - a1 : Nat) : Int) := by rw [w64 (by omega)]; omega
      have w2 : IntKind.wrap .i64 ((e1 : Int) - (mid : Int)) = ((e1 - mid : Nat) : Int) := by rw [w64 (by omega)]; omega
      have w3 : IntKind.wrap .i64 ((mid : Int) + 1) = ((mid + 1 : Nat) : Int) := by rw [w64 (by omega)]; omega
      rw [w1, w2, w3]
      refine condP_dec (fun _ => ?_) fun _ => ?_
      · refine ih (mid - a1) (by omega) rfl hs9 m1 (by omega) m4 fun h10 d6 hs10 hp10 hq10 hu10 => ?_
        obtain ⟨y1, y2⟩ := m6 d6 hp10 hq10
        have hz6 := hp10.1
        refine hI (mid + 1, e1, d6) _ _ ⟨rfl, rfl, hs10, by simp only; omega, ⟨by simp only; omega, by simp only; omega, hee⟩, y1, fun R r1 r2 => ?_, (hu5.tr hu9).tr hu10⟩ (by simp only; omega)
        obtain ⟨x1, x2⟩ := y2 R r1 r2
        exact hfin R (permIn_trans _ _ _ _ _ hp5 x1) x2
      · refine ih (e1 - (mid + 1)) (by omega) rfl hs9 (by omega) (by omega) m5 fun h10 d6 hs10 hp10 hq10 hu10 => ?_
        obtain ⟨y1, y2⟩ := m7 d6 hp10 hq10
        have hz6 := hp10.1
        refine hI (a1, mid, d6) _ _ ⟨rfl, rfl, hs10, by simp only; omega, ⟨haa, m1, by simp only; omega⟩, y1, fun R r1 r2 => ?_, (hu5.tr hu9).tr hu10⟩ (by simp only; omega)
        obtain ⟨x1, x2⟩ := y2 R r1 r2
        exact hfin R (permIn_trans _ _ _ _ _ hp5 x1) x2
theorem perm_of_permIn {d d' : Array Int} (hp : PermIn 0 d.size d d') : d'.toList.Perm d.toList := by
  have := hp.2.2
  have e1 : d'.extract 0 d.size = d' := by rw [← hp.1]; simp
  rw [e1] at this
  simpa using this
/-- **slices.Sort**, of one's own slice of numbers. -/
theorem sort_ok {M : Nat → Prop} {h : Heap} {s : SliceV} {xs : List Int} (ho : OwnS u32 1 t_u32 M h s xs) (hn : xs.length ≤ 1000000000) {K : Unit → Heap → Prop}
    (hk : ∀ h' ys, OwnS u32 1 t_u32 M h' s ys → ys.Perm xs → ys.Pairwise (· ≤ ·) → Upd M h h' → K () h') : HC PG f_slices_Sort_A_u32_u32 [.slice s.a s.len s.cap] [] K h := by
  refine H_slices_Sort_A_u32_u32 s ?_
  unfold F_slices_Sort_A_u32_u32
  have hl : s.len = xs.length := ho.len
  rw [show IntKind.wrap .u64 (s.len : Int) = (s.len : Int) by rw [u64w]; omega]
  refine len_ok (by omega) fun L _ _ => ?_
  rcases ho.blk with h0 | ⟨b, rest, ha, hMb, hb, hr⟩
  · have hx : xs = [] := by
      have := ho.cap
      exact List.length_eq_zero_iff.1 (by omega)
    subst hx
    obtain ⟨a0, l0, c0⟩ := s
    have hl0 : l0 = 0 := hl
    subst hl0
    refine H_slices_pdqsortOrdered_u32 ⟨a0, 0, c0⟩ 0 ((0 : Nat) : Int) L ?_
    unfold F_slices_pdqsortOrdered_u32
    refine LoopP.ghost (fun (_ : Unit) (t : Int × Int × Int × Bool × Bool) h' => t.1 = 0 ∧ t.2.1 = 0 ∧ h' = h) (fun _ => 0) () ⟨rfl, rfl, rfl⟩ ?_
    rintro I _ ⟨t1, t2, t3⟩ h' ⟨rfl, rfl, rfl⟩ _
    refine condP_dec (fun _ => ?_) fun hh => absurd (show IntKind.wrap .i64 ((0 : Int) - 0) ≤ 12 by decide) hh
    refine H_slices_insertionSortOrdered_u32 ⟨a0, 0, c0⟩ 0 0 ?_
    unfold F_slices_insertionSortOrdered_u32
    refine LoopP.ghost (fun (_ : Unit) (t : Int) h2 => t = 1 ∧ h2 = h') (fun _ => 0) () ⟨by decide, rfl⟩ ?_
    rintro I2 _ t h2 ⟨rfl, rfl⟩ _
    exact condP_dec (fun hh => absurd hh (by decide)) fun _ => hk _ [] ho (List.Perm.refl _) List.Pairwise.nil (Upd.refl _ _)
  · have hs : SA s b rest h xs.toArray := ⟨ha, by simp [hl], by simpa using hb, by simpa using hn⟩
    have hz : ((s.len : Nat) : Int) = ((xs.toArray.size : Nat) : Int) := by simp [hl]
    rw [hz]
    refine pdq_ok (a := 0) (e := xs.toArray.size) _ rfl hs (Nat.zero_le _) (Nat.le_refl _) (.inl rfl) fun h' d' hs' hp hq hu => ?_
    have hpm := perm_of_permIn hp
    refine hk h' d'.toList ⟨by rw [hl, hpm.length_eq], ho.ne, ho.cap, .inr ⟨b, rest, ha, hMb, hs'.blk, hr⟩⟩ (by simpa using hpm) ?_ (hu.mono fun x hx => .inl (hx ▸ hMb))
    rw [List.pairwise_iff_getElem]
    intro i j hi hj hij
    have hz2 := hp.1
    have := hq i j (Nat.zero_le _) hij (by rw [← hz2]; simpa using hj)
    simp only [ltInt, decide_eq_false_iff_not] at this
    rw [getElem!_pos d' j (by simpa using hj), getElem!_pos d' i (by simpa using hi)] at this
    simp only [Array.getElem_toList]
    omega
/-- **slices.Sorted** of an iterator. -/
theorem sorted_ok {h : Heap} {fv : Value} {N : Nat} {S : List Int → Prop} {Q : Nat → Prop} (hg : Gives PG fv u32 N S Q h) (hN : N ≤ 1000000000) (hS : ∀ xs, S xs → xs.length ≤ 1000000000) {K : SliceV → Heap → Prop}
    (hk : ∀ s' h' xs ys, S xs → OwnS u32 1 t_u32 (fun b => h.size ≤ b) h' s' ys → ys.Perm xs → ys.Pairwise (· ≤ ·) → Upd No h h' → K s' h') : HC PG f_slices_Sorted_u32 [fv] [.c .slice] K h := by
  refine H_slices_Sorted_u32 fv ?_
  unfold F_slices_Sorted_u32
  refine collect_ok hg hN fun s1 h1 xs hx ho hu => ?_
  exact sort_ok ho (hS xs hx) fun h2 ys ho2 hp hq hu2 => hk s1 h2 xs ys hx ho2 hp hq (hu.trans hu2 fun b hb => .inr hb)
end Go.Proofs
