/- A part of the proof that the named laws of this program answer true, whatever the input. -/
import Derived.Test.YtcnejdpagpafgaaGraphSort2
namespace Go.Proofs
open Go.Lift Go.Sort
variable {s : SliceV} {b : Nat} {rest : List Value} {h : Heap} {d : Array Int}
/-- A scan upwards that only reads. -/
theorem scanUp_ok {T : Int → (Bool → Heap → Prop) → Heap → Prop} {REST : Int → Heap → Prop} {p : Int → Bool} {tj t0 : Int} {j i0 : Nat} (e0 : t0 = (i0 : Int)) (ej : tj = (j : Int)) (hj : j ≤ 1000000000) (hi0 : i0 ≤ 1000000000)
    (hT : ∀ (i : Nat) (R : Bool → Heap → Prop), i0 ≤ i → i ≤ j → R (p d[i]!) h → T (i : Int) R h) (hR : REST ((scanUp p d j i0 : Nat) : Int) h) :
    LoopP (fun (I : Int → Heap → Prop) (t : Int) h' => Join (fun (c : Bool) h'' => CondP c (I (IntKind.wrap .i64 (t + 1)) h'') (REST t h'')) (fun J => CondP (decide (t ≤ tj)) (T t J h') (J false h'))) t0 h := by
  subst e0 ej
  refine LoopP.ghost (fun (i : Nat) (t : Int) h' => t = (i : Int) ∧ h' = h ∧ i0 ≤ i ∧ i ≤ 1000000001 ∧ scanUp p d j i = scanUp p d j i0) (fun i => j + 1 - i) i0 ⟨rfl, rfl, Nat.le_refl _, by omega, rfl⟩ ?_
  rintro I i t h' ⟨rfl, rfl, hi, hi2, hsc⟩ hI
  refine Join.intro (fun c h'' => h'' = h' ∧ (c = true ↔ i ≤ j ∧ p d[i]! = true)) (fun R hR => ?_) ?_
  · refine condP_dec (fun hle => ?_) fun hgt => hR _ _ ⟨rfl, by simp; omega⟩
    exact hT i _ hi (by omega) (hR _ _ ⟨rfl, by simp; omega⟩)
  · rintro c h'' ⟨rfl, hc⟩
    refine CondP.intro (fun h1 => ?_) fun h1 => ?_
    · have hh := hc.1 h1
      refine hI (i + 1) _ _ ⟨by rw [w64 (by omega)]; rfl, rfl, by omega, by omega, ?_⟩ (by omega)
      rw [← hsc]
      conv => rhs; rw [scanUp]
      rw [if_pos (by simp [hh])]
    · have : scanUp p d j i = i := by
        rw [scanUp, if_neg]
        intro hh
        simp only [Bool.and_eq_true, decide_eq_true_iff] at hh
        rw [hc.2 hh] at h1; cases h1
      rw [← hsc, this] at hR
      exact hR
theorem scanDown_ok {T : Int → (Bool → Heap → Prop) → Heap → Prop} {REST : Int → Heap → Prop} {p : Int → Bool} {ti t0 : Int} {j0 i : Nat} (e0 : t0 = (j0 : Int)) (ei : ti = (i : Int)) (hj : j0 ≤ 1000000000) (hi0 : 1 ≤ i)
    (hT : ∀ (j : Nat) (R : Bool → Heap → Prop), i ≤ j → j ≤ j0 → R (p d[j]!) h → T (j : Int) R h) (hR : REST ((scanDown p d i j0 : Nat) : Int) h) :
    LoopP (fun (I : Int → Heap → Prop) (t : Int) h' => Join (fun (c : Bool) h'' => CondP c (I (IntKind.wrap .i64 (t - 1)) h'') (REST t h'')) (fun J => CondP (decide (ti ≤ t)) (T t J h') (J false h'))) t0 h := by
  subst e0 ei
  refine LoopP.ghost (fun (j : Nat) (t : Int) h' => t = (j : Int) ∧ h' = h ∧ j ≤ j0 ∧ scanDown p d i j = scanDown p d i j0) (fun j => j) j0 ⟨rfl, rfl, Nat.le_refl _, rfl⟩ ?_
  rintro I j t h' ⟨rfl, rfl, hj2, hsc⟩ hI
  refine Join.intro (fun c h'' => h'' = h' ∧ (c = true ↔ i ≤ j ∧ p d[j]! = true)) (fun R hR => ?_) ?_
  · refine condP_dec (fun hle => ?_) fun hgt => hR _ _ ⟨rfl, by simp; omega⟩
    exact hT j _ (by omega) hj2 (hR _ _ ⟨rfl, by simp; omega⟩)
  · rintro c h'' ⟨rfl, hc⟩
    refine CondP.intro (fun h1 => ?_) fun h1 => ?_
    · have hh := hc.1 h1
      obtain ⟨j, rfl⟩ : ∃ k, j = k + 1 := ⟨j - 1, by omega⟩
      refine hI j _ _ ⟨by rw [w64 (by omega)]; omega, rfl, by omega, ?_⟩ (by omega)
      rw [← hsc]
      conv => rhs; rw [scanDown]
      rw [if_pos (by simp [hh])]
    · have : scanDown p d i j = j := by
        cases j with
        | zero => rw [scanDown]
        | succ j =>
          rw [scanDown, if_neg]
          intro hh
          simp only [Bool.and_eq_true, decide_eq_true_iff] at hh
          rw [hc.2 hh] at h1; cases h1
      rw [← hsc, this] at hR
      exact hR
theorem partEq_ok {a e pv : Nat} (hs : SA s b rest h d) (ha : a ≤ pv) (hp : pv < e) (he : e ≤ d.size) {K : Int → Heap → Prop} (hk : ∀ h', SA s b rest h' (partitionEqual ltInt d a e pv).2 → Upd (· = b) h h' → K ((partitionEqual ltInt d a e pv).1 : Nat) h') :
    HC PG f_slices_partitionEqualOrdered_u32 [.slice s.a s.len s.cap, .int .i64 a, .int .i64 e, .int .i64 pv] [.c (.int .i64)] K h := by
  refine H_slices_partitionEqualOrdered_u32 s a e pv ?_
  unfold F_slices_partitionEqualOrdered_u32
  have hsm := hs.small
  refine hs.swap (i := a) (j := pv) rfl rfl (by omega) (by omega) fun h0 hs0 hu0 => ?_
  refine LoopP.ghost (fun (g : Nat × Nat × Array Int) (t : Int × Int) h' => t.1 = (g.1 : Int) ∧ t.2 = (g.2.1 : Int) ∧ SA s b rest h' g.2.2 ∧ g.2.2.size = d.size ∧ partEqLoop ltInt a g.1 g.2.1 g.2.2 = partitionEqual ltInt d a e pv ∧ Upd (· = b) h h' ∧ g.2.1 < e ∧ a < g.1 ∧ g.1 ≤ 1000000000) (fun g => g.2.1 + 1 - g.1) (a + 1, e - 1, swp d a pv)
    ⟨by simp only; rw [w64 (by omega)]; rfl, by simp only; rw [w64 (by omega)]; omega, hs0, by simp, rfl, hu0, by simp only; omega, by simp, by simp only; omega⟩ ?_
  rintro I ⟨i, j, d1⟩ ⟨t1, t2⟩ h1 ⟨ht1, ht2, hs1, hz1, hr1, hu1, hj, hai, hi9⟩ hI
  simp only at ht1 ht2 hs1 hz1 hr1 hj hai hi9
  subst ht1 ht2
  have g1 := scanUp_ge (fun x => !ltInt d1[a]! x) d1 j i
  rw [partEqLoop_eq] at hr1
  refine scanUp_ok (d := d1) (p := fun x => !ltInt d1[a]! x) (i0 := i) rfl rfl (by omega) hi9 (fun k R hk1 hk2 hR => hs1.less (i := a) (j := k) rfl rfl (by omega) (by omega) hR) ?_
  generalize scanUp (fun x => !ltInt d1[a]! x) d1 j i = i2 at g1 hr1
  have g2 := scanDown_le (fun x => ltInt d1[a]! x) d1 i2 j
  refine scanDown_ok (d := d1) (p := fun x => ltInt d1[a]! x) (j0 := j) (i := i2) rfl rfl (by omega) (by omega) (fun k R hk1 hk2 hR => hs1.less (i := a) (j := k) rfl rfl (by omega) (by omega) hR) ?_
  generalize scanDown (fun x => ltInt d1[a]! x) d1 i2 j = j2 at g2 hr1
  refine condP_dec (fun hgt => ?_) fun hle => ?_
  · rw [if_pos (by omega)] at hr1
    rw [← hr1] at hk
    exact hk _ hs1 hu1
  · rw [if_neg (by omega)] at hr1
    refine hs1.swap (i := i2) (j := j2) rfl rfl (by omega) (by omega) fun h2 hs2 hu2 => ?_
    exact hI (i2 + 1, j2 - 1, swp d1 i2 j2) _ _ ⟨by simp only; rw [w64 (by omega)]; rfl, by simp only; rw [w64 (by omega)]; omega, hs2, by simp [hz1], hr1, hu1.tr hu2, by simp only; omega, by simp only; omega, by simp only; omega⟩ (by simp only; omega)
theorem part_ok {a e pv : Nat} (hs : SA s b rest h d) (ha : a ≤ pv) (hp : pv < e) (he : e ≤ d.size) {K : Int × Bool → Heap → Prop}
    (hk : ∀ h', SA s b rest h' (partition ltInt d a e pv).2.2 → Upd (· = b) h h' → K (((partition ltInt d a e pv).1 : Nat), (partition ltInt d a e pv).2.1) h') :
    HC PG f_slices_partitionOrdered_u32 [.slice s.a s.len s.cap, .int .i64 a, .int .i64 e, .int .i64 pv] [.c (.int .i64), .c .bool] K h := by
  refine H_slices_partitionOrdered_u32 s a e pv ?_
  unfold F_slices_partitionOrdered_u32
  have hsm := hs.small
  refine hs.swap (i := a) (j := pv) rfl rfl (by omega) (by omega) fun h0 hs0 hu0 => ?_
  have hz0 : (swp d a pv).size = d.size := by simp
  have hP : partition ltInt d a e pv = (let d := swp d a pv
    let i := scanUp (fun x => ltInt x d[a]!) d (e - 1) (a + 1)
    let j := scanDown (fun x => !ltInt x d[a]!) d i (e - 1)
    if i > j then (j, true, swp d j a) else
    let r := partLoop ltInt a (i + 1) (j - 1) (swp d i j)
    (r.1, false, swp r.2 r.1 a)) := rfl
  simp only at hP
  generalize swp d a pv = d0 at hs0 hz0 hP
  have we : IntKind.wrap .i64 ((e : Int) - 1) = ((e - 1 : Nat) : Int) := by rw [w64 (by omega)]; omega
  have wa : IntKind.wrap .i64 ((a : Int) + 1) = ((a + 1 : Nat) : Int) := by rw [w64 (by omega)]; rfl
  have g1 := scanUp_ge (fun x => ltInt x d0[a]!) d0 (e - 1) (a + 1)
  refine scanUp_ok (d := d0) (p := fun x => ltInt x d0[a]!) (j := e - 1) (i0 := a + 1) wa we (by omega) (by omega) (fun k R hk1 hk2 hR => hs0.less (i := k) (j := a) rfl rfl (by omega) (by omega) hR) ?_
  generalize scanUp (fun x => ltInt x d0[a]!) d0 (e - 1) (a + 1) = i2 at g1 hP
  have g2 := scanDown_le (fun x => !ltInt x d0[a]!) d0 i2 (e - 1)
  refine scanDown_ok (d := d0) (p := fun x => !ltInt x d0[a]!) (j0 := e - 1) (i := i2) we rfl (by omega) (by omega) (fun k R hk1 hk2 hR => hs0.less (i := k) (j := a) rfl rfl (by omega) (by omega) hR) ?_
  generalize scanDown (fun x => !ltInt x d0[a]!) d0 i2 (e - 1) = j2 at g2 hP
  refine condP_dec (fun hgt => ?_) fun hle => ?_
  · rw [if_pos (by omega)] at hP
    rw [hP] at hk
    exact hs0.swap (i := j2) (j := a) rfl rfl (by omega) (by omega) fun h2 hs2 hu2 => hk h2 hs2 (hu0.tr hu2)
  · rw [if_neg (by omega)] at hP
    refine hs0.swap (i := i2) (j := j2) rfl rfl (by omega) (by omega) fun h2 hs2 hu2 => ?_
    refine LoopP.ghost (fun (g : Nat × Nat × Array Int) (t : Int × Int) h' => t.1 = (g.1 : Int) ∧ t.2 = (g.2.1 : Int) ∧ SA s b rest h' g.2.2 ∧ g.2.2.size = d.size ∧ partLoop ltInt a g.1 g.2.1 g.2.2 = partLoop ltInt a (i2 + 1) (j2 - 1) (swp d0 i2 j2) ∧ Upd (· = b) h h' ∧ g.2.1 < e ∧ a < g.1 ∧ g.1 ≤ 1000000000) (fun g => g.2.1 + 1 - g.1) (i2 + 1, j2 - 1, swp d0 i2 j2)
      ⟨by simp only; rw [w64 (by omega)]; rfl, by simp only; rw [w64 (by omega)]; omega, hs2, by simp [hz0], rfl, hu0.tr hu2, by simp only; omega, by simp only; omega, by simp only; omega⟩ ?_
    rintro I ⟨i, j, d1⟩ ⟨t1, t2⟩ h1 ⟨ht1, ht2, hs1, hz1, hr1, hu1, hj, hai, hi9⟩ hI
    simp only at ht1 ht2 hs1 hz1 hr1 hj hai hi9
    subst ht1 ht2
    have g3 := scanUp_ge (fun x => ltInt x d1[a]!) d1 j i
    rw [partLoop_eq] at hr1
    refine scanUp_ok (d := d1) (p := fun x => ltInt x d1[a]!) (i0 := i) rfl rfl (by omega) hi9 (fun k R hk1 hk2 hR => hs1.less (i := k) (j := a) rfl rfl (by omega) (by omega) hR) ?_
    generalize scanUp (fun x => ltInt x d1[a]!) d1 j i = i3 at g3 hr1
    have g4 := scanDown_le (fun x => !ltInt x d1[a]!) d1 i3 j
    refine scanDown_ok (d := d1) (p := fun x => !ltInt x d1[a]!) (j0 := j) (i := i3) rfl rfl (by omega) (by omega) (fun k R hk1 hk2 hR => hs1.less (i := k) (j := a) rfl rfl (by omega) (by omega) hR) ?_
    generalize scanDown (fun x => !ltInt x d1[a]!) d1 i3 j = j3 at g4 hr1
    refine condP_dec (fun hgt => ?_) fun hle3 => ?_
    · rw [if_pos (by omega)] at hr1
      rw [hP, ← hr1] at hk
      exact hs1.swap (i := j3) (j := a) rfl rfl (by omega) (by omega) fun h3 hs3 hu3 => hk h3 hs3 (hu1.tr hu3)
    · rw [if_neg (by omega)] at hr1
      refine hs1.swap (i := i3) (j := j3) rfl rfl (by omega) (by omega) fun h3 hs3 hu3 => ?_
      exact hI (i3 + 1, j3 - 1, swp d1 i3 j3) _ _ ⟨by simp only; rw [w64 (by omega)]; rfl, by simp only; rw [w64 (by omega)]; omega, hs3, by simp [hz1], hr1, hu1.tr hu3, by simp only; omega, by simp only; omega, by simp only; omega⟩ (by simp only; omega)
end Go.Proofs
