/- A part of the proof that the named laws of this program answer true, whatever the input. -/
import Derived.Test.YtcnejdpagpafgaaGraphS12
import Derived.Sort.AssemblyPlain
namespace Go.Proofs
open Go.Lift Go.Sort
/-! ### slices.Sort: the row that is sorted -/
theorem flat_u32 (l : List Int) : l.flatMap u32 = l.map fun x => Value.int .u32 x := by
  induction l with
  | nil => rfl
  | cons x l ih => rw [List.flatMap_cons, ih]; rfl
structure SA (s : SliceV) (b : Nat) (rest : List Value) (h : Heap) (d : Array Int) : Prop where
  a : s.a = some ⟨b, 0, none⟩
  len : s.len = d.size
  blk : h[b]? = some (.cells (d.toList.flatMap u32 ++ rest).toArray t_u32 (0, 0))
  small : d.size ≤ 1000000000
variable {s : SliceV} {b : Nat} {rest : List Value} {h : Heap} {d : Array Int}
theorem SA.get (hs : SA s b rest h d) {i : Nat} (hi : i < d.size) : hcell h (adr ⟨b, 0, none⟩ (((i : Int)).toNat * 1)) = some (.int .u32 d[i]!) := by
  rw [adr_mk, hcell_blk hs.blk, List.getElem?_toArray, flat_u32, List.getElem?_append_left (by simp; omega)]
  simp [hi]
theorem SA.upd {M : Nat → Prop} {h' : Heap} (hs : SA s b rest h d) (k : Upd M h h') (hb : ¬ M b) : SA s b rest h' d := ⟨hs.a, hs.len, k.get hs.blk hb, hs.small⟩
theorem SA.put (hs : SA s b rest h d) {i : Nat} (hi : i < d.size) (x : Int) : Wr h (adr ⟨b, 0, none⟩ (((i : Int)).toNat * 1)) ∧ SA s b rest (hset h (adr ⟨b, 0, none⟩ (((i : Int)).toNat * 1)) (.int .u32 x)) (d.setIfInBounds i x) ∧
    Upd (· = b) h (hset h (adr ⟨b, 0, none⟩ (((i : Int)).toNat * 1)) (.int .u32 x)) := by
  have e : adr ⟨b, 0, none⟩ (((i : Int)).toNat * 1) = ⟨b, i, none⟩ := by rw [adr_mk]; simp
  rw [e]
  refine ⟨wr_blk hs.blk (by rw [flat_u32]; simp; omega), ⟨hs.a, by rw [hs.len]; simp, ?_, by simpa using hs.small⟩, Upd.hset _ _ rfl⟩
  rw [hset_blk hs.blk, set_get hs.blk, flat_u32, flat_u32, Array.toList_setIfInBounds]
  congr 2
  rw [List.setIfInBounds_toArray, List.set_append_left _ _ (by simp; omega), List.map_set]
theorem SA.ld1 (hs : SA s b rest h d) {t : Int} {i : Nat} (et : t = (i : Int)) (hi : i < d.size) {R : Int → Prop} (hR : R d[i]!) :
    ((0 : Int) ≤ t ∧ t < ((s.len : Nat) : Int)) ∧ ∃ a : Addr, s.a = some a ∧ ∃ v : Int, hcell h (adr a (t.toNat * 1)) = some (.int .u32 v) ∧ R v := by
  subst et
  exact ⟨by rw [hs.len]; omega, _, hs.a, _, hs.get hi, hR⟩
theorem SA.st (hs : SA s b rest h d) {t x : Int} {i : Nat} (et : t = (i : Int)) (hi : i < d.size) {R : Heap → Prop} (hR : ∀ h', SA s b rest h' (d.setIfInBounds i x) → Upd (· = b) h h' → R h') :
    ((0 : Int) ≤ t ∧ t < ((s.len : Nat) : Int)) ∧ ∃ a : Addr, s.a = some a ∧ (Wr h (adr a (t.toNat * 1)) ∧ At (hset h (adr a (t.toNat * 1)) (.int .u32 x)) R) := by
  subst et
  obtain ⟨h1, h2, h3⟩ := hs.put hi x
  exact ⟨by rw [hs.len]; omega, _, hs.a, h1, hR _ h2 h3⟩
@[simp] theorem swp_size (d : Array Int) (i j : Nat) : (swp d i j).size = d.size := by simp [swp]
theorem SA.swap (hs : SA s b rest h d) {ti tj : Int} {i j : Nat} (ei : ti = (i : Int)) (ej : tj = (j : Int)) (hi : i < d.size) (hj : j < d.size) {R : Heap → Prop} (hR : ∀ h', SA s b rest h' (swp d i j) → Upd (· = b) h h' → R h') :
    ((0 : Int) ≤ tj ∧ tj < ((s.len : Nat) : Int)) ∧ ∃ a : Addr, s.a = some a ∧ ∃ v : Int, hcell h (adr a (tj.toNat * 1)) = some (.int .u32 v) ∧
      (((0 : Int) ≤ ti ∧ ti < ((s.len : Nat) : Int)) ∧ ∃ a' : Addr, s.a = some a' ∧ ∃ v' : Int, hcell h (adr a' (ti.toNat * 1)) = some (.int .u32 v') ∧
        (((0 : Int) ≤ ti ∧ ti < ((s.len : Nat) : Int)) ∧ ∃ a'' : Addr, s.a = some a'' ∧ (Wr h (adr a'' (ti.toNat * 1)) ∧ At (hset h (adr a'' (ti.toNat * 1)) (.int .u32 v)) (fun h1 =>
          (((0 : Int) ≤ tj ∧ tj < ((s.len : Nat) : Int)) ∧ ∃ a3 : Addr, s.a = some a3 ∧ (Wr h1 (adr a3 (tj.toNat * 1)) ∧ At (hset h1 (adr a3 (tj.toNat * 1)) (.int .u32 v')) R)))))) := by
  refine hs.ld1 ej hj (hs.ld1 ei hi (hs.st ei hi fun h1 hs1 k1 => hs1.st ej (by simpa using hj) fun h2 hs2 k2 => hR h2 hs2 (k1.tr k2)))
theorem SA.less (hs : SA s b rest h d) {ti tj : Int} {i j : Nat} (ei : ti = (i : Int)) (ej : tj = (j : Int)) (hi : i < d.size) (hj : j < d.size) {R : Bool → Heap → Prop} (hR : R (ltInt d[i]! d[j]!) h) :
    ((0 : Int) ≤ ti ∧ ti < ((s.len : Nat) : Int)) ∧ ∃ a : Addr, s.a = some a ∧ ∃ v : Int, hcell h (adr a (ti.toNat * 1)) = some (.int .u32 v) ∧
      (((0 : Int) ≤ tj ∧ tj < ((s.len : Nat) : Int)) ∧ ∃ a' : Addr, s.a = some a' ∧ ∃ v' : Int, hcell h (adr a' (tj.toNat * 1)) = some (.int .u32 v') ∧ HC PG f_cmp_Less_u32 [.int .u32 v, .int .u32 v'] [.c .bool] R h) :=
  hs.ld1 ei hi (hs.ld1 ej hj (less_ok hR))
theorem w64 {x : Int} (h : -4611686018427387904 ≤ x ∧ x ≤ 4611686018427387904) : IntKind.wrap .i64 x = x := Go.IntWalk.i64_in _ (by omega)
theorem insSort_ok (hs : SA s b rest h d) {a e : Nat} (ha : a ≤ e) (he : e ≤ d.size) {K : Unit → Heap → Prop} (hk : ∀ h', SA s b rest h' (insertionSort ltInt d a e) → Upd (· = b) h h' → K () h') :
    HC PG f_slices_insertionSortOrdered_u32 [.slice s.a s.len s.cap, .int .i64 a, .int .i64 e] [] K h := by
  refine H_slices_insertionSortOrdered_u32 s a e ?_
  unfold F_slices_insertionSortOrdered_u32
  have hsm := hs.small
  refine LoopP.ghost (fun (g : Nat × Array Int) (t : Int) h' => t = (g.1 : Int) ∧ SA s b rest h' g.2 ∧ g.2.size = d.size ∧ insOuter ltInt a e g.1 g.2 = insertionSort ltInt d a e ∧ Upd (· = b) h h' ∧ a < g.1) (fun g => e - g.1) (a + 1, d)
    ⟨by rw [w64 (by omega)]; rfl, hs, rfl, rfl, Upd.refl _ _, by simp⟩ ?_
  rintro I ⟨i, d1⟩ t h1 ⟨ht, hs1, hz1, hr1, hu1, hai⟩ hI
  simp only at ht hs1 hz1 hr1 hai
  subst ht
  refine condP_dec (fun hlt => ?_) fun hge => ?_
  · have hlt : i < e := by omega
    refine LoopP.ghost (fun (g : Nat × Array Int) (t : Int) h' => t = (g.1 : Int) ∧ SA s b rest h' g.2 ∧ g.2.size = d.size ∧ insInner ltInt a g.1 g.2 = insInner ltInt a i d1 ∧ Upd (· = b) h h' ∧ g.1 ≤ i) (fun g => g.1) (i, d1)
      ⟨rfl, hs1, hz1, rfl, hu1, Nat.le_refl _⟩ ?_
    rintro I2 ⟨j, d2⟩ t h2 ⟨ht, hs2, hz2, hr2, hu2, hji⟩ hI2
    simp only at ht hs2 hz2 hr2 hji
    subst ht
    refine Join.intro (fun t h' => h' = h2 ∧ (t = true ↔ a < j ∧ ltInt d2[j]! d2[j - 1]! = true)) (fun R hR => ?_) ?_
    · refine condP_dec (fun hgt => ?_) fun hle => hR _ _ ⟨rfl, by simp; omega⟩
      have hgt : a < j := by omega
      exact hs2.less rfl (j := j - 1) (by rw [w64 (by omega)]; omega) (by omega) (by omega) (hR _ _ ⟨rfl, by simp [hgt]⟩)
    · rintro t h' ⟨rfl, htr⟩
      refine CondP.intro (fun h3 => ?_) fun h3 => ?_
      · obtain ⟨h4, h5⟩ := htr.1 h3
        refine hs2.swap (i := j) (j := j - 1) rfl (by rw [w64 (by omega)]; omega) (by omega) (by omega) fun h6 hs6 hu6 => ?_
        refine hI2 (j - 1, swp d2 j (j - 1)) _ _ ⟨by rw [w64 (by omega)]; simp only; omega, hs6, by simp [hz2], ?_, hu2.tr hu6, by simp only; omega⟩ (by simp only; omega)
        rw [← hr2]
        obtain ⟨j', rfl⟩ : ∃ j', j = j' + 1 := ⟨j - 1, by omega⟩
        simp only [Nat.add_sub_cancel] at h5 ⊢
        rw [insInner, if_pos (by simp [h5, h4])]
      · have hnot : ¬ (a < j ∧ ltInt d2[j]! d2[j - 1]! = true) := fun hh => by rw [htr.2 hh] at h3; cases h3
        have hin : insInner ltInt a j d2 = d2 := by
          cases j with
          | zero => rw [insInner]
          | succ j =>
            simp only [Nat.add_sub_cancel] at hnot
            rw [insInner, if_neg (by simpa using hnot)]
        refine hI (i + 1, d2) _ _ ⟨by rw [w64 (by omega)]; rfl, hs2, hz2, ?_, hu2, by simp only; omega⟩ (by simp only; omega)
        rw [← hr1]
        conv => rhs; rw [insOuter]
        rw [if_pos hlt, ← hr2, hin]
  · refine hk _ ?_ hu1
    rw [← hr1, insOuter, if_neg (by omega)]
    exact hs1
end Go.Proofs
