/- A part of the proof that the named laws of this program answer true, whatever the input. -/
import Derived.Test.YtcnejdpagpafgaaGraphSort4
namespace Go.Proofs
open Go.Lift Go.Sort
variable {s : SliceV} {b : Nat} {rest : List Value} {h : Heap} {d : Array Int}
theorem u64w (x : Int) : IntKind.wrap .u64 x = x % 18446744073709551616 := by
  simp [IntKind.wrap, IntKind.bits, IntKind.signed]
theorem u64_range (x : Int) : 0 ≤ IntKind.wrap .u64 x ∧ IntKind.wrap .u64 x < 18446744073709551616 := by
  rw [u64w]; omega
theorem and_le_right (x : Int) {m : Int} (h0 : 0 ≤ m) (hm : m < 18446744073709551616) : 0 ≤ IntKind.wrap .u64 ((BitVec.ofInt (IntKind.bits .u64) x &&& BitVec.ofInt (IntKind.bits .u64) m).toNat : Int) ∧ IntKind.wrap .u64 ((BitVec.ofInt (IntKind.bits .u64) x &&& BitVec.ofInt (IntKind.bits .u64) m).toNat : Int) ≤ m := by
  have h1 : (BitVec.ofInt (IntKind.bits .u64) x &&& BitVec.ofInt (IntKind.bits .u64) m).toNat ≤ (BitVec.ofInt (IntKind.bits .u64) m).toNat := by
    rw [BitVec.toNat_and]; exact Nat.and_le_right
  have h2 : ((BitVec.ofInt (IntKind.bits .u64) m).toNat : Int) = m := by
    show ((BitVec.ofInt 64 m).toNat : Int) = m
    rw [BitVec.toNat_ofInt]
    have : m % ((2 ^ 64 : Nat) : Int) = m := Int.emod_eq_of_lt h0 (by omega)
    rw [this]; omega
  rw [u64w]
  omega
abbrev len8 : ByteArray := ⟨#[0, 1, 2, 2, 3, 3, 3, 3, 4, 4, 4, 4, 4, 4, 4, 4, 5, 5, 5, 5, 5, 5, 5, 5, 5, 5, 5, 5, 5, 5, 5, 5, 6, 6, 6, 6, 6, 6, 6, 6, 6, 6, 6, 6, 6, 6, 6, 6, 6, 6, 6, 6, 6, 6, 6, 6, 6, 6, 6, 6, 6, 6, 6, 6, 7, 7, 7, 7, 7, 7, 7, 7, 7, 7, 7, 7, 7, 7, 7, 7, 7, 7, 7, 7, 7, 7, 7, 7, 7, 7, 7, 7, 7, 7, 7, 7, 7, 7, 7, 7, 7, 7, 7, 7, 7, 7, 7, 7, 7, 7, 7, 7, 7, 7, 7, 7, 7, 7, 7, 7, 7, 7, 7, 7, 7, 7, 7, 7, 8, 8, 8, 8, 8, 8, 8, 8, 8, 8, 8, 8, 8, 8, 8, 8, 8, 8, 8, 8, 8, 8, 8, 8, 8, 8, 8, 8, 8, 8, 8, 8, 8, 8, 8, 8, 8, 8, 8, 8, 8, 8, 8, 8, 8, 8, 8, 8, 8, 8, 8, 8, 8, 8, 8, 8, 8, 8, 8, 8, 8, 8, 8, 8, 8, 8, 8, 8, 8, 8, 8, 8, 8, 8, 8, 8, 8, 8, 8, 8, 8, 8, 8, 8, 8, 8, 8, 8, 8, 8, 8, 8, 8, 8, 8, 8, 8, 8, 8, 8, 8, 8, 8, 8, 8, 8, 8, 8, 8, 8, 8, 8, 8, 8, 8, 8, 8, 8, 8, 8, 8, 8, 8, 8, 8, 8, 8, 8]⟩
theorem len8_ok : ∀ x : Nat, x < 256 → ∃ c : UInt8, len8[x]? = some c ∧ c.toNat ≤ 8 ∧ (1 ≤ x → 2 ^ c.toNat ≤ 2 * x) ∧ (x = 0 → c.toNat = 0) := by
  have key : ∀ x : Fin 256, ∃ c : UInt8, len8[x.val]? = some c ∧ c.toNat ≤ 8 ∧ (1 ≤ x.val → 2 ^ c.toNat ≤ 2 * x.val) ∧ (x.val = 0 → c.toNat = 0) := by
    intro x
    have : ∀ x : Fin 256, (match len8[x.val]? with | some c => decide (c.toNat ≤ 8 ∧ (1 ≤ x.val → 2 ^ c.toNat ≤ 2 * x.val) ∧ (x.val = 0 → c.toNat = 0)) | none => false) = true := by decide +kernel
    have hx := this x
    split at hx
    · rename_i c hc
      exact ⟨c, hc, of_decide_eq_true hx⟩
    · cases hx
  exact fun x hx => key ⟨x, hx⟩
/-- math/bits.Len64, of numbers that are not great. -/
theorem len64_ok {n : Nat} (hn : n < 4294967296) {K : Int → Heap → Prop} (hk : ∀ L : Nat, L ≤ 64 → (1 ≤ n → 2 ^ L ≤ 2 * n) → K (L : Int) h) : HC PG f_math_bits_Len64 [.int .u64 n] [.c (.int .i64)] K h := by
  refine H_math_bits_Len64 n ?_
  unfold F_math_bits_Len64
  have fd : ∀ (x k : Nat), Int.fdiv (x : Int) (2 ^ k) = ((x / 2 ^ k : Nat) : Int) := fun x k => by
    rw [Int.fdiv_eq_ediv_of_nonneg _ (Int.pow_nonneg (by omega))]
    rw [Int.natCast_ediv, Int.natCast_pow]; rfl
  refine Join.intro (fun t h' => h' = h ∧ t = ((n : Int), (0 : Int))) (fun R hR => ?_) ?_
  · exact condP_dec (fun h1 => by omega) fun h1 => hR _ _ ⟨rfl, rfl⟩
  · rintro t h' ⟨rfl, rfl⟩
    refine Join.intro (fun t h2 => h2 = h' ∧ ∃ x s : Nat, t = ((x : Int), (s : Int)) ∧ x * 2 ^ s ≤ n ∧ (1 ≤ n → 1 ≤ x) ∧ x < 65536 ∧ s ≤ 16) (fun R hR => ?_) ?_
    · refine condP_dec (fun h1 => ?_) fun h1 => hR _ _ ⟨rfl, n, 0, rfl, by simp, fun h => h, by have h1 : ¬ (n : Int) ≥ 65536 := h1; omega, by omega⟩
      have h1 : 65536 ≤ n := by have h1 : (n : Int) ≥ 65536 := h1; omega
      refine ⟨by omega, hR _ _ ⟨rfl, n / 2 ^ 16, 16, ?_, Nat.div_mul_le_self .., fun _ => by omega, by omega, by omega⟩⟩
      simp only [Prod.mk.injEq]
      exact ⟨fd n 16, by decide⟩
    · rintro t h2 ⟨rfl, x, s, rfl, hx, hx1, hxb, hsb⟩
      refine Join.intro (fun t h3 => h3 = h2 ∧ ∃ x s : Nat, t = ((x : Int), (s : Int)) ∧ x * 2 ^ s ≤ n ∧ (1 ≤ n → 1 ≤ x) ∧ x < 256 ∧ s ≤ 24) (fun R hR => ?_) ?_
      · refine condP_dec (fun h1 => ?_) fun h1 => hR _ _ ⟨rfl, x, s, rfl, hx, hx1, by have h1 : ¬ (x : Int) ≥ 256 := h1; omega, by omega⟩
        have h1 : 256 ≤ x := by have h1 : (x : Int) ≥ 256 := h1; omega
        refine ⟨by omega, hR _ _ ⟨rfl, x / 2 ^ 8, s + 8, ?_, ?_, fun _ => by omega, by omega, by omega⟩⟩
        · simp only [Prod.mk.injEq]
          exact ⟨fd x 8, by rw [w64 (by omega)]; omega⟩
        · rw [Nat.pow_add, Nat.mul_comm (2 ^ s), ← Nat.mul_assoc]
          exact Nat.le_trans (Nat.mul_le_mul_right _ (Nat.div_mul_le_self ..)) hx
      · rintro t h3 ⟨rfl, x, s, rfl, hx, hx1, hxb, hsb⟩
        obtain ⟨c, hc, hc8, hc1, hc0⟩ := len8_ok x hxb
        have wx : IntKind.wrap .u8 (x : Int) = (x : Int) := by
          simp [IntKind.wrap, IntKind.bits, IntKind.signed]; omega
        show ∃ b10 : UInt8, (0 : Int) ≤ IntKind.wrap .u8 (x : Int) ∧ len8[(IntKind.wrap .u8 (x : Int)).toNat]? = some b10 ∧ _
        rw [wx]
        refine ⟨c, by omega, by simpa using hc, ?_⟩
        have wc : IntKind.wrap .i64 (c.toNat : Int) = (c.toNat : Int) := w64 (by omega)
        have e2 : IntKind.wrap .i64 ((s : Int) + IntKind.wrap .i64 (c.toNat : Int)) = ((s + c.toNat : Nat) : Int) := by rw [wc, w64 (by omega)]; omega
        show K (IntKind.wrap .i64 ((s : Int) + IntKind.wrap .i64 (c.toNat : Int))) h3
        rw [e2]
        refine hk _ (by omega) fun h1 => ?_
        have := hc1 (hx1 h1)
        rw [Nat.pow_add]
        calc 2 ^ s * 2 ^ c.toNat ≤ 2 ^ s * (2 * x) := Nat.mul_le_mul_left _ this
          _ = 2 * (x * 2 ^ s) := by rw [Nat.mul_comm (2 ^ s), Nat.mul_assoc]
          _ ≤ 2 * n := Nat.mul_le_mul_left _ hx
theorem len_ok {n : Nat} (hn : n < 4294967296) {K : Int → Heap → Prop} (hk : ∀ L : Nat, L ≤ 64 → (1 ≤ n → 2 ^ L ≤ 2 * n) → K (L : Int) h) : HC PG f_math_bits_Len [.int .u64 n] [.c (.int .i64)] K h := by
  refine H_math_bits_Len n ?_
  unfold F_math_bits_Len
  exact len64_ok hn hk
theorem nextPow_ok {n : Nat} (h1 : 1 ≤ n) (hn : n ≤ 1000000000) {K : Int → Heap → Prop} (hk : ∀ m : Nat, 1 ≤ m → m ≤ 2 * n → K (m : Int) h) : HC PG f_slices_nextPowerOfTwo [.int .i64 n] [.c (.int .u64)] K h := by
  refine H_slices_nextPowerOfTwo n ?_
  unfold F_slices_nextPowerOfTwo
  rw [show IntKind.wrap .u64 (n : Int) = (n : Int) by rw [u64w]; omega]
  refine len_ok (by omega) fun L hL hp => ⟨by omega, ?_⟩
  have := hp h1
  have e : IntKind.wrap .u64 (1 * 2 ^ (min ((L : Int)).toNat (IntKind.bits .u64))) = ((2 ^ L : Nat) : Int) := by
    rw [u64w, show min ((L : Int)).toNat (IntKind.bits .u64) = L by simp [IntKind.bits]; omega, Int.one_mul]
    have h2 : (2 : Int) ^ L = ((2 ^ L : Nat) : Int) := by simp
    rw [h2]
    generalize 2 ^ L = P at this ⊢
    omega
  rw [e]
  exact hk _ (Nat.one_le_two_pow) this
theorem xorshift_ok {c : Nat} {n : Int} {t : TypeId} (hc : h[c]? = some (.cells #[.int .u64 n] t (0, 0))) {K : Int → Heap → Prop}
    (hk : ∀ h' m, h'[c]? = some (.cells #[.int .u64 m] t (0, 0)) → Upd (· = c) h h' → K m h') : HC PG f_slices_xorshift_Next [.pointer (some ⟨c, 0, none⟩)] [.c (.int .u64)] K h := by
  refine H_slices_xorshift_Next (some ⟨c, 0, none⟩) ?_
  unfold F_slices_xorshift_Next
  have set : ∀ {h : Heap} {n : Int} (m : Int), h[c]? = some (.cells #[.int .u64 n] t (0, 0)) → (hset h ⟨c, 0, none⟩ (.int .u64 m))[c]? = some (.cells #[.int .u64 m] t (0, 0)) ∧ Upd (· = c) h (hset h ⟨c, 0, none⟩ (.int .u64 m)) ∧ Wr h ⟨c, 0, none⟩ := fun m hc => by
    refine ⟨?_, Upd.hset _ _ rfl, wr_blk hc (by simp)⟩
    rw [hset_blk hc, set_get hc]; rfl
  have ld : ∀ {h : Heap} {n : Int}, h[c]? = some (.cells #[.int .u64 n] t (0, 0)) → hcell h ⟨c, 0, none⟩ = some (.int .u64 n) := fun hc => by rw [hcell_blk hc]; rfl
  refine ⟨_, rfl, _, ld hc, _, rfl, _, ld hc, by omega, _, rfl, ?_⟩
  obtain ⟨s1, k1, w1⟩ := set _ hc
  refine ⟨w1, _, rfl, _, ld s1, _, rfl, _, ld s1, by omega, _, rfl, ?_⟩
  obtain ⟨s2, k2, w2⟩ := set _ s1
  refine ⟨w2, _, rfl, _, ld s2, _, rfl, _, ld s2, by omega, _, rfl, ?_⟩
  obtain ⟨s3, k3, w3⟩ := set _ s2
  exact ⟨w3, _, rfl, _, ld s3, hk _ _ s3 ((k1.tr k2).tr k3)⟩
theorem breakPatterns_ok {a e : Nat} (hs : SA s b rest h d) (ha : a ≤ e) (he : e ≤ d.size) {K : Unit → Heap → Prop} (hk : ∀ h' d', SA s b rest h' d' → PermIn a e d d' → Upd (· = b) h h' → K () h') :
    HC PG f_slices_breakPatternsOrdered_u32 [.slice s.a s.len s.cap, .int .i64 a, .int .i64 e] [] K h := by
  refine H_slices_breakPatternsOrdered_u32 s a e ?_
  unfold F_slices_breakPatternsOrdered_u32
  have hsm := hs.small
  have wl : IntKind.wrap .i64 ((e : Int) - (a : Int)) = ((e - a : Nat) : Int) := by rw [w64 (by omega)]; omega
  rw [wl]
  refine condP_dec (fun h8 => ?_) fun h8 => hk h d hs (permIn_refl ..) (Upd.refl _ _)
  have h8 : 8 ≤ e - a := by omega
  have k0 := Upd.hnew No h [.int .u64 0] t_slices_xorshift
  have hc0 := hnew_get h [.int .u64 0] t_slices_xorshift
  have hs0 := hs.upd k0 id
  have hbl := get_lt hs.blk
  have hcb : h.size ≠ b := by omega
  simp only [At, newA_eq]
  generalize hnew h [.int .u64 0] t_slices_xorshift = h0 at k0 hc0 hs0
  refine ⟨wr_blk hc0 (by simp), ?_⟩
  have k1 : Upd (· = h.size) h0 (hset h0 ⟨h.size, 0, none⟩ (.int .u64 (IntKind.wrap .u64 ((e - a : Nat) : Int)))) := Upd.hset _ _ rfl
  have hc1 : (hset h0 ⟨h.size, 0, none⟩ (.int .u64 (IntKind.wrap .u64 ((e - a : Nat) : Int))))[h.size]? = some (.cells #[.int .u64 (IntKind.wrap .u64 ((e - a : Nat) : Int))] t_slices_xorshift (0, 0)) := by
    rw [hset_blk hc0, set_get hc0]; rfl
  have hs1 := hs0.upd k1 fun e => hcb e.symm
  generalize hset h0 ⟨h.size, 0, none⟩ (.int .u64 (IntKind.wrap .u64 ((e - a : Nat) : Int))) = h1 at k1 hc1 hs1
  refine nextPow_ok (by omega) (by omega) fun m hm1 hm2 => ⟨by decide, ?_⟩
  have wq : IntKind.wrap .i64 (IntKind.wrap .i64 (Int.tdiv ((e - a : Nat) : Int) 4) * 2) = (((e - a) / 4 * 2 : Nat) : Int) := by
    rw [Int.tdiv_eq_ediv_of_nonneg (by omega), w64 (x := ((e - a : Nat) : Int) / 4) (by omega), w64 (by omega)]; omega
  simp only [Bd]
  rw [wq]
  have w0 : IntKind.wrap .i64 (IntKind.wrap .i64 ((a : Int) + (((e - a) / 4 * 2 : Nat) : Int)) - 1) = ((a + (e - a) / 4 * 2 - 1 : Nat) : Int) := by
    rw [w64 (x := (a : Int) + _) (by omega), w64 (by omega)]; omega
  have w2 : IntKind.wrap .i64 (IntKind.wrap .i64 ((a : Int) + (((e - a) / 4 * 2 : Nat) : Int)) + 1) = ((a + (e - a) / 4 * 2 + 1 : Nat) : Int) := by
    rw [w64 (x := (a : Int) + _) (by omega), w64 (by omega)]; omega
  rw [w0]
  refine LoopP.ghost (fun (g : Nat × Array Int) (t : Int) h' => t = (g.1 : Int) ∧ SA s b rest h' g.2 ∧ PermIn a e d g.2 ∧ Upd (· = b) h h' ∧ (∃ n, h'[h.size]? = some (.cells #[.int .u64 n] t_slices_xorshift (0, 0))) ∧ a + (e - a) / 4 * 2 - 1 ≤ g.1 ∧ g.1 ≤ a + (e - a) / 4 * 2 + 2) (fun g => a + (e - a) / 4 * 2 + 2 - g.1) (a + (e - a) / 4 * 2 - 1, d)
    ⟨rfl, hs1, permIn_refl .., k0.wide.trans k1 fun x hx => .inr (by omega), ⟨_, hc1⟩, Nat.le_refl _, by simp only; omega⟩ ?_
  rintro I ⟨i, d1⟩ t h2 ⟨ht, hs2, hp2, hu2, ⟨n2, hc2⟩, hi1, hi2⟩ hI
  simp only at ht hs2 hp2 hi1 hi2
  subst ht
  have hz : d1.size = d.size := hp2.1
  refine ⟨by decide, ?_⟩
  rw [w2]
  refine condP_dec (fun hle => ?_) fun hgt => hk h2 d1 hs2 hp2 hu2
  have hle : i ≤ a + (e - a) / 4 * 2 + 1 := by omega
  refine xorshift_ok hc2 fun h3 r hc3 hu3 => ?_
  have hs3 := hs2.upd hu3 fun e => hcb e.symm
  have wm : IntKind.wrap .u64 ((m : Int) - 1) = ((m - 1 : Nat) : Int) := by rw [u64w]; omega
  rw [wm]
  obtain ⟨a0, a1⟩ := and_le_right r (m := ((m - 1 : Nat) : Int)) (by omega) (by omega)
  generalize IntKind.wrap .u64 ((BitVec.ofInt (IntKind.bits .u64) r &&& BitVec.ofInt (IntKind.bits .u64) ((m - 1 : Nat) : Int)).toNat : Int) = o at a0 a1
  have wo : IntKind.wrap .i64 o = o := w64 (by omega)
  refine Join.intro (fun t h' => h' = h3 ∧ ∃ q : Nat, t = (q : Int) ∧ q < e - a) (fun R hR => ?_) ?_
  · show CondP (decide (IntKind.wrap .i64 o ≥ ((e - a : Nat) : Int))) _ _
    rw [wo]
    refine condP_dec (fun h4 => hR _ _ ⟨rfl, (o - ((e - a : Nat) : Int)).toNat, ?_, by omega⟩) fun h4 => hR _ _ ⟨rfl, o.toNat, by omega, by omega⟩
    show IntKind.wrap .i64 (o - ((e - a : Nat) : Int)) = _
    rw [w64 (by omega)]; omega
  · rintro t h' ⟨rfl, q, rfl, hq⟩
    have wj : IntKind.wrap .i64 ((a : Int) + (q : Int)) = ((a + q : Nat) : Int) := by rw [w64 (by omega)]; omega
    refine hs3.swap (i := i) (j := a + q) rfl wj (by omega) (by omega) fun h5 hs5 hu5 => ?_
    refine hI (i + 1, swp d1 i (a + q)) _ _ ⟨by rw [w64 (by omega)]; rfl, hs5, permIn_trans _ _ _ _ _ hp2 (swp_permIn d1 a e i (a + q) (by omega) (by omega) (by omega) (by omega) (by omega)), ?_, ⟨r, hu5.get hc3 hcb⟩, by simp only; omega, by simp only; omega⟩ (by simp only; omega)
    exact (hu2.trans hu3 fun x hx => .inr (by omega)).tr hu5
end Go.Proofs
