/- A part of the proof that the named laws of this program answer true, whatever the input. -/
import Derived.Test.YtfbbjmjfkopdnaaGreatPart1
namespace Go.Proofs
open Go.Lift
def insR (p : Pr) : List Pr → List Pr
  | [] => [p]
  | q :: l => if kl q.1 p.1 then q :: insR p l else if q.1 = p.1 then p :: l else p :: q :: l
theorem insR_cons (p q : Pr) (l : List Pr) : insR p (q :: l) = if kl q.1 p.1 then q :: insR p l else if q.1 = p.1 then p :: l else p :: q :: l := rfl
theorem insP_eq (p : Pr) : ∀ {l : List Pr}, Rises l → insP l p = insR p l
  | [], _ => by simp [insP, insR, pos, there]
  | q :: l, hr => by
    have hr := List.pairwise_cons.1 hr
    unfold insR
    have hpos : pos (q :: l) p.1 = if kl q.1 p.1 then pos l p.1 + 1 else 0 := by
      unfold pos; rw [List.takeWhile_cons]
      by_cases h : kl q.1 p.1
      · rw [if_pos (by simpa using h), if_pos h]; rfl
      · rw [if_neg (by simpa using h), if_neg h]; rfl
    have hth : there (q :: l) p.1 = (decide (q.1 = p.1) || there l p.1) := by unfold there; rw [List.any_cons]
    by_cases h : kl q.1 p.1
    · have hne : q.1 ≠ p.1 := fun e => by rw [e] at h; exact kl_irrefl _ h
      rw [if_pos h, ← insP_eq p hr.2]
      unfold insP
      rw [hth, hpos, if_pos h, decide_eq_false hne, Bool.false_or]
      by_cases ht : there l p.1 = true
      · rw [if_pos ht, if_pos ht]; rfl
      · rw [if_neg ht, if_neg ht]; rfl
    · rw [if_neg h]
      unfold insP
      rw [hth, hpos, if_neg h]
      by_cases e : q.1 = p.1
      · rw [if_pos e, decide_eq_true e, Bool.true_or, if_pos rfl]; rfl
      · have hgt := kl_tri h e
        have ht : there l p.1 = false := by
          unfold there
          rw [List.any_eq_false]
          intro r hr' e2
          have e2 := of_decide_eq_true e2
          have := hr.1 r hr'
          rw [e2] at this
          exact kl_irrefl _ (kl_trans hgt this)
        rw [if_neg e, decide_eq_false e, ht]; rfl
theorem mem_insR {p q : Pr} : ∀ {l : List Pr}, q ∈ insR p l → q = p ∨ q ∈ l
  | [], h => by simp [insR] at h; exact .inl h
  | r :: l, h => by
    unfold insR at h
    split at h
    · rcases List.mem_cons.1 h with h | h
      · exact .inr (h ▸ List.mem_cons_self ..)
      · exact (mem_insR h).imp id fun h => List.mem_cons_of_mem _ h
    · split at h
      · rcases List.mem_cons.1 h with h | h
        · exact .inl h
        · exact .inr (List.mem_cons_of_mem _ h)
      · rcases List.mem_cons.1 h with h | h
        · exact .inl h
        · exact .inr h
theorem rises_ins (p : Pr) : ∀ {l : List Pr}, Rises l → Rises (insR p l)
  | [], _ => List.pairwise_singleton ..
  | q :: l, hr => by
    have hr' := hr
    have hr := List.pairwise_cons.1 hr
    unfold insR
    split
    · rename_i h
      refine List.pairwise_cons.2 ⟨fun r hm => ?_, rises_ins p hr.2⟩
      rcases mem_insR hm with rfl | hm
      · exact h
      · exact hr.1 r hm
    · rename_i h
      split
      · rename_i e
        exact List.pairwise_cons.2 ⟨fun r hm => e ▸ hr.1 r hm, hr.2⟩
      · rename_i e
        have hgt := kl_tri h e
        refine List.pairwise_cons.2 ⟨fun r hm => ?_, hr'⟩
        rcases List.mem_cons.1 hm with rfl | hm
        · exact hgt
        · exact kl_trans hgt (hr.1 r hm)
theorem filter_ins (p : Pr) (g : ByteArray → Bool) : ∀ {l : List Pr}, Rises l → (insR p l).filter (fun q => g q.1) = if g p.1 then insR p (l.filter fun q => g q.1) else l.filter fun q => g q.1
  | [], _ => by
    unfold insR
    rw [List.filter_cons, List.filter_nil]
  | q :: l, hr => by
    have hr' := hr
    have hr := List.pairwise_cons.1 hr
    have ih := filter_ins p g hr.2
    rw [insR_cons]
    by_cases h : kl q.1 p.1
    · rw [if_pos h, List.filter_cons, List.filter_cons, ih]
      by_cases hq : g q.1 = true
      · rw [if_pos hq, if_pos hq]
        split
        · rw [insR_cons, if_pos h]
        · rfl
      · rw [if_neg hq, if_neg hq]
    · rw [if_neg h]
      by_cases e : q.1 = p.1
      · rw [if_pos e, List.filter_cons, List.filter_cons, e]
        by_cases hp : g p.1 = true
        · rw [if_pos hp, if_pos hp, if_pos hp, insR_cons, if_neg h, if_pos e]
        · rw [if_neg hp, if_neg hp, if_neg hp]
      · rw [if_neg e]
        have hgt := kl_tri h e
        rw [List.filter_cons]
        by_cases hp : g p.1 = true
        · rw [if_pos hp, if_pos hp]
          have : ∀ r ∈ (q :: l).filter (fun q => g q.1), kl p.1 r.1 := fun r hm => by
            rcases List.mem_cons.1 (List.mem_filter.1 hm).1 with rfl | hm
            · exact hgt
            · exact kl_trans hgt (hr.1 r hm)
          cases hf : (q :: l).filter (fun q => g q.1) with
          | nil => rfl
          | cons r rs =>
            have hpr := this r (by rw [hf]; exact List.mem_cons_self ..)
            rw [insR_cons, if_neg fun hk => kl_irrefl _ (kl_trans hpr hk), if_neg fun e => by rw [e] at hpr; exact kl_irrefl _ hpr]
        · rw [if_neg hp, if_neg hp]
theorem ins_mem {p : Pr} : ∀ {l : List Pr}, Rises l → p ∈ l → insR p l = l
  | q :: l, hr, hm => by
    have hr := List.pairwise_cons.1 hr
    unfold insR
    rcases List.mem_cons.1 hm with rfl | hm
    · rw [if_neg (kl_irrefl _), if_pos rfl]
    · rw [if_pos (hr.1 p hm), ins_mem hr.2 hm]
def ck (x : Hs) (lev : Nat) (k : ByteArray) : Nat := ((hashV x k).toNat >>> (5 * lev)) % 32
theorem ck_lt (x : Hs) (lev : Nat) (k : ByteArray) : ck x lev k < 32 := Nat.mod_lt _ (by omega)
def part (x : Hs) (lev c : Nat) (l : List Pr) : List Pr := l.filter fun p => decide (ck x lev p.1 = c)
def TrieAt (W : Nat → Prop) (x : Hs) (h : Heap) : Nat → Nat → List Pr → Prop
  | 0, b, l => BuckAt W h b l
  | m + 1, b, l => ∃ s, NodeAt W h b s ∧ ∀ c, c < 32 →
      ((part x (12 - m) c l = [] ∧ s.p c = none ∧ s.k c = none) ∨ (∃ p, part x (12 - m) c l = [p] ∧ s.p c = some p ∧ s.k c = none) ∨
       (2 ≤ (part x (12 - m) c l).length ∧ s.p c = none ∧ ∃ kb, s.k c = some (some ⟨kb, 0, none⟩) ∧ TrieAt W x h m kb (part x (12 - m) c l)))
theorem TrieAt.upd0 {W : Nat → Prop} {x : Hs} {h h' : Heap} (k : Upd No h h') : ∀ {m b : Nat} {l : List Pr}, TrieAt W x h m b l → TrieAt W x h' m b l
  | 0, _, _, t => BuckAt.upd t k fun _ h => h.elim
  | m + 1, _, _, ⟨s, nd, hc⟩ => ⟨s, nd.upd k fun _ h => h.elim, fun c hc' => (hc c hc').imp id fun o => o.imp id fun ⟨h1, h2, kb, h3, h4⟩ => ⟨h1, h2, kb, h3, TrieAt.upd0 k h4⟩⟩
theorem NodeAt.less {W W' : Nat → Prop} {h : Heap} {b : Nat} {s : Slots} (n : NodeAt W h b s) (hm : ∀ b, W' b → W b ∨ h.size ≤ b) : NodeAt W' h b s := by
  obtain ⟨d, m, sp, sk, ow, h1, h2, h3, h4, h5, h6⟩ := n.ex
  exact ⟨⟨d, m, sp, sk, ow, h1, h2, h3.less hm, h4.less hm, h5, h6⟩, fun hx => (hm _ hx).elim n.nw fun h => by have := get_lt h1; omega⟩
theorem BuckAt.less {W W' : Nat → Prop} {h : Heap} {b : Nat} {l : List Pr} (n : BuckAt W h b l) (hm : ∀ b, W' b → W b ∨ h.size ≤ b) : BuckAt W' h b l := by
  obtain ⟨sp, sk, ow, h1, h3, h4, h5, h6⟩ := n.ex
  exact ⟨⟨sp, sk, ow, h1, h3.less hm, h4.less hm, h5, h6⟩, fun hx => (hm _ hx).elim n.nw fun h => by have := get_lt h1; omega⟩
theorem TrieAt.less {W W' : Nat → Prop} {x : Hs} {h : Heap} (hm : ∀ b, W' b → W b ∨ h.size ≤ b) : ∀ {m b : Nat} {l : List Pr}, TrieAt W x h m b l → TrieAt W' x h m b l
  | 0, _, _, t => BuckAt.less t hm
  | m + 1, _, _, ⟨s, nd, hc⟩ => ⟨s, nd.less hm, fun c hc' => (hc c hc').imp id fun o => o.imp id fun ⟨h1, h2, kb, h3, h4⟩ => ⟨h1, h2, kb, h3, TrieAt.less hm h4⟩⟩
theorem TrieAt.updM {W M : Nat → Prop} {x : Hs} {h h' : Heap} (k : Upd M h h') (hm : ∀ b, M b → W b ∨ h.size ≤ b) : ∀ {m b : Nat} {l : List Pr}, TrieAt W x h m b l → TrieAt W x h' m b l
  | 0, _, _, t => BuckAt.upd t k hm
  | m + 1, _, _, ⟨s, nd, hc⟩ => ⟨s, nd.upd k hm, fun c hc' => (hc c hc').imp id fun o => o.imp id fun ⟨h1, h2, kb, h3, h4⟩ => ⟨h1, h2, kb, h3, TrieAt.updM k hm h4⟩⟩
end Go.Proofs
namespace Go.Proofs
open Go.Lift
theorem and64n (a b : Nat) : (BitVec.ofInt (IntKind.bits .u64) (a : Int) &&& BitVec.ofInt (IntKind.bits .u64) (b : Int)).toNat = (a % 18446744073709551616) &&& (b % 18446744073709551616) := by
  simp [IntKind.bits, BitVec.toNat_and, BitVec.toNat_ofInt]; rfl
theorem at_ok {hv : Int} (h0 : 0 ≤ hv ∧ hv < 18446744073709551616) {lev : Nat} (hl : lev < 13) {h : Heap} {K : Int → Heap → Prop} (hk : K (((hv.toNat >>> (5 * lev)) % 32 : Nat) : Int) h) : HC PG f_chunk_At [.int .u64 hv, .int .i64 lev] [.c (.int .i64)] K h := by
  refine H_chunk_At hv lev ?_
  unfold F_chunk_At
  refine Join.plain (condP_dec (fun h => by omega) fun _ => ?_)
  rw [decide_eq_false (by omega)]
  refine condP_false.2 ?_
  have e5 : IntKind.wrap .i64 (5 * (lev : Int)) = ((5 * lev : Nat) : Int) := by rw [w64 (by omega)]; omega
  rw [e5]
  have em : min (((5 * lev : Nat) : Int)).toNat (IntKind.bits .u64) = 5 * lev := by rw [Int.toNat_natCast]; exact Nat.min_eq_left (by show 5 * lev ≤ 64; omega)
  rw [em]
  obtain ⟨n, rfl⟩ := Int.eq_ofNat_of_zero_le h0.1
  rw [Int.toNat_natCast] at hk
  simp only [Bd]
  rw [fdiv_shift]
  have hlt : n >>> (5 * lev) < 18446744073709551616 := Nat.lt_of_le_of_lt (Nat.shiftRight_le _ _) (by omega)
  have e := and64n (n >>> (5 * lev)) 31
  rw [Nat.mod_eq_of_lt hlt, show ((31 : Nat) : Int) = (31 : Int) from rfl, show 31 % 18446744073709551616 = 2 ^ 5 - 1 from rfl, Nat.and_two_pow_sub_one_eq_mod] at e
  rw [e]
  have hm : n >>> (5 * lev) % 2 ^ 5 < 32 := Nat.mod_lt _ (by omega)
  rw [Go.IntWalk.u64_in _ (by omega), w64 (by omega)]
  exact ⟨by omega, hk⟩
theorem ckAt {x : Hs} {k : ByteArray} {lev : Nat} (hl : lev < 13) {h : Heap} {K : Int → Heap → Prop} (hk : K (ck x lev k : Int) h) : HC PG f_chunk_At [.int .u64 (hashV x k), .int .i64 lev] [.c (.int .i64)] K h := at_ok (hash_bounds x k) hl hk
abbrev workV (x : Hs) (k : ByteArray) : Value := .agg #[.int .u64 x.k0, .int .u64 x.k1, .int .u64 x.mask, .pointer none, .string k, .int .u64 (hashV x k)]
theorem part_all {x : Hs} {lev c : Nat} {l : List Pr} (h : ∀ p ∈ l, ck x lev p.1 = c) : part x lev c l = l := List.filter_eq_self.2 fun p hp => decide_eq_true (h p hp)
theorem part_no {x : Hs} {lev c : Nat} {l : List Pr} (h : ∀ p ∈ l, ck x lev p.1 ≠ c) : part x lev c l = [] := List.filter_eq_nil_iff.2 fun p hp => by simpa using h p hp
theorem part_ins {x : Hs} {lev c : Nat} {p : Pr} {l : List Pr} (hr : Rises l) : part x lev c (insR p l) = if ck x lev p.1 = c then insR p (part x lev c l) else part x lev c l := by
  have := filter_ins p (fun k => decide (ck x lev k = c)) hr
  unfold part
  rw [this]
  by_cases h : ck x lev p.1 = c
  · rw [if_pos h, if_pos (decide_eq_true h)]
  · rw [if_neg h, if_neg (by simpa using h)]
theorem two_len {p q : Pr} (h : p.1 ≠ q.1) : (insR q [p]).length = 2 := by
  rw [insR_cons]
  by_cases hk : kl p.1 q.1
  · rw [if_pos hk]; rfl
  · rw [if_neg hk, if_neg h]; rfl
theorem mem_two {p q r : Pr} (h : r ∈ insR q [p]) : r = p ∨ r = q := (mem_insR h).symm.imp (fun h => List.mem_singleton.1 h) id
theorem upd_other {β : Type} {g : Nat → Option β} {i c : Nat} {x : Option β} (h : c ≠ i) : upd g i x c = g c := by unfold upd; rw [if_neg h]
theorem both_ok {W : Nat → Prop} {x : Hs} : ∀ (m : Nat) (p q : Pr), m ≤ 13 → p.1 ≠ q.1 → ∀ {h : Heap}, (∀ y, W y → y < h.size) → ∀ {K : Option Addr → Heap → Prop}, (∀ h' b', TrieAt W x h' m b' (insR q [p]) → Upd No h h' → K (some ⟨b', 0, none⟩) h') →
    HC PG f_champ_work_both [workV x q.1, .agg #[.string p.1, .string p.2], .agg #[.string q.1, .string q.2], .int .i64 ((13 - m : Nat) : Int)] [.c .ptr] K h := by
  intro m
  induction m with
  | zero =>
    intro p q _ hne h hW K hk
    have gW : ∀ {h'}, Upd No h h' → ∀ y, W y → y < h'.size := fun k y hy => Nat.lt_of_lt_of_le (hW y hy) k.size
    refine H_champ_work_both (x.k0, x.k1, x.mask, none, q.1, hashV x q.1) p q ((13 - 0 : Nat) : Int) ?_
    unfold F_champ_work_both cAt
    have k1 := Upd.hnew No h [.int .u64 x.k0, .int .u64 x.k1, .int .u64 x.mask, .pointer none, .string q.1, .int .u64 (hashV x q.1)] t_champ_work
    have b1 := hnew_get h [.int .u64 x.k0, .int .u64 x.k1, .int .u64 x.mask, .pointer none, .string q.1, .int .u64 (hashV x q.1)] t_champ_work
    refine at_intro ?_
    simp only [newA_eq h]
    generalize hnew h [.int .u64 x.k0, .int .u64 x.k1, .int .u64 x.mask, .pointer none, .string q.1, .int .u64 (hashV x q.1)] t_champ_work = h1 at k1 b1
    have k2 := Upd.hnew No h1 [.string p.1, .string p.2] t_pair_Pair
    have b2 := hnew_get h1 [.string p.1, .string p.2] t_pair_Pair
    refine at_intro ?_
    simp only [newA_eq h1]
    generalize hnew h1 [.string p.1, .string p.2] t_pair_Pair = h2 at k2 b2
    have k3 := Upd.hnew No h2 [.string q.1, .string q.2] t_pair_Pair
    have b3 := hnew_get h2 [.string q.1, .string q.2] t_pair_Pair
    refine at_intro ?_
    simp only [newA_eq h2]
    generalize hnew h2 [.string q.1, .string q.2] t_pair_Pair = h3 at k3 b3
    have w1 : ∀ {h' : Heap}, Upd No h3 h' → ∀ i, hcell h' (adr ⟨h.size, 0, none⟩ i) = (#[.int .u64 x.k0, .int .u64 x.k1, .int .u64 x.mask, .pointer none, .string q.1, .int .u64 (hashV x q.1)] : Array Value)[i]? := fun k i => by
      rw [adr_mk, hcell_blk (k.get0 (k3.get0 (k2.get0 b1))), Nat.zero_add]
    have w2 : ∀ {h' : Heap}, Upd No h3 h' → ∀ i, hcell h' (adr ⟨h1.size, 0, none⟩ i) = (#[.string p.1, .string p.2] : Array Value)[i]? := fun k i => by rw [adr_mk, hcell_blk (k.get0 (k3.get0 b2)), Nat.zero_add]
    have w3 : ∀ {h' : Heap}, Upd No h3 h' → ∀ i, hcell h' (adr ⟨h2.size, 0, none⟩ i) = (#[.string q.1, .string q.2] : Array Value)[i]? := fun k i => by rw [adr_mk, hcell_blk (k.get0 b3), Nat.zero_add]
    have r := Upd.refl No h3
    refine condP_true.2 ⟨none, w1 r 3, p.1, w2 r 0, p.2, w2 r 1, none, w1 r 3, q.1, w3 r 0, q.2, w3 r 1, ?_⟩
    refine bucket_ok (gW ((k1.tr k2).tr k3)) fun h4 b4 bk4 hu4 => ⟨⟨w3 hu4 0, w3 hu4 1⟩, w1 hu4 3, ⟨w2 hu4 0, w2 hu4 1⟩, w1 hu4 3, ?_⟩
    refine bPut_ok bk4 (gW (((k1.tr k2).tr k3).tr hu4)) List.Pairwise.nil (by simp) p fun h5 b5 bk5 hu5 => ?_
    have hu45 := hu4.tr hu5
    refine ⟨⟨w3 hu45 0, w3 hu45 1⟩, w1 hu45 3, ?_⟩
    have e1 : insP [] p = [p] := insP_eq p List.Pairwise.nil
    rw [e1] at bk5
    refine bPut_ok bk5 (gW (((k1.tr k2).tr k3).tr hu45)) (List.pairwise_singleton ..) (by simp) q fun h6 b6 bk6 hu6 => ?_
    rw [insP_eq q (List.pairwise_singleton ..)] at bk6
    exact hk h6 b6 bk6 ((((k1.tr k2).tr k3).tr hu45).tr hu6)
  | succ m ih =>
    intro p q hm hne h hW K hk
    have gW : ∀ {h'}, Upd No h h' → ∀ y, W y → y < h'.size := fun k y hy => Nat.lt_of_lt_of_le (hW y hy) k.size
    have hl : 13 - (m + 1) < 13 := by omega
    have hlev : 13 - (m + 1) = 12 - m := by omega
    refine H_champ_work_both (x.k0, x.k1, x.mask, none, q.1, hashV x q.1) p q ((13 - (m + 1) : Nat) : Int) ?_
    unfold F_champ_work_both cAt
    have k1 := Upd.hnew No h [.int .u64 x.k0, .int .u64 x.k1, .int .u64 x.mask, .pointer none, .string q.1, .int .u64 (hashV x q.1)] t_champ_work
    have b1 := hnew_get h [.int .u64 x.k0, .int .u64 x.k1, .int .u64 x.mask, .pointer none, .string q.1, .int .u64 (hashV x q.1)] t_champ_work
    refine at_intro ?_
    simp only [newA_eq h]
    generalize hnew h [.int .u64 x.k0, .int .u64 x.k1, .int .u64 x.mask, .pointer none, .string q.1, .int .u64 (hashV x q.1)] t_champ_work = h1 at k1 b1
    have k2 := Upd.hnew No h1 [.string p.1, .string p.2] t_pair_Pair
    have b2 := hnew_get h1 [.string p.1, .string p.2] t_pair_Pair
    refine at_intro ?_
    simp only [newA_eq h1]
    generalize hnew h1 [.string p.1, .string p.2] t_pair_Pair = h2 at k2 b2
    have k3 := Upd.hnew No h2 [.string q.1, .string q.2] t_pair_Pair
    have b3 := hnew_get h2 [.string q.1, .string q.2] t_pair_Pair
    refine at_intro ?_
    simp only [newA_eq h2]
    generalize hnew h2 [.string q.1, .string q.2] t_pair_Pair = h3 at k3 b3
    have w1 : ∀ {h' : Heap}, Upd No h3 h' → ∀ i, hcell h' (adr ⟨h.size, 0, none⟩ i) = (#[.int .u64 x.k0, .int .u64 x.k1, .int .u64 x.mask, .pointer none, .string q.1, .int .u64 (hashV x q.1)] : Array Value)[i]? := fun k i => by
      rw [adr_mk, hcell_blk (k.get0 (k3.get0 (k2.get0 b1))), Nat.zero_add]
    have w2 : ∀ {h' : Heap}, Upd No h3 h' → ∀ i, hcell h' (adr ⟨h1.size, 0, none⟩ i) = (#[.string p.1, .string p.2] : Array Value)[i]? := fun k i => by rw [adr_mk, hcell_blk (k.get0 (k3.get0 b2)), Nat.zero_add]
    have w3 : ∀ {h' : Heap}, Upd No h3 h' → ∀ i, hcell h' (adr ⟨h2.size, 0, none⟩ i) = (#[.string q.1, .string q.2] : Array Value)[i]? := fun k i => by rw [adr_mk, hcell_blk (k.get0 b3), Nat.zero_add]
    have r := Upd.refl No h3
    have ne : (((13 - (m + 1) : Nat) : Int) == (13 : Int)) = false := by rw [beq_eq_false_iff_ne]; omega
    rw [ne]
    refine condP_false.2 ⟨_, w1 r 0, _, w1 r 1, _, w1 r 2, _, w2 r 0, _, w1 r 5, ?_⟩
    refine hash_ok fun h4 hu4 => ⟨w1 hu4 5, ckAt hl ⟨w1 hu4 5, ckAt hl ?_⟩⟩
    have hi := ck_lt x (13 - (m + 1)) p.1
    have hj := ck_lt x (13 - (m + 1)) q.1
    have hk03 := ((k1.tr k2).tr k3)
    have hcl := two_len hne
    refine CondP.intro (fun e => ?_) fun e => ?_
    · have e : ck x (13 - (m + 1)) p.1 = ck x (13 - (m + 1)) q.1 := by have := eq_of_beq e; omega
      refine ⟨_, w1 hu4 3, _, w1 hu4 0, _, w1 hu4 1, _, w1 hu4 2, _, w1 hu4 3, _, w1 hu4 4, _, w1 hu4 5, _, w2 hu4 0, _, w2 hu4 1, _, w3 hu4 0, _, w3 hu4 1, ?_⟩
      refine nodeInner_ok (gW (hk03.tr hu4)) fun h5 b5 nd5 hu5 => ?_
      have hu35 := hu4.tr hu5
      refine ⟨⟨w3 hu35 0, w3 hu35 1⟩, ⟨w2 hu35 0, w2 hu35 1⟩, ⟨w1 hu35 0, w1 hu35 1, w1 hu35 2, w1 hu35 3, w1 hu35 4, w1 hu35 5⟩, w1 hu35 3, ?_⟩
      have ew : IntKind.wrap .i64 (((13 - (m + 1) : Nat) : Int) + 1) = ((13 - m : Nat) : Int) := by rw [w64 (by omega)]; omega
      rw [ew]
      refine ih p q (by omega) hne (gW (hk03.tr hu35)) fun h6 b6 t6 hu6 => ?_
      have hu36 := hu35.tr hu6
      refine ⟨w1 hu36 3, ?_⟩
      refine setKid_ok (nd5.upd hu6 fun _ h => h.elim) (gW (hk03.tr hu36)) hi (fun y h => by cases h) ⟨b6, 0, none⟩ fun h7 b7 nd7 hu7 => ?_
      refine hk h7 b7 ⟨_, nd7, fun c hc => ?_⟩ ((hk03.tr hu36).tr hu7)
      rw [hlev] at e
      by_cases hcc : c = ck x (13 - (m + 1)) p.1
      · refine .inr (.inr ?_)
        have ea : part x (12 - m) c (insR q [p]) = insR q [p] := part_all fun r hr => by
          rcases mem_two hr with rfl | rfl
          · rw [hcc, hlev]
          · rw [hcc, hlev, e]
        rw [ea]
        exact ⟨by omega, by simp [upd], b6, by rw [hcc]; exact upd_same, TrieAt.upd0 hu7 t6⟩
      · refine .inl ⟨part_no fun r hr => ?_, by simp [upd], upd_other hcc⟩
        rw [hlev] at hcc
        rcases mem_two hr with rfl | rfl
        · exact fun e => hcc e.symm
        · rw [← e]; exact fun e => hcc e.symm
    · have e : ck x (13 - (m + 1)) p.1 ≠ ck x (13 - (m + 1)) q.1 := fun h => by rw [h] at e; simp at e
      refine ⟨_, w1 hu4 3, _, w2 hu4 0, _, w2 hu4 1, _, w1 hu4 3, _, w3 hu4 0, _, w3 hu4 1, ?_⟩
      refine nodeInner_ok (gW (hk03.tr hu4)) fun h5 b5 nd5 hu5 => ?_
      have hu35 := hu4.tr hu5
      refine ⟨⟨w3 hu35 0, w3 hu35 1⟩, w1 hu35 3, ⟨w2 hu35 0, w2 hu35 1⟩, w1 hu35 3, ?_⟩
      refine setPair_ok nd5 (gW (hk03.tr hu35)) hi (fun y h => by cases h) p fun h6 b6 nd6 hu6 => ?_
      have hu36 := hu35.tr hu6
      refine ⟨⟨w3 hu36 0, w3 hu36 1⟩, w1 hu36 3, ?_⟩
      refine setPair_ok nd6 (gW (hk03.tr hu36)) hj (fun y h => by simp [upd]) q fun h7 b7 nd7 hu7 => ?_
      refine hk h7 b7 ⟨_, nd7, fun c hc => ?_⟩ ((hk03.tr hu36).tr hu7)
      have hpi := part_ins (x := x) (lev := 12 - m) (c := c) (p := q) (l := [p]) (List.pairwise_singleton ..)
      rw [hlev] at e
      by_cases hcp : c = ck x (12 - m) p.1
      · have hcq : ck x (12 - m) q.1 ≠ c := fun h => e (by omega)
        have e1 : part x (12 - m) c [p] = [p] := part_all fun r hr => by rw [List.mem_singleton.1 hr, hcp]
        rw [if_neg hcq, e1] at hpi
        exact .inr (.inl ⟨p, hpi, by simp [upd, hlev, hcp, e], by simp [upd]⟩)
      · have e1 : part x (12 - m) c [p] = [] := part_no fun r hr => by rw [List.mem_singleton.1 hr]; exact fun h => hcp h.symm
        rw [e1] at hpi
        by_cases hcq : c = ck x (12 - m) q.1
        · rw [if_pos hcq.symm] at hpi
          exact .inr (.inl ⟨q, hpi, by simp [upd, hlev, hcq], by simp [upd]⟩)
        · rw [if_neg fun h => hcq h.symm] at hpi
          exact .inl ⟨hpi, by simp [upd, hlev, hcq, hcp], by simp [upd]⟩
end Go.Proofs
namespace Go.Proofs
open Go.Lift
noncomputable instance memDec (p : Pr) (l : List Pr) : Decidable (p ∈ l) := Classical.propDecidable _
theorem rises_uniq {l : List Pr} (hr : Rises l) {k v w : ByteArray} (h1 : (k, v) ∈ l) (h2 : (k, w) ∈ l) : v = w := by
  induction l with
  | nil => cases h1
  | cons q l ih =>
    have hr := List.pairwise_cons.1 hr
    rcases List.mem_cons.1 h1 with e1 | h1 <;> rcases List.mem_cons.1 h2 with e2 | h2
    · exact (Prod.mk.inj (e1.trans e2.symm)).2
    · have := hr.1 _ h2; rw [← e1] at this; exact absurd this (kl_irrefl _)
    · have := hr.1 _ h1; rw [← e2] at this; exact absurd this (kl_irrefl _)
    · exact ih hr.2 h1 h2
theorem mem_part {x : Hs} {lev c : Nat} {l : List Pr} {p : Pr} : p ∈ part x lev c l ↔ p ∈ l ∧ ck x lev p.1 = c := by unfold part; rw [List.mem_filter, decide_eq_true_iff]
theorem there_part {x : Hs} {lev : Nat} {l : List Pr} {k : ByteArray} : there (part x lev (ck x lev k) l) k = there l k := by
  unfold there
  rw [Bool.eq_iff_iff, List.any_eq_true, List.any_eq_true]
  constructor
  · rintro ⟨p, hp, e⟩; exact ⟨p, (mem_part.1 hp).1, e⟩
  · rintro ⟨p, hp, e⟩; exact ⟨p, mem_part.2 ⟨hp, by rw [of_decide_eq_true e]⟩, e⟩
theorem rises_part {x : Hs} {lev c : Nat} {l : List Pr} (hr : Rises l) : Rises (part x lev c l) := hr.sublist List.filter_sublist
theorem part_len {x : Hs} {lev c : Nat} {l : List Pr} : (part x lev c l).length ≤ l.length := List.length_filter_le ..
def SlotIs (W : Nat → Prop) (x : Hs) (h : Heap) (m : Nat) (s : Slots) (c : Nat) (l : List Pr) : Prop :=
  (l = [] ∧ s.p c = none ∧ s.k c = none) ∨ (∃ p, l = [p] ∧ s.p c = some p ∧ s.k c = none) ∨ (2 ≤ l.length ∧ s.p c = none ∧ ∃ kb, s.k c = some (some ⟨kb, 0, none⟩) ∧ TrieAt W x h m kb l)
theorem SlotIs.upd0 {W : Nat → Prop} {x : Hs} {h h' : Heap} {m : Nat} {s : Slots} {c : Nat} {l : List Pr} (k : Upd No h h') (t : SlotIs W x h m s c l) : SlotIs W x h' m s c l := t.imp id fun o => o.imp id fun ⟨h1, h2, kb, h3, h4⟩ => ⟨h1, h2, kb, h3, TrieAt.upd0 k h4⟩
theorem insR_len (p : Pr) : ∀ {l : List Pr}, l.length ≤ (insR p l).length
  | [] => Nat.zero_le _
  | q :: l => by
    rw [insR_cons]; split
    · have := insR_len p (l := l); simp only [List.length_cons]; omega
    · split <;> simp
theorem trie_turn {W : Nat → Prop} {x : Hs} {h h' : Heap} {m b' : Nat} {s s' : Slots} {l : List Pr} {p : Pr} (hr : Rises l) (hu : Upd No h h') (nd : NodeAt W h' b' s') (hs : ∀ c, c < 32 → SlotIs W x h m s c (part x (12 - m) c l))
    (hp : ∀ c, c ≠ ck x (12 - m) p.1 → s'.p c = s.p c ∧ s'.k c = s.k c) (hi : SlotIs W x h' m s' (ck x (12 - m) p.1) (insR p (part x (12 - m) (ck x (12 - m) p.1) l))) : TrieAt W x h' (m + 1) b' (insR p l) := by
  refine ⟨s', nd, fun c hc => ?_⟩
  rw [part_ins hr]
  by_cases e : ck x (12 - m) p.1 = c
  · rw [if_pos e]; subst e; exact hi
  · rw [if_neg e]
    have t := SlotIs.upd0 hu (hs c hc)
    obtain ⟨e1, e2⟩ := hp c fun h => e h.symm
    unfold SlotIs at t
    rw [← e1, ← e2] at t
    exact t
theorem beq_list {a b : ByteArray} : (a.toList == b.toList) = decide (a = b) := by
  rw [Bool.eq_iff_iff, beq_iff_eq, decide_eq_true_iff, bytes_ext]
theorem put_ok {W : Nat → Prop} {x : Hs} : ∀ (m : Nat), m ≤ 13 → ∀ {b : Nat} {l : List Pr} (p : Pr) {h : Heap}, TrieAt W x h m b l → (∀ y, W y → y < h.size) → Rises l → l.length ≤ 1000000 → ∀ {K : (Option Addr) × Bool × Bool → Heap → Prop},
    (∀ h' b' ch, Upd No h h' → TrieAt W x h' m b' (insR p l) → (ch = false → b' = b) → ch = !decide (p ∈ l) → K (some ⟨b', 0, none⟩, !there l p.1, ch) h') →
    HC PG f_champ_work_put [workV x p.1, .pointer (some ⟨b, 0, none⟩), .agg #[.string p.1, .string p.2], .int .i64 ((13 - m : Nat) : Int)] [.c .ptr, .c .bool, .c .bool] K h := by
  intro m
  induction m with
  | zero =>
    intro _ b l p h t hW hr hn K hk
    have gW : ∀ {h'}, Upd No h h' → ∀ y, W y → y < h'.size := fun k y hy => Nat.lt_of_lt_of_le (hW y hy) k.size
    refine H_champ_work_put (x.k0, x.k1, x.mask, none, p.1, hashV x p.1) (some ⟨b, 0, none⟩) p ((13 - 0 : Nat) : Int) ?_
    unfold F_champ_work_put cAt
    have k1 := Upd.hnew No h [.int .u64 x.k0, .int .u64 x.k1, .int .u64 x.mask, .pointer none, .string p.1, .int .u64 (hashV x p.1)] t_champ_work
    have b1 := hnew_get h [.int .u64 x.k0, .int .u64 x.k1, .int .u64 x.mask, .pointer none, .string p.1, .int .u64 (hashV x p.1)] t_champ_work
    refine at_intro ?_
    simp only [newA_eq h]
    generalize hnew h [.int .u64 x.k0, .int .u64 x.k1, .int .u64 x.mask, .pointer none, .string p.1, .int .u64 (hashV x p.1)] t_champ_work = h1 at k1 b1
    have k2 := Upd.hnew No h1 [.string p.1, .string p.2] t_pair_Pair
    have b2 := hnew_get h1 [.string p.1, .string p.2] t_pair_Pair
    refine at_intro ?_
    simp only [newA_eq h1]
    generalize hnew h1 [.string p.1, .string p.2] t_pair_Pair = h2 at k2 b2
    have w1 : ∀ {h' : Heap}, Upd No h2 h' → ∀ i, hcell h' (adr ⟨h.size, 0, none⟩ i) = (#[.int .u64 x.k0, .int .u64 x.k1, .int .u64 x.mask, .pointer none, .string p.1, .int .u64 (hashV x p.1)] : Array Value)[i]? := fun k i => by
      rw [adr_mk, hcell_blk (k.get0 (k2.get0 b1)), Nat.zero_add]
    have w2 : ∀ {h' : Heap}, Upd No h2 h' → ∀ i, hcell h' (adr ⟨h1.size, 0, none⟩ i) = (#[.string p.1, .string p.2] : Array Value)[i]? := fun k i => by rw [adr_mk, hcell_blk (k.get0 b2), Nat.zero_add]
    have r := Upd.refl No h2
    have k02 := k1.tr k2
    have bk : BuckAt W h2 b l := BuckAt.upd t k02 fun _ h => h.elim
    obtain ⟨sp, sk, ow, hb, _⟩ := bk.ex
    refine isBucket_ok hb (condP_true.2 ⟨_, w2 r 0, in_ok bk hr (by omega) p.1 fun h3 v hu3 hv => ?_⟩)
    have put : ∀ (hnot : p ∉ l) {h4 : Heap}, Upd No h2 h4 → HC PG f_node_Node_Put [.pointer (some ⟨b, 0, none⟩), .pointer none, .agg #[.string p.1, .string p.2]] [.c .ptr] (fun (e15 : Option Addr) h16 => K (e15, !there l p.1, true) h16) h4 := fun hnot h4 hu4 =>
      bPut_ok (bk.upd hu4 fun _ h => h.elim) (gW (k02.tr hu4)) hr (by omega) p fun h5 b5 bk5 hu5 => by
        rw [insP_eq p hr] at bk5
        exact hk h5 b5 true ((k02.tr hu4).tr hu5) bk5 (fun h => by cases h) (by rw [decide_eq_false hnot]; rfl)
    refine Join.intro (fun t' h' => t' = decide (p ∈ l) ∧ Upd No h2 h') (fun R hR => ?_) ?_
    · cases ht : there l p.1 with
      | false =>
        refine condP_false.2 (hR _ _ ⟨?_, hu3⟩)
        refine (decide_eq_false fun hm => ?_).symm
        have : there l p.1 = true := List.any_eq_true.2 ⟨p, hm, decide_eq_true rfl⟩
        rw [ht] at this; cases this
      | true =>
        have hv := hv ht
        refine condP_true.2 ⟨_, w2 hu3 1, hR _ _ ⟨?_, hu3⟩⟩
        rw [beq_list, decide_eq_decide]
        constructor
        · intro e
          have e : v = p.2 := e
          rw [e] at hv; exact hv
        · intro hm
          exact rises_uniq hr hv (show (p.1, p.2) ∈ l from hm)
    · rintro t' h4 ⟨rfl, hu4⟩
      by_cases hm : p ∈ l
      · rw [decide_eq_true hm]
        refine condP_true.2 ?_
        have ht : there l p.1 = true := List.any_eq_true.2 ⟨p, hm, decide_eq_true rfl⟩
        have := hk h4 b false (k02.tr hu4) (by rw [ins_mem hr hm]; exact bk.upd hu4 fun _ h => h.elim) (fun _ => rfl) (by rw [decide_eq_true hm]; rfl)
        rw [ht] at this; exact this
      · rw [decide_eq_false hm]
        refine condP_false.2 ⟨none, w1 hu4 3, _, w2 hu4 0, _, w2 hu4 1, put hm hu4⟩
  | succ m ih =>
    intro hm b l p h t hW hr hn K hk
    have gW : ∀ {h'}, Upd No h h' → ∀ y, W y → y < h'.size := fun k y hy => Nat.lt_of_lt_of_le (hW y hy) k.size
    have hl : 13 - (m + 1) < 13 := by omega
    have hlev : 13 - (m + 1) = 12 - m := by omega
    refine H_champ_work_put (x.k0, x.k1, x.mask, none, p.1, hashV x p.1) (some ⟨b, 0, none⟩) p ((13 - (m + 1) : Nat) : Int) ?_
    unfold F_champ_work_put cAt
    have k1 := Upd.hnew No h [.int .u64 x.k0, .int .u64 x.k1, .int .u64 x.mask, .pointer none, .string p.1, .int .u64 (hashV x p.1)] t_champ_work
    have b1 := hnew_get h [.int .u64 x.k0, .int .u64 x.k1, .int .u64 x.mask, .pointer none, .string p.1, .int .u64 (hashV x p.1)] t_champ_work
    refine at_intro ?_
    simp only [newA_eq h]
    generalize hnew h [.int .u64 x.k0, .int .u64 x.k1, .int .u64 x.mask, .pointer none, .string p.1, .int .u64 (hashV x p.1)] t_champ_work = h1 at k1 b1
    have k2 := Upd.hnew No h1 [.string p.1, .string p.2] t_pair_Pair
    have b2 := hnew_get h1 [.string p.1, .string p.2] t_pair_Pair
    refine at_intro ?_
    simp only [newA_eq h1]
    generalize hnew h1 [.string p.1, .string p.2] t_pair_Pair = h2 at k2 b2
    have w1 : ∀ {h' : Heap}, Upd No h2 h' → ∀ i, hcell h' (adr ⟨h.size, 0, none⟩ i) = (#[.int .u64 x.k0, .int .u64 x.k1, .int .u64 x.mask, .pointer none, .string p.1, .int .u64 (hashV x p.1)] : Array Value)[i]? := fun k i => by
      rw [adr_mk, hcell_blk (k.get0 (k2.get0 b1)), Nat.zero_add]
    have w2 : ∀ {h' : Heap}, Upd No h2 h' → ∀ i, hcell h' (adr ⟨h1.size, 0, none⟩ i) = (#[.string p.1, .string p.2] : Array Value)[i]? := fun k i => by rw [adr_mk, hcell_blk (k.get0 b2), Nat.zero_add]
    have r := Upd.refl No h2
    have k02 := k1.tr k2
    obtain ⟨s, nd0, hs0⟩ := TrieAt.upd0 k02 t
    have hs : ∀ c, c < 32 → SlotIs W x h2 m s c (part x (12 - m) c l) := hs0
    have tt : ∀ {h' : Heap}, Upd No h2 h' → TrieAt W x h' (m + 1) b l := fun k => TrieAt.upd0 (k02.tr k) t
    obtain ⟨d0, n0, sp0, sk0, ow0, hb0, _⟩ := nd0.ex
    refine isBucket_ok hb0 (condP_false.2 ⟨_, w1 r 5, ckAt hl ?_⟩)
    rw [hlev]
    have hi := ck_lt x (12 - m) p.1
    have hsi := hs _ hi
    have hrp := rises_part (x := x) (lev := 12 - m) (c := ck x (12 - m) p.1) hr
    have hnp : (part x (12 - m) (ck x (12 - m) p.1) l).length ≤ 1000000 := Nat.le_trans part_len hn
    have hmp : p ∈ part x (12 - m) (ck x (12 - m) p.1) l ↔ p ∈ l := by rw [mem_part]; exact ⟨fun h => h.1, fun h => ⟨h, rfl⟩⟩
    have htp := there_part (x := x) (lev := 12 - m) (l := l) (k := p.1)
    have hturn := fun {h' : Heap} {b' : Nat} {s' : Slots} => trie_turn (W := W) (x := x) (h := h2) (h' := h') (m := m) (b' := b') (s := s) (s' := s') (l := l) (p := p) hr
    generalize hc : ck x (12 - m) p.1 = c at hi hsi hrp hnp hmp htp hturn
    generalize hlp : part x (12 - m) c l = lc at hsi hrp hnp hmp htp hturn
    refine nPair_ok nd0 hi fun h3 hu3 => ?_
    have k4 := Upd.hnew No h3 [.string (⟨#[]⟩ : ByteArray), .string (⟨#[]⟩ : ByteArray)] t_pair_Pair
    have b4 := hnew_get h3 [.string (⟨#[]⟩ : ByteArray), .string (⟨#[]⟩ : ByteArray)] t_pair_Pair
    refine at_intro ?_
    simp only [newA_eq h3]
    generalize hnew h3 [.string (⟨#[]⟩ : ByteArray), .string (⟨#[]⟩ : ByteArray)] t_pair_Pair = h4 at k4 b4
    have b4' : h4[h3.size]? = some (.cells #[.string zPr.1, .string zPr.2] t_pair_Pair (0, 0)) := b4
    refine prVar (p := gotP (s.p c)) b4' fun h5 b5 hu5 => ?_
    have hu25 : Upd No h2 h5 := (hu3.tr k4).trans hu5 fun y hy => .inr (by have hy : y = h3.size := hy; have := hu3.size; omega)
    have w5 : ∀ {h' : Heap}, Upd No h5 h' → ∀ i, hcell h' (adr ⟨h3.size, 0, none⟩ i) = (#[.string (gotP (s.p c)).1, .string (gotP (s.p c)).2] : Array Value)[i]? := fun k i => by rw [adr_mk, hcell_blk (k.get0 b5), Nat.zero_add]
    have r5 := Upd.refl No h5
    have nd5 := nd0.upd hu25 fun _ h => h.elim
    cases hsp : s.p c with
    | some y =>
      rw [hsp] at w5
      obtain ⟨hone, hk0⟩ : lc = [y] ∧ s.k c = none := by
        rcases hsi with ⟨_, h2, _⟩ | ⟨q, h1, h2, h3⟩ | ⟨_, h2, _⟩
        · rw [hsp] at h2; cases h2
        · rw [hsp] at h2; cases h2; exact ⟨h1, h3⟩
        · rw [hsp] at h2; cases h2
      refine condP_true.2 ⟨y.1, w5 r5 0, y.2, w5 r5 1, p.1, w2 hu25 0, p.2, w2 hu25 1, ?_⟩
      rw [beq_list, beq_list]
      have hyl : y ∈ l := (mem_part.1 (show y ∈ part x (12 - m) c l by rw [hlp, hone]; exact List.mem_singleton.2 rfl)).1
      by_cases e1 : y.1 = p.1
      · have ht : there l p.1 = true := List.any_eq_true.2 ⟨y, hyl, decide_eq_true e1⟩
        rw [ht] at hk
        by_cases e2 : y.2 = p.2
        · rw [decide_eq_true e1, decide_eq_true e2]
          have hyp : y = p := Prod.ext e1 e2
          have hml : p ∈ l := hyp ▸ hyl
          refine condP_true.2 ?_
          exact hk h5 b false (k02.tr hu25) (by rw [ins_mem hr hml]; exact tt hu25) (fun _ => rfl) (by rw [decide_eq_true hml]; rfl)
        · rw [decide_eq_true e1, decide_eq_false e2]
          refine condP_false.2 ⟨y.1, w5 r5 0, p.1, w2 hu25 0, ?_⟩
          rw [beq_list, decide_eq_true e1]
          refine condP_true.2 ⟨none, w1 hu25 3, p.1, w2 hu25 0, p.2, w2 hu25 1, ?_⟩
          refine setPair_ok nd5 (gW (k02.tr hu25)) hi (fun _ _ => hk0) p fun h6 b6 nd6 hu6 => ?_
          have hnl : p ∉ l := fun hm => by
            have := hmp.2 hm
            rw [hone] at this
            exact e2 (by rw [List.mem_singleton.1 this])
          refine hk h6 b6 true ((k02.tr hu25).tr hu6) (hturn (hu25.tr hu6) nd6 hs (fun c' hc' => ⟨upd_other hc', upd_other hc'⟩) ?_) (fun h => by cases h) (by rw [decide_eq_false hnl]; rfl)
          refine .inr (.inl ⟨p, ?_, upd_same, upd_same⟩)
          rw [hone, insR_cons, if_neg (by rw [e1]; exact kl_irrefl _), if_pos e1]
      · rw [decide_eq_false e1]
        refine condP_false.2 ⟨y.1, w5 r5 0, p.1, w2 hu25 0, ?_⟩
        rw [beq_list, decide_eq_false e1]
        refine condP_false.2 ⟨none, w1 hu25 3, _, w1 hu25 0, _, w1 hu25 1, _, w1 hu25 2, _, w1 hu25 3, _, w1 hu25 4, _, w1 hu25 5, y.1, w5 r5 0, y.2, w5 r5 1, p.1, w2 hu25 0, p.2, w2 hu25 1, ?_⟩
        have ew : IntKind.wrap .i64 (((12 - m : Nat) : Int) + 1) = ((13 - m : Nat) : Int) := by rw [w64 (by omega)]; omega
        rw [ew]
        refine both_ok m y p (by omega) e1 (gW (k02.tr hu25)) fun h6 b6 t6 hu6 => ⟨w1 (hu25.tr hu6) 3, ?_⟩
        refine setKid_ok (nd5.upd hu6 fun _ h => h.elim) (gW ((k02.tr hu25).tr hu6)) hi (fun z hz => by rw [hk0] at hz; cases hz) ⟨b6, 0, none⟩ fun h7 b7 nd7 hu7 => ?_
        have ht : there l p.1 = false := by
          rw [← htp, hone]
          unfold there
          rw [List.any_cons, decide_eq_false e1]; rfl
        have hnl : p ∉ l := fun hm => by
          have : there l p.1 = true := List.any_eq_true.2 ⟨p, hm, decide_eq_true rfl⟩
          rw [ht] at this; cases this
        rw [ht] at hk
        refine hk h7 b7 true (((k02.tr hu25).tr hu6).tr hu7) (hturn ((hu25.tr hu6).tr hu7) nd7 hs (fun c' hc' => ⟨upd_other hc', upd_other hc'⟩) ?_) (fun h => by cases h) (by rw [decide_eq_false hnl]; rfl)
        rw [hone]
        exact .inr (.inr ⟨by rw [two_len e1]; omega, upd_same, b6, upd_same, TrieAt.upd0 hu7 t6⟩)
    | none =>
      refine condP_false.2 (nKid_ok nd5 hi ?_)
      cases hsk : s.k c with
      | none =>
        have hlc : lc = [] := by
          rcases hsi with ⟨h1, _⟩ | ⟨q, _, h2, _⟩ | ⟨_, _, kb, h2, _⟩
          · exact h1
          · rw [hsp] at h2; cases h2
          · rw [hsk] at h2; cases h2
        refine condP_true.2 ⟨none, w1 hu25 3, p.1, w2 hu25 0, p.2, w2 hu25 1, ?_⟩
        refine setPair_ok nd5 (gW (k02.tr hu25)) hi (fun _ _ => hsk) p fun h6 b6 nd6 hu6 => ?_
        have ht : there l p.1 = false := by rw [← htp, hlc]; rfl
        have hnl : p ∉ l := fun hm => by
          have : there l p.1 = true := List.any_eq_true.2 ⟨p, hm, decide_eq_true rfl⟩
          rw [ht] at this; cases this
        rw [ht] at hk
        refine hk h6 b6 true ((k02.tr hu25).tr hu6) (hturn (hu25.tr hu6) nd6 hs (fun c' hc' => ⟨upd_other hc', upd_other hc'⟩) ?_) (fun h => by cases h) (by rw [decide_eq_false hnl]; rfl)
        rw [hlc]
        exact .inr (.inl ⟨p, rfl, upd_same, upd_same⟩)
      | some kp =>
        obtain ⟨h2l, kb, rfl, tk⟩ : 2 ≤ lc.length ∧ ∃ kb, kp = some ⟨kb, 0, none⟩ ∧ TrieAt W x h2 m kb lc := by
          rcases hsi with ⟨_, _, h2⟩ | ⟨q, _, h2, _⟩ | ⟨h1, _, kb, h2, h3⟩
          · rw [hsk] at h2; cases h2
          · rw [hsp] at h2; cases h2
          · rw [hsk] at h2; cases h2; exact ⟨h1, kb, rfl, h3⟩
        refine condP_false.2 ⟨_, w1 hu25 0, _, w1 hu25 1, _, w1 hu25 2, _, w1 hu25 3, _, w1 hu25 4, _, w1 hu25 5, p.1, w2 hu25 0, p.2, w2 hu25 1, ?_⟩
        have ew : IntKind.wrap .i64 (((12 - m : Nat) : Int) + 1) = ((13 - m : Nat) : Int) := by rw [w64 (by omega)]; omega
        rw [ew]
        refine ih (by omega) p (TrieAt.upd0 hu25 tk) (gW (k02.tr hu25)) hrp hnp fun h6 b6 ch hu6 t6 hsame hch => ?_
        have hu26 := hu25.tr hu6
        by_cases hml : p ∈ l
        · have hch : ch = false := by rw [hch, decide_eq_true (hmp.2 hml)]; rfl
          have ht : there l p.1 = true := List.any_eq_true.2 ⟨p, hml, decide_eq_true rfl⟩
          rw [ht] at hk
          rw [hch]
          refine condP_true.2 ?_
          exact hk h6 b false (k02.tr hu26) (by rw [ins_mem hr hml]; exact tt hu26) (fun _ => rfl) (by rw [decide_eq_true hml]; rfl)
        · have hch : ch = true := by rw [hch, decide_eq_false fun h => hml (hmp.1 h)]; rfl
          rw [hch]
          refine condP_false.2 ⟨none, w1 hu26 3, ?_⟩
          refine setKid_ok (nd5.upd hu6 fun _ h => h.elim) (gW ((k02.tr hu25).tr hu6)) hi (fun _ _ => hsp) ⟨b6, 0, none⟩ fun h7 b7 nd7 hu7 => ?_
          rw [htp]
          refine hk h7 b7 true ((k02.tr hu26).tr hu7) (hturn (hu26.tr hu7) nd7 hs (fun c' hc' => ⟨upd_other hc', upd_other hc'⟩) ?_) (fun h => by cases h) (by rw [decide_eq_false hml]; rfl)
          exact .inr (.inr ⟨Nat.le_trans h2l (insR_len p), upd_same, b6, upd_same, TrieAt.upd0 hu7 t6⟩)
end Go.Proofs
namespace Go.Proofs
open Go.Lift
theorem trie_nil {W : Nat → Prop} {x : Hs} {h : Heap} {m b : Nat} (nd : NodeAt W h b ⟨fun _ => none, fun _ => none⟩) : TrieAt W x h (m + 1) b [] := ⟨_, nd, fun _ _ => .inl ⟨rfl, rfl, rfl⟩⟩
def RootAt (W : Nat → Prop) (x : Hs) (h : Heap) (r : Option Addr) (l : List Pr) : Prop := (r = none ∧ l = []) ∨ ∃ b, r = some ⟨b, 0, none⟩ ∧ TrieAt W x h 13 b l
theorem RootAt.upd0 {W : Nat → Prop} {x : Hs} {h h' : Heap} {r : Option Addr} {l : List Pr} (k : Upd No h h') (t : RootAt W x h r l) : RootAt W x h' r l := t.imp id fun ⟨b, e, t⟩ => ⟨b, e, TrieAt.upd0 k t⟩
theorem some_ok {W : Nat → Prop} {x : Hs} {h : Heap} {r : Option Addr} {l : List Pr} (t : RootAt W x h r l) (hW : ∀ y, W y → y < h.size) {K : Option Addr → Heap → Prop} (hk : ∀ h' b, TrieAt W x h' 13 b l → Upd No h h' → (r = some ⟨b, 0, none⟩ ∨ r = none) → K (some ⟨b, 0, none⟩) h') : HC PG f_champ_some [.pointer r] [.c .ptr] K h := by
  refine H_champ_some r ?_
  unfold F_champ_some
  rcases t with ⟨rfl, rfl⟩ | ⟨b, rfl, t⟩
  · refine condP_true.2 (H_champ_Empty ?_)
    unfold F_champ_Empty
    exact nodeInner_ok hW fun h' b nd hu => hk h' b (trie_nil nd) hu (.inr rfl)
  · exact condP_false.2 (hk h b t (Upd.refl _ _) (.inl rfl))
theorem setAll {h : Heap} {b : Nat} {t : TypeId} {c vs : List Value} (hb : h[b]? = some (.cells c.toArray t (0, 0))) (hl : vs.length = c.length) {k : Heap → Prop}
    (hk : ∀ h', h'[b]? = some (.cells vs.toArray t (0, 0)) → Upd (· = b) h h' → k h') : WrS h (some ⟨b, 0, none⟩) 0 vs ∧ At (hsetL h ⟨b, 0, none⟩ 0 vs) k := by
  have e := hsetL_blk vs h 0 0 c hb (by omega)
  refine ⟨.inr ⟨_, rfl, fun j hj => by rw [adr_mk]; exact wr_blk hb (by rw [List.size_toArray]; omega)⟩, at_intro ?_⟩
  rw [e]
  refine hk _ ?_ (Upd.set h _ rfl)
  rw [set_get hb]
  congr 3
  simp [hl]
set_option maxRecDepth 4000 in
theorem champPut_ok {W : Nat → Prop} {x : Hs} {h : Heap} {r : Option Addr} {l : List Pr} (t : RootAt W x h r l) (hW : ∀ y, W y → y < h.size) (hr : Rises l) (hn : l.length ≤ 1000000) (p : Pr) {K : Option Addr × Bool → Heap → Prop}
    (hk : ∀ h' b', Upd No h h' → TrieAt W x h' 13 b' (insR p l) → (p ∈ l → r = some ⟨b', 0, none⟩ ∨ r = none) → K (some ⟨b', 0, none⟩, !there l p.1) h') :
    HC PG f_champ_Put [.agg #[.int .u64 x.k0, .int .u64 x.k1, .int .u64 x.mask], .pointer none, .pointer r, .agg #[.string p.1, .string p.2]] [.c .ptr, .c .bool] K h := by
  refine H_champ_Put (x.k0, x.k1, x.mask) none r p ?_
  unfold F_champ_Put cAt
  have k1 := Upd.hnew No h [.int .u64 x.k0, .int .u64 x.k1, .int .u64 x.mask] t_sip_Hasher
  have b1 := hnew_get h [.int .u64 x.k0, .int .u64 x.k1, .int .u64 x.mask] t_sip_Hasher
  refine at_intro ?_
  simp only [newA_eq h]
  generalize hnew h [.int .u64 x.k0, .int .u64 x.k1, .int .u64 x.mask] t_sip_Hasher = h1 at k1 b1
  have k2 := Upd.hnew No h1 [.string p.1, .string p.2] t_pair_Pair
  have b2 := hnew_get h1 [.string p.1, .string p.2] t_pair_Pair
  refine at_intro ?_
  simp only [newA_eq h1]
  generalize hnew h1 [.string p.1, .string p.2] t_pair_Pair = h2 at k2 b2
  have w1 : ∀ {h' : Heap}, Upd No h2 h' → ∀ i, hcell h' (adr ⟨h.size, 0, none⟩ i) = (#[.int .u64 x.k0, .int .u64 x.k1, .int .u64 x.mask] : Array Value)[i]? := fun k i => by
    rw [adr_mk, hcell_blk (k.get0 (k2.get0 b1)), Nat.zero_add]
  have w2 : ∀ {h' : Heap}, Upd No h2 h' → ∀ i, hcell h' (adr ⟨h1.size, 0, none⟩ i) = (#[.string p.1, .string p.2] : Array Value)[i]? := fun k i => by rw [adr_mk, hcell_blk (k.get0 b2), Nat.zero_add]
  have r2 := Upd.refl No h2
  have k02 := k1.tr k2
  let c6 : List Value := [.int .u64 0, .int .u64 0, .int .u64 0, .pointer none, .string (⟨#[]⟩ : ByteArray), .int .u64 0]
  let v6 : List Value := [.int .u64 x.k0, .int .u64 x.k1, .int .u64 x.mask, .pointer none, .string p.1, .int .u64 (hashV x p.1)]
  -- the last part, of a block that has the work
  have fin : ∀ {h4 : Heap} {b : Nat}, Upd No h2 h4 → h4[b]? = some (.cells v6.toArray t_champ_work (0, 0)) →
      ∃ v15 : Int, hcell h4 (adr ⟨b, 0, none⟩ 0) = some (.int .u64 v15) ∧
              ∃ v16 : Int, hcell h4 (adr ⟨b, 0, none⟩ 1) = some (.int .u64 v16) ∧
              ∃ v17 : Int, hcell h4 (adr ⟨b, 0, none⟩ 2) = some (.int .u64 v17) ∧
              ∃ v18 : Option Addr, hcell h4 (adr ⟨b, 0, none⟩ 3) = some (.pointer v18) ∧
              ∃ v19 : ByteArray, hcell h4 (adr ⟨b, 0, none⟩ 4) = some (.string v19) ∧
              ∃ v20 : Int, hcell h4 (adr ⟨b, 0, none⟩ 5) = some (.int .u64 v20) ∧
              ∃ v21 : ByteArray, hcell h4 (adr ⟨h1.size, 0, none⟩ 0) = some (.string v21) ∧
              ∃ v22 : ByteArray, hcell h4 (adr ⟨h1.size, 0, none⟩ 1) = some (.string v22) ∧
              HC PG f_champ_some [.pointer r] [.c .ptr] (fun (e23 : Option Addr) h24 =>
               ((hcell h24 (adr ⟨h1.size, 0, none⟩ 0) = some (.string v21) ∧ hcell h24 (adr ⟨h1.size, 0, none⟩ 1) = some (.string v22)) ∧
                ((hcell h24 (adr ⟨b, 0, none⟩ 0) = some (.int .u64 v15) ∧ hcell h24 (adr ⟨b, 0, none⟩ 1) = some (.int .u64 v16) ∧ hcell h24 (adr ⟨b, 0, none⟩ 2) = some (.int .u64 v17) ∧ hcell h24 (adr ⟨b, 0, none⟩ 3) = some (.pointer v18) ∧ hcell h24 (adr ⟨b, 0, none⟩ 4) = some (.string v19) ∧ hcell h24 (adr ⟨b, 0, none⟩ 5) = some (.int .u64 v20)) ∧
                 HC PG f_champ_work_put [.agg #[.int .u64 v15, .int .u64 v16, .int .u64 v17, .pointer v18, .string v19, .int .u64 v20], .pointer e23, .agg #[.string v21, .string v22], .int .i64 0] [.c .ptr, .c .bool, .c .bool] (fun (e25 : (Option Addr) × Bool × Bool) h26 =>
                  K (e25.1, e25.2.1) h26) h24))) h4 := fun {h4 b} hu4 hb4 => by
    have w4 : ∀ {h' : Heap}, Upd No h4 h' → ∀ i, hcell h' (adr ⟨b, 0, none⟩ i) = v6.toArray[i]? := fun k i => by rw [adr_mk, hcell_blk (k.get0 hb4), Nat.zero_add]
    have r4 := Upd.refl No h4
    refine ⟨_, w4 r4 0, _, w4 r4 1, _, w4 r4 2, _, w4 r4 3, _, w4 r4 4, _, w4 r4 5, p.1, w2 hu4 0, p.2, w2 hu4 1, ?_⟩
    refine some_ok (t.upd0 (k02.tr hu4)) (fun y hy => Nat.lt_of_lt_of_le (hW y hy) (k02.tr hu4).size) fun h5 b5 t5 hu5 hr5 => ?_
    have hu25 := hu4.tr hu5
    refine ⟨⟨w2 hu25 0, w2 hu25 1⟩, ⟨w4 hu5 0, w4 hu5 1, w4 hu5 2, w4 hu5 3, w4 hu5 4, w4 hu5 5⟩, ?_⟩
    refine put_ok 13 (Nat.le_refl _) p t5 (fun y hy => Nat.lt_of_lt_of_le (hW y hy) ((k02.tr hu4).tr hu5).size) hr hn fun h6 b6 ch hu6 t6 hs hch => ?_
    refine hk h6 b6 ((k02.tr hu25).tr hu6) t6 fun hm => ?_
    have hb : b6 = b5 := hs (by rw [hch, decide_eq_true hm]; rfl)
    rw [hb]; exact hr5
  have own : ∀ {h3 h4 : Heap} {b : Nat}, h2.size ≤ b → Upd (· = b) h3 h4 → Upd No h2 h3 → Upd No h2 h4 := fun hb hu k => k.trans hu fun y hy => .inr (hy ▸ hb)
  refine ⟨_, w1 r2 0, _, w1 r2 1, _, w1 r2 2, _, w2 r2 0, _, w1 r2 0, _, w1 r2 1, _, w1 r2 2, _, w2 r2 0, ?_, ?_⟩
  · refine hash_ok fun h3 hu3 => ⟨w2 hu3 0, ⟨w1 hu3 0, w1 hu3 1, w1 hu3 2⟩, ?_⟩
    have k4 := Upd.hnew No h3 c6 t_champ_work
    have b4 := hnew_get h3 c6 t_champ_work
    have hu4 := hu3.tr k4
    refine at_intro ?_
    simp only [newA_eq h3]
    refine ⟨w2 hu4 0, ⟨w1 hu4 0, w1 hu4 1, w1 hu4 2⟩, ?_⟩
    refine setAll (vs := v6) b4 rfl fun h5 b5 hu5 => fin (own hu3.size hu5 hu4) b5
  · have k4 := Upd.hnew No h2 c6 t_champ_work
    have b4 := hnew_get h2 c6 t_champ_work
    refine at_intro ?_
    simp only [newA_eq h2]
    refine ⟨w2 k4 0, ⟨w1 k4 0, w1 k4 1, w1 k4 2⟩, w2 k4 0, ⟨w1 k4 0, w1 k4 1, w1 k4 2⟩, ?_⟩
    refine hash_ok fun h5 hu5 => ?_
    have hu25 := k4.tr hu5
    refine ⟨w2 hu25 0, ⟨w1 hu25 0, w1 hu25 1, w1 hu25 2⟩, ?_⟩
    exact setAll (vs := v6) (hu5.get0 b4) rfl fun h6 b6 hu6 => fin (own (Nat.le_refl _) hu6 hu25) b6
end Go.Proofs
namespace Go.Proofs
open Go.Lift
end Go.Proofs
namespace Go.Proofs
open Go Go.Lift
end Go.Proofs
namespace Go.Proofs
open Go Go.Lift
def Fit (l : List Pr) : Prop := ∀ p ∈ l, p.1.size ≤ 10000 ∧ p.2.size ≤ 10000
end Go.Proofs
namespace Go.Proofs
open Go Go.Lift
end Go.Proofs
namespace Go.Proofs
open Go Go.Lift
def solo (l : List Pr) : Option Pr := match l with | [p] => some p | _ => none
def many (l : List Pr) : Option (List Pr) := if 2 ≤ l.length then some l else none
def solos (x : Hs) (lev : Nat) (l : List Pr) : List Pr := fm (fun c => solo (part x lev c l)) 32
def manys (x : Hs) (lev : Nat) (l : List Pr) : List (List Pr) := fm (fun c => many (part x lev c l)) 32
theorem slot_p {W : Nat → Prop} {x : Hs} {h : Heap} {m : Nat} {s : Slots} {c : Nat} {l : List Pr} (t : SlotIs W x h m s c l) : s.p c = solo l ∧ (s.k c).isSome = (many l).isSome := by
  rcases t with ⟨rfl, h1, h2⟩ | ⟨p, rfl, h1, h2⟩ | ⟨h0, h1, kb, h2, _⟩
  · rw [h1, h2]; exact ⟨rfl, rfl⟩
  · rw [h1, h2]; exact ⟨rfl, rfl⟩
  · rw [h1, h2]
    refine ⟨?_, by simp [many, h0]⟩
    match l, h0 with
    | a :: b :: l, _ => rfl
def KidsAt (W : Nat → Prop) (x : Hs) (h : Heap) (m : Nat) : List (Option Addr) → List (List Pr) → Prop
  | [], [] => True
  | k :: ks, l :: ls => (∃ kb, k = some ⟨kb, 0, none⟩ ∧ TrieAt W x h m kb l) ∧ KidsAt W x h m ks ls
  | _, _ => False
theorem KidsAt.app {W : Nat → Prop} {x : Hs} {h : Heap} {m : Nat} : ∀ {ks ks' : List (Option Addr)} {ls ls' : List (List Pr)}, KidsAt W x h m ks ls → KidsAt W x h m ks' ls' → KidsAt W x h m (ks ++ ks') (ls ++ ls')
  | [], _, [], _, _, q => q
  | _ :: _, _, _ :: _, _, q, q' => ⟨q.1, KidsAt.app q.2 q'⟩
  | [], _, _ :: _, _, q, _ => q.elim
  | _ :: _, _, [], _, q, _ => q.elim
theorem fm_succ {β : Type} (g : Nat → Option β) (n : Nat) : fm g (n + 1) = fm g n ++ (g n).toList := by
  unfold fm
  rw [List.range_succ, List.filterMap_append]
  cases h : g n <;> simp [h]
theorem kidsAt {W : Nat → Prop} {x : Hs} {h : Heap} {m lev : Nat} {s : Slots} {l : List Pr} : ∀ n, (∀ c, c < n → SlotIs W x h m s c (part x lev c l)) → KidsAt W x h m (fm s.k n) (fm (fun c => many (part x lev c l)) n)
  | 0, _ => trivial
  | n + 1, hs => by
    rw [fm_succ, fm_succ]
    refine KidsAt.app (kidsAt n fun c hc => hs c (by omega)) ?_
    rcases hs n (by omega) with ⟨h0, _, h2⟩ | ⟨p, h0, _, h2⟩ | ⟨h0, _, kb, h2, h3⟩
    · rw [h2, h0]; exact trivial
    · rw [h2, h0]; exact trivial
    · rw [h2]
      have : many (part x lev n l) = some (part x lev n l) := by unfold many; rw [if_pos h0]
      simp only [this]
      exact ⟨⟨kb, rfl, h3⟩, trivial⟩
theorem solosAt {W : Nat → Prop} {x : Hs} {h : Heap} {m lev : Nat} {s : Slots} {l : List Pr} (hs : ∀ c, c < 32 → SlotIs W x h m s c (part x lev c l)) : fm s.p 32 = solos x lev l :=
  fmc _ fun c hc => (slot_p (hs c (List.mem_range.1 hc))).1
end Go.Proofs
namespace Go.Proofs
open Go Go.Lift
theorem parts_len (x : Hs) (lev : Nat) (l : List Pr) : ∀ n, (((List.range n).map fun c => (part x lev c l).length).sum) = (l.filter fun p => decide (ck x lev p.1 < n)).length
  | 0 => by
    have : (l.filter fun p => decide (ck x lev p.1 < 0)) = [] := List.filter_eq_nil_iff.2 fun p _ => by simp
    rw [this]; rfl
  | n + 1 => by
    rw [List.range_succ, List.map_append, List.sum_append, parts_len x lev l n]
    simp only [List.map_cons, List.map_nil, List.sum_cons, List.sum_nil, Nat.add_zero]
    unfold part
    clear parts_len
    induction l with
    | nil => rfl
    | cons p l ih =>
      simp only [List.filter_cons, decide_eq_true_iff]
      split <;> split <;> split <;> first | omega | (simp only [List.length_cons]; omega)
theorem solos_len (x : Hs) (lev : Nat) (l : List Pr) : (solos x lev l).length + (manys x lev l).flatten.length ≤ l.length := by
  have h := parts_len x lev l 32
  have hle : (l.filter fun p => decide (ck x lev p.1 < 32)).length ≤ l.length := List.length_filter_le ..
  have : ∀ n, (fm (fun c => solo (part x lev c l)) n).length + (fm (fun c => many (part x lev c l)) n).flatten.length ≤ ((List.range n).map fun c => (part x lev c l).length).sum := by
    intro n
    induction n with
    | zero => simp [fm]
    | succ n ih =>
      rw [fm_succ, fm_succ, List.range_succ, List.map_append, List.sum_append]
      simp only [List.length_append, List.flatten_append, List.map_cons, List.map_nil, List.sum_cons, List.sum_nil, Nat.add_zero]
      generalize part x lev n l = q
      have : (solo q).toList.length + (many q).toList.flatten.length ≤ q.length := by
        match q with
        | [] => simp [solo, many]
        | [a] => simp [solo, many]
        | a :: b :: q => simp [solo, many]
      omega
  have := this 32
  unfold solos manys
  omega
end Go.Proofs
namespace Go.Proofs
open Go Go.Lift
theorem mem_solos {x : Hs} {lev : Nat} {l : List Pr} {p : Pr} (h : p ∈ solos x lev l) : p ∈ l := by
  unfold solos fm at h
  obtain ⟨c, _, hc⟩ := List.mem_filterMap.1 h
  unfold solo at hc
  split at hc
  · rename_i q hq
    cases hc
    have : p ∈ part x lev c l := by rw [hq]; exact List.mem_singleton.2 rfl
    exact (mem_part.1 this).1
  · cases hc
theorem mem_manys {x : Hs} {lev : Nat} {l L : List Pr} (h : L ∈ manys x lev l) : 2 ≤ L.length ∧ ∃ c, L = part x lev c l := by
  unfold manys fm at h
  obtain ⟨c, _, hc⟩ := List.mem_filterMap.1 h
  unfold many at hc
  split at hc
  · cases hc; exact ⟨by assumption, c, rfl⟩
  · cases hc
theorem Fit.part {x : Hs} {lev c : Nat} {l : List Pr} (h : Fit l) : Fit (part x lev c l) := fun p hp => h p (mem_part.1 hp).1
end Go.Proofs
namespace Go.Proofs
open Go Go.Lift
end Go.Proofs
namespace Go.Proofs
open Go Go.Lift
theorem fm_lens {β γ : Type} {g : Nat → Option β} {g' : Nat → Option γ} : ∀ n, (∀ c, c < n → (g c).isSome = (g' c).isSome) → (fm g n).length = (fm g' n).length
  | 0, _ => rfl
  | n + 1, h => by
    rw [fm_succ, fm_succ, List.length_append, List.length_append, fm_lens n fun c hc => h c (by omega)]
    have := h n (by omega)
    cases h1 : g n <;> cases h2 : g' n <;> rw [h1, h2] at this <;> first | rfl | cases this
theorem fm_inj {β : Type} {g g' : Nat → Option β} : ∀ n, (∀ c, c < n → (g c).isSome = (g' c).isSome) → fm g n = fm g' n → ∀ c, c < n → g c = g' c
  | 0, _, _, c, hc => absurd hc (Nat.not_lt_zero _)
  | n + 1, h, e, c, hc => by
    rw [fm_succ, fm_succ] at e
    obtain ⟨e1, e2⟩ := List.append_inj e (fm_lens n fun c hc => h c (by omega))
    rcases Nat.lt_or_ge c n with hl | hl
    · exact fm_inj n (fun c hc => h c (by omega)) e1 c hl
    · have : c = n := by omega
      subst this
      cases h1 : g c <;> cases h2 : g' c <;> rw [h1, h2] at e2 <;> simp at e2 ⊢
      exact e2
theorem rises_ext : ∀ {l l' : List Pr}, Rises l → Rises l' → (∀ p, p ∈ l ↔ p ∈ l') → l = l'
  | [], [], _, _, _ => rfl
  | [], q :: l', _, _, h => absurd ((h q).2 (List.mem_cons_self ..)) (by simp)
  | p :: l, [], _, _, h => absurd ((h p).1 (List.mem_cons_self ..)) (by simp)
  | p :: l, q :: l', hr, hr', h => by
    have hr := List.pairwise_cons.1 hr
    have hr' := List.pairwise_cons.1 hr'
    have e : p = q := by
      rcases List.mem_cons.1 ((h p).1 (List.mem_cons_self ..)) with e | hp
      · exact e
      · rcases List.mem_cons.1 ((h q).2 (List.mem_cons_self ..)) with e | hq
        · exact e.symm
        · exact absurd (kl_trans (hr.1 q hq) (hr'.1 p hp)) (kl_irrefl _)
    subst e
    rw [rises_ext hr.2 hr'.2 fun z => ?_]
    constructor
    · intro hz
      rcases List.mem_cons.1 ((h z).1 (List.mem_cons_of_mem _ hz)) with e | hz'
      · exact absurd (hr.1 z hz) (by rw [e]; exact kl_irrefl _)
      · exact hz'
    · intro hz
      rcases List.mem_cons.1 ((h z).2 (List.mem_cons_of_mem _ hz)) with e | hz'
      · exact absurd (hr'.1 z hz) (by rw [e]; exact kl_irrefl _)
      · exact hz'
theorem part_ext {x : Hs} {lev : Nat} {l l' : List Pr} (hr : Rises l) (hr' : Rises l') (h : ∀ c, c < 32 → part x lev c l = part x lev c l') : l = l' := by
  refine rises_ext hr hr' fun p => ?_
  have e := h (ck x lev p.1) (ck_lt ..)
  have h1 := mem_part (x := x) (lev := lev) (c := ck x lev p.1) (l := l) (p := p)
  have h2 := mem_part (x := x) (lev := lev) (c := ck x lev p.1) (l := l') (p := p)
  rw [e] at h1
  constructor
  · intro hp; exact (h2.1 (h1.2 ⟨hp, rfl⟩)).1
  · intro hp; exact (h1.1 (h2.2 ⟨hp, rfl⟩)).1
end Go.Proofs
namespace Go.Proofs
open Go Go.Lift
def rxC (lab : ByteArray) (has : Bool) (val : ByteArray) (s : SliceV) (ow : Option Addr) : Array Value := #[.string lab, .bool has, .string val, sv s, .pointer ow]
def RxF (W : Nat → Prop) (h : Heap) : Fo → List (Option Addr) → Prop
  | .nil, ks => ks = []
  | .cons lab w kids rest, ks => ∃ b sl val s ow ks1 ks', ks = some ⟨b, 0, none⟩ :: ks' ∧ sl.data.toList = lab ∧ h[b]? = some (.cells (rxC sl w.isSome val s ow) t_radix_Node (0, 0)) ∧ (∀ v, w = some v → val = v) ∧ Sl rxF 1 W h s ks1 ∧ (s.len ≤ s.cap ∧ ¬ W b) ∧ RxF W h kids ks1 ∧ RxF W h rest ks'
def RxN (W : Nat → Prop) (h : Heap) (b : Nat) (sl : ByteArray) (w : Option ByteArray) (F : Fo) : Prop := ∃ val s ow ks, h[b]? = some (.cells (rxC sl w.isSome val s ow) t_radix_Node (0, 0)) ∧ (∀ v, w = some v → val = v) ∧ Sl rxF 1 W h s ks ∧ (s.len ≤ s.cap ∧ ¬ W b) ∧ RxF W h F ks
def Kid (W : Nat → Prop) (h : Heap) (k : Option Addr) (n : Bn) : Prop := ∃ b sl, k = some ⟨b, 0, none⟩ ∧ sl.data.toList = n.1 ∧ RxN W h b sl n.2.1 n.2.2
def RxL (W : Nat → Prop) (h : Heap) (ks : List (Option Addr)) (L : List Bn) : Prop := ks.length = L.length ∧ ∀ p ∈ ks.zip L, Kid W h p.1 p.2
theorem rxF_iff {W : Nat → Prop} {h : Heap} : ∀ {F : Fo} {ks : List (Option Addr)}, RxF W h F ks ↔ RxL W h ks F.toL
  | .nil, ks => by
    unfold RxF RxL
    simp [Fo.toL]
  | .cons lab w kids rest, ks => by
    unfold RxF RxL
    rw [Fo.toL_cons]
    constructor
    · rintro ⟨b, sl, val, s, ow, ks1, ks', rfl, e1, e2, e3, e4, e5, e6, e7⟩
      obtain ⟨e8, e9⟩ := rxF_iff.1 e7
      refine ⟨by simp [e8], fun p hp => ?_⟩
      rw [List.zip_cons_cons] at hp
      rcases List.mem_cons.1 hp with rfl | hp
      · exact ⟨b, sl, rfl, e1, val, s, ow, ks1, e2, e3, e4, e5, e6⟩
      · exact e9 p hp
    · cases ks with
      | nil => rintro ⟨e, _⟩; simp at e
      | cons k ks' =>
        rintro ⟨e, hp⟩
        rw [List.zip_cons_cons] at hp
        obtain ⟨b, sl, e0, e1, val, s, ow, ks1, e2, e3, e4, e5, e6⟩ := hp _ (List.mem_cons_self ..)
        refine ⟨b, sl, val, s, ow, ks1, ks', by rw [← e0], e1, e2, e3, e4, e5, e6, rxF_iff.2 ⟨by simpa using e, fun p hp' => hp p (List.mem_cons_of_mem _ hp')⟩⟩
theorem RxF.upd0 {W : Nat → Prop} {h h' : Heap} (k : Upd No h h') : ∀ {F : Fo} {ks : List (Option Addr)}, RxF W h F ks → RxF W h' F ks
  | .nil, _, r => r
  | .cons _ _ _ _, _, ⟨b, sl, val, s, ow, ks1, ks', e0, e1, e2, e3, e4, e5, e6, e7⟩ => ⟨b, sl, val, s, ow, ks1, ks', e0, e1, k.get0 e2, e3, e4.upd k fun _ h => h.elim, e5, RxF.upd0 k e6, RxF.upd0 k e7⟩
theorem RxN.upd0 {W : Nat → Prop} {h h' : Heap} (k : Upd No h h') {b : Nat} {sl : ByteArray} {w : Option ByteArray} {F : Fo} : RxN W h b sl w F → RxN W h' b sl w F
  | ⟨val, s, ow, ks, e2, e3, e4, e5, e6⟩ => ⟨val, s, ow, ks, k.get0 e2, e3, e4.upd k fun _ h => h.elim, e5, RxF.upd0 k e6⟩
theorem Kid.upd0 {W : Nat → Prop} {h h' : Heap} (k : Upd No h h') {a : Option Addr} {n : Bn} : Kid W h a n → Kid W h' a n
  | ⟨b, sl, e1, e2, e3⟩ => ⟨b, sl, e1, e2, e3.upd0 k⟩
theorem RxF.less {W W' : Nat → Prop} {h : Heap} (hm : ∀ b, W' b → W b ∨ h.size ≤ b) : ∀ {F : Fo} {ks : List (Option Addr)}, RxF W h F ks → RxF W' h F ks
  | .nil, _, r => r
  | .cons _ _ _ _, _, ⟨b, sl, val, s, ow, ks1, ks', e0, e1, e2, e3, e4, e5, e6, e7⟩ => ⟨b, sl, val, s, ow, ks1, ks', e0, e1, e2, e3, e4.less hm, ⟨e5.1, fun hx => (hm _ hx).elim e5.2 fun h => by have := get_lt e2; omega⟩, RxF.less hm e6, RxF.less hm e7⟩
theorem RxN.less {W W' : Nat → Prop} {h : Heap} (hm : ∀ b, W' b → W b ∨ h.size ≤ b) {b : Nat} {sl : ByteArray} {w : Option ByteArray} {F : Fo} : RxN W h b sl w F → RxN W' h b sl w F
  | ⟨val, s, ow, ks, e2, e3, e4, e5, e6⟩ => ⟨val, s, ow, ks, e2, e3, e4.less hm, ⟨e5.1, fun hx => (hm _ hx).elim e5.2 fun h => by have := get_lt e2; omega⟩, RxF.less hm e6⟩
theorem RxF.updM {W M : Nat → Prop} {h h' : Heap} (k : Upd M h h') (hm : ∀ b, M b → W b ∨ h.size ≤ b) : ∀ {F : Fo} {ks : List (Option Addr)}, RxF W h F ks → RxF W h' F ks
  | .nil, _, r => r
  | .cons _ _ _ _, _, ⟨b, sl, val, s, ow, ks1, ks', e0, e1, e2, e3, e4, e5, e6, e7⟩ => ⟨b, sl, val, s, ow, ks1, ks', e0, e1, k.get e2 (fun hx => (hm _ hx).elim e5.2 fun h => by have := get_lt e2; omega), e3, e4.upd k hm, e5, RxF.updM k hm e6, RxF.updM k hm e7⟩
theorem RxN.updM {W M : Nat → Prop} {h h' : Heap} (k : Upd M h h') (hm : ∀ b, M b → W b ∨ h.size ≤ b) {b : Nat} {sl : ByteArray} {w : Option ByteArray} {F : Fo} : RxN W h b sl w F → RxN W h' b sl w F
  | ⟨val, s, ow, ks, e2, e3, e4, e5, e6⟩ => ⟨val, s, ow, ks, k.get e2 (fun hx => (hm _ hx).elim e5.2 fun h => by have := get_lt e2; omega), e3, e4.upd k hm, e5, RxF.updM k hm e6⟩
theorem RxL.upd0 {W : Nat → Prop} {h h' : Heap} (k : Upd No h h') {ks : List (Option Addr)} {L : List Bn} (r : RxL W h ks L) : RxL W h' ks L := ⟨r.1, fun p hp => (r.2 p hp).upd0 k⟩
theorem RxL.app {W : Nat → Prop} {h : Heap} {ks ks' : List (Option Addr)} {L L' : List Bn} (r : RxL W h ks L) (r' : RxL W h ks' L') : RxL W h (ks ++ ks') (L ++ L') := by
  refine ⟨by rw [List.length_append, List.length_append, r.1, r'.1], fun p hp => ?_⟩
  rw [List.zip_append r.1] at hp
  rcases List.mem_append.1 hp with hp | hp
  · exact r.2 p hp
  · exact r'.2 p hp
theorem RxL.one {W : Nat → Prop} {h : Heap} {k : Option Addr} {n : Bn} (c : Kid W h k n) : RxL W h [k] [n] := ⟨rfl, fun p hp => by rw [List.zip_cons_cons, List.zip_nil_left] at hp; rw [List.mem_singleton.1 hp]; exact c⟩
theorem RxL.take {W : Nat → Prop} {h : Heap} {ks : List (Option Addr)} {L : List Bn} (r : RxL W h ks L) (i : Nat) : RxL W h (ks.take i) (L.take i) := by
  refine ⟨by rw [List.length_take, List.length_take, r.1], fun p hp => r.2 p ?_⟩
  have : (ks.take i).zip (L.take i) = (ks.zip L).take i := by rw [List.zip_eq_zipWith, List.zip_eq_zipWith, List.take_zipWith]
  rw [this] at hp
  exact List.mem_of_mem_take hp
theorem RxL.drop {W : Nat → Prop} {h : Heap} {ks : List (Option Addr)} {L : List Bn} (r : RxL W h ks L) (i : Nat) : RxL W h (ks.drop i) (L.drop i) := by
  refine ⟨by rw [List.length_drop, List.length_drop, r.1], fun p hp => r.2 p ?_⟩
  have : (ks.drop i).zip (L.drop i) = (ks.zip L).drop i := by rw [List.zip_eq_zipWith, List.zip_eq_zipWith, List.drop_zipWith]
  rw [this] at hp
  exact List.mem_of_mem_drop hp
theorem RxL.ins {W : Nat → Prop} {h : Heap} {ks : List (Option Addr)} {L : List Bn} (r : RxL W h ks L) (i : Nat) {k : Option Addr} {n : Bn} (c : Kid W h k n) : RxL W h (ks.take i ++ k :: ks.drop i) (L.take i ++ n :: L.drop i) := by
  have := (r.take i).app ((RxL.one c).app (r.drop i))
  exact this
theorem RxL.set {W : Nat → Prop} {h : Heap} {ks : List (Option Addr)} {L : List Bn} (r : RxL W h ks L) {i : Nat} (hi : i < L.length) {k : Option Addr} {n : Bn} (c : Kid W h k n) : RxL W h (ks.set i k) (L.set i n) := by
  have := (r.take i).app ((RxL.one c).app (r.drop (i + 1)))
  rw [List.set_eq_take_append_cons_drop, List.set_eq_take_append_cons_drop, if_pos (by rw [r.1]; exact hi), if_pos hi]
  exact this
theorem RxL.at {W : Nat → Prop} {h : Heap} {ks : List (Option Addr)} {L : List Bn} (r : RxL W h ks L) {i : Nat} (hi : i < L.length) : ∃ b sl, ks[i]? = some (some ⟨b, 0, none⟩) ∧ sl.data.toList = L[i].1 ∧ RxN W h b sl L[i].2.1 L[i].2.2 := by
  have hk : i < ks.length := by rw [r.1]; exact hi
  have hz : i < (ks.zip L).length := by rw [List.length_zip]; omega
  have := r.2 _ (List.getElem_mem hz)
  rw [List.getElem_zip] at this
  obtain ⟨b, sl, e1, e2, e3⟩ := this
  exact ⟨b, sl, by rw [List.getElem?_eq_getElem hk]; exact congrArg some e1, e2, e3⟩
theorem rises_len : ∀ {L : List Bn} {c : Nat}, L.Pairwise (fun m n => hd m.1 < hd n.1) → (∀ n ∈ L, c ≤ hd n.1) → L = [] ∨ c + L.length ≤ 256
  | [], _, _, _ => .inl rfl
  | n :: L, c, hp, hc => by
    have hp := List.pairwise_cons.1 hp
    have h0 := hc n (List.mem_cons_self ..)
    have h1 := hd_lt n.1
    rcases rises_len (c := hd n.1 + 1) hp.2 fun m hm => hp.1 m hm with e | e
    · rw [e]; right; simp only [List.length_singleton]; omega
    · right; rw [List.length_cons]; omega
theorem can_len {F : Fo} (h : CanF F) : F.toL.length ≤ 256 := by
  rcases rises_len (c := 0) (canF_iff.1 h).1 fun _ _ => Nat.zero_le _ with e | e
  · rw [e]; simp
  · omega
theorem rcell {h : Heap} {b i : Nat} {c : Array Value} (hb : h[b]? = some (.cells c t_radix_Node (0, 0))) : hcell h (adr ⟨b, 0, none⟩ i) = c[i]? := by rw [adr_mk, Nat.zero_add]; exact hcell_blk hb
theorem rwr {h : Heap} {b i : Nat} {c : Array Value} (hb : h[b]? = some (.cells c t_radix_Node (0, 0))) (hi : i < c.size) : Wr h (adr ⟨b, 0, none⟩ i) := by rw [adr_mk, Nat.zero_add]; exact wr_blk hb hi
theorem rset {h : Heap} {b i : Nat} {c c' : Array Value} {v : Value} {k : Heap → Prop} (hb : h[b]? = some (.cells c t_radix_Node (0, 0))) (e : c.setIfInBounds i v = c') (hk : ∀ h', h'[b]? = some (.cells c' t_radix_Node (0, 0)) → Upd (· = b) h h' → k h') : At (hset h (adr ⟨b, 0, none⟩ i) v) k := by
  rw [adr_mk, Nat.zero_add]
  exact at_set hb fun h' hb' hu => hk h' (e ▸ hb') hu
theorem getB (s : ByteArray) (i : Nat) : s[i]? = s.data.toList[i]? := by
  rw [Array.getElem?_toList]
  by_cases h : i < s.size
  · rw [getElem?_pos s i h, getElem?_pos s.data i h]; rfl
  · rw [getElem?_neg s i h, getElem?_neg s.data i h]
theorem hd_get {s : ByteArray} (hs : s.data.toList ≠ []) : ∃ c : UInt8, s[0]? = some c ∧ c.toNat = hd s.data.toList := by
  rw [getB]
  match s.data.toList, hs with
  | c :: l, _ => exact ⟨c, rfl, rfl⟩
theorem rxFind_ok {W : Nat → Prop} {h : Heap} {b : Nat} {sl : ByteArray} {w : Option ByteArray} {F : Fo} (r : RxN W h b sl w F) (hc : CanF F) {c : Nat} (hc8 : c < 256) {K : Int × Bool → Heap → Prop}
    (hk : ∀ i ok, i ≤ F.toL.length → (∀ j (hj : j < F.toL.length), j < i → hd F.toL[j].1 < c) → (∀ j (hj : j < F.toL.length), i ≤ j → c ≤ hd F.toL[j].1) → (ok = true ↔ ∃ hi : i < F.toL.length, hd F.toL[i].1 = c) → K ((i : Int), ok) h) : HC PG f_radix_Node_find [.pointer (some ⟨b, 0, none⟩), .int .u8 c] [.c (.int .i64), .c .bool] K h := by
  refine H_radix_Node_find _ c ?_
  unfold F_radix_Node_find cAt
  obtain ⟨val, s, ow, ks, hb, _, hs, hcap, hF⟩ := r
  refine ⟨_, rfl, s, rcell (i := 3) hb, ?_⟩
  have hL := rxF_iff.1 hF
  have hcan := canF_iff.1 hc
  have hn := can_len hc
  have hlen := hs.len
  rw [hL.1] at hlen
  generalize hLe : F.toL = L at hL hcan hn hlen hk
  refine H_slices_BinarySearchFunc_A_P_radix_Node_P_radix_Node_byte s c _ ?_
  unfold F_slices_BinarySearchFunc_A_P_radix_Node_P_radix_Node_byte cAt iBd
  have cmp : ∀ {i : Nat} (hi : i < L.length) {K : Int → Heap → Prop}, K ((hd L[i].1 : Int) - (c : Int)) h → ∃ a, s.a = some a ∧ ∃ v, hcell h (adr a (i * 1)) = some (.pointer v) ∧ HV PG (.func (.func f_radix_Node_find_1) #[] #[]) [.pointer v, .int .u8 c] [.c (.int .i64)] K h := by
    intro i hi K hk
    obtain ⟨kb, ksl, hki, hkl, hkn⟩ := hL.at hi
    obtain ⟨a, ha, _, hv⟩ := hs.at0 hki
    refine ⟨a, ha, _, hv, HV.mk' (H_radix_Node_find_1 (some ⟨kb, 0, none⟩) c ?_)⟩
    unfold F_radix_Node_find_1 cAt
    obtain ⟨kval, kss, kow, kks, hkb, _⟩ := hkn
    have hne : ksl.data.toList ≠ [] := by rw [hkl]; exact (hcan.2 _ (List.getElem_mem hi)).1
    obtain ⟨u, hu, hue⟩ := hd_get hne
    refine ⟨_, rfl, ksl, rcell (i := 0) hkb, u, Int.le_refl _, hu, ?_⟩
    simp only [Bd]
    have hlt := hd_lt L[i].1
    rw [hue, hkl, w64 (x := (hd L[i].1 : Int)) (by omega), w64 (x := (c : Int)) (by omega), w64 (by omega)]
    exact hk
  have mono : ∀ i j (hi : i < L.length) (hj : j < L.length), i < j → hd L[i].1 < hd L[j].1 := fun i j hi hj hij => List.pairwise_iff_getElem.1 hcan.1 i j hi hj hij
  refine LoopP.ghost (fun (g : Nat × Nat) (t : Int × Int) h' => t.1 = (g.1 : Int) ∧ t.2 = (g.2 : Int) ∧ g.1 ≤ g.2 ∧ g.2 ≤ L.length ∧ h' = h ∧ (∀ j (hj : j < L.length), j < g.1 → hd L[j].1 < c) ∧ (∀ j (hj : j < L.length), g.2 ≤ j → c ≤ hd L[j].1)) (fun g => g.2 - g.1) (0, L.length)
    ⟨rfl, by simp only; omega, by simp, by simp, rfl, fun j hj h => by omega, fun j hj h => by simp only at h; omega⟩ ?_
  rintro I ⟨i, j⟩ ⟨ti, tj⟩ h' ⟨e1, e2, hij, hjl, rfl, hlo, hhi⟩ hI
  simp only at e1 e2 hij hjl hlo hhi
  subst e1 e2
  refine condP_dec (fun hlt => ?_) fun hge => ?_
  · have hlt : i < j := by have : (i : Int) < (j : Int) := hlt; omega
    have em : IntKind.wrap .i64 (Int.fdiv (IntKind.wrap .u64 (IntKind.wrap .i64 ((i : Int) + (j : Int)))) (2 ^ (min (1 : Int).toNat (IntKind.bits .u64)))) = (((i + j) / 2 : Nat) : Int) := by
      have e3 : (2 ^ (min (1 : Int).toNat (IntKind.bits .u64)) : Int) = 2 := rfl
      rw [e3, w64 (x := (i : Int) + (j : Int)) (by omega), Go.IntWalk.u64_in _ (by omega), Int.fdiv_eq_ediv_of_nonneg _ (by omega), w64 (by omega)]
      omega
    refine ⟨by decide, ?_⟩
    simp only [Bd]
    rw [em]
    generalize hm : (i + j) / 2 = m
    have hml : m < L.length := by omega
    refine ⟨by omega, ?_⟩
    refine cmp hml ?_
    refine condP_dec (fun hneg => ?_) fun hpos => ?_
    · refine hI (m + 1, j) _ _ ⟨by simp only; rw [w64 (by omega)]; omega, rfl, by simp only; omega, hjl, rfl, fun q hq hqm => ?_, hhi⟩ (by simp only; omega)
      simp only at hqm
      rcases Nat.lt_or_ge q m with h | h
      · have := mono q m hq hml h; omega
      · have : q = m := by omega
        subst this; omega
    · refine hI (i, m) _ _ ⟨rfl, rfl, by simp only; omega, by simp only; omega, rfl, hlo, fun q hq hqm => ?_⟩ (by simp only; omega)
      simp only at hqm
      rcases Nat.lt_or_ge m q with h | h
      · have := mono m q hml hq h; omega
      · have : q = m := by omega
        subst this; omega
  · have hij : i = j := by have : ¬ (i : Int) < (j : Int) := hge; omega
    subst hij
    refine condP_dec (fun hlt => ?_) fun hnl => ?_
    · have hil : i < L.length := by have : (i : Int) < (s.len : Int) := hlt; omega
      refine ⟨by simp only; omega, ?_⟩
      refine cmp hil ?_
      refine hk i _ hjl hlo hhi ?_
      rw [beq_iff_eq]
      exact ⟨fun h => ⟨hil, by omega⟩, fun ⟨_, h⟩ => by omega⟩
    · have hil : i = L.length := by have : ¬ (i : Int) < (s.len : Int) := hnl; omega
      exact hk i false hjl hlo hhi ⟨fun h => (by cases h), fun h => (by obtain ⟨h, _⟩ := h; omega)⟩
end Go.Proofs
namespace Go.Proofs
open Go Go.Lift
theorem rxOwned_nil {b : Nat} {h : Heap} {K : Bool → Heap → Prop} (hk : K false h) : HC PG f_radix_Node_Owned [.pointer (some ⟨b, 0, none⟩), .pointer none] [.c .bool] K h := by
  refine H_radix_Node_Owned _ none ?_
  unfold F_radix_Node_Owned cAt
  exact condP_true.2 (live_nil (condP_false.2 hk))
abbrev rx0 : List Value := [.string (⟨#[]⟩ : ByteArray), .bool false, .string (⟨#[]⟩ : ByteArray), .slice none 0 0, .pointer none]
theorem rxOwn_ok {W : Nat → Prop} {h : Heap} {b : Nat} {sl val : ByteArray} {has : Bool} {s : SliceV} {ow : Option Addr} {ks : List (Option Addr)} (hb : h[b]? = some (.cells (rxC sl has val s ow) t_radix_Node (0, 0))) (hs : Sl rxF 1 W h s ks) (hn : ks.length ≤ 256) {K : Option Addr → Heap → Prop}
    (hk : ∀ h' s', h'[h.size]? = some (.cells (rxC sl has val s' none) t_radix_Node (0, 0)) → OwnS rxF 1 t_P_radix_Node (fun x => h.size < x ∧ x < h'.size) h' s' ks → Upd No h h' → K (some ⟨h.size, 0, none⟩) h') :
    HC PG f_radix_Node_own [.pointer (some ⟨b, 0, none⟩), .pointer none] [.c .ptr] K h := by
  refine H_radix_Node_own _ none ?_
  unfold F_radix_Node_own cAt
  refine rxOwned_nil (condP_false.2 ?_)
  refine ⟨_, rfl, sl, rcell (i := 0) hb, has, rcell (i := 1) hb, val, rcell (i := 2) hb, s, rcell (i := 3) hb, ow, rcell (i := 4) hb, at_intro ?_⟩
  have k1 := Upd.hnew No h rx0 t_radix_Node
  have b1 := hnew_get h rx0 t_radix_Node
  simp only [newA_eq h]
  generalize hnew h [.string (⟨#[]⟩ : ByteArray), .bool false, .string (⟨#[]⟩ : ByteArray), .slice none 0 0, .pointer none] t_radix_Node = h1 at k1 b1
  refine setAll (c := rx0) (vs := [.string sl, .bool has, .string val, .slice s.a s.len s.cap, .pointer ow]) b1 rfl fun h2 b2 hu2 => ?_
  have k2 : Upd No h h2 := k1.trans hu2 fun x hx => .inr (Nat.le_of_eq hx.symm)
  have hz2 : h.size < h2.size := get_lt b2
  have hb2 := k2.get0 hb
  refine ⟨_, rfl, s, rcell (i := 3) hb2, ?_⟩
  refine clone_rxF (hs.upd k2 fun _ h => h.elim) (by omega) fun s3 h3 ho3 hu3 => ?_
  have b3 : h3[h.size]? = some (.cells (rxC sl has val s ow) t_radix_Node (0, 0)) := hu3.get0 b2
  refine ⟨rwr (i := 3) b3 (show 3 < 5 by decide), rset (i := 3) (c' := rxC sl has val s3 ow) b3 rfl fun h4 b4 hu4 => ?_⟩
  refine ⟨rwr (i := 4) b4 (show 4 < 5 by decide), rset (i := 4) (c' := rxC sl has val s3 none) b4 rfl fun h5 b5 hu5 => ?_⟩
  refine live_nil (condP_false.2 ?_)
  have hu35 := hu4.tr hu5
  have z5 := hu35.size
  have ho3' := (ho3.within.upd hu35 fun x hx e => by have e : x = h.size := e; have := hx.1; omega).more (M' := fun x => h.size < x ∧ x < h5.size) fun x hx => ⟨by have := hx.1; omega, by have := hx.2; omega⟩
  exact hk h5 s3 b5 ho3' ((k2.tr hu3).trans hu35 fun x hx => .inr (Nat.le_of_eq hx.symm))
theorem rxNamed_ok {h : Heap} {b : Nat} {sl nl : ByteArray} {has : Bool} {val : ByteArray} {s : SliceV} {ow : Option Addr} (hb : h[b]? = some (.cells (rxC sl has val s ow) t_radix_Node (0, 0))) {K : Option Addr → Heap → Prop}
    (hk : ∀ h', h'[b]? = some (.cells (rxC nl has val s ow) t_radix_Node (0, 0)) → Upd (· = b) h h' → K (some ⟨b, 0, none⟩) h') : HC PG f_radix_Node_named [.pointer (some ⟨b, 0, none⟩), .string nl] [.c .ptr] K h := by
  refine H_radix_Node_named _ nl ?_
  unfold F_radix_Node_named
  exact ⟨_, rfl, rwr (i := 0) hb (show 0 < 5 by decide), rset (i := 0) (c' := rxC nl has val s ow) hb rfl hk⟩
theorem rxValued_ok {h : Heap} {b : Nat} {sl v : ByteArray} {has : Bool} {val : ByteArray} {s : SliceV} {ow : Option Addr} (hb : h[b]? = some (.cells (rxC sl has val s ow) t_radix_Node (0, 0))) {K : Option Addr → Heap → Prop}
    (hk : ∀ h', h'[b]? = some (.cells (rxC sl true v s ow) t_radix_Node (0, 0)) → Upd (· = b) h h' → K (some ⟨b, 0, none⟩) h') : HC PG f_radix_Node_valued [.pointer (some ⟨b, 0, none⟩), .string v] [.c .ptr] K h := by
  refine H_radix_Node_valued _ v ?_
  unfold F_radix_Node_valued
  exact ⟨_, rfl, rwr (i := 1) hb (show 1 < 5 by decide), rset (i := 1) (c' := rxC sl true val s ow) hb rfl fun h1 b1 hu1 => ⟨_, rfl, rwr (i := 2) b1 (show 2 < 5 by decide), rset (i := 2) (c' := rxC sl true v s ow) b1 rfl fun h2 b2 hu2 => hk h2 b2 (hu1.tr hu2)⟩⟩
theorem rxFresh_ok {h : Heap} {k v : ByteArray} {K : Option Addr → Heap → Prop} (hk : ∀ h' b s, h'[b]? = some (.cells (rxC k true v s none) t_radix_Node (0, 0)) → s.len = 0 → s.len ≤ s.cap → h.size ≤ b → Upd No h h' → K (some ⟨b, 0, none⟩) h') : HC PG f_radix_fresh [.pointer none, .string k, .string v] [.c .ptr] K h := by
  refine H_radix_fresh none k v ?_
  unfold F_radix_fresh
  have k1 := Upd.hnew No h rx0 t_radix_Node
  have b1 := hnew_get h rx0 t_radix_Node
  refine at_intro ?_
  simp only [newA_eq h]
  generalize hnew h [.string (⟨#[]⟩ : ByteArray), .bool false, .string (⟨#[]⟩ : ByteArray), .slice none 0 0, .pointer none] t_radix_Node = h1 at k1 b1
  refine rxOwn_ok (W := No) (ks := []) (sl := ⟨#[]⟩) (val := ⟨#[]⟩) (has := false) (s := ⟨none, 0, 0⟩) (ow := none) b1 (Sl.nil rxF_ne) (Nat.zero_le _) fun h2 s b2 ho2 hu2 => ?_
  refine rxNamed_ok (nl := k) b2 fun h3 b3 hu3 => rxValued_ok (v := v) b3 fun h4 b4 hu4 => ?_
  have hu24 := hu3.tr hu4
  have z := hu2.size
  have z2 := k1.size
  refine hk h4 h1.size s b4 ho2.len ho2.cap z2 ((k1.tr hu2).trans hu24 fun x hx => .inr (by have hx : x = h1.size := hx; omega))
theorem leafN {W : Nat → Prop} {h : Heap} {b : Nat} {k v : ByteArray} {s : SliceV} {ow : Option Addr} (hb : h[b]? = some (.cells (rxC k true v s ow) t_radix_Node (0, 0))) (h0 : s.len = 0) (hc : s.len ≤ s.cap) (nw : ¬ W b) : RxN W h b k (some v) .nil :=
  ⟨v, s, ow, [], hb, fun _ hu => Option.some.inj hu, ⟨h0, rxF_ne, fun h => absurd rfl h⟩, ⟨hc, nw⟩, rfl⟩
theorem ext_take (s : ByteArray) (c : Nat) : (s.extract 0 c).data.toList = s.data.toList.take c := by
  rw [ByteArray.data_extract, Array.toList_extract, List.extract_eq_take_drop]; simp
theorem ext_drop (s : ByteArray) (c : Nat) : (s.extract c s.size).data.toList = s.data.toList.drop c := by
  rw [ByteArray.data_extract, Array.toList_extract, List.extract_eq_take_drop, List.take_of_length_le]
  rw [List.length_drop]; simp
theorem rxSplit_ok {W : Nat → Prop} {h : Heap} {b : Nat} {sl : ByteArray} {w : Option ByteArray} {F : Fo} (r : RxN W h b sl w F) (hW : ∀ y, W y → y < h.size) (hn : F.toL.length ≤ 256) {c : Nat} (hc : c ≤ sl.size) {K : Option Addr → Heap → Prop}
    (hk : ∀ h' b', RxN W h' b' (sl.extract 0 c) none (.cons (sl.data.toList.drop c) w F .nil) → Upd No h h' → K (some ⟨b', 0, none⟩) h') : HC PG f_radix_Node_split [.pointer (some ⟨b, 0, none⟩), .pointer none, .int .i64 c] [.c .ptr] K h := by
  refine H_radix_Node_split _ none c ?_
  unfold F_radix_Node_split cAt
  obtain ⟨val, s, ow, ks, hb, hv, hs, hcap, hF⟩ := r
  have lab : ∀ {h'}, Upd No h h' → hcell h' (adr ⟨b, 0, none⟩ 0) = some (.string sl) := fun k => rcell (i := 0) (k.get0 hb)
  have r0 := Upd.refl No h
  refine ⟨_, rfl, sl, lab r0, ⟨by omega, by omega⟩, at_intro ?_⟩
  have k1 := Upd.hnew No h rx0 t_radix_Node
  have b1 := hnew_get h rx0 t_radix_Node
  simp only [newA_eq h]
  generalize hnew h [.string (⟨#[]⟩ : ByteArray), .bool false, .string (⟨#[]⟩ : ByteArray), .slice none 0 0, .pointer none] t_radix_Node = h1 at k1 b1
  refine ⟨lab k1, ?_⟩
  refine rxOwn_ok (W := No) (ks := []) (sl := ⟨#[]⟩) (val := ⟨#[]⟩) (has := false) (s := ⟨none, 0, 0⟩) (ow := none) b1 (Sl.nil rxF_ne) (Nat.zero_le _) fun h2 s2 b2 _ hu2 => ⟨lab (k1.tr hu2), ?_⟩
  rw [Int.toNat_natCast]
  refine rxNamed_ok b2 fun h3 b3 hu3 => ?_
  have z1 := k1.size
  have hu03 : Upd No h h3 := (k1.tr hu2).trans hu3 fun x hx => .inr (by have hx : x = h1.size := hx; omega)
  refine rxOwn_ok (hu03.get0 hb) (hs.upd hu03 fun _ h => h.elim) (by rw [(rxF_iff.1 hF).1]; exact hn) fun h4 s4 b4 ho4 hu4 => ?_
  refine ⟨_, rfl, sl, rcell (i := 0) b4, ⟨by omega, by omega⟩, ?_⟩
  refine rxNamed_ok (nl := sl.extract c sl.size) b4 fun h5 b5 hu5 => ?_
  have hu05 : Upd No h h5 := (hu03.tr hu4).trans hu5 fun x hx => .inr (by have hx : x = h3.size := hx; have := hu03.size; omega)
  have ho5 := ho4.upd hu5 fun x hx e => by have e : x = h3.size := e; have := hx.1; omega
  have hb3 := get_lt b3
  have b35 : h5[h1.size]? = some (.cells (rxC (sl.extract 0 c) false ⟨#[]⟩ s2 none) t_radix_Node (0, 0)) := hu5.get (hu4.get0 b3) (by show ¬ h1.size = h3.size; omega)
  have k6 := Upd.hnew No h5 [.pointer (some ⟨h3.size, 0, none⟩)] t_P_radix_Node
  have b6 := hnew_get h5 [.pointer (some ⟨h3.size, 0, none⟩)] t_P_radix_Node
  have hz5 := hu05.size
  have hz3 := hu03.size
  refine at_intro ?_
  simp only [newA_eq h5]
  generalize hnew h5 [.pointer (some ⟨h3.size, 0, none⟩)] t_P_radix_Node = h6 at k6 b6
  have b36 := k6.get0 b35
  have hlt1 := get_lt b35
  refine ⟨_, rfl, rwr (i := 3) b36 (show 3 < 5 by decide), rset (i := 3) (c' := rxC (sl.extract 0 c) false ⟨#[]⟩ ⟨some ⟨h5.size, 0, none⟩, 1, 1⟩ none) b36 rfl fun h7 b7 hu7 => ?_⟩
  have hu07 : Upd No h h7 := (hu05.tr k6).trans hu7 fun x hx => .inr (by have hx : x = h1.size := hx; omega)
  have b67 : h7[h5.size]? = some (.cells #[.pointer (some ⟨h3.size, 0, none⟩)] t_P_radix_Node (0, 0)) := hu7.get b6 (by show ¬ h5.size = h1.size; omega)
  have b57 := hu7.get (k6.get0 b5) (by show ¬ h3.size = h1.size; omega)
  have ho7 := (ho5.upd k6 fun _ _ h => h).upd hu7 fun x hx e => by have e : x = h1.size := e; have := hx.1; omega
  refine hk h7 h1.size ⟨⟨#[]⟩, _, none, [some ⟨h3.size, 0, none⟩], b7, fun v h => (by cases h), ⟨rfl, rxF_ne, fun _ => ⟨_, rfl, (fun hx => by have hx : W h5.size := hx; have := hW _ hx; omega), row_blk b67 fun i v hi => ?_⟩⟩, ⟨Nat.le_refl _, fun hx => by have := hW _ hx; omega⟩, ?_⟩ hu07
  · rw [Nat.zero_add]
    rw [← List.getElem?_toArray] at hi; exact hi
  · refine ⟨h3.size, sl.extract c sl.size, val, s4, none, ks, [], rfl, ext_drop .., b57, hv, ho7.sl (fun x hx _ hw => by have := hW _ hw; have := hx.1; omega), ⟨ho7.cap, fun hx => by have := hW _ hx; omega⟩, RxF.upd0 hu07 hF, rfl⟩
end Go.Proofs
