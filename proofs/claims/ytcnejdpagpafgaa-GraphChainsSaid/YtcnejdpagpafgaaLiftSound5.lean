/-
  Soundness of a region's operations in whatever order: an operation that reads or reckons is taken first; what it hangs on is shown anew behind each that may come ahead of it.
-/
import Derived.Test.YtcnejdpagpafgaaLiftSound4
namespace Go.Lift
open Go
/-! ### Sets of numbers as bits -/
theorem tb_eq (m i : Nat) : tb m i = m.testBit i := by
  have h : Nat.land (Nat.shiftRight m i) 1 = (m >>> i) &&& 1 := rfl
  unfold tb
  rw [h, Nat.testBit_eq_decide_div_mod_eq, Nat.and_one_is_mod, Nat.shiftRight_eq_div_pow]
  cases hm : decide (m / 2 ^ i % 2 = 1) with
  | true => rw [of_decide_eq_true hm]; rfl
  | false =>
    have h2 := of_decide_eq_false hm
    have : m / 2 ^ i % 2 = 0 := by omega
    rw [this]; rfl
theorem bit_or (a b i : Nat) : (Nat.lor a b).testBit i = (a.testBit i || b.testBit i) := Nat.testBit_or a b i
theorem bit_of (i j : Nat) : (bitOf i).testBit j = decide (i = j) := Nat.testBit_two_pow
theorem bit_apart {a b : Nat} (h : Nat.beq (Nat.land a b) 0 = true) (t : Nat) (ha : a.testBit t = true) (hb : b.testBit t = true) : False := by
  have h0 := Nat.eq_of_beq_eq_true h
  have : (Nat.land a b).testBit t = (a.testBit t && b.testBit t) := Nat.testBit_and a b t
  rw [h0, ha, hb] at this
  simp at this
theorem bit_sub {a b : Nat} (h : Nat.beq (Nat.land a b) a = true) (t : Nat) (ha : a.testBit t = true) : b.testBit t = true := by
  have h0 := Nat.eq_of_beq_eq_true h
  have : (Nat.land a b).testBit t = (a.testBit t && b.testBit t) := Nat.testBit_and a b t
  rw [h0, ha] at this
  simpa using this.symm
theorem afterMask_bit (i : Nat) : ∀ l : List Edge, (afterMask l).testBit i = l.any fun e => Nat.beq e.on i && Region.binds .any e
  | [] => Nat.zero_testBit i
  | e :: l => by
    have ih := afterMask_bit i l
    have hc : afterMask (e :: l) = bif Region.binds .any e then Nat.lor (bitOf e.on) (afterMask l) else afterMask l := rfl
    rw [hc, List.any_cons, ← ih]
    cases hb : Region.binds .any e with
    | true =>
      rw [cond_true, bit_or, bit_of, Bool.and_true]
      congr 1
      cases hd : Nat.beq e.on i with
      | true => simpa using Nat.eq_of_beq_eq_true hd
      | false => rw [decide_eq_false_iff_not]; intro e'; rw [e'] at hd; simp at hd
    | false => simp
theorem afterMask_isAfter (o : Oper) (i : Nat) : (afterMask o.after.toList).testBit i = isAfter o i := afterMask_bit i o.after.toList
theorem tmpsMask_bit (t : Nat) : ∀ l : List Operand, (tmpsMask l).testBit t = true ↔ Operand.tmp t ∈ l
  | [] => by simp [show tmpsMask [] = 0 from rfl]
  | o :: l => by
    have ih := tmpsMask_bit t l
    cases o with
    | tmp u =>
      have hc : tmpsMask (.tmp u :: l) = Nat.lor (bitOf u) (tmpsMask l) := rfl
      rw [hc, bit_or, bit_of, Bool.or_eq_true, ih, List.mem_cons]
      simp [eq_comm]
    | const v => have hc : tmpsMask (.const v :: l) = tmpsMask l := rfl
                 rw [hc, ih, List.mem_cons]; simp
    | global v => have hc : tmpsMask (.global v :: l) = tmpsMask l := rfl
                  rw [hc, ih, List.mem_cons]; simp
    | func v => have hc : tmpsMask (.func v :: l) = tmpsMask l := rfl
                rw [hc, ih, List.mem_cons]; simp
theorem dstMask_bit (o : Oper) (t : Nat) : (dstMask o).testBit t = true ↔ o.dst = some t := by
  unfold dstMask
  cases o.dst with
  | none => simp
  | some d => simp [bit_of]
theorem looksMask_bit (ops : Array Oper) (o : Oper) (t : Nat) : (looksMask ops.toList o).testBit t = true ↔ t ∈ o.looksAt ops := by
  unfold looksMask Oper.looksAt
  rw [bit_or, Bool.or_eq_true, tmpsMask_bit, List.mem_append, List.mem_filterMap]
  refine or_congr ⟨fun h => ⟨_, h, rfl⟩, ?_⟩ ?_
  · rintro ⟨x, hx, he⟩
    cases x <;> simp at he
    subst he; exact hx
  · cases hg : o.guard with
    | none => simp
    | some g =>
      obtain ⟨j, want⟩ := g
      simp only [Array.getElem?_toList]
      cases hj : ops[j]? with
      | none => simp
      | some oj => simp [dstMask_bit]

variable {P : Program} {ro : Option Nat} {n : Nat} {ops : Array Oper} {Q : Exit → Act → World → Prop}
/-! ### What the sets say -/
structure MsOk (ops : Array Oper) (ms : List DM) : Prop where
  am : ∀ (i : Nat) (o : Oper) (m : DM), ops[i]? = some o → ms[i]? = some m → ∀ j, m.am.testBit j = isAfter o j
  lk : ∀ (i : Nat) (o : Oper) (m : DM), ops[i]? = some o → ms[i]? = some m → ∀ t, m.lk.testBit t = true ↔ t ∈ o.looksAt ops
  ds : ∀ (i : Nat) (o : Oper) (m : DM), ops[i]? = some o → ms[i]? = some m → ∀ t, m.ds.testBit t = true ↔ o.dst = some t
  len : ms.length = ops.size
  free : ∀ (i j : Nat) (m k : DM), ms[i]? = some m → ms[j]? = some k → m.fr.testBit j = true → j = i ∨ k.am.testBit i = true ∨ apartM m k = true
  nosel : ∀ (i : Nat) (o : Oper), ops[i]? = some o → (∀ cs b, o.op ≠ .select cs b) ∧ (∀ c, o.op ≠ .defer c)
theorem masksAre_get (ops : List Oper) : ∀ (l : List Oper) (ms : List DM), masksAre ops l ms = true → ms.length = l.length ∧ ∀ (i : Nat) (o : Oper) (m : DM), l[i]? = some o → ms[i]? = some m →
    m.am = afterMask o.after.toList ∧ m.lk = looksMask ops o ∧ m.ds = dstMask o
  | [], [], _ => ⟨rfl, fun i o m h => by simp at h⟩
  | [], _ :: _, h => by cases h
  | o :: l, [], h => by cases h
  | o :: l, m :: ms, h => by
    have hc : masksAre ops (o :: l) (m :: ms) = (Nat.beq (afterMask o.after.toList) m.am && Nat.beq (looksMask ops o) m.lk && Nat.beq (dstMask o) m.ds && masksAre ops l ms) := rfl
    rw [hc] at h
    simp only [Bool.and_eq_true] at h
    obtain ⟨⟨⟨h1, h2⟩, h3⟩, h4⟩ := h
    obtain ⟨hl, hg⟩ := masksAre_get ops l ms h4
    refine ⟨by simp [hl], fun i o' m' ho hm => ?_⟩
    cases i with
    | zero =>
      simp only [List.getElem?_cons_zero, Option.some.injEq] at ho hm
      subst ho; subst hm
      exact ⟨(Nat.eq_of_beq_eq_true h1).symm, (Nat.eq_of_beq_eq_true h2).symm, (Nat.eq_of_beq_eq_true h3).symm⟩
    | succ i => exact hg i o' m' (by simpa using ho) (by simpa using hm)
theorem freeM_get (i : Nat) (m : DM) : ∀ (l : List DM) (j0 : Nat), freeM i m l j0 = true → ∀ (j : Nat) (k : DM), l[j]? = some k → m.fr.testBit (j0 + j) = true → j0 + j = i ∨ k.am.testBit i = true ∨ apartM m k = true
  | [], j0, _, j, k, hk, _ => by simp at hk
  | x :: l, j0, h, j, k, hk, hb => by
    have hc : freeM i m (x :: l) j0 = ((!(tb m.fr j0) || Nat.beq j0 i || tb x.am i || apartM m x) && freeM i m l (Nat.succ j0)) := rfl
    rw [hc] at h
    simp only [Bool.and_eq_true, Bool.or_eq_true, Bool.not_eq_true', tb_eq] at h
    cases j with
    | zero =>
      simp only [List.getElem?_cons_zero, Option.some.injEq] at hk
      subst hk
      simp only [Nat.add_zero] at hb ⊢
      rcases h.1 with ((h1 | h1) | h1) | h1
      · rw [h1] at hb; cases hb
      · exact .inl (Nat.eq_of_beq_eq_true h1)
      · exact .inr (.inl h1)
      · exact .inr (.inr h1)
    | succ j =>
      have := freeM_get i m l (j0 + 1) h.2 j k (by simpa using hk) (by rw [show j0 + 1 + j = j0 + (j + 1) by omega]; exact hb)
      rw [show j0 + 1 + j = j0 + (j + 1) by omega] at this
      exact this
theorem freeAll_get (all : List DM) : ∀ (l : List DM) (i0 : Nat), freeAll all l i0 = true → ∀ (i : Nat) (m : DM), l[i]? = some m → freeM (i0 + i) m all 0 = true
  | [], i0, _, i, m, hm => by simp at hm
  | x :: l, i0, h, i, m, hm => by
    have hc : freeAll all (x :: l) i0 = (freeM i0 x all 0 && freeAll all l (Nat.succ i0)) := rfl
    rw [hc, Bool.and_eq_true] at h
    cases i with
    | zero => simp only [List.getElem?_cons_zero, Option.some.injEq] at hm; subst hm; exact h.1
    | succ i =>
      have := freeAll_get all l (i0 + 1) h.2 i m (by simpa using hm)
      rw [show i0 + 1 + i = i0 + (i + 1) by omega] at this
      exact this
theorem noSel_get : ∀ (l : List Oper), noSel l = true → ∀ o ∈ l, (∀ cs b, o.op ≠ .select cs b) ∧ (∀ c, o.op ≠ .defer c)
  | [], _, o, ho => by cases ho
  | x :: l, h, o, ho => by
    simp only [noSel, Bool.and_eq_true] at h
    rcases List.mem_cons.1 ho with rfl | ho
    · refine ⟨fun cs b e => ?_, fun c e => ?_⟩
      · rw [e] at h; cases h.1
      · rw [e] at h; cases h.1
    · exact noSel_get l h.2 o ho
theorem masksOk_ok {ms : List DM} (h : masksOk ops.toList ms = true) : MsOk ops ms := by
  have hc : masksOk ops.toList ms = (masksAre ops.toList ops.toList ms && freeAll ms ms 0 && noSel ops.toList) := rfl
  rw [hc] at h
  simp only [Bool.and_eq_true] at h
  obtain ⟨⟨h1, h2⟩, h3⟩ := h
  obtain ⟨hl, hg⟩ := masksAre_get ops.toList ops.toList ms h1
  refine ⟨fun i o m ho hm j => ?_, fun i o m ho hm t => ?_, fun i o m ho hm t => ?_, by simpa using hl, fun i j m k hm hk hb => ?_, fun i o ho => ?_⟩
  · rw [(hg i o m (by simpa using ho) hm).1, afterMask_isAfter]
  · rw [(hg i o m (by simpa using ho) hm).2.1, looksMask_bit]
  · rw [(hg i o m (by simpa using ho) hm).2.2, dstMask_bit]
  · have := freeAll_get ms ms 0 h2 i m hm
    rw [Nat.zero_add] at this
    have := freeM_get i m ms 0 this j k hk (by rwa [Nat.zero_add])
    rwa [Nat.zero_add] at this
  · exact noSel_get _ h3 o (List.mem_of_getElem? (by rw [Array.getElem?_toList]; exact ho))
theorem apart_of {ms : List DM} (hm : MsOk ops ms) {i j : Nat} {oi oj : Oper} {mi mj : DM} (hi : ops[i]? = some oi) (hj : ops[j]? = some oj) (hmi : ms[i]? = some mi) (hmj : ms[j]? = some mj) (h : apartM mi mj = true) :
    (∀ d, oi.dst = some d → d ∉ oj.looksAt ops) ∧ (∀ d, oi.dst = some d → oj.dst ≠ some d) ∧ (∀ d, oj.dst = some d → d ∉ oi.looksAt ops) := by
  unfold apartM at h
  rw [Bool.and_eq_true] at h
  refine ⟨fun d hd hl => ?_, fun d hd he => ?_, fun d hd hl => ?_⟩
  · exact bit_apart h.1 d ((hm.ds i oi mi hi hmi d).2 hd) (by rw [bit_or, (hm.lk j oj mj hj hmj d).2 hl, Bool.true_or])
  · exact bit_apart h.1 d ((hm.ds i oi mi hi hmi d).2 hd) (by rw [bit_or, (hm.ds j oj mj hj hmj d).2 he, Bool.or_true])
  · exact bit_apart h.2 d ((hm.ds j oj mj hj hmj d).2 hd) ((hm.lk i oi mi hi hmi d).2 hl)
/-- The set of those that have come up, as the model has it. -/
structure LsRel (ops : Array Oper) (ls : Nat) (listed : Array Bool) : Prop where
  size : listed.size = ops.size
  bit : ∀ j, listed.getD j false = ls.testBit j
theorem LsRel.start : LsRel ops 0 (Array.replicate ops.size false) := ⟨by simp, fun j => by
  rw [Nat.zero_testBit, Array.getD_eq_getD_getElem?]
  by_cases h : j < ops.size <;> simp [h]⟩
theorem LsRel.put {ls : Nat} {listed : Array Bool} (h : LsRel ops ls listed) {i : Nat} (hi : i < ops.size) : LsRel ops (Nat.lor ls (bitOf i)) (listed.setIfInBounds i true) := by
  refine ⟨by simp [h.size], fun j => ?_⟩
  rw [bit_or, bit_of, ← h.bit]
  by_cases e : i = j
  · subst e; simp [h.size, hi]
  · simp [e, Array.getElem?_setIfInBounds_ne e]
theorem LsRel.unlisted {ls : Nat} {listed : Array Bool} (h : LsRel ops ls listed) {i : Nat} (hi : i < ops.size) : listed.getD i true = ls.testBit i := by
  rw [← h.bit]
  have : i < listed.size := by rw [h.size]; exact hi
  simp [this]
theorem ready_iff {ms : List DM} (hm : MsOk ops ms) {ls : Nat} {listed : Array Bool} (h : LsRel ops ls listed) {j : Nat} : j ∈ Region.ready .any ops listed ↔ ∃ m, ms[j]? = some m ∧ ls.testBit j = false ∧ rdy m ls = true := by
  rw [mem_ready]
  constructor
  · rintro ⟨h0, o, ho, hall⟩
    have hj : j < ops.size := (Array.getElem?_eq_some_iff.1 ho).1
    have hjm : j < ms.length := by rw [hm.len]; exact hj
    refine ⟨ms[j], List.getElem?_eq_getElem hjm, by rw [← h.unlisted hj]; exact h0, ?_⟩
    unfold rdy
    have : Nat.land (ms[j]).am ls = (ms[j]).am := by
      apply Nat.eq_of_testBit_eq
      intro t
      have hand : (Nat.land (ms[j]).am ls).testBit t = ((ms[j]).am.testBit t && ls.testBit t) := Nat.testBit_and _ _ t
      rw [hand]
      cases ht : (ms[j]).am.testBit t with
      | false => rfl
      | true =>
        rw [hm.am j o _ ho (List.getElem?_eq_getElem hjm)] at ht
        unfold isAfter at ht
        obtain ⟨e, he, hb⟩ := List.any_eq_true.1 ht
        simp only [Bool.and_eq_true] at hb
        have := hall e (by simpa using he) hb.2
        rw [Nat.eq_of_beq_eq_true hb.1, h.bit] at this
        rw [this]; rfl
    rw [this]; exact Nat.beq_refl _
  · rintro ⟨m, hmj, h0, hr⟩
    have hj : j < ops.size := by rw [← hm.len]; exact (List.getElem?_eq_some_iff.1 hmj).1
    refine ⟨by rw [h.unlisted hj]; exact h0, ops[j], Array.getElem?_eq_getElem hj, fun e he hb => ?_⟩
    rw [h.bit]
    refine bit_sub hr e.on ?_
    rw [hm.am j _ m (Array.getElem?_eq_getElem hj) hmj]
    unfold isAfter
    exact List.any_eq_true.2 ⟨e, by simpa using he, by simp [hb]⟩
theorem readyL_mem (ls : Nat) : ∀ (l : List DM) (j0 j : Nat), j ∈ readyL ls l j0 ↔ ∃ k m, l[k]? = some m ∧ j = j0 + k ∧ ls.testBit j = false ∧ rdy m ls = true
  | [], j0, j => by simp [show readyL ls [] j0 = [] from rfl]
  | m :: l, j0, j => by
    have hc : readyL ls (m :: l) j0 = bif !(tb ls j0) && rdy m ls then j0 :: readyL ls l (Nat.succ j0) else readyL ls l (Nat.succ j0) := rfl
    have ih := readyL_mem ls l (j0 + 1) j
    rw [hc, tb_eq]
    have step : (∃ k m', (m :: l)[k]? = some m' ∧ j = j0 + k ∧ ls.testBit j = false ∧ rdy m' ls = true) ↔ (j = j0 ∧ ls.testBit j0 = false ∧ rdy m ls = true) ∨ j ∈ readyL ls l (j0 + 1) := by
      rw [ih]
      constructor
      · rintro ⟨k, m', hk, rfl, h1, h2⟩
        cases k with
        | zero => simp only [List.getElem?_cons_zero, Option.some.injEq] at hk; subst hk; exact .inl ⟨rfl, h1, h2⟩
        | succ k => exact .inr ⟨k, m', by simpa using hk, by omega, h1, h2⟩
      · rintro (⟨rfl, h1, h2⟩ | ⟨k, m', hk, rfl, h1, h2⟩)
        · exact ⟨0, m, rfl, rfl, h1, h2⟩
        · exact ⟨k + 1, m', by simpa using hk, by omega, h1, h2⟩
    rw [step]
    cases hb : (!(ls.testBit j0) && rdy m ls) with
    | true =>
      simp only [Bool.and_eq_true, Bool.not_eq_true'] at hb
      rw [cond_true, List.mem_cons]
      simp [hb.1, hb.2]
    | false =>
      rw [cond_false]
      constructor
      · exact .inr
      · rintro (⟨_, h1, h2⟩ | h)
        · rw [h1, h2] at hb; cases hb
        · exact h
theorem ready_readyL {ms : List DM} (hm : MsOk ops ms) {ls : Nat} {listed : Array Bool} (h : LsRel ops ls listed) {j : Nat} : j ∈ Region.ready .any ops listed ↔ j ∈ readyL ls ms 0 := by
  rw [ready_iff hm h, readyL_mem]
  constructor
  · rintro ⟨m, h1, h2, h3⟩; exact ⟨j, m, h1, by omega, h2, h3⟩
  · rintro ⟨k, m, h1, rfl, h2, h3⟩; exact ⟨m, by simpa using h1, h2, h3⟩
theorem natsEq_eq : ∀ {a b : List Nat}, natsEq a b = true → a = b
  | [], [], _ => rfl
  | [], _ :: _, h => by cases h
  | _ :: _, [], h => by cases h
  | a :: as, b :: bs, h => by
    simp only [natsEq, Bool.and_eq_true] at h
    rw [Nat.eq_of_beq_eq_true h.1, natsEq_eq h.2]
end Go.Lift
