/- A part of the proof that the named laws of this program answer true, whatever the input. -/
import Derived.Test.YtfbbjmjfkopdnaaGreatTreeF0
import Derived.Test.YtfbbjmjfkopdnaaGreatTreeF1
import Derived.Test.YtfbbjmjfkopdnaaGreatTreeF2
import Derived.Test.YtfbbjmjfkopdnaaGreatLaw0
import Derived.Test.YtfbbjmjfkopdnaaGreatLift2
import Derived.Lib.Overlaps
import Derived.Sort.Walk0
namespace Go.Proofs
open Go.Lift
theorem u64_nn (n : Int) : 0 ≤ IntKind.wrap .u64 n ∧ IntKind.wrap .u64 n < 18446744073709551616 := by rw [IntKind.wrap_u64]; omega
theorem w64 {x : Int} (h : -4611686018427387904 ≤ x ∧ x ≤ 4611686018427387904) : IntKind.wrap .i64 x = x := Go.IntWalk.i64_in _ (by omega)
theorem wrap_succ {i n : Nat} (h : i < n) (hn : n ≤ 4611686018427387904) : IntKind.wrap .i64 ((i : Int) + 1) = ((i + 1 : Nat) : Int) := by rw [w64 (by omega)]; omega
theorem at_set {h : Heap} {b i : Nat} {c : Array Value} {t : TypeId} {v : Value} {k : Heap → Prop} (hb : h[b]? = some (.cells c t (0, 0)))
    (hk : ∀ h', h'[b]? = some (.cells (c.setIfInBounds i v) t (0, 0)) → Upd (· = b) h h' → k h') : At (hset h ⟨b, i, none⟩ v) k := by
  refine hk _ ?_ (Upd.hset _ _ rfl)
  rw [hset_blk hb, set_get hb]
def and64 (a b : Int) : Int := IntKind.wrap .u64 (BitVec.ofInt (IntKind.bits .u64) a &&& BitVec.ofInt (IntKind.bits .u64) b).toNat
def xor64 (a b : Int) : Int := IntKind.wrap .u64 (BitVec.ofInt (IntKind.bits .u64) a ^^^ BitVec.ofInt (IntKind.bits .u64) b).toNat
def or64 (a b : Int) : Int := IntKind.wrap .u64 (BitVec.ofInt (IntKind.bits .u64) a ||| BitVec.ofInt (IntKind.bits .u64) b).toNat
def rotl (x n : Int) : Int :=
  or64 (IntKind.wrap .u64 (x * 2 ^ (min (and64 (IntKind.wrap .u64 n) 63).toNat (IntKind.bits .u64)))) (Int.fdiv x (2 ^ (min (IntKind.wrap .u64 (64 - and64 (IntKind.wrap .u64 n) 63)).toNat (IntKind.bits .u64))))
theorem rot_ok {x n : Int} {h : Heap} {K : Int → Heap → Prop} (hk : K (rotl x n) h) : HC PG f_math_bits_RotateLeft64 [.int .u64 x, .int .i64 n] [.c (.int .u64)] K h := by
  refine H_math_bits_RotateLeft64 x n ?_
  unfold F_math_bits_RotateLeft64
  exact ⟨(u64_nn _).1, (u64_nn _).1, hk⟩
abbrev Q4 := Int × Int × Int × Int
def q4 (s : Q4) : Array Value := #[.int .u64 s.1, .int .u64 s.2.1, .int .u64 s.2.2.1, .int .u64 s.2.2.2]
def ad64 (a b : Int) : Int := IntKind.wrap .u64 (a + b)
def s01 (s : Q4) : Q4 := (ad64 s.1 s.2.1, s.2)
def s02 (s : Q4) : Q4 := (s.1, xor64 (rotl s.2.1 13) s.1, s.2.2)
def s03 (s : Q4) : Q4 := (rotl s.1 32, s.2)
def s04 (s : Q4) : Q4 := (s.1, s.2.1, ad64 s.2.2.1 s.2.2.2, s.2.2.2)
def s05 (s : Q4) : Q4 := (s.1, s.2.1, s.2.2.1, xor64 (rotl s.2.2.2 16) s.2.2.1)
def s06 (s : Q4) : Q4 := (ad64 s.1 s.2.2.2, s.2)
def s07 (s : Q4) : Q4 := (s.1, s.2.1, s.2.2.1, xor64 (rotl s.2.2.2 21) s.1)
def s08 (s : Q4) : Q4 := (s.1, s.2.1, ad64 s.2.2.1 s.2.1, s.2.2.2)
def s09 (s : Q4) : Q4 := (s.1, xor64 (rotl s.2.1 17) s.2.2.1, s.2.2)
def s10 (s : Q4) : Q4 := (s.1, s.2.1, rotl s.2.2.1 32, s.2.2.2)
def round4 (s : Q4) : Q4 := s10 (s09 (s08 (s07 (s06 (s05 (s04 (s03 (s02 (s01 s)))))))))
def rounds4 : Nat → Q4 → Q4
  | 0, s => s
  | n + 1, s => rounds4 n (round4 s)
theorem q4_set {h : Heap} {b i : Nat} {t : TypeId} {s s' : Q4} {v : Value} {k : Heap → Prop} (hb : h[b]? = some (.cells (q4 s) t (0, 0))) (e : (q4 s).setIfInBounds i v = q4 s')
    (hk : ∀ h', h'[b]? = some (.cells (q4 s') t (0, 0)) → Upd (· = b) h h' → k h') : At (hset h ⟨b, i, none⟩ v) k :=
  at_set hb fun h' hb' hu => hk h' (e ▸ hb') hu
theorem rounds_ok {n : Nat} (hn : n ≤ 100) {h : Heap} {b : Nat} {t : TypeId} {s : Q4} (hb : h[b]? = some (.cells (q4 s) t (0, 0))) {K : Unit → Heap → Prop}
    (hk : ∀ h', h'[b]? = some (.cells (q4 (rounds4 n s)) t (0, 0)) → Upd (· = b) h h' → K () h') : HC PG f_sip_state_rounds [.pointer (some ⟨b, 0, none⟩), .int .i64 n] [] K h := by
  refine H_sip_state_rounds _ _ ?_
  unfold F_sip_state_rounds cAt iBd
  refine LoopP.ghost (fun (g : Nat × Q4) (t' : Int) h' => t' = (g.1 : Int) ∧ g.1 ≤ n ∧ h'[b]? = some (.cells (q4 g.2) t (0, 0)) ∧ Upd (· = b) h h' ∧ rounds4 (n - g.1) g.2 = rounds4 n s) (fun g => n - g.1) (0, s) ⟨rfl, Nat.zero_le _, hb, Upd.refl _ _, rfl⟩ ?_
  rintro I ⟨i, s1⟩ t' h' ⟨ht, hi, hb1, hu, hr⟩ hI
  simp only at ht hi hb1 hr
  subst ht
  refine condP_dec (fun hlt => ?_) fun hge => ?_
  · have hlt : i < n := by omega
    have c : ∀ {h : Heap} {s : Q4} {i : Nat}, h[b]? = some (.cells (q4 s) t (0, 0)) → hcell h ⟨b, 0 + i, none⟩ = (q4 s)[i]? := fun hb => by rw [Nat.zero_add]; exact hcell_blk hb
    have w : ∀ {h : Heap} {s : Q4} {i : Nat}, h[b]? = some (.cells (q4 s) t (0, 0)) → i < 4 → Wr h ⟨b, 0 + i, none⟩ := fun hb hi => by rw [Nat.zero_add]; exact wr_blk hb hi
    simp only [show ((0 : Int)).toNat * 1 = 0 from rfl, show ((1 : Int)).toNat * 1 = 1 from rfl, show ((2 : Int)).toNat * 1 = 2 from rfl, show ((3 : Int)).toNat * 1 = 3 from rfl]
    refine ⟨_, rfl, by decide, _, c (i := 0) hb1, _, rfl, by decide, _, c (i := 1) hb1, _, rfl, by decide, w (i := 0) hb1 (by decide), q4_set (s' := s01 s1) hb1 rfl fun h2 hb2 hu2 => ?_⟩
    refine ⟨_, rfl, by decide, _, c (i := 1) hb2, _, rfl, by decide, _, c (i := 0) hb2, _, rfl, rot_ok ⟨c (i := 0) hb2, by decide, w (i := 1) hb2 (by decide), q4_set (s' := s02 (s01 s1)) hb2 rfl fun h3 hb3 hu3 => ?_⟩⟩
    refine ⟨_, rfl, by decide, _, c (i := 0) hb3, _, rfl, rot_ok ⟨by decide, w (i := 0) hb3 (by decide), q4_set (s' := s03 (s02 (s01 s1))) hb3 rfl fun h4 hb4 hu4 => ?_⟩⟩
    refine ⟨_, rfl, by decide, _, c (i := 2) hb4, _, rfl, by decide, _, c (i := 3) hb4, _, rfl, by decide, w (i := 2) hb4 (by decide), q4_set (s' := s04 (s03 (s02 (s01 s1)))) hb4 rfl fun h5 hb5 hu5 => ?_⟩
    refine ⟨_, rfl, by decide, _, c (i := 3) hb5, _, rfl, by decide, _, c (i := 2) hb5, _, rfl, rot_ok ⟨c (i := 2) hb5, by decide, w (i := 3) hb5 (by decide), q4_set (s' := s05 (s04 (s03 (s02 (s01 s1))))) hb5 rfl fun h6 hb6 hu6 => ?_⟩⟩
    refine ⟨_, rfl, by decide, _, c (i := 0) hb6, _, rfl, by decide, _, c (i := 3) hb6, _, rfl, by decide, w (i := 0) hb6 (by decide), q4_set (s' := s06 (s05 (s04 (s03 (s02 (s01 s1)))))) hb6 rfl fun h7 hb7 hu7 => ?_⟩
    refine ⟨_, rfl, by decide, _, c (i := 3) hb7, _, rfl, by decide, _, c (i := 0) hb7, _, rfl, rot_ok ⟨c (i := 0) hb7, by decide, w (i := 3) hb7 (by decide), q4_set (s' := s07 (s06 (s05 (s04 (s03 (s02 (s01 s1))))))) hb7 rfl fun h8 hb8 hu8 => ?_⟩⟩
    refine ⟨_, rfl, by decide, _, c (i := 2) hb8, _, rfl, by decide, _, c (i := 1) hb8, _, rfl, by decide, w (i := 2) hb8 (by decide), q4_set (s' := s08 (s07 (s06 (s05 (s04 (s03 (s02 (s01 s1)))))))) hb8 rfl fun h9 hb9 hu9 => ?_⟩
    refine ⟨_, rfl, by decide, _, c (i := 1) hb9, _, rfl, by decide, _, c (i := 2) hb9, _, rfl, rot_ok ⟨c (i := 2) hb9, by decide, w (i := 1) hb9 (by decide), q4_set (s' := s09 (s08 (s07 (s06 (s05 (s04 (s03 (s02 (s01 s1))))))))) hb9 rfl fun h10 hb10 hu10 => ?_⟩⟩
    refine ⟨_, rfl, by decide, _, c (i := 2) hb10, _, rfl, rot_ok ⟨by decide, w (i := 2) hb10 (by decide), q4_set (s' := round4 s1) hb10 rfl fun h11 hb11 hu11 => ?_⟩⟩
    rw [wrap_succ hlt (by omega)]
    refine hI (i + 1, round4 s1) _ _ ⟨rfl, hlt, hb11, hu.tr (hu2.tr (hu3.tr (hu4.tr (hu5.tr (hu6.tr (hu7.tr (hu8.tr (hu9.tr (hu10.tr hu11))))))))), ?_⟩ (by simp only; omega)
    simp only
    rw [← hr, show n - i = (n - (i + 1)) + 1 by omega]; rfl
  · obtain rfl : i = n := by omega
    rw [Nat.sub_self] at hr
    have hr : s1 = rounds4 i s := hr
    rw [← hr] at hk
    exact hk _ hb1 hu
end Go.Proofs
namespace Go.Proofs
open Go.Lift
def bytI (s : ByteArray) (i : Nat) : Int := match s[i]? with | some b => (b.toNat : Int) | none => 0
def shI (b : Int) (n : Int) : Int := IntKind.wrap .u64 ((IntKind.wrap .u64 b) * 2 ^ (min n.toNat (IntKind.bits .u64)))
def wj (s : ByteArray) : Nat → Int → Int
  | 0, t => t
  | k + 1, t => wj s k (or64 t (if k = 0 then IntKind.wrap .u64 (bytI s 0) else shI (bytI s k) ((8 * k : Nat) : Int)))
def wordV (s : ByteArray) : Int := wj s s.size 0
theorem byte_at {s : ByteArray} {i : Nat} (h : i < s.size) : ∃ b, s[i]? = some b ∧ bytI s i = (b.toNat : Int) := ⟨s[i], getElem?_pos s i h, by simp [bytI, getElem?_pos s i h]⟩
theorem word_ok {s : ByteArray} (hs : s.size ≤ 8) {h : Heap} {K : Int → Heap → Prop} (hk : K (wordV s) h) : HC PG f_sip_word [.string s] [.c (.int .u64)] K h := by
  refine H_sip_word s ?_
  unfold F_sip_word
  refine Join.intro (fun t h' => h' = h ∧ 1 ≤ s.size ∧ wj s 1 t = wj s s.size 0) (fun R1 hR1 => ?_) ?_
  · refine Join.intro (fun t h' => h' = h ∧ 2 ≤ s.size ∧ wj s 2 t = wj s s.size 0) (fun R2 hR2 => ?_) ?_
    · refine Join.intro (fun t h' => h' = h ∧ 3 ≤ s.size ∧ wj s 3 t = wj s s.size 0) (fun R3 hR3 => ?_) ?_
      · refine Join.intro (fun t h' => h' = h ∧ 4 ≤ s.size ∧ wj s 4 t = wj s s.size 0) (fun R4 hR4 => ?_) ?_
        · refine Join.intro (fun t h' => h' = h ∧ 5 ≤ s.size ∧ wj s 5 t = wj s s.size 0) (fun R5 hR5 => ?_) ?_
          · refine Join.intro (fun t h' => h' = h ∧ 6 ≤ s.size ∧ wj s 6 t = wj s s.size 0) (fun R6 hR6 => ?_) ?_
            · refine Join.intro (fun t h' => h' = h ∧ 7 ≤ s.size ∧ wj s 7 t = wj s s.size 0) (fun R7 hR7 => ?_) ?_
              · refine CondP.intro (fun e => ?_) fun e8 => ?_
                · have e : s.size = 8 := by have := of_decide_eq_true (by simpa using e : decide ((s.size : Int) = 8) = true); omega
                  obtain ⟨b, hb, hv⟩ := byte_at (s := s) (i := 7) (by omega)
                  refine ⟨b, by decide, hb, by decide, hR7 _ _ ⟨rfl, by omega, ?_⟩⟩
                  rw [e, ← hv]; rfl
                refine CondP.intro (fun e => ?_) fun e7 => ?_
                · have e : s.size = 7 := by have := of_decide_eq_true (by simpa using e : decide ((s.size : Int) = 7) = true); omega
                  exact hR7 _ _ ⟨rfl, by omega, by rw [e]⟩
                refine CondP.intro (fun e => ?_) fun e6 => ?_
                · have e : s.size = 6 := by have := of_decide_eq_true (by simpa using e : decide ((s.size : Int) = 6) = true); omega
                  exact hR6 _ _ ⟨rfl, by omega, by rw [e]⟩
                refine CondP.intro (fun e => ?_) fun e5 => ?_
                · have e : s.size = 5 := by have := of_decide_eq_true (by simpa using e : decide ((s.size : Int) = 5) = true); omega
                  exact hR5 _ _ ⟨rfl, by omega, by rw [e]⟩
                refine CondP.intro (fun e => ?_) fun e4 => ?_
                · have e : s.size = 4 := by have := of_decide_eq_true (by simpa using e : decide ((s.size : Int) = 4) = true); omega
                  exact hR4 _ _ ⟨rfl, by omega, by rw [e]⟩
                refine CondP.intro (fun e => ?_) fun e3 => ?_
                · have e : s.size = 3 := by have := of_decide_eq_true (by simpa using e : decide ((s.size : Int) = 3) = true); omega
                  exact hR3 _ _ ⟨rfl, by omega, by rw [e]⟩
                refine CondP.intro (fun e => ?_) fun e2 => ?_
                · have e : s.size = 2 := by have := of_decide_eq_true (by simpa using e : decide ((s.size : Int) = 2) = true); omega
                  exact hR2 _ _ ⟨rfl, by omega, by rw [e]⟩
                refine CondP.intro (fun e => ?_) fun e1 => ?_
                · have e : s.size = 1 := by have := of_decide_eq_true (by simpa using e : decide ((s.size : Int) = 1) = true); omega
                  exact hR1 _ _ ⟨rfl, by omega, by rw [e]⟩
                have e : s.size = 0 := by
                  have q1 : ¬ (s.size : Int) = 1 := by simpa using e1
                  have q2 : ¬ (s.size : Int) = 2 := by simpa using e2
                  have q3 : ¬ (s.size : Int) = 3 := by simpa using e3
                  have q4 : ¬ (s.size : Int) = 4 := by simpa using e4
                  have q5 : ¬ (s.size : Int) = 5 := by simpa using e5
                  have q6 : ¬ (s.size : Int) = 6 := by simpa using e6
                  have q7 : ¬ (s.size : Int) = 7 := by simpa using e7
                  have q8 : ¬ (s.size : Int) = 8 := by simpa using e8
                  omega
                unfold wordV at hk
                rw [e] at hk
                exact hk
              · rintro t _ ⟨rfl, hsz, ht⟩
                obtain ⟨b, hb, hv⟩ := byte_at (s := s) (i := 6) (by omega)
                refine ⟨b, by decide, hb, by decide, hR6 _ _ ⟨rfl, by omega, ?_⟩⟩
                rw [← ht, ← hv]; rfl
            · rintro t _ ⟨rfl, hsz, ht⟩
              obtain ⟨b, hb, hv⟩ := byte_at (s := s) (i := 5) (by omega)
              refine ⟨b, by decide, hb, by decide, hR5 _ _ ⟨rfl, by omega, ?_⟩⟩
              rw [← ht, ← hv]; rfl
          · rintro t _ ⟨rfl, hsz, ht⟩
            obtain ⟨b, hb, hv⟩ := byte_at (s := s) (i := 4) (by omega)
            refine ⟨b, by decide, hb, by decide, hR4 _ _ ⟨rfl, by omega, ?_⟩⟩
            rw [← ht, ← hv]; rfl
        · rintro t _ ⟨rfl, hsz, ht⟩
          obtain ⟨b, hb, hv⟩ := byte_at (s := s) (i := 3) (by omega)
          refine ⟨b, by decide, hb, by decide, hR3 _ _ ⟨rfl, by omega, ?_⟩⟩
          rw [← ht, ← hv]; rfl
      · rintro t _ ⟨rfl, hsz, ht⟩
        obtain ⟨b, hb, hv⟩ := byte_at (s := s) (i := 2) (by omega)
        refine ⟨b, by decide, hb, by decide, hR2 _ _ ⟨rfl, by omega, ?_⟩⟩
        rw [← ht, ← hv]; rfl
    · rintro t _ ⟨rfl, hsz, ht⟩
      obtain ⟨b, hb, hv⟩ := byte_at (s := s) (i := 1) (by omega)
      refine ⟨b, by decide, hb, by decide, hR1 _ _ ⟨rfl, by omega, ?_⟩⟩
      rw [← ht, ← hv]; rfl
  · rintro t _ ⟨rfl, hsz, ht⟩
    obtain ⟨b, hb, hv⟩ := byte_at (s := s) (i := 0) (by omega)
    refine ⟨b, by decide, hb, ?_⟩
    unfold wordV at hk
    rw [← ht] at hk
    rw [← hv]; exact hk
end Go.Proofs
namespace Go.Proofs
open Go.Lift
def takeV (m : Int) (s : Q4) : Q4 :=
  let r := rounds4 2 (s.1, s.2.1, s.2.2.1, xor64 s.2.2.2 m)
  (xor64 r.1 m, r.2)
theorem take_ok {m : Int} {h : Heap} {b : Nat} {t : TypeId} {s : Q4} (hb : h[b]? = some (.cells (q4 s) t (0, 0))) {K : Unit → Heap → Prop}
    (hk : ∀ h', h'[b]? = some (.cells (q4 (takeV m s)) t (0, 0)) → Upd (· = b) h h' → K () h') : HC PG f_sip_state_take [.pointer (some ⟨b, 0, none⟩), .int .u64 m] [] K h := by
  refine H_sip_state_take _ _ ?_
  unfold F_sip_state_take cAt iBd
  have c : ∀ {h : Heap} {s : Q4} {i : Nat}, h[b]? = some (.cells (q4 s) t (0, 0)) → hcell h ⟨b, 0 + i, none⟩ = (q4 s)[i]? := fun hb => by rw [Nat.zero_add]; exact hcell_blk hb
  have w : ∀ {h : Heap} {s : Q4} {i : Nat}, h[b]? = some (.cells (q4 s) t (0, 0)) → i < 4 → Wr h ⟨b, 0 + i, none⟩ := fun hb hi => by rw [Nat.zero_add]; exact wr_blk hb hi
  simp only [show ((0 : Int)).toNat * 1 = 0 from rfl, show ((3 : Int)).toNat * 1 = 3 from rfl]
  refine ⟨_, rfl, by decide, _, c (i := 3) hb, _, rfl, by decide, w (i := 3) hb (by decide), q4_set (s' := (s.1, s.2.1, s.2.2.1, xor64 s.2.2.2 m)) hb rfl fun h2 hb2 hu2 => ?_⟩
  refine rounds_ok (n := 2) (by omega) hb2 fun h3 hb3 hu3 => ?_
  have et : takeV m s = (xor64 (rounds4 2 (s.1, s.2.1, s.2.2.1, xor64 s.2.2.2 m)).1 m, (rounds4 2 (s.1, s.2.1, s.2.2.1, xor64 s.2.2.2 m)).2) := by unfold takeV; rfl
  rw [et] at hk
  generalize rounds4 2 (s.1, s.2.1, s.2.2.1, xor64 s.2.2.2 m) = r at hb3 hk
  refine ⟨_, rfl, by decide, _, c (i := 0) hb3, _, rfl, by decide, w (i := 0) hb3 (by decide), q4_set (s' := (xor64 r.1 m, r.2)) hb3 rfl fun h4 hb4 hu4 => ?_⟩
  exact hk _ hb4 (hu2.tr (hu3.tr hu4))
def sumGo : Nat → ByteArray → Q4 → ByteArray × Q4
  | 0, s, q => (s, q)
  | n + 1, s, q => if 8 ≤ s.size then sumGo n (s.extract 8 s.size) (takeV (wordV (s.extract 0 8)) q) else (s, q)
def fin4 (r : Q4) : Int := xor64 (xor64 (xor64 r.1 r.2.1) r.2.2.1) r.2.2.2
def finV (q : Q4) : Int := fin4 (rounds4 4 (q.1, q.2.1, xor64 q.2.2.1 255, q.2.2.2))
def sumE (n : Nat) (g : ByteArray × Q4) : Int := finV (takeV (or64 (wordV g.1) (shI (n : Int) 56)) g.2)
def sumV (k0 k1 : Int) (s : ByteArray) : Int :=
  sumE s.size (sumGo s.size s (xor64 k0 8317987319222330741, xor64 k1 7237128888997146477, xor64 k0 7816392313619706465, xor64 k1 8387220255154660723))
theorem fin4_ok {h29 : Heap} {b : Nat} {t : TypeId} {r : Q4} (hb : h29[b]? = some (.cells (q4 r) t (0, 0))) {K : Int → Prop} (hk : K (fin4 r)) :
    (((0 : Int) ≤ (0 : Int) ∧ (0 : Int) < ((4 : Nat) : Int)) ∧
                        ∃ v30 : Int, hcell h29 (adr ⟨b, 0, none⟩ ((0 : Int).toNat * 1)) = some (.int .u64 v30) ∧
                        (((0 : Int) ≤ (1 : Int) ∧ (1 : Int) < ((4 : Nat) : Int)) ∧
                         ∃ v31 : Int, hcell h29 (adr ⟨b, 0, none⟩ ((1 : Int).toNat * 1)) = some (.int .u64 v31) ∧
                         Bd (IntKind.wrap .u64 (BitVec.ofInt (IntKind.bits .u64) v30 ^^^ BitVec.ofInt (IntKind.bits .u64) v31).toNat : Int) (fun n32 =>
                          (((0 : Int) ≤ (2 : Int) ∧ (2 : Int) < ((4 : Nat) : Int)) ∧
                           ∃ v33 : Int, hcell h29 (adr ⟨b, 0, none⟩ ((2 : Int).toNat * 1)) = some (.int .u64 v33) ∧
                           Bd (IntKind.wrap .u64 (BitVec.ofInt (IntKind.bits .u64) n32 ^^^ BitVec.ofInt (IntKind.bits .u64) v33).toNat : Int) (fun n34 =>
                            (((0 : Int) ≤ (3 : Int) ∧ (3 : Int) < ((4 : Nat) : Int)) ∧
                             ∃ v35 : Int, hcell h29 (adr ⟨b, 0, none⟩ ((3 : Int).toNat * 1)) = some (.int .u64 v35) ∧
                             Bd (IntKind.wrap .u64 (BitVec.ofInt (IntKind.bits .u64) n34 ^^^ BitVec.ofInt (IntKind.bits .u64) v35).toNat : Int) (fun n36 =>
                              K n36))))))) := by
  have c : ∀ {i : Nat}, hcell h29 ⟨b, 0 + i, none⟩ = (q4 r)[i]? := by intro i; rw [Nat.zero_add]; exact hcell_blk hb
  exact ⟨by decide, _, c (i := 0), by decide, _, c (i := 1), by decide, _, c (i := 2), by decide, _, c (i := 3), hk⟩
theorem finV_ok {h24 : Heap} {b : Nat} {t : TypeId} {q : Q4} (hb : h24[b]? = some (.cells (q4 q) t (0, 0))) {K : Unit → Heap → Prop}
    (hk : ∀ h', h'[b]? = some (.cells (q4 (rounds4 4 (q.1, q.2.1, xor64 q.2.2.1 255, q.2.2.2))) t (0, 0)) → Upd (· = b) h24 h' → K () h') :
    (((0 : Int) ≤ (2 : Int) ∧ (2 : Int) < ((4 : Nat) : Int)) ∧
                  ∃ v25 : Int, hcell h24 (adr ⟨b, 0, none⟩ ((2 : Int).toNat * 1)) = some (.int .u64 v25) ∧
                  Bd (IntKind.wrap .u64 (BitVec.ofInt (IntKind.bits .u64) v25 ^^^ BitVec.ofInt (IntKind.bits .u64) 255).toNat : Int) (fun n26 =>
                   (((0 : Int) ≤ (2 : Int) ∧ (2 : Int) < ((4 : Nat) : Int)) ∧
                    (Wr h24 (adr ⟨b, 0, none⟩ ((2 : Int).toNat * 1)) ∧
                     At (hset h24 (adr ⟨b, 0, none⟩ ((2 : Int).toNat * 1)) (.int .u64 n26)) (fun h27 =>
                      HC PG f_sip_state_rounds [.pointer (some ⟨b, 0, none⟩), .int .i64 4] [] K h27))))) := by
  have c : ∀ {i : Nat}, hcell h24 ⟨b, 0 + i, none⟩ = (q4 q)[i]? := by intro i; rw [Nat.zero_add]; exact hcell_blk hb
  refine ⟨by decide, _, c (i := 2), by decide, by rw [show ((2 : Int)).toNat * 1 = 2 from rfl, adr_mk]; exact wr_blk hb (by simp [q4]), ?_⟩
  refine q4_set (s' := (q.1, q.2.1, xor64 q.2.2.1 255, q.2.2.2)) hb rfl fun h3 hb3 hu3 => ?_
  exact rounds_ok (n := 4) (by omega) hb3 fun h4 hb4 hu4 => hk h4 hb4 (hu3.tr hu4)
theorem at_intro {h : Heap} {k : Heap → Prop} (hk : k h) : At h k := hk
theorem sum_ok {k0 k1 : Int} {s : ByteArray} {h : Heap} {K : Int → Heap → Prop} (hk : ∀ h', Upd No h h' → K (sumV k0 k1 s) h') : HC PG f_sip_Sum [.agg #[.int .u64 k0, .int .u64 k1], .string s] [.c (.int .u64)] K h := by
  refine H_sip_Sum (k0, k1) s ?_
  unfold F_sip_Sum cAt iBd
  have k1' := Upd.hnew No h [.int .u64 k0, .int .u64 k1] t_sip_Key
  have b1 := hnew_get h [.int .u64 k0, .int .u64 k1] t_sip_Key
  have z1 := hnew_size h [.int .u64 k0, .int .u64 k1] t_sip_Key
  refine at_intro ?_
  simp only [newA_eq h]
  generalize hnew h [.int .u64 k0, .int .u64 k1] t_sip_Key = h1 at k1' b1 z1
  refine ⟨k0, by rw [adr_mk, hcell_blk b1]; rfl, k1, by rw [adr_mk, hcell_blk b1]; rfl, k0, by rw [adr_mk, hcell_blk b1]; rfl, k1, by rw [adr_mk, hcell_blk b1]; rfl, ?_⟩
  have k2 := Upd.hnew No h1 [.int .u64 0, .int .u64 0, .int .u64 0, .int .u64 0] t_sip_state
  have b2 := hnew_get h1 [.int .u64 0, .int .u64 0, .int .u64 0, .int .u64 0] t_sip_state
  simp only [newA_eq h1]
  simp only [Bd]
  refine at_intro ?_
  refine ⟨.inr ⟨_, rfl, fun j hj => by rw [adr_mk]; exact wr_blk b2 (by simp at hj ⊢; omega)⟩, ?_⟩
  refine at_intro ?_
  rw [hsetL_blk _ _ 0 0 _ b2 (by simp)]
  have b3 := set_get (o := .cells (q4 (xor64 k0 8317987319222330741, xor64 k1 7237128888997146477, xor64 k0 7816392313619706465, xor64 k1 8387220255154660723)) t_sip_state (0, 0)) b2
  have k3 : Upd No h _ := k1'.tr (k2.trans (M' := (· = h1.size)) (Upd.set (hnew h1 [.int .u64 0, .int .u64 0, .int .u64 0, .int .u64 0] t_sip_state) (.cells (q4 (xor64 k0 8317987319222330741, xor64 k1 7237128888997146477, xor64 k0 7816392313619706465, xor64 k1 8387220255154660723)) t_sip_state (0, 0)) rfl) fun b hb => .inr (Nat.le_of_eq hb.symm))
  refine LoopP.ghost (fun (g : Nat × Q4) (t' : ByteArray) h' => t'.size ≤ g.1 ∧ h'[h1.size]? = some (.cells (q4 g.2) t_sip_state (0, 0)) ∧ Upd No h h' ∧ sumGo g.1 t' g.2 = sumGo s.size s (xor64 k0 8317987319222330741, xor64 k1 7237128888997146477, xor64 k0 7816392313619706465, xor64 k1 8387220255154660723)) (fun g => g.1) (s.size, _)
    ⟨Nat.le_refl _, b3, k3, rfl⟩ ?_
  rintro I ⟨n, q⟩ t' h' ⟨hn, hb, hu, hg⟩ hI
  simp only at hn hb hg
  have hsh : ∀ b, b = h1.size → No b ∨ h.size ≤ b := fun b hb => .inr (by omega)
  refine condP_dec (fun hge => ?_) fun hlt => ?_
  · have hge : 8 ≤ t'.size := by omega
    cases n with
    | zero => omega
    | succ n =>
      refine ⟨by omega, word_ok (by rw [ByteArray.size_extract]; show min 8 _ - 0 ≤ 8; omega) (take_ok hb fun h2 hb2 hu2 => ⟨by omega, ?_⟩)⟩
      have e8 : ((8 : Int)).toNat = 8 := rfl
      rw [e8] at hb2 ⊢
      refine hI (n, takeV (wordV (t'.extract 0 8)) q) _ _ ⟨by simp only [ByteArray.size_extract]; omega, hb2, hu.trans hu2 hsh, ?_⟩ (by simp only; omega)
      rw [← hg]
      simp only [sumGo, if_pos hge]
  · have hlt : t'.size < 8 := by omega
    have hg : (t', q) = sumGo s.size s (xor64 k0 8317987319222330741, xor64 k1 7237128888997146477, xor64 k0 7816392313619706465, xor64 k1 8387220255154660723) := by
      rw [← hg]; cases n with
      | zero => rfl
      | succ n => simp only [sumGo, if_neg (show ¬ 8 ≤ t'.size by omega)]
    have c : ∀ {h : Heap} {s : Q4} {i : Nat}, h[h1.size]? = some (.cells (q4 s) t_sip_state (0, 0)) → hcell h ⟨h1.size, 0 + i, none⟩ = (q4 s)[i]? := fun hb => by rw [Nat.zero_add]; exact hcell_blk hb
    have w : ∀ {h : Heap} {s : Q4} {i : Nat}, h[h1.size]? = some (.cells (q4 s) t_sip_state (0, 0)) → i < 4 → Wr h ⟨h1.size, 0 + i, none⟩ := fun hb hi => by rw [Nat.zero_add]; exact wr_blk hb hi
    have hsv : sumV k0 k1 s = finV (takeV (or64 (wordV t') (shI (s.size : Int) 56)) q) := by unfold sumV; rw [← hg]; rfl
    rw [hsv] at hk
    refine word_ok (by omega) ⟨by decide, take_ok (m := or64 (wordV t') (shI (s.size : Int) 56)) hb fun h2 hb2 hu2 => ?_⟩
    refine finV_ok hb2 fun h4 hb4 hu4 => fin4_ok (K := fun n => K n h4) hb4 ?_
    exact hk h4 ((hu.trans hu2 hsh).trans hu4 hsh)
structure Hs where
  k0 : Int
  k1 : Int
  mask : Int
def hashV (h : Hs) (s : ByteArray) : Int := and64 (sumV h.k0 h.k1 s) h.mask
theorem hash_ok {x : Hs} {s : ByteArray} {h : Heap} {K : Int → Heap → Prop} (hk : ∀ h', Upd No h h' → K (hashV x s) h') : HC PG f_sip_Hasher_Hash [.agg #[.int .u64 x.k0, .int .u64 x.k1, .int .u64 x.mask], .string s] [.c (.int .u64)] K h := by
  refine H_sip_Hasher_Hash (x.k0, x.k1, x.mask) s ?_
  unfold F_sip_Hasher_Hash cAt
  have k1' := Upd.hnew No h [.int .u64 x.k0, .int .u64 x.k1, .int .u64 x.mask] t_sip_Hasher
  have b1 := hnew_get h [.int .u64 x.k0, .int .u64 x.k1, .int .u64 x.mask] t_sip_Hasher
  simp only [At, newA_eq h]
  generalize hnew h [.int .u64 x.k0, .int .u64 x.k1, .int .u64 x.mask] t_sip_Hasher = h1 at k1' b1
  refine ⟨x.k0, by rw [adr_mk, adr_mk, hcell_blk b1]; rfl, x.k1, by rw [adr_mk, adr_mk, hcell_blk b1]; rfl, x.mask, by rw [adr_mk, hcell_blk b1]; rfl, ?_⟩
  refine sum_ok fun h2 hu => ⟨by rw [adr_mk, hcell_blk (hu.get0 b1)]; rfl, hk _ (k1'.tr hu)⟩
theorem hash_bounds (x : Hs) (s : ByteArray) : 0 ≤ hashV x s ∧ hashV x s < 18446744073709551616 := u64_nn _
end Go.Proofs
namespace Go.Proofs
open Go Go.Lift

/- pair_Pair -/
abbrev prF (x : ByteArray × ByteArray) : List Value := [.string x.1, .string x.2]
theorem prF_ne (x : ByteArray × ByteArray) : (prF x).length = 2 ∧ 0 < 2 := ⟨rfl, by omega⟩
theorem one_prF : ∀ xs : List (ByteArray × ByteArray), oneCell (xs.flatMap prF) = true
  | [] => rfl
  | x :: xs => by rw [List.flatMap_cons]; exact oneCell_join rfl (one_prF xs)
theorem overlaps_prF {h : Heap} {vb b o la ca lb cb : Nat} {cv cw : Array Value} {tv tb : TypeId} (hv : h[vb]? = some (.cells cv tv (0, 0))) (hb : h[b]? = some (.cells cw tb (0, 0))) (hn : vb ≠ b) (h0 : cw.size ≠ 0) {K : Bool → Heap → Prop} (hk : K false h) :
    HC PG f_slices_overlaps_pair_Pair [.slice (some ⟨vb, 0, none⟩) la ca, .slice (some ⟨b, o, none⟩) lb cb] [.c .bool] K h := by
  refine ⟨fun w hw => .inr ⟨.bool false, w, ?_, Tame.refl w, false, rfl, hw ▸ hk⟩⟩
  subst hw
  rw [X_slices_overlaps_pair_Pair]
  have := Lib.run_overlaps_apart (P := PG) w t_A_pair_Pair t_bool t_pair_Pair (by kernel_rfl) (sizeT PG t_pair_Pair) (hasInfo_run (by kernel_rfl)) ⟨vb, 0, none⟩ ⟨b, o, none⟩ la ca lb cb hn tv tb cv.size cw.size
    (by simp [World.shape?, hv]) (by simp [World.shape?, hb]) h0 (by simp [World.frozen?, hv]) (by simp [World.frozen?, hv])
  rw [show ([Value.slice (some ⟨vb, 0, none⟩) la ca, Value.slice (some ⟨b, o, none⟩) lb cb] : List Value).toArray = #[.slice (some ⟨vb, 0, none⟩) la ca, .slice (some ⟨b, o, none⟩) lb cb] from rfl, this]
  rfl
set_option maxRecDepth 4000 in
theorem insert_prF {M : Nat → Prop} {h : Heap} {s : SliceV} {xs : List (ByteArray × ByteArray)} (hs : OwnS prF 2 t_pair_Pair M h s xs) {k : Nat} (hkl : k ≤ xs.length) (hn : (xs.length + 1) * 32 ≤ 140737488355328) {x : ByteArray × ByteArray} {vb : Nat} (hv : h[vb]? = some (.cells (prF x).toArray t_pair_Pair (0, 0)))
    (hvM : ¬ M vb) (hM : ∀ b, h.size ≤ b → M b) {K : SliceV → Heap → Prop} (hK : ∀ s' h', OwnS prF 2 t_pair_Pair M h' s' (xs.take k ++ x :: xs.drop k) → Upd M h h' → K s' h') :
    HC PG f_slices_Insert_A_pair_Pair_pair_Pair [.slice s.a s.len s.cap, .int .i64 k, .slice (some ⟨vb, 0, none⟩) 1 1] [.c .slice] K h := by
  refine H_slices_Insert_A_pair_Pair_pair_Pair s k ⟨some ⟨vb, 0, none⟩, 1, 1⟩ ?_
  unfold F_slices_Insert_A_pair_Pair_pair_Pair
  have hlen := hs.len
  have hcap := hs.cap
  have hxr : SRow h (some ⟨vb, 0, none⟩) (1 * 2) (prF x) := ⟨rfl, .inr ⟨_, rfl, row_blk hv fun i v hi => by simpa using hi⟩⟩
  refine ⟨by omega, condP_false.2 ?_⟩
  refine CondP.intro (fun e => ?_) fun e => ?_
  · have e : k = xs.length := by have := of_decide_eq_true (by simpa using e : decide ((k : Int) = (s.len : Int)) = true); omega
    subst e
    refine ⟨_, hxr, AppP.own (ys := [x]) hs rfl (by simp) rfl rfl (by omega) (by simp; omega) (hM _ (Nat.le_refl _)) fun s' h' ho hu => hK s' h' ?_ hu⟩
    rw [List.take_length, List.drop_length]; exact ho
  have hlt : k < xs.length := by
    rcases Nat.lt_or_ge k xs.length with h | h
    · exact h
    · have : ((k : Int) == (s.len : Int)) = true := by rw [beq_iff_eq]; omega
      rw [this] at e; cases e
  rcases hs.blk with h0 | ⟨b, rest, ha, hb, hc, hr⟩
  · omega
  have hA : ((xs.take k).flatMap prF).length = k * 2 := by rw [cut_len prF_ne, List.length_take, Nat.min_eq_left hkl]
  have hB : ((xs.drop k).flatMap prF).length = (xs.length - k) * 2 := by rw [cut_len prF_ne, List.length_drop]
  have hbv : vb ≠ b := fun e => hvM (e ▸ hb)
  rw [cut_at (f := prF) xs k] at hc
  have hins : (xs.take k ++ x :: xs.drop k).flatMap prF = (xs.take k).flatMap prF ++ (prF x ++ (xs.drop k).flatMap prF) := by rw [List.flatMap_append, List.flatMap_cons]
  have hone := one_prF (xs.drop k)
  have hxl : (prF x).length = 2 := rfl
  have hx1 : oneCell (prF x) = true := rfl
  generalize hAe : (xs.take k).flatMap prF = A at hA hc hins
  generalize hBe : (xs.drop k).flatMap prF = B at hB hc hins hone
  generalize prF x = X at hxr hxl hv hins hx1
  rw [ha]
  have w1 : IntKind.wrap .i64 ((xs.length : Int) + ((1 : Nat) : Int)) = ((xs.length + 1 : Nat) : Int) := by rw [w64 (by omega)]; omega
  have w2 : IntKind.wrap .i64 ((k : Int) + ((1 : Nat) : Int)) = ((k + 1 : Nat) : Int) := by rw [w64 (by omega)]; omega
  have w3 : IntKind.wrap .i64 (((xs.length + 1 : Nat) : Int) - (k : Int)) = ((xs.length + 1 - k : Nat) : Int) := by rw [w64 (by omega)]; omega
  simp only [w1, w2, w3, Int.toNat_natCast, hlen]
  refine condP_dec (fun hgt => ?_) fun hle => ?_
  · -- no room
    have hcl : s.cap = xs.length := by omega
    refine Join.plain ⟨by omega, ⟨by omega, by omega, by omega, by omega⟩, fun hin => ?_, fun hout => ?_⟩
    · omega
    · refine ⟨A, _, ?_, rfl, by omega, Go.growslice_fits hout (by omega), fun nc hnc => ?_⟩
      · rw [sub_zero]
        exact row_of hc (by rw [hA]; omega) (by simp only [List.drop_zero, Nat.sub_zero]; rw [List.append_assoc, ← hA, List.take_append_of_le_length (Nat.le_refl _), List.take_length])
      · simp only [Int.toNat_natCast] at hnc ⊢
        have kn := Upd.hnew No h (A ++ zrow (xs.length + 1 - k) [.string (⟨#[]⟩ : ByteArray), .string (⟨#[]⟩ : ByteArray)] ++ zrow (nc - (k - 0 + (xs.length + 1 - k))) [.string (⟨#[]⟩ : ByteArray), .string (⟨#[]⟩ : ByteArray)]) t_pair_Pair
        have bn := hnew_get h (A ++ zrow (xs.length + 1 - k) [.string (⟨#[]⟩ : ByteArray), .string (⟨#[]⟩ : ByteArray)] ++ zrow (nc - (k - 0 + (xs.length + 1 - k))) [.string (⟨#[]⟩ : ByteArray), .string (⟨#[]⟩ : ByteArray)]) t_pair_Pair
        have hz1 : (zrow (xs.length + 1 - k) [.string (⟨#[]⟩ : ByteArray), .string (⟨#[]⟩ : ByteArray)]).length = (xs.length + 1 - k) * 2 := zrow_len _ _
        have hz2 : (zrow (nc - (k - 0 + (xs.length + 1 - k))) [.string (⟨#[]⟩ : ByteArray), .string (⟨#[]⟩ : ByteArray)]).length = (nc - (k - 0 + (xs.length + 1 - k))) * 2 := zrow_len _ _
        have hncl : k - 0 + (xs.length + 1 - k) = xs.length + 1 := by omega
        rw [newA_eq]
        have hsz : h.size ≠ vb := fun e => by have := get_lt hv; omega
        have hszb : h.size ≠ b := fun e => by have := get_lt hc; omega
        have hbc := kn.get0 hc
        have hvc := kn.get0 hv
        generalize hnew h _ t_pair_Pair = h9 at kn bn hbc hvc
        rw [hncl] at hnc hz2 ⊢
        have m1 : Nat.min 1 (xs.length + 1 - k) = 1 := Nat.min_eq_left (by omega)
        have m2 : Nat.min (xs.length - k) (xs.length + 1 - (k + 1)) = xs.length - k := Nat.min_eq_left (by omega)
        rw [m1]
        have xr9 : SRow h9 (some ⟨vb, 0, none⟩) (1 * 2) X := row_of hvc (by rw [hxl]) (by rw [List.drop_zero, List.take_of_length_le]; rw [hxl]; omega)
        refine ⟨by omega, ?_⟩
        rw [sub_at (by omega)]
        refine copy_blk xr9 hx1 bn (by simp only [List.length_append, hA, hz1]; omega) fun h11 hb11 hu11 => ⟨by omega, ?_⟩
        simp only [Bd]
        rw [sub_at (by omega), sub_at (by omega), m2]
        refine ⟨by omega, ?_⟩
        have hbc11 := hu11.get hbc (fun e => hszb e.symm)
        have br : SRow h11 (some ⟨b, 0 + k * 2, none⟩) ((xs.length - k) * 2) B := row_of hbc11 hB (by
          rw [Nat.zero_add, List.append_assoc, ← hA, List.drop_left, ← hB, List.take_left])
        refine copy_blk br hone hb11 ?_ fun h16 hb16 hu16 => ?_
        · simp only [List.length_append, List.length_take, List.length_drop, hA, hz1, hxl]; omega
        · refine hK _ _ ⟨by simp; omega, prF_ne, hnc, .inr ⟨h.size, zrow (nc - (xs.length + 1)) [.string (⟨#[]⟩ : ByteArray), .string (⟨#[]⟩ : ByteArray)], rfl, hM _ (Nat.le_refl _), ?_, by rw [zrow_len]; rfl⟩⟩ ((kn.wide.trans (M' := (· = h.size)) hu11 fun b hb => .inl (hb ▸ hM _ (Nat.le_refl _))).trans (M' := (· = h.size)) hu16 fun b hb => .inl (hb ▸ hM _ (Nat.le_refl _)))
          rw [hb16, hins]
          have := ins_new (A := A) (X := X) (B := B) (Z1 := zrow (xs.length + 1 - k) [.string (⟨#[]⟩ : ByteArray), .string (⟨#[]⟩ : ByteArray)]) (Z2 := zrow (nc - (xs.length + 1)) [.string (⟨#[]⟩ : ByteArray), .string (⟨#[]⟩ : ByteArray)]) (r := (xs.length - k) * 2) hA hxl (by rw [hz1, ← Nat.add_one_mul]; congr 1; omega)
          rw [hncl, ← this]
          simp only [Nat.zero_add, Nat.add_one_mul, Nat.one_mul]
  · have hcl : xs.length + 1 ≤ s.cap := by omega
    refine ⟨by omega, ?_⟩
    simp only [Bd, Nat.sub_zero]
    rw [sub_zero, sub_at (show s.cap ≠ k + 1 by omega), sub_at (show s.cap ≠ k by omega)]
    refine ⟨by omega, ?_⟩
    have hrl : 2 ≤ rest.length := by rw [hr]; exact Nat.le_mul_of_pos_left _ (by omega)
    refine overlaps_prF hv hc hbv (by rw [List.size_toArray, List.length_append]; omega) ?_
    refine condP_true.2 ⟨by omega, by omega, ?_⟩
    have m1 : Nat.min 1 (xs.length + 1 - k) = 1 := Nat.min_eq_left (by omega)
    have m2 : Nat.min (xs.length + 1 - k) (xs.length + 1 - (k + 1)) = xs.length - k := by
      rw [show xs.length + 1 - (k + 1) = xs.length - k by omega]; exact Nat.min_eq_right (by omega)
    rw [m2]
    have br : SRow h (some ⟨b, 0 + k * 2, none⟩) ((xs.length - k) * 2) B := row_of hc hB (by
      rw [Nat.zero_add, List.append_assoc, ← hA, List.drop_left, ← hB, List.take_left])
    refine copy_blk br hone hc (by simp only [List.length_append, hA, hB]; omega) fun h1 hb1 hu1 => ⟨by omega, ?_⟩
    rw [m1]
    have xr1 : SRow h1 (some ⟨vb, 0, none⟩) (1 * 2) X := row_of (hu1.get hv hbv) (by rw [hxl]) (by rw [List.drop_zero, List.take_of_length_le]; rw [hxl]; omega)
    refine copy_blk xr1 hx1 hb1 (by simp only [List.length_append, List.length_take, List.length_drop, hA, hB]; omega) fun h2 hb2 hu2 => ?_
    refine hK _ _ ⟨by simp; omega, prF_ne, hcl, .inr ⟨b, rest.drop 2, rfl, hb, ?_, ?_⟩⟩ ((hu1.mono fun _ e => .inl (e ▸ hb)).tr (hu2.mono fun _ e => .inl (e ▸ hb)))
    · rw [hb2, hins]
      have := ins_in (A := A) (X := X) (B := B) (R := rest) (q := 2) (r := (xs.length - k) * 2) hA hB hrl
      rw [← this]
      simp only [Nat.zero_add, Nat.add_one_mul, Nat.one_mul]
    · rw [List.length_drop, hr]
      simp only
      rw [hlen]; omega

/- P_node_Node -/
abbrev ndF (x : Option Addr) : List Value := [.pointer x]
theorem ndF_ne (x : Option Addr) : (ndF x).length = 1 ∧ 0 < 1 := ⟨rfl, by omega⟩
theorem one_ndF : ∀ xs : List (Option Addr), oneCell (xs.flatMap ndF) = true
  | [] => rfl
  | x :: xs => by rw [List.flatMap_cons]; exact oneCell_join rfl (one_ndF xs)
theorem overlaps_ndF {h : Heap} {vb b o la ca lb cb : Nat} {cv cw : Array Value} {tv tb : TypeId} (hv : h[vb]? = some (.cells cv tv (0, 0))) (hb : h[b]? = some (.cells cw tb (0, 0))) (hn : vb ≠ b) (h0 : cw.size ≠ 0) {K : Bool → Heap → Prop} (hk : K false h) :
    HC PG f_slices_overlaps_P_node_Node [.slice (some ⟨vb, 0, none⟩) la ca, .slice (some ⟨b, o, none⟩) lb cb] [.c .bool] K h := by
  refine ⟨fun w hw => .inr ⟨.bool false, w, ?_, Tame.refl w, false, rfl, hw ▸ hk⟩⟩
  subst hw
  rw [X_slices_overlaps_P_node_Node]
  have := Lib.run_overlaps_apart (P := PG) w t_A_P_node_Node t_bool t_P_node_Node (by kernel_rfl) (sizeT PG t_P_node_Node) (hasInfo_run (by kernel_rfl)) ⟨vb, 0, none⟩ ⟨b, o, none⟩ la ca lb cb hn tv tb cv.size cw.size
    (by simp [World.shape?, hv]) (by simp [World.shape?, hb]) h0 (by simp [World.frozen?, hv]) (by simp [World.frozen?, hv])
  rw [show ([Value.slice (some ⟨vb, 0, none⟩) la ca, Value.slice (some ⟨b, o, none⟩) lb cb] : List Value).toArray = #[.slice (some ⟨vb, 0, none⟩) la ca, .slice (some ⟨b, o, none⟩) lb cb] from rfl, this]
  rfl
set_option maxRecDepth 4000 in
theorem insert_ndF {M : Nat → Prop} {h : Heap} {s : SliceV} {xs : List (Option Addr)} (hs : OwnS ndF 1 t_P_node_Node M h s xs) {k : Nat} (hkl : k ≤ xs.length) (hn : (xs.length + 1) * 8 ≤ 140737488355328) {x : Option Addr} {vb : Nat} (hv : h[vb]? = some (.cells (ndF x).toArray t_P_node_Node (0, 0)))
    (hvM : ¬ M vb) (hM : ∀ b, h.size ≤ b → M b) {K : SliceV → Heap → Prop} (hK : ∀ s' h', OwnS ndF 1 t_P_node_Node M h' s' (xs.take k ++ x :: xs.drop k) → Upd M h h' → K s' h') :
    HC PG f_slices_Insert_A_P_node_Node_P_node_Node [.slice s.a s.len s.cap, .int .i64 k, .slice (some ⟨vb, 0, none⟩) 1 1] [.c .slice] K h := by
  refine H_slices_Insert_A_P_node_Node_P_node_Node s k ⟨some ⟨vb, 0, none⟩, 1, 1⟩ ?_
  unfold F_slices_Insert_A_P_node_Node_P_node_Node
  have hlen := hs.len
  have hcap := hs.cap
  have hxr : SRow h (some ⟨vb, 0, none⟩) (1 * 1) (ndF x) := ⟨rfl, .inr ⟨_, rfl, row_blk hv fun i v hi => by simpa using hi⟩⟩
  refine ⟨by omega, condP_false.2 ?_⟩
  refine CondP.intro (fun e => ?_) fun e => ?_
  · have e : k = xs.length := by have := of_decide_eq_true (by simpa using e : decide ((k : Int) = (s.len : Int)) = true); omega
    subst e
    refine ⟨_, hxr, AppP.own (ys := [x]) hs rfl (by simp) rfl rfl (by omega) (by simp; omega) (hM _ (Nat.le_refl _)) fun s' h' ho hu => hK s' h' ?_ hu⟩
    rw [List.take_length, List.drop_length]; exact ho
  have hlt : k < xs.length := by
    rcases Nat.lt_or_ge k xs.length with h | h
    · exact h
    · have : ((k : Int) == (s.len : Int)) = true := by rw [beq_iff_eq]; omega
      rw [this] at e; cases e
  rcases hs.blk with h0 | ⟨b, rest, ha, hb, hc, hr⟩
  · omega
  have hA : ((xs.take k).flatMap ndF).length = k * 1 := by rw [cut_len ndF_ne, List.length_take, Nat.min_eq_left hkl]
  have hB : ((xs.drop k).flatMap ndF).length = (xs.length - k) * 1 := by rw [cut_len ndF_ne, List.length_drop]
  have hbv : vb ≠ b := fun e => hvM (e ▸ hb)
  rw [cut_at (f := ndF) xs k] at hc
  have hins : (xs.take k ++ x :: xs.drop k).flatMap ndF = (xs.take k).flatMap ndF ++ (ndF x ++ (xs.drop k).flatMap ndF) := by rw [List.flatMap_append, List.flatMap_cons]
  have hone := one_ndF (xs.drop k)
  have hxl : (ndF x).length = 1 := rfl
  have hx1 : oneCell (ndF x) = true := rfl
  generalize hAe : (xs.take k).flatMap ndF = A at hA hc hins
  generalize hBe : (xs.drop k).flatMap ndF = B at hB hc hins hone
  generalize ndF x = X at hxr hxl hv hins hx1
  rw [ha]
  have w1 : IntKind.wrap .i64 ((xs.length : Int) + ((1 : Nat) : Int)) = ((xs.length + 1 : Nat) : Int) := by rw [w64 (by omega)]; omega
  have w2 : IntKind.wrap .i64 ((k : Int) + ((1 : Nat) : Int)) = ((k + 1 : Nat) : Int) := by rw [w64 (by omega)]; omega
  have w3 : IntKind.wrap .i64 (((xs.length + 1 : Nat) : Int) - (k : Int)) = ((xs.length + 1 - k : Nat) : Int) := by rw [w64 (by omega)]; omega
  simp only [w1, w2, w3, Int.toNat_natCast, hlen]
  refine condP_dec (fun hgt => ?_) fun hle => ?_
  · -- no room
    have hcl : s.cap = xs.length := by omega
    refine Join.plain ⟨by omega, ⟨by omega, by omega, by omega, by omega⟩, fun hin => ?_, fun hout => ?_⟩
    · omega
    · refine ⟨A, _, ?_, rfl, by omega, Go.growslice_fits hout (by omega), fun nc hnc => ?_⟩
      · rw [sub_zero]
        exact row_of hc (by rw [hA]; omega) (by simp only [List.drop_zero, Nat.sub_zero]; rw [List.append_assoc, ← hA, List.take_append_of_le_length (Nat.le_refl _), List.take_length])
      · simp only [Int.toNat_natCast] at hnc ⊢
        have kn := Upd.hnew No h (A ++ zrow (xs.length + 1 - k) [.pointer none] ++ zrow (nc - (k - 0 + (xs.length + 1 - k))) [.pointer none]) t_P_node_Node
        have bn := hnew_get h (A ++ zrow (xs.length + 1 - k) [.pointer none] ++ zrow (nc - (k - 0 + (xs.length + 1 - k))) [.pointer none]) t_P_node_Node
        have hz1 : (zrow (xs.length + 1 - k) [.pointer none]).length = (xs.length + 1 - k) * 1 := zrow_len _ _
        have hz2 : (zrow (nc - (k - 0 + (xs.length + 1 - k))) [.pointer none]).length = (nc - (k - 0 + (xs.length + 1 - k))) * 1 := zrow_len _ _
        have hncl : k - 0 + (xs.length + 1 - k) = xs.length + 1 := by omega
        rw [newA_eq]
        have hsz : h.size ≠ vb := fun e => by have := get_lt hv; omega
        have hszb : h.size ≠ b := fun e => by have := get_lt hc; omega
        have hbc := kn.get0 hc
        have hvc := kn.get0 hv
        generalize hnew h _ t_P_node_Node = h9 at kn bn hbc hvc
        rw [hncl] at hnc hz2 ⊢
        have m1 : Nat.min 1 (xs.length + 1 - k) = 1 := Nat.min_eq_left (by omega)
        have m2 : Nat.min (xs.length - k) (xs.length + 1 - (k + 1)) = xs.length - k := Nat.min_eq_left (by omega)
        rw [m1]
        have xr9 : SRow h9 (some ⟨vb, 0, none⟩) (1 * 1) X := row_of hvc (by rw [hxl]) (by rw [List.drop_zero, List.take_of_length_le]; rw [hxl]; omega)
        refine ⟨by omega, ?_⟩
        rw [sub_at (by omega)]
        refine copy_blk xr9 hx1 bn (by simp only [List.length_append, hA, hz1]; omega) fun h11 hb11 hu11 => ⟨by omega, ?_⟩
        simp only [Bd]
        rw [sub_at (by omega), sub_at (by omega), m2]
        refine ⟨by omega, ?_⟩
        have hbc11 := hu11.get hbc (fun e => hszb e.symm)
        have br : SRow h11 (some ⟨b, 0 + k * 1, none⟩) ((xs.length - k) * 1) B := row_of hbc11 hB (by
          rw [Nat.zero_add, List.append_assoc, ← hA, List.drop_left, ← hB, List.take_left])
        refine copy_blk br hone hb11 ?_ fun h16 hb16 hu16 => ?_
        · simp only [List.length_append, List.length_take, List.length_drop, hA, hz1, hxl]; omega
        · refine hK _ _ ⟨by simp; omega, ndF_ne, hnc, .inr ⟨h.size, zrow (nc - (xs.length + 1)) [.pointer none], rfl, hM _ (Nat.le_refl _), ?_, by rw [zrow_len]; rfl⟩⟩ ((kn.wide.trans (M' := (· = h.size)) hu11 fun b hb => .inl (hb ▸ hM _ (Nat.le_refl _))).trans (M' := (· = h.size)) hu16 fun b hb => .inl (hb ▸ hM _ (Nat.le_refl _)))
          rw [hb16, hins]
          have := ins_new (A := A) (X := X) (B := B) (Z1 := zrow (xs.length + 1 - k) [.pointer none]) (Z2 := zrow (nc - (xs.length + 1)) [.pointer none]) (r := (xs.length - k) * 1) hA hxl (by rw [hz1, ← Nat.add_one_mul]; congr 1; omega)
          rw [hncl, ← this]
          simp only [Nat.zero_add, Nat.add_one_mul, Nat.one_mul]
  · have hcl : xs.length + 1 ≤ s.cap := by omega
    refine ⟨by omega, ?_⟩
    simp only [Bd, Nat.sub_zero]
    rw [sub_zero, sub_at (show s.cap ≠ k + 1 by omega), sub_at (show s.cap ≠ k by omega)]
    refine ⟨by omega, ?_⟩
    have hrl : 1 ≤ rest.length := by rw [hr]; exact Nat.le_mul_of_pos_left _ (by omega)
    refine overlaps_ndF hv hc hbv (by rw [List.size_toArray, List.length_append]; omega) ?_
    refine condP_true.2 ⟨by omega, by omega, ?_⟩
    have m1 : Nat.min 1 (xs.length + 1 - k) = 1 := Nat.min_eq_left (by omega)
    have m2 : Nat.min (xs.length + 1 - k) (xs.length + 1 - (k + 1)) = xs.length - k := by
      rw [show xs.length + 1 - (k + 1) = xs.length - k by omega]; exact Nat.min_eq_right (by omega)
    rw [m2]
    have br : SRow h (some ⟨b, 0 + k * 1, none⟩) ((xs.length - k) * 1) B := row_of hc hB (by
      rw [Nat.zero_add, List.append_assoc, ← hA, List.drop_left, ← hB, List.take_left])
    refine copy_blk br hone hc (by simp only [List.length_append, hA, hB]; omega) fun h1 hb1 hu1 => ⟨by omega, ?_⟩
    rw [m1]
    have xr1 : SRow h1 (some ⟨vb, 0, none⟩) (1 * 1) X := row_of (hu1.get hv hbv) (by rw [hxl]) (by rw [List.drop_zero, List.take_of_length_le]; rw [hxl]; omega)
    refine copy_blk xr1 hx1 hb1 (by simp only [List.length_append, List.length_take, List.length_drop, hA, hB]; omega) fun h2 hb2 hu2 => ?_
    refine hK _ _ ⟨by simp; omega, ndF_ne, hcl, .inr ⟨b, rest.drop 1, rfl, hb, ?_, ?_⟩⟩ ((hu1.mono fun _ e => .inl (e ▸ hb)).tr (hu2.mono fun _ e => .inl (e ▸ hb)))
    · rw [hb2, hins]
      have := ins_in (A := A) (X := X) (B := B) (R := rest) (q := 1) (r := (xs.length - k) * 1) hA hB hrl
      rw [← this]
      simp only [Nat.zero_add, Nat.add_one_mul, Nat.one_mul]
    · rw [List.length_drop, hr]
      simp only
      rw [hlen]; omega

/- P_radix_Node -/
abbrev rxF (x : Option Addr) : List Value := [.pointer x]
theorem rxF_ne (x : Option Addr) : (rxF x).length = 1 ∧ 0 < 1 := ⟨rfl, by omega⟩
theorem one_rxF : ∀ xs : List (Option Addr), oneCell (xs.flatMap rxF) = true
  | [] => rfl
  | x :: xs => by rw [List.flatMap_cons]; exact oneCell_join rfl (one_rxF xs)
theorem overlaps_rxF {h : Heap} {vb b o la ca lb cb : Nat} {cv cw : Array Value} {tv tb : TypeId} (hv : h[vb]? = some (.cells cv tv (0, 0))) (hb : h[b]? = some (.cells cw tb (0, 0))) (hn : vb ≠ b) (h0 : cw.size ≠ 0) {K : Bool → Heap → Prop} (hk : K false h) :
    HC PG f_slices_overlaps_P_radix_Node [.slice (some ⟨vb, 0, none⟩) la ca, .slice (some ⟨b, o, none⟩) lb cb] [.c .bool] K h := by
  refine ⟨fun w hw => .inr ⟨.bool false, w, ?_, Tame.refl w, false, rfl, hw ▸ hk⟩⟩
  subst hw
  rw [X_slices_overlaps_P_radix_Node]
  have := Lib.run_overlaps_apart (P := PG) w t_A_P_radix_Node t_bool t_P_radix_Node (by kernel_rfl) (sizeT PG t_P_radix_Node) (hasInfo_run (by kernel_rfl)) ⟨vb, 0, none⟩ ⟨b, o, none⟩ la ca lb cb hn tv tb cv.size cw.size
    (by simp [World.shape?, hv]) (by simp [World.shape?, hb]) h0 (by simp [World.frozen?, hv]) (by simp [World.frozen?, hv])
  rw [show ([Value.slice (some ⟨vb, 0, none⟩) la ca, Value.slice (some ⟨b, o, none⟩) lb cb] : List Value).toArray = #[.slice (some ⟨vb, 0, none⟩) la ca, .slice (some ⟨b, o, none⟩) lb cb] from rfl, this]
  rfl
set_option maxRecDepth 4000 in
theorem insert_rxF {M : Nat → Prop} {h : Heap} {s : SliceV} {xs : List (Option Addr)} (hs : OwnS rxF 1 t_P_radix_Node M h s xs) {k : Nat} (hkl : k ≤ xs.length) (hn : (xs.length + 1) * 8 ≤ 140737488355328) {x : Option Addr} {vb : Nat} (hv : h[vb]? = some (.cells (rxF x).toArray t_P_radix_Node (0, 0)))
    (hvM : ¬ M vb) (hM : ∀ b, h.size ≤ b → M b) {K : SliceV → Heap → Prop} (hK : ∀ s' h', OwnS rxF 1 t_P_radix_Node M h' s' (xs.take k ++ x :: xs.drop k) → Upd M h h' → K s' h') :
    HC PG f_slices_Insert_A_P_radix_Node_P_radix_Node [.slice s.a s.len s.cap, .int .i64 k, .slice (some ⟨vb, 0, none⟩) 1 1] [.c .slice] K h := by
  refine H_slices_Insert_A_P_radix_Node_P_radix_Node s k ⟨some ⟨vb, 0, none⟩, 1, 1⟩ ?_
  unfold F_slices_Insert_A_P_radix_Node_P_radix_Node
  have hlen := hs.len
  have hcap := hs.cap
  have hxr : SRow h (some ⟨vb, 0, none⟩) (1 * 1) (rxF x) := ⟨rfl, .inr ⟨_, rfl, row_blk hv fun i v hi => by simpa using hi⟩⟩
  refine ⟨by omega, condP_false.2 ?_⟩
  refine CondP.intro (fun e => ?_) fun e => ?_
  · have e : k = xs.length := by have := of_decide_eq_true (by simpa using e : decide ((k : Int) = (s.len : Int)) = true); omega
    subst e
    refine ⟨_, hxr, AppP.own (ys := [x]) hs rfl (by simp) rfl rfl (by omega) (by simp; omega) (hM _ (Nat.le_refl _)) fun s' h' ho hu => hK s' h' ?_ hu⟩
    rw [List.take_length, List.drop_length]; exact ho
  have hlt : k < xs.length := by
    rcases Nat.lt_or_ge k xs.length with h | h
    · exact h
    · have : ((k : Int) == (s.len : Int)) = true := by rw [beq_iff_eq]; omega
      rw [this] at e; cases e
  rcases hs.blk with h0 | ⟨b, rest, ha, hb, hc, hr⟩
  · omega
  have hA : ((xs.take k).flatMap rxF).length = k * 1 := by rw [cut_len rxF_ne, List.length_take, Nat.min_eq_left hkl]
  have hB : ((xs.drop k).flatMap rxF).length = (xs.length - k) * 1 := by rw [cut_len rxF_ne, List.length_drop]
  have hbv : vb ≠ b := fun e => hvM (e ▸ hb)
  rw [cut_at (f := rxF) xs k] at hc
  have hins : (xs.take k ++ x :: xs.drop k).flatMap rxF = (xs.take k).flatMap rxF ++ (rxF x ++ (xs.drop k).flatMap rxF) := by rw [List.flatMap_append, List.flatMap_cons]
  have hone := one_rxF (xs.drop k)
  have hxl : (rxF x).length = 1 := rfl
  have hx1 : oneCell (rxF x) = true := rfl
  generalize hAe : (xs.take k).flatMap rxF = A at hA hc hins
  generalize hBe : (xs.drop k).flatMap rxF = B at hB hc hins hone
  generalize rxF x = X at hxr hxl hv hins hx1
  rw [ha]
  have w1 : IntKind.wrap .i64 ((xs.length : Int) + ((1 : Nat) : Int)) = ((xs.length + 1 : Nat) : Int) := by rw [w64 (by omega)]; omega
  have w2 : IntKind.wrap .i64 ((k : Int) + ((1 : Nat) : Int)) = ((k + 1 : Nat) : Int) := by rw [w64 (by omega)]; omega
  have w3 : IntKind.wrap .i64 (((xs.length + 1 : Nat) : Int) - (k : Int)) = ((xs.length + 1 - k : Nat) : Int) := by rw [w64 (by omega)]; omega
  simp only [w1, w2, w3, Int.toNat_natCast, hlen]
  refine condP_dec (fun hgt => ?_) fun hle => ?_
  · -- no room
    have hcl : s.cap = xs.length := by omega
    refine Join.plain ⟨by omega, ⟨by omega, by omega, by omega, by omega⟩, fun hin => ?_, fun hout => ?_⟩
    · omega
    · refine ⟨A, _, ?_, rfl, by omega, Go.growslice_fits hout (by omega), fun nc hnc => ?_⟩
      · rw [sub_zero]
        exact row_of hc (by rw [hA]; omega) (by simp only [List.drop_zero, Nat.sub_zero]; rw [List.append_assoc, ← hA, List.take_append_of_le_length (Nat.le_refl _), List.take_length])
      · simp only [Int.toNat_natCast] at hnc ⊢
        have kn := Upd.hnew No h (A ++ zrow (xs.length + 1 - k) [.pointer none] ++ zrow (nc - (k - 0 + (xs.length + 1 - k))) [.pointer none]) t_P_radix_Node
        have bn := hnew_get h (A ++ zrow (xs.length + 1 - k) [.pointer none] ++ zrow (nc - (k - 0 + (xs.length + 1 - k))) [.pointer none]) t_P_radix_Node
        have hz1 : (zrow (xs.length + 1 - k) [.pointer none]).length = (xs.length + 1 - k) * 1 := zrow_len _ _
        have hz2 : (zrow (nc - (k - 0 + (xs.length + 1 - k))) [.pointer none]).length = (nc - (k - 0 + (xs.length + 1 - k))) * 1 := zrow_len _ _
        have hncl : k - 0 + (xs.length + 1 - k) = xs.length + 1 := by omega
        rw [newA_eq]
        have hsz : h.size ≠ vb := fun e => by have := get_lt hv; omega
        have hszb : h.size ≠ b := fun e => by have := get_lt hc; omega
        have hbc := kn.get0 hc
        have hvc := kn.get0 hv
        generalize hnew h _ t_P_radix_Node = h9 at kn bn hbc hvc
        rw [hncl] at hnc hz2 ⊢
        have m1 : Nat.min 1 (xs.length + 1 - k) = 1 := Nat.min_eq_left (by omega)
        have m2 : Nat.min (xs.length - k) (xs.length + 1 - (k + 1)) = xs.length - k := Nat.min_eq_left (by omega)
        rw [m1]
        have xr9 : SRow h9 (some ⟨vb, 0, none⟩) (1 * 1) X := row_of hvc (by rw [hxl]) (by rw [List.drop_zero, List.take_of_length_le]; rw [hxl]; omega)
        refine ⟨by omega, ?_⟩
        rw [sub_at (by omega)]
        refine copy_blk xr9 hx1 bn (by simp only [List.length_append, hA, hz1]; omega) fun h11 hb11 hu11 => ⟨by omega, ?_⟩
        simp only [Bd]
        rw [sub_at (by omega), sub_at (by omega), m2]
        refine ⟨by omega, ?_⟩
        have hbc11 := hu11.get hbc (fun e => hszb e.symm)
        have br : SRow h11 (some ⟨b, 0 + k * 1, none⟩) ((xs.length - k) * 1) B := row_of hbc11 hB (by
          rw [Nat.zero_add, List.append_assoc, ← hA, List.drop_left, ← hB, List.take_left])
        refine copy_blk br hone hb11 ?_ fun h16 hb16 hu16 => ?_
        · simp only [List.length_append, List.length_take, List.length_drop, hA, hz1, hxl]; omega
        · refine hK _ _ ⟨by simp; omega, rxF_ne, hnc, .inr ⟨h.size, zrow (nc - (xs.length + 1)) [.pointer none], rfl, hM _ (Nat.le_refl _), ?_, by rw [zrow_len]; rfl⟩⟩ ((kn.wide.trans (M' := (· = h.size)) hu11 fun b hb => .inl (hb ▸ hM _ (Nat.le_refl _))).trans (M' := (· = h.size)) hu16 fun b hb => .inl (hb ▸ hM _ (Nat.le_refl _)))
          rw [hb16, hins]
          have := ins_new (A := A) (X := X) (B := B) (Z1 := zrow (xs.length + 1 - k) [.pointer none]) (Z2 := zrow (nc - (xs.length + 1)) [.pointer none]) (r := (xs.length - k) * 1) hA hxl (by rw [hz1, ← Nat.add_one_mul]; congr 1; omega)
          rw [hncl, ← this]
          simp only [Nat.zero_add, Nat.add_one_mul, Nat.one_mul]
  · have hcl : xs.length + 1 ≤ s.cap := by omega
    refine ⟨by omega, ?_⟩
    simp only [Bd, Nat.sub_zero]
    rw [sub_zero, sub_at (show s.cap ≠ k + 1 by omega), sub_at (show s.cap ≠ k by omega)]
    refine ⟨by omega, ?_⟩
    have hrl : 1 ≤ rest.length := by rw [hr]; exact Nat.le_mul_of_pos_left _ (by omega)
    refine overlaps_rxF hv hc hbv (by rw [List.size_toArray, List.length_append]; omega) ?_
    refine condP_true.2 ⟨by omega, by omega, ?_⟩
    have m1 : Nat.min 1 (xs.length + 1 - k) = 1 := Nat.min_eq_left (by omega)
    have m2 : Nat.min (xs.length + 1 - k) (xs.length + 1 - (k + 1)) = xs.length - k := by
      rw [show xs.length + 1 - (k + 1) = xs.length - k by omega]; exact Nat.min_eq_right (by omega)
    rw [m2]
    have br : SRow h (some ⟨b, 0 + k * 1, none⟩) ((xs.length - k) * 1) B := row_of hc hB (by
      rw [Nat.zero_add, List.append_assoc, ← hA, List.drop_left, ← hB, List.take_left])
    refine copy_blk br hone hc (by simp only [List.length_append, hA, hB]; omega) fun h1 hb1 hu1 => ⟨by omega, ?_⟩
    rw [m1]
    have xr1 : SRow h1 (some ⟨vb, 0, none⟩) (1 * 1) X := row_of (hu1.get hv hbv) (by rw [hxl]) (by rw [List.drop_zero, List.take_of_length_le]; rw [hxl]; omega)
    refine copy_blk xr1 hx1 hb1 (by simp only [List.length_append, List.length_take, List.length_drop, hA, hB]; omega) fun h2 hb2 hu2 => ?_
    refine hK _ _ ⟨by simp; omega, rxF_ne, hcl, .inr ⟨b, rest.drop 1, rfl, hb, ?_, ?_⟩⟩ ((hu1.mono fun _ e => .inl (e ▸ hb)).tr (hu2.mono fun _ e => .inl (e ▸ hb)))
    · rw [hb2, hins]
      have := ins_in (A := A) (X := X) (B := B) (R := rest) (q := 1) (r := (xs.length - k) * 1) hA hB hrl
      rw [← this]
      simp only [Nat.zero_add, Nat.add_one_mul, Nat.one_mul]
    · rw [List.length_drop, hr]
      simp only
      rw [hlen]; omega
end Go.Proofs
namespace Go.Proofs
open Go Go.Lift
theorem clone_prF {W : Nat → Prop} {h : Heap} {s : SliceV} {xs : List (ByteArray × ByteArray)} (h1 : Sl prF 2 W h s xs) (hn : xs.length * 32 ≤ 140737488355328) {K : SliceV → Heap → Prop}
    (hk : ∀ s' h', OwnS prF 2 t_pair_Pair (fun b => h.size ≤ b) h' s' xs → Upd No h h' → K s' h') : HC PG f_slices_Clone_A_pair_Pair_pair_Pair [.slice s.a s.len s.cap] [.c .slice] K h := by
  refine H_slices_Clone_A_pair_Pair_pair_Pair s ?_
  unfold F_slices_Clone_A_pair_Pair_pair_Pair
  refine CondP.intro (fun he => ?_) (fun hne => ?_)
  · have he : s.a = none := by simpa using he
    have hx : xs = [] := by
      by_cases hx : xs = []
      · exact hx
      · obtain ⟨a, ha, _⟩ := h1.row hx
        rw [he] at ha; cases ha
    subst hx
    exact hk _ _ (OwnS.nil prF_ne) (Upd.refl _ _)
  · have h2 := h1.upd (Upd.hnew No h [] t_pair_Pair) (fun _ h => h.elim)
    refine ⟨_, h2.srow, ?_⟩
    refine AppP.own (f := prF) (M := fun b => h.size ≤ b) (xs := []) (ys := xs) ⟨rfl, prF_ne, Nat.le_refl _, .inl rfl⟩ h1.len rfl (one_prF xs) rfl (by omega) (by simpa using hn) (by rw [hnew_size]; omega) fun s' h' ho hu => ?_
    exact hk _ _ ho ((Upd.hnew No h [] t_pair_Pair).trans hu fun b hb => .inr hb)
theorem delete_prF {M : Nat → Prop} {h : Heap} {s : SliceV} {xs : List (ByteArray × ByteArray)} (hs : OwnS prF 2 t_pair_Pair M h s xs) {k : Nat} (hkl : k < xs.length) (hn : xs.length ≤ 4398046511104)
    {K : SliceV → Heap → Prop} (hK : ∀ s' h', OwnS prF 2 t_pair_Pair M h' s' (xs.take k ++ xs.drop (k + 1)) → Upd M h h' → K s' h') :
    HC PG f_slices_Delete_A_pair_Pair_pair_Pair [.slice s.a s.len s.cap, .int .i64 k, .int .i64 ((k + 1 : Nat) : Int)] [.c .slice] K h := by
  refine H_slices_Delete_A_pair_Pair_pair_Pair s k ((k + 1 : Nat) : Int) ?_
  unfold F_slices_Delete_A_pair_Pair_pair_Pair
  have hlen := hs.len
  have hcap := hs.cap
  rcases hs.blk with h0 | ⟨b, rest, ha, hb, hc, hr⟩
  · omega
  have hA : ((xs.take k).flatMap prF).length = k * 2 := by rw [cut_len prF_ne, List.length_take, Nat.min_eq_left (by omega)]
  have hB : ((xs.drop (k + 1)).flatMap prF).length = (xs.length - (k + 1)) * 2 := by rw [cut_len prF_ne, List.length_drop]
  have e1 : xs.flatMap prF = (xs.take k).flatMap prF ++ (prF xs[k] ++ (xs.drop (k + 1)).flatMap prF) := by
    rw [← List.flatMap_cons, ← List.drop_eq_getElem_cons hkl]; exact cut_at xs k
  rw [e1] at hc
  have hone := one_prF (xs.drop (k + 1))
  have hins : (xs.take k ++ xs.drop (k + 1)).flatMap prF = (xs.take k).flatMap prF ++ (xs.drop (k + 1)).flatMap prF := List.flatMap_append
  have hX : (prF xs[k]).length = 2 := rfl
  generalize (xs.take k).flatMap prF = A at hA hc hins
  generalize (xs.drop (k + 1)).flatMap prF = B at hB hc hone hins
  generalize prF xs[k] = X at hX hc
  rw [ha]
  simp only [hlen, Int.toNat_natCast]
  refine ⟨by omega, by omega, by omega, CondP.intro (fun e => ?_) fun _ => ?_⟩
  · have : (k : Int) = ((k + 1 : Nat) : Int) := by simpa using e
    omega
  refine Join.plain ⟨by omega, by omega, B, ?_, ?_⟩
  · by_cases hlast : xs.length = k + 1
    · exact ⟨hB, .inl (List.length_eq_zero_iff.1 (by rw [hB, hlast, Nat.sub_self, Nat.zero_mul]))⟩
    rw [sub_at (by omega)]
    refine row_of hc hB ?_
    have : (A ++ X).length = 0 + (k + 1) * 2 := by rw [List.length_append]; omega
    rw [show A ++ (X ++ B) ++ rest = (A ++ X) ++ (B ++ rest) by simp only [List.append_assoc], List.drop_left' this, List.take_left' hB]
  · rw [sub_zero]
    refine app_in hc (by simp only [List.length_append]; omega) (by omega) hone fun h1 hb1 hu1 => ?_
    have hr' : rest.length = (s.cap - xs.length) * 2 := by rw [hr, hlen]
    refine ⟨by dsimp only; omega, by dsimp only; omega, ?_⟩
    simp only [Bd]
    rw [sub_at (by omega)]
    have en : xs.length - (k - 0 + (xs.length - (k + 1))) = 1 := by omega
    have hd1 : (A ++ (X ++ B) ++ rest).drop ((k - 0) * 2 + B.length) = (X ++ B).drop B.length ++ rest := by
      rw [List.append_assoc, ← List.drop_drop, List.drop_left' (show A.length = (k - 0) * 2 by rw [hA, Nat.sub_zero]), List.drop_append_of_le_length (by rw [List.length_append]; omega)]
    have ht1 : (A ++ (X ++ B) ++ rest).take ((k - 0) * 2) = A := by rw [List.append_assoc, List.take_left' (show A.length = (k - 0) * 2 by rw [hA, Nat.sub_zero])]
    rw [hd1, ht1] at hb1
    have hdl : ((X ++ B).drop B.length).length = 2 := by rw [List.length_drop, List.length_append]; omega
    generalize (X ++ B).drop B.length = D at hdl hb1
    rw [en]
    have hz : (zrow 1 [.string (⟨#[]⟩ : ByteArray), .string (⟨#[]⟩ : ByteArray)]).length = 2 := rfl
    have hAB : (A ++ B).length = 0 + (k - 0 + (xs.length - (k + 1))) * 2 := by rw [List.length_append, hA, hB]; omega
    refine put_blk hb1 (by simp only [List.length_append] at hAB ⊢; omega) fun h2 hb2 hu2 => ?_
    rw [List.take_left' hAB, ← List.drop_drop, List.drop_left' hAB] at hb2
    refine hK _ _ ⟨by simp; omega, prF_ne, by simp only; omega, .inr ⟨b, zrow 1 [.string (⟨#[]⟩ : ByteArray), .string (⟨#[]⟩ : ByteArray)] ++ (D ++ rest).drop (zrow 1 [.string (⟨#[]⟩ : ByteArray), .string (⟨#[]⟩ : ByteArray)]).length, rfl, hb, ?_, ?_⟩⟩ ((hu1.mono fun _ e => .inl (e ▸ hb)).tr (hu2.mono fun _ e => .inl (e ▸ hb)))
    · rw [hb2, hins]; simp only [List.append_assoc]
    · simp only [List.length_append, List.length_drop, hz, hdl, hr']
      omega
theorem clone_ndF {W : Nat → Prop} {h : Heap} {s : SliceV} {xs : List (Option Addr)} (h1 : Sl ndF 1 W h s xs) (hn : xs.length * 8 ≤ 140737488355328) {K : SliceV → Heap → Prop}
    (hk : ∀ s' h', OwnS ndF 1 t_P_node_Node (fun b => h.size ≤ b) h' s' xs → Upd No h h' → K s' h') : HC PG f_slices_Clone_A_P_node_Node_P_node_Node [.slice s.a s.len s.cap] [.c .slice] K h := by
  refine H_slices_Clone_A_P_node_Node_P_node_Node s ?_
  unfold F_slices_Clone_A_P_node_Node_P_node_Node
  refine CondP.intro (fun he => ?_) (fun hne => ?_)
  · have he : s.a = none := by simpa using he
    have hx : xs = [] := by
      by_cases hx : xs = []
      · exact hx
      · obtain ⟨a, ha, _⟩ := h1.row hx
        rw [he] at ha; cases ha
    subst hx
    exact hk _ _ (OwnS.nil ndF_ne) (Upd.refl _ _)
  · have h2 := h1.upd (Upd.hnew No h [] t_P_node_Node) (fun _ h => h.elim)
    refine ⟨_, h2.srow, ?_⟩
    refine AppP.own (f := ndF) (M := fun b => h.size ≤ b) (xs := []) (ys := xs) ⟨rfl, ndF_ne, Nat.le_refl _, .inl rfl⟩ h1.len rfl (one_ndF xs) rfl (by omega) (by simpa using hn) (by rw [hnew_size]; omega) fun s' h' ho hu => ?_
    exact hk _ _ ho ((Upd.hnew No h [] t_P_node_Node).trans hu fun b hb => .inr hb)
theorem delete_ndF {M : Nat → Prop} {h : Heap} {s : SliceV} {xs : List (Option Addr)} (hs : OwnS ndF 1 t_P_node_Node M h s xs) {k : Nat} (hkl : k < xs.length) (hn : xs.length ≤ 4398046511104)
    {K : SliceV → Heap → Prop} (hK : ∀ s' h', OwnS ndF 1 t_P_node_Node M h' s' (xs.take k ++ xs.drop (k + 1)) → Upd M h h' → K s' h') :
    HC PG f_slices_Delete_A_P_node_Node_P_node_Node [.slice s.a s.len s.cap, .int .i64 k, .int .i64 ((k + 1 : Nat) : Int)] [.c .slice] K h := by
  refine H_slices_Delete_A_P_node_Node_P_node_Node s k ((k + 1 : Nat) : Int) ?_
  unfold F_slices_Delete_A_P_node_Node_P_node_Node
  have hlen := hs.len
  have hcap := hs.cap
  rcases hs.blk with h0 | ⟨b, rest, ha, hb, hc, hr⟩
  · omega
  have hA : ((xs.take k).flatMap ndF).length = k * 1 := by rw [cut_len ndF_ne, List.length_take, Nat.min_eq_left (by omega)]
  have hB : ((xs.drop (k + 1)).flatMap ndF).length = (xs.length - (k + 1)) * 1 := by rw [cut_len ndF_ne, List.length_drop]
  have e1 : xs.flatMap ndF = (xs.take k).flatMap ndF ++ (ndF xs[k] ++ (xs.drop (k + 1)).flatMap ndF) := by
    rw [← List.flatMap_cons, ← List.drop_eq_getElem_cons hkl]; exact cut_at xs k
  rw [e1] at hc
  have hone := one_ndF (xs.drop (k + 1))
  have hins : (xs.take k ++ xs.drop (k + 1)).flatMap ndF = (xs.take k).flatMap ndF ++ (xs.drop (k + 1)).flatMap ndF := List.flatMap_append
  have hX : (ndF xs[k]).length = 1 := rfl
  generalize (xs.take k).flatMap ndF = A at hA hc hins
  generalize (xs.drop (k + 1)).flatMap ndF = B at hB hc hone hins
  generalize ndF xs[k] = X at hX hc
  rw [ha]
  simp only [hlen, Int.toNat_natCast]
  refine ⟨by omega, by omega, by omega, CondP.intro (fun e => ?_) fun _ => ?_⟩
  · have : (k : Int) = ((k + 1 : Nat) : Int) := by simpa using e
    omega
  refine Join.plain ⟨by omega, by omega, B, ?_, ?_⟩
  · by_cases hlast : xs.length = k + 1
    · exact ⟨hB, .inl (List.length_eq_zero_iff.1 (by rw [hB, hlast, Nat.sub_self, Nat.zero_mul]))⟩
    rw [sub_at (by omega)]
    refine row_of hc hB ?_
    have : (A ++ X).length = 0 + (k + 1) * 1 := by rw [List.length_append]; omega
    rw [show A ++ (X ++ B) ++ rest = (A ++ X) ++ (B ++ rest) by simp only [List.append_assoc], List.drop_left' this, List.take_left' hB]
  · rw [sub_zero]
    refine app_in hc (by simp only [List.length_append]; omega) (by omega) hone fun h1 hb1 hu1 => ?_
    have hr' : rest.length = (s.cap - xs.length) * 1 := by rw [hr, hlen]
    refine ⟨by dsimp only; omega, by dsimp only; omega, ?_⟩
    simp only [Bd]
    rw [sub_at (by omega)]
    have en : xs.length - (k - 0 + (xs.length - (k + 1))) = 1 := by omega
    have hd1 : (A ++ (X ++ B) ++ rest).drop ((k - 0) * 1 + B.length) = (X ++ B).drop B.length ++ rest := by
      rw [List.append_assoc, ← List.drop_drop, List.drop_left' (show A.length = (k - 0) * 1 by rw [hA, Nat.sub_zero]), List.drop_append_of_le_length (by rw [List.length_append]; omega)]
    have ht1 : (A ++ (X ++ B) ++ rest).take ((k - 0) * 1) = A := by rw [List.append_assoc, List.take_left' (show A.length = (k - 0) * 1 by rw [hA, Nat.sub_zero])]
    rw [hd1, ht1] at hb1
    have hdl : ((X ++ B).drop B.length).length = 1 := by rw [List.length_drop, List.length_append]; omega
    generalize (X ++ B).drop B.length = D at hdl hb1
    rw [en]
    have hz : (zrow 1 [.pointer none]).length = 1 := rfl
    have hAB : (A ++ B).length = 0 + (k - 0 + (xs.length - (k + 1))) * 1 := by rw [List.length_append, hA, hB]; omega
    refine put_blk hb1 (by simp only [List.length_append] at hAB ⊢; omega) fun h2 hb2 hu2 => ?_
    rw [List.take_left' hAB, ← List.drop_drop, List.drop_left' hAB] at hb2
    refine hK _ _ ⟨by simp; omega, ndF_ne, by simp only; omega, .inr ⟨b, zrow 1 [.pointer none] ++ (D ++ rest).drop (zrow 1 [.pointer none]).length, rfl, hb, ?_, ?_⟩⟩ ((hu1.mono fun _ e => .inl (e ▸ hb)).tr (hu2.mono fun _ e => .inl (e ▸ hb)))
    · rw [hb2, hins]; simp only [List.append_assoc]
    · simp only [List.length_append, List.length_drop, hz, hdl, hr']
      omega
theorem clone_rxF {W : Nat → Prop} {h : Heap} {s : SliceV} {xs : List (Option Addr)} (h1 : Sl rxF 1 W h s xs) (hn : xs.length * 8 ≤ 140737488355328) {K : SliceV → Heap → Prop}
    (hk : ∀ s' h', OwnS rxF 1 t_P_radix_Node (fun b => h.size ≤ b) h' s' xs → Upd No h h' → K s' h') : HC PG f_slices_Clone_A_P_radix_Node_P_radix_Node [.slice s.a s.len s.cap] [.c .slice] K h := by
  refine H_slices_Clone_A_P_radix_Node_P_radix_Node s ?_
  unfold F_slices_Clone_A_P_radix_Node_P_radix_Node
  refine CondP.intro (fun he => ?_) (fun hne => ?_)
  · have he : s.a = none := by simpa using he
    have hx : xs = [] := by
      by_cases hx : xs = []
      · exact hx
      · obtain ⟨a, ha, _⟩ := h1.row hx
        rw [he] at ha; cases ha
    subst hx
    exact hk _ _ (OwnS.nil rxF_ne) (Upd.refl _ _)
  · have h2 := h1.upd (Upd.hnew No h [] t_P_radix_Node) (fun _ h => h.elim)
    refine ⟨_, h2.srow, ?_⟩
    refine AppP.own (f := rxF) (M := fun b => h.size ≤ b) (xs := []) (ys := xs) ⟨rfl, rxF_ne, Nat.le_refl _, .inl rfl⟩ h1.len rfl (one_rxF xs) rfl (by omega) (by simpa using hn) (by rw [hnew_size]; omega) fun s' h' ho hu => ?_
    exact hk _ _ ho ((Upd.hnew No h [] t_P_radix_Node).trans hu fun b hb => .inr hb)
end Go.Proofs
namespace Go.Proofs
open Go.Lift
abbrev Pr := ByteArray × ByteArray
theorem bytes_ext {a b : ByteArray} : a.toList = b.toList ↔ a = b := by
  constructor
  · intro h
    rw [ByteArray.toList_eq, ByteArray.toList_eq] at h
    cases a; cases b; simp at h; subst h; rfl
  · rintro rfl; rfl
def kl (a b : ByteArray) : Prop := Op.bytesLess a.toList b.toList = true
instance (a b : ByteArray) : Decidable (kl a b) := inferInstanceAs (Decidable (_ = true))
theorem kl_iff {a b : ByteArray} : kl a b ↔ a.toList < b.toList := by unfold kl; rw [bytesLess_eq, decide_eq_true_iff]
theorem kl_irrefl (a : ByteArray) : ¬ kl a a := by rw [kl_iff]; exact List.lt_irrefl _
theorem kl_trans {a b c : ByteArray} (h : kl a b) (k : kl b c) : kl a c := by rw [kl_iff] at *; exact List.lt_trans h k
theorem tri : ∀ x y : List UInt8, Op.bytesLess x y = false → x ≠ y → Op.bytesLess y x = true
  | [], [], _, h => absurd rfl h
  | [], _ :: _, h, _ => by simp [Op.bytesLess] at h
  | _ :: _, [], _, _ => rfl
  | a :: x, b :: y, h, hn => by
    simp only [Op.bytesLess, Bool.or_eq_false_iff, decide_eq_false_iff_not, Bool.and_eq_false_iff] at h
    simp only [Op.bytesLess, Bool.or_eq_true, decide_eq_true_iff, Bool.and_eq_true]
    by_cases e : a = b
    · subst e
      right
      refine ⟨by simp, tri x y ?_ fun e => hn (by rw [e])⟩
      rcases h.2 with h | h
      · simp at h
      · exact h
    · left
      have h1 := h.1
      rw [UInt8.lt_iff_toNat_lt] at h1 ⊢
      have : a.toNat ≠ b.toNat := fun h => e (UInt8.toNat_inj.1 h)
      omega
theorem kl_tri {a b : ByteArray} (h : ¬ kl a b) (k : a ≠ b) : kl b a := tri _ _ (by unfold kl at h; simpa using h) fun e => k (bytes_ext.1 e)
def cmpS (a b : ByteArray) : Int := if kl a b then -1 else if a = b then 0 else 1
theorem isNaN_ok {x : ByteArray} {h : Heap} {K : Bool → Heap → Prop} (hk : K false h) : HC PG f_cmp_isNaN_str [.string x] [.c .bool] K h := by
  refine H_cmp_isNaN_str x ?_
  unfold F_cmp_isNaN_str
  simpa using hk
theorem compare_ok {a b : ByteArray} {h : Heap} {K : Int → Heap → Prop} (hk : K (cmpS a b) h) : HC PG f_cmp_Compare_str [.string a, .string b] [.c (.int .i64)] K h := by
  refine H_cmp_Compare_str a b ?_
  unfold F_cmp_Compare_str
  refine isNaN_ok (isNaN_ok (condP_false.2 (condP_false.2 ?_)))
  unfold cmpS at hk
  refine CondP.intro (fun e => ?_) fun e => ?_
  · rw [if_pos (show kl a b from e)] at hk; exact hk
  · have hn : ¬ kl a b := fun h => by rw [show Op.bytesLess a.toList b.toList = true from h] at e; cases e
    rw [if_neg hn] at hk
    rw [e]
    refine CondP.intro (fun e2 => ?_) fun e2 => ?_
    · rw [if_neg (fun h => by subst h; simp at e2)] at hk; exact hk
    · have : a.toList = b.toList := by simpa using e2
      rw [if_pos (bytes_ext.1 this)] at hk; exact hk
theorem order_ok {p : Pr} {k : ByteArray} {h : Heap} {K : Int → Heap → Prop} (hk : ∀ h', Upd No h h' → K (cmpS p.1 k) h') : HC PG f_pair_order [.agg #[.string p.1, .string p.2], .string k] [.c (.int .i64)] K h := by
  refine H_pair_order p k ?_
  unfold F_pair_order cAt
  have b1 := hnew_get h [.string p.1, .string p.2] t_pair_Pair
  refine ⟨p.1, by rw [newA_eq, adr_mk, hcell_blk b1]; rfl, compare_ok (hk _ (Upd.hnew No h _ _))⟩
abbrev Rises (l : List Pr) : Prop := l.Pairwise fun p q => kl p.1 q.1
def pos (l : List Pr) (k : ByteArray) : Nat := (l.takeWhile fun p => decide (kl p.1 k)).length
def there (l : List Pr) (k : ByteArray) : Bool := l.any fun p => decide (p.1 = k)
theorem pos_of {l : List Pr} {k : ByteArray} {i : Nat} (hi : i ≤ l.length) (h1 : ∀ j (h : j < l.length), j < i → kl l[j].1 k) (h2 : ∀ (h : i < l.length), ¬ kl l[i].1 k) : pos l k = i := by
  unfold pos
  induction l generalizing i with
  | nil => simp at hi; simp [hi]
  | cons p l ih =>
    rw [List.takeWhile_cons]
    cases i with
    | zero =>
      have := h2 (by simp)
      simp only [List.getElem_cons_zero] at this
      rw [if_neg (by simpa using this)]; rfl
    | succ i =>
      have := h1 0 (by simp) (by omega)
      simp only [List.getElem_cons_zero] at this
      rw [if_pos (by simpa using this), List.length_cons]
      congr 1
      refine ih (by simpa using hi) (fun j hj hji => ?_) fun h => ?_
      · have := h1 (j + 1) (by simpa using hj) (by omega)
        simpa using this
      · have := h2 (by simpa using h)
        simpa using this
theorem pos_le (l : List Pr) (k : ByteArray) : pos l k ≤ l.length := by
  unfold pos; exact (List.takeWhile_prefix _).length_le
theorem find_ok {W : Nat → Prop} {h : Heap} {s : SliceV} {l : List Pr} (hs : Sl prF 2 W h s l) (hr : Rises l) (hn : l.length ≤ 1000000000) (k : ByteArray) {K : Int × Bool → Heap → Prop}
    (hk : ∀ h', Upd No h h' → K ((pos l k : Int), there l k) h') : HC PG f_pair_Find [.slice s.a s.len s.cap, .string k] [.c (.int .i64), .c .bool] K h := by
  refine H_pair_Find s k ?_
  unfold F_pair_Find
  refine H_slices_BinarySearchFunc_A_pair_Pair_pair_Pair_str s k _ ?_
  unfold F_slices_BinarySearchFunc_A_pair_Pair_pair_Pair_str cAt iBd
  have hlen := hs.len
  have cmp : ∀ {p : Pr} {h : Heap} {K : Int → Heap → Prop}, (∀ h', Upd No h h' → K (cmpS p.1 k) h') → HV PG (.func (.func f_pair_order) #[] #[]) [.agg #[.string p.1, .string p.2], .string k] [.c (.int .i64)] K h := fun hk => HV.mk' (order_ok hk)
  refine LoopP.ghost (fun (g : Nat × Nat) (t : Int × Int) h' => t.1 = (g.1 : Int) ∧ t.2 = (g.2 : Int) ∧ g.1 ≤ g.2 ∧ g.2 ≤ l.length ∧ Upd No h h' ∧ (∀ j (hj : j < l.length), j < g.1 → kl l[j].1 k) ∧ (∀ j (hj : j < l.length), g.2 ≤ j → ¬ kl l[j].1 k)) (fun g => g.2 - g.1) (0, l.length)
    ⟨rfl, by simp only; omega, by simp, by simp, Upd.refl _ _, fun j hj h => by omega, fun j hj h => by simp only at h; omega⟩ ?_
  rintro I ⟨i, j⟩ ⟨ti, tj⟩ h' ⟨e1, e2, hij, hjl, hu, hlo, hhi⟩ hI
  simp only at e1 e2 hij hjl hlo hhi
  subst e1 e2
  have hs' := hs.upd hu fun _ h => h.elim
  have mono : ∀ a b (ha : a < l.length) (hb : b < l.length), a < b → kl l[a].1 l[b].1 := fun a b ha hb hab => List.pairwise_iff_getElem.1 hr a b ha hb hab
  refine condP_dec (fun hlt => ?_) fun hge => ?_
  · have hlt : i < j := by have : (i : Int) < (j : Int) := hlt; omega
    have em : IntKind.wrap .i64 (Int.fdiv (IntKind.wrap .u64 (IntKind.wrap .i64 ((i : Int) + (j : Int)))) (2 ^ (min (1 : Int).toNat (IntKind.bits .u64)))) = (((i + j) / 2 : Nat) : Int) := by
      have e3 : (2 ^ (min (1 : Int).toNat (IntKind.bits .u64)) : Int) = 2 := rfl
      rw [e3, w64 (x := (i : Int) + (j : Int)) (by omega), Go.IntWalk.u64_in _ (by omega), Int.fdiv_eq_ediv_of_nonneg _ (by omega), w64 (by omega)]
      omega
    refine ⟨by decide, ?_⟩
    simp only [Bd]
    rw [em]
    generalize hm : (i + j) / 2 = m
    have hml : m < l.length := by omega
    obtain ⟨a, ha, _, hv⟩ := hs'.at (List.getElem?_eq_getElem hml)
    refine ⟨by omega, a, ha, l[m].1, hv 0 _ rfl, l[m].2, hv 1 _ rfl, cmp fun h2 hu2 => ?_⟩
    refine condP_dec (fun hneg => ?_) fun hpos => ?_
    · have hkl : kl l[m].1 k := by
        unfold cmpS at hneg
        by_cases hkl : kl l[m].1 k
        · exact hkl
        · rw [if_neg hkl] at hneg; split at hneg <;> omega
      refine hI (m + 1, j) _ _ ⟨by simp only; rw [w64 (by omega)]; omega, rfl, by simp only; omega, hjl, hu.tr hu2, fun q hq hqm => ?_, hhi⟩ (by simp only; omega)
      simp only at hqm
      rcases Nat.lt_or_ge q m with h | h
      · exact kl_trans (mono q m hq hml h) hkl
      · have : q = m := by omega
        subst this; exact hkl
    · have hnk : ¬ kl l[m].1 k := fun hkl => hpos (by unfold cmpS; rw [if_pos hkl]; decide)
      refine hI (i, m) _ _ ⟨rfl, rfl, by simp only; omega, by simp only; omega, hu.tr hu2, hlo, fun q hq hqm hqk => ?_⟩ (by simp only; omega)
      simp only at hqm
      rcases Nat.lt_or_ge m q with h | h
      · exact hnk (kl_trans (mono m q hml hq h) hqk)
      · have : q = m := by omega
        subst this; exact hnk hqk
  · have hij : i = j := by have : ¬ (i : Int) < (j : Int) := hge; omega
    subst hij
    have hp : pos l k = i := pos_of hjl hlo fun hi => hhi i hi (Nat.le_refl _)
    rw [hp] at hk
    refine condP_dec (fun hlt => ?_) fun hnl => ?_
    · have hil : i < l.length := by have : (i : Int) < (s.len : Int) := hlt; omega
      obtain ⟨a, ha, _, hv⟩ := hs'.at (List.getElem?_eq_getElem hil)
      refine ⟨by simp only; omega, a, ha, l[i].1, hv 0 _ rfl, l[i].2, hv 1 _ rfl, cmp fun h2 hu2 => ?_⟩
      have hnk := hhi i hil (Nat.le_refl _)
      have et : (cmpS l[i].1 k == (0 : Int)) = there l k := by
        unfold cmpS there
        rw [if_neg hnk, Bool.eq_iff_iff, List.any_eq_true]
        constructor
        · intro h
          split at h
          · rename_i e; exact ⟨l[i], List.getElem_mem hil, decide_eq_true e⟩
          · simp at h
        · rintro ⟨p, hp, e⟩
          have e := of_decide_eq_true e
          obtain ⟨q, hq, rfl⟩ := List.mem_iff_getElem.1 hp
          have : q = i := by
            rcases Nat.lt_trichotomy q i with h | h | h
            · exact absurd (e ▸ hlo q hq h) (kl_irrefl _)
            · exact h
            · exact absurd (e ▸ mono i q hil hq h) hnk
          subst this
          rw [if_pos e]; rfl
      rw [et]
      exact hk _ (hu.tr hu2)
    · have hil : i = l.length := by have : ¬ (i : Int) < (s.len : Int) := hnl; omega
      have et : there l k = false := by
        unfold there
        rw [List.any_eq_false]
        intro p hp e
        have e := of_decide_eq_true e
        obtain ⟨q, hq, rfl⟩ := List.mem_iff_getElem.1 hp
        exact absurd (e ▸ hlo q hq (by omega)) (kl_irrefl _)
      rw [et] at hk
      exact hk _ hu
end Go.Proofs
namespace Go.Proofs
inductive Fo where
  | nil : Fo
  | cons (lab : List UInt8) (val : Option ByteArray) (kids rest : Fo) : Fo
abbrev Bn := List UInt8 × Option ByteArray × Fo
def Fo.toL : Fo → List Bn
  | .nil => []
  | .cons lab w kids rest => (lab, w, kids) :: rest.toL
theorem Fo.toL_cons (lab : List UInt8) (w : Option ByteArray) (kids rest : Fo) : (Fo.cons lab w kids rest).toL = (lab, w, kids) :: rest.toL := rfl
def Fo.ofL : List Bn → Fo
  | [] => .nil
  | (lab, w, kids) :: l => .cons lab w kids (Fo.ofL l)
theorem Fo.to_of : ∀ l : List Bn, (Fo.ofL l).toL = l
  | [] => rfl
  | (_, _, _) :: l => by show _ :: (Fo.ofL l).toL = _; rw [Fo.to_of l]
theorem Fo.of_to : ∀ F : Fo, Fo.ofL F.toL = F
  | .nil => rfl
  | .cons lab w kids rest => by show Fo.cons lab w kids (Fo.ofL rest.toL) = _; rw [Fo.of_to rest]
def InF : Fo → List UInt8 → ByteArray → Prop
  | .nil, _, _ => False
  | .cons lab w kids rest, k, v => (∃ r, k = lab ++ r ∧ ((r = [] ∧ w = some v) ∨ InF kids r v)) ∨ InF rest k v
def InR (w : Option ByteArray) (F : Fo) (k : List UInt8) (v : ByteArray) : Prop := (k = [] ∧ w = some v) ∨ InF F k v
def InN (n : Bn) (k : List UInt8) (v : ByteArray) : Prop := ∃ r, k = n.1 ++ r ∧ InR n.2.1 n.2.2 r v
theorem inF_iff : ∀ {F : Fo} {k : List UInt8} {v : ByteArray}, InF F k v ↔ ∃ n ∈ F.toL, InN n k v
  | .nil, _, _ => by simp [InF, Fo.toL]
  | .cons lab w kids rest, k, v => by
    rw [Fo.toL_cons]; unfold InF
    rw [inF_iff (F := rest)]
    constructor
    · rintro (h | ⟨n, hn, h⟩)
      · exact ⟨_, List.mem_cons_self .., h⟩
      · exact ⟨n, List.mem_cons_of_mem _ hn, h⟩
    · rintro ⟨n, hn, h⟩
      rcases List.mem_cons.1 hn with rfl | hn
      · exact .inl h
      · exact .inr ⟨n, hn, h⟩
def hd (k : List UInt8) : Nat := (k.headD 0).toNat
theorem hd_app {a b : List UInt8} (h : a ≠ []) : hd (a ++ b) = hd a := by
  cases a with
  | nil => exact absurd rfl h
  | cons x a => rfl
theorem hd_lt (a : List UInt8) : hd a < 256 := UInt8.toNat_lt _
def CanF : Fo → Prop
  | .nil => True
  | .cons lab w kids rest => lab ≠ [] ∧ (w.isSome ∨ 2 ≤ kids.toL.length) ∧ CanF kids ∧ (∀ n ∈ rest.toL, hd lab < hd n.1) ∧ CanF rest
def CanN (n : Bn) : Prop := n.1 ≠ [] ∧ (n.2.1.isSome ∨ 2 ≤ n.2.2.toL.length) ∧ CanF n.2.2
theorem canF_iff : ∀ {F : Fo}, CanF F ↔ F.toL.Pairwise (fun m n => hd m.1 < hd n.1) ∧ ∀ n ∈ F.toL, CanN n
  | .nil => by simp [CanF, Fo.toL]
  | .cons lab w kids rest => by
    rw [Fo.toL_cons, List.pairwise_cons]
    show (lab ≠ [] ∧ (w.isSome ∨ 2 ≤ kids.toL.length) ∧ CanF kids ∧ (∀ n ∈ rest.toL, hd lab < hd n.1) ∧ CanF rest) ↔ _
    rw [canF_iff (F := rest)]
    constructor
    · rintro ⟨h1, h2, h3, h4, h5, h6⟩
      refine ⟨⟨h4, h5⟩, fun n hn => ?_⟩
      rcases List.mem_cons.1 hn with rfl | hn
      · exact ⟨h1, h2, h3⟩
      · exact h6 n hn
    · rintro ⟨⟨h4, h5⟩, h6⟩
      have := h6 _ (List.mem_cons_self ..)
      exact ⟨this.1, this.2.1, this.2.2, h4, h5, fun n hn => h6 n (List.mem_cons_of_mem _ hn)⟩
theorem inF_some : ∀ {F : Fo}, CanF F → ∀ n ∈ F.toL, ∃ r v, InR n.2.1 n.2.2 r v
  | .nil, _, n, hn => by simp [Fo.toL] at hn
  | .cons lab w kids rest, h, n, hn => by
    rcases List.mem_cons.1 hn with rfl | hn
    · rcases h.2.1 with hw | hk
      · obtain ⟨v, hv⟩ := Option.isSome_iff_exists.1 hw
        exact ⟨[], v, .inl ⟨rfl, hv⟩⟩
      · have ih := inF_some h.2.2.1
        have ⟨m, hm⟩ : ∃ m, m ∈ kids.toL := by
          cases hl : kids.toL with
          | nil => rw [hl] at hk; simp at hk
          | cons m l => exact ⟨m, List.mem_cons_self ..⟩
        obtain ⟨r, v, hr⟩ := ih m hm
        exact ⟨m.1 ++ r, v, .inr (inF_iff.2 ⟨m, hm, r, rfl, hr⟩)⟩
    · exact inF_some h.2.2.2.2 n hn
theorem inF_ne {F : Fo} (h : CanF F) {k : List UInt8} {v : ByteArray} (hi : InF F k v) : k ≠ [] := by
  obtain ⟨n, hn, r, rfl, _⟩ := inF_iff.1 hi
  have := ((canF_iff.1 h).2 n hn).1
  intro e
  exact this (List.append_eq_nil_iff.1 e).1
theorem inF_hd {F : Fo} (h : CanF F) {k : List UInt8} {v : ByteArray} (hi : InF F k v) : ∃ n ∈ F.toL, hd n.1 = hd k ∧ InN n k v := by
  obtain ⟨n, hn, r, e, hr⟩ := inF_iff.1 hi
  exact ⟨n, hn, by rw [e, hd_app ((canF_iff.1 h).2 n hn).1], r, e, hr⟩
theorem can_one {F : Fo} (h : CanF F) {m n : Bn} (hm : m ∈ F.toL) (hn : n ∈ F.toL) (e : hd m.1 = hd n.1) : m = n := by
  have hp := (canF_iff.1 h).1
  revert hm hn
  generalize F.toL = l at *
  clear h
  induction l with
  | nil => intro hm; simp at hm
  | cons a l ih =>
    have hp := List.pairwise_cons.1 hp
    intro hm hn
    rcases List.mem_cons.1 hm with e1 | hm1
    · rcases List.mem_cons.1 hn with e2 | hn1
      · rw [e1, e2]
      · have := hp.1 n hn1; rw [← e1] at this; omega
    · rcases List.mem_cons.1 hn with e2 | hn1
      · have := hp.1 m hm1; rw [← e2] at this; omega
      · exact ih hp.2 hm1 hn1
def Br (P : List UInt8 → ByteArray → Prop) : Prop := (∃ v, P [] v) ∨ ∃ j k u v, P j u ∧ P k v ∧ j ≠ [] ∧ k ≠ [] ∧ hd j ≠ hd k
theorem br_iff {w : Option ByteArray} {F : Fo} (h : CanF F) : (w.isSome ∨ 2 ≤ F.toL.length) ↔ Br (InR w F) := by
  constructor
  · rintro (hw | hl)
    · obtain ⟨v, hv⟩ := Option.isSome_iff_exists.1 hw
      exact .inl ⟨v, .inl ⟨rfl, hv⟩⟩
    · right
      have hs := inF_some h
      have hc := canF_iff.1 h
      match hL : F.toL, hl with
      | a :: b :: l, _ =>
        have ha : a ∈ F.toL := by rw [hL]; simp
        have hb : b ∈ F.toL := by rw [hL]; simp
        obtain ⟨r, v, hr⟩ := hs a ha
        obtain ⟨s, u, hs⟩ := hs b hb
        have h1 := (hc.2 a ha).1
        have h2 := (hc.2 b hb).1
        have := hc.1
        rw [hL] at this
        have h3 := (List.pairwise_cons.1 this).1 b (List.mem_cons_self ..)
        refine ⟨a.1 ++ r, b.1 ++ s, v, u, .inr (inF_iff.2 ⟨a, ha, r, rfl, hr⟩), .inr (inF_iff.2 ⟨b, hb, s, rfl, hs⟩), ?_, ?_, ?_⟩
        · intro e; exact h1 (List.append_eq_nil_iff.1 e).1
        · intro e; exact h2 (List.append_eq_nil_iff.1 e).1
        · rw [hd_app h1, hd_app h2]; omega
  · rintro (⟨v, hv⟩ | ⟨j, k, u, v, hj, hk, nj, nk, hne⟩)
    · rcases hv with ⟨_, hv⟩ | hv
      · left; rw [hv]; rfl
      · exact absurd rfl (inF_ne h hv)
    · right
      rcases hj with ⟨e, _⟩ | hj
      · exact absurd e nj
      rcases hk with ⟨e, _⟩ | hk
      · exact absurd e nk
      obtain ⟨m, hm, em, _⟩ := inF_hd h hj
      obtain ⟨n, hn, en, _⟩ := inF_hd h hk
      match hL : F.toL with
      | [] => rw [hL] at hm; simp at hm
      | [a] =>
        rw [hL] at hm hn
        rw [List.mem_singleton.1 hm] at em
        rw [List.mem_singleton.1 hn] at en
        omega
      | a :: b :: l => simp
end Go.Proofs
