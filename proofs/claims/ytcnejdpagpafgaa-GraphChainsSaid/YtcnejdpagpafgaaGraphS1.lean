/- A part of the proof that the named laws of this program answer true, whatever the input. -/
import Derived.Test.YtcnejdpagpafgaaGraphFx
import Derived.Test.YtcnejdpagpafgaaLiftMap
import Derived.IntWalk
namespace Go.Proofs
open Go.Lift
abbrev u32 (x : Int) : List Value := [.int .u32 x]
theorem u32_ne (x : Int) : (u32 x).length = 1 ∧ 0 < 1 := ⟨rfl, Nat.one_pos⟩
/-- A slice of numbers, of a length that can be reckoned with. -/
abbrev Nums (W : Nat → Prop) (h : Heap) (s : SliceV) (xs : List Int) : Prop := Sl u32 1 W h s xs
theorem wrap_succ {i n : Nat} (h : i < n) (hn : n ≤ 4611686018427387904) : IntKind.wrap .i64 ((i : Int) + 1) = ((i + 1 : Nat) : Int) := by
  rw [Go.IntWalk.i64_in _ (by omega)]; omega
theorem Nums.at {W : Nat → Prop} {h : Heap} {s : SliceV} {xs : List Int} (hs : Nums W h s xs) {i : Nat} (hi : i < xs.length) : ∃ a, s.a = some a ∧ ¬ W a.block ∧ hcell h (adr a (((i : Int)).toNat * 1)) = some (.int .u32 xs[i]) :=
  hs.at0 (g := fun x => .int .u32 x) (List.getElem?_eq_getElem hi)
/-! ### slices -/
theorem equal_ok {W W' : Nat → Prop} {h : Heap} {s s' : SliceV} {xs ys : List Int} (h1 : Nums W h s xs) (h2 : Nums W' h s' ys) (hn : xs.length ≤ 4611686018427387904) {K : Bool → Heap → Prop} (hk : K (decide (xs = ys)) h) :
    HC PG f_slices_Equal_A_u32_u32 [.slice s.a s.len s.cap, .slice s'.a s'.len s'.cap] [.c .bool] K h := by
  refine H_slices_Equal_A_u32_u32 s s' ?_
  unfold F_slices_Equal_A_u32_u32
  refine CondP.intro (fun hne => ?_) (fun he => ?_)
  · have : xs ≠ ys := fun e => by
      rw [h1.len, h2.len, e] at hne; simp at hne
    rw [decide_eq_false this] at hk
    exact hk
  · have hl : xs.length = ys.length := by
      rw [h1.len, h2.len] at he
      have : (xs.length : Int) = ys.length := by simpa using he
      omega
    refine LoopP.ghost (fun (i : Nat) (t : Int) h' => t = (i : Int) ∧ h' = h ∧ i ≤ xs.length ∧ xs.take i = ys.take i) (fun i => xs.length - i) 0 ⟨rfl, rfl, Nat.zero_le _, rfl⟩ ?_
    rintro I i t h' ⟨rfl, rfl, hi, hp⟩ hI
    refine condP_dec (fun hlt => ?_) (fun hge => ?_)
    · rw [h1.len] at hlt
      have hlt : i < xs.length := by omega
      obtain ⟨a, ha, _, hx⟩ := Nums.at h1 hlt
      obtain ⟨a', ha', _, hy⟩ := Nums.at h2 (hl ▸ hlt)
      refine ⟨by rw [h1.len]; omega, a, ha, _, hx, by rw [h2.len]; omega, a', ha', _, hy, ?_⟩
      refine CondP.intro (fun hne => ?_) (fun he => ?_)
      · have : xs ≠ ys := fun e => by subst e; simp at hne
        rw [decide_eq_false this] at hk
        exact hk
      · have he : xs[i] = ys[i] := by simpa using he
        rw [wrap_succ hlt hn]
        refine hI (i + 1) _ _ ⟨rfl, rfl, hlt, ?_⟩ (by omega)
        rw [List.take_succ_eq_append_getElem hlt, List.take_succ_eq_append_getElem (hl ▸ hlt), hp, he]
    · rw [h1.len] at hge
      have : i = xs.length := by omega
      subst this
      have : xs = ys := by
        rw [List.take_length, hl, List.take_length] at hp; exact hp
      rw [decide_eq_true this] at hk
      exact hk
/-- The loop that asks each element, up to the first of which it is so. -/
theorem index_ok {W : Nat → Prop} {h : Heap} {s : SliceV} {xs : List Int} (h1 : Nums W h s xs) (hn : xs.length ≤ 4611686018427387904) (x : Int) {K : Int → Heap → Prop} (hk : ∀ n : Int, (n ≥ 0 ↔ x ∈ xs) → K n h) :
    HC PG f_slices_Index_A_u32_u32 [.slice s.a s.len s.cap, .int .u32 x] [.c (.int .i64)] K h := by
  refine H_slices_Index_A_u32_u32 s x ?_
  unfold F_slices_Index_A_u32_u32
  refine LoopP.ghost (fun (i : Nat) (t : Int) h' => t = (i : Int) ∧ h' = h ∧ i ≤ xs.length ∧ x ∉ xs.take i) (fun i => xs.length - i) 0 ⟨rfl, rfl, Nat.zero_le _, by simp⟩ ?_
  rintro I i t h' ⟨rfl, rfl, hi, hp⟩ hI
  refine condP_dec (fun hlt => ?_) (fun hge => ?_)
  · rw [h1.len] at hlt
    have hlt : i < xs.length := by omega
    obtain ⟨a, ha, _, hx⟩ := Nums.at h1 hlt
    refine ⟨by rw [h1.len]; omega, a, ha, _, hx, ?_⟩
    refine CondP.intro (fun he => ?_) (fun hne => ?_)
    · have he : x = xs[i] := by simpa using he
      exact hk _ ⟨fun _ => he ▸ List.getElem_mem hlt, fun _ => by omega⟩
    · have hne : x ≠ xs[i] := by simpa using hne
      rw [wrap_succ hlt hn]
      refine hI (i + 1) _ _ ⟨rfl, rfl, hlt, ?_⟩ (by omega)
      rw [List.take_succ_eq_append_getElem hlt]
      rw [List.mem_append, List.mem_singleton, not_or]
      exact ⟨hp, hne⟩
  · rw [h1.len] at hge
    have : i = xs.length := by omega
    subst this
    rw [List.take_length] at hp
    exact hk _ ⟨fun h => by omega, fun h => absurd h hp⟩
theorem contains_ok {W : Nat → Prop} {h : Heap} {s : SliceV} {xs : List Int} (h1 : Nums W h s xs) (hn : xs.length ≤ 4611686018427387904) (x : Int) {K : Bool → Heap → Prop} (hk : K (decide (x ∈ xs)) h) :
    HC PG f_slices_Contains_A_u32_u32 [.slice s.a s.len s.cap, .int .u32 x] [.c .bool] K h := by
  refine H_slices_Contains_A_u32_u32 s x ?_
  unfold F_slices_Contains_A_u32_u32
  refine index_ok h1 hn x fun n hn => ?_
  rw [show decide (n ≥ 0) = decide (x ∈ xs) from decide_eq_decide.2 hn]
  exact hk
theorem has_ok {W : Nat → Prop} {h : Heap} {s : SliceV} {xs : List Int} (h1 : Nums W h s xs) (hn : xs.length ≤ 4611686018427387904) (x : Int) {K : Bool → Heap → Prop} (hk : K (decide (x ∈ xs)) h) :
    HC PG f_r20_Has [.slice s.a s.len s.cap, .int .u32 x] [.c .bool] K h := by
  refine H_r20_Has s x ?_
  unfold F_r20_Has
  refine LoopP.ghost (fun (i : Nat) (t : Int) h' => t = (i : Int) ∧ h' = h ∧ i ≤ xs.length ∧ x ∉ xs.take i) (fun i => xs.length - i) 0 ⟨rfl, rfl, Nat.zero_le _, by simp⟩ ?_
  rintro I i t h' ⟨rfl, rfl, hi, hp⟩ hI
  refine condP_dec (fun hlt => ?_) (fun hge => ?_)
  · rw [h1.len] at hlt
    have hlt : i < xs.length := by omega
    obtain ⟨a, ha, _, hx⟩ := Nums.at h1 hlt
    refine ⟨by rw [h1.len]; omega, a, ha, _, hx, ?_⟩
    refine CondP.intro (fun he => ?_) (fun hne => ?_)
    · have he : xs[i] = x := by simpa using he
      rw [decide_eq_true (he ▸ List.getElem_mem hlt)] at hk
      exact hk
    · have hne : xs[i] ≠ x := by simpa using hne
      rw [wrap_succ hlt hn]
      refine hI (i + 1) _ _ ⟨rfl, rfl, hlt, ?_⟩ (by omega)
      rw [List.take_succ_eq_append_getElem hlt]
      rw [List.mem_append, List.mem_singleton, not_or]
      exact ⟨hp, Ne.symm hne⟩
  · rw [h1.len] at hge
    have : i = xs.length := by omega
    subst this
    rw [List.take_length] at hp
    rw [decide_eq_false hp] at hk
    exact hk
/-- The loop that asks a function of each element: which only reads. -/
theorem indexFunc_ok {W : Nat → Prop} {s : SliceV} {xs : List Int} {fv : Value} {p : Int → Bool} (St : Heap → Prop) (hst : ∀ h, St h → Nums W h s xs)
    (hf : ∀ h x (K : Bool → Heap → Prop), St h → x ∈ xs → (∀ h', St h' → K (p x) h') → HV PG fv [.int .u32 x] [.c .bool] K h)
    (hn : xs.length ≤ 4611686018427387904) {h : Heap} (h0 : St h) {K : Int → Heap → Prop} (hk : ∀ (n : Int) h', St h' → (n ≥ 0 ↔ ∃ x ∈ xs, p x = true) → K n h') :
    HC PG f_slices_IndexFunc_A_u32_u32 [.slice s.a s.len s.cap, fv] [.c (.int .i64)] K h := by
  refine H_slices_IndexFunc_A_u32_u32 s fv ?_
  unfold F_slices_IndexFunc_A_u32_u32
  refine LoopP.ghost (fun (i : Nat) (t : Int) h' => t = (i : Int) ∧ St h' ∧ i ≤ xs.length ∧ ∀ x ∈ xs.take i, p x = false) (fun i => xs.length - i) 0 ⟨rfl, h0, Nat.zero_le _, by simp⟩ ?_
  rintro I i t h' ⟨rfl, hs, hi, hp⟩ hI
  have h1 := hst _ hs
  refine condP_dec (fun hlt => ?_) (fun hge => ?_)
  · rw [h1.len] at hlt
    have hlt : i < xs.length := by omega
    obtain ⟨a, ha, _, hx⟩ := Nums.at h1 hlt
    refine ⟨by rw [h1.len]; omega, a, ha, _, hx, ?_⟩
    refine hf _ _ _ hs (List.getElem_mem hlt) fun h2 hs2 => ?_
    refine CondP.intro (fun he => ?_) (fun hne => ?_)
    · exact hk _ _ hs2 ⟨fun _ => ⟨_, List.getElem_mem hlt, he⟩, fun _ => by omega⟩
    · rw [wrap_succ hlt hn]
      refine hI (i + 1) _ _ ⟨rfl, hs2, hlt, ?_⟩ (by omega)
      rw [List.take_succ_eq_append_getElem hlt]
      intro x hx
      rcases List.mem_append.1 hx with h | h
      · exact hp x h
      · rw [List.mem_singleton.1 h]; exact hne
  · rw [h1.len] at hge
    have : i = xs.length := by omega
    subst this
    rw [List.take_length] at hp
    exact hk _ _ hs ⟨fun h => by omega, fun ⟨x, hx, h⟩ => by rw [hp x hx] at h; cases h⟩
theorem containsFunc_ok {W : Nat → Prop} {s : SliceV} {xs : List Int} {fv : Value} {p : Int → Bool} (St : Heap → Prop) (hst : ∀ h, St h → Nums W h s xs)
    (hf : ∀ h x (K : Bool → Heap → Prop), St h → x ∈ xs → (∀ h', St h' → K (p x) h') → HV PG fv [.int .u32 x] [.c .bool] K h)
    (hn : xs.length ≤ 4611686018427387904) {h : Heap} (h0 : St h) {K : Bool → Heap → Prop} (hk : ∀ h', St h' → K (xs.any p) h') :
    HC PG f_slices_ContainsFunc_A_u32_u32 [.slice s.a s.len s.cap, fv] [.c .bool] K h := by
  refine H_slices_ContainsFunc_A_u32_u32 s fv ?_
  unfold F_slices_ContainsFunc_A_u32_u32
  refine indexFunc_ok St hst hf hn h0 fun n h' hs hn => ?_
  have : decide (n ≥ 0) = xs.any p := by
    rw [Bool.eq_iff_iff, decide_eq_true_iff, hn, List.any_eq_true]
  rw [this]
  exact hk _ hs
theorem clone_ok {W : Nat → Prop} {h : Heap} {s : SliceV} {xs : List Int} (h1 : Nums W h s xs) (hn : xs.length * 4 ≤ 140737488355328) {K : SliceV → Heap → Prop}
    (hk : ∀ s' h', OwnS u32 1 t_u32 (fun b => h.size ≤ b) h' s' xs → Upd No h h' → (s.a = none → xs = []) → K s' h') : HC PG f_slices_Clone_A_u32_u32 [.slice s.a s.len s.cap] [.c .slice] K h := by
  refine H_slices_Clone_A_u32_u32 s ?_
  unfold F_slices_Clone_A_u32_u32
  refine CondP.intro (fun he => ?_) (fun hne => ?_)
  · have he : s.a = none := by simpa using he
    have hx : xs = [] := by
      by_cases hx : xs = []
      · exact hx
      · obtain ⟨a, ha, _⟩ := h1.row hx
        rw [he] at ha; cases ha
    subst hx
    exact hk _ _ (OwnS.nil u32_ne) (Upd.refl _ _) fun _ => rfl
  · have h2 := h1.upd (Upd.hnew No h [] t_u32) (fun _ h => h.elim)
    refine ⟨_, h2.srow, ?_⟩
    refine AppP.own (f := u32) (M := fun b => h.size ≤ b) (xs := []) (ys := xs) ⟨rfl, u32_ne, Nat.le_refl _, .inl rfl⟩ h1.len rfl ?_ rfl (by omega) (by simpa using hn) (by rw [hnew_size]; omega) fun s' h' ho hu => ?_
    · clear hk h1 h2 hn
      induction xs with
      | nil => rfl
      | cons x xs ih => rw [List.flatMap_cons]; exact ih
    · refine hk _ _ ho ((Upd.hnew No h [] t_u32).trans hu fun b hb => .inr hb) fun e => ?_
      rw [e] at hne; cases hne
theorem isNaN_ok {x : Int} {h : Heap} {K : Bool → Heap → Prop} (hk : K false h) : HC PG f_cmp_isNaN_u32 [.int .u32 x] [.c .bool] K h := by
  refine H_cmp_isNaN_u32 x ?_
  unfold F_cmp_isNaN_u32
  rw [show (x != x) = false by simp]; exact hk
theorem less_ok {x y : Int} {h : Heap} {K : Bool → Heap → Prop} (hk : K (decide (x < y)) h) : HC PG f_cmp_Less_u32 [.int .u32 x, .int .u32 y] [.c .bool] K h := by
  refine H_cmp_Less_u32 x y ?_
  unfold F_cmp_Less_u32
  refine isNaN_ok ?_
  exact condP_false.2 hk
end Go.Proofs
