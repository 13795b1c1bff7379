/- A part of the proof that the named laws of this program answer true, whatever the input. -/
import Derived.Test.YtjkhbpjhngfpaaaGreatLift2
/-
  Maps, as lists of their entries; ranges over them.
-/
namespace Go.Lift
open Go
/-- How keys stand in a map. -/
structure KeyE (κ : Type) where
  enc : κ → Value
  ck : CK
  den : ∀ x, ∃ d : ck.den, enc x = ck.enc d
  same : ∀ x y, sameKey (enc x) (enc y) = true ↔ x = y
def kInt (k : IntKind) : KeyE Int := ⟨fun x => .int k x, .int k, fun x => ⟨x, rfl⟩, fun x y => by simp [sameKey]⟩
section
variable {κ β : Type}
/-! ### Maps on the heap -/
/-- An entry: its key, its value, its number. -/
structure Ent (κ β : Type) where
  k : κ
  v : β
  n : Nat
variable (E : KeyE κ) (g : β → Value)
def mkE (x : Ent κ β) : MapEntry := { key := E.enc x.k, val := g x.v, born := x.n }
/-- A map's entries. -/
structure MapE (h : Heap) (r : Nat) (ms : List (Ent κ β)) (clock : Nat) : Prop where
  here : h[r]? = some (.map (ms.map (mkE E g)).toArray clock)
  keys : (ms.map (·.k)).Nodup
  nums : (ms.map (·.n)).Nodup
  old : ∀ x ∈ ms, x.n < clock
def plain (ms : List (Ent κ β)) : List (κ × β) := ms.map fun x => (x.k, x.v)
def MapAt (h : Heap) (r : Nat) (m : List (κ × β)) : Prop := ∃ ms clock, MapE E g h r ms clock ∧ plain ms = m
variable {E g}
theorem MapE.keysOf {h : Heap} {r : Nat} {ms : List (Ent κ β)} {clock : Nat} (_ : MapE E g h r ms clock) : keysOf E.ck (ms.map (mkE E g)).toArray.toList := by
  intro e he
  simp only [List.mem_map] at he
  obtain ⟨x, _, rfl⟩ := he
  exact E.den x.k
theorem MapAt.isMap {h : Heap} {r : Nat} {m : List (κ × β)} (hm : MapAt E g h r m) : IsMap E.ck h r := by
  obtain ⟨ms, clock, hm, _⟩ := hm
  exact ⟨_, _, hm.here, hm.keysOf⟩
theorem MapAt.len {h : Heap} {r : Nat} {m : List (κ × β)} (hm : MapAt E g h r m) : MapLen h (some r) m.length := by
  obtain ⟨ms, clock, hm, rfl⟩ := hm
  exact ⟨_, _, hm.here, by simp [plain]⟩
theorem MapAt.nodup {h : Heap} {r : Nat} {m : List (κ × β)} (hm : MapAt E g h r m) : (m.map (·.1)).Nodup := by
  obtain ⟨ms, clock, hm, rfl⟩ := hm
  have := hm.keys
  unfold plain
  rw [List.map_map]
  exact this
theorem MapAt.lt {h : Heap} {r : Nat} {m : List (κ × β)} (hm : MapAt E g h r m) : r < h.size := by
  obtain ⟨ms, clock, hm, _⟩ := hm
  exact get_lt hm.here
theorem MapAt.upd {h h' : Heap} {r : Nat} {m : List (κ × β)} {M : Nat → Prop} (hm : MapAt E g h r m) (k : Upd M h h') (hn : ¬ M r) : MapAt E g h' r m := by
  obtain ⟨ms, clock, hm, e⟩ := hm
  exact ⟨ms, clock, ⟨k.get hm.here hn, hm.keys, hm.nums, hm.old⟩, e⟩
theorem MapAt.new (h : Heap) : MapAt E g (h.push (.map #[] 0)) h.size [] :=
  ⟨[], 0, ⟨push_get h _, List.nodup_nil, List.nodup_nil, fun _ h => by cases h⟩, rfl⟩
variable [DecidableEq κ]
def alook : List (κ × β) → κ → Option β
  | [], _ => none
  | (k', v) :: l, k => if k = k' then some v else alook l k
def aput : List (κ × β) → κ → β → List (κ × β)
  | [], k, v => [(k, v)]
  | (k', u) :: l, k, v => if k = k' then (k, v) :: l else (k', u) :: aput l k v
def adel (l : List (κ × β)) (k : κ) : List (κ × β) := l.filter fun p => p.1 ≠ k
theorem alook_put (l : List (κ × β)) (k : κ) (v : β) (j : κ) : alook (aput l k v) j = if j = k then some v else alook l j := by
  induction l with
  | nil => simp [aput, alook]
  | cons p l ih =>
    obtain ⟨k', u⟩ := p
    simp only [aput]
    split
    · rename_i e; subst e; simp only [alook]; split <;> rfl
    · rename_i e
      simp only [alook, ih]
      by_cases h1 : j = k'
      · subst h1; simp [Ne.symm e]
      · simp [h1]
theorem alook_del (l : List (κ × β)) (k : κ) (j : κ) : alook (adel l k) j = if j = k then none else alook l j := by
  induction l with
  | nil => simp [adel, alook]
  | cons p l ih =>
    obtain ⟨k', u⟩ := p
    unfold adel at *
    rw [List.filter_cons]
    by_cases h1 : k' = k
    · subst h1
      simp only [ne_eq, not_true_eq_false, decide_false, Bool.false_eq_true, if_false, ih, alook]
      split <;> rfl
    · simp only [ne_eq, h1, not_false_eq_true, decide_true, if_true, alook, ih]
      by_cases h2 : j = k'
      · subst h2; simp [h1]
      · simp [h2]
theorem alook_mem {l : List (κ × β)} {k : κ} {v : β} (hn : (l.map (·.1)).Nodup) : alook l k = some v ↔ (k, v) ∈ l := by
  induction l with
  | nil => simp [alook]
  | cons p l ih =>
    obtain ⟨k', u⟩ := p
    simp only [List.map_cons, List.nodup_cons] at hn
    simp only [alook, List.mem_cons, Prod.mk.injEq]
    by_cases h1 : k = k'
    · subst h1
      simp only [if_true, Option.some.injEq, true_and]
      constructor
      · exact fun e => .inl e.symm
      · rintro (e | e)
        · exact e.symm
        · exact absurd (List.mem_map.2 ⟨_, e, rfl⟩) hn.1
    · simp [h1, ih hn.2]
theorem alook_none {l : List (κ × β)} {k : κ} : alook l k = none ↔ k ∉ l.map (·.1) := by
  induction l with
  | nil => simp [alook]
  | cons p l ih =>
    obtain ⟨k', u⟩ := p
    simp only [alook, List.map_cons, List.mem_cons, not_or]
    by_cases h1 : k = k'
    · simp [h1]
    · simp [h1, ih]
theorem aput_keys (l : List (κ × β)) (k : κ) (v : β) : (aput l k v).map (·.1) = if k ∈ l.map (·.1) then l.map (·.1) else l.map (·.1) ++ [k] := by
  induction l with
  | nil => simp [aput]
  | cons p l ih =>
    obtain ⟨k', u⟩ := p
    simp only [aput]
    by_cases h1 : k = k'
    · simp [h1]
    · simp only [h1, if_false, List.map_cons, ih, List.mem_cons, false_or]
      split <;> simp
theorem aput_nodup {l : List (κ × β)} {k : κ} {v : β} (h : (l.map (·.1)).Nodup) : ((aput l k v).map (·.1)).Nodup := by
  rw [aput_keys]
  split
  · exact h
  · rename_i hn
    rw [List.nodup_append]
    refine ⟨h, by simp, ?_⟩
    intro a ha b hb
    simp only [List.mem_singleton] at hb
    subst hb
    intro e; subst e; exact hn ha
theorem adel_nodup {l : List (κ × β)} {k : κ} (h : (l.map (·.1)).Nodup) : ((adel l k).map (·.1)).Nodup := h.sublist ((List.filter_sublist).map _)

theorem same_eq (x y : κ) : sameKey (E.enc x) (E.enc y) = decide (x = y) := by
  by_cases h : x = y
  · rw [decide_eq_true h]; exact (E.same x y).2 h
  · rw [decide_eq_false h]; exact Bool.eq_false_iff.2 fun e => h ((E.same x y).1 e)
theorem findE_at (k : κ) (ms : List (Ent κ β)) : findE (E.enc k) (ms.map (mkE E g)) = (alook (plain ms) k).map g := by
  induction ms with
  | nil => rfl
  | cons x ms ih =>
    simp only [List.map_cons, findE, mkE, plain, alook]
    rw [same_eq]
    by_cases h : k = x.k
    · simp [h]
    · simp only [h, decide_false, Bool.false_eq_true, if_false]; exact ih
theorem MapAt.get {h : Heap} {r : Nat} {m : List (κ × β)} (hm : MapAt E g h r m) (k : κ) (z : β) : MapGet E.ck (g z) h (some r) (E.enc k) (g ((alook m k).getD z)) (alook m k).isSome := by
  obtain ⟨ms, clock, hm, rfl⟩ := hm
  refine ⟨_, _, hm.here, hm.keysOf, ?_⟩
  rw [findE_at]
  cases alook (plain ms) k <;> exact ⟨rfl, rfl⟩
def eput (k : κ) (v : β) (clock : Nat) : List (Ent κ β) → List (Ent κ β) × Nat
  | [] => ([⟨k, v, clock⟩], clock + 1)
  | x :: l => if k = x.k then (⟨k, v, x.n⟩ :: l, clock) else (x :: (eput k v clock l).1, (eput k v clock l).2)
theorem putE_at (k : κ) (v : β) (clock : Nat) (ms : List (Ent κ β)) : putE (E.enc k) (g v) clock (ms.map (mkE E g)) = ((eput k v clock ms).1.map (mkE E g), (eput k v clock ms).2) := by
  induction ms with
  | nil => rfl
  | cons x ms ih =>
    simp only [List.map_cons, putE, eput]
    rw [ih, show (mkE E g x).key = E.enc x.k from rfl, same_eq]
    by_cases h : k = x.k
    · simp [h, mkE]
    · simp [h]
theorem eput_plain (k : κ) (v : β) (clock : Nat) (ms : List (Ent κ β)) : plain (eput k v clock ms).1 = aput (plain ms) k v := by
  induction ms with
  | nil => rfl
  | cons x ms ih =>
    simp only [eput, plain, List.map_cons, aput]
    by_cases h : k = x.k
    · simp [h]
    · simp only [h, if_false, List.map_cons, List.cons.injEq, true_and]; exact ih
theorem eput_n (k : κ) (v : β) (clock : Nat) (ms : List (Ent κ β)) : (eput k v clock ms).1.map (·.n) = (if k ∈ ms.map (·.k) then ms.map (·.n) else ms.map (·.n) ++ [clock]) ∧ (eput k v clock ms).2 = (if k ∈ ms.map (·.k) then clock else clock + 1) := by
  induction ms with
  | nil => exact ⟨rfl, rfl⟩
  | cons x ms ih =>
    simp only [eput]
    by_cases h : k = x.k
    · simp [h]
    · simp only [h, if_false, List.map_cons, ih.1, ih.2, List.mem_cons, false_or, and_true]
      split <;> simp
theorem mput_at {h : Heap} {r : Nat} {ms : List (Ent κ β)} {clock : Nat} (hm : MapE E g h r ms clock) (k : κ) (v : β) : mput h r (E.enc k) (g v) = h.setIfInBounds r (.map ((eput k v clock ms).1.map (mkE E g)).toArray (eput k v clock ms).2) := by
  unfold mput
  rw [hm.here]
  simp only
  rw [putE_at]
theorem MapE.put {h : Heap} {r : Nat} {ms : List (Ent κ β)} {clock : Nat} (hm : MapE E g h r ms clock) (k : κ) (v : β) : MapE E g (mput h r (E.enc k) (g v)) r (eput k v clock ms).1 (eput k v clock ms).2 := by
  rw [mput_at hm]
  have hp : (eput k v clock ms).1.map (·.k) = (plain (eput k v clock ms).1).map (·.1) := by unfold plain; rw [List.map_map]; rfl
  have hq : (plain ms).map (·.1) = ms.map (·.k) := by unfold plain; rw [List.map_map]; rfl
  have hn := eput_n k v clock ms
  have hlt : ∀ y ∈ ms.map (·.n), y < clock := fun y hy => by
    obtain ⟨x, hx, rfl⟩ := List.mem_map.1 hy
    exact hm.old x hx
  refine ⟨set_get hm.here, ?_, ?_, ?_⟩
  · rw [hp, eput_plain]; exact aput_nodup (by rw [hq]; exact hm.keys)
  · rw [hn.1]
    split
    · exact hm.nums
    · rw [List.nodup_append]
      refine ⟨hm.nums, by simp, ?_⟩
      intro a ha b hb
      simp only [List.mem_singleton] at hb
      have := hlt a ha
      omega
  · intro x hx
    have hx : x.n ∈ (eput k v clock ms).1.map (·.n) := List.mem_map.2 ⟨x, hx, rfl⟩
    rw [hn.1] at hx
    rw [hn.2]
    split
    · rename_i hk; rw [if_pos hk] at hx; exact hlt _ hx
    · rename_i hk
      rw [if_neg hk] at hx
      rcases List.mem_append.1 hx with h1 | h1
      · have := hlt _ h1; omega
      · simp only [List.mem_singleton] at h1; omega
theorem MapAt.put {h : Heap} {r : Nat} {m : List (κ × β)} (hm : MapAt E g h r m) (k : κ) (v : β) : MapAt E g (mput h r (E.enc k) (g v)) r (aput m k v) := by
  obtain ⟨ms, clock, hm, rfl⟩ := hm
  exact ⟨_, _, hm.put k v, eput_plain ..⟩
theorem upd_mput {M : Nat → Prop} (h : Heap) {r : Nat} (k v : Value) (hr : M r) : Upd M h (mput h r k v) := by
  unfold mput
  split
  · exact Upd.set h _ hr
  · exact Upd.refl _ _
theorem upd_mdrop {M : Nat → Prop} (h : Heap) {r : Nat} (k : Value) (hr : M r) : Upd M h (mdrop h r k) := by
  unfold mdrop
  split
  · exact Upd.set h _ hr
  · exact Upd.refl _ _
theorem dropE_at (k : κ) {ms : List (Ent κ β)} (hn : (ms.map (·.k)).Nodup) : dropE (E.enc k) (ms.map (mkE E g)) = (ms.filter fun x => x.k ≠ k).map (mkE E g) := by
  induction ms with
  | nil => rfl
  | cons x ms ih =>
    simp only [List.map_cons, List.nodup_cons] at hn
    simp only [List.map_cons, dropE, List.filter_cons]
    rw [show (mkE E g x).key = E.enc x.k from rfl, same_eq]
    by_cases h : k = x.k
    · subst h
      simp only [decide_true, if_true, ne_eq, not_true_eq_false, decide_false, Bool.false_eq_true, if_false]
      congr 1
      rw [List.filter_eq_self.2]
      intro y hy
      simp only [decide_not, Bool.not_eq_eq_eq_not, Bool.not_true, decide_eq_false_iff_not]
      intro e
      exact hn.1 (e ▸ List.mem_map.2 ⟨y, hy, rfl⟩)
    · simp only [h, decide_false, Bool.false_eq_true, if_false, ne_eq, Ne.symm h, not_false_eq_true, decide_true, if_true, List.map_cons]
      rw [ih hn.2]
theorem MapE.drop {h : Heap} {r : Nat} {ms : List (Ent κ β)} {clock : Nat} (hm : MapE E g h r ms clock) (k : κ) : MapE E g (mdrop h r (E.enc k)) r (ms.filter fun x => x.k ≠ k) clock := by
  have e : mdrop h r (E.enc k) = h.setIfInBounds r (.map ((ms.filter fun x => x.k ≠ k).map (mkE E g)).toArray clock) := by
    unfold mdrop
    rw [hm.here]
    simp only
    rw [dropE_at k hm.keys]
  rw [e]
  refine ⟨set_get hm.here, hm.keys.sublist ((List.filter_sublist).map _), hm.nums.sublist ((List.filter_sublist).map _), fun x hx => hm.old x ((List.mem_filter.1 hx).1)⟩
theorem plain_filter (k : κ) (ms : List (Ent κ β)) : plain (ms.filter fun x => x.k ≠ k) = adel (plain ms) k := by
  unfold plain adel
  rw [List.filter_map]
  rfl
theorem MapAt.del {h : Heap} {r : Nat} {m : List (κ × β)} (hm : MapAt E g h r m) (k : κ) : MapAt E g (mdrop h r (E.enc k)) r (adel m k) := by
  obtain ⟨ms, clock, hm, rfl⟩ := hm
  exact ⟨_, _, hm.drop k, plain_filter ..⟩
end
section
variable {κ β : Type} (E : KeyE κ) (g : β → Value)
/-! ### Ranges over maps -/
/-- A range stands in block i: of the map in block r, of which those of todo have not come. No key is put in that was not there as it began. -/
def IterSt (h : Heap) (i r : Nat) (m todo : List (κ × β)) : Prop :=
  ∃ ms clock since seen last, MapE E g h r ms clock ∧ plain ms = m ∧ h[i]? = some (.mapIter (some r) since seen last) ∧ todo = plain (ms.filter fun x => !seen.contains x.n) ∧ ∀ x ∈ ms, x.n < since ∧ x.n < last
variable {E g}
theorem IterSt.at {h : Heap} {i r : Nat} {m todo : List (κ × β)} (hi : IterSt E g h i r m todo) : MapAt E g h r m := by
  obtain ⟨ms, clock, since, seen, last, hm, hp, _⟩ := hi
  exact ⟨ms, clock, hm, hp⟩
theorem IterSt.upd {h h' : Heap} {i r : Nat} {m todo : List (κ × β)} {M : Nat → Prop} (hi : IterSt E g h i r m todo) (k : Upd M h h') (h1 : ¬ M i) (h2 : ¬ M r) : IterSt E g h' i r m todo := by
  obtain ⟨ms, clock, since, seen, last, hm, hp, hb, ht, ho⟩ := hi
  exact ⟨ms, clock, since, seen, last, ⟨k.get hm.here h2, hm.keys, hm.nums, hm.old⟩, hp, k.get hb h1, ht, ho⟩
theorem IterSt.ne {h : Heap} {i r : Nat} {m todo : List (κ × β)} (hi : IterSt E g h i r m todo) : i ≠ r := by
  obtain ⟨ms, clock, since, seen, last, hm, hp, hb, ht, ho⟩ := hi
  intro e; subst e; rw [hm.here] at hb; cases hb
theorem IterSt.nodup {h : Heap} {i r : Nat} {m todo : List (κ × β)} (hi : IterSt E g h i r m todo) : (todo.map (·.1)).Nodup := by
  obtain ⟨ms, clock, since, seen, last, hm, hp, hb, ht, ho⟩ := hi
  rw [ht]
  unfold plain
  rw [List.map_map]
  exact hm.keys.sublist ((List.filter_sublist).map _)
/-- A range begins. -/
theorem MapAt.range {h : Heap} {r : Nat} {m : List (κ × β)} (hm : MapAt E g h r m) : ∃ clock, (∃ es, h[r]? = some (.map es clock)) ∧ IterSt E g (h.push (.mapIter (some r) clock #[] clock)) h.size r m m := by
  obtain ⟨ms, clock, hm, hp⟩ := hm
  refine ⟨clock, ⟨_, hm.here⟩, ms, clock, clock, #[], clock, ⟨(Upd.push No h _).get0 hm.here, hm.keys, hm.nums, hm.old⟩, hp, push_get h _, ?_, fun x hx => ⟨hm.old x hx, hm.old x hx⟩⟩
  rw [show (fun x : Ent κ β => !(#[] : Array Nat).contains x.n) = fun _ => true from funext fun x => by simp, List.filter_eq_self.2 fun _ _ => rfl, hp]
theorem nodup_inj {α γ : Type} {f : α → γ} : ∀ {l : List α}, (l.map f).Nodup → ∀ {x y : α}, x ∈ l → y ∈ l → f x = f y → x = y
  | [], _, x, y, h, _, _ => by cases h
  | z :: l, hn, x, y, hx, hy, e => by
    simp only [List.map_cons, List.nodup_cons] at hn
    rcases List.mem_cons.1 hx with h1 | h1 <;> rcases List.mem_cons.1 hy with h2 | h2
    · rw [h1, h2]
    · exact absurd (List.mem_map.2 ⟨y, h2, by rw [← e, h1]⟩) hn.1
    · exact absurd (List.mem_map.2 ⟨x, h1, by rw [e, h2]⟩) hn.1
    · exact nodup_inj hn.2 h1 h2 e
theorem find_num {ms : List (Ent κ β)} (hn : (ms.map (·.n)).Nodup) {x : Ent κ β} (hx : x ∈ ms) : (ms.map (mkE E g)).find? (fun e => e.born == x.n) = some (mkE E g x) := by
  induction ms with
  | nil => cases hx
  | cons y ms ih =>
    simp only [List.map_cons, List.nodup_cons] at hn
    rw [List.map_cons, List.find?_cons]
    rcases List.mem_cons.1 hx with rfl | hx
    · simp [mkE]
    · have : (mkE E g y).born ≠ x.n := fun e => hn.1 (List.mem_map.2 ⟨x, hx, e.symm⟩)
      have hb : ((mkE E g y).born == x.n) = false := by simpa using this
      rw [hb]
      exact ih hn.2 hx
variable [DecidableEq κ]
/-- **A step of a range over a map.** -/
theorem NextP.at {M : Nat → Prop} {h : Heap} {i r : Nat} {m todo : List (κ × β)} {Kend : Prop} {Kstep : MapEntry → Heap → Prop} (hi : IterSt E g h i r m todo) (hM : M i)
    (hend : todo = [] → Kend)
    (hstep : ∀ k v, (k, v) ∈ todo → ∀ (e : MapEntry) h', e.key = E.enc k → e.val = g v → IterAt h' i e → IterSt E g h' i r m (adel todo k) → Upd M h h' → Kstep e h') : NextP ⟨i, 0, none⟩ h Kend Kstep := by
  have hne := hi.ne
  obtain ⟨ms, clock, since, seen, last, hm, hp, hb, ht, ho⟩ := hi
  refine ⟨rfl, _, since, seen, last, hb, .inr ⟨r, _, clock, rfl, hm.here, ?_, fun hall => ?_, fun e he hs => ?_⟩⟩
  · by_cases hz : ms = []
    · right; left; subst hz; rfl
    · right; right
      obtain ⟨x, l, hx⟩ := List.exists_cons_of_ne_nil hz
      rw [Bool.eq_false_iff]
      intro hall
      rw [Array.all_eq_true'] at hall
      have hx : x ∈ ms := by rw [hx]; exact List.mem_cons_self ..
      have := hall (mkE E g x) (by simp only [List.mem_toArray, List.mem_map]; exact ⟨x, hx, rfl⟩)
      have h2 := (ho x hx).2
      simp [mkE] at this
      omega
  · refine hend ?_
    rw [ht]
    unfold plain
    rw [List.map_eq_nil_iff, List.filter_eq_nil_iff]
    intro x hx
    have := hall (mkE E g x) (by simp only [List.mem_map]; exact ⟨x, hx, rfl⟩) (ho x hx).1
    have e : (mkE E g x).born = x.n := rfl
    rw [e] at this
    rw [this]
    exact Bool.false_ne_true
  · simp only [List.mem_map] at he
    obtain ⟨x, hx, rfl⟩ := he
    have hs : seen.contains x.n = false := hs
    have hgo := set_get (o := .mapIter (some r) since (seen.push x.n) clock) hb
    have hmr : (h.setIfInBounds i (.mapIter (some r) since (seen.push x.n) clock))[r]? = some (.map (ms.map (mkE E g)).toArray clock) := by
      rw [Array.getElem?_setIfInBounds]; simp only [hne, if_false]; exact hm.here
    refine hstep x.k x.v ?_ _ _ rfl rfl ?_ ?_ (Upd.set h _ hM)
    · rw [ht]
      exact List.mem_map.2 ⟨x, List.mem_filter.2 ⟨hx, by rw [hs]; rfl⟩, rfl⟩
    · refine ⟨r, since, _, clock, x.n, _, hgo, by simp, hmr, ?_⟩
      rw [← Array.find?_toList]
      exact find_num hm.nums hx
    · refine ⟨ms, clock, since, _, clock, ⟨hmr, hm.keys, hm.nums, hm.old⟩, hp, hgo, ?_, fun y hy => ⟨(ho y hy).1, hm.old y hy⟩⟩
      rw [ht, ← plain_filter, List.filter_filter]
      congr 1
      apply List.filter_congr
      intro y hy
      have hyx : y.n = x.n ↔ y.k = x.k := ⟨fun e => congrArg _ (nodup_inj hm.nums hy hx e), fun e => congrArg _ (nodup_inj hm.keys hy hx e)⟩
      simp only [Array.contains_push, ne_eq, decide_not, Bool.not_or]
      by_cases hk : y.k = x.k
      · have := hyx.2 hk; simp [hk, this]
      · have : ¬ y.n = x.n := fun e => hk (hyx.1 e)
        simp [hk, this]
/-- The key that has come is taken out while the range goes on. -/
theorem IterSt.del {h : Heap} {i r : Nat} {m todo : List (κ × β)} (hi : IterSt E g h i r m todo) (k : κ) : IterSt E g (mdrop h r (E.enc k)) i r (adel m k) (adel todo k) := by
  have hne := hi.ne
  obtain ⟨ms, clock, since, seen, last, hm, hp, hb, ht, ho⟩ := hi
  refine ⟨_, clock, since, seen, last, hm.drop k, by rw [plain_filter, hp], (upd_mdrop (M := (· = r)) h (E.enc k) rfl).get hb hne, ?_, fun x hx => ho x (List.mem_filter.1 hx).1⟩
  rw [ht, ← plain_filter, List.filter_filter, List.filter_filter]
  congr 1
  apply List.filter_congr
  intro y _
  exact Bool.and_comm ..
end
end Go.Lift
/-
  Copies within blocks that are known whole; append, insert, delete, clone of slices of one's own.
-/
namespace Go.Lift
open Go
theorem at_intro {h : Heap} {k : Heap → Prop} (hk : k h) : At h k := hk
theorem sub_at {b o l m sz : Nat} (h : m ≠ l) : subAddr (some ⟨b, o, none⟩) l m sz = some ⟨b, o + l * sz, none⟩ := by simp [subAddr, h, adr_mk]
theorem sub_zero {b m sz : Nat} : subAddr (some ⟨b, 0, none⟩) 0 m sz = some ⟨b, 0, none⟩ := by
  unfold subAddr; split
  · rfl
  · simp [adr_mk]
theorem copy_blk {h : Heap} {b : Nat} {c : List Value} {t : TypeId} {o n : Nat} {vs : List Value} {src : Option Addr} {k : Heap → Prop} (hs : SRow h src n vs) (h1 : oneCell vs = true) (hb : h[b]? = some (.cells c.toArray t (0, 0)))
    (hl : o + n ≤ c.length) (hk : ∀ h', h'[b]? = some (.cells (c.take o ++ vs ++ c.drop (o + n)).toArray t (0, 0)) → Upd (· = b) h h' → k h') :
    ∃ xs, SRow h src n xs ∧ WrS h (some ⟨b, o, none⟩) 0 xs ∧ oneCell xs = true ∧ At (hsetS h (some ⟨b, o, none⟩) 0 xs) k := by
  have hn := hs.1
  refine ⟨vs, hs, .inr ⟨_, rfl, fun j hj => ?_⟩, h1, at_intro ?_⟩
  · rw [adr_mk]; exact wr_blk hb (by rw [List.size_toArray]; omega)
  · have e : hsetS h (some ⟨b, o, none⟩) 0 vs = _ := hsetL_blk vs h 0 o c hb (by omega)
    rw [e]
    refine hk _ ?_ (Upd.set h _ rfl)
    rw [set_get hb, Nat.add_zero, hn]
theorem row_of {h : Heap} {b : Nat} {c : List Value} {t : TypeId} {o n : Nat} {vs : List Value} (hb : h[b]? = some (.cells c.toArray t (0, 0))) (hl : vs.length = n) (he : (c.drop o).take n = vs) : SRow h (some ⟨b, o, none⟩) n vs := by
  refine ⟨hl, .inr ⟨_, rfl, row_blk hb fun i v hv => ?_⟩⟩
  rw [List.getElem?_toArray, ← List.getElem?_drop]
  have : ((c.drop o).take n)[i]? = some v := by rw [he]; exact hv
  rw [List.getElem?_take] at this
  split at this
  · exact this
  · cases this
section
variable {α : Type} {f : α → List Value} {sz : Nat}
/-- The cells of a list, cut. -/
theorem cut_len (hf : ∀ x, (f x).length = sz ∧ 0 < sz) (xs : List α) : (xs.flatMap f).length = xs.length * sz := flatMap_len (fun x => (hf x).1) xs
theorem cut_at (xs : List α) (k : Nat) : xs.flatMap f = (xs.take k).flatMap f ++ (xs.drop k).flatMap f := by rw [← List.flatMap_append, List.take_append_drop]
end
theorem ins_new {α : Type} {A X B Z1 Z2 : List α} {p q r : Nat} (hA : A.length = p) (hX : X.length = q) (hZ : Z1.length = r + q) :
    (((A ++ Z1 ++ Z2).take p ++ X ++ (A ++ Z1 ++ Z2).drop (p + q)).take (p + q)) ++ B ++ ((A ++ Z1 ++ Z2).take p ++ X ++ (A ++ Z1 ++ Z2).drop (p + q)).drop (p + q + r) = A ++ (X ++ B) ++ Z2 := by
  have e1 : (A ++ Z1 ++ Z2).take p = A := by rw [List.append_assoc, List.take_left' hA]
  have e2 : (A ++ Z1 ++ Z2).drop (p + q) = Z1.drop q ++ Z2 := by
    rw [List.append_assoc, ← List.drop_drop, List.drop_left' hA, List.drop_append_of_le_length (by omega)]
  have hAX : (A ++ X).length = p + q := by rw [List.length_append]; omega
  rw [e1, e2, List.take_left' hAX, ← List.drop_drop, List.drop_left' hAX, List.drop_append_of_le_length (by rw [List.length_drop]; omega), List.drop_drop, List.drop_eq_nil_of_le (by omega), List.nil_append]
  simp only [List.append_assoc]
theorem ins_in {α : Type} {A X B R : List α} {p q r : Nat} (hA : A.length = p) (hB : B.length = r) (hR : q ≤ R.length) :
    (((A ++ B ++ R).take (p + q) ++ B ++ (A ++ B ++ R).drop (p + q + r)).take p) ++ X ++ ((A ++ B ++ R).take (p + q) ++ B ++ (A ++ B ++ R).drop (p + q + r)).drop (p + q) = A ++ (X ++ B) ++ R.drop q := by
  have hl : ((A ++ B ++ R).take (p + q)).length = p + q := by rw [List.length_take, List.length_append, List.length_append]; omega
  have e3 : (A ++ B ++ R).drop (p + q + r) = R.drop q := by
    rw [show p + q + r = (p + r) + q by omega, ← List.drop_drop, List.drop_left' (by rw [List.length_append]; omega)]
  have e1 : ((A ++ B ++ R).take (p + q) ++ (B ++ (A ++ B ++ R).drop (p + q + r))).take p = A := by
    rw [List.take_append_of_le_length (by omega), List.take_take, Nat.min_eq_left (by omega), List.append_assoc, List.take_left' hA]
  rw [List.append_assoc ((A ++ B ++ R).take (p + q)), e1, List.drop_left' hl, e3]
  simp only [List.append_assoc]
theorem app_in {h : Heap} {b : Nat} {c : List Value} {t t' : TypeId} {sz bytes sl sc xl : Nat} {xs : List Value} {z : Option (List Value)} {K : SliceV → Heap → Prop} (hb : h[b]? = some (.cells c.toArray t (0, 0)))
    (hl : sl * sz + xs.length ≤ c.length) (hin : sl + xl ≤ sc) (h1 : oneCell xs = true) (hk : ∀ h', h'[b]? = some (.cells (c.take (sl * sz) ++ xs ++ c.drop (sl * sz + xs.length)).toArray t (0, 0)) → Upd (· = b) h h' → K ⟨some ⟨b, 0, none⟩, sl + xl, sc⟩ h') :
    AppP z sz bytes t' (some ⟨b, 0, none⟩) sl sc xl xs h K := by
  refine ⟨fun _ => ⟨.inr ⟨_, rfl, fun j hj => ?_⟩, h1, ?_⟩, fun h => by omega⟩
  · rw [adr_mk]; exact wr_blk hb (by rw [List.size_toArray]; omega)
  · have e : hsetS h (some ⟨b, 0, none⟩) (sl * sz) xs = _ := hsetL_blk xs h (sl * sz) 0 c hb (by omega)
    rw [e]
    refine hk _ ?_ (Upd.set h _ rfl)
    rw [set_get hb, Nat.zero_add]
theorem put_blk {h : Heap} {b : Nat} {c : List Value} {t : TypeId} {o : Nat} {vs : List Value} {k : Heap → Prop} (hb : h[b]? = some (.cells c.toArray t (0, 0)))
    (hl : o + vs.length ≤ c.length) (hk : ∀ h', h'[b]? = some (.cells (c.take o ++ vs ++ c.drop (o + vs.length)).toArray t (0, 0)) → Upd (· = b) h h' → k h') :
    WrS h (some ⟨b, o, none⟩) 0 vs ∧ At (hsetS h (some ⟨b, o, none⟩) 0 vs) k := by
  refine ⟨.inr ⟨_, rfl, fun j hj => ?_⟩, at_intro ?_⟩
  · rw [adr_mk]; exact wr_blk hb (by rw [List.size_toArray]; omega)
  · have e : hsetS h (some ⟨b, o, none⟩) 0 vs = _ := hsetL_blk vs h 0 o c hb (by omega)
    rw [e]
    refine hk _ ?_ (Upd.set h _ rfl)
    rw [set_get hb, Nat.add_zero]
end Go.Lift
