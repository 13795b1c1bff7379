/-
  Iterators and those who take from them.
-/
import Derived.Test.YtcnejdpagpafgaaLiftMap
namespace Go.Lift
open Go
/-- Who takes: what came so far, his blocks, the heap; he goes on each time. -/
structure Takes {α : Type} (P : Program) (y : Value) (enc : α → List Value) (N : Nat) (J : List α → (Nat → Prop) → Heap → Prop) : Prop where
  lt : ∀ pre A h, J pre A h → ∀ b, A b → b < h.size
  keep : ∀ pre A h h' B, J pre A h → Upd B h h' → (∀ b, A b → ¬ B b) → J pre A h'
  step : ∀ pre A h x (K : Bool → Heap → Prop), J pre A h → pre.length < N → (∀ h' A', J (pre ++ [x]) A' h' → Upd A h h' → (∀ b, A' b → A b ∨ h.size ≤ b) → K true h') → HV P y (enc x) [.c .bool] K h
/-- An iterator in a heap: which lists it may give (of N at most); it leans on some blocks. -/
structure Gives {α : Type} (P : Program) (fv : Value) (enc : α → List Value) (N : Nat) (S : List α → Prop) (Q : Nat → Prop) (h : Heap) : Prop where
  lt : ∀ b, Q b → b < h.size
  run : ∃ f first cap, fv = .func (.func f) first cap ∧ ∀ (y : Value) (J : List α → (Nat → Prop) → Heap → Prop) (A M : Nat → Prop) (h1 : Heap) (K : Unit → Heap → Prop), Takes P y enc N J → J [] A h1 → Upd M h h1 → (∀ b, Q b → ¬ M b) → (∀ b, A b → ¬ Q b) →
    (∀ xs A' h', S xs → J xs A' h' → Upd A h1 h' → (∀ b, A' b → A b ∨ h1.size ≤ b) → K () h') → HE P f (first.toList ++ [y] ++ cap.toList) [] K h1
theorem Gives.upd {α : Type} {P : Program} {fv : Value} {enc : α → List Value} {N : Nat} {S : List α → Prop} {Q M : Nat → Prop} {h h' : Heap} (g : Gives P fv enc N S Q h) (k : Upd M h h') (hm : ∀ b, Q b → ¬ M b) : Gives P fv enc N S Q h' := by
  obtain ⟨f, first, cap, e, hr⟩ := g.run
  refine ⟨fun b hb => Nat.lt_of_lt_of_le (g.lt b hb) k.size, f, first, cap, e, fun y J A M' h1 K ht hj hu hq ha hk => ?_⟩
  exact hr y J A (fun b => M b ∨ M' b) h1 K ht hj ((k.mono fun b hb => .inl (.inl hb)).tr (hu.mono fun b hb => .inl (.inr hb))) (fun b hb h => h.elim (hm b hb) (hq b hb)) ha hk
theorem perm_adel {κ β : Type} [DecidableEq κ] {m : List (κ × β)} {k : κ} {v : β} (hn : (m.map (·.1)).Nodup) (hm : (k, v) ∈ m) : (m.map (·.1)).Perm (k :: (adel m k).map (·.1)) := by
  induction m with
  | nil => cases hm
  | cons p m ih =>
    obtain ⟨k', u⟩ := p
    simp only [List.map_cons, List.nodup_cons] at hn
    by_cases e : k' = k
    · subst e
      have : adel ((k', u) :: m) k' = m := by
        unfold adel
        rw [List.filter_cons]
        simp only [ne_eq, not_true_eq_false, decide_false, Bool.false_eq_true, if_false]
        rw [List.filter_eq_self]
        intro q hq
        simp only [decide_not, Bool.not_eq_eq_eq_not, Bool.not_true, decide_eq_false_iff_not]
        intro e2
        exact hn.1 (e2 ▸ List.mem_map.2 ⟨q, hq, rfl⟩)
      rw [this]; exact List.Perm.refl _
    · have hm' : (k, v) ∈ m := by
        rcases List.mem_cons.1 hm with h | h
        · cases h; exact absurd rfl e
        · exact h
      have : adel ((k', u) :: m) k = (k', u) :: adel m k := by
        unfold adel
        rw [List.filter_cons]
        simp [e]
      rw [this, List.map_cons, List.map_cons]
      exact ((ih hn.2 hm').cons k').trans (List.Perm.swap ..)
theorem LoopP.imp {T : Type} {F G : (T → Heap → Prop) → T → Heap → Prop} {t : T} {h : Heap} (l : LoopP G t h) (hi : ∀ I t h, G I t h → F I t h) : LoopP F t h := ⟨fun I hI => l.run I fun t h hg => hI t h (hi I t h hg)⟩
theorem NextP.imp {a : Addr} {h : Heap} {K K' : Prop} {S S' : MapEntry → Heap → Prop} (n : NextP a h K S) (hk : K → K') (hs : ∀ e h, S e h → S' e h) : NextP a h K' S' := by
  obtain ⟨h0, m, since, seen, last, hb, h1 | ⟨r, es, clock, h1, h2, h3, h4, h5⟩⟩ := n
  · exact ⟨h0, m, since, seen, last, hb, .inl ⟨h1.1, hk h1.2⟩⟩
  · exact ⟨h0, m, since, seen, last, hb, .inr ⟨r, es, clock, h1, h2, h3, fun x => hk (h4 x), fun e he x => hs _ _ (h5 e he x)⟩⟩
/-- The keys of a map, one by one, in whatever order. -/
theorem keys_gives {κ β : Type} [DecidableEq κ] {E : KeyE κ} {g : β → Value} {P : Program} {f : FuncId} {h : Heap} {r bx : Nat} {t : TypeId} {m : List (κ × β)} (hm : MapAt E g h r m) (hb : h[bx]? = some (.cells #[.map (some r)] t (0, 0)))
    (hF : ∀ (y : Value) (h1 : Heap) (K : Unit → Heap → Prop), h1[bx]? = some (.cells #[.map (some r)] t (0, 0)) →
      (∃ clock, (∃ es, h1[r]? = some (.map es clock)) ∧ ∀ h2, h2 = h1.push (.mapIter (some r) clock #[] clock) →
        LoopP (fun (I : Unit → Heap → Prop) (_ : Unit) h6 => NextP ⟨h1.size, 0, none⟩ h6 (K () h6) fun e h8 => ∃ x v, IterAt h8 h1.size e ∧ e.key = E.enc x ∧ e.val = g v ∧ HV P y [E.enc x] [.c .bool] (fun b h' => CondP (!b) (K () h') (I () h')) h8) () h2) →
      HE P f ([] ++ [y] ++ [.pointer (some ⟨bx, 0, none⟩)]) [] K h1) :
    Gives P (.func (.func f) #[] #[.pointer (some ⟨bx, 0, none⟩)]) (fun x => [E.enc x]) m.length (fun xs => xs.Perm (m.map (·.1))) (fun b => b = r ∨ b = bx) h := by
  refine ⟨fun b hb' => hb'.elim (fun e => e ▸ hm.lt) fun e => e ▸ get_lt hb, f, _, _, rfl, fun y J A M h1 K ht hj hu hq ha hk => ?_⟩
  have hm1 := hm.upd hu (hq r (.inl rfl))
  refine hF y h1 K (hu.get hb (hq bx (.inr rfl))) ?_
  obtain ⟨clock, hes, hi0⟩ := hm1.range
  refine ⟨clock, hes, fun h2 e => ?_⟩
  subst e
  have hrA : ¬ A r := fun e => ha r e (.inl rfl)
  have hr1 := hm1.lt
  refine LoopP.ghost (fun (gh : List κ × List (κ × β) × (Nat → Prop)) (_ : Unit) h' => IterSt E g h' h1.size r m gh.2.1 ∧ J gh.1 gh.2.2 h' ∧ Upd A h1 h' ∧ (∀ b, gh.2.2 b → A b ∨ h1.size < b) ∧ (gh.1 ++ gh.2.1.map (·.1)).Perm (m.map (·.1))) (fun gh => gh.2.1.length) ([], m, A)
    ⟨hi0, ht.keep _ _ _ _ (fun b => b = h1.size) hj (Upd.push _ _ _) (fun b hb e => absurd (ht.lt _ _ _ hj b hb) (by omega)), Upd.push _ _ _, fun b hb => .inl hb, List.Perm.refl _⟩ ?_
  rintro I ⟨pre, todo, A1⟩ ⟨⟩ h' ⟨hi, hj', hu', hA, hp⟩ hI
  simp only at hi hj' hA hp
  have hnd := hi.nodup
  have hiA : ¬ A1 h1.size := fun e => (hA _ e).elim (fun e => absurd (ht.lt _ _ _ hj _ e) (by omega)) fun e => by omega
  have hrA1 : ¬ A1 r := fun e => (hA _ e).elim hrA fun e => by omega
  have hs1 : h1.size < h'.size := by obtain ⟨_, _, _, _, _, _, _, hb, _⟩ := hi; exact get_lt hb
  refine NextP.at (M := (· = h1.size)) hi rfl (fun he => ?_) fun k v hkv e h2 ek ev hit hi2 hu2 => ⟨k, v, hit, ek, ev, ?_⟩
  · subst he
    rw [List.map_nil, List.append_nil] at hp
    exact hk pre A1 h' hp hj' hu' fun b hb => (hA b hb).imp id Nat.le_of_lt
  · have hj2 := ht.keep _ _ _ _ _ hj' hu2 (fun b hb e => hiA (e ▸ hb))
    have hs2 := hu2.size
    refine ht.step pre A1 h2 k _ hj2 ?_ fun h3 A3 hj3 hu3 hA3 => condP_false.2 ?_
    · have := hp.length_eq
      have : 0 < todo.length := List.length_pos_of_mem hkv
      simp only [List.length_append, List.length_map] at *
      omega
    · refine hI (pre ++ [k], adel todo k, A3) () h3 ⟨hi2.upd hu3 hiA hrA1, hj3, ?_, fun b hb => ?_, ?_⟩ (by
        simp only
        unfold adel
        exact List.length_filter_lt_length_iff_exists.2 ⟨_, hkv, by simp⟩)
      · exact (hu'.trans hu2 fun b hb => .inr (by omega)).trans hu3 fun b hb => (hA b hb).imp id Nat.le_of_lt
      · rcases hA3 b hb with h | h
        · exact hA b h
        · exact .inr (by omega)
      · simp only
        rw [List.append_assoc]
        exact ((List.Perm.append_left pre (perm_adel hnd hkv).symm)).trans hp
end Go.Lift
