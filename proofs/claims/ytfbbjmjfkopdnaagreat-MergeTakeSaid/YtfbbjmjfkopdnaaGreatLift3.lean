/- A part of the proof that the named laws of this program answer true, whatever the input. -/
import Derived.Test.YtfbbjmjfkopdnaaGreatLift2
/-
  Iterators and those who take from them.
-/
namespace Go.Lift
open Go
structure Takes {α : Type} (P : Program) (y : Value) (enc : α → List Value) (N : Nat) (J : List α → (Nat → Prop) → Heap → Prop) : Prop where
  lt : ∀ pre A h, J pre A h → ∀ b, A b → b < h.size
  keep : ∀ pre A h h' B, J pre A h → Upd B h h' → (∀ b, A b → ¬ B b) → J pre A h'
  step : ∀ pre A h x (K : Bool → Heap → Prop), J pre A h → pre.length < N → (∀ h' A', J (pre ++ [x]) A' h' → Upd A h h' → (∀ b, A' b → A b ∨ h.size ≤ b) → K true h') → HV P y (enc x) [.c .bool] K h
structure Gives {α : Type} (P : Program) (fv : Value) (enc : α → List Value) (N : Nat) (S : List α → Prop) (Q : Nat → Prop) (h : Heap) : Prop where
  lt : ∀ b, Q b → b < h.size
  run : ∃ f first cap, fv = .func (.func f) first cap ∧ ∀ (y : Value) (J : List α → (Nat → Prop) → Heap → Prop) (A M : Nat → Prop) (h1 : Heap) (K : Unit → Heap → Prop), Takes P y enc N J → J [] A h1 → Upd M h h1 → (∀ b, Q b → ¬ M b) → (∀ b, A b → ¬ Q b) →
    (∀ xs A' h', S xs → J xs A' h' → Upd A h1 h' → (∀ b, A' b → A b ∨ h1.size ≤ b) → K () h') → HE P f (first.toList ++ [y] ++ cap.toList) [] K h1
theorem Gives.upd {α : Type} {P : Program} {fv : Value} {enc : α → List Value} {N : Nat} {S : List α → Prop} {Q M : Nat → Prop} {h h' : Heap} (g : Gives P fv enc N S Q h) (k : Upd M h h') (hm : ∀ b, Q b → ¬ M b) : Gives P fv enc N S Q h' := by
  obtain ⟨f, first, cap, e, hr⟩ := g.run
  refine ⟨fun b hb => Nat.lt_of_lt_of_le (g.lt b hb) k.size, f, first, cap, e, fun y J A M' h1 K ht hj hu hq ha hk => ?_⟩
  exact hr y J A (fun b => M b ∨ M' b) h1 K ht hj ((k.mono fun b hb => .inl (.inl hb)).tr (hu.mono fun b hb => .inl (.inr hb))) (fun b hb h => h.elim (hm b hb) (hq b hb)) ha hk
end Go.Lift
