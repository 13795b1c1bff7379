/-
  Words in which the printed functions are said: append, a step of a range over a map, delete.
-/
import Derived.Test.YtcnejdpagpafgaaLiftSound9
namespace Go.Lift
open Go
def AppP (z : Option (List Value)) (sz bytes : Nat) (t : TypeId) (base : Option Addr) (sl sc xl : Nat) (xs : List Value) (h : Heap) (K : SliceV → Heap → Prop) : Prop :=
  (sl + xl ≤ sc → WrS h base (sl * sz) xs ∧ oneCell xs = true ∧ K ⟨base, sl + xl, sc⟩ (hsetS h base (sl * sz) xs)) ∧
  (sc < sl + xl → ∃ old z', SRow h base (sl * sz) old ∧ z = some z' ∧ 0 < bytes ∧ Builtin.nextslicecap (sl + xl) sc * bytes ≤ 2 ^ 48 ∧
    ∀ nc, sl + xl ≤ nc → K ⟨some (newA h), sl + xl, nc⟩ (hnew h (old ++ xs ++ zrow (nc - (sl + xl)) z') t))
def NextP (a : Addr) (h : Heap) (Kend : Prop) (Kstep : MapEntry → Heap → Prop) : Prop :=
  a.off = 0 ∧ ∃ m since seen last, h[a.block]? = some (.mapIter m since seen last) ∧
    ((m = none ∧ Kend) ∨
     (∃ r es clock, m = some r ∧ h[r]? = some (.map es clock) ∧ (seen.isEmpty = true ∨ es.isEmpty = true ∨ es.all (fun e => decide (e.born ≥ last)) = false) ∧
       ((∀ e ∈ es.toList, e.born < since → seen.contains e.born = true) → Kend) ∧
       (∀ e ∈ es.toList, seen.contains e.born = false → Kstep e (h.setIfInBounds a.block (.mapIter (some r) since (seen.push e.born) clock)))))
def DelP (c : CK) (m : Option Nat) (k : Value) (h : Heap) (K : Heap → Prop) : Prop :=
  (m = none ∧ K h) ∨ ∃ r : Nat, m = some r ∧ IsMap c h r ∧ K (mdrop h r k)
end Go.Lift
