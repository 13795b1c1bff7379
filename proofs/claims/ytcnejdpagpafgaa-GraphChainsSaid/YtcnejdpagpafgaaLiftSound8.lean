/-
  From a function's body to its contract.
-/
import Derived.Test.YtcnejdpagpafgaaLiftSound7
namespace Go.Lift
open Go
variable {P : Program}
theorem resVals_sound {N : Nat} {r : Regs} {a : Act} {w : World} (ha : Agree N r a) : ∀ {l : List ResultVar} {K : List Value → Prop}, resVals P r w.heap l K →
    ∃ vs, (∀ g : ResultVar → Sem Value, (∀ t, g (.tmp t) = pure (a.tmps.getD t undef)) → (∀ x t, g (.cell x t) = do loadVar t (← asAddr (a.tmps.getD x undef))) → (l.mapM g).run P w = .ok vs w) ∧ K vs
  | [], K, h => ⟨[], fun g _ _ => by rw [List.mapM_nil]; rfl, h⟩
  | .tmp t :: l, K, h => by
    unfold resVals at h
    split at h
    · rename_i v hv
      obtain ⟨vs, hr, hk⟩ := resVals_sound ha h
      refine ⟨v :: vs, fun g g1 g2 => ?_, hk⟩
      rw [List.mapM_cons, g1]
      simp only [Sem.run_bind, Sem.run_pure, Result.andThen_ok]
      rw [hr g g1 g2]
      simp only [Result.andThen_ok, ha.look t v hv]
    · exact h.elim
  | .cell x t :: l, K, h => by
    unfold resVals at h
    split at h
    · rename_i v hv
      obtain ⟨u, S, hK, hS, hl⟩ := rLoad_sound h
      obtain ⟨vs, hr, hk⟩ := resVals_sound ha hK
      refine ⟨u :: vs, fun g g1 g2 => ?_, hk⟩
      rw [List.mapM_cons, g2]
      have h1 : (do loadVar t (← asAddr (a.tmps.getD x undef)) : Sem Value).run P w = .ok u w := by
        rw [ha.look x v hv]
        unfold rLoad at h
        cases v with
        | pointer p => cases p with
          | none => exact h.elim
          | some b => exact hl w hS
        | _ => exact h.elim
      simp only [Sem.run_bind] at h1 ⊢
      rw [h1]
      simp only [Result.andThen_ok]
      rw [hr g g1 g2]
      simp only [Sem.run_pure, Result.andThen_ok]
    · exact h.elim
theorem retV_size (ks : List Kind) (t : Tup ks) : (if h : (encs ks t).toArray.size = 1 then (encs ks t).toArray[0] else Value.tuple (encs ks t).toArray) = retV ks (encs ks t) := by
  match ks, t with
  | [], t => rfl
  | [k], t => rfl
  | k :: l :: ks, (x, t) =>
    have : (encs (k :: l :: ks) (x, t)).length = (k :: l :: ks).length := encs_length _ _
    rw [dif_neg (by simp only [List.size_toArray, this, List.length_cons]; omega)]
    rfl
theorem argRegs_look : ∀ (vs : List Value) (i t : Nat) (v : Value), rlook (argRegs i vs) t = some v → i ≤ t ∧ vs[t - i]? = some v
  | [], i, t, v, h => by cases h
  | u :: vs, i, t, v, h => by
    by_cases e : i = t
    · subst e
      rw [show argRegs i (u :: vs) = (i, u) :: argRegs (i + 1) vs from rfl, rlook_cons_eq] at h
      cases h
      exact ⟨Nat.le_refl _, by simp⟩
    · rw [show argRegs i (u :: vs) = (i, u) :: argRegs (i + 1) vs from rfl, rlook_cons_ne u _ e] at h
      obtain ⟨h1, h2⟩ := argRegs_look vs (i + 1) t v h
      refine ⟨by omega, ?_⟩
      rw [show t - i = (t - (i + 1)) + 1 by omega, List.getElem?_cons_succ]
      exact h2
/-- **The contract of a function from its body.** -/
theorem HE.intro (hmix : P.follows .mixedOrders = true) {f : FuncId} {fn : Func} {c : Code} {an : Ann} {args : List Value} {ks : List Kind} {K : Tup ks → Heap → Prop} {h : Heap}
    (hf : P.funcs[f]? = some fn) (hb : fn.body = some c) (hcall : ∀ (args : Array Value) (w : World), (callFunc f args).run P w = .ok (.enter f args) w) (hlen : args.length ≤ fn.ntmps)
    (hs : sBody P fn c an args ks K h) : HE P f args ks K h := by
  refine ⟨fun w hw => ⟨hcall, ?_⟩⟩
  subst hw
  refine (callsIn_wide (n := 0)).1 (callsIn_of_wp (F := FW none) hf hb trivial ?_ rfl)
  have ha : Agree fn.ntmps (argRegs 0 args) { tmps := args.toArray ++ Array.replicate (fn.ntmps - args.toArray.size) undef, defers := [] } := by
    refine ⟨by simp; omega, fun t v hv => ?_⟩
    obtain ⟨_, h2⟩ := argRegs_look args 0 t v hv
    simp only [Nat.sub_zero] at h2
    have hlt := (List.getElem?_eq_some_iff.1 h2).1
    simp [Array.getElem?_append, hlt]
    rw [List.getElem?_eq_getElem hlt] at h2
    cases h2; rfl
  have fin : ∀ r' a' (w' : World), Agree fn.ntmps r' a' → Fr (fun t => writes t c = true) { tmps := args.toArray ++ Array.replicate (fn.ntmps - args.toArray.size) undef, defers := [] } w a' w' →
      resVals P r' w'.heap fn.results.toList (fun vs => decs ks vs fun t => K t w'.heap) →
      a'.defers = [] ∧ ∃ v, (results fn a'.tmps).run P w' = .ok v w' ∧ (Tame w w' ∧ ∃ t : Tup ks, Ending.returned v = .returned (retV ks (encs ks t)) ∧ K t w'.heap) := fun r' a' w' ha' hf' hr => by
    obtain ⟨vs, hrun, hd⟩ := resVals_sound ha' hr
    obtain ⟨t, rfl, hK⟩ := decs_sound hd
    refine ⟨hf'.defers, _, ?_, hf'.tame, t, rfl, hK⟩
    unfold results
    rw [Array.mapM_eq_mapM_toList]
    simp only [Sem.run_bind, Sem.run_map]
    rw [hrun _ (fun _ => rfl) (fun _ _ => rfl)]
    simp only [Result.andThen_ok, Sem.run_pure]
    rw [← retV_size]
  exact sCode_sound hmix c an _ _ _ _ w _ hs ha (fun ch a w h => h.2.2.elim fun _ h => by cases h.1) fin (fun _ _ _ _ _ _ h => h.elim) fin
theorem HC.intro (hmix : P.follows .mixedOrders = true) {f : FuncId} {fn : Func} {c : Code} {an : Ann} {args : List Value} {ks : List Kind} {K : Tup ks → Heap → Prop} {h : Heap}
    (hf : P.funcs[f]? = some fn) (hb : fn.body = some c) (hcall : ∀ (args : Array Value) (w : World), (callFunc f args).run P w = .ok (.enter f args) w) (hlen : args.length ≤ fn.ntmps)
    (hs : sBody P fn c an args ks K h) : HC P f args ks K h := (HE.intro hmix hf hb hcall hlen hs).hc
theorem agree_args {N : Nat} {args : List Value} (hlen : args.length ≤ N) : Agree N (argRegs 0 args) { tmps := args.toArray ++ Array.replicate (N - args.toArray.size) undef, defers := [] } := by
  refine ⟨by simp; omega, fun t v hv => ?_⟩
  obtain ⟨_, h2⟩ := argRegs_look args 0 t v hv
  simp only [Nat.sub_zero] at h2
  have hlt := (List.getElem?_eq_some_iff.1 h2).1
  simp [Array.getElem?_append, hlt]
  rw [List.getElem?_eq_getElem hlt] at h2
  cases h2; rfl
theorem results_run {N : Nat} {fn : Func} {ks : List Kind} {K : Tup ks → Heap → Prop} {r' : Regs} {a' : Act} {w' : World} (ha' : Agree N r' a') (hr : resVals P r' w'.heap fn.results.toList (fun vs => decs ks vs fun t => K t w'.heap)) :
    ∃ t : Tup ks, (results fn a'.tmps).run P w' = .ok (retV ks (encs ks t)) w' ∧ K t w'.heap := by
  obtain ⟨vs, hrun, hd⟩ := resVals_sound ha' hr
  obtain ⟨t, rfl, hK⟩ := decs_sound hd
  refine ⟨t, ?_, hK⟩
  unfold results
  rw [Array.mapM_eq_mapM_toList]
  simp only [Sem.run_bind, Sem.run_map]
  rw [hrun _ (fun _ => rfl) (fun _ _ => rfl)]
  simp only [Result.andThen_ok, Sem.run_pure]
  rw [← retV_size]
end Go.Lift
