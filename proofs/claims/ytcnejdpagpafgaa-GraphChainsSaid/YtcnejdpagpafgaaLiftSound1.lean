/-
  What the predicates of LiftDefs come to in the model: kinds, registers, the operations that only read or reckon.
-/
import Derived.Test.YtcnejdpagpafgaaLiftDefs
namespace Go.Lift
open Go

theorem hcell_eq (w : World) (a : Addr) : w.cell? a = hcell w.heap a := rfl
theorem hfrozen_eq (w : World) (a : Addr) : w.frozen? a = hfrozen w.heap a := rfl
theorem hset_eq (w : World) (a : Addr) (v : Value) : (w.setCell a v).heap = hset w.heap a v := rfl
theorem adr_zero (a : Addr) : adr a 0 = a := rfl
theorem adr_succ (a : Addr) (n : Nat) : adr a (n + 1) = ⟨a.block, a.off + (n + 1), none⟩ := rfl
theorem adr_eq (a : Addr) (n : Nat) : adr a n = a.add n := by
  cases n with
  | zero => simp [adr_zero, Addr.add]
  | succ n => simp [adr_succ, Addr.add]
theorem adr_adr (a : Addr) (m n : Nat) : adr (adr a m) n = adr a (m + n) := by
  cases n with
  | zero => rfl
  | succ n => cases m with
    | zero => simp [adr_zero]
    | succ m => rw [adr_succ, adr_succ, show m + 1 + (n + 1) = (m + 1 + n) + 1 from rfl, adr_succ]; simp; omega
theorem Tame.refl (w : World) : Tame w w := ⟨rfl, rfl, rfl⟩
theorem Tame.trans {a b c : World} (h : Tame a b) (k : Tame b c) : Tame a c := ⟨k.os.trans h.os, k.tape.trans h.tape, k.output.trans h.output⟩

/-! ### Kinds -/
theorem ikEq_iff {a b : IntKind} (h : ikEq a b = true) : a = b := by cases a <;> cases b <;> first | rfl | cases h
theorem CK.dec_sound {c : CK} {v : Value} {f : c.den → Prop} (h : c.dec v f) : ∃ x, v = c.enc x ∧ f x := by
  cases c <;> cases v <;> simp only [CK.dec] at h
  case int.int k k' n =>
    cases hk : ikEq k' k with
    | false => rw [hk] at h; exact h.elim
    | true => rw [hk] at h; have := ikEq_iff hk; subst this; exact ⟨n, rfl, h⟩
  all_goals first | exact h.elim | exact ⟨_, rfl, h⟩
theorem cDecs_sound : ∀ {cs : List CK} {vs : List Value} {f : CTup cs → Prop}, cDecs cs vs f → ∃ t, vs = cEncs cs t ∧ f t
  | [], [], f, h => ⟨(), rfl, h⟩
  | [], _ :: _, f, h => h.elim
  | [c], [v], f, h => by obtain ⟨x, rfl, hf⟩ := CK.dec_sound h; exact ⟨x, rfl, hf⟩
  | [c], [], f, h => h.elim
  | [c], _ :: _ :: _, f, h => h.elim
  | c :: d :: cs, [], f, h => h.elim
  | c :: d :: cs, [_], f, h => h.elim
  | c :: d :: cs, v :: u :: vs, f, h => by
    have h0 : c.dec v fun x => cDecs (d :: cs) (u :: vs) fun t => f (x, t) := h
    obtain ⟨x, hx, h1⟩ := CK.dec_sound h0
    obtain ⟨t, ht, h2⟩ := cDecs_sound (cs := d :: cs) (vs := u :: vs) h1
    exact ⟨(x, t), by rw [ht, hx]; rfl, h2⟩
theorem Kind.dec_sound {k : Kind} {v : Value} {f : k.den → Prop} (h : k.dec v f) : ∃ x, v = k.enc x ∧ f x := by
  cases k with
  | c k => exact CK.dec_sound h
  | agg cs =>
    cases v <;> simp only [Kind.dec] at h
    case agg vs =>
      obtain ⟨t, ht, hf⟩ := cDecs_sound h
      exact ⟨t, by simp only [Kind.enc, ← ht], hf⟩
theorem decs_sound : ∀ {ks : List Kind} {vs : List Value} {f : Tup ks → Prop}, decs ks vs f → ∃ t, vs = encs ks t ∧ f t
  | [], [], f, h => ⟨(), rfl, h⟩
  | [], _ :: _, f, h => h.elim
  | [c], [v], f, h => by obtain ⟨x, rfl, hf⟩ := Kind.dec_sound h; exact ⟨x, rfl, hf⟩
  | [c], [], f, h => h.elim
  | [c], _ :: _ :: _, f, h => h.elim
  | c :: d :: cs, [], f, h => h.elim
  | c :: d :: cs, [_], f, h => h.elim
  | c :: d :: cs, v :: u :: vs, f, h => by
    have h0 : c.dec v fun x => decs (d :: cs) (u :: vs) fun t => f (x, t) := h
    obtain ⟨x, hx, h1⟩ := Kind.dec_sound h0
    obtain ⟨t, ht, h2⟩ := decs_sound (ks := d :: cs) (vs := u :: vs) h1
    exact ⟨(x, t), by rw [ht, hx]; rfl, h2⟩
theorem encs_length : ∀ (ks : List Kind) (t : Tup ks), (encs ks t).length = ks.length
  | [], _ => rfl
  | [_], _ => rfl
  | _ :: l :: ks, (_, t) => by simp only [encs, List.length_cons, encs_length (l :: ks) t]
theorem cEncs_length : ∀ (ks : List CK) (t : CTup ks), (cEncs ks t).length = ks.length
  | [], _ => rfl
  | [_], _ => rfl
  | _ :: l :: ks, (_, t) => by simp only [cEncs, List.length_cons, cEncs_length (l :: ks) t]

/-! ### Registers -/
structure Agree (N : Nat) (r : Regs) (a : Act) : Prop where
  size : a.tmps.size = N
  look : ∀ t v, rlook r t = some v → a.tmps.getD t undef = v
theorem rlook_cons_eq (k : Nat) (v : Value) (r : Regs) : rlook ((k, v) :: r) k = some v := by rw [rlook_cons, show Nat.beq k k = true from Nat.beq_refl k]; rfl
theorem rlook_cons_ne {k t : Nat} (v : Value) (r : Regs) (h : k ≠ t) : rlook ((k, v) :: r) t = rlook r t := by
  rw [rlook_cons]; have : Nat.beq k t = false := Bool.eq_false_iff.2 fun e => h (Nat.eq_of_beq_eq_true e)
  rw [this]; rfl
theorem Agree.put {N : Nat} {r : Regs} {a : Act} (h : Agree N r a) (d : Nat) (v : Value) (hd : d < N) : Agree N ((d, v) :: r) (a.put (some d) v) := by
  refine ⟨by simp [Act.put, h.size], fun t u hu => ?_⟩
  by_cases e : d = t
  · subst e
    rw [rlook_cons_eq] at hu; cases hu
    simp [Act.put, h.size, hd]
  · rw [rlook_cons_ne v r e] at hu
    have := h.look t u hu
    simpa [Act.put, Array.getElem?_setIfInBounds_ne e] using this
/-- A test whose outcome has been learned. -/
theorem Agree.known {N : Nat} {r : Regs} {a : Act} (h : Agree N r a) {t : Nat} {v : Value} (hv : rlook r t = some v) : Agree N ((t, v) :: r) a := by
  refine ⟨h.size, fun s u hu => ?_⟩
  by_cases e : t = s
  · subst e; rw [rlook_cons_eq] at hu; cases hu; exact h.look t v hv
  · rw [rlook_cons_ne v r e] at hu; exact h.look s u hu
theorem reval_sound {N : Nat} {r : Regs} {a : Act} (h : Agree N r a) {o : Operand} {v : Value} (hv : reval r o = some v) : a.eval o = v := by
  cases o with
  | tmp t => exact h.look t v hv
  | const c => simp [reval] at hv; subst hv; rfl
  | global g => simp [reval] at hv; subst hv; rfl
  | func f => simp [reval] at hv; subst hv; rfl
theorem revals_sound {N : Nat} {r : Regs} {a : Act} (h : Agree N r a) : ∀ {os : List Operand} {vs : List Value}, revals r os = some vs → os.map a.eval = vs
  | [], vs, hv => by simp [revals] at hv; subst hv; rfl
  | o :: os, vs, hv => by
    simp only [revals] at hv
    cases ho : reval r o with
    | none => simp [ho] at hv
    | some v => cases hos : revals r os with
      | none => simp [ho, hos] at hv
      | some us => simp [ho, hos] at hv; subst hv; simp [reval_sound h ho, revals_sound h hos]

/-! ### What the tables give -/
theorem run_underlying {P : Program} {t : TypeId} {d : TypeDesc} (h : P.underlying t = some d) (w : World) : (underlying t).run P w = .ok d w := by
  simp only [underlying, program, bind, Sem.bind, Sem.run, h, pure]
theorem run_typeInfo {P : Program} {t : TypeId} {i : TypeInfo} (h : P.info? t = some i) (w : World) : (typeInfo t).run P w = .ok i w := by
  simp only [typeInfo, program, bind, Sem.bind, Sem.run, h, pure]


/-- A value that is worked out, then handed on. -/
theorem run_value {P : Program} {s : Sem Value} {v : Value} {w w' : World} (h : s.run P w = .ok v w') : (do pure (Next.value (← s)) : Sem Next).run P w = .ok (.value v) w' := by
  simp [h]
theorem run_skip {P : Program} {s : Sem Unit} {w w' : World} (h : s.run P w = .ok () w') : (do s; pure Next.skip : Sem Next).run P w = .ok .skip w' := by
  simp [h]
theorem run_loadCell {P : Program} {w : World} {a : Addr} {v : Value} (h : hcell w.heap a = some v) : (load a).run P w = .ok v w := by
  have h' : w.cell? a = some v := h
  simp [h']
theorem cellsAt_one {v : Value} {i : Nat} {a : Addr} {h : Heap} : cellsAt [v] i a h ↔ hcell h (adr a i) = some v := Iff.rfl
theorem cellsAt_cons {v : Value} {vs : List Value} {i : Nat} {a : Addr} {h : Heap} : cellsAt (v :: vs) i a h ↔ hcell h (adr a i) = some v ∧ cellsAt vs (i + 1) a h := by
  cases vs with
  | nil => simp [cellsAt]
  | cons u us => rfl
theorem run_loadCellsFrom {P : Program} {w : World} {a : Addr} : ∀ (vs : List Value) (i : Nat) (acc : Array Value), cellsAt vs i a w.heap →
    (loadCellsFrom a i vs.length acc).run P w = .ok (acc ++ vs.toArray) w
  | [], i, acc, _ => by simp [loadCellsFrom]
  | v :: vs, i, acc, h => by
    obtain ⟨h1, h2⟩ := cellsAt_cons.1 h
    rw [adr_eq] at h1
    have := run_loadCellsFrom (P := P) (w := w) (a := a) vs (i + 1) (acc.push v) h2
    simp only [List.length_cons, loadCellsFrom, Sem.run_bind, run_loadCell h1, Result.andThen_ok, this]
    simp
theorem run_loadCells {P : Program} {w : World} {a : Addr} {vs : List Value} (h : cellsAt vs 0 a w.heap) : (loadCells a vs.length).run P w = .ok vs.toArray w := by
  have := run_loadCellsFrom (P := P) (w := w) (a := a) vs 0 #[] h
  simpa [loadCells] using this
theorem exCells_sound : ∀ (cs : List CK) (i : Nat) (a : Addr) (h : Heap) (k : List Value → Prop), exCells cs i a h k → ∃ vs, vs.length = cs.length ∧ cellsAt vs i a h ∧ k vs
  | [], i, a, h, k, hk => ⟨[], rfl, trivial, hk⟩
  | c :: cs, i, a, h, k, hk => by
    obtain ⟨x, hx, hk⟩ := hk
    obtain ⟨vs, hl, hc, hk⟩ := exCells_sound cs (i + 1) a h _ hk
    exact ⟨c.enc x :: vs, by simp [hl], cellsAt_cons.2 ⟨hx, hc⟩, hk⟩
theorem cksOf_length : ∀ {vs : List Value} {cs : List CK}, cksOf vs = some cs → cs.length = vs.length
  | [], cs, h => by simp [cksOf] at h; subst h; rfl
  | v :: vs, cs, h => by
    simp only [cksOf] at h
    cases h1 : ckOf v with
    | none => simp [h1] at h
    | some c => cases h2 : cksOf vs with
      | none => simp [h1, h2] at h
      | some ds => simp [h1, h2] at h; subst h; simp [cksOf_length h2]
/-- What a type's kind says of the tables. -/
def KindFits (P : Program) (t : TypeId) (i : TypeInfo) : Kind → Prop
  | .c _ => aggT P t = false
  | .agg cs => aggT P t = true ∧ i.size = cs.length
theorem kindZ_some {P : Program} {t : TypeId} {k : Kind} (h : kindZ P t = some k) : ∃ i, P.info? t = some i ∧ KindFits P t i k := by
  unfold kindZ zeroT at h
  cases hi : P.info? t with
  | none => simp [hi] at h
  | some i =>
    refine ⟨i, rfl, ?_⟩
    cases hz : i.zero with
    | none => simp [hi, hz] at h
    | some z =>
      rw [hi] at h
      simp only [hz] at h
      cases z
      case agg vs =>
        simp only at h
        cases hb : (aggT P t && Nat.beq vs.toList.length (sizeT P t)) with
        | false => rw [hb] at h; simp at h
        | true =>
          rw [hb] at h
          simp only [cond_true] at h
          simp only [Bool.and_eq_true] at hb
          have hs := Nat.eq_of_beq_eq_true hb.2
          cases hd : cksOf vs.toList with
          | none => rw [hd] at h; simp at h
          | some ds =>
            rw [hd] at h
            simp only [Option.some.injEq] at h
            subst h
            exact ⟨hb.1, by rw [cksOf_length hd, hs]; simp [sizeT, hi]⟩
      all_goals
        simp only at h
        cases ha : aggT P t
        · rw [ha] at h
          simp only [cond_false] at h
          split at h
          · simp only [Option.some.injEq] at h; subst h; exact ha
          · simp at h
        · rw [ha] at h; simp at h
theorem kindT_some {P : Program} {t : TypeId} {k : Kind} (h : kindT P t = some k) : (∀ w, (isAgg t).run P w = .ok (aggT P t) w) ∧ kindZ P t = some k := by
  unfold kindT at h
  cases hu : P.underlying t with
  | none => simp [hu] at h
  | some d =>
    simp only [hu] at h
    refine ⟨fun w => ?_, h⟩
    simp only [isAgg, Sem.run_bind, run_underlying hu, Result.andThen_ok]
    unfold aggT; rw [hu]
    cases d <;> rfl
theorem rLoad_sound {P : Program} {t : TypeId} {v : Value} {K : RK} {h : Heap} (hl : rLoad P t v K h) :
    ∃ u S, K u (some S) ∧ S h ∧ ∀ w : World, S w.heap → (Instr.loadAt t v).run P w = .ok u w := by
  unfold rLoad at hl
  cases v with
  | pointer p =>
    cases p with
    | none => exact hl.elim
    | some a =>
      simp only at hl
      cases hk : kindT P t with
      | none => simp [hk] at hl
      | some k =>
        obtain ⟨hagg, hz⟩ := kindT_some hk
        obtain ⟨i, hi, hc⟩ := kindZ_some hz
        rw [hk] at hl
        cases k with
        | c c =>
          obtain ⟨x, hx, hK⟩ := hl
          refine ⟨_, _, hK, hx, fun w hw => ?_⟩
          have hc : aggT P t = false := hc
          simp only [Instr.loadAt, Instr.sureAddr, loadVar, Sem.run_bind, Sem.run_pure, Result.andThen_ok, hagg, hc]
          simp [run_loadCell hw]
        | agg cs =>
          obtain ⟨vs, hlen, hcs, hK⟩ := exCells_sound cs 0 a h _ hl
          obtain ⟨h1, h2⟩ : aggT P t = true ∧ i.size = cs.length := hc
          refine ⟨_, _, hK, hcs, fun w hw => ?_⟩
          have hz : (sizeOf t).run P w = .ok vs.length w := by simp [sizeOf, run_typeInfo hi, h2, hlen]
          simp only [Instr.loadAt, Instr.sureAddr, loadVar, Sem.run_bind, Sem.run_pure, Result.andThen_ok, hagg, h1]
          simp [hz, run_loadCells hw]
  | _ => exact hl.elim
end Go.Lift
