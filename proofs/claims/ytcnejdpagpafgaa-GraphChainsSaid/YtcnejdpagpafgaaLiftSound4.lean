/-
  Soundness of a region's operations in the order of its text, and in whatever order.
-/
import Derived.Test.YtcnejdpagpafgaaLiftSound3
namespace Go.Lift
open Go
variable {P : Program} {ro : Option Nat} {n : Nat}
/-- A fence that shuts nothing out, in a round or outside. -/
def FW (ro : Option Nat) : Fence := { fn := fun _ => True, depth := none, alive := false, round := ro }
theorem fenced_FW (m : Machine) : m.fenced P (FW ro) := by
  intro g _
  exact ⟨fun h => by simp [FW] at h, .inl trivial, fun _ _ => trivial, fun d h => by simp [FW] at h⟩
theorem stepsIn_FW {m m' : Machine} (h : Steps P m m') : StepsIn (Machine.fenced P (FW ro)) P m m' := (StepsIn.of_steps h).mono fun m _ => fenced_FW m
theorem callsIn_FW {k : Nat} {f : FuncId} {args : Array Value} {w : World} {R : Ending → World → Prop} (h : Calls P f args w R) : CallsIn (FW ro) k P f args w R := by
  refine ⟨trivial, fun cs _ => ?_⟩
  obtain ⟨e, w', fr, hR, hc, hfn, hl⟩ := h cs
  refine ⟨e, w', fr, hR, ?_, hfn, hl⟩
  cases e with
  | returned v => exact stepsIn_FW hc
  | panicked c => exact stepsIn_FW hc
  | outgrown => exact hc
theorem wpIn_of_out {o : Oper} {a : Act} {w : World} {K : WK} {next : Act → World → Prop} {Q : Exit → Act → World → Prop} (hd : ∀ c, o.op ≠ .defer c) (h : WOut P (execOp a.eval o) K w)
    (hk : ∀ v w', Tame w w' → K v w'.heap → next (a.put o.dst v) w') : o.wpIn (FW ro) n P a w next Q := by
  refine ⟨fun _ _ => trivial, ?_⟩
  rw [Oper.semAt_eq _ _ _ hd]
  rcases h with ⟨v, w', hr, ht, hK⟩ | ⟨w', hr, ht, hK⟩ | ⟨f, args, hr, hc⟩ | ⟨l, fn, tmps, assign, body, hr, hc⟩
  · rw [hr]; exact hk v w' ht hK
  · rw [hr]; exact hk undef w' ht hK
  · rw [hr]
    refine ⟨fun h => by simp [FW] at h, callsIn_FW (hc.mono ?_)⟩
    rintro e w' ⟨ht, v, rfl, hK⟩
    exact hk v w' ht hK
  · rw [hr]
    refine ⟨fun h => by simp [FW] at h, trivial, fun c cs _ => ?_⟩
    obtain ⟨b, w', ht, hK, hs⟩ := hc c cs
    exact ⟨.returned (.bool b), w', hk _ w' ht hK, stepsIn_FW hs⟩
/-- What the registers hold behind an operation. -/
theorem dstK_ok {N : Nat} {o : Oper} {v : Value} {r : Regs} {K : Regs → Prop} {a : Act} {d : Dec} {dv : DV} (h : dstK N o v r K) (ha : Agree N r a) (hd : DecOk d r) (hv : DVok dv v) :
    ∃ r', K r' ∧ Agree N r' (a.put o.dst v) ∧ DecOk (dPut d o dv) r' := by
  unfold dstK at h
  unfold dPut
  cases ho : o.dst with
  | none => rw [ho] at h; exact ⟨r, h, ha, hd⟩
  | some t =>
    rw [ho] at h
    simp only at h
    cases hb : Nat.blt t N with
    | false => rw [hb] at h; exact h.elim
    | true =>
      rw [hb] at h
      have hlt : t < N := by simpa using hb
      refine ⟨_, h, ha.put t v hlt, fun s => ?_⟩
      by_cases e : t = s
      · subst e
        have : dlook ((t, dv) :: d) t = dv := by simp [dlook]
        rw [this]
        exact .inr ⟨v, rlook_cons_eq t v r, hv⟩
      · have h1 : dlook ((t, dv) :: d) s = dlook d s := by
          have : Nat.beq t s = false := Bool.eq_false_iff.2 fun e' => e (Nat.eq_of_beq_eq_true e')
          show (bif Nat.beq t s then dv else dlook d s) = _
          rw [this]; rfl
        rw [h1, rlook_cons_ne v r e]
        exact hd s
theorem rOp_nodefer {ek : Option (Kind × Kind)} {o : Op} {r : Regs} {K : RK} {h : Heap} (hq : rOp P ek o r K h) : ∀ c, o ≠ .defer c := by
  intro c e; subst e; exact hq
theorem wOp_nodefer {o : Oper} {r : Regs} {K : WK} {h : Heap} (hq : wOp P o r K h) : ∀ c, o.op ≠ .defer c := by
  intro c e
  unfold wOp at hq
  rw [e] at hq
  exact hq
theorem dOf_x {d : Dec} {o : Op} (h : Quiet o = false) : dOf d o = .x := by
  cases o <;> first | rfl | (simp [Quiet] at h)
/-- One operation. -/
theorem sOp_sound {N : Nat} {ek : Option (Kind × Kind)} {o : Oper} {r : Regs} {K : Regs → Heap → Prop} {a : Act} {w : World} {d : Dec} {next : Act → World → Prop} {Q : Exit → Act → World → Prop}
    (hs : sOp P N ek o r K w.heap) (ha : Agree N r a) (hd : DecOk d r)
    (hk : ∀ v w' r', Tame w w' → K r' w'.heap → Agree N r' (a.put o.dst v) → DecOk (dPut d o (dOf d o.op)) r' → next (a.put o.dst v) w') : o.wpIn (FW ro) n P a w next Q := by
  unfold sOp at hs
  cases hq : Quiet o.op with
  | true =>
    rw [hq, cond_true] at hs
    obtain ⟨v, S, hK, hS, hdv, hr⟩ := rOp_sound ha hs d hd
    refine wpIn_of_out (K := fun u h' => u = v ∧ h' = w.heap) (rOp_nodefer hs) (.inl ⟨v, w, hr w hS, Tame.refl w, rfl, rfl⟩) ?_
    rintro u w' ht ⟨rfl, hh⟩
    obtain ⟨r', hr', ha', hd'⟩ := dstK_ok hK ha hd hdv
    exact hk u w' r' ht (by rw [hh]; exact hr') ha' hd'
  | false =>
    rw [hq, cond_false] at hs
    refine wpIn_of_out (wOp_nodefer hs) (wOp_sound ha hs) ?_
    intro v w' ht hK
    obtain ⟨r', hr', ha', hd'⟩ := dstK_ok hK ha hd (dv := dOf d o.op) (by rw [dOf_x hq]; trivial)
    exact hk v w' r' ht hr' ha' hd'
theorem getD_bool {t : Array Value} {i : Nat} {b : Bool} (h : t.getD i undef = .bool b) : t[i]? = some (.bool b) := by
  rw [Array.getD_eq_getD_getElem?] at h
  cases hc : t[i]? with
  | none => rw [hc] at h; simp [undef] at h
  | some v => rw [hc] at h; simp at h; rw [h]
theorem getD_undef {t : Array Value} {i : Nat} (h : t.getD i undef = undef) : t[i]? = none ∨ t[i]? = some undef := by
  rw [Array.getD_eq_getD_getElem?] at h
  cases hc : t[i]? with
  | none => exact .inl rfl
  | some v => rw [hc] at h; simp at h; rw [h]; exact .inr rfl
theorem wantedL_sound {N : Nat} {ops : Array Oper} {d : Dec} {o : Oper} {b : Bool} {r : Regs} {a : Act} (h : wantedL ops.toList d o = some b) (ha : Agree N r a) (hd : DecOk d r) :
    Region.wanted o (yielded ops a.tmps) = b := by
  unfold wantedL at h
  unfold Region.wanted
  cases hg : o.guard with
  | none => rw [hg] at h; simp only [Option.some.injEq] at h; exact h
  | some g =>
    obtain ⟨j, want⟩ := g
    rw [hg] at h
    simp only [Array.getElem?_toList] at h
    simp only
    cases hj : ops[j]? with
    | none => rw [hj] at h; cases h
    | some oj =>
      rw [hj] at h
      simp only at h
      cases ht : oj.dst with
      | none => rw [ht] at h; cases h
      | some t =>
        rw [ht] at h
        simp only at h
        have hy : yielded ops a.tmps j = (match a.tmps[t]? with | some (.bool b) => some b | _ => none) := by
          unfold yielded; simp [hj, ht]
          rfl
        rw [hy]
        rcases hd t with hx | ⟨v, hv, hk⟩
        · rw [hx] at h; cases h
        · have hav := ha.look t v hv
          cases hdl : dlook d t with
          | x => rw [hdl] at h; cases h
          | t =>
            rw [hdl] at h hk; simp only [Option.some.injEq] at h; subst h
            have : v = .bool true := hk
            subst this
            rw [getD_bool hav]; cases want <;> rfl
          | f =>
            rw [hdl] at h hk; simp only [Option.some.injEq] at h; subst h
            have : v = .bool false := hk
            subst this
            rw [getD_bool hav]; cases want <;> rfl
          | u =>
            rw [hdl] at h hk; simp only [Option.some.injEq] at h; subst h
            have : v = undef := hk
            subst this
            rcases getD_undef hav with e | e <;> rw [e] <;> cases want <;> rfl
/-- What is kept while some registers are written. -/
structure Fr (W : Nat → Prop) (a0 : Act) (w0 : World) (a : Act) (w : World) : Prop where
  tame : Tame w0 w
  defers : a.defers = a0.defers
  same : ∀ t, ¬ W t → a.tmps.getD t undef = a0.tmps.getD t undef
theorem Fr.refl (W : Nat → Prop) (a : Act) (w : World) : Fr W a w a w := ⟨Tame.refl w, rfl, fun _ _ => rfl⟩
theorem Fr.put {W : Nat → Prop} {a0 a : Act} {w0 w w' : World} (h : Fr W a0 w0 a w) {o : Oper} (hW : ∀ d, o.dst = some d → W d) (v : Value) (ht : Tame w w') : Fr W a0 w0 (a.put o.dst v) w' := by
  refine ⟨h.tame.trans ht, ?_, fun t hn => ?_⟩
  · cases ho : o.dst <;> simp [Act.put, h.defers]
  · cases ho : o.dst with
    | none => exact h.same t hn
    | some d =>
      have hne : d ≠ t := fun e => hn (e ▸ hW d ho)
      rw [← h.same t hn]
      simp [Act.put, Array.getElem?_setIfInBounds_ne hne]
theorem Fr.trans {W : Nat → Prop} {a0 a1 a2 : Act} {w0 w1 w2 : World} (h : Fr W a0 w0 a1 w1) (k : Fr W a1 w1 a2 w2) : Fr W a0 w0 a2 w2 :=
  ⟨h.tame.trans k.tame, k.defers.trans h.defers, fun t ht => (k.same t ht).trans (h.same t ht)⟩
theorem Fr.mono {W W' : Nat → Prop} {a0 a : Act} {w0 w : World} (h : Fr W a0 w0 a w) (hW : ∀ t, W t → W' t) : Fr W' a0 w0 a w :=
  ⟨h.tame, h.defers, fun t ht => h.same t fun e => ht (hW t e)⟩
theorem DecOk.known {d : Dec} {r : Regs} (h : DecOk d r) {t : Nat} {dv : DV} {v : Value} (hv : DVok dv v) : DecOk ((t, dv) :: d) ((t, v) :: r) := fun s => by
  by_cases e : t = s
  · subst e
    have : dlook ((t, dv) :: d) t = dv := by simp [dlook]
    rw [this]
    exact .inr ⟨v, rlook_cons_eq t v r, hv⟩
  · have h1 : dlook ((t, dv) :: d) s = dlook d s := by
      have : Nat.beq t s = false := Bool.eq_false_iff.2 fun e' => e (Nat.eq_of_beq_eq_true e')
      show (bif Nat.beq t s then dv else dlook d s) = _
      rw [this]; rfl
    rw [h1, rlook_cons_ne v r e]
    exact h s
/-- One operation of which it is known whether it is carried out, as the model has it. -/
theorem wpOp_known {N : Nat} {ek : Option (Kind × Kind)} {ops : Array Oper} {o : Oper} {i : Nat} {d : Dec} {r : Regs} {a : Act} {w : World} {b : Bool} {K : Dec → Regs → Heap → Prop} {next : Act → World → Prop} {Q : Exit → Act → World → Prop}
    (hi : ops[i]? = some o) (hw : wantedL ops.toList d o = some b) (ha : Agree N r a) (hd : DecOk d r)
    (hs : match b with
      | true => sOp P N ek o r (K (dPut d o (dOf d o.op))) w.heap
      | false => dstK N o undef r fun r' => K (dPut d o .u) r' w.heap)
    (hk : ∀ v w' d' r', Tame w w' → K d' r' w'.heap → Agree N r' (a.put o.dst v) → DecOk d' r' → next (a.put o.dst v) w') :
    wpOpIn (FW ro) n P ops Q i next a w := by
  unfold wpOpIn
  rw [hi]
  simp only [wantedL_sound hw ha hd]
  cases b with
  | true => exact sOp_sound hs ha hd fun v w' r' ht hK ha' hd' => hk v w' _ r' ht hK ha' hd'
  | false =>
    obtain ⟨r', hr', ha', hd'⟩ := dstK_ok (dv := .u) hs ha hd rfl
    exact ⟨fun _ _ => trivial, hk undef w _ r' (Tame.refl w) hr' ha' hd'⟩
theorem sOps_nil {N : Nat} {ek : Option (Kind × Kind)} {ops : List Oper} {d : Dec} {K : Regs → Heap → Prop} {r : Regs} {h : Heap} : sOps P N ek ops [] d K r h = K r h := rfl
theorem sOps_cons {N : Nat} {ek : Option (Kind × Kind)} {ops : List Oper} {o : Oper} {os : List Oper} {d : Dec} {K : Regs → Heap → Prop} {r : Regs} {h : Heap} : sOps P N ek ops (o :: os) d K r h =
    (match wantedL ops d o with
    | some true => sOp P N ek o r (fun r' h' => sOps P N ek ops os (dPut d o (dOf d o.op)) K r' h') h
    | some false => dstK N o undef r fun r' => sOps P N ek ops os (dPut d o .u) K r' h
    | none => match guardReg ops o with
      | none => False
      | some t => match rlook r t with
        | some (.bool b) => CondP b
            (sStep P N ek ops o ((t, .t) :: d) ((t, .bool true) :: r) h fun d' r' h' => sOps P N ek ops os d' K r' h')
            (sStep P N ek ops o ((t, .f) :: d) ((t, .bool false) :: r) h fun d' r' h' => sOps P N ek ops os d' K r' h')
        | _ => False) := rfl
theorem wpOp_step {N : Nat} {ek : Option (Kind × Kind)} {ops : Array Oper} {o : Oper} {i : Nat} {d : Dec} {r : Regs} {a : Act} {w : World} {K : Dec → Regs → Heap → Prop} {next : Act → World → Prop} {Q : Exit → Act → World → Prop}
    (hi : ops[i]? = some o) (ha : Agree N r a) (hd : DecOk d r) (hs : sStep P N ek ops.toList o d r w.heap K)
    (hk : ∀ v w' d' r', Tame w w' → K d' r' w'.heap → Agree N r' (a.put o.dst v) → DecOk d' r' → next (a.put o.dst v) w') :
    wpOpIn (FW ro) n P ops Q i next a w := by
  unfold sStep at hs
  cases hw : wantedL ops.toList d o with
  | none => rw [hw] at hs; exact hs.elim
  | some b => rw [hw] at hs; exact wpOp_known (ek := ek) hi hw ha hd (by cases b <;> exact hs) hk
/-- **The operations of a region, in the order of its text.** -/
theorem sOps_sound {N : Nat} {ek : Option (Kind × Kind)} {ops : Array Oper} {W : Nat → Prop} (hW : ∀ o ∈ ops.toList, ∀ d, o.dst = some d → W d) {a0 : Act} {w0 : World} {K : Regs → Heap → Prop} {Q : Exit → Act → World → Prop}
    (hQ : ∀ r a w, Agree N r a → Fr W a0 w0 a w → K r w.heap → Q .normal a w) :
    ∀ (l : List Oper) (i : Nat), ops.toList.drop i = l → ∀ (d : Dec) (r : Regs) (a : Act) (w : World), sOps P N ek ops.toList l d K r w.heap → Agree N r a → DecOk d r → Fr W a0 w0 a w →
      wpOpsIn (FW ro) n P ops Q (List.range' i l.length) a w
  | [], i, _, d, r, a, w, hs, ha, hd, hf => hQ r a w ha hf hs
  | o :: os, i, hdr, d, r, a, w, hs, ha, hd, hf => by
    have hi : ops[i]? = some o := by
      rw [← Array.getElem?_toList]
      have : (ops.toList.drop i)[0]? = some o := by rw [hdr]; rfl
      simpa using this
    have hmem : o ∈ ops.toList := List.mem_of_getElem? (by rw [Array.getElem?_toList]; exact hi)
    have hdr' : ops.toList.drop (i + 1) = os := by rw [← List.tail_drop, hdr]; rfl
    rw [List.length_cons, List.range'_succ, wpOpsIn_cons]
    rw [sOps_cons] at hs
    have go : ∀ v w' d' r', Tame w w' → sOps P N ek ops.toList os d' K r' w'.heap → Agree N r' (a.put o.dst v) → DecOk d' r' → wpOpsIn (FW ro) n P ops Q (List.range' (i + 1) os.length) (a.put o.dst v) w' :=
      fun v w' d' r' ht hK ha' hd' => sOps_sound hW hQ os (i + 1) hdr' d' r' _ w' hK ha' hd' (hf.put (hW o hmem) v ht)
    cases hw : wantedL ops.toList d o with
    | some b =>
      rw [hw] at hs
      exact wpOp_known (ek := ek) (K := fun d' r' h' => sOps P N ek ops.toList os d' K r' h') hi hw ha hd (by cases b <;> exact hs) go
    | none =>
      rw [hw] at hs
      simp only at hs
      split at hs
      · exact hs.elim
      · rename_i t ht
        split at hs
        · rename_i b hb
          cases b with
          | true => exact wpOp_step hi (ha.known hb) (hd.known (dv := .t) rfl) (hs.yes rfl) go
          | false => exact wpOp_step hi (ha.known hb) (hd.known (dv := .f) rfl) (hs.no rfl) go
        · exact hs.elim
end Go.Lift
