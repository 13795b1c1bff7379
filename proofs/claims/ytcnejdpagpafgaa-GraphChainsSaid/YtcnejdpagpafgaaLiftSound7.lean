/-
  Soundness of code: from sCode to the kit's walk; from a function's body to its contract.
-/
import Derived.Test.YtcnejdpagpafgaaLiftSound6
namespace Go.Lift
open Go
variable {P : Program} {ro : Option Nat} {n : Nat}
theorem keepR_mem {r : Regs} : ∀ {l : List Nat} {r0 : Regs}, keepR r l = some r0 → ∀ t v, rlook r0 t = some v → t ∈ l ∧ rlook r t = some v
  | [], r0, h, t, v, hv => by cases h; cases hv
  | s :: l, r0, h, t, v, hv => by
    have h : (match rlook r s, keepR r l with | some v, some l => some ((s, v) :: l) | _, _ => none) = some r0 := h
    split at h
    · rename_i u l' hu hl
      cases h
      by_cases e : s = t
      · subst e; rw [rlook_cons_eq] at hv; cases hv; exact ⟨List.mem_cons_self .., hu⟩
      · rw [rlook_cons_ne u _ e] at hv
        have := keepR_mem hl t v hv
        exact ⟨List.mem_cons_of_mem _ this.1, this.2⟩
    · cases h
theorem noneWritten_mem {c : Code} : ∀ {l : List Nat}, noneWritten c l = true → ∀ t ∈ l, ¬ writes t c = true
  | [], _, t, ht => by cases ht
  | s :: l, h, t, ht => by
    have h : (bif writes s c then false else noneWritten c l) = true := h
    cases hs : writes s c with
    | true => rw [hs] at h; cases h
    | false =>
      rw [hs] at h
      rcases List.mem_cons.1 ht with rfl | ht
      · rw [hs]; exact Bool.false_ne_true
      · exact noneWritten_mem h t ht
theorem Agree.size' {N : Nat} {r : Regs} {a : Act} (h : Agree N r a) : a.tmps.size = N := h.size
theorem Agree.keep {N : Nat} {r r0 r' : Regs} {a a' : Act} {w w' : World} {l : List Nat} {W : Nat → Prop} (h : Agree N r a) (hk : keepR r l = some r0) (hW : ∀ t ∈ l, ¬ W t) (hf : Fr W a w a' w') (h' : Agree N r' a') : Agree N r0 a' :=
  ⟨h'.size, fun t v hv => by
    obtain ⟨hm, hr⟩ := keepR_mem hk t v hv
    rw [hf.same t (hW t hm)]; exact h.look t v hr⟩
theorem stDec_sound {st : St} {r : Regs} {f : Tup (stKs st) → Prop} (h : stDec st r f) : ∃ t, stVals r st = some (encs (stKs st) t) ∧ f t := by
  unfold stDec at h
  split at h
  · rename_i vs hv
    obtain ⟨t, rfl, hf⟩ := decs_sound h
    exact ⟨t, hv, hf⟩
  · exact h.elim
theorem Agree.zip {N : Nat} {r : Regs} {a : Act} (h : Agree N r a) : ∀ {st : St} {vs : List Value} {r0 : Regs}, stVals r st = some vs → Agree N r0 a → Agree N (zipRegs st vs r0) a
  | [], vs, r0, _, h0 => by cases vs <;> exact h0
  | (i, k) :: st, vs, r0, hv, h0 => by
    unfold stVals at hv
    split at hv
    · rename_i v vs' h1 h2
      cases hv
      have := Agree.zip h h2 h0
      refine ⟨this.size, fun t u hu => ?_⟩
      by_cases e : i = t
      · subst e
        rw [show zipRegs ((i, k) :: st) (v :: vs') r0 = (i, v) :: zipRegs st vs' r0 from rfl, rlook_cons_eq] at hu; cases hu
        exact h.look i v h1
      · rw [show zipRegs ((i, k) :: st) (v :: vs') r0 = (i, v) :: zipRegs st vs' r0 from rfl, rlook_cons_ne v _ e] at hu
        exact this.look t u hu
    · cases hv
theorem writesOp_mem {t : Nat} : ∀ {l : List Oper} {o : Oper}, o ∈ l → o.dst = some t → writesOp t l = true
  | [], _, h, _ => by cases h
  | x :: l, o, h, hd => by
    have e : writesOp t (x :: l) = (match x.dst with | some d => bif Nat.beq d t then true else writesOp t l | none => writesOp t l) := rfl
    rw [e]
    rcases List.mem_cons.1 h with rfl | h
    · rw [hd]; simp only; rw [show Nat.beq t t = true from Nat.beq_refl t]; rfl
    · have := writesOp_mem h hd
      cases x.dst with
      | none => exact this
      | some d =>
        simp only
        cases Nat.beq d t with
        | true => rfl
        | false => exact this
/-- Behind a round of a loop. -/
def LWP (ro : Option Nat) (n : Nat) (P : Program) (c : Code) (Q : Exit → Act → World → Prop) (a : Act) (w : World) : Prop :=
  ∀ (b : Frame) (k : List Item) (cs : List Frame), b.roundOf = (FW ro).round → (FW ro).fn b.fn → (FW ro).room (cs.length + 1 + n) →
    ∃ e a' w', Q e a' w' ∧ ArrivesIn (Machine.fenced P (FW ro)) P (lone (b.atR a (.code c :: .inLoop c :: k)) cs w) b k cs e a' w'
theorem LWP.step {c : Code} {Q : Exit → Act → World → Prop} {a : Act} {w : World} (h : c.wpIn (FW ro) n P (Exit.then (LWP ro n P c Q) Q) a w) : LWP ro n P c Q a w := by
  intro b k cs hro hb hr
  obtain ⟨e, a₁, w₁, hq, harr⟩ := h b (.inLoop c :: k) cs hro hb hr
  cases e with
  | normal =>
    obtain ⟨e₂, a₂, w₂, hq₂, harr₂⟩ := hq b k cs hro hb hr
    exact ⟨e₂, a₂, w₂, hq₂, .of_steps (StepsIn.trans harr (.one (fenced_calm hb hr rfl) stepR_inLoop)) harr₂⟩
  | exit id => exact ⟨_, a₁, w₁, hq, .pass (x := .inLoop c) rfl (fun _ _ => .inl (by simp)) harr⟩
  | goto l => exact ⟨_, a₁, w₁, hq, .pass (x := .inLoop c) rfl (fun _ _ => .inl (by simp)) harr⟩
  | ret => exact ⟨_, a₁, w₁, hq, .pass (x := .inLoop c) rfl (fun _ _ => .inl (by simp)) harr⟩
  | panic ch => exact ⟨_, a₁, w₁, hq, .pass (x := .inLoop c) rfl (fun _ _ => .inl (by simp)) harr⟩
  | outgrown => exact ⟨_, a₁, w₁, hq, .pass (x := .inLoop c) rfl (fun _ _ => .inl (by simp)) harr⟩
theorem LWP.loop {c : Code} {Q : Exit → Act → World → Prop} {a : Act} {w : World} (h : LWP ro n P c Q a w) : (Code.loop c).wpIn (FW ro) n P Q a w := by
  intro b k cs hro hb hr
  obtain ⟨e, a', w', hq, harr⟩ := h b k cs hro hb hr
  exact ⟨e, a', w', hq, .of_steps (.one (fenced_calm hb hr rfl) stepR_loop) harr⟩
theorem decOk_nil (r : Regs) : DecOk [] r := fun _ => .inl rfl
theorem left_le (ops : Array Oper) (ls : Nat) : left ops ls ≤ ops.size := by
  unfold left
  exact Nat.le_trans (List.length_filter_le ..) (by simp)
/-- A region. -/
theorem sReg_sound (hmix : P.follows .mixedOrders = true) {N id : Nat} {ops : Array Oper} {dr : Bool} {an : Ann} {K : Regs → Heap → Prop} {r : Regs} {a : Act} {w : World} {Q : Exit → Act → World → Prop}
    (hs : sReg P N ops.toList dr an K r w.heap) (ha : Agree N r a) (hp : ∀ c a w, ¬ Q (.panic c) a w)
    (hn : ∀ r' a' w', Agree N r' a' → Fr (fun t => writesOp t ops.toList = true) a w a' w' → K r' w'.heap → Q .normal a' w') : (Code.region id ops dr).wpIn (FW ro) n P Q a w := by
  have hW : ∀ o ∈ ops.toList, ∀ d, o.dst = some d → writesOp d ops.toList = true := fun o ho d hd => writesOp_mem ho hd
  cases dr with
  | false =>
    have key : ∀ ek, sOps P N ek ops.toList ops.toList [] K r w.heap → (Code.region id ops false).wpIn (FW ro) n P Q a w := fun ek hs => by
      refine wpIn_region ?_
      rw [List.range_eq_range', show ops.size = ops.toList.length from rfl]
      exact sOps_sound hW hn ops.toList 0 rfl [] r a w hs ha (decOk_nil r) (Fr.refl _ a w)
    unfold sReg at hs
    simp only at hs
    split at hs
    · exact key _ hs
    · exact key _ hs
  | true =>
    unfold sReg at hs
    simp only at hs
    split at hs
    · rename_i ms da
      cases hm : masksOk ops.toList ms with
      | false => rw [hm] at hs; exact hs.elim
      | true =>
        rw [hm, cond_true] at hs
        refine wpIn_region_any hmix (wpG_any _ [] _ _ _ ?_)
        have ht : Tame w { w with drawn := w.drawn + 1 } := ⟨rfl, rfl, rfl⟩
        have hf : Fr (fun t => writesOp t ops.toList = true) a w a { w with drawn := w.drawn + 1 } := ⟨ht, rfl, fun _ _ => rfl⟩
        refine (sDraw_sound (masksOk_ok hm) hW hn (fun e a w => ?_) da false 0 [] [] r a { w with drawn := w.drawn + 1 } _ ops.size hs ha (decOk_nil r) hf LsRel.start (fun x hx => by cases hx)).1 rfl (left_le ops 0)
        cases e with
        | panic ch => exact .inr (hp _ a w)
        | _ => exact .inl fun c hc => by cases hc
    · exact hs.elim
theorem writes_seq (t : Nat) (x y : Code) : writes t (.seq x y) = (bif writes t x then true else writes t y) := rfl
theorem writes_cond (t : Nat) (c : Operand) (x y : Code) : writes t (.cond c x y) = (bif writes t x then true else writes t y) := rfl
theorem bif_or {a b : Bool} : (bif a then true else b) = true ↔ a = true ∨ b = true := by cases a <;> cases b <;> decide
/-- **Code.** -/
theorem sCode_sound (hmix : P.follows .mixedOrders = true) {N : Nat} (c : Code) : ∀ (an : Ann) (Kn : Regs → Heap → Prop) (Kx : Ex → Regs → Heap → Prop) (r : Regs) (a : Act) (w : World) (Q : Exit → Act → World → Prop),
    sCode P N c an Kn Kx r w.heap → Agree N r a → (∀ ch a w, ¬ Q (.panic ch) a w) →
    (∀ r' a' w', Agree N r' a' → Fr (fun t => writes t c = true) a w a' w' → Kn r' w'.heap → Q .normal a' w') →
    (∀ i r' a' w', Agree N r' a' → Fr (fun t => writes t c = true) a w a' w' → Kx (.exit i) r' w'.heap → Q (.exit i) a' w') →
    (∀ r' a' w', Agree N r' a' → Fr (fun t => writes t c = true) a w a' w' → Kx .ret r' w'.heap → Q .ret a' w') →
    c.wpIn (FW ro) n P Q a w := by
  induction c with
  | skip =>
    intro an Kn Kx r a w Q hs ha _ hn _ _
    exact wpIn_skip (hn r a w ha (Fr.refl ..) hs)
  | region id ops dr =>
    intro an Kn Kx r a w Q hs ha hp hn _ _
    cases an with
    | reg keep inner =>
      have hs : sReg P N ops.toList dr inner (fun r' h' => match keepR r' keep with | some r0 => Kn r0 h' | none => False) r w.heap := hs
      refine sReg_sound hmix hs ha hp fun r' a' w' ha' hf hk => ?_
      split at hk
      · rename_i r0 hr0
        refine hn r0 a' w' ⟨ha'.size, fun t v hv => ha'.look t v (keepR_mem hr0 t v hv).2⟩ hf hk
      · exact hk.elim
    | _ => exact hs.elim
  | seq x y ihx ihy =>
    intro an Kn Kx r a w Q hs ha hp hn hx hr
    have up1 : ∀ {a' w'}, Fr (fun t => writes t x = true) a w a' w' → Fr (fun t => writes t (.seq x y) = true) a w a' w' := fun h => h.mono fun t ht => by rw [writes_seq, bif_or]; exact .inl ht
    have up2 : ∀ {a' w' a'' w''}, Fr (fun t => writes t x = true) a w a' w' → Fr (fun t => writes t y = true) a' w' a'' w'' → Fr (fun t => writes t (.seq x y) = true) a w a'' w'' :=
      fun h k => (up1 h).trans (k.mono fun t ht => by rw [writes_seq, bif_or]; exact .inr ht)
    have plain : ∀ aa ab, sCode P N x aa (fun r' h' => sCode P N y ab Kn Kx r' h') Kx r w.heap → (Code.seq x y).wpIn (FW ro) n P Q a w := fun aa ab hs => by
      refine wpIn_seq (ihx aa _ Kx r a w _ hs ha (fun ch a w => hp ch a w) ?_ (fun i r' a' w' h1 h2 h3 => hx i r' a' w' h1 (up1 h2) h3) (fun r' a' w' h1 h2 h3 => hr r' a' w' h1 (up1 h2) h3))
      intro r1 a1 w1 ha1 hf1 hs1
      exact ihy ab Kn Kx r1 a1 w1 Q hs1 ha1 hp (fun r' a' w' h1 h2 h3 => hn r' a' w' h1 (up2 hf1 h2) h3) (fun i r' a' w' h1 h2 h3 => hx i r' a' w' h1 (up2 hf1 h2) h3) (fun r' a' w' h1 h2 h3 => hr r' a' w' h1 (up2 hf1 h2) h3)
    cases an with
    | join keep st aa ab =>
      have hs : (bif noneWritten x keep then
          (match keepR r keep with
           | none => False
           | some r0 => Join (T := Tup (stKs st)) (fun t h' => sCode P N y ab Kn Kx (zipRegs st (encs (stKs st) t) r0) h')
              fun J => sCode P N x aa (fun r' h' => stDec st r' fun t => J t h') Kx r w.heap)
        else False) := hs
      cases hnw : noneWritten x keep with
      | false => rw [hnw] at hs; exact hs.elim
      | true =>
        rw [hnw, cond_true] at hs
        split at hs
        · exact hs.elim
        · rename_i r0 hr0
          refine wpIn_seq (ihx aa _ Kx r a w _ hs.run ha (fun ch a w => hp ch a w) ?_ (fun i r' a' w' h1 h2 h3 => hx i r' a' w' h1 (up1 h2) h3) (fun r' a' w' h1 h2 h3 => hr r' a' w' h1 (up1 h2) h3))
          intro r1 a1 w1 ha1 hf1 hs1
          obtain ⟨t, hst, hs2⟩ := stDec_sound hs1
          have ha2 : Agree N (zipRegs st (encs (stKs st) t) r0) a1 := ha1.zip hst (ha.keep hr0 (noneWritten_mem hnw) hf1 ha1)
          exact ihy ab Kn Kx _ a1 w1 Q hs2 ha2 hp (fun r' a' w' h1 h2 h3 => hn r' a' w' h1 (up2 hf1 h2) h3) (fun i r' a' w' h1 h2 h3 => hx i r' a' w' h1 (up2 hf1 h2) h3) (fun r' a' w' h1 h2 h3 => hr r' a' w' h1 (up2 hf1 h2) h3)
    | _ => exact plain _ _ hs
  | cond c x y ihx ihy =>
    intro an Kn Kx r a w Q hs ha hp hn hx hr
    have hs : (match reval r c with
      | some (.bool t) => CondP t (sCode P N x an.l Kn Kx r w.heap) (sCode P N y an.r Kn Kx r w.heap)
      | _ => False) := hs
    have up1 : ∀ {a' w'}, Fr (fun t => writes t x = true) a w a' w' → Fr (fun t => writes t (.cond c x y) = true) a w a' w' := fun h => h.mono fun t ht => by rw [writes_cond, bif_or]; exact .inl ht
    have up2 : ∀ {a' w'}, Fr (fun t => writes t y = true) a w a' w' → Fr (fun t => writes t (.cond c x y) = true) a w a' w' := fun h => h.mono fun t ht => by rw [writes_cond, bif_or]; exact .inr ht
    split at hs
    · rename_i t ht
      refine wpIn_cond_split (reval_sound ha ht) (fun e => ?_) (fun e => ?_)
      · exact ihx _ Kn Kx r a w Q (hs.yes e) ha hp (fun r' a' w' h1 h2 h3 => hn r' a' w' h1 (up1 h2) h3) (fun i r' a' w' h1 h2 h3 => hx i r' a' w' h1 (up1 h2) h3) (fun r' a' w' h1 h2 h3 => hr r' a' w' h1 (up1 h2) h3)
      · exact ihy _ Kn Kx r a w Q (hs.no e) ha hp (fun r' a' w' h1 h2 h3 => hn r' a' w' h1 (up2 h2) h3) (fun i r' a' w' h1 h2 h3 => hx i r' a' w' h1 (up2 h2) h3) (fun r' a' w' h1 h2 h3 => hr r' a' w' h1 (up2 h2) h3)
    · exact hs.elim
  | block id b ih =>
    intro an Kn Kx r a w Q hs ha hp hn hx hr
    refine wpIn_block (ih an Kn _ r a w _ hs ha (fun ch a w => hp ch a w) hn (fun i r' a' w' h1 h2 h3 => ?_) hr)
    simp only [Exit.inBlock] at h3 ⊢
    cases hi : Nat.beq i id with
    | true =>
      rw [hi, cond_true] at h3
      rw [if_pos (Nat.eq_of_beq_eq_true hi)]
      exact hn r' a' w' h1 h2 h3
    | false =>
      rw [hi, cond_false] at h3
      rw [if_neg (fun e => by rw [e, Nat.beq_refl] at hi; cases hi)]
      exact hx i r' a' w' h1 h2 h3
  | loop b ih =>
    intro an Kn Kx r a w Q hs ha hp hn hx hr
    cases an with
    | loop keep st ab =>
      have hs : (bif noneWritten b keep then
          (match keepR r keep with
           | none => False
           | some r0 => stDec st r fun t0 => LoopP (T := Tup (stKs st)) (fun self t h' => sCode P N b ab (fun r' h'' => stDec st r' fun t' => self t' h'') Kx (zipRegs st (encs (stKs st) t) r0) h') t0 w.heap)
        else False) := hs
      cases hnw : noneWritten b keep with
      | false => rw [hnw] at hs; exact hs.elim
      | true =>
        rw [hnw, cond_true] at hs
        split at hs
        · exact hs.elim
        · rename_i r0 hr0
          obtain ⟨t0, hst0, hl⟩ := stDec_sound hs
          have h0 := hl.run (fun t h' => ∀ a' w', w'.heap = h' → Agree N (zipRegs st (encs (stKs st) t) r0) a' → Fr (fun t => writes t b = true) a w a' w' → LWP ro n P b Q a' w') (fun t h' hF a' w' hw ha' hf => by
            subst hw
            refine LWP.step (ih ab _ Kx _ a' w' _ hF ha' (fun ch a w => hp ch a w) ?_ (fun i r' a'' w'' h1 h2 h3 => hx i r' a'' w'' h1 (hf.trans h2) h3) (fun r' a'' w'' h1 h2 h3 => hr r' a'' w'' h1 (hf.trans h2) h3))
            intro r1 a1 w1 ha1 hf1 hs1
            obtain ⟨t1, hst1, hk1⟩ := stDec_sound hs1
            exact hk1 a1 w1 rfl (ha1.zip hst1 (ha.keep hr0 (noneWritten_mem hnw) (hf.trans hf1) ha1)) (hf.trans hf1))
          exact LWP.loop (h0 a w rfl (ha.zip hst0 (ha.keep hr0 (noneWritten_mem hnw) (Fr.refl _ a w) ha)) (Fr.refl _ a w))
    | _ => exact hs.elim
  | rangeFunc f params assign body _ _ => intro an Kn Kx r a w Q hs; exact hs.elim
  | exit id =>
    intro an Kn Kx r a w Q hs ha hp hn hx hr
    exact wpIn_exit (hx id r a w ha (Fr.refl ..) hs)
  | scope b _ => intro an Kn Kx r a w Q hs; exact hs.elim
  | label l =>
    intro an Kn Kx r a w Q hs ha hp hn hx hr
    exact wpIn_label (hn r a w ha (Fr.refl ..) hs)
  | goto l => intro an Kn Kx r a w Q hs; exact hs.elim
  | ret =>
    intro an Kn Kx r a w Q hs ha hp hn hx hr
    exact wpIn_ret (hr r a w ha (Fr.refl ..) hs)
  | refuse why => intro an Kn Kx r a w Q hs; exact hs.elim
end Go.Lift
