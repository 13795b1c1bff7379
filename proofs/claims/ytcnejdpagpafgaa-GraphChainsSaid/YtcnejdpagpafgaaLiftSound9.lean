/-
  Ranges over functions: soundness of code along whose spine there are some; a function's contract.
-/
import Derived.Test.YtcnejdpagpafgaaLiftSound8
namespace Go.Lift
open Go
variable {P : Program}
abbrev markOf (D : Nat) : Deferred := { target := .collected D, args := #[] }
theorem agree_zipP {N : Nat} : ∀ {ps : List Nat} {vs : List Value} {r : Regs} {tmps : Array Value}, natsLt N ps = true → Agree N r { tmps := tmps, defers := [] } →
    Agree N (zipP ps vs r) { tmps := (ps.zip vs).foldl (fun t x => t.setIfInBounds x.1 x.2) tmps, defers := [] }
  | [], vs, r, tmps, _, h => by cases vs <;> exact h
  | i :: ps, [], r, tmps, _, h => h
  | i :: ps, v :: vs, r, tmps, hl, h => by
    have hl : (Nat.blt i N && natsLt N ps) = true := hl
    rw [Bool.and_eq_true] at hl
    have hlt : i < N := by simpa using hl.1
    have := h.put i v hlt
    exact agree_zipP (tmps := tmps.setIfInBounds i v) hl.2 this
theorem tame_alloc (w : World) (o : Obj) : Tame w (w.alloc o) := ⟨rfl, rfl, rfl⟩
theorem tame_putObj (w : World) (b : Nat) (o : Obj) : Tame w (w.putObj b o) := ⟨rfl, rfl, rfl⟩
theorem putObj_heap (w : World) (b : Nat) (o : Obj) : (w.putObj b o).heap = w.heap.setIfInBounds b o := rfl
theorem zip_foldl (ps : Array Nat) (vs : List Value) (t : Array Value) : (ps.zip vs.toArray).foldl (fun t (x : Nat × Value) => t.setIfInBounds x.1 x.2) t = (ps.toList.zip vs).foldl (fun t x => t.setIfInBounds x.1 x.2) t := by
  obtain ⟨l⟩ := ps
  simp
/-- Entering, rounds, what follows. -/
theorem rangeFunc_sound (hmix : P.follows .mixedOrders = true) {n N : Nat} {g : Operand} {ps : Array Tmp} {assign body : Code} {aa ab : Ann} {ks : List Kind} {fv : Value} {r : Regs} {a : Act} {w : World} {Q : Exit → Act → World → Prop}
    {KN : Heap → Prop} {KX : Nat → Heap → Prop} {KR : Heap → Prop} (hps : natsLt N ps.toList = true) (hlen : ps.toList.length = ks.length) (hg : reval r g = some fv) (ha : Agree N r a)
    (hR : RangeP P fv ks w.heap (fun rdy bz x k h' => sRound P N ps.toList ks assign body (.node aa ab) r (w.heap.size + 1) rdy bz x k h') KN KX KR)
    (hn : ∀ w', Tame w w' → KN w'.heap → Q .normal { a with defers := markOf w.heap.size :: a.defers } w')
    (hx : ∀ i w', Tame w w' → KX i w'.heap → Q (.exit i) { a with defers := markOf w.heap.size :: a.defers } w')
    (hr : ∀ w', Tame w w' → KR w'.heap → Q .ret { a with defers := markOf w.heap.size :: a.defers } w') : (Code.rangeFunc g ps assign body).wpIn (FW none) n P Q a w := by
  refine wpIn_rangeFunc fun fn _ => ?_
  obtain ⟨lo, hlo⟩ : ∃ lo : LoopState → Option Ex → Obj, lo = fun s j => .loop { state := s, pending := exCode j, fn, tmps := a.tmps, params := ps, assign, body, defers := w.heap.size } := ⟨_, rfl⟩
  have hj : ∀ j : Option Ex, (exCode j).isNone = j.isNone := fun j => by rcases j with _ | ⟨_ | _⟩ <;> rfl
  obtain ⟨f, first, cap, rfl, he⟩ := hR.run lo (fun s j => ⟨_, by rw [hlo]⟩) (fun x h' K hrec hround => by
    refine ⟨.inr ⟨_, rfl, ⟨fun w1 hw1 => ?_⟩⟩⟩
    subst hw1
    rw [hlo] at hrec
    have hy := run_yield (P := P) (args := (encs ks x).toArray) hrec (by simp only [List.size_toArray, encs_length]; rw [← hlen]; rfl)
    refine ⟨_, _, _, _, hy, fun c cs => ?_⟩
    have hA : Agree N (zipP ps.toList (encs ks x) r) { tmps := (ps.zip (encs ks x).toArray).foldl (fun t (x : Nat × Value) => t.setIfInBounds x.1 x.2) a.tmps, defers := [] } := by
      rw [zip_foldl]
      exact agree_zipP hps ⟨ha.size, ha.look⟩
    have hfin : ∀ j : Option Ex, ∀ W : World, Tame w1 W → (W.heap[w.heap.size + 1]? = some (lo .busy none) ∧ K j.isNone (W.heap.setIfInBounds (w.heap.size + 1) (lo (if j.isNone then .ready else .done) j))) →
        ∃ v w', (Instr.endRound (w.heap.size + 1) (exCode j)).run P W = .ok v w' ∧ ∃ b, Ending.returned v = .returned (.bool b) ∧ Tame w1 w' ∧ K b w'.heap := by
      rintro j W ht ⟨h1, h2⟩
      rw [hlo] at h1
      have := run_endRound (P := P) (exCode j) h1
      refine ⟨_, _, this, _, rfl, ht.trans (tame_putObj ..), ?_⟩
      rw [hlo] at h2
      rw [hj]
      exact h2
    have := roundIn_of_wpIn (F := FW none) (n := 0) (P := P) (l := w.heap.size + 1) (f := fn) (assign := assign) (body := body) (w := w1)
      (tmps := (ps.zip (encs ks x).toArray).foldl (fun t (x : Nat × Value) => t.setIfInBounds x.1 x.2) a.tmps)
      (R := fun e w' => ∃ b, e = .returned (.bool b) ∧ Tame w1 w' ∧ K b w'.heap) trivial (by
        refine sCode_sound (ro := some (w.heap.size + 1)) hmix assign aa _ _ _ _ w1 _ hround hA (fun ch a w h => h) ?_ (fun i r' a' w' _ _ h => h.elim) (fun r' a' w' _ _ h => h.elim)
        rintro r2 a2 w2 ha2 hf2 ⟨hrec2, hbody⟩
        rw [hlo] at hrec2
        refine ⟨_, run_beginRound hrec2 rfl, ?_⟩
        have hb : ∀ o, o = lo .busy none → w2.heap.setIfInBounds (w.heap.size + 1) o = w2.heap.setIfInBounds (w.heap.size + 1) (lo .busy none) := fun o ho => by rw [ho]
        refine sCode_sound (ro := some (w.heap.size + 1)) hmix body ab (fun _ h2 => _) (fun e _ h2 => _) _ _ (w2.putObj (w.heap.size + 1) _) _ (by
          rw [putObj_heap, hb _ (by rw [hlo])]; exact hbody) ha2 (fun ch a w h => h) ?_ ?_ ?_
        · rintro r3 a3 w3 ha3 hf3 hk
          exact hfin none w3 ((hf2.tame.trans (tame_putObj ..)).trans hf3.tame) hk
        · rintro i r3 a3 w3 ha3 hf3 hk
          exact hfin (some (.exit i)) w3 ((hf2.tame.trans (tame_putObj ..)).trans hf3.tame) hk
        · rintro r3 a3 w3 ha3 hf3 hk
          exact hfin (some .ret) w3 ((hf2.tame.trans (tame_putObj ..)).trans hf3.tame) hk)
    obtain ⟨e, w', ⟨b, rfl, ht, hK⟩, hs⟩ := this.2 c cs (fun d h => by simp [FW] at h)
    exact ⟨b, w', ht, hK, hs.steps⟩)
  have hrun := he.run ((w.alloc (.deferred (some []))).alloc (lo .ready none)) rfl
  refine ⟨w.heap.size + 1, [markOf w.heap.size], (w.alloc (.deferred (some []))).alloc (lo .ready none), { target := .fn (.func f) cap, args := first ++ #[.func (.yield (w.heap.size + 1)) #[] #[]] }, (w.alloc (.deferred (some []))).alloc (lo .ready none), f,
    first ++ #[.func (.yield (w.heap.size + 1)) #[] #[]] ++ cap, (w.alloc (.deferred (some []))).alloc (lo .ready none), ?_, ?_, fun _ _ => trivial, ?_, fun h => by simp [FW] at h, ?_⟩
  · rw [hlo]; exact run_enterLoop_outer fn a.tmps ps assign body
  · have hev := reval_sound ha hg
    simp [resolve, hev, Deferred.ofValue, Sem.run_pure]
    rfl
  · simp [invoke, hrun.1]
  · refine callsIn_FW ?_
    have e : (first.toList ++ [Value.func (.yield (w.heap.size + 1)) #[] #[]] ++ cap.toList).toArray = first ++ #[.func (.yield (w.heap.size + 1)) #[] #[]] ++ cap := by apply Array.ext'; simp
    rw [← e]
    refine hrun.2.mono ?_
    rintro e w' ⟨ht, t, rfl, s, j, hs, hrec, hfin⟩
    have ht' : Tame w w' := ((tame_alloc w _).trans (tame_alloc _ _)).trans ht
    rw [hlo] at hrec
    refine ⟨_, _, run_endLoop hrec hs, ?_⟩
    have ht2 : ∀ o, Tame w (w'.putObj (w.heap.size + 1) o) := fun o => ht'.trans (tame_putObj ..)
    have hb : ∀ o, o = lo .exhausted j → (w'.putObj (w.heap.size + 1) o).heap = w'.heap.setIfInBounds (w.heap.size + 1) (lo .exhausted j) := fun o ho => by rw [ho]; rfl
    rcases j with _ | ⟨i | _⟩
    · exact hn _ (ht2 _) (by rw [hb _ (by rw [hlo])]; exact hfin)
    · exact wpIn_exit (hx i _ (ht2 _) (by rw [hb _ (by rw [hlo])]; exact hfin))
    · exact wpIn_ret (hr _ (ht2 _) (by rw [hb _ (by rw [hlo])]; exact hfin))
theorem sSpine_sound (hmix : P.follows .mixedOrders = true) {n N : Nat} (c : Code) : ∀ (an : Ann) (Kn : List Nat → Regs → Heap → Prop) (Kx : Ex → List Nat → Regs → Heap → Prop) (ms : List Nat) (r : Regs) (a : Act) (w : World) (Q : Exit → Act → World → Prop),
    sSpine P N c an Kn Kx ms r w.heap → Agree N r a → a.defers = ms.map markOf → (∀ ch a w, ¬ Q (.panic ch) a w) →
    (∀ ms' r' a' w', Agree N r' a' → a'.defers = ms'.map markOf → Tame w w' → Kn ms' r' w'.heap → Q .normal a' w') →
    (∀ i ms' r' a' w', Agree N r' a' → a'.defers = ms'.map markOf → Tame w w' → Kx (.exit i) ms' r' w'.heap → Q (.exit i) a' w') →
    (∀ ms' r' a' w', Agree N r' a' → a'.defers = ms'.map markOf → Tame w w' → Kx .ret ms' r' w'.heap → Q .ret a' w') →
    c.wpIn (FW none) n P Q a w := by
  have plain : ∀ (c : Code) (an : Ann) (Kn : List Nat → Regs → Heap → Prop) (Kx : Ex → List Nat → Regs → Heap → Prop) (ms : List Nat) (r : Regs) (a : Act) (w : World) (Q : Exit → Act → World → Prop),
    sCode P N c an (Kn ms) (fun e => Kx e ms) r w.heap → Agree N r a → a.defers = ms.map markOf → (∀ ch a w, ¬ Q (.panic ch) a w) →
    (∀ ms' r' a' w', Agree N r' a' → a'.defers = ms'.map markOf → Tame w w' → Kn ms' r' w'.heap → Q .normal a' w') →
    (∀ i ms' r' a' w', Agree N r' a' → a'.defers = ms'.map markOf → Tame w w' → Kx (.exit i) ms' r' w'.heap → Q (.exit i) a' w') →
    (∀ ms' r' a' w', Agree N r' a' → a'.defers = ms'.map markOf → Tame w w' → Kx .ret ms' r' w'.heap → Q .ret a' w') →
    c.wpIn (FW none) n P Q a w := by
    intro c an Kn Kx ms r a w Q hs ha hd hp hn hx hr
    exact sCode_sound hmix c an _ _ r a w Q hs ha hp (fun r' a' w' h1 h2 h3 => hn ms r' a' w' h1 (h2.defers.trans hd) h2.tame h3) (fun i r' a' w' h1 h2 h3 => hx i ms r' a' w' h1 (h2.defers.trans hd) h2.tame h3)
      (fun r' a' w' h1 h2 h3 => hr ms r' a' w' h1 (h2.defers.trans hd) h2.tame h3)
  induction c with
  | skip => intro an Kn Kx ms r a w Q hs; exact plain _ an Kn Kx ms r a w Q hs
  | region id ops dr => intro an Kn Kx ms r a w Q hs; exact plain _ an Kn Kx ms r a w Q hs
  | seq x y ihx ihy =>
    intro an Kn Kx ms r a w Q hs ha hd hp hn hx hr
    have hs : (bif (bif hasRF x then true else hasRF y) then sSpine P N x an.l (fun ms r' h' => sSpine P N y an.r Kn Kx ms r' h') Kx ms r w.heap
      else sCode P N (.seq x y) an (Kn ms) (fun e => Kx e ms) r w.heap) := hs
    cases hb : (bif hasRF x then true else hasRF y) with
    | false => rw [hb] at hs; exact plain _ _ _ _ _ _ _ _ _ hs ha hd hp hn hx hr
    | true =>
      rw [hb, cond_true] at hs
      refine wpIn_seq (ihx an.l _ Kx ms r a w _ hs ha hd (fun ch a w => hp ch a w) ?_ hx hr)
      intro ms1 r1 a1 w1 ha1 hd1 ht1 hs1
      exact ihy an.r Kn Kx ms1 r1 a1 w1 Q hs1 ha1 hd1 hp (fun ms' r' a' w' h1 h2 h3 h4 => hn ms' r' a' w' h1 h2 (ht1.trans h3) h4) (fun i ms' r' a' w' h1 h2 h3 h4 => hx i ms' r' a' w' h1 h2 (ht1.trans h3) h4)
        (fun ms' r' a' w' h1 h2 h3 h4 => hr ms' r' a' w' h1 h2 (ht1.trans h3) h4)
  | cond c x y ihx ihy =>
    intro an Kn Kx ms r a w Q hs ha hd hp hn hx hr
    have hs : (bif (bif hasRF x then true else hasRF y) then
        (match reval r c with
         | some (.bool t) => CondP t (sSpine P N x an.l Kn Kx ms r w.heap) (sSpine P N y an.r Kn Kx ms r w.heap)
         | _ => False)
      else sCode P N (.cond c x y) an (Kn ms) (fun e => Kx e ms) r w.heap) := hs
    cases hb : (bif hasRF x then true else hasRF y) with
    | false => rw [hb] at hs; exact plain _ _ _ _ _ _ _ _ _ hs ha hd hp hn hx hr
    | true =>
      rw [hb, cond_true] at hs
      split at hs
      · rename_i t ht
        exact wpIn_cond_split (reval_sound ha ht) (fun e => ihx _ Kn Kx ms r a w Q (hs.yes e) ha hd hp hn hx hr) (fun e => ihy _ Kn Kx ms r a w Q (hs.no e) ha hd hp hn hx hr)
      · exact hs.elim
  | block id b ih =>
    intro an Kn Kx ms r a w Q hs ha hd hp hn hx hr
    have hs : (bif hasRF b then sSpine P N b an Kn (fun e ms r' h' => match e with
        | .exit i => bif Nat.beq i id then Kn ms r' h' else Kx (.exit i) ms r' h'
        | .ret => Kx .ret ms r' h') ms r w.heap
      else sCode P N (.block id b) an (Kn ms) (fun e => Kx e ms) r w.heap) := hs
    cases hb : hasRF b with
    | false => rw [hb] at hs; exact plain _ _ _ _ _ _ _ _ _ hs ha hd hp hn hx hr
    | true =>
      rw [hb, cond_true] at hs
      refine wpIn_block (ih an Kn _ ms r a w _ hs ha hd (fun ch a w => hp ch a w) hn (fun i ms' r' a' w' h1 h2 h3 h4 => ?_) hr)
      simp only [Exit.inBlock] at h4 ⊢
      cases hi : Nat.beq i id with
      | true =>
        rw [hi, cond_true] at h4
        rw [if_pos (Nat.eq_of_beq_eq_true hi)]
        exact hn ms' r' a' w' h1 h2 h3 h4
      | false =>
        rw [hi, cond_false] at h4
        rw [if_neg (fun e => by rw [e, Nat.beq_refl] at hi; cases hi)]
        exact hx i ms' r' a' w' h1 h2 h3 h4
  | loop b ih => intro an Kn Kx ms r a w Q hs; exact plain _ an Kn Kx ms r a w Q hs
  | rangeFunc g ps assign body _ _ =>
    intro an Kn Kx ms r a w Q hs ha hd hp hn hx hr
    cases an with
    | rf ks aa ab =>
      have hs : (bif natsLt N ps.toList && Nat.beq ps.toList.length ks.length then
        (match reval r g with
         | some fv => RangeP P fv ks w.heap (fun rdy bz x k h' => sRound P N ps.toList ks assign body (.node aa ab) r (w.heap.size + 1) rdy bz x k h')
            (fun h' => Kn (w.heap.size :: ms) r h') (fun i h' => Kx (.exit i) (w.heap.size :: ms) r h') (fun h' => Kx .ret (w.heap.size :: ms) r h')
         | none => False) else False) := hs
      cases hb : (natsLt N ps.toList && Nat.beq ps.toList.length ks.length) with
      | false => rw [hb] at hs; exact hs.elim
      | true =>
        rw [hb, cond_true] at hs
        rw [Bool.and_eq_true] at hb
        split at hs
        · rename_i fv hfv
          have hA : Agree N r { a with defers := markOf w.heap.size :: a.defers } := ⟨ha.size, ha.look⟩
          have hD : ({ a with defers := markOf w.heap.size :: a.defers } : Act).defers = (w.heap.size :: ms).map markOf := by rw [List.map_cons, ← hd]
          exact rangeFunc_sound hmix hb.1 (Nat.eq_of_beq_eq_true hb.2) hfv ha hs (fun w' ht hk => hn _ r _ w' hA hD ht hk) (fun i w' ht hk => hx i _ r _ w' hA hD ht hk) (fun w' ht hk => hr _ r _ w' hA hD ht hk)
        · exact hs.elim
    | _ => exact hs.elim
  | exit id => intro an Kn Kx ms r a w Q hs; exact plain _ an Kn Kx ms r a w Q hs
  | scope b _ => intro an Kn Kx ms r a w Q hs; exact hs.elim
  | label l => intro an Kn Kx ms r a w Q hs; exact plain _ an Kn Kx ms r a w Q hs
  | goto l => intro an Kn Kx ms r a w Q hs; exact hs.elim
  | ret => intro an Kn Kx ms r a w Q hs; exact plain _ an Kn Kx ms r a w Q hs
  | refuse why => intro an Kn Kx ms r a w Q hs; exact hs.elim
theorem shut_sound {fn : Func} {ks : List Kind} {K : Tup ks → Heap → Prop} {N : Nat} {n : Nat} {r : Regs} {a : Act} {w0 : World} (ha : Agree N r a) : ∀ (ms : List Nat) (w : World), Tame w0 w →
    sShut ms (fun h' => resVals P r h' fn.results.toList fun vs => decs ks vs fun t => K t h') w.heap →
    LeavesInM (FW none) n P fn a.tmps (fun e w' => Tame w0 w' ∧ ∃ t : Tup ks, e = .returned (retV ks (encs ks t)) ∧ K t w'.heap) (ms.map markOf) .returning w
  | [], w, ht, h => by
    obtain ⟨t, hrun, hK⟩ := results_run ha h
    exact ⟨_, hrun, ht, t, rfl, hK⟩
  | D :: ms, w, ht, h => by
    refine ⟨by simp, .inl ⟨D, _, rfl, run_takeDeferred h.1, ?_⟩⟩
    exact shut_sound ha ms (w.putObj D (.deferred none)) (ht.trans (tame_putObj ..)) h.2
theorem HE.introM (hmix : P.follows .mixedOrders = true) {f : FuncId} {fn : Func} {c : Code} {an : Ann} {args : List Value} {ks : List Kind} {K : Tup ks → Heap → Prop} {h : Heap}
    (hf : P.funcs[f]? = some fn) (hb : fn.body = some c) (hcall : ∀ (args : Array Value) (w : World), (callFunc f args).run P w = .ok (.enter f args) w) (hlen : args.length ≤ fn.ntmps)
    (hs : sBodyM P fn c an args ks K h) : HE P f args ks K h := by
  refine ⟨fun w hw => ⟨hcall, ?_⟩⟩
  subst hw
  refine (callsIn_wide (n := 0)).1 (callsIn_of_wp_marks (F := FW none) hf hb trivial ?_ rfl)
  refine wpIn_mono (Q := fun e a w' => (∀ ch, e ≠ .panic ch) ∧ bodyPostM (FW none) 0 P fn (fun e w' => Tame w w' ∧ ∃ t : Tup ks, e = .returned (retV ks (encs ks t)) ∧ K t w'.heap) e a w') ?_ fun e a w h => h.2
  refine sSpine_sound hmix c an _ _ [] _ _ w _ hs (agree_args hlen) rfl (fun ch a w h => h.1 ch rfl) ?_ (fun _ _ _ _ _ _ _ _ h => h.elim) ?_
  · intro ms' r' a' w' ha' hd' ht' hk
    refine ⟨(fun _ e => by cases e), ?_⟩
    show LeavesInM _ _ _ _ _ _ a'.defers _ _
    rw [hd']
    exact shut_sound ha' ms' w' ht' hk
  · intro ms' r' a' w' ha' hd' ht' hk
    refine ⟨(fun _ e => by cases e), ?_⟩
    show LeavesInM _ _ _ _ _ _ a'.defers _ _
    rw [hd']
    exact shut_sound ha' ms' w' ht' hk
theorem HC.introM (hmix : P.follows .mixedOrders = true) {f : FuncId} {fn : Func} {c : Code} {an : Ann} {args : List Value} {ks : List Kind} {K : Tup ks → Heap → Prop} {h : Heap}
    (hf : P.funcs[f]? = some fn) (hb : fn.body = some c) (hcall : ∀ (args : Array Value) (w : World), (callFunc f args).run P w = .ok (.enter f args) w) (hlen : args.length ≤ fn.ntmps)
    (hs : sBodyM P fn c an args ks K h) : HC P f args ks K h := (HE.introM hmix hf hb hcall hlen hs).hc
end Go.Lift
