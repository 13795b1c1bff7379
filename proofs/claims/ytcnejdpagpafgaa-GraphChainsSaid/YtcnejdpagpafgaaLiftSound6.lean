/-
  Soundness of a region's operations in whatever order, second part: the walk of sDraw.
-/
import Derived.Test.YtcnejdpagpafgaaLiftSound5
namespace Go.Lift
open Go
variable {P : Program} {ro : Option Nat} {n : Nat} {ops : Array Oper} {Q : Exit → Act → World → Prop}
/-- Whatever order is picked from here on; what is held is shown anew behind each operation. -/
def wpG (ro : Option Nat) (n : Nat) (P : Program) (ops : Array Oper) (Q : Exit → Act → World → Prop) : Nat → Held → Array Bool → Act → World → Prop
  | 0, _, listed, a, w => Region.ready .any ops listed = [] ∧ Q .normal a w
  | f + 1, L, listed, a, w => (Region.ready .any ops listed = [] → Q .normal a w) ∧
    ∀ i ∈ Region.ready .any ops listed, ∀ o, ops[i]? = some o →
      wpOpIn (FW ro) n P ops Q i (fun a' w' => (∀ x ∈ relHeld o L, x.2 w'.heap) ∧ wpG ro n P ops Q f (relHeld o L) (listed.setIfInBounds i true) a' w') a w
theorem relHeld_mem {o : Oper} {x : Nat × (Heap → Prop)} : ∀ {L : Held}, x ∈ relHeld o L ↔ x ∈ L ∧ isAfter o x.1 = false
  | [] => by simp [relHeld]
  | (k, S) :: L => by
    have ih := relHeld_mem (o := o) (x := x) (L := L)
    simp only [relHeld]
    cases hk : isAfter o k with
    | true =>
      rw [cond_true, ih, List.mem_cons]
      constructor
      · exact fun h => ⟨.inr h.1, h.2⟩
      · rintro ⟨h | h, h2⟩
        · subst h; rw [hk] at h2; cases h2
        · exact ⟨h, h2⟩
    | false =>
      rw [cond_false, List.mem_cons, ih, List.mem_cons]
      constructor
      · rintro (h | h)
        · subst h; exact ⟨.inl rfl, hk⟩
        · exact ⟨.inr h.1, h.2⟩
      · rintro ⟨h | h, h2⟩
        · exact .inl h
        · exact .inr ⟨h, h2⟩
theorem ready_get {listed : Array Bool} {i : Nat} (h : i ∈ Region.ready .any ops listed) : ∃ o, ops[i]? = some o := by
  obtain ⟨_, o, ho, _⟩ := mem_ready.1 h
  exact ⟨o, ho⟩
theorem wpG_any : ∀ (f : Nat) (L : Held) (listed : Array Bool) (a : Act) (w : World), wpG ro n P ops Q f L listed a w → wpAnyIn (FW ro) n P .any ops Q f listed a w
  | 0, _, _, _, _, h => h
  | f + 1, L, listed, a, w, h => ⟨h.1, fun i hi => by
      obtain ⟨o, ho⟩ := ready_get hi
      exact wpOpIn_mono (fun a' w' h' => wpG_any f _ _ a' w' h'.2) (h.2 i hi o ho)⟩
theorem wpG_mono : ∀ (f : Nat) (L L' : Held) (listed : Array Bool) (a : Act) (w : World), (∀ x ∈ L', x ∈ L ∨ ∀ h, x.2 h) → wpG ro n P ops Q f L listed a w → wpG ro n P ops Q f L' listed a w
  | 0, _, _, _, _, _, _, h => h
  | f + 1, L, L', listed, a, w, hs, h => ⟨h.1, fun i hi o ho => by
      have hsub : ∀ x ∈ relHeld o L', x ∈ relHeld o L ∨ ∀ h, x.2 h := fun x hx => (hs x (relHeld_mem.1 hx).1).imp (fun h => relHeld_mem.2 ⟨h, (relHeld_mem.1 hx).2⟩) id
      exact wpOpIn_mono (fun a' w' h' => ⟨fun x hx => (hsub x hx).elim (h'.1 x) fun h => h _, wpG_mono f _ _ _ a' w' hsub h'.2⟩) (h.2 i hi o ho)⟩
/-- In state a the operation leaves v, wherever S holds, and does nothing else. -/
def YG (P : Program) (ops : Array Oper) (S : Heap → Prop) (o : Oper) (v : Value) (a : Act) : Prop :=
  (Region.wanted o (yielded ops a.tmps) = true ∧ ∀ w : World, S w.heap → (execOp a.eval o).run P w = .ok (.value v) w) ∨
  (Region.wanted o (yielded ops a.tmps) = false ∧ v = undef)
theorem YG.wpOp {S : Heap → Prop} {i : Nat} {o : Oper} {v : Value} {a : Act} (hi : ops[i]? = some o) (hd : ∀ c, o.op ≠ .defer c) (hy : YG P ops S o v a) {K : Act → World → Prop} {w : World} (hS : S w.heap)
    (h : K (a.put o.dst v) w) : wpOpIn (FW ro) n P ops Q i K a w := by
  unfold wpOpIn
  simp only [hi]
  rcases hy with ⟨hw, hv⟩ | ⟨hw, rfl⟩
  · simp only [hw, if_true]
    refine ⟨fun _ _ => trivial, ?_⟩
    rw [Oper.semAt_eq _ _ _ hd, hv w hS]; exact h
  · simp only [hw, Bool.false_eq_true, if_false]; exact ⟨fun _ _ => trivial, h⟩
theorem YG.of_same {S : Heap → Prop} {o : Oper} {v : Value} {a a' : Act} (hy : YG P ops S o v a) (he : execOp a'.eval o = execOp a.eval o)
    (hw : Region.wanted o (yielded ops a'.tmps) = Region.wanted o (yielded ops a.tmps)) : YG P ops S o v a' := by
  unfold YG at *
  rw [he, hw]
  exact hy
/-- Two operations that are apart: whether the one's value is there already makes no difference to the other. -/
theorem wpOp_apart {S : Heap → Prop} {j : Nat} {oi oj : Oper} {v : Value} (hj : ops[j]? = some oj)
    (hap : (∀ d, oi.dst = some d → d ∉ oj.looksAt ops) ∧ (∀ d, oi.dst = some d → oj.dst ≠ some d) ∧ (∀ d, oj.dst = some d → d ∉ oi.looksAt ops))
    (hsi : ∀ cs b, oi.op ≠ .select cs b) (hsj : ∀ cs b, oj.op ≠ .select cs b) (hdj : ∀ c, oj.op ≠ .defer c)
    (hQ : ∀ e a w, (∀ c, e = .panic c → False) ∨ ¬ Q e a w) {K : Act → World → Prop} {a : Act} {w : World}
    (hy : YG P ops S oi v a) (h : wpOpIn (FW ro) n P ops Q j K (a.put oi.dst v) w) :
    wpOpIn (FW ro) n P ops Q j (fun a' w' => YG P ops S oi v a' ∧ K (a'.put oi.dst v) w') a w := by
  obtain ⟨h1, h2, h3⟩ := hap
  have hnp : ∀ c a w, ¬ Q (.panic c) a w := fun c a w hq => (hQ (.panic c) a w).elim (fun h => h c rfl) fun h => h hq
  have keep : ∀ (a : Act), YG P ops S oi v a → ∀ u, YG P ops S oi v (a.put oj.dst u) := fun a hy u =>
    hy.of_same (execOp_put oi hsi a oj.dst u h3) (wanted_put oi a oj.dst u h3)
  unfold wpOpIn at *
  simp only [hj] at *
  rw [wanted_put oj a oi.dst v h1] at h
  split
  · rename_i hw
    simp only [hw, if_true] at h
    refine ⟨fun _ _ => trivial, ?_⟩
    have h := h.2
    rw [Oper.semAt_eq _ _ _ hdj, execOp_put oj hsj a oi.dst v h1] at h
    rw [Oper.semAt_eq _ _ _ hdj]
    generalize (execOp a.eval oj).run P w = r at *
    cases r with
    | ok x w' =>
      cases x <;> simp only [Oper.uponIn] at h ⊢
      case value u => exact ⟨keep a hy u, by rw [← Act.put_comm a v u h2]; exact h⟩
      case skip => exact ⟨keep a hy _, by rw [← Act.put_comm a v undef h2]; exact h⟩
      case defer d =>
        refine ⟨(hy.of_same (a' := { a with defers := d :: a.defers }) rfl rfl).of_same (execOp_put oi hsi _ oj.dst undef h3) (wanted_put oi _ oj.dst undef h3), ?_⟩
        rw [← Act.put_comm _ v undef h2, ← Act.put_defers]
        exact h
      case enter f args =>
        refine ⟨h.1, CallsIn.mono h.2 fun e w'' he => ?_⟩
        cases e with
        | returned u => exact ⟨keep a hy u, by rw [← Act.put_comm a v u h2]; exact he⟩
        | panicked c => exact (hnp _ _ _ he).elim
        | outgrown => exact he
      case row row args => exact ⟨h.1, RowsIn.mono h.2 fun u w'' he => ⟨keep a hy u, by rw [← Act.put_comm a v u h2]; exact he⟩⟩
      case round l f tmps assign body =>
        refine ⟨h.1, RoundIn.mono h.2 fun e w'' he => ?_⟩
        cases e with
        | returned u => exact ⟨keep a hy u, by rw [← Act.put_comm a v u h2]; exact he⟩
        | panicked c => exact (hnp _ _ _ he).elim
        | outgrown => exact he
    | halt x w' =>
      cases x <;> simp only [Oper.uponIn] at h ⊢
      case panic u => exact (hnp _ _ _ h).elim
  · rename_i hw
    simp only [hw] at h
    exact ⟨fun _ _ => trivial, keep a hy _, by rw [← Act.put_comm a v undef h2]; exact h.2⟩
/-- **An operation that reads or reckons may be taken first.** -/
theorem wpG_take {S : Heap → Prop} {i : Nat} {oi : Oper} {v : Value} (hi : ops[i]? = some oi) (hsel : ∀ (j : Nat) (o : Oper), ops[j]? = some o → (∀ cs b, o.op ≠ .select cs b) ∧ (∀ c, o.op ≠ .defer c))
    (hQ : ∀ e a w, (∀ c, e = .panic c → False) ∨ ¬ Q e a w) :
    ∀ (fuel : Nat) (L : Held) (listed : Array Bool) (a : Act) (w : World),
      (∀ j oj, ops[j]? = some oj → j ≠ i → listed.getD j true = false → isAfter oj i = false →
        (∀ d, oi.dst = some d → d ∉ oj.looksAt ops) ∧ (∀ d, oi.dst = some d → oj.dst ≠ some d) ∧ (∀ d, oj.dst = some d → d ∉ oi.looksAt ops)) →
      i ∈ Region.ready .any ops listed → YG P ops S oi v a → S w.heap → (∀ x ∈ L, x.2 w.heap) →
      wpG ro n P ops Q fuel ((i, S) :: L) (listed.setIfInBounds i true) (a.put oi.dst v) w → wpG ro n P ops Q (fuel + 1) L listed a w := by
  intro fuel
  induction fuel with
  | zero =>
    intro L listed a w _ hr hy hS hL H
    refine ⟨fun h => (by rw [h] at hr; cases hr), fun j hj oj hoj => ?_⟩
    by_cases hji : j = i
    · subst hji
      rw [hi] at hoj; cases hoj
      exact hy.wpOp hi (hsel _ _ hi).2 hS ⟨fun x hx => hL x (relHeld_mem.1 hx).1, H⟩
    · have := ready_mono hj hji
      rw [H.1] at this
      cases this
  | succ fuel ih =>
    intro L listed a w hfree hr hy hS hL H
    refine ⟨fun h => (by rw [h] at hr; cases hr), fun j hj oj hoj => ?_⟩
    by_cases hji : j = i
    · subst hji
      rw [hi] at hoj; cases hoj
      exact hy.wpOp hi (hsel _ _ hi).2 hS ⟨fun x hx => hL x (relHeld_mem.1 hx).1, wpG_mono _ _ _ _ _ _ (fun x hx => .inl (List.mem_cons_of_mem _ (relHeld_mem.1 hx).1)) H⟩
    · have h1 := H.2 j (ready_mono hj hji) oj hoj
      obtain ⟨hjun, oj', hoj', hall⟩ := mem_ready.1 hj
      rw [hoj] at hoj'; cases hoj'
      have hnot : isAfter oj i = false := by
        cases hb : isAfter oj i with
        | false => rfl
        | true =>
          unfold isAfter at hb
          obtain ⟨e, he, hb⟩ := List.any_eq_true.1 hb
          simp only [Bool.and_eq_true] at hb
          have h1 := hall e (by simpa using he) hb.2
          rw [Nat.eq_of_beq_eq_true hb.1] at h1
          have h0 := (mem_ready.1 hr).1
          rcases Nat.lt_or_ge i listed.size with h' | h'
          · simp [h'] at h0 h1; rw [h0] at h1; cases h1
          · simp [Array.getElem?_eq_none h'] at h1
      have hrel : relHeld oj ((i, S) :: L) = (i, S) :: relHeld oj L := by simp only [relHeld, hnot, cond_false]
      rw [hrel] at h1
      have h2 := wpOp_apart hoj (hfree j oj hoj hji hjun hnot) (hsel _ _ hi).1 (hsel _ _ hoj).1 (hsel _ _ hoj).2 hQ hy h1
      have hfree' : ∀ k ok, ops[k]? = some ok → k ≠ i → (listed.setIfInBounds j true).getD k true = false → isAfter ok i = false →
          (∀ d, oi.dst = some d → d ∉ ok.looksAt ops) ∧ (∀ d, oi.dst = some d → ok.dst ≠ some d) ∧ (∀ d, ok.dst = some d → d ∉ oi.looksAt ops) := fun k ok hk hki hun hno => by
        refine hfree k ok hk hki ?_ hno
        by_cases hjk : j = k
        · subst hjk; exact hjun
        · rw [getD_set_ne true hjk] at hun; exact hun
      refine wpOpIn_mono (fun a' w' h3 => ⟨fun x hx => h3.2.1 x (List.mem_cons_of_mem _ hx), ih (relHeld oj L) (listed.setIfInBounds j true) a' w' hfree' (ready_mono hr (Ne.symm hji)) h3.1 (h3.2.1 _ (List.mem_cons_self ..)) (fun x hx => h3.2.1 x (List.mem_cons_of_mem _ hx)) ?_⟩) h2
      rw [Array.setIfInBounds_comm _ _ hji]
      exact h3.2.2
theorem holdHeld_iff {h : Heap} {R : Prop} : ∀ {L : Held}, holdHeld L h R ↔ (∀ x ∈ L, x.2 h) ∧ R
  | [] => by simp [holdHeld]
  | (k, S) :: L => by
    simp only [holdHeld, holdHeld_iff (L := L), List.mem_cons, forall_eq_or_imp, and_assoc]
theorem wpG_done {f : Nat} {L : Held} {listed : Array Bool} {a : Act} {w : World} (hr : Region.ready .any ops listed = []) (h : Q .normal a w) : wpG ro n P ops Q f L listed a w := by
  cases f with
  | zero => exact ⟨hr, h⟩
  | succ f => exact ⟨fun _ => h, by rw [hr]; simp⟩
/-- How many have not come up. -/
def left (ops : Array Oper) (ls : Nat) : Nat := ((List.range ops.size).filter fun j => !ls.testBit j).length
theorem left_put {ls i : Nat} (hi : i < ops.size) (h0 : ls.testBit i = false) : left ops (Nat.lor ls (bitOf i)) + 1 = left ops ls := by
  have key : ∀ l : List Nat, l.Nodup → i ∈ l → (l.filter fun j => !(Nat.lor ls (bitOf i)).testBit j).length + 1 = (l.filter fun j => !ls.testBit j).length := by
    intro l
    induction l with
    | nil => intro _ h; cases h
    | cons x l ih =>
      intro hn hm
      rw [List.nodup_cons] at hn
      by_cases hx : x = i
      · subst hx
        have hrest : (l.filter fun j => !(Nat.lor ls (bitOf x)).testBit j) = l.filter fun j => !ls.testBit j := by
          apply List.filter_congr
          intro y hy
          have : x ≠ y := fun e => hn.1 (e ▸ hy)
          rw [bit_or, bit_of, decide_eq_false this, Bool.or_false]
        have h1 : (Nat.lor ls (bitOf x)).testBit x = true := by rw [bit_or, bit_of]; simp
        rw [List.filter_cons, List.filter_cons, h1, h0, hrest]
        rfl
      · have hm' : i ∈ l := by rcases List.mem_cons.1 hm with h | h; exact absurd h.symm hx; exact h
        have h1 : (Nat.lor ls (bitOf i)).testBit x = ls.testBit x := by rw [bit_or, bit_of, decide_eq_false (Ne.symm hx), Bool.or_false]
        have := ih hn.2 hm'
        rw [List.filter_cons, List.filter_cons, h1]
        cases ls.testBit x with
        | true => exact this
        | false => exact congrArg (· + 1) this
  exact key _ List.nodup_range (List.mem_range.2 hi)
theorem firsts_ne {N : Nat} {opl : List Oper} {ms : List DM} {ls : Nat} {L : Held} {d : Dec} {K : Regs → Heap → Prop} {r : Regs} {hp : Heap} : ∀ {l : DA}, sDraw P N opl ms l true ls L d K r hp → ∃ i, i ∈ firsts l
  | .done, h => h.elim
  | .take i rest, h => by
    exfalso
    have hc : sDraw P N opl ms (.take i rest) true ls L d K r hp = (match opl[i]?, ms[i]? with | some _, some _ => False | _, _ => False) := rfl
    rw [hc] at h
    split at h <;> exact h
  | .all _, h => h.elim
  | .pick i _ _, _ => ⟨i, List.mem_cons_self ..⟩
  | .last i _, _ => ⟨i, List.mem_cons_self ..⟩
  | .split .., h => h.elim
/-- What the walk shows of the rest. -/
def DrawOk (ro : Option Nat) (n : Nat) (P : Program) (ops : Array Oper) (Q : Exit → Act → World → Prop) (N : Nat) (ms : List DM) (W : Nat → Prop) (a0 : Act) (w0 : World) (K : Regs → Heap → Prop) (da : DA) : Prop :=
    ∀ (m : Bool) (ls : Nat) (L : Held) (d : Dec) (r : Regs) (a : Act) (w : World) (listed : Array Bool) (fuel : Nat),
      sDraw P N ops.toList ms da m ls L d K r w.heap → Agree N r a → DecOk d r → Fr W a0 w0 a w → LsRel ops ls listed → (∀ x ∈ L, x.2 w.heap) →
      (m = false → left ops ls ≤ fuel → wpG ro n P ops Q fuel L listed a w) ∧
      (m = true → left ops ls ≤ fuel + 1 → ∀ i ∈ firsts da, i ∈ readyL ls ms 0 → ∀ o, ops[i]? = some o →
        wpOpIn (FW ro) n P ops Q i (fun a' w' => (∀ x ∈ relHeld o L, x.2 w'.heap) ∧ wpG ro n P ops Q fuel (relHeld o L) (listed.setIfInBounds i true) a' w') a w)
/-- **The walk of a region whose order is open.** -/
theorem sDraw_sound {N : Nat} {ms : List DM} (hm : MsOk ops ms) {W : Nat → Prop} (hW : ∀ o ∈ ops.toList, ∀ d, o.dst = some d → W d) {a0 : Act} {w0 : World} {K : Regs → Heap → Prop}
    (hQ : ∀ r a w, Agree N r a → Fr W a0 w0 a w → K r w.heap → Q .normal a w) (hnp : ∀ e a w, (∀ c, e = .panic c → False) ∨ ¬ Q e a w) (da : DA) :
    DrawOk ro n P ops Q N ms W a0 w0 K da := by
  have one : ∀ (i : Nat) (rest : DA)
      (_ : DrawOk ro n P ops Q N ms W a0 w0 K rest)
      (ls : Nat) (L : Held) (d : Dec) (r : Regs) (a : Act) (w : World) (listed : Array Bool) (fuel : Nat),
      sOne P N ops.toList i L d r w.heap (fun L' d' r' h' => sDraw P N ops.toList ms rest false (Nat.lor ls (bitOf i)) L' d' K r' h') → Agree N r a → DecOk d r → Fr W a0 w0 a w → LsRel ops ls listed →
      left ops ls ≤ fuel + 1 → i ∈ readyL ls ms 0 → ∀ o, ops[i]? = some o →
        wpOpIn (FW ro) n P ops Q i (fun a' w' => (∀ x ∈ relHeld o L, x.2 w'.heap) ∧ wpG ro n P ops Q fuel (relHeld o L) (listed.setIfInBounds i true) a' w') a w := by
    intro i rest ih ls L d r a w listed fuel hs ha hd hf hl hfu hr o ho
    have hio : i < ops.size := (Array.getElem?_eq_some_iff.1 ho).1
    obtain ⟨k, mm, hk, hki, hbit, _⟩ := (readyL_mem ls ms 0 i).1 hr
    unfold sOne at hs
    rw [Array.getElem?_toList, ho] at hs
    simp only at hs
    cases hw : wantedL ops.toList d o with
    | none => rw [hw] at hs; exact hs.elim
    | some b =>
      rw [hw] at hs
      cases b with
      | false => exact hs.elim
      | true =>
        simp only at hs
        cases hq : Quiet o.op with
        | true => rw [hq] at hs; exact hs.elim
        | false =>
          rw [hq, cond_false] at hs
          unfold wpOpIn
          rw [ho]
          simp only [wantedL_sound hw ha hd, if_true]
          refine wpIn_of_out (wOp_nodefer hs) (wOp_sound ha hs) ?_
          intro v w' ht hK
          obtain ⟨r', hr', ha', hd'⟩ := dstK_ok (dv := .x) hK ha hd trivial
          obtain ⟨hh, hs'⟩ := holdHeld_iff.1 hr'
          have hmem : o ∈ ops.toList := List.mem_of_getElem? (by rw [Array.getElem?_toList]; exact ho)
          have hleft := left_put hio hbit
          exact ⟨hh, (ih false _ _ _ r' _ w' _ fuel hs' ha' hd' (hf.put (hW o hmem) v ht) (hl.put hio) hh).1 rfl (by omega)⟩
  induction da with
  | done =>
    intro m ls L d r a w listed fuel hs ha hd hf hl hL
    cases m with
    | true => exact hs.elim
    | false =>
      refine ⟨fun _ _ => ?_, fun h => by cases h⟩
      have hc : sDraw P N ops.toList ms .done false ls L d K r w.heap = bif natsEq (readyL ls ms 0) [] then K r w.heap else False := rfl
      rw [hc] at hs
      cases hb : natsEq (readyL ls ms 0) [] with
      | false => rw [hb] at hs; exact hs.elim
      | true =>
        rw [hb] at hs
        have hnil : Region.ready .any ops listed = [] := by
          apply List.eq_nil_iff_forall_not_mem.2
          intro j hj
          rw [ready_readyL hm hl, natsEq_eq hb] at hj
          cases hj
        exact wpG_done hnil (hQ r a w ha hf hs)
  | take i rest ih =>
    intro m ls L d r a w listed fuel hs ha hd hf hl hL
    cases m with
    | true =>
      exfalso
      have hc : sDraw P N ops.toList ms (.take i rest) true ls L d K r w.heap = (match ops.toList[i]?, ms[i]? with | some _, some _ => False | _, _ => False) := rfl
      rw [hc] at hs
      split at hs <;> exact hs
    | false =>
      refine ⟨fun _ hfu => ?_, fun h => by cases h⟩
      have hc : sDraw P N ops.toList ms (.take i rest) false ls L d K r w.heap = (match ops.toList[i]?, ms[i]? with
        | some o, some mi => bif takeOk mi i ls ops.toList.length then
            (match wantedL ops.toList d o with
             | none => False
             | some false => dstK N o undef r fun r' => sDraw P N ops.toList ms rest false (Nat.lor ls (bitOf i)) L (dPut d o .u) K r' w.heap
             | some true => bif Quiet o.op then
                 rOp P none o.op r (fun v S => dstK N o v r fun r' => match S with
                   | none => sDraw P N ops.toList ms rest false (Nat.lor ls (bitOf i)) L (dPut d o (dOf d o.op)) K r' w.heap
                   | some S => sDraw P N ops.toList ms rest false (Nat.lor ls (bitOf i)) ((i, S) :: L) (dPut d o (dOf d o.op)) K r' w.heap) w.heap
                 else False)
          else False
        | _, _ => False) := rfl
      rw [hc] at hs
      split at hs
      · rename_i o mi ho hmi
        rw [Array.getElem?_toList] at ho
        cases htk : takeOk mi i ls ops.toList.length with
        | false => rw [htk] at hs; exact hs.elim
        | true =>
          rw [htk, cond_true] at hs
          unfold takeOk at htk
          simp only [Bool.and_eq_true, Bool.not_eq_true', tb_eq] at htk
          obtain ⟨⟨hun, hrd⟩, hfr⟩ := htk
          have hio : i < ops.size := (Array.getElem?_eq_some_iff.1 ho).1
          have hready : i ∈ Region.ready .any ops listed := (ready_iff hm hl).2 ⟨mi, hmi, hun, hrd⟩
          have hleft := left_put (ops := ops) hio hun
          obtain ⟨f', rfl⟩ : ∃ f', fuel = f' + 1 := ⟨fuel - 1, by omega⟩
          have hmem : o ∈ ops.toList := List.mem_of_getElem? (by rw [Array.getElem?_toList]; exact ho)
          have hcov : ∀ j, j < ops.size → ls.testBit j = true ∨ mi.fr.testBit j = true := by
            intro j hj
            have h0 := Nat.eq_of_beq_eq_true hfr
            have hpb : (Nat.pred (bitOf ops.toList.length)).testBit j = true := by
              have : Nat.pred (bitOf ops.toList.length) = 2 ^ ops.toList.length - 1 := rfl
              rw [this, Nat.testBit_two_pow_sub_one]; simpa using hj
            have hand : (Nat.land (Nat.lor ls mi.fr) (Nat.pred (bitOf ops.toList.length))).testBit j = ((Nat.lor ls mi.fr).testBit j && (Nat.pred (bitOf ops.toList.length)).testBit j) := Nat.testBit_and _ _ j
            rw [h0, hpb, Bool.and_true, bit_or] at hand
            exact (Bool.or_eq_true_iff).1 hand.symm
          have hfree : ∀ j oj, ops[j]? = some oj → j ≠ i → listed.getD j true = false → isAfter oj i = false →
              (∀ d, o.dst = some d → d ∉ oj.looksAt ops) ∧ (∀ d, o.dst = some d → oj.dst ≠ some d) ∧ (∀ d, oj.dst = some d → d ∉ o.looksAt ops) := by
            intro j oj hoj hne hju hna
            have hj : j < ops.size := (Array.getElem?_eq_some_iff.1 hoj).1
            rw [hl.unlisted hj] at hju
            have hjm : j < ms.length := by rw [hm.len]; exact hj
            have hmj := List.getElem?_eq_getElem hjm
            rcases hcov j hj with h | h
            · rw [h] at hju; cases hju
            · rcases hm.free i j mi _ hmi hmj h with h | h | h
              · exact absurd h hne
              · rw [hm.am j oj _ hoj hmj, hna] at h; cases h
              · exact apart_of hm ho hoj hmi hmj h
          cases hw : wantedL ops.toList d o with
          | none => rw [hw] at hs; exact hs.elim
          | some b =>
            rw [hw] at hs
            have hwd := wantedL_sound hw ha hd
            cases b with
            | false =>
              obtain ⟨r', hr', ha', hd'⟩ := dstK_ok (dv := .u) hs ha hd rfl
              have hy : YG P ops (fun _ => True) o undef a := .inr ⟨hwd, rfl⟩
              refine wpG_take ho hm.nosel hnp f' L listed a w hfree hready hy trivial hL ?_
              refine wpG_mono _ L _ _ _ _ (fun x hx => (List.mem_cons.1 hx).elim (fun e => .inr fun h => by rw [e]; trivial) .inl) ?_
              exact (ih false _ _ _ r' _ w _ f' hr' ha' hd' (hf.put (hW o hmem) undef (Tame.refl w)) (hl.put hio) hL).1 rfl (by omega)
            | true =>
              simp only at hs
              cases hq : Quiet o.op with
              | false => rw [hq] at hs; exact hs.elim
              | true =>
                rw [hq, cond_true] at hs
                obtain ⟨v, S, hK, hS, hdv, hrun⟩ := rOp_sound ha hs d hd
                obtain ⟨r', hr', ha', hd'⟩ := dstK_ok hK ha hd hdv
                have hfr' := hf.put (hW o hmem) v (Tame.refl w)
                cases S with
                | none =>
                  have hy : YG P ops (fun _ => True) o v a := .inl ⟨hwd, fun w _ => hrun w trivial⟩
                  refine wpG_take ho hm.nosel hnp f' L listed a w hfree hready hy trivial hL ?_
                  refine wpG_mono _ L _ _ _ _ (fun x hx => (List.mem_cons.1 hx).elim (fun e => .inr fun h => by rw [e]; trivial) .inl) ?_
                  exact (ih false _ _ _ r' _ w _ f' hr' ha' hd' hfr' (hl.put hio) hL).1 rfl (by omega)
                | some S =>
                  have hy : YG P ops S o v a := .inl ⟨hwd, fun w h => hrun w h⟩
                  refine wpG_take ho hm.nosel hnp f' L listed a w hfree hready hy hS hL ?_
                  exact (ih false _ _ _ r' _ w _ f' hr' ha' hd' hfr' (hl.put hio) (fun x hx => (List.mem_cons.1 hx).elim (fun e => by rw [e]; exact hS) (hL x))).1 rfl (by omega)
      · exact hs.elim
  | all l ih =>
    intro m ls L d r a w listed fuel hs ha hd hf hl hL
    cases m with
    | true => exact hs.elim
    | false =>
      refine ⟨fun _ hfu => ?_, fun h => by cases h⟩
      have hc : sDraw P N ops.toList ms (.all l) false ls L d K r w.heap = bif natsEq (readyL ls ms 0) (firsts l) then sDraw P N ops.toList ms l true ls L d K r w.heap else False := rfl
      rw [hc] at hs
      cases hb : natsEq (readyL ls ms 0) (firsts l) with
      | false => rw [hb] at hs; exact hs.elim
      | true =>
        rw [hb, cond_true] at hs
        obtain ⟨i, hi⟩ := firsts_ne hs
        rw [← natsEq_eq hb] at hi
        have hrd := (ready_readyL hm hl (j := i)).2 hi
        obtain ⟨k, mm, hk, hki, hbit, _⟩ := (readyL_mem ls ms 0 i).1 hi
        have hio : i < ops.size := by
          have := (List.getElem?_eq_some_iff.1 hk).1
          rw [hm.len] at this; omega
        have hleft := left_put (ops := ops) hio hbit
        obtain ⟨f', rfl⟩ : ∃ f', fuel = f' + 1 := ⟨fuel - 1, by omega⟩
        refine ⟨fun h => (by rw [h] at hrd; cases hrd), fun j hj o ho => ?_⟩
        have hj' := (ready_readyL hm hl).1 hj
        exact (ih true ls L d r a w listed f' hs ha hd hf hl hL).2 rfl hfu j (by rw [← natsEq_eq hb]; exact hj') hj' o ho
  | pick i rest more ih1 ih2 =>
    intro m ls L d r a w listed fuel hs ha hd hf hl hL
    cases m with
    | false => exact hs.elim
    | true =>
      refine ⟨fun h => (by cases h), fun _ hfu j hj hjr o ho => ?_⟩
      have hs : sOne P N ops.toList i L d r w.heap (fun L' d' r' h' => sDraw P N ops.toList ms rest false (Nat.lor ls (bitOf i)) L' d' K r' h') ∧ sDraw P N ops.toList ms more true ls L d K r w.heap := hs
      rcases List.mem_cons.1 hj with rfl | hj
      · exact one _ rest ih1 ls L d r a w listed fuel hs.1 ha hd hf hl hfu hjr o ho
      · exact (ih2 true ls L d r a w listed fuel hs.2 ha hd hf hl hL).2 rfl hfu j hj hjr o ho
  | last i rest ih =>
    intro m ls L d r a w listed fuel hs ha hd hf hl hL
    cases m with
    | false => exact hs.elim
    | true =>
      refine ⟨fun h => (by cases h), fun _ hfu j hj hjr o ho => ?_⟩
      have hs : sOne P N ops.toList i L d r w.heap (fun L' d' r' h' => sDraw P N ops.toList ms rest false (Nat.lor ls (bitOf i)) L' d' K r' h') := hs
      have hji : j = i := List.mem_singleton.1 hj
      subst hji
      exact one _ rest ih ls L d r a w listed fuel hs ha hd hf hl hfu hjr o ho
  | split t yes no ih1 ih2 =>
    intro m ls L d r a w listed fuel hs ha hd hf hl hL
    cases m with
    | true => exact hs.elim
    | false =>
      refine ⟨fun _ hfu => ?_, fun h => by cases h⟩
      have hc : sDraw P N ops.toList ms (.split t yes no) false ls L d K r w.heap = (match rlook r t with
        | some (.bool b) => CondP b (sDraw P N ops.toList ms yes false ls L ((t, .t) :: d) K ((t, .bool true) :: r) w.heap) (sDraw P N ops.toList ms no false ls L ((t, .f) :: d) K ((t, .bool false) :: r) w.heap)
        | _ => False) := rfl
      rw [hc] at hs
      split at hs
      · rename_i b hlk
        cases b with
        | true => exact (ih1 false ls L _ _ a w listed fuel (hs.yes rfl) (ha.known hlk) (hd.known rfl) hf hl hL).1 rfl hfu
        | false => exact (ih2 false ls L _ _ a w listed fuel (hs.no rfl) (ha.known hlk) (hd.known rfl) hf hl hL).1 rfl hfu
      · exact hs.elim
end Go.Lift
