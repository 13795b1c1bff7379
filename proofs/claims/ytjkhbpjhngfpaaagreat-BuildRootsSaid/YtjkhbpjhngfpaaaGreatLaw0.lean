/- A part of the proof that the named laws of this program answer true, whatever the input. -/
import Derived.Test.YtjkhbpjhngfpaaaGreatLift3
import Derived.ProofKit
import Derived.SizedLaws
/-
  From a function's contract to the row that says 'whatever the input: true; the input reads as it did'.
-/
namespace Go.Lift
open Go Go.ChangeShapes Go.WideShapes Go.ChangeAt Go.RowKit
section
variable {H : Type} {enc : TypeId × Value → H} {P : Program} {w : World} {base : Nat} {sp : Nat → Bool} {held : Bool}
theorem adr_add (a : Addr) (n : Nat) : a.add n = adr a n := by
  cases n with
  | zero => rfl
  | succ n => simp [Addr.add, adr]
theorem cells_get {a : Addr} {n : Nat} {cs : List Value} (h : w.cells? base a n = some cs) : cs.length = n ∧ ∀ j v, cs[j]? = some v → hcell w.heap (adr a j) = some v := by
  obtain ⟨_, hl, hc⟩ := World.cells?_some h
  refine ⟨hl, fun j v hv => ?_⟩
  have hj : j < n := by rw [← hl]; exact (List.getElem?_eq_some_iff.1 hv).1
  have := hc j hj
  rw [adr_add, hv] at this
  exact this
/-- A slice that came in: its elements lie there. -/
theorem trod_sl {fuel : Nat} {t e : TypeId} {cs : List Value} {x : DataW H × List MemPlace} (ht : P.underlying t = some (.slice e)) (h : DataW.trod enc P w base sp held fuel t cs = some x)
    {α : Type} (f : α → List Value) {sz : Nat} (hsz : P.cellsOf e = sz) (hne : ∀ x, (f x).length = sz ∧ 0 < sz) (Q : α → Prop)
    (hel : ∀ fuel (cells : List Value) y, cells.length = sz → DataW.trod enc P w base sp held fuel e cells = some y → ∃ a, cells = f a ∧ Q a) :
    ∃ (s : SliceV) (xs : List α), cs = [.slice s.a s.len s.cap] ∧ s.len ≤ s.cap ∧ s.cap ≤ maxLen ∧ Sl f sz No w.heap s xs ∧ ∀ a ∈ xs, Q a := by
  rcases DataW.trod_slice ht h with ⟨h0, _⟩ | ⟨a, len, cap, elems, rest, n, _, h1, _, hb, hl, hm, hlen, heach, _⟩
  · exact ⟨⟨none, 0, 0⟩, [], h0, Nat.le_refl _, Nat.zero_le _, Sl.nil hne, fun a ha => by cases ha⟩
  · have key : ∀ i, i < len → ∃ a', Q a' ∧ ∀ j v, (f a')[j]? = some v → hcell w.heap (adr (adr a (i * sz)) j) = some v := fun i hi => by
      have hi' := heach i hi
      rw [hsz] at hi'
      have : ∃ y, elems[i]? = some y := ⟨_, List.getElem?_eq_getElem (by omega)⟩
      obtain ⟨y, hy⟩ := this
      rw [hy] at hi'
      cases hc : w.cells? base (a.add (i * sz)) sz with
      | none => rw [hc] at hi'; cases hi'
      | some cells =>
        rw [hc] at hi'
        obtain ⟨hcl, hcc⟩ := cells_get hc
        obtain ⟨a', ha', hq⟩ := hel n cells y hcl hi'
        subst ha'
        rw [adr_add] at hcc
        exact ⟨a', hq, hcc⟩
    have : ∀ n, n ≤ len → ∃ xs : List α, xs.length = n ∧ (∀ a ∈ xs, Q a) ∧ ∀ i x, xs[i]? = some x → ∀ j v, (f x)[j]? = some v → hcell w.heap (adr (adr a (i * sz)) j) = some v := by
      intro n
      induction n with
      | zero => exact fun _ => ⟨[], rfl, (fun a ha => by cases ha), fun i x hx => by simp at hx⟩
      | succ n ih =>
        intro hn
        obtain ⟨xs, hl', hq, hx⟩ := ih (by omega)
        obtain ⟨a', hqa, hca⟩ := key n (by omega)
        refine ⟨xs ++ [a'], by simp [hl'], fun z hz => ?_, fun i x hi => ?_⟩
        · rcases List.mem_append.1 hz with hz | hz
          · exact hq z hz
          · rw [List.mem_singleton.1 hz]; exact hqa
        · by_cases hin : i < n
          · rw [List.getElem?_append_left (by omega)] at hi
            exact hx i x hi
          · rw [List.getElem?_append_right (by omega)] at hi
            have : i - xs.length = 0 := by
              have := (List.getElem?_eq_some_iff.1 hi).1
              simp at this; omega
            rw [this] at hi
            simp only [List.getElem?_cons_zero, Option.some.injEq] at hi
            subst hi
            have : i = n := by omega
            subst this
            exact hca
    obtain ⟨xs, hxl, hq, hx⟩ := this len (Nat.le_refl _)
    refine ⟨⟨some a, len, cap⟩, xs, h1, hl, hm, ⟨hxl.symm, hne, fun _ => ⟨a, rfl, id, fun i v hv => ?_⟩⟩, hq⟩
    obtain ⟨hfl, hz⟩ : (∀ x, (f x).length = sz) ∧ 0 < sz := ⟨fun x => (hne x).1, by
      cases xs with
      | nil => simp at hv
      | cons x _ => exact (hne x).2⟩
    have hi : i < (xs.flatMap f).length := (List.getElem?_eq_some_iff.1 hv).1
    rw [flatMap_len hfl] at hi
    have hq1 : i / sz < xs.length := Nat.div_lt_of_lt_mul (by rw [Nat.mul_comm]; exact hi)
    have hr : i % sz < sz := Nat.mod_lt _ hz
    have e : i = i / sz * sz + i % sz := by rw [Nat.mul_comm]; exact (Nat.div_add_mod i sz).symm
    have hg := flatMap_get hfl xs (i / sz) (i % sz) xs[i / sz] (List.getElem?_eq_getElem hq1) hr
    rw [← e] at hg
    rw [hg] at hv
    have := hx (i / sz) _ (List.getElem?_eq_getElem hq1) (i % sz) v hv
    rw [adr_adr, ← e] at this
    exact this
theorem trodAll_stays {P : Program} (hl : laidOutB P = true) {W W' : World} (hb : Below W.heap.size W W') : ∀ {ts : List TypeId} {vs : List Value} {ds : List (DataW H)} {ps : List MemPlace}, (∀ t ∈ ts, P.readableRec t = true ∧ t < P.types.size) →
    DataW.TrodAll enc P W 0 (fun _ => true) true ts vs ds ps → (∀ x ∈ ps, x.block < W.heap.size) → DataW.TrodAll enc P W' 0 (fun b => decide (b < W.heap.size)) true ts vs ds ps
  | [], [], [], _, _, h, _ => h
  | t :: ts, v :: vs, d :: ds, ps, hr, h, hlt => by
    obtain ⟨p, q, h1, h2, rfl⟩ := h
    exact ⟨p, q, Below.trod hl (hr t (List.mem_cons_self ..)).1 (hr t (List.mem_cons_self ..)).2 h1 hb fun x hx => hlt x (List.mem_append_left _ hx),
      trodAll_stays hl hb (fun t ht => hr t (List.mem_cons_of_mem _ ht)) h2 fun x hx => hlt x (List.mem_append_right _ hx), rfl⟩
  | [], _ :: _, _, _, _, h, _ => h.elim
  | [], [], _ :: _, _, _, h, _ => h.elim
  | _ :: _, [], _, _, _, h, _ => h.elim
  | _ :: _, _ :: _, [], _, _, h, _ => h.elim
theorem trodAll_len : ∀ {ts : List TypeId} {vs : List Value} {ds : List (DataW H)} {ps : List MemPlace}, DataW.TrodAll enc P w base sp held ts vs ds ps → ds.length = ts.length
  | [], [], [], _, _ => rfl
  | t :: ts, v :: vs, d :: ds, ps, h => by
    obtain ⟨p, q, h1, h2, rfl⟩ := h
    rw [List.length_cons, List.length_cons, trodAll_len h2]
  | [], _ :: _, _, _, h => h.elim
  | [], [], _ :: _, _, h => h.elim
  | _ :: _, [], _, _, h => h.elim
  | _ :: _, _ :: _, [], _, h => h.elim
theorem trod_cons {t : TypeId} {ts : List TypeId} {vs : List Value} {ds : List (DataW H)} {ps : List MemPlace} (h : DataW.TrodAll enc P w base sp held (t :: ts) vs ds ps) :
    ∃ v vs' d ds' p q, vs = v :: vs' ∧ ds = d :: ds' ∧ DataW.Trod enc P w base sp held t v d p ∧ DataW.TrodAll enc P w base sp held ts vs' ds' q := by
  cases vs with
  | nil => exact h.elim
  | cons v vs => cases ds with
    | nil => exact h.elim
    | cons d ds =>
      obtain ⟨p, q, h1, h2, _⟩ := h
      exact ⟨v, vs, d, ds, p, q, rfl, rfl, h1, h2⟩
theorem trod_nil {vs : List Value} {ds : List (DataW H)} {ps : List MemPlace} (h : DataW.TrodAll enc P w base sp held [] vs ds ps) : vs = [] := by
  cases vs with
  | nil => rfl
  | cons v vs => exact h.elim
/-- **A law's row**, but for what opens its arguments. -/
theorem law_lifted {C : Checked} {os : Os} {f : FuncId} {fn : Func} {s : ChangeSpec} {ts : List TypeId} {tb : TypeId} (hts : fn.params.toList = ts) (hres : fn.resultTypes.toList = [tb]) (hbool : C.prog.underlying tb = some .bool) (hv : s.vars = [])
    (hspec : ∀ (ds : List (DataW H)), ds.length = ts.length → (s.fn H ds).results = [.lit (.bool true)] ∧ (s.fn H ds).args = ds ∧ (s.fn H ds).vars = [])
    (own : ownKnob C.prog.godebug = none) (laid : laidOutB C.prog = true) (hread : ∀ t ∈ ts, C.prog.readableRec t = true ∧ t < C.prog.types.size) (started : os.Started) (noInit : C.prog.inits.idxOf? f = none) (hfn : C.prog.funcs[f]? = some fn)
    (witness : ∃ (w : World) (tape : Tape) (i : Input), w.os = os ∧ (w.forCall tape i).Shaped C.prog ∧ i.vars = [] ∧ Input.okWide C.prog (w.forCall tape i) .any w.heap.size f i ∧
      s.pre6 enc C.prog fn [] false (w.forCall tape i).memory i.args ∧ ({} : Assume).holds C.prog (lone (Frame.enter C.prog f i.args .normal) [] (w.forCall tape i)))
    (hcall : ∀ (args : Array Value) (w : World), (callFunc f args).run C.prog w = .ok (.enter f args) w)
    (hc : ∀ (W : World) (b0 : Nat) (args : List Value) (ds : List (DataW H)) (p : List MemPlace), (∀ (j : Nat) t v, ts[j]? = some t → args[j]? = some v → Value.okWide C.prog W .any b0 t v) → DataW.TrodAll enc C.prog W 0 (fun _ => true) true ts args ds p →
      HC C.prog f args [.c .bool] (fun b h' => b = true ∧ Upd No W.heap h') W.heap) :
    ReturnsInHanded {} C os f .any (s.pre6 enc C.prog fn [] false) (s.post enc C.prog fn false true false false) := by
  refine returnsInHanded_of_change own started noInit hfn witness ?_
  intro W b0 args ds gs before hval hW _ _
  have hW' := hW
  obtain ⟨p, q, hA, hV, rfl, hfz, hnd⟩ := hW
  rw [hts] at hA
  rw [hv] at hV
  obtain ⟨rfl, rfl⟩ := trodVars_none hV
  have hlen : ds.length = ts.length := trodAll_len hA
  have hlt : ∀ x ∈ p, x.block < W.heap.size := fun x hx => hW'.lt x (List.mem_append_left _ hx)
  obtain ⟨hr, ha, hvv⟩ := hspec ds hlen
  have hh := hc W b0 args.toList ds p (fun j t v ht hv' => hval j t v (by rw [← Array.getElem?_toList, hts]; exact ht) (by rw [← Array.getElem?_toList]; exact hv')) hA
  rcases hh.run W rfl with ⟨_, h2⟩ | ⟨v, w', h1, _⟩
  · have e : args.toList.toArray = args := by simp
    rw [e] at h2
    refine h2.mono ?_
    rintro e w' ⟨ht, t, rfl, hb, hu⟩
    have hbool' : t = true := hb
    subst hbool'
    refine ⟨.bool true, rfl, ds, [], p ++ [], [], p, [], hW', ?_, ?_, ?_, ?_, fun h => by cases h⟩
    · rw [hres, List.append_nil, hr]
      have : fn.resultTypes.size = 1 := by have := congrArg List.length hres; simpa using this
      rw [this]
      refine ⟨[], [], ⟨1, ?_⟩, rfl, rfl⟩
      simp [DataW.trod, hbool, Value.cells]
    · rw [hts, List.append_nil, ha]
      exact trodAll_stays laid ⟨ht.os, ht.tape, ht.output, hu.size, fun k hk => hu.same k hk id⟩ hread hA hlt
    · rw [hv, List.append_nil, hvv]; rfl
    · exact Below.frame ⟨ht.os, ht.tape, ht.output, hu.size, fun k hk => hu.same k hk id⟩ _
  · rw [hcall] at h1; cases h1
end
end Go.Lift
/-
  Iterators and those who take from them.
-/
namespace Go.Lift
open Go
/-- Who takes: what came so far, his blocks, the heap; he goes on each time. -/
structure Takes {α : Type} (P : Program) (y : Value) (enc : α → List Value) (N : Nat) (J : List α → (Nat → Prop) → Heap → Prop) : Prop where
  lt : ∀ pre A h, J pre A h → ∀ b, A b → b < h.size
  keep : ∀ pre A h h' B, J pre A h → Upd B h h' → (∀ b, A b → ¬ B b) → J pre A h'
  step : ∀ pre A h x (K : Bool → Heap → Prop), J pre A h → pre.length < N → (∀ h' A', J (pre ++ [x]) A' h' → Upd A h h' → (∀ b, A' b → A b ∨ h.size ≤ b) → K true h') → HV P y (enc x) [.c .bool] K h
/-- An iterator in a heap: which lists it may give (of N at most); it leans on some blocks. -/
structure Gives {α : Type} (P : Program) (fv : Value) (enc : α → List Value) (N : Nat) (S : List α → Prop) (Q : Nat → Prop) (h : Heap) : Prop where
  lt : ∀ b, Q b → b < h.size
  run : ∃ f first cap, fv = .func (.func f) first cap ∧ ∀ (y : Value) (J : List α → (Nat → Prop) → Heap → Prop) (A M : Nat → Prop) (h1 : Heap) (K : Unit → Heap → Prop), Takes P y enc N J → J [] A h1 → Upd M h h1 → (∀ b, Q b → ¬ M b) → (∀ b, A b → ¬ Q b) →
    (∀ xs A' h', S xs → J xs A' h' → Upd A h1 h' → (∀ b, A' b → A b ∨ h1.size ≤ b) → K () h') → HE P f (first.toList ++ [y] ++ cap.toList) [] K h1
theorem Gives.upd {α : Type} {P : Program} {fv : Value} {enc : α → List Value} {N : Nat} {S : List α → Prop} {Q M : Nat → Prop} {h h' : Heap} (g : Gives P fv enc N S Q h) (k : Upd M h h') (hm : ∀ b, Q b → ¬ M b) : Gives P fv enc N S Q h' := by
  obtain ⟨f, first, cap, e, hr⟩ := g.run
  refine ⟨fun b hb => Nat.lt_of_lt_of_le (g.lt b hb) k.size, f, first, cap, e, fun y J A M' h1 K ht hj hu hq ha hk => ?_⟩
  exact hr y J A (fun b => M b ∨ M' b) h1 K ht hj ((k.mono fun b hb => .inl (.inl hb)).tr (hu.mono fun b hb => .inl (.inr hb))) (fun b hb h => h.elim (hm b hb) (hq b hb)) ha hk
theorem perm_adel {κ β : Type} [DecidableEq κ] {m : List (κ × β)} {k : κ} {v : β} (hn : (m.map (·.1)).Nodup) (hm : (k, v) ∈ m) : (m.map (·.1)).Perm (k :: (adel m k).map (·.1)) := by
  induction m with
  | nil => cases hm
  | cons p m ih =>
    obtain ⟨k', u⟩ := p
    simp only [List.map_cons, List.nodup_cons] at hn
    by_cases e : k' = k
    · subst e
      have : adel ((k', u) :: m) k' = m := by
        unfold adel
        rw [List.filter_cons]
        simp only [ne_eq, not_true_eq_false, decide_false, Bool.false_eq_true, if_false]
        rw [List.filter_eq_self]
        intro q hq
        simp only [decide_not, Bool.not_eq_eq_eq_not, Bool.not_true, decide_eq_false_iff_not]
        intro e2
        exact hn.1 (e2 ▸ List.mem_map.2 ⟨q, hq, rfl⟩)
      rw [this]; exact List.Perm.refl _
    · have hm' : (k, v) ∈ m := by
        rcases List.mem_cons.1 hm with h | h
        · cases h; exact absurd rfl e
        · exact h
      have : adel ((k', u) :: m) k = (k', u) :: adel m k := by
        unfold adel
        rw [List.filter_cons]
        simp [e]
      rw [this, List.map_cons, List.map_cons]
      exact ((ih hn.2 hm').cons k').trans (List.Perm.swap ..)
theorem LoopP.imp {T : Type} {F G : (T → Heap → Prop) → T → Heap → Prop} {t : T} {h : Heap} (l : LoopP G t h) (hi : ∀ I t h, G I t h → F I t h) : LoopP F t h := ⟨fun I hI => l.run I fun t h hg => hI t h (hi I t h hg)⟩
theorem NextP.imp {a : Addr} {h : Heap} {K K' : Prop} {S S' : MapEntry → Heap → Prop} (n : NextP a h K S) (hk : K → K') (hs : ∀ e h, S e h → S' e h) : NextP a h K' S' := by
  obtain ⟨h0, m, since, seen, last, hb, h1 | ⟨r, es, clock, h1, h2, h3, h4, h5⟩⟩ := n
  · exact ⟨h0, m, since, seen, last, hb, .inl ⟨h1.1, hk h1.2⟩⟩
  · exact ⟨h0, m, since, seen, last, hb, .inr ⟨r, es, clock, h1, h2, h3, fun x => hk (h4 x), fun e he x => hs _ _ (h5 e he x)⟩⟩
/-- The keys of a map, one by one, in whatever order. -/
theorem keys_gives {κ β : Type} [DecidableEq κ] {E : KeyE κ} {g : β → Value} {P : Program} {f : FuncId} {h : Heap} {r bx : Nat} {t : TypeId} {m : List (κ × β)} (hm : MapAt E g h r m) (hb : h[bx]? = some (.cells #[.map (some r)] t (0, 0)))
    (hF : ∀ (y : Value) (h1 : Heap) (K : Unit → Heap → Prop), h1[bx]? = some (.cells #[.map (some r)] t (0, 0)) →
      (∃ clock, (∃ es, h1[r]? = some (.map es clock)) ∧ ∀ h2, h2 = h1.push (.mapIter (some r) clock #[] clock) →
        LoopP (fun (I : Unit → Heap → Prop) (_ : Unit) h6 => NextP ⟨h1.size, 0, none⟩ h6 (K () h6) fun e h8 => ∃ x v, IterAt h8 h1.size e ∧ e.key = E.enc x ∧ e.val = g v ∧ HV P y [E.enc x] [.c .bool] (fun b h' => CondP (!b) (K () h') (I () h')) h8) () h2) →
      HE P f ([] ++ [y] ++ [.pointer (some ⟨bx, 0, none⟩)]) [] K h1) :
    Gives P (.func (.func f) #[] #[.pointer (some ⟨bx, 0, none⟩)]) (fun x => [E.enc x]) m.length (fun xs => xs.Perm (m.map (·.1))) (fun b => b = r ∨ b = bx) h := by
  refine ⟨fun b hb' => hb'.elim (fun e => e ▸ hm.lt) fun e => e ▸ get_lt hb, f, _, _, rfl, fun y J A M h1 K ht hj hu hq ha hk => ?_⟩
  have hm1 := hm.upd hu (hq r (.inl rfl))
  refine hF y h1 K (hu.get hb (hq bx (.inr rfl))) ?_
  obtain ⟨clock, hes, hi0⟩ := hm1.range
  refine ⟨clock, hes, fun h2 e => ?_⟩
  subst e
  have hrA : ¬ A r := fun e => ha r e (.inl rfl)
  have hr1 := hm1.lt
  refine LoopP.ghost (fun (gh : List κ × List (κ × β) × (Nat → Prop)) (_ : Unit) h' => IterSt E g h' h1.size r m gh.2.1 ∧ J gh.1 gh.2.2 h' ∧ Upd A h1 h' ∧ (∀ b, gh.2.2 b → A b ∨ h1.size < b) ∧ (gh.1 ++ gh.2.1.map (·.1)).Perm (m.map (·.1))) (fun gh => gh.2.1.length) ([], m, A)
    ⟨hi0, ht.keep _ _ _ _ (fun b => b = h1.size) hj (Upd.push _ _ _) (fun b hb e => absurd (ht.lt _ _ _ hj b hb) (by omega)), Upd.push _ _ _, fun b hb => .inl hb, List.Perm.refl _⟩ ?_
  rintro I ⟨pre, todo, A1⟩ ⟨⟩ h' ⟨hi, hj', hu', hA, hp⟩ hI
  simp only at hi hj' hA hp
  have hnd := hi.nodup
  have hiA : ¬ A1 h1.size := fun e => (hA _ e).elim (fun e => absurd (ht.lt _ _ _ hj _ e) (by omega)) fun e => by omega
  have hrA1 : ¬ A1 r := fun e => (hA _ e).elim hrA fun e => by omega
  have hs1 : h1.size < h'.size := by obtain ⟨_, _, _, _, _, _, _, hb, _⟩ := hi; exact get_lt hb
  refine NextP.at (M := (· = h1.size)) hi rfl (fun he => ?_) fun k v hkv e h2 ek ev hit hi2 hu2 => ⟨k, v, hit, ek, ev, ?_⟩
  · subst he
    rw [List.map_nil, List.append_nil] at hp
    exact hk pre A1 h' hp hj' hu' fun b hb => (hA b hb).imp id Nat.le_of_lt
  · have hj2 := ht.keep _ _ _ _ _ hj' hu2 (fun b hb e => hiA (e ▸ hb))
    have hs2 := hu2.size
    refine ht.step pre A1 h2 k _ hj2 ?_ fun h3 A3 hj3 hu3 hA3 => condP_false.2 ?_
    · have := hp.length_eq
      have : 0 < todo.length := List.length_pos_of_mem hkv
      simp only [List.length_append, List.length_map] at *
      omega
    · refine hI (pre ++ [k], adel todo k, A3) () h3 ⟨hi2.upd hu3 hiA hrA1, hj3, ?_, fun b hb => ?_, ?_⟩ (by
        simp only
        unfold adel
        exact List.length_filter_lt_length_iff_exists.2 ⟨_, hkv, by simp⟩)
      · exact (hu'.trans hu2 fun b hb => .inr (by omega)).trans hu3 fun b hb => (hA b hb).imp id Nat.le_of_lt
      · rcases hA3 b hb with h | h
        · exact hA b h
        · exact .inr (by omega)
      · simp only
        rw [List.append_assoc]
        exact ((List.Perm.append_left pre (perm_adel hnd hkv).symm)).trans hp
end Go.Lift
