/-
  How the printed functions are shown to do what they should: rules for their words; what stays of a heap; blocks of cells.
-/
import Derived.Test.YtcnejdpagpafgaaLiftWords
namespace Go.Lift
open Go
/-! ### Words -/
attribute [simp] condP_true condP_false
theorem condP_dec {p : Prop} [Decidable p] {t e : Prop} (h1 : p → t) (h2 : ¬ p → e) : CondP (decide p) t e := CondP.intro (fun h => h1 (of_decide_eq_true h)) (fun h => h2 (of_decide_eq_false h))
theorem HC.mono {P : Program} {f : FuncId} {args : List Value} {ks : List Kind} {K K' : Tup ks → Heap → Prop} {h : Heap} (hc : HC P f args ks K h) (hk : ∀ t h', K t h' → K' t h') : HC P f args ks K' h := by
  refine ⟨fun w hw => ?_⟩
  rcases hc.run w hw with ⟨h1, h2⟩ | ⟨v, w', h1, h2, t, h3, h4⟩
  · exact .inl ⟨h1, h2.mono fun e w' ⟨ht, t, he, hK⟩ => ⟨ht, t, he, hk t _ hK⟩⟩
  · exact .inr ⟨v, w', h1, h2, t, h3, hk t _ h4⟩
theorem Join.intro {T : Type} {rest : T → Heap → Prop} {k : (T → Heap → Prop) → Prop} (J : T → Heap → Prop) (h1 : ∀ R : T → Heap → Prop, (∀ t h, J t h → R t h) → k R) (h2 : ∀ t h, J t h → rest t h) : Join rest k := ⟨h1 rest h2⟩
theorem Join.plain {T : Type} {rest : T → Heap → Prop} {k : (T → Heap → Prop) → Prop} (h : k rest) : Join rest k := ⟨h⟩
/-- **A loop**: what holds at its head, and what grows less from round to round. -/
theorem LoopP.intro {T : Type} {F : (T → Heap → Prop) → T → Heap → Prop} {t : T} {h : Heap} (Inv : T → Heap → Prop) (m : T → Heap → Nat) (h0 : Inv t h)
    (step : ∀ I : T → Heap → Prop, ∀ t h, Inv t h → (∀ t' h', Inv t' h' → m t' h' < m t h → I t' h') → F I t h) : LoopP F t h := by
  refine ⟨fun I hI => ?_⟩
  have key : ∀ n t h, m t h = n → Inv t h → I t h := by
    intro n
    induction n using Nat.strongRecOn with
    | _ n ih => exact fun t h hn hi => hI t h (step I t h hi fun t' h' hi' hlt => ih _ (hn ▸ hlt) t' h' rfl hi')
  exact key _ t h rfl h0
/-- A loop whose rounds hang on something that is not told in its registers. -/
theorem LoopP.ghost {T G : Type} {F : (T → Heap → Prop) → T → Heap → Prop} {t : T} {h : Heap} (Inv : G → T → Heap → Prop) (m : G → Nat) (g : G) (h0 : Inv g t h)
    (step : ∀ I : T → Heap → Prop, ∀ g t h, Inv g t h → (∀ g' t' h', Inv g' t' h' → m g' < m g → I t' h') → F I t h) : LoopP F t h := by
  refine ⟨fun I hI => ?_⟩
  have key : ∀ n g t h, m g = n → Inv g t h → I t h := by
    intro n
    induction n using Nat.strongRecOn with
    | _ n ih => exact fun g t h hn hi => hI t h (step I g t h hi fun g' t' h' hi' hlt => ih _ (hn ▸ hlt) g' t' h' rfl hi')
  exact key _ g t h rfl h0

theorem HV.mk' {P : Program} {f : FuncId} {first cap : Array Value} {args : List Value} {ks : List Kind} {K : Tup ks → Heap → Prop} {h : Heap} (hc : HC P f (first.toList ++ args ++ cap.toList) ks K h) : HV P (.func (.func f) first cap) args ks K h :=
  ⟨.inl ⟨f, first, cap, rfl, hc⟩⟩

/-! ### Addresses and cells -/
@[simp] theorem adr_mk (b o n : Nat) : adr ⟨b, o, none⟩ n = ⟨b, o + n, none⟩ := by
  cases n <;> rfl
@[simp] theorem adr_block (a : Addr) (n : Nat) : (adr a n).block = a.block := by
  cases n <;> rfl
theorem newA_eq (h : Heap) : newA h = ⟨h.size, 0, none⟩ := rfl
theorem hcell_lt {h : Heap} {a : Addr} {v : Value} (hv : hcell h a = some v) : a.block < h.size := by
  unfold hcell at hv
  rcases Nat.lt_or_ge a.block h.size with hl | hl
  · exact hl
  · rw [Array.getElem?_eq_none hl] at hv; cases hv
theorem hcell_blk {h : Heap} {b i : Nat} {c : Array Value} {e : TypeId} {fr : Nat × Nat} (hb : h[b]? = some (.cells c e fr)) : hcell h ⟨b, i, none⟩ = c[i]? := by
  unfold hcell; rw [hb]; rfl
theorem hcell_newA {h h' : Heap} {c : Array Value} {e : TypeId} {fr : Nat × Nat} (hb : h'[h.size]? = some (.cells c e fr)) (i : Nat) : hcell h' (adr (newA h) i) = c[i]? := by
  rw [newA_eq, adr_mk, hcell_blk hb, Nat.zero_add]
theorem hcell_newA0 {h h' : Heap} {c : Array Value} {e : TypeId} {fr : Nat × Nat} (hb : h'[h.size]? = some (.cells c e fr)) : hcell h' (newA h) = c[0]? := by
  rw [newA_eq, hcell_blk hb]
theorem hcell_same {h h' : Heap} {a : Addr} (hb : h'[a.block]? = h[a.block]?) : hcell h' a = hcell h a := by
  unfold hcell; rw [hb]
theorem hset_blk {h : Heap} {b i : Nat} {c : Array Value} {e : TypeId} {fr : Nat × Nat} {v : Value} (hb : h[b]? = some (.cells c e fr)) :
    hset h ⟨b, i, none⟩ v = h.setIfInBounds b (.cells (c.setIfInBounds i v) e fr) := by
  unfold hset
  apply Array.ext_getElem?
  intro j
  rw [Array.getElem?_modify, Array.getElem?_setIfInBounds]
  by_cases hj : b = j
  · subst hj
    have hlt := (Array.getElem?_eq_some_iff.1 hb).1
    simp only [hb, if_true, hlt, Option.map_some]; rfl
  · simp [hj]
theorem wr_blk {h : Heap} {b i : Nat} {c : Array Value} {e : TypeId} (hb : h[b]? = some (.cells c e (0, 0))) (hi : i < c.size) : Wr h ⟨b, i, none⟩ := by
  refine ⟨⟨c[i], by rw [hcell_blk hb, Array.getElem?_eq_getElem hi]⟩, ?_⟩
  unfold hfrozen; rw [hb]; simp

/-! ### What stays -/
/-- No block goes; those that were there stay as they are, but for some. -/
structure Upd (M : Nat → Prop) (h h' : Heap) : Prop where
  size : h.size ≤ h'.size
  same : ∀ b, b < h.size → ¬ M b → h'[b]? = h[b]?
abbrev No : Nat → Prop := fun _ => False
theorem Upd.refl (M : Nat → Prop) (h : Heap) : Upd M h h := ⟨Nat.le_refl _, fun _ _ _ => rfl⟩
theorem Upd.trans {M M' : Nat → Prop} {h h1 h2 : Heap} (k : Upd M h h1) (l : Upd M' h1 h2) (hs : ∀ b, M' b → M b ∨ h.size ≤ b) : Upd M h h2 :=
  ⟨Nat.le_trans k.size l.size, fun b hb hn => by
    rw [l.same b (Nat.lt_of_lt_of_le hb k.size) (fun hm => (hs b hm).elim hn fun hge => absurd hb (Nat.not_lt.2 hge)), k.same b hb hn]⟩
theorem Upd.tr {M : Nat → Prop} {h h1 h2 : Heap} (k : Upd M h h1) (l : Upd M h1 h2) : Upd M h h2 := k.trans l fun _ h => .inl h
theorem Upd.mono {M M' : Nat → Prop} {h h' : Heap} (k : Upd M h h') (hs : ∀ b, M b → M' b ∨ h.size ≤ b) : Upd M' h h' :=
  ⟨k.size, fun b hb hn => k.same b hb fun hm => (hs b hm).elim hn fun hge => absurd hb (Nat.not_lt.2 hge)⟩
theorem Upd.wide {M : Nat → Prop} {h h' : Heap} (k : Upd No h h') : Upd M h h' := k.mono fun _ h => h.elim
theorem Upd.get {M : Nat → Prop} {h h' : Heap} (k : Upd M h h') {b : Nat} {o : Obj} (ho : h[b]? = some o) (hn : ¬ M b) : h'[b]? = some o := by
  rw [k.same b (Array.getElem?_eq_some_iff.1 ho).1 hn, ho]
theorem Upd.get0 {h h' : Heap} (k : Upd No h h') {b : Nat} {o : Obj} (ho : h[b]? = some o) : h'[b]? = some o := k.get ho id
theorem Upd.cell {M : Nat → Prop} {h h' : Heap} (k : Upd M h h') {a : Addr} {v : Value} (hv : hcell h a = some v) (hn : ¬ M a.block) : hcell h' a = some v := by
  rw [hcell_same (k.same _ (hcell_lt hv) hn), hv]
theorem Upd.cell0 {h h' : Heap} (k : Upd No h h') {a : Addr} {v : Value} (hv : hcell h a = some v) : hcell h' a = some v := k.cell hv id
theorem Upd.push (M : Nat → Prop) (h : Heap) (o : Obj) : Upd M h (h.push o) := ⟨by simp, fun b hb _ => by rw [Array.getElem?_push]; simp [Nat.ne_of_lt hb]⟩
theorem Upd.set {M : Nat → Prop} (h : Heap) {b : Nat} (o : Obj) (hb : M b) : Upd M h (h.setIfInBounds b o) := ⟨by simp, fun c _ hn => by
  rw [Array.getElem?_setIfInBounds]
  have : b ≠ c := fun e => hn (e ▸ hb)
  simp [this]⟩
theorem Upd.hset {M : Nat → Prop} (h : Heap) {a : Addr} (v : Value) (hb : M a.block) : Upd M h (hset h a v) := ⟨by simp [Go.Lift.hset], fun c _ hn => by
  unfold Go.Lift.hset
  rw [Array.getElem?_modify]
  have : a.block ≠ c := fun e => hn (e ▸ hb)
  simp [this]⟩
theorem Upd.hnew (M : Nat → Prop) (h : Heap) (cs : List Value) (t : TypeId) : Upd M h (hnew h cs t) := Upd.push M h _
theorem hnew_get (h : Heap) (cs : List Value) (t : TypeId) : (hnew h cs t)[h.size]? = some (.cells cs.toArray t (0, 0)) := by
  unfold hnew; simp
theorem push_get (h : Heap) (o : Obj) : (h.push o)[h.size]? = some o := by simp
theorem hnew_size (h : Heap) (cs : List Value) (t : TypeId) : (hnew h cs t).size = h.size + 1 := by
  unfold hnew; simp
theorem set_get {h : Heap} {b : Nat} {o o' : Obj} (hb : h[b]? = some o') : (h.setIfInBounds b o)[b]? = some o := by
  rw [Array.getElem?_setIfInBounds]
  simp [(Array.getElem?_eq_some_iff.1 hb).1]
theorem get_lt {h : Heap} {b : Nat} {o : Obj} (hb : h[b]? = some o) : b < h.size := (Array.getElem?_eq_some_iff.1 hb).1

/-! ### Slices -/
theorem row_nil {h : Heap} {a : Addr} : Row h a [] := fun i v hv => by simp at hv
theorem Row.upd {M : Nat → Prop} {h h' : Heap} {a : Addr} {vs : List Value} (hr : Row h a vs) (k : Upd M h h') (hn : ¬ M a.block) : Row h' a vs := fun i v hv => k.cell (hr i v hv) (by rw [adr_block]; exact hn)
theorem SRow.upd {M : Nat → Prop} {h h' : Heap} {a : Option Addr} {n : Nat} {vs : List Value} (hr : SRow h a n vs) (k : Upd M h h') (hn : vs ≠ [] → ∀ b, a = some b → ¬ M b.block) : SRow h' a n vs := by
  obtain ⟨h1, h2⟩ := hr
  refine ⟨h1, ?_⟩
  rcases h2 with rfl | ⟨b, hb, hr⟩
  · exact .inl rfl
  · by_cases hv : vs = []
    · exact .inl hv
    · exact .inr ⟨b, hb, hr.upd k (hn hv b hb)⟩
theorem row_blk {h : Heap} {b o : Nat} {c : Array Value} {e : TypeId} {fr : Nat × Nat} (hb : h[b]? = some (.cells c e fr)) {vs : List Value} (hv : ∀ i v, vs[i]? = some v → c[o + i]? = some v) : Row h ⟨b, o, none⟩ vs := fun i v hi => by
  rw [adr_mk, hcell_blk hb]; exact hv i v hi
/-- A slice, its elements laid out by f in sz cells each; in none of some blocks. -/
structure Sl {α : Type} (f : α → List Value) (sz : Nat) (W : Nat → Prop) (h : Heap) (s : SliceV) (xs : List α) : Prop where
  len : s.len = xs.length
  ne : ∀ x, (f x).length = sz ∧ 0 < sz
  row : xs ≠ [] → ∃ a, s.a = some a ∧ ¬ W a.block ∧ Row h a (xs.flatMap f)
theorem Sl.nil {α : Type} {f : α → List Value} {sz : Nat} {W : Nat → Prop} {h : Heap} {a : Option Addr} {c : Nat} (hf : ∀ x, (f x).length = sz ∧ 0 < sz) : Sl f sz W h ⟨a, 0, c⟩ [] := ⟨rfl, hf, fun h => absurd rfl h⟩
theorem Sl.lt {α : Type} {f : α → List Value} {sz : Nat} {W : Nat → Prop} {h : Heap} {s : SliceV} {xs : List α} (hs : Sl f sz W h s xs) (hx : xs ≠ []) {a : Addr} (ha : s.a = some a) : a.block < h.size := by
  obtain ⟨a', ha', hn, hr⟩ := hs.row hx
  rw [ha] at ha'; cases ha'
  cases xs with
  | nil => exact absurd rfl hx
  | cons x xs =>
    have h1 := hs.ne x
    cases hf : f x with
    | nil => rw [hf] at h1; simp at h1; omega
    | cons v vs =>
      have := hr 0 v (by rw [List.flatMap_cons, hf]; rfl)
      have := hcell_lt this
      rw [adr_block] at this; exact this
theorem Sl.upd {α : Type} {f : α → List Value} {sz : Nat} {W M : Nat → Prop} {h h' : Heap} {s : SliceV} {xs : List α} (hs : Sl f sz W h s xs) (k : Upd M h h') (hm : ∀ b, M b → W b ∨ h.size ≤ b) : Sl f sz W h' s xs := by
  refine ⟨hs.len, hs.ne, fun hx => ?_⟩
  obtain ⟨a, ha, hn, hr⟩ := hs.row hx
  exact ⟨a, ha, hn, hr.upd k fun hb => (hm _ hb).elim hn fun hge => absurd (hs.lt hx ha) (Nat.not_lt.2 hge)⟩
/-- Other blocks: those that are left out now were left out, or were not there. -/
theorem Sl.less {α : Type} {f : α → List Value} {sz : Nat} {W W' : Nat → Prop} {h : Heap} {s : SliceV} {xs : List α} (hs : Sl f sz W h s xs) (hm : ∀ b, W' b → W b ∨ h.size ≤ b) : Sl f sz W' h s xs :=
  ⟨hs.len, hs.ne, fun hx => let ⟨a, ha, hn, hr⟩ := hs.row hx; ⟨a, ha, fun hb => (hm _ hb).elim hn fun hge => absurd (hs.lt hx ha) (Nat.not_lt.2 hge), hr⟩⟩
theorem flatMap_len {α : Type} {f : α → List Value} {sz : Nat} (hsz : ∀ x, (f x).length = sz) : ∀ xs : List α, (xs.flatMap f).length = xs.length * sz
  | [] => by simp
  | x :: xs => by rw [List.flatMap_cons, List.length_append, hsz, flatMap_len hsz xs, List.length_cons, Nat.succ_mul]; omega
theorem flatMap_get {α : Type} {f : α → List Value} {sz : Nat} (hsz : ∀ x, (f x).length = sz) : ∀ (xs : List α) (i j : Nat) (x : α), xs[i]? = some x → j < sz → (xs.flatMap f)[i * sz + j]? = (f x)[j]?
  | [], i, j, x, h, _ => by simp at h
  | y :: xs, 0, j, x, h, hj => by
    simp only [List.getElem?_cons_zero, Option.some.injEq] at h
    subst h
    rw [List.flatMap_cons, Nat.zero_mul, Nat.zero_add, List.getElem?_append_left (by rw [hsz]; exact hj)]
  | y :: xs, i + 1, j, x, h, hj => by
    rw [List.getElem?_cons_succ] at h
    rw [List.flatMap_cons, List.getElem?_append_right (by rw [hsz, Nat.succ_mul]; omega), hsz, show (i + 1) * sz + j - sz = i * sz + j by rw [Nat.succ_mul]; omega]
    exact flatMap_get hsz xs i j x h hj
/-- An element's cells. -/
theorem Sl.at {α : Type} {f : α → List Value} {sz : Nat} {W : Nat → Prop} {h : Heap} {s : SliceV} {xs : List α} (hs : Sl f sz W h s xs) {i : Nat} {x : α} (hi : xs[i]? = some x) :
    ∃ a, s.a = some a ∧ ¬ W a.block ∧ ∀ j v, (f x)[j]? = some v → hcell h (adr (adr a (i * sz)) j) = some v := by
  obtain ⟨a, ha, hn, hr⟩ := hs.row (fun e => by subst e; simp at hi)
  refine ⟨a, ha, hn, fun j v hv => ?_⟩
  have hj : j < sz := by rw [← (hs.ne x).1]; exact (List.getElem?_eq_some_iff.1 hv).1
  rw [adr_adr]
  exact hr _ v (by rw [flatMap_get (fun x => (hs.ne x).1) xs i j x hi hj]; exact hv)
theorem Sl.at0 {α : Type} {g : α → Value} {W : Nat → Prop} {h : Heap} {s : SliceV} {xs : List α} (hs : Sl (fun x => [g x]) 1 W h s xs) {i : Nat} {x : α} (hi : xs[i]? = some x) :
    ∃ a, s.a = some a ∧ ¬ W a.block ∧ hcell h (adr a (i * 1)) = some (g x) := by
  obtain ⟨a, ha, hn, hr⟩ := hs.at hi
  exact ⟨a, ha, hn, hr 0 _ rfl⟩
theorem Sl.srow {α : Type} {f : α → List Value} {sz : Nat} {W : Nat → Prop} {h : Heap} {s : SliceV} {xs : List α} (hs : Sl f sz W h s xs) : SRow h s.a (s.len * sz) (xs.flatMap f) := by
  refine ⟨?_, ?_⟩
  · rw [hs.len, flatMap_len fun x => (hs.ne x).1]
  · by_cases hx : xs = []
    · subst hx; exact .inl rfl
    · obtain ⟨a, ha, _, hr⟩ := hs.row hx
      exact .inr ⟨a, ha, hr⟩

/-- A part of a slice. -/
theorem Sl.sub {α : Type} {f : α → List Value} {sz : Nat} {W : Nat → Prop} {h : Heap} {s : SliceV} {xs : List α} (hs : Sl f sz W h s xs) {l hi m c : Nat} (h1 : l ≤ hi) (h2 : hi ≤ xs.length) (h3 : hi ≤ m) :
    Sl f sz W h ⟨subAddr s.a l m sz, hi - l, c⟩ ((xs.drop l).take (hi - l)) := by
  refine ⟨by simp only [List.length_take, List.length_drop]; omega, hs.ne, fun hx => ?_⟩
  have hlt : l < hi := by
    rcases Nat.lt_or_ge l hi with h | h
    · exact h
    · rw [Nat.sub_eq_zero_of_le h] at hx; exact absurd List.take_zero hx
  obtain ⟨a, ha, hn, hr⟩ := hs.row (fun e => by rw [e] at h2; simp at h2; omega)
  refine ⟨adr a (l * sz), ?_, by rw [adr_block]; exact hn, fun i v hv => ?_⟩
  · unfold subAddr
    rw [if_neg (by omega), ha]; rfl
  · rw [adr_adr]
    refine hr _ v ?_
    have e : xs = xs.take l ++ ((xs.drop l).take (hi - l) ++ (xs.drop l).drop (hi - l)) := by rw [List.take_append_drop, List.take_append_drop]
    rw [e, List.flatMap_append, List.flatMap_append]
    have hl : ((xs.take l).flatMap f).length = l * sz := by rw [flatMap_len fun x => (hs.ne x).1, List.length_take]; congr 1; omega
    rw [List.getElem?_append_right (by omega), hl, Nat.add_sub_cancel_left, List.getElem?_append_left (List.getElem?_eq_some_iff.1 hv).1]
    exact hv

/-! ### A slice of one's own: its block is known whole -/
structure OwnS {α : Type} (f : α → List Value) (sz : Nat) (t : TypeId) (M : Nat → Prop) (h : Heap) (s : SliceV) (xs : List α) : Prop where
  len : s.len = xs.length
  ne : ∀ x, (f x).length = sz ∧ 0 < sz
  cap : s.len ≤ s.cap
  blk : s.cap = 0 ∨ ∃ b rest, s.a = some ⟨b, 0, none⟩ ∧ M b ∧ h[b]? = some (.cells (xs.flatMap f ++ rest).toArray t (0, 0)) ∧ rest.length = (s.cap - s.len) * sz
theorem OwnS.nil {α : Type} {f : α → List Value} {sz : Nat} {t : TypeId} {M : Nat → Prop} {h : Heap} {a : Option Addr} (hf : ∀ x, (f x).length = sz ∧ 0 < sz) : OwnS f sz t M h ⟨a, 0, 0⟩ [] := ⟨rfl, hf, Nat.le_refl _, .inl rfl⟩
theorem OwnS.sl {α : Type} {f : α → List Value} {sz : Nat} {t : TypeId} {M W : Nat → Prop} {h : Heap} {s : SliceV} {xs : List α} (hs : OwnS f sz t M h s xs) (hm : ∀ b, M b → b < h.size → ¬ W b) : Sl f sz W h s xs := by
  refine ⟨hs.len, hs.ne, fun hx => ?_⟩
  rcases hs.blk with h0 | ⟨b, rest, ha, hb, hc, _⟩
  · have := hs.len; have := hs.cap
    have : xs.length = 0 := by omega
    exact absurd (List.length_eq_zero_iff.1 this) hx
  · exact ⟨_, ha, hm b hb (get_lt hc), row_blk hc fun i v hv => by
      rw [Nat.zero_add, List.getElem?_toArray, List.getElem?_append_left (List.getElem?_eq_some_iff.1 hv).1]; exact hv⟩
theorem OwnS.upd {α : Type} {f : α → List Value} {sz : Nat} {t : TypeId} {M M' : Nat → Prop} {h h' : Heap} {s : SliceV} {xs : List α} (hs : OwnS f sz t M h s xs) (k : Upd M' h h') (hm : ∀ b, M b → ¬ M' b) : OwnS f sz t M h' s xs := by
  refine ⟨hs.len, hs.ne, hs.cap, hs.blk.imp id fun ⟨b, rest, ha, hb, hc, hr⟩ => ⟨b, rest, ha, hb, k.get hc (hm b hb), hr⟩⟩
theorem OwnS.more {α : Type} {f : α → List Value} {sz : Nat} {t : TypeId} {M M' : Nat → Prop} {h : Heap} {s : SliceV} {xs : List α} (hs : OwnS f sz t M h s xs) (hm : ∀ b, M b → M' b) : OwnS f sz t M' h s xs := by
  refine ⟨hs.len, hs.ne, hs.cap, hs.blk.imp id fun ⟨b, rest, ha, hb, hc, hr⟩ => ⟨b, rest, ha, hm b hb, hc, hr⟩⟩
theorem OwnS.within {α : Type} {f : α → List Value} {sz : Nat} {t : TypeId} {M : Nat → Prop} {h : Heap} {s : SliceV} {xs : List α} (hs : OwnS f sz t M h s xs) : OwnS f sz t (fun b => M b ∧ b < h.size) h s xs := by
  refine ⟨hs.len, hs.ne, hs.cap, hs.blk.imp id fun ⟨b, rest, ha, hb, hc, hr⟩ => ⟨b, rest, ha, ⟨hb, get_lt hc⟩, hc, hr⟩⟩
/-- Cells written one behind the other into a block that is known. -/
theorem hsetL_blk {b : Nat} {t : TypeId} : ∀ (vs : List Value) (h : Heap) (i o : Nat) (c : List Value), h[b]? = some (.cells c.toArray t (0, 0)) → o + i + vs.length ≤ c.length →
    hsetL h ⟨b, o, none⟩ i vs = h.setIfInBounds b (.cells (c.take (o + i) ++ vs ++ c.drop (o + i + vs.length)).toArray t (0, 0))
  | [], h, i, o, c, hb, hl => by
    simp only [hsetL, List.append_nil, List.length_nil, Nat.add_zero, List.take_append_drop]
    apply Array.ext_getElem?
    intro j
    rw [Array.getElem?_setIfInBounds]
    split
    · rename_i e; subst e; rw [hb]; simp [get_lt hb]
    · rfl
  | v :: vs, h, i, o, c, hb, hl => by
    rw [List.length_cons] at hl
    simp only [hsetL]
    rw [adr_mk, hset_blk hb]
    have hb' : (h.setIfInBounds b (.cells (c.toArray.setIfInBounds (o + i) v) t (0, 0)))[b]? = some (.cells (c.set (o + i) v).toArray t (0, 0)) := by
      rw [set_get hb]; simp
    rw [hsetL_blk vs _ (i + 1) o (c.set (o + i) v) hb' (by simp; omega)]
    have e : ∀ (x y : Obj), (h.setIfInBounds b x).setIfInBounds b y = h.setIfInBounds b y := fun x y => by
      apply Array.ext_getElem?; intro j
      simp only [Array.getElem?_setIfInBounds, Array.size_setIfInBounds]
      split <;> rfl
    rw [e]
    congr 3
    apply List.ext_getElem?
    intro j
    simp only [List.getElem?_append, List.length_append, List.length_take, List.length_set, List.length_cons, List.getElem?_take, List.getElem?_set, List.getElem?_drop]
    grind
theorem setIf_set (h : Heap) (b : Nat) (x y : Obj) : (h.setIfInBounds b x).setIfInBounds b y = h.setIfInBounds b y := by
  apply Array.ext_getElem?; intro j
  simp only [Array.getElem?_setIfInBounds, Array.size_setIfInBounds]
  split <;> rfl
theorem zrow_len (n : Nat) (z : List Value) : (zrow n z).length = n * z.length := by
  unfold zrow
  induction n with
  | zero => simp
  | succ n ih => rw [List.replicate_succ, List.flatten_cons, List.length_append, ih, Nat.succ_mul]; omega
/-- **Append to a slice of one's own.** -/
theorem AppP.own {α : Type} {f : α → List Value} {sz bytes : Nat} {t : TypeId} {M : Nat → Prop} {h : Heap} {base : Option Addr} {sl sc xl : Nat} {xs ys : List α} {ysv z : List Value} {K : SliceV → Heap → Prop}
    (hs : OwnS f sz t M h ⟨base, sl, sc⟩ xs) (hxl : xl = ys.length) (hys : ysv = ys.flatMap f) (hone : oneCell ysv = true) (hz : z.length = sz) (hb : 0 < bytes) (hfit : (xs.length + ys.length) * bytes ≤ 140737488355328) (hM : M h.size)
    (hk : ∀ s' h', OwnS f sz t M h' s' (xs ++ ys) → Upd M h h' → K s' h') : AppP (some z) sz bytes t base sl sc xl ysv h K := by
  have hlen : sl = xs.length := hs.len
  have hsz : ∀ x, (f x).length = sz := fun x => (hs.ne x).1
  subst hxl hys
  have hyl := flatMap_len hsz ys
  have hxl := flatMap_len hsz xs
  refine ⟨fun hin => ?_, fun hout => ?_⟩
  · rcases hs.blk with h0 | ⟨b, rest, ha, hb', hc, hr⟩
    · have h0 : sc = 0 := h0
      have hy0 : ys.length = 0 := by omega
      have hx0 : xs.length = 0 := by omega
      have hy := List.length_eq_zero_iff.1 hy0
      have hx := List.length_eq_zero_iff.1 hx0
      subst hy hx
      refine ⟨.inl rfl, rfl, ?_⟩
      have e : hsetS h base (sl * sz) (([] : List α).flatMap f) = h := by cases base <;> rfl
      rw [e]
      exact hk _ _ ⟨by simp [hlen], hs.ne, by simp only [List.length_nil]; omega, .inl h0⟩ (Upd.refl _ _)
    · have ha : base = some ⟨b, 0, none⟩ := ha
      have hr : rest.length = (sc - sl) * sz := hr
      subst ha
      have hin' : sl + ys.length ≤ sc := hin
      have hle : ys.length * sz ≤ rest.length := by rw [hr]; exact Nat.mul_le_mul_right _ (Nat.le_sub_of_add_le (show ys.length + sl ≤ sc by omega))
      have hbnd : 0 + sl * sz + (ys.flatMap f).length ≤ (xs.flatMap f ++ rest).length := by
        rw [List.length_append, hxl, hyl, hlen]; omega
      refine ⟨.inr ⟨_, rfl, fun j hj => ?_⟩, hone, ?_⟩
      · rw [adr_mk]
        refine wr_blk hc ?_
        rw [List.size_toArray]; omega
      · have e : hsetS h (some ⟨b, 0, none⟩) (sl * sz) (ys.flatMap f) = _ := hsetL_blk (ys.flatMap f) h (sl * sz) 0 _ hc hbnd
        rw [e]
        have htk : (xs.flatMap f ++ rest).take (0 + sl * sz) = xs.flatMap f := by
          rw [Nat.zero_add, hlen, ← hxl, List.take_append_of_le_length (Nat.le_refl _), List.take_length]
        have hdr : (xs.flatMap f ++ rest).drop (0 + sl * sz + (ys.flatMap f).length) = rest.drop (ys.length * sz) := by
          rw [Nat.zero_add, hlen, ← hxl, List.drop_append, List.drop_eq_nil_of_le (by omega), List.nil_append, hyl]; congr 1; omega
        rw [htk, hdr]
        refine hk _ _ ⟨by simp [hlen], hs.ne, hin, .inr ⟨b, rest.drop (ys.length * sz), rfl, hb', ?_, ?_⟩⟩ (Upd.set h _ hb')
        · rw [set_get hc, List.flatMap_append]
        · rw [List.length_drop, hr]
          simp only
          rw [show sc - (sl + ys.length) = (sc - sl) - ys.length by omega, Nat.sub_mul (sc - sl)]
  · have hcs : sc * 1 ≤ sc := by omega
    refine ⟨xs.flatMap f, z, ?_, rfl, hb, Go.growslice_fits hout (by rw [hlen]; exact hfit), fun nc hnc => ?_⟩
    · exact (hs.sl (W := No) fun _ _ _ => id).srow
    · refine hk _ _ ⟨by simp [hlen], hs.ne, hnc, .inr ⟨h.size, zrow (nc - (sl + ys.length)) z, rfl, hM, ?_, ?_⟩⟩ (Upd.hnew M h _ _)
      · rw [hnew_get, List.flatMap_append]
      · rw [zrow_len, hz]
end Go.Lift
