/- A part of the proof that the named laws of this program answer true, whatever the input. -/
import Derived.Test.YtjkhbpjhngfpaaaGreatPart4
import Derived.Test.YtjkhbpjhngfpaaaGreatLaw0
namespace Go.Proofs
open Go Go.Lift
theorem condP_and {b x : Bool} {K : Bool → Heap → Prop} {h : Heap} (hk : K (b && x) h) : CondP b (K x h) (K false h) := by
  cases b
  · exact condP_false.2 hk
  · exact condP_true.2 hk
def likeB (t u : Tr) : Bool := (t.1 == u.1) && ((((t.2.1 == u.2.1) && ((t.2.2.1 == u.2.2.1) && true))) && ((t.2.2.2.1 == u.2.2.2.1) && true))
theorem tLike_ok {t u : Tr} {h : Heap} {K : Bool → Heap → Prop} (hk : ∀ h', Upd No h h' → K (likeB t u) h') : HC PG f_tree_Like [trV t, trV u] [.c .bool] K h := by
  refine H_tree_Like t u ?_
  unfold F_tree_Like
  refine at_new fun h1 b1 k1 => at_new fun h2 b2 k2 => ?_
  have c1 := k2.get0 b1
  refine ⟨_, vc c1 0, _, vc b2 0, ?_⟩
  have := hk h2 (k1.tr k2)
  unfold likeB at this
  rcases hb : (t.1 == u.1) with _ | _
  · rw [hb] at this
    exact condP_false.2 this
  · rw [hb] at this
    exact condP_true.2 ⟨_, vc2 c1 1 0, _, vc2 c1 1 1, _, vc2 c1 1 2, _, vc2 b2 1 0, _, vc2 b2 1 1, _, vc2 b2 1 2, this⟩
theorem tChamp_ok {W : Nat → Prop} {x : Hs} {h : Heap} {b : Nat} {l : List Pr} (t : TrieAt W x h 13 b l) {K : Option Addr → Heap → Prop} (hk : ∀ h', Upd No h h' → K (some ⟨b, 0, none⟩) h') : HC PG f_tree_Tree_Champ [trV (0, x.k0, x.k1, x.mask, some ⟨b, 0, none⟩, none)] [.c .ptr] K h := by
  refine H_tree_Tree_Champ (0, x.k0, x.k1, x.mask, some ⟨b, 0, none⟩, none) ?_
  unfold F_tree_Tree_Champ
  refine at_new fun h1 b1 k1 => ?_
  refine Join.intro (fun t h' => t = false ∧ h' = h1) (fun R hR => ⟨_, vc b1 0, condP_true.2 ⟨_, vc b1 4, hR _ _ ⟨rfl, rfl⟩⟩⟩) ?_
  rintro t h' ⟨rfl, rfl⟩
  exact condP_false.2 ⟨_, vc b1 4, hk h' k1⟩
/-- How a tree looks. -/
def TreeV (kind : Int) (x : Hs) (l : List Pr) (xs : List UInt8) : Prop := (kind = 0 ∧ xs = 0 :: shapeV x 13 l) ∨ (kind = 1 ∧ ∃ ys, RadV l ys ∧ xs = 1 :: ys)
theorem byteOne {h h1 : Heap} {b : UInt8} (hb : h1[h.size]? = some (.cells #[.int .u8 (b.toNat : Int)] t_u8 (0, 0))) : OwnS byF 1 t_u8 (fun y => h.size ≤ y) h1 ⟨some ⟨h.size, 0, none⟩, 1, 1⟩ [b] := ⟨rfl, byF_ne, Nat.le_refl _, .inr ⟨h.size, [], rfl, Nat.le_refl _, hb, rfl⟩⟩
theorem tShape_ok {W : Nat → Prop} {x : Hs} {h : Heap} {kind : Int} {t : Tr} {l : List Pr} (i : TreeIs W h kind x t l) (hr : Rises l) (hf : Fit l) (hn : l.length ≤ 60000) {K : SliceV → Heap → Prop}
    (hk : ∀ s' h' xs, TreeV kind x l xs → OwnS byF 1 t_u8 (fun y => h.size ≤ y) h' s' xs → Upd No h h' → K s' h') : HC PG f_tree_Tree_Shape [trV t] [.c .slice] K h := by
  refine H_tree_Tree_Shape t ?_
  unfold F_tree_Tree_Shape
  refine at_new fun h1 b1 k1 => ?_
  have z1 := k1.size
  have app : ∀ {b : UInt8} {h2 h3 : Heap} {s : SliceV} {xs : List UInt8}, h2[h1.size]? = some (.cells #[.int .u8 (b.toNat : Int)] t_u8 (0, 0)) → Upd No h1 h2 → OwnS byF 1 t_u8 (fun y => h2.size ≤ y) h3 s xs → Upd No h2 h3 → xs.length ≤ 70000000000000 → TreeV kind x l (b :: xs) →
      ∃ xs7, SRow h3 s.a (s.len * 1) xs7 ∧ AppP (some [.int .u8 0]) 1 1 t_u8 (some (newA h1)) 1 1 s.len xs7 h3 (fun s8 h9 => K s8 h9) := fun {b h2 h3 s xs} hb k2 ho k3 hl hv => by
    refine ⟨_, (ho.sl (W := No) fun _ _ _ h => h).srow, ?_⟩
    have k13 := k2.tr k3
    have hz := get_lt hb
    have o1 : OwnS byF 1 t_u8 (fun y => h.size ≤ y) h3 ⟨some ⟨h1.size, 0, none⟩, 1, 1⟩ [b] := ((byteOne hb).upd k3 fun _ _ h => h).more fun y hy => by omega
    refine AppP.own (ys := xs) o1 ho.len rfl (one_byF _) rfl (by omega) (by simp only [List.length_singleton]; omega) (by have := k13.size; omega) fun s' h' ho' hu' => ?_
    exact hk s' h' _ hv ho' ((k1.tr k13).trans hu' fun y hy => .inr hy)
  rcases i with ⟨rfl, b, rfl, t⟩ | ⟨rfl, b, rfl, t⟩
  · refine ⟨_, vc b1 0, condP_false.2 (at_new fun h2 b2 k2 => ?_)⟩
    have c1 := k2.get0 b1
    refine ⟨_, vc c1 0, _, vc c1 1, _, vc c1 2, _, vc c1 3, _, vc c1 4, _, vc c1 5, ?_⟩
    refine tChamp_ok (TrieAt.upd0 (k1.tr k2) t) fun h3 k3 => ?_
    refine shOf_ok (TrieAt.upd0 ((k1.tr k2).tr k3) t) hf hn fun s4 h4 ho4 k4 => ?_
    have z3 := k3.size
    have hlen := shapeV_len (x := x) 13 hf
    have hb : l.length * (20004 + 9 * (13 + 1)) ≤ 60000 * (20004 + 9 * (13 + 1)) := Nat.mul_le_mul_right _ hn
    exact app (b := 0) b2 k2 (ho4.more fun y hy => by omega) (k3.tr k4) (by omega) (.inl ⟨rfl, rfl⟩)
  · refine ⟨_, vc b1 0, condP_true.2 (at_new fun h2 b2 k2 => ?_)⟩
    have c1 := k2.get0 b1
    refine ⟨_, vc c1 5, ?_⟩
    refine radShape_ok (t.upd0 (k1.tr k2)) hr hf hn fun s4 h4 xs hv ho4 k4 => ?_
    have hlen := radV_len hv hf
    have hb : 2 * l.length * 20010 ≤ 2 * 60000 * 20010 := Nat.mul_le_mul_right _ (by omega)
    exact app (b := 1) b2 k2 ho4 k4 (by omega) (.inr ⟨rfl, xs, hv, rfl⟩)
theorem like_kind {W W' : Nat → Prop} {h h' : Heap} {kind kind' : Int} {x x' : Hs} {t u : Tr} {l l' : List Pr} (i : TreeIs W h kind x t l) (i' : TreeIs W' h' kind' x' u l') (hl : likeB t u = true) : kind = kind' ∧ (kind = 0 → x = x') := by
  rcases i with ⟨rfl, b, rfl, _⟩ | ⟨rfl, b, rfl, _⟩ <;> rcases i' with ⟨rfl, b', rfl, _⟩ | ⟨rfl, b', rfl, _⟩
  · refine ⟨rfl, fun _ => ?_⟩
    unfold likeB at hl
    simp only [Bool.and_eq_true, beq_iff_eq, Bool.and_true, true_and] at hl
    cases x; cases x'
    simp only at hl
    simp only [Hs.mk.injEq]
    exact ⟨hl.1.1, hl.1.2, hl.2⟩
  · simp [likeB] at hl
  · simp [likeB] at hl
  · exact ⟨rfl, fun h => by cases h⟩
theorem treeV_eq {kind : Int} {x x' : Hs} (hx : kind = 0 → x = x') {l l' : List Pr} {xs xs' : List UInt8} (hv : TreeV kind x l xs) (hv' : TreeV kind x' l' xs') (hf : Fit l) (hf' : Fit l') (hn : l.length ≤ 60000) (hn' : l'.length ≤ 60000) (hr : Rises l) (hr' : Rises l') : xs = xs' ↔ l = l' := by
  rcases hv with ⟨rfl, rfl⟩ | ⟨rfl, ys, hv, rfl⟩ <;> rcases hv' with ⟨e, rfl⟩ | ⟨e, ys', hv', rfl⟩
  · rw [hx rfl]
    constructor
    · intro h
      have h : shapeV x' 13 l ++ [] = shapeV x' 13 l' ++ [] := by rw [(List.cons.inj h).2]
      exact (shapeV_inj 13 hf hf' hn hn' hr hr' h).1
    · rintro rfl; rfl
  · cases e
  · cases e
  · rw [List.cons.injEq, ← radV_eq hv hv' hf hf']
    exact ⟨fun h => h.2, fun h => ⟨rfl, h⟩⟩
theorem tSame_ok {W W' : Nat → Prop} {x x' : Hs} {h : Heap} {kind kind' : Int} {t u : Tr} {l l' : List Pr} (i : TreeIs W h kind x t l) (i' : TreeIs W' h kind' x' u l') (hr : Rises l) (hf : Fit l) (hn : l.length ≤ 60000) (hr' : Rises l') (hf' : Fit l') (hn' : l'.length ≤ 60000) {K : Bool → Heap → Prop}
    (hk : ∀ h', Upd No h h' → K (likeB t u && decide (l = l')) h') : HC PG f_tree_Same [trV t, trV u] [.c .bool] K h := by
  refine H_tree_Same t u ?_
  unfold F_tree_Same
  refine at_new fun h1 b1 k1 => at_new fun h2 b2 k2 => ?_
  have c1 := k2.get0 b1
  refine ⟨_, vc c1 0, _, vc c1 1, _, vc c1 2, _, vc c1 3, _, vc c1 4, _, vc c1 5, _, vc b2 0, _, vc b2 1, _, vc b2 2, _, vc b2 3, _, vc b2 4, _, vc b2 5, ?_⟩
  refine tLike_ok fun h3 k3 => ?_
  have k03 := (k1.tr k2).tr k3
  have c3 := k3.get0 c1
  have b3 := k3.get0 b2
  rcases hl : likeB t u with _ | _
  · rw [hl] at hk
    exact condP_false.2 (hk h3 k03)
  · rw [hl] at hk
    refine condP_true.2 ⟨_, vc c3 0, _, vc c3 1, _, vc c3 2, _, vc c3 3, _, vc c3 4, _, vc c3 5, _, vc b3 0, _, vc b3 1, _, vc b3 2, _, vc b3 3, _, vc b3 4, _, vc b3 5, ?_⟩
    refine tShape_ok (i.upd0 k03) hr hf hn fun s4 h4 xs hv ho4 k4 => ?_
    have b4 := k4.get0 b3
    refine ⟨⟨vc b4 0, vc b4 1, vc b4 2, vc b4 3, vc b4 4, vc b4 5⟩, ?_⟩
    refine tShape_ok (i'.upd0 (k03.tr k4)) hr' hf' hn' fun s5 h5 ys hv' ho5 k5 => ?_
    have ho4' := ho4.upd k5 fun _ _ h => h
    refine bytesEq_ok (W := No) (W' := No) (ho4'.sl fun _ _ _ h => h) (ho5.sl fun _ _ _ h => h) ?_
    obtain ⟨rfl, hx⟩ := like_kind i i' hl
    have := hk h5 ((k03.tr k4).tr k5)
    rw [decide_eq_decide.2 (treeV_eq hx hv hv' hf hf' hn hn' hr hr')]
    exact this
theorem TreeIs.plain {W : Nat → Prop} {h : Heap} {kind : Int} {x : Hs} {t : Tr} {l : List Pr} (i : TreeIs W h kind x t l) : (∀ a, t.2.2.2.2.1 = some a → plainPtr h a) ∧ (∀ a, t.2.2.2.2.2 = some a → plainPtr h a) := by
  rcases i with ⟨rfl, b, rfl, t⟩ | ⟨rfl, b, rfl, t⟩
  · obtain ⟨s, nd, _⟩ := t
    obtain ⟨d, n, sp, sk, ow, hb, _⟩ := nd.ex
    refine ⟨fun a ha => ?_, fun a ha => (by cases ha)⟩
    cases ha
    exact ⟨_, _, hb, show 0 < 6 by decide⟩
  · obtain ⟨w, F, ⟨val, s, ow, ks, hb, _⟩, _⟩ := t.ex
    refine ⟨fun a ha => (by cases ha), fun a ha => ?_⟩
    cases ha
    exact ⟨_, _, hb, show 0 < 5 by decide⟩
def oneB (t u : Tr) : Bool := decide (t = u)
theorem tOne_ok {W W' : Nat → Prop} {x x' : Hs} {h : Heap} {kind kind' : Int} {t u : Tr} {l l' : List Pr} (i : TreeIs W h kind x t l) (i' : TreeIs W' h kind' x' u l') {K : Bool → Heap → Prop} (hk : ∀ h', Upd No h h' → K (decide (t = u)) h') : HC PG f_tree_One [trV t, trV u] [.c .bool] K h := by
  refine H_tree_One t u ?_
  unfold F_tree_One
  refine at_new fun h1 b1 k1 => at_new fun h2 b2 k2 => ?_
  have c1 := k2.get0 b1
  have p1 := (i.upd0 (k1.tr k2)).plain
  have p2 := (i'.upd0 (k1.tr k2)).plain
  refine ⟨_, vc c1 0, _, vc c1 1, _, vc c1 2, _, vc c1 3, _, vc c1 4, _, vc c1 5, _, vc b2 0, _, vc b2 1, _, vc b2 2, _, vc b2 3, _, vc b2 4, _, vc b2 5, ⟨⟨fun y z hy hz => ⟨p1.1 y hy, p2.1 z hz⟩, fun y z hy hz => ⟨p1.2 y hy, p2.2 z hz⟩, trivial⟩, ?_⟩⟩
  have e : ((t.1 == u.1) && ((((((t.2.1 == u.2.1) && ((t.2.2.1 == u.2.2.1) && true))) && ((t.2.2.2.1 == u.2.2.2.1) && true))) && ((t.2.2.2.2.1 == u.2.2.2.2.1) && ((t.2.2.2.2.2 == u.2.2.2.2.2) && true)))) = decide (t = u) := by
    obtain ⟨a, b, c, d, e, f⟩ := t
    obtain ⟨a', b', c', d', e', f'⟩ := u
    rw [Bool.eq_iff_iff]
    simp only [Bool.and_eq_true, beq_iff_eq, decide_eq_true_iff, Prod.mk.injEq, and_true]
    constructor
    · rintro ⟨h1, ⟨⟨h2, h3⟩, h4⟩, h5, h6⟩; exact ⟨h1, h2, h3, h4, h5, h6⟩
    · rintro ⟨h1, h2, h3, h4, h5, h6⟩; exact ⟨h1, ⟨⟨h2, h3⟩, h4⟩, h5, h6⟩
  rw [e]
  exact hk h2 (k1.tr k2)
end Go.Proofs
namespace Go.Proofs
open Go Go.Lift
theorem less_diff : ∀ {x y : List UInt8} {i : Nat} {a b : UInt8}, (∀ j, j < i → x[j]? = y[j]?) → x[i]? = some a → y[i]? = some b → a ≠ b → Op.bytesLess x y = decide (a.toNat < b.toNat)
  | [], _, _, _, _, _, h, _, _ => by simp at h
  | _ :: _, [], _, _, _, _, _, h, _ => by simp at h
  | c :: x, d :: y, 0, a, b, _, h1, h2, hne => by
    simp only [List.getElem?_cons_zero, Option.some.injEq] at h1 h2
    subst h1 h2
    simp only [Op.bytesLess]
    rw [beq_false_of_ne hne]
    simp [UInt8.lt_iff_toNat_lt]
  | c :: x, d :: y, i + 1, a, b, he, h1, h2, hne => by
    have e := he 0 (by omega)
    simp only [List.getElem?_cons_zero, Option.some.injEq] at e
    subst e
    simp only [List.getElem?_cons_succ] at h1 h2
    simp only [Op.bytesLess]
    rw [less_diff (i := i) (fun j hj => by simpa using he (j + 1) (by omega)) h1 h2 hne]
    simp [UInt8.lt_irrefl]
theorem less_same : ∀ {x y : List UInt8} {i : Nat}, (∀ j, j < i → x[j]? = y[j]?) → i ≤ x.length → i ≤ y.length → (i = x.length ∨ i = y.length) → Op.bytesLess x y = decide (x.length < y.length)
  | [], [], _, _, _, _, _ => by simp [Op.bytesLess]
  | [], _ :: _, _, _, _, _, _ => by simp [Op.bytesLess]
  | _ :: _, [], _, _, _, _, _ => by simp [Op.bytesLess]
  | c :: x, d :: y, 0, _, _, _, h => by simp at h
  | c :: x, d :: y, i + 1, he, h1, h2, h3 => by
    have e := he 0 (by omega)
    simp only [List.getElem?_cons_zero, Option.some.injEq] at e
    subst e
    simp only [Op.bytesLess]
    rw [less_same (i := i) (fun j hj => by simpa using he (j + 1) (by omega)) (by simpa using h1) (by simpa using h2) (by simpa using h3)]
    simp [UInt8.lt_irrefl]
theorem rLess_ok {a b : ByteArray} (ha : a.size ≤ 1000000) {h : Heap} {K : Bool → Heap → Prop} (hk : K (decide (kl a b)) h) : HC PG f_r03_Less [.string a, .string b] [.c .bool] K h := by
  refine H_r03_Less a b ?_
  unfold F_r03_Less
  have la : a.data.toList.length = a.size := by simp
  have lb : b.data.toList.length = b.size := by simp
  have hkl : ∀ {p : Prop} [Decidable p], Op.bytesLess a.data.toList b.data.toList = decide p → K (decide p) h := fun {p} _ e => by
    have : decide (kl a b) = decide p := by
      rw [← e, ← ByteArray.toList_eq, ← ByteArray.toList_eq]
      exact Bool.eq_iff_iff.2 (by rw [decide_eq_true_iff]; exact Iff.rfl)
    rw [← this]; exact hk
  refine LoopP.ghost (fun (i : Nat) (t : Int) h' => t = (i : Int) ∧ i ≤ a.size ∧ i ≤ b.size ∧ h' = h ∧ ∀ j, j < i → a.data.toList[j]? = b.data.toList[j]?) (fun i => a.size - i) 0 ⟨rfl, Nat.zero_le _, Nat.zero_le _, rfl, fun j hj => absurd hj (Nat.not_lt_zero _)⟩ ?_
  rintro I i t h' ⟨rfl, hia, hib, rfl, he⟩ hI
  refine Join.intro (fun t h2 => t = decide (i < a.size ∧ i < b.size) ∧ h2 = h') (fun R hR => ?_) ?_
  · refine condP_dec (fun hlt => hR _ _ ⟨?_, rfl⟩) fun hge => hR _ _ ⟨?_, rfl⟩
    · rw [decide_eq_decide]; omega
    · rw [eq_comm, decide_eq_false_iff_not]; omega
  · rintro t h2 ⟨rfl, rfl⟩
    refine condP_dec (fun hlt => ?_) fun hge => ?_
    · have e1 : a.data.toList[i]? = some a[i] := by rw [← getB, getElem?_pos a i hlt.1]
      have e2 : b.data.toList[i]? = some b[i] := by rw [← getB, getElem?_pos b i hlt.2]
      refine ⟨a[i], by omega, by rw [Int.toNat_natCast, getElem?_pos a i hlt.1], b[i], by omega, by rw [Int.toNat_natCast, getElem?_pos b i hlt.2], ?_⟩
      refine CondP.intro (fun hne => ?_) fun heq => ?_
      · refine ⟨a[i], by omega, by rw [Int.toNat_natCast, getElem?_pos a i hlt.1], b[i], by omega, by rw [Int.toNat_natCast, getElem?_pos b i hlt.2], ?_⟩
        refine hkl ?_
        rw [less_diff he e1 e2 fun e => by rw [e] at hne; simp at hne]
        rw [decide_eq_decide]; omega
      · have heq : a[i] = b[i] := by
          have : ((a[i].toNat : Int)) = (b[i].toNat : Int) := by simpa using heq
          exact UInt8.toNat_inj.1 (by omega)
        rw [wrap_succ hlt.1 (by omega)]
        refine hI (i + 1) _ _ ⟨rfl, by omega, by omega, rfl, fun j hj => ?_⟩ (by omega)
        rcases Nat.lt_or_ge j i with hl | hl
        · exact he j hl
        · have : j = i := by omega
          subst this
          rw [e1, e2, heq]
    · refine hkl ?_
      rw [less_same he (by omega) (by omega) (by omega), decide_eq_decide]; omega
abbrev zPrL : List Value := [.string (⟨#[]⟩ : ByteArray), .string (⟨#[]⟩ : ByteArray)]
/-- A variable of a pair, laid out and set. -/
theorem newPr {h : Heap} {t : TypeId} {p : Pr} {k : Heap → Prop} (hk : ∀ h', h'[h.size]? = some (.cells #[.string p.1, .string p.2] t (0, 0)) → Upd No h h' → k h') :
    At (hnew h [.string (⟨#[]⟩ : ByteArray), .string (⟨#[]⟩ : ByteArray)] t) fun h8 => WrS h8 (some (newA h)) 0 [.string p.1, .string p.2] ∧ At (hsetL h8 (newA h) 0 [.string p.1, .string p.2]) k := by
  refine at_new fun h1 b1 k1 => ?_
  exact setAll (c := zPrL) (vs := [.string p.1, .string p.2]) b1 rfl fun h2 b2 hu2 => hk h2 b2 (k1.own hu2 (Nat.le_refl _))
/-- One more pair behind one's own. -/
theorem append1p {t : TypeId} {M : Nat → Prop} {h : Heap} {so : SliceV} {out : List Pr} {p : Pr} {K : SliceV → Heap → Prop} (ho : OwnS prF 2 t M h so out) (hM : ∀ b, h.size ≤ b → M b) (hn : out.length + 1 ≤ 1000000000)
    (hk : ∀ s' h', OwnS prF 2 t M h' s' (out ++ [p]) → Upd M h h' → K s' h') :
    ∃ xs, SRow (hnew h [.string p.1, .string p.2] t) (some (newA h)) (1 * 2) xs ∧ AppP (some [.string (⟨#[]⟩ : ByteArray), .string (⟨#[]⟩ : ByteArray)]) 2 32 t so.a so.len so.cap 1 xs (hnew h [.string p.1, .string p.2] t) K := by
  have k := Upd.hnew No h [.string p.1, .string p.2] t
  have h1 : OwnS prF 2 t (fun _ => True) (hnew h [.string p.1, .string p.2] t) ⟨some (newA h), 1, 1⟩ [p] := ⟨rfl, prF_ne, Nat.le_refl _, .inr ⟨h.size, [], rfl, trivial, hnew_get .., rfl⟩⟩
  refine ⟨_, (h1.sl (W := No) fun _ _ _ h => h).srow, ?_⟩
  refine AppP.own (ys := [p]) (ho.upd k fun _ _ h => h) rfl rfl rfl rfl (by omega) (by simp only [List.length_singleton]; omega) (hM _ (by rw [hnew_size]; omega)) fun s' h' ho' hu => ?_
  exact hk s' h' ho' ((Upd.hnew M h _ _).tr hu)
theorem rDrop_ok {W : Nat → Prop} {h : Heap} {s : SliceV} {l : List Pr} (hs : Sl prF 2 W h s l) (hn : l.length ≤ 1000000) (k : ByteArray) {K : SliceV → Heap → Prop}
    (hk : ∀ s' h', OwnS prF 2 t_r03_Pair (fun y => h.size ≤ y) h' s' (l.filter fun p => decide (p.1 ≠ k)) → Upd No h h' → K s' h') : HC PG f_r03_Drop [.slice s.a s.len s.cap, .string k] [.c .slice] K h := by
  refine H_r03_Drop s k ?_
  unfold F_r03_Drop
  have hlen := hs.len
  refine LoopP.ghost (fun (i : Nat) (t : SliceV × Int) h' => t.2 = (i : Int) ∧ i ≤ l.length ∧ OwnS prF 2 t_r03_Pair (fun y => h.size ≤ y) h' t.1 ((l.take i).filter fun p => decide (p.1 ≠ k)) ∧ Upd No h h') (fun i => l.length - i) 0 ⟨rfl, Nat.zero_le _, by simpa using OwnS.nil prF_ne, Upd.refl _ _⟩ ?_
  rintro I i ⟨so, ti⟩ h' ⟨e1, hi, ho, hu⟩ hI
  simp only at e1 ho
  subst e1
  refine condP_dec (fun hlt => ?_) fun hge => ?_
  · have hlt : i < l.length := by have : (i : Int) < (s.len : Int) := hlt; omega
    obtain ⟨a, ha, _, hv⟩ := (hs.upd hu fun _ h => h.elim).at (List.getElem?_eq_getElem hlt)
    have htl : ((l.take i).filter fun p => decide (p.1 ≠ k)).length ≤ l.length := Nat.le_trans (List.length_filter_le ..) (by rw [List.length_take]; omega)
    refine Join.intro (fun t h2 => OwnS prF 2 t_r03_Pair (fun y => h.size ≤ y) h2 t ((l.take (i + 1)).filter fun p => decide (p.1 ≠ k)) ∧ Upd No h h2) (fun R hR => ⟨⟨by simp only; omega, by simp only; omega⟩, a, ha, l[i].1, hv 0 _ rfl, l[i].2, hv 1 _ rfl, ?_⟩) ?_
    · refine newPr (p := l[i]) fun h2 b2 k2 => ⟨_, vc b2 0, ?_⟩
      have ho2 := ho.upd k2 fun _ _ h => h
      rw [List.take_succ_eq_append_getElem hlt, List.filter_append, List.filter_cons, List.filter_nil] at hR
      rw [beq_list]
      by_cases e : l[i].1 = k
      · rw [decide_eq_true e]
        rw [decide_eq_false (not_not_intro e)] at hR
        rw [if_neg (by simp), List.append_nil] at hR
        exact condP_false.2 (hR _ _ ⟨ho2, hu.tr k2⟩)
      · rw [decide_eq_false e]
        rw [decide_eq_true e, if_pos rfl] at hR
        refine condP_true.2 ⟨_, vc b2 0, _, vc b2 1, at_intro ?_⟩
        refine append1p (p := l[i]) ho2 (fun y hy => Nat.le_trans (hu.tr k2).size hy) (Nat.le_trans (Nat.add_le_add_right htl 1) (by omega)) fun s3 h3 ho3 hu3 => hR _ _ ⟨ho3, (hu.tr k2).trans hu3 fun y hy => .inr hy⟩
    · rintro t h2 ⟨ho2, hu2⟩
      rw [wrap_succ hlt (by omega)]
      exact hI (i + 1) _ _ ⟨rfl, hlt, ho2, hu2⟩ (by omega)
  · have hil : i = l.length := by have : ¬ (i : Int) < (s.len : Int) := hge; omega
    rw [List.take_of_length_le (by omega)] at ho
    exact hk _ _ ho hu
theorem insR_app {p : Pr} : ∀ {A B : List Pr}, (∀ r ∈ A, kl r.1 p.1) → insR p (A ++ B) = A ++ insR p B
  | [], _, _ => rfl
  | r :: A, B, h => by
    rw [List.cons_append, insR_cons, if_pos (h r (List.mem_cons_self ..)), insR_app fun q hq => h q (List.mem_cons_of_mem _ hq)]; rfl
theorem insR_end {p q : Pr} : ∀ {A : List Pr}, (∃ r ∈ A, kl p.1 r.1) → insR p (A ++ [q]) = insR p A ++ [q]
  | [], h => by obtain ⟨r, hr, _⟩ := h; simp at hr
  | r :: A, h => by
    rw [List.cons_append, insR_cons, insR_cons]
    by_cases h1 : kl r.1 p.1
    · rw [if_pos h1, if_pos h1, insR_end]
      · rfl
      · obtain ⟨r', hr', hk⟩ := h
        rcases List.mem_cons.1 hr' with rfl | hr'
        · exact absurd (kl_trans h1 hk) (kl_irrefl _)
        · exact ⟨r', hr', hk⟩
    · rw [if_neg h1, if_neg h1]
      by_cases h2 : r.1 = p.1
      · rw [if_pos h2, if_pos h2]; rfl
      · rw [if_neg h2, if_neg h2]; rfl
theorem insR_low {p : Pr} : ∀ {l : List Pr}, (∀ q ∈ l, kl p.1 q.1) → insR p l = p :: l
  | [], _ => rfl
  | q :: l, h => by
    have h1 := h q (List.mem_cons_self ..)
    rw [insR_cons, if_neg fun h2 => kl_irrefl _ (kl_trans h1 h2), if_neg fun e => by rw [e] at h1; exact kl_irrefl _ h1]
theorem insR_drop {p : Pr} : ∀ {l : List Pr}, Rises l → insR p (l.filter fun q => decide (q.1 ≠ p.1)) = insR p l
  | [], _ => rfl
  | r :: l, hr => by
    have hr := List.pairwise_cons.1 hr
    have keep : ∀ {l : List Pr}, (∀ q ∈ l, kl p.1 q.1) → (l.filter fun q => decide (q.1 ≠ p.1)) = l := fun {l} h => List.filter_eq_self.2 fun q hq => decide_eq_true fun e => by have := h q hq; rw [e] at this; exact kl_irrefl _ this
    rw [List.filter_cons, insR_cons]
    by_cases e : r.1 = p.1
    · have hl : ∀ q ∈ l, kl p.1 q.1 := fun q hq => by rw [← e]; exact hr.1 q hq
      rw [if_neg (by simp [e]), if_neg (by rw [e]; exact kl_irrefl _), if_pos e, keep hl, insR_low hl]
    · rw [if_pos (by simpa using e), insR_cons]
      by_cases h1 : kl r.1 p.1
      · rw [if_pos h1, if_pos h1, insR_drop hr.2]
      · rw [if_neg h1, if_neg h1, if_neg e, if_neg e]
        have h2 := kl_tri h1 e
        rw [keep fun q hq => kl_trans h2 (hr.1 q hq)]
theorem rPut_ok {W : Nat → Prop} {h : Heap} {s : SliceV} {l : List Pr} (hs : Sl prF 2 W h s l) (hr : Rises l) (hn : l.length ≤ 1000000) (p : Pr) (hp : p.1.size ≤ 1000000) {K : SliceV → Heap → Prop}
    (hk : ∀ s' h', OwnS prF 2 t_r03_Pair (fun y => h.size ≤ y) h' s' (insR p l) → Upd No h h' → K s' h') : HC PG f_r03_Put [.slice s.a s.len s.cap, .agg #[.string p.1, .string p.2]] [.c .slice] K h := by
  refine H_r03_Put s p ?_
  unfold F_r03_Put
  refine at_new fun h1 b1 k1 => ⟨p.1, vc b1 0, ?_⟩
  refine rDrop_ok (hs.upd k1 fun _ h => h.elim) hn p.1 fun s4 h4 ho4 k4 => ?_
  rw [← insR_drop hr] at hk
  have hrf : Rises (l.filter fun q => decide (q.1 ≠ p.1)) := hr.sublist List.filter_sublist
  have hnl : (l.filter fun q => decide (q.1 ≠ p.1)).length ≤ 1000000 := Nat.le_trans (List.length_filter_le ..) hn
  have hne : ∀ q ∈ l.filter fun q => decide (q.1 ≠ p.1), q.1 ≠ p.1 := fun q hq => of_decide_eq_true (List.mem_filter.1 hq).2
  generalize l.filter (fun q => decide (q.1 ≠ p.1)) = L at hk ho4 hrf hnl hne
  have k04 := k1.tr k4
  have hs4 : Sl prF 2 No h4 s4 L := ho4.sl fun _ _ _ h => h
  have hlen := hs4.len
  have z4 := k04.size
  refine LoopP.ghost (fun (g : Nat × Bool) (t : SliceV × Bool × Int) h' => t.2.2 = (g.1 : Int) ∧ t.2.1 = g.2 ∧ g.1 ≤ L.length ∧ (∃ out, OwnS prF 2 t_r03_Pair (fun y => h4.size ≤ y) h' t.1 out ∧ out.length ≤ g.1 + 1 ∧ (g.2 = false → out = L.take g.1 ∧ ∀ q ∈ L.take g.1, kl q.1 p.1) ∧ (g.2 = true → out = insR p (L.take g.1) ∧ ∃ q ∈ L.take g.1, kl p.1 q.1)) ∧ Upd No h4 h') (fun g => L.length - g.1) (0, false) ⟨rfl, rfl, Nat.zero_le _, ⟨[], OwnS.nil prF_ne, by simp, fun _ => ⟨by simp, by simp⟩, fun h => by cases h⟩, Upd.refl _ _⟩ ?_
  rintro I ⟨i, pl⟩ ⟨so, tp, ti⟩ h' ⟨e1, e2, hi, ⟨out, ho, hol, hf, ht⟩, hu⟩ hI
  simp only at e1 e2 hi ho hol hf ht
  subst e1 e2
  have b' := hu.get0 (k4.get0 b1)
  refine condP_dec (fun hlt => ?_) fun hge => ?_
  · have hlt : i < L.length := by have : (i : Int) < (s4.len : Int) := hlt; omega
    obtain ⟨a, ha, _, hv⟩ := (hs4.upd hu fun _ h => h.elim).at (List.getElem?_eq_getElem hlt)
    have etake := List.take_succ_eq_append_getElem hlt
    have hmem : L[i] ∈ L := List.getElem_mem hlt
    refine Join.intro (fun t h2 => (∃ out, OwnS prF 2 t_r03_Pair (fun y => h4.size ≤ y) h2 t.1 out ∧ out.length ≤ i + 1 + 1 ∧ (t.2 = false → out = L.take (i + 1) ∧ ∀ q ∈ L.take (i + 1), kl q.1 p.1) ∧ (t.2 = true → out = insR p (L.take (i + 1)) ∧ ∃ q ∈ L.take (i + 1), kl p.1 q.1)) ∧ Upd No h4 h2) (fun R hR => ⟨⟨by simp only; omega, by simp only; omega⟩, a, ha, L[i].1, hv 0 _ rfl, L[i].2, hv 1 _ rfl, ?_⟩) ?_
    · refine newPr (p := L[i]) fun h2 b2 k2 => ?_
      have ho2 := ho.upd k2 fun _ _ h => h
      have hu2 := hu.tr k2
      have zb := get_lt b2
      have z2 := hu.size
      have hoM := (ho.within.upd k2 fun _ _ h => h).more (M' := fun y => (h4.size ≤ y ∧ y < h'.size) ∨ h2.size ≤ y) fun y hy => .inl hy
      have c2 := k2.get0 b'
      refine Join.intro (fun t h3 => (∃ out, OwnS prF 2 t_r03_Pair (fun y => h4.size ≤ y) h3 t.1 out ∧ out.length ≤ i + 1 ∧ (t.2 = false → out = L.take i ∧ ∀ q ∈ L.take (i + 1), kl q.1 p.1) ∧ (t.2 = true → out ++ [L[i]] = insR p (L.take (i + 1)) ∧ ∃ q ∈ L.take (i + 1), kl p.1 q.1)) ∧ h3[h'.size]? = some (.cells #[.string L[i].1, .string L[i].2] t_r03_Pair (0, 0)) ∧ Upd No h4 h3) (fun R2 hR2 => ?_) ?_
      · refine Join.intro (fun t h3 => t = (!tp && decide (kl p.1 L[i].1)) ∧ h3 = h2) (fun R3 hR3 => ?_) ?_
        · cases tp with
          | false => exact condP_true.2 ⟨p.1, vc c2 0, L[i].1, vc b2 0, rLess_ok hp (hR3 _ _ ⟨by simp, rfl⟩)⟩
          | true => exact condP_false.2 (hR3 _ _ ⟨by simp, rfl⟩)
        · rintro t h3 ⟨rfl, rfl⟩
          cases tp with
          | true =>
            obtain ⟨e, q, hq, hkq⟩ := ht rfl
            refine condP_false.2 (hR2 _ _ ⟨⟨out, ho2, hol, fun h => (by cases h), fun _ => ?_⟩, b2, hu2⟩)
            rw [etake, e]
            exact ⟨(insR_end ⟨q, hq, hkq⟩).symm, q, List.mem_append_left _ hq, hkq⟩
          | false =>
            obtain ⟨e, hall⟩ := hf rfl
            subst e
            by_cases hkl : kl p.1 L[i].1
            · rw [decide_eq_true hkl]
              refine condP_true.2 ⟨p.1, vc c2 0, p.2, vc c2 1, at_intro ?_⟩
              refine append1p (p := p) hoM (fun y hy => .inr hy) (by rw [List.length_take]; omega) fun s5 h5 ho5 hu5 => hR2 _ _ ⟨⟨_, ho5.more (fun y hy => by rcases hy with hy | hy <;> omega), by rw [List.length_append, List.length_take, List.length_singleton]; omega, fun h => (by cases h), fun _ => ?_⟩, hu5.get b2 (by rintro (hx | hx) <;> omega), hu2.trans hu5 fun y hy => .inr (by rcases hy with hy | hy <;> omega)⟩
              · rw [etake, insR_app hall]
                refine ⟨?_, L[i], List.mem_append_right _ (List.mem_singleton.2 rfl), hkl⟩
                rw [List.append_assoc, insR_low (l := [L[i]]) fun q hq => by rw [List.mem_singleton.1 hq]; exact hkl]
                rfl
            · rw [decide_eq_false hkl]
              have hq : kl L[i].1 p.1 := kl_tri hkl fun e => hne _ hmem e.symm
              refine condP_false.2 (hR2 _ _ ⟨⟨_, ho2, by rw [List.length_take]; omega, fun _ => ⟨rfl, fun q hq' => ?_⟩, fun h => (by cases h)⟩, b2, hu2⟩)
              rw [etake] at hq'
              rcases List.mem_append.1 hq' with h | h
              · exact hall q h
              · rw [List.mem_singleton.1 h]; exact hq
      · rintro ⟨t1, t2⟩ h3 ⟨⟨out3, ho3, hol3, hf3, ht3⟩, b3, hu3⟩
        simp only at ho3 hf3 ht3
        refine ⟨_, vc b3 0, _, vc b3 1, at_intro ?_⟩
        refine append1p (p := L[i]) ho3 (fun y hy => Nat.le_trans hu3.size hy) (by omega) fun s5 h5 ho5 hu5 => hR _ _ ⟨⟨_, ho5, by rw [List.length_append, List.length_singleton]; omega, fun h => ?_, fun h => ht3 h⟩, hu3.trans hu5 fun y hy => .inr hy⟩
        obtain ⟨e, hall⟩ := hf3 h
        exact ⟨by rw [e, etake], hall⟩
    · rintro ⟨t1, t2⟩ h2 ⟨ho2, hu2⟩
      rw [wrap_succ hlt (by omega)]
      exact hI (i + 1, t2) _ _ ⟨rfl, rfl, hlt, ho2, hu2⟩ (by simp only; omega)
  · have hil : i = L.length := by have : ¬ (i : Int) < (s4.len : Int) := hge; omega
    subst hil
    rw [List.take_length] at hf ht
    cases tp with
    | true =>
      obtain ⟨e, _⟩ := ht rfl
      subst e
      exact condP_false.2 (hk _ _ (ho.more fun y hy => Nat.le_trans z4 hy) (k04.tr hu))
    | false =>
      obtain ⟨e, hall⟩ := hf rfl
      subst e
      refine condP_true.2 ⟨p.1, vc b' 0, p.2, vc b' 1, at_intro ?_⟩
      refine append1p (p := p) ho (fun y hy => Nat.le_trans hu.size hy) (by omega) fun s5 h5 ho5 hu5 => hk _ _ ?_ ((k04.tr hu).trans hu5 fun y hy => .inr (Nat.le_trans z4 hy))
      have := insR_app (p := p) (A := out) (B := []) hall
      rw [List.append_nil] at this
      rw [this]
      exact ho5.more fun y hy => Nat.le_trans z4 hy
end Go.Proofs
namespace Go.Proofs
open Go Go.Lift
theorem rSame_ok {W W' : Nat → Prop} {h : Heap} {s s' : SliceV} {l l' : List Pr} (hs : Sl prF 2 W h s l) (hs' : Sl prF 2 W' h s' l') (hn : l.length ≤ 1000000) {K : Bool → Heap → Prop} (hk : K (decide (l = l')) h) : HC PG f_r03_Same [.slice s.a s.len s.cap, .slice s'.a s'.len s'.cap] [.c .bool] K h := by
  refine H_r03_Same s s' ?_
  unfold F_r03_Same
  have e1 := hs.len
  have e2 := hs'.len
  refine CondP.intro (fun hne => ?_) fun heq => ?_
  · have hne : l.length ≠ l'.length := fun e => by rw [e1, e2, e] at hne; simp at hne
    rw [decide_eq_false fun e => hne (by rw [e])] at hk
    exact hk
  · have heq : l.length = l'.length := by
      have : (s.len : Int) = (s'.len : Int) := by simpa using heq
      omega
    refine LoopP.ghost (fun (i : Nat) (t : Int) h' => t = (i : Int) ∧ i ≤ l.length ∧ h' = h ∧ l.take i = l'.take i) (fun i => l.length - i) 0 ⟨rfl, Nat.zero_le _, rfl, rfl⟩ ?_
    rintro I i t h' ⟨rfl, hi, rfl, he⟩ hI
    refine condP_dec (fun hlt => ?_) fun hge => ?_
    · have hlt : i < l.length := by omega
      have hlt' : i < l'.length := by omega
      obtain ⟨a, ha, _, hv⟩ := hs.at (List.getElem?_eq_getElem hlt)
      obtain ⟨a', ha', _, hv'⟩ := hs'.at (List.getElem?_eq_getElem hlt')
      refine ⟨⟨by omega, by omega⟩, a, ha, l[i].1, hv 0 _ rfl, l[i].2, hv 1 _ rfl, ⟨by omega, by omega⟩, a', ha', l'[i].1, hv' 0 _ rfl, l'[i].2, hv' 1 _ rfl, ?_⟩
      rw [beq_list, beq_list]
      by_cases e : l[i] = l'[i]
      · rw [decide_eq_true (congrArg Prod.fst e), decide_eq_true (congrArg Prod.snd e)]
        refine condP_false.2 ?_
        rw [wrap_succ hlt (by omega)]
        refine hI (i + 1) _ _ ⟨rfl, hlt, rfl, ?_⟩ (by omega)
        rw [List.take_succ_eq_append_getElem hlt, List.take_succ_eq_append_getElem hlt', he, e]
      · have hb : (!(decide (l[i].1 = l'[i].1) && (decide (l[i].2 = l'[i].2) && true))) = true := by
          rw [Bool.not_eq_true', ← Bool.not_eq_true]
          intro h
          simp only [Bool.and_eq_true, decide_eq_true_iff, and_true] at h
          exact e (Prod.ext h.1 h.2)
        rw [hb]
        refine condP_true.2 ?_
        rw [decide_eq_false fun h => e (by subst h; rfl)] at hk
        exact hk
    · have hil : i = l.length := by omega
      subst hil
      rw [List.take_length, heq, List.take_length] at he
      rw [decide_eq_true he] at hk
      exact hk
abbrev Rt := Int × Int × Int × Int × SliceV
abbrev rtL (r : Rt) : List Value := [.int .i64 r.1, .int .u64 r.2.1, .int .u64 r.2.2.1, .int .u64 r.2.2.2.1, .slice r.2.2.2.2.a r.2.2.2.2.len r.2.2.2.2.cap]
abbrev rtV (r : Rt) : Value := .agg #[.int .i64 r.1, .int .u64 r.2.1, .int .u64 r.2.2.1, .int .u64 r.2.2.2.1, .slice r.2.2.2.2.a r.2.2.2.2.len r.2.2.2.2.cap]
abbrev rt0 : Rt := (0, 0, 0, 0, ⟨none, 0, 0⟩)
def hx (kind v : Int) : Int := if kind = 0 then v else 0
/-- The document's tree. -/
def RefIs (W : Nat → Prop) (h : Heap) (kind : Int) (x : Hs) (r : Rt) (l : List Pr) : Prop := ∃ s, r = (kind, hx kind x.k0, hx kind x.k1, hx kind x.mask, s) ∧ Sl prF 2 W h s l
theorem RefIs.upd0 {W : Nat → Prop} {h h' : Heap} {kind : Int} {x : Hs} {r : Rt} {l : List Pr} (k : Upd No h h') (i : RefIs W h kind x r l) : RefIs W h' kind x r l :=
  let ⟨s, e, hs⟩ := i; ⟨s, e, hs.upd k fun _ h => h.elim⟩
theorem RefIs.less {W W' : Nat → Prop} {h : Heap} (hm : ∀ b, W' b → W b ∨ h.size ≤ b) {kind : Int} {x : Hs} {r : Rt} {l : List Pr} (i : RefIs W h kind x r l) : RefIs W' h kind x r l :=
  let ⟨s, e, hs⟩ := i; ⟨s, e, hs.less hm⟩
theorem RefIs.updM {W M : Nat → Prop} {h h' : Heap} (k : Upd M h h') (hm : ∀ b, M b → W b ∨ h.size ≤ b) {kind : Int} {x : Hs} {r : Rt} {l : List Pr} (i : RefIs W h kind x r l) : RefIs W h' kind x r l :=
  let ⟨s, e, hs⟩ := i; ⟨s, e, hs.upd k hm⟩
theorem rNew_ok {W : Nat → Prop} {x : Hs} {h : Heap} {kind : Int} (hkd : kind = 0 ∨ kind = 1) {K : Rt × Int → Heap → Prop} (hk : ∀ h' r, RefIs W h' kind x r [] → Upd No h h' → K (r, 0) h') : HC PG f_r14_New [.int .i64 kind, .agg #[.int .u64 x.k0, .int .u64 x.k1, .int .u64 x.mask]] [.agg [.int .i64, .int .u64, .int .u64, .int .u64, .slice], .c (.int .i64)] K h := by
  refine H_r14_New kind (x.k0, x.k1, x.mask) ?_
  unfold F_r14_New
  refine at_new fun h1 b1 k1 => at_new fun h2 b2 k2 => ?_
  have c1 := k2.get0 b1
  have s1 := k1.size
  have k02 := k1.tr k2
  rcases hkd with rfl | rfl
  · refine condP_true.2 ⟨_, vc c1 0, _, vc c1 1, _, vc c1 2, ?_⟩
    refine setAll (c := rtL rt0) (vs := rtL (0, x.k0, x.k1, x.mask, ⟨none, 0, 0⟩)) b2 rfl fun h4 b4 hu4 => ?_
    exact ⟨_, vc b4 0, _, vc b4 1, _, vc b4 2, _, vc b4 3, ⟨none, 0, 0⟩, vc b4 4, hk h4 (0, x.k0, x.k1, x.mask, ⟨none, 0, 0⟩) ⟨_, rfl, Sl.nil prF_ne⟩ (k02.own hu4 s1)⟩
  · refine condP_false.2 (condP_true.2 ?_)
    refine setAll (c := rtL rt0) (vs := rtL (1, 0, 0, 0, ⟨none, 0, 0⟩)) b2 rfl fun h4 b4 hu4 => ?_
    exact ⟨_, vc b4 0, _, vc b4 1, _, vc b4 2, _, vc b4 3, ⟨none, 0, 0⟩, vc b4 4, hk h4 (1, 0, 0, 0, ⟨none, 0, 0⟩) ⟨_, rfl, Sl.nil prF_ne⟩ (k02.own hu4 s1)⟩
theorem rRight_ok {k v : ByteArray} (h1 : k.size ≤ 256) (h2 : v.size ≤ 4096) {h : Heap} {K : Int → Heap → Prop} (hk : K 0 h) : HC PG f_r03_Right [.string k, .string v] [.c (.int .i64)] K h := by
  refine H_r03_Right k v ?_
  unfold F_r03_Right
  refine condP_dec (fun h => absurd h (by omega)) fun _ => condP_dec (fun h => absurd h (by omega)) fun _ => hk
theorem rWith_ok {W : Nat → Prop} {x : Hs} {h : Heap} {kind : Int} {r : Rt} {l : List Pr} (i : RefIs W h kind x r l) (hW : ∀ y, W y → y < h.size) (hr : Rises l) (hn : l.length ≤ 1000000) (p : Pr) (hp1 : p.1.size ≤ 256) (hp2 : p.2.size ≤ 4096) {K : Rt × Int → Heap → Prop}
    (hk : ∀ h' r', RefIs W h' kind x r' (insR p l) → Upd No h h' → K (r', 0) h') : HC PG f_r14_With [rtV r, .agg #[.string p.1, .string p.2]] [.agg [.int .i64, .int .u64, .int .u64, .int .u64, .slice], .c (.int .i64)] K h := by
  refine H_r14_With r p ?_
  unfold F_r14_With
  refine at_new fun h1 b1 k1 => at_new fun h2 b2 k2 => at_new fun h3 b3 k3 => ?_
  have z1 := get_lt b1
  have z2 := get_lt b2
  have z3 := get_lt b3
  have s1 : h.size ≤ h1.size := k1.size
  have s2 : h1.size ≤ h2.size := k2.size
  have s3 := k3.size
  have k03 := (k1.tr k2).tr k3
  have v1 := k3.get0 (k2.get0 b1)
  have v2 := k3.get0 b2
  obtain ⟨s, rfl, hs⟩ := i
  refine ⟨_, vc v2 0, _, vc v2 1, rRight_ok hp1 hp2 (condP_false.2 ?_)⟩
  refine ⟨s, vc v1 4, p.1, vc v2 0, p.2, vc v2 1, ?_⟩
  refine rPut_ok (hs.upd k03 fun _ h => h.elim) hr hn p (by omega) fun s4 h4 ho4 hu4 => ?_
  refine vset (i := 4) (c' := (rtL (kind, hx kind x.k0, hx kind x.k1, hx kind x.mask, s4)).toArray) (hu4.get0 v1) (show 4 < 5 by decide) rfl fun h5 v5 hu5 => ?_
  refine ⟨_, vc v5 0, _, vc v5 1, _, vc v5 2, _, vc v5 3, s4, vc v5 4, ?_⟩
  refine setAll (c := rtL rt0) (vs := rtL (kind, hx kind x.k0, hx kind x.k1, hx kind x.mask, s4)) (hu5.oth (hu4.get0 b3) (by omega)) rfl fun h6 v6 hu6 => ?_
  refine ⟨_, vc v6 0, _, vc v6 1, _, vc v6 2, _, vc v6 3, s4, vc v6 4, ?_⟩
  have ho6 := (ho4.upd hu5 fun y hy e => by have e : y = h.size := e; omega).upd hu6 fun y hy e => by have e : y = h2.size := e; omega
  refine hk h6 (kind, hx kind x.k0, hx kind x.k1, hx kind x.mask, s4) ⟨s4, rfl, ho6.sl fun y hy _ hw => by have := hW y hw; omega⟩ (((k03.tr hu4).own hu5 (Nat.le_refl _)).own hu6 (by omega))
def likeR (r q : Rt) : Bool := (r.1 == q.1) && ((r.2.1 == q.2.1) && ((r.2.2.1 == q.2.2.1) && ((r.2.2.2.1 == q.2.2.2.1) && true)))
theorem rLike_ok {r q : Rt} {h : Heap} {K : Bool → Heap → Prop} (hk : ∀ h', Upd No h h' → K (likeR r q) h') : HC PG f_r14_Like [rtV r, rtV q] [.c .bool] K h := by
  refine H_r14_Like r q ?_
  unfold F_r14_Like
  refine at_new fun h1 b1 k1 => at_new fun h2 b2 k2 => ?_
  have c1 := k2.get0 b1
  refine ⟨_, vc c1 0, _, vc b2 0, ?_⟩
  have := hk h2 (k1.tr k2)
  unfold likeR at this
  rcases hb : (r.1 == q.1) with _ | _
  · rw [hb] at this
    exact condP_false.2 this
  · rw [hb] at this
    exact condP_true.2 ⟨_, vc2 c1 1 0, _, vc2 c1 1 1, _, vc2 c1 1 2, _, vc2 b2 1 0, _, vc2 b2 1 1, _, vc2 b2 1 2, this⟩
theorem rtSame_ok {W W' : Nat → Prop} {x x' : Hs} {h : Heap} {kind kind' : Int} {r q : Rt} {l l' : List Pr} (i : RefIs W h kind x r l) (i' : RefIs W' h kind' x' q l') (hn : l.length ≤ 1000000) {K : Bool → Heap → Prop}
    (hk : ∀ h', Upd No h h' → K (likeR r q && decide (l = l')) h') : HC PG f_r14_Same [rtV r, rtV q] [.c .bool] K h := by
  refine H_r14_Same r q ?_
  unfold F_r14_Same
  refine at_new fun h1 b1 k1 => at_new fun h2 b2 k2 => ?_
  have c1 := k2.get0 b1
  refine ⟨_, vc c1 0, _, vc c1 1, _, vc c1 2, _, vc c1 3, r.2.2.2.2, vc c1 4, _, vc b2 0, _, vc b2 1, _, vc b2 2, _, vc b2 3, q.2.2.2.2, vc b2 4, ?_⟩
  refine rLike_ok fun h3 k3 => ?_
  have k03 := (k1.tr k2).tr k3
  have hk3 := hk h3 k03
  rcases hl : likeR r q with _ | _
  · rw [hl] at hk3
    exact condP_false.2 hk3
  · rw [hl] at hk3
    refine condP_true.2 ⟨r.2.2.2.2, vc (k3.get0 c1) 4, q.2.2.2.2, vc (k3.get0 b2) 4, ?_⟩
    obtain ⟨s, rfl, hs⟩ := i.upd0 k03
    obtain ⟨s', rfl, hs'⟩ := i'.upd0 k03
    exact rSame_ok hs hs' hn hk3
theorem like_eq {W W' : Nat → Prop} {h h' : Heap} {kind kind' : Int} {x x' : Hs} {t u : Tr} {r q : Rt} {l l' : List Pr} (i : TreeIs W h kind x t l) (i' : TreeIs W h kind' x' u l') (j : RefIs W' h' kind x r l) (j' : RefIs W' h' kind' x' q l') : likeB t u = likeR r q := by
  obtain ⟨s, rfl, _⟩ := j
  obtain ⟨s', rfl, _⟩ := j'
  rcases i with ⟨rfl, b, rfl, _⟩ | ⟨rfl, b, rfl, _⟩ <;> rcases i' with ⟨rfl, b', rfl, _⟩ | ⟨rfl, b', rfl, _⟩ <;> simp [likeB, likeR, hx, Bool.and_assoc]
/-- At most thirty bytes. -/
def cut30 (s : ByteArray) : ByteArray := s.extract 0 (min s.size 30)
theorem cut30_size (s : ByteArray) : (cut30 s).size ≤ 30 := by unfold cut30; rw [ByteArray.size_extract]; omega
theorem long_ok {s : ByteArray} {h : Heap} {K : ByteArray → Heap → Prop} (hk : K (cut30 s) h) : HC PG f_l14_long [.string s, .int .i64 0] [.c .str] K h := by
  refine H_l14_long s 0 ?_
  unfold F_l14_long
  have e : (if 30 < (s.size : Int) then (30 : Int) else (s.size : Int)) = ((min s.size 30 : Nat) : Int) := by split <;> omega
  rw [e]
  refine ⟨⟨by omega, by omega⟩, ?_⟩
  simp only [Bd]
  rw [Int.toNat_natCast]
  exact condP_dec (fun h => absurd h (by omega)) fun _ => hk
theorem lOwn_ok {x : Hs} {h : Heap} {K : Int × Int × Int → Heap → Prop} (hk : ∀ h', Upd No h h' → K (x.k0, x.k1, x.mask) h') : HC PG f_l14_own [.agg #[.int .u64 x.k0, .int .u64 x.k1, .int .u64 x.mask]] [.agg [.int .u64, .int .u64, .int .u64]] K h := by
  refine H_l14_own (x.k0, x.k1, x.mask) ?_
  unfold F_l14_own
  refine at_new fun h1 b1 k1 => at_new fun h2 b2 k2 => ?_
  have c1 := k2.get0 b1
  refine ⟨_, vc2 c1 0 0, _, vc2 c1 0 1, _, vc c1 2, ?_⟩
  refine setAll (c := [.int .u64 0, .int .u64 0, .int .u64 0]) (vs := [.int .u64 x.k0, .int .u64 x.k1, .int .u64 x.mask]) b2 rfl fun h4 b4 hu4 => ?_
  exact ⟨_, vc b4 0, _, vc b4 1, _, vc b4 2, hk h4 ((k1.tr k2).own hu4 k1.size)⟩
end Go.Proofs
namespace Go.Proofs
open Go Go.Lift
theorem wrap_succB {i n : Nat} (h : i < n) (hn : n ≤ 9223372036854775807) : IntKind.wrap .i64 ((i : Int) + 1) = ((i + 1 : Nat) : Int) := by rw [Go.IntWalk.i64_in _ (by omega)]; omega
def cutP (p : Pr) : Pr := (cut30 p.1, cut30 p.2)
/-- What is made of some pairs: of the first 25. -/
def madeL (l : List Pr) : List Pr := (l.take 25).foldl (fun acc p => insR (cutP p) acc) []
theorem madeL_lt {l : List Pr} {i : Nat} (hi : i < l.length) (h25 : i < 25) : madeL (l.take (i + 1)) = insR (cutP l[i]) (madeL (l.take i)) := by
  unfold madeL
  rw [List.take_take, List.take_take, Nat.min_eq_right (by omega), Nat.min_eq_right (by omega), List.take_succ_eq_append_getElem hi, List.foldl_append]
  rfl
theorem madeL_ge {l : List Pr} {i : Nat} (h25 : 25 ≤ i) : madeL (l.take (i + 1)) = madeL (l.take i) := by
  unfold madeL
  rw [List.take_take, List.take_take, Nat.min_eq_left (by omega), Nat.min_eq_left (by omega)]
structure Few (n : Nat) (L : List Pr) : Prop where
  up : Rises L
  len : L.length ≤ n
  fit : ∀ p ∈ L, p.1.size ≤ 30 ∧ p.2.size ≤ 30
theorem insR_len1 (p : Pr) : ∀ {l : List Pr}, (insR p l).length ≤ l.length + 1
  | [] => Nat.le_refl _
  | q :: l => by
    rw [insR_cons]; split
    · have := insR_len1 p (l := l); simp only [List.length_cons]; omega
    · split <;> simp
theorem Few.ins {n : Nat} {L : List Pr} (f : Few n L) (p : Pr) (h1 : p.1.size ≤ 30) (h2 : p.2.size ≤ 30) : Few (n + 1) (insR p L) :=
  ⟨rises_ins p f.up, Nat.le_trans (insR_len1 p) (by have := f.len; omega), fun q hq => (mem_insR hq).elim (fun e => by rw [e]; exact ⟨h1, h2⟩) fun h => f.fit q h⟩
theorem few_made (l : List Pr) : Few 25 (madeL l) := by
  unfold madeL
  have : ∀ (m : List Pr) (n : Nat) (acc : List Pr), Few n acc → Few (n + m.length) (m.foldl (fun acc p => insR (cutP p) acc) acc) := by
    intro m
    induction m with
    | nil => intro n acc h; exact h
    | cons p m ih =>
      intro n acc h
      have := ih (n + 1) _ (h.ins (cutP p) (cut30_size _) (cut30_size _))
      rw [List.foldl_cons, List.length_cons]
      rw [Nat.add_assoc, Nat.add_comm 1] at this
      exact this
  have h := this (l.take 25) 0 [] ⟨List.Pairwise.nil, Nat.zero_le _, fun p hp => by simp at hp⟩
  exact ⟨h.up, Nat.le_trans h.len (by rw [List.length_take]; omega), h.fit⟩
theorem Few.fits {n : Nat} {L : List Pr} (f : Few n L) : Fit L := fun p hp => by have := f.fit p hp; omega
set_option maxHeartbeats 1000000 in
theorem made_ok {W : Nat → Prop} {x : Hs} {h : Heap} {s : SliceV} {l : List Pr} {kind : Int} (hs : Sl prF 2 W h s l) (hW : ∀ y, W y → y < h.size) (hkd : kind = 0 ∨ kind = 1) (hn : l.length ≤ 9223372036854775807) {K : Tr × Rt → Heap → Prop}
    (hk : ∀ h' t r, TreeIs W h' kind x t (madeL l) → RefIs W h' kind x r (madeL l) → Upd No h h' → K (t, r) h') :
    HC PG f_l14_made [.int .i64 kind, .agg #[.int .u64 x.k0, .int .u64 x.k1, .int .u64 x.mask], .slice s.a s.len s.cap] [.agg [.int .i64, .int .u64, .int .u64, .int .u64, .ptr, .ptr], .agg [.int .i64, .int .u64, .int .u64, .int .u64, .slice]] K h := by
  refine H_l14_made kind (x.k0, x.k1, x.mask) s ?_
  unfold F_l14_made
  refine at_new fun h1 b1 k1 => at_new fun h2 b2 k2 => at_new fun h3 b3 k3 => ?_
  have z1 := get_lt b1
  have z2 := get_lt b2
  have z3 := get_lt b3
  have s1 : h.size ≤ h1.size := k1.size
  have s2 : h1.size ≤ h2.size := k2.size
  have k03 := (k1.tr k2).tr k3
  have c1 := k3.get0 (k2.get0 b1)
  have c2 := k3.get0 b2
  have s3 := k3.size
  refine ⟨_, vc c1 0, _, vc c1 1, _, vc c1 2, ?_⟩
  refine tNew_ok (W := Pro W h h3) (x := x) (Pro.lt hW k03) hkd fun h8 t i8 k8 => ?_
  refine at_new fun h9 b9 k9 => ?_
  have s8 := k8.size
  have z9 := get_lt b9
  refine setAll (c := trL tr0) (vs := trL t) b9 rfl fun h10 b10 hu10 => ?_
  have k810 : Upd No h8 h10 := k9.own hu10 (Nat.le_refl _)
  have s10 := k810.size
  have z10 := get_lt b10
  have d1 := k810.get0 (k8.get0 c1)
  refine ⟨_, vc d1 0, _, vc d1 1, _, vc d1 2, ?_⟩
  refine lOwn_ok (x := x) fun h15 k15 => ?_
  have s15 := k15.size
  refine rNew_ok (x := x) (W := fun y => Pro W h h3 y ∨ y = h8.size ∨ y = h15.size) hkd fun h17 r j17 k17 => ?_
  have s17 := k17.size
  refine at_new fun h18 b18 k18 => ?_
  have z18 := get_lt b18
  refine setAll (c := rtL rt0) (vs := rtL r) b18 rfl fun hL bL huL => ?_
  have k17L : Upd No h17 hL := k18.own huL (Nat.le_refl _)
  have sL := k17L.size
  have zL := get_lt bL
  have k8L : Upd No h8 hL := ((k810.tr k15).tr k17).tr k17L
  have kL : Upd No h hL := (k03.tr k8).tr k8L
  obtain ⟨rs, rfl, hrs⟩ := j17
  have iL : TreeIs (fun y => Pro W h h3 y ∨ y = h8.size ∨ y = h17.size) hL kind x t [] := (i8.less fun y hy => by
    rcases hy with hy | hy | hy
    · exact .inl hy
    · exact .inr (by omega)
    · exact .inr (by omega)).upd0 k8L
  have jL : RefIs (fun y => Pro W h h3 y ∨ y = h8.size ∨ y = h17.size) hL kind x (kind, hx kind x.k0, hx kind x.k1, hx kind x.mask, rs) [] := ⟨rs, rfl, hrs.len, prF_ne, fun h => absurd rfl h⟩
  have tL := k17L.get0 ((k15.tr k17).get0 b10)
  have rL1 := k8L.get0 (k8.get0 c2)
  have rL2 := k8L.get0 (k8.get0 b3)
  have hWL : ∀ y, (Pro W h h3 y ∨ y = h8.size ∨ y = h17.size) → y < hL.size := fun y hy => by
    rcases hy with hy | hy | hy
    · have := Pro.lt hW k03 y hy; omega
    · omega
    · omega
  have hsL := hs.upd kL fun _ h => h.elim
  have hlen := hs.len
  generalize (kind, hx kind x.k0, hx kind x.k1, hx kind x.mask, rs) = rv at jL bL
  have hPW : ∀ y, W y → (Pro W h h3 y ∨ y = h8.size ∨ y = h17.size) := fun y hy => .inl (.inl hy)
  have hP1 : (Pro W h h3 h1.size ∨ h1.size = h8.size ∨ h1.size = h17.size) := .inl (.inr (by omega))
  have hP2 : (Pro W h h3 h2.size ∨ h2.size = h8.size ∨ h2.size = h17.size) := .inl (.inr (by omega))
  have hPt : (Pro W h h3 h8.size ∨ h8.size = h8.size ∨ h8.size = h17.size) := .inr (.inl rfl)
  have hPx : (Pro W h h3 h17.size ∨ h17.size = h8.size ∨ h17.size = h17.size) := .inr (.inr rfl)
  generalize hWe : (fun y => Pro W h h3 y ∨ y = h8.size ∨ y = h17.size) = W' at iL jL
  have eW : ∀ y, (Pro W h h3 y ∨ y = h8.size ∨ y = h17.size) = W' y := fun y => by rw [← hWe]
  rw [eW] at hP1 hP2 hPt hPx
  simp only [eW] at hWL hPW
  have n1 : h1.size ≠ h8.size := by omega
  have n1' : h1.size ≠ h17.size := by omega
  have n2 : h2.size ≠ h8.size := by omega
  have n2' : h2.size ≠ h17.size := by omega
  have n3 : h8.size ≠ h17.size := by omega
  have n4 : h2.size ≠ h1.size := by omega
  have hr1 : h.size ≤ h1.size := s1
  have hr2 : h.size ≤ h2.size := by omega
  have hrt : h.size ≤ h8.size := by omega
  have hrx : h.size ≤ h17.size := by omega
  have htL : h8.size < hL.size := by omega
  have hxL : h17.size < hL.size := by omega
  have h1L : h1.size < hL.size := by omega
  have h2L : h2.size < hL.size := by omega
  refine LoopP.ghost (fun (i : Nat) (ti : Int) h' => ti = (i : Int) ∧ i ≤ l.length ∧ (∃ tv rv, TreeIs W' h' kind x tv (madeL (l.take i)) ∧ RefIs W' h' kind x rv (madeL (l.take i)) ∧ h'[h8.size]? = some (.cells (trL tv).toArray t_tree_Tree (0, 0)) ∧ h'[h17.size]? = some (.cells (rtL rv).toArray t_r14_Tree (0, 0))) ∧ Upd (fun y => y = h8.size ∨ y = h17.size) hL h') (fun i => l.length - i) 0 ⟨rfl, Nat.zero_le _, ⟨t, rv, by simpa [madeL] using iL, by simpa [madeL] using jL, tL, bL⟩, Upd.refl _ _⟩ ?_
  rintro I i ti h' ⟨rfl, hi, ⟨tv, rv, it, jr, bt, bx⟩, hu⟩ hI
  have hus := hu.size
  have hu0 : Upd No h h' := kL.trans hu fun y hy => .inr (by rcases hy with rfl | rfl <;> assumption)
  refine condP_dec (fun hlt => ?_) fun hge => ?_
  · have hlt : i < l.length := by omega
    obtain ⟨a, ha, _, hv⟩ := (hs.upd hu0 fun _ h => h.elim).at (List.getElem?_eq_getElem hlt)
    refine Join.intro (fun _ h2 => (∃ tv rv, TreeIs W' h2 kind x tv (madeL (l.take (i + 1))) ∧ RefIs W' h2 kind x rv (madeL (l.take (i + 1))) ∧ h2[h8.size]? = some (.cells (trL tv).toArray t_tree_Tree (0, 0)) ∧ h2[h17.size]? = some (.cells (rtL rv).toArray t_r14_Tree (0, 0))) ∧ Upd (fun y => y = h8.size ∨ y = h17.size) hL h2) (fun R hR => ⟨⟨by omega, by omega⟩, a, ha, l[i].1, hv 0 _ rfl, l[i].2, hv 1 _ rfl, ?_⟩) ?_
    · refine newPr (p := l[i]) fun h28 b28 k28 => ?_
      have z28 := get_lt b28
      have nt : h'.size ≠ h8.size := by omega
      have nx : h'.size ≠ h17.size := by omega
      refine condP_dec (fun h25 => ?_) fun h25 => ?_
      · have h25 : i < 25 := by omega
        rw [madeL_lt hlt h25] at hR
        refine ⟨_, vc b28 0, _, vc b28 1, long_ok ⟨vc b28 1, long_ok ?_⟩⟩
        refine setAll (c := [.string l[i].1, .string l[i].2]) (vs := [.string (cutP l[i]).1, .string (cutP l[i]).2]) b28 rfl fun h35 b35 hu35 => ?_
        have k35 : Upd No h' h35 := k28.own hu35 (Nat.le_refl _)
        have t35 := k35.get0 bt
        have x35 := k35.get0 bx
        have s35 := k35.size
        have fw := few_made (l.take i)
        have fl := fw.len
        have q1 := cut30_size l[i].1
        have q2 := cut30_size l[i].2
        refine ⟨_, vc t35 0, _, vc t35 1, _, vc t35 2, _, vc t35 3, _, vc t35 4, _, vc t35 5, _, vc b35 0, _, vc b35 1, ?_⟩
        refine tWith_ok (it.upd0 k35) (fun y hy => Nat.lt_of_lt_of_le (hWL y hy) (by omega)) fw.up (by omega) (cutP l[i]) (by unfold cutP; simp only; omega) (by unfold cutP; simp only; omega) fun h45 t' i45 _ k45 => ?_
        refine setAll (c := trL tv) (vs := trL t') (k45.get0 t35) rfl fun h46 t46 hu46 => ?_
        have x46 := hu46.oth (k45.get0 x35) n3.symm
        have p46 := hu46.oth (k45.get0 b35) nt
        have j46 := ((jr.upd0 k35).upd0 k45).updM hu46 fun y hy => .inl (by have hy : y = h8.size := hy; rw [hy]; exact hPt)
        have s45 := k45.size
        have s46 := hu46.size
        refine ⟨_, vc x46 0, _, vc x46 1, _, vc x46 2, _, vc x46 3, rv.2.2.2.2, vc x46 4, _, vc p46 0, _, vc p46 1, ?_⟩
        refine rWith_ok j46 (fun y hy => Nat.lt_of_lt_of_le (hWL y hy) (by omega)) fw.up (by omega) (cutP l[i]) (by unfold cutP; simp only; omega) (by unfold cutP; simp only; omega) fun h55 r' j55 k55 => ?_
        refine setAll (c := rtL rv) (vs := rtL r') (k55.get0 x46) rfl fun h56 x56 hu56 => hR _ _ ⟨⟨t', r', ?_, j55.updM hu56 fun y hy => .inl (by have hy : y = h17.size := hy; rw [hy]; exact hPx), hu56.oth (k55.get0 t46) n3, x56⟩, ?_⟩
        · exact ((i45.updM hu46 fun y hy => .inl (by have hy : y = h8.size := hy; rw [hy]; exact hPt)).upd0 k55).updM hu56 fun y hy => .inl (by have hy : y = h17.size := hy; rw [hy]; exact hPx)
        · exact ((((hu.tr k35.wide).tr k45.wide).trans hu46 fun y hy => .inl (.inl hy)).tr k55.wide).trans hu56 fun y hy => .inl (.inr hy)
      · have h25 : 25 ≤ i := by omega
        rw [madeL_ge h25] at hR
        exact hR _ _ ⟨⟨tv, rv, it.upd0 k28, jr.upd0 k28, k28.get0 bt, k28.get0 bx⟩, hu.tr k28.wide⟩
    · rintro _ h2 ⟨hex, hu2⟩
      rw [wrap_succB hlt hn]
      exact hI (i + 1) _ _ ⟨rfl, hlt, hex, hu2⟩ (by omega)
  · have hil : i = l.length := by omega
    subst hil
    rw [List.take_length] at it jr
    have y1 := hu.get rL1 (by rintro (e | e) <;> omega)
    have y2 := hu.get rL2 (by rintro (e | e) <;> omega)
    refine ⟨_, vc bt 0, _, vc bt 1, _, vc bt 2, _, vc bt 3, _, vc bt 4, _, vc bt 5, _, vc bx 0, _, vc bx 1, _, vc bx 2, _, vc bx 3, rv.2.2.2.2, vc bx 4, ?_⟩
    refine setAll (c := trL tr0) (vs := trL tv) y1 rfl fun h70 b70 hu70 => ?_
    have x70 := hu70.oth bx (by omega)
    refine ⟨⟨vc x70 0, vc x70 1, vc x70 2, vc x70 3, vc x70 4⟩, ?_⟩
    refine setAll (c := rtL rt0) (vs := rtL rv) (hu70.oth y2 n4) rfl fun h71 b71 hu71 => ?_
    have t71 := hu71.oth b70 n4.symm
    refine ⟨_, vc t71 0, _, vc t71 1, _, vc t71 2, _, vc t71 3, _, vc t71 4, _, vc t71 5, _, vc b71 0, _, vc b71 1, _, vc b71 2, _, vc b71 3, rv.2.2.2.2, vc b71 4, ?_⟩
    refine hk h71 tv rv (((it.updM hu70 fun y hy => .inl (by have hy : y = h1.size := hy; rw [hy]; exact hP1)).updM hu71 fun y hy => .inl (by have hy : y = h2.size := hy; rw [hy]; exact hP2)).less fun y hy => .inl (hPW y hy)) (((jr.updM hu70 fun y hy => .inl (by have hy : y = h1.size := hy; rw [hy]; exact hP1)).updM hu71 fun y hy => .inl (by have hy : y = h2.size := hy; rw [hy]; exact hP2)).less fun y hy => .inl (hPW y hy)) ((hu0.own hu70 hr1).own hu71 hr2)
end Go.Proofs
namespace Go.Proofs
open Go Go.Lift
abbrev Wk := Option Addr × ByteArray × Bool
abbrev wkF (x : Wk) : List Value := [.pointer x.1, .string x.2.1, .bool x.2.2]
theorem wkF_ne (x : Wk) : (wkF x).length = 3 ∧ 0 < 3 := ⟨rfl, by omega⟩
theorem one_wkF : ∀ xs : List Wk, oneCell (xs.flatMap wkF) = true
  | [] => rfl
  | x :: xs => by rw [List.flatMap_cons]; exact oneCell_join rfl (one_wkF xs)
theorem set_eq {α : Type} {l : List α} {i : Nat} (hi : i < l.length) (x : α) : l.take i ++ x :: l.drop (i + 1) = l.set i x := by rw [List.set_eq_take_append_cons_drop, if_pos hi]
theorem reverse_ok {M : Nat → Prop} {h : Heap} {s : SliceV} {xs : List Wk} (ho : OwnS wkF 3 t_span_work M h s xs) (hn : xs.length ≤ 1000000000) {K : Unit → Heap → Prop} (hk : ∀ h', OwnS wkF 3 t_span_work M h' s xs.reverse → Upd M h h' → K () h') : HC PG f_slices_Reverse_A_span_work_span_work [.slice s.a s.len s.cap] [] K h := by
  refine H_slices_Reverse_A_span_work_span_work s ?_
  unfold F_slices_Reverse_A_span_work_span_work
  have hlen := ho.len
  have ej : IntKind.wrap .i64 ((s.len : Int) - 1) = (xs.length : Int) - 1 - ((0 : Nat) : Int) := by rw [w64 (by omega)]; omega
  rw [ej]
  refine LoopP.ghost (fun (i : Nat) (t : Int × Int) h' => t.1 = (i : Int) ∧ t.2 = (xs.length : Int) - 1 - (i : Int) ∧ i ≤ xs.length ∧ (∃ ys, OwnS wkF 3 t_span_work M h' s ys ∧ ys.length = xs.length ∧ ∀ k, k < xs.length → ys[k]? = if k < i ∨ xs.length - i ≤ k then xs[xs.length - 1 - k]? else xs[k]?) ∧ Upd M h h') (fun i => xs.length - i) 0
    ⟨rfl, rfl, Nat.zero_le _, ⟨xs, ho, rfl, fun k hk => by rw [if_neg (by omega)]⟩, Upd.refl _ _⟩ ?_
  rintro I i ⟨ti, tj⟩ h' ⟨e1, e2, hi, ⟨ys, hy, hyl, hys⟩, hu⟩ hI
  simp only at e1 e2
  subst e1 e2
  refine condP_dec (fun hlt => ?_) fun hge => ?_
  · have hlt : 2 * i + 1 < xs.length := by have : (i : Int) < (xs.length : Int) - 1 - (i : Int) := hlt; omega
    obtain ⟨j, hj⟩ : ∃ j : Nat, (xs.length : Int) - 1 - (i : Int) = (j : Int) := ⟨xs.length - 1 - i, by omega⟩
    have hjn : j = xs.length - 1 - i := by omega
    simp only
    rw [hj]
    have hiy : i < ys.length := by omega
    have hjy : j < ys.length := by omega
    have sl := hy.sl (W := No) fun _ _ _ h => h
    obtain ⟨a, ha, _, hv⟩ := sl.at (List.getElem?_eq_getElem hjy)
    obtain ⟨a', ha', _, hv'⟩ := sl.at (List.getElem?_eq_getElem hiy)
    rw [ha] at ha'; cases ha'
    refine ⟨⟨by omega, by omega⟩, a, ha, ys[j].1, hv 0 _ rfl, ys[j].2.1, hv 1 _ rfl, ys[j].2.2, hv 2 _ rfl, ⟨by omega, by omega⟩, a, ha, ys[i].1, hv' 0 _ rfl, ys[i].2.1, hv' 1 _ rfl, ys[i].2.2, hv' 2 _ rfl, ⟨by omega, by omega⟩, ?_⟩
    obtain ⟨b, hb, hbM, hw, ho1, hu1⟩ := OwnS.setAt hy hiy ys[j]
    rw [ha] at hb; cases hb
    rw [set_eq hiy] at ho1
    refine ⟨a, ha, hw, at_intro ⟨⟨by omega, by omega⟩, a, ha, ?_⟩⟩
    obtain ⟨b, hb, _, hw2, ho2, hu2⟩ := OwnS.setAt ho1 (k := j) (by rw [List.length_set]; omega) ys[i]
    rw [ha] at hb; cases hb
    rw [set_eq (by rw [List.length_set]; omega)] at ho2
    refine ⟨hw2, at_intro ?_⟩
    rw [wrap_succ (n := xs.length) (by omega) (by omega)]
    have ej2 : IntKind.wrap .i64 ((j : Int) - 1) = (xs.length : Int) - 1 - ((i + 1 : Nat) : Int) := by rw [w64 (by omega)]; omega
    rw [ej2]
    refine hI (i + 1) _ _ ⟨rfl, rfl, by omega, ⟨_, ho2, by rw [List.length_set, List.length_set]; exact hyl, fun k hk => ?_⟩, ?_⟩ (by omega)
    · rw [List.getElem?_set, List.length_set]
      have ei := hys i (by omega)
      have ejj := hys j (by omega)
      rw [if_neg (by omega), List.getElem?_eq_getElem hiy] at ei
      rw [if_neg (by omega), List.getElem?_eq_getElem hjy] at ejj
      by_cases h1 : j = k
      · rw [if_pos h1, if_pos hjy, if_pos (by omega), ei]
        congr 1; omega
      · rw [if_neg h1, List.getElem?_set]
        by_cases h2 : i = k
        · rw [if_pos h2, if_pos hiy, if_pos (by omega), ejj]
          congr 1; omega
        · rw [if_neg h2, hys k hk]
          by_cases h3 : k < i ∨ xs.length - i ≤ k
          · rw [if_pos h3, if_pos (by omega)]
          · rw [if_neg h3, if_neg (by omega)]
    · exact (hu.trans hu1 fun y hy => .inl (by have hy : y = a.block := hy; rw [hy]; exact hbM)).trans hu2 fun y hy => .inl (by have hy : y = a.block := hy; rw [hy]; exact hbM)
  · have hge : xs.length ≤ 2 * i + 1 := by have : ¬ (i : Int) < (xs.length : Int) - 1 - (i : Int) := hge; omega
    have e : ys = xs.reverse := by
      apply List.ext_getElem?
      intro k
      by_cases hk : k < xs.length
      · rw [hys k hk, List.getElem?_reverse hk]
        by_cases h3 : k < i ∨ xs.length - i ≤ k
        · rw [if_pos h3]
        · rw [if_neg h3]; congr 1; omega
      · rw [List.getElem?_eq_none (by omega), List.getElem?_eq_none (by rw [List.length_reverse]; omega)]
    subst e
    exact hk _ hy hu
/-- The last one is taken off. -/
theorem OwnS.pop {α : Type} {f : α → List Value} {sz : Nat} {t : TypeId} {M : Nat → Prop} {h : Heap} {s : SliceV} {xs : List α} {x : α} (ho : OwnS f sz t M h s (xs ++ [x])) : OwnS f sz t M h ⟨subAddr s.a 0 s.cap sz, xs.length, s.cap⟩ xs := by
  have hl := ho.len
  have hc := ho.cap
  rw [List.length_append, List.length_singleton] at hl
  refine ⟨rfl, ho.ne, by simp only; omega, ho.blk.imp id fun ⟨b, rest, ha, hb, hcell, hr⟩ => ⟨b, f x ++ rest, ?_, hb, ?_, ?_⟩⟩
  · simp only; rw [ha, sub_zero]
  · rw [hcell, List.flatMap_append, List.flatMap_cons, List.flatMap_nil, List.append_nil, List.append_assoc]
  · rw [List.length_append, (ho.ne x).1, hr]
    simp only
    have : s.cap - xs.length = (s.cap - s.len) + 1 := by omega
    rw [this, Nat.add_mul]; omega
/-- Work that is still to come. -/
structure It where
  b : Nat
  ah : ByteArray
  own : Bool
  sl : ByteArray
  w : Option ByteArray
  F : Fo
def It.raw (i : It) : Wk := (some ⟨i.b, 0, none⟩, i.ah, i.own)
def It.key (i : It) : List UInt8 := i.ah.data.toList ++ i.sl.data.toList
/-- The pairs that it still gives. -/
def It.prs (i : It) : List (List UInt8 × ByteArray) := if i.own then (i.w.map fun v => (i.key, v)).toList else (prsR i.w i.F).map fun p => (i.key ++ p.1, p.2)
def It.cost (i : It) : Nat := if i.own then 1 else 2 + 2 * cntF i.F
def remP (l : List It) : List (List UInt8 × ByteArray) := l.reverse.flatMap It.prs
def costP (l : List It) : Nat := (l.map It.cost).sum
theorem remP_snoc (l : List It) (i : It) : remP (l ++ [i]) = i.prs ++ remP l := by unfold remP; rw [List.reverse_append]; rfl
theorem costP_app (l m : List It) : costP (l ++ m) = costP l + costP m := by unfold costP; rw [List.map_append, List.sum_append]
theorem remP_app (l m : List It) : remP (l ++ m) = remP m ++ remP l := by unfold remP; rw [List.reverse_append, List.flatMap_append]
end Go.Proofs
namespace Go.Proofs
open Go Go.Lift
theorem rxLabel_ok {W : Nat → Prop} {h : Heap} {b : Nat} {sl : ByteArray} {w : Option ByteArray} {F : Fo} (r : RxN W h b sl w F) {K : ByteArray → Heap → Prop} (hk : K sl h) : HC PG f_radix_Node_Label [.pointer (some ⟨b, 0, none⟩)] [.c .str] K h := by
  refine H_radix_Node_Label _ ?_
  unfold F_radix_Node_Label
  obtain ⟨val, s, ow, ks, hb, _⟩ := r
  exact condP_false.2 ⟨_, rfl, sl, rcell (i := 0) hb, hk⟩
theorem rxValue_ok {W : Nat → Prop} {h : Heap} {b : Nat} {sl : ByteArray} {w : Option ByteArray} {F : Fo} (r : RxN W h b sl w F) {K : ByteArray × Bool → Heap → Prop} (hk : ∀ v, (∀ u, w = some u → v = u) → K (v, w.isSome) h) : HC PG f_radix_Node_Value [.pointer (some ⟨b, 0, none⟩)] [.c .str, .c .bool] K h := by
  refine H_radix_Node_Value _ ?_
  unfold F_radix_Node_Value
  obtain ⟨val, s, ow, ks, hb, hv, _⟩ := r
  exact condP_false.2 ⟨_, rfl, val, rcell (i := 2) hb, _, rfl, w.isSome, rcell (i := 1) hb, hk val hv⟩
theorem rxKids_ok {W : Nat → Prop} {h : Heap} {b : Nat} {sl : ByteArray} {w : Option ByteArray} {F : Fo} (r : RxN W h b sl w F) (hn : F.toL.length ≤ 256) {K : SliceV → Heap → Prop} (hk : ∀ s' h' ks, OwnS rxF 1 t_P_radix_Node (fun y => h.size ≤ y) h' s' ks → RxL W h' ks F.toL → Upd No h h' → K s' h') : HC PG f_radix_Node_Kids [.pointer (some ⟨b, 0, none⟩)] [.c .slice] K h := by
  refine H_radix_Node_Kids _ ?_
  unfold F_radix_Node_Kids
  obtain ⟨val, s, ow, ks, hb, hv, hs, _, hF⟩ := r
  have hL := rxF_iff.1 hF
  refine condP_false.2 ⟨_, rfl, s, rcell (i := 3) hb, ?_⟩
  refine clone_rxF hs (by rw [hL.1]; omega) fun s' h' ho hu => hk s' h' ks ho (hL.upd0 hu) hu
theorem less_nil (x : List UInt8) : Op.bytesLess x [] = false := by cases x <;> rfl
theorem nil_list : (⟨#[]⟩ : ByteArray).toList = [] := by rw [ByteArray.toList_eq]
theorem past_ok {k : ByteArray} {h : Heap} {K : Bool → Heap → Prop} (hk : ∀ h', Upd No h h' → K false h') : HC PG f_span_Span_past [.agg #[.string ⟨#[]⟩, .string ⟨#[]⟩, .bool true], .string k] [.c .bool] K h := by
  refine H_span_Span_past (⟨#[]⟩, ⟨#[]⟩, true) k ?_
  unfold F_span_Span_past
  refine at_new fun h1 b1 k1 => ?_
  refine Join.intro (fun t h' => t = false ∧ h' = h1) (fun R hR => ⟨true, vc b1 2, condP_false.2 (hR _ _ ⟨rfl, rfl⟩)⟩) ?_
  rintro t h' ⟨rfl, rfl⟩
  refine condP_false.2 ⟨_, vc b1 0, ?_⟩
  rw [nil_list, less_nil]
  exact condP_false.2 (hk h' k1)
theorem has_span_ok {k : ByteArray} {h : Heap} {K : Bool → Heap → Prop} (hk : ∀ h', Upd No h h' → K true h') : HC PG f_span_Span_Has [.agg #[.string ⟨#[]⟩, .string ⟨#[]⟩, .bool true], .string k] [.c .bool] K h := by
  refine H_span_Span_Has (⟨#[]⟩, ⟨#[]⟩, true) k ?_
  unfold F_span_Span_Has
  refine at_new fun h1 b1 k1 => ⟨_, vc b1 0, ?_⟩
  rw [nil_list, less_nil]
  exact condP_true.2 ⟨true, vc b1 2, condP_true.2 (hk h1 k1)⟩
def It.Ok (W : Nat → Prop) (h : Heap) (i : It) : Prop := RxN W h i.b i.sl i.w i.F ∧ CanF i.F ∧ i.key.length ≤ 10000 ∧ ∀ p ∈ prsR i.w i.F, i.key.length + p.1.length ≤ 10000
theorem It.Ok.updM {W M : Nat → Prop} {h h' : Heap} (k : Upd M h h') (hm : ∀ b, M b → W b ∨ h.size ≤ b) {i : It} (o : It.Ok W h i) : It.Ok W h' i := ⟨o.1.updM k hm, o.2⟩
/-- Items of kids. -/
theorem kidsIts {W : Nat → Prop} {h : Heap} (ah : ByteArray) : ∀ {ks : List (Option Addr)} {L : List Bn}, RxL W h ks L → ∃ its : List It, its.map It.raw = ks.map (fun k => (k, ah, false)) ∧ its.map (fun i => (i.sl.data.toList, i.w, i.F)) = L ∧ ∀ i ∈ its, i.ah = ah ∧ i.own = false ∧ RxN W h i.b i.sl i.w i.F
  | [], [], _ => ⟨[], rfl, rfl, by simp⟩
  | [], _ :: _, r => absurd r.1 (by simp)
  | _ :: _, [], r => absurd r.1 (by simp)
  | k :: ks, n :: L, r => by
    obtain ⟨its, h1, h2, h3⟩ := kidsIts ah (ks := ks) (L := L) ⟨by simpa using r.1, fun p hp => r.2 p (by rw [List.zip_cons_cons]; exact List.mem_cons_of_mem _ hp)⟩
    obtain ⟨b, sl, e1, e2, e3⟩ := r.2 (k, n) (by rw [List.zip_cons_cons]; exact List.mem_cons_self ..)
    simp only at e1 e2 e3
    refine ⟨⟨b, ah, false, sl, n.2.1, n.2.2⟩ :: its, ?_, ?_, ?_⟩
    · rw [List.map_cons, List.map_cons, h1, e1]; rfl
    · rw [List.map_cons, h2]; simp only [e2]
    · intro i hi
      rcases List.mem_cons.1 hi with rfl | hi
      · exact ⟨rfl, rfl, e3⟩
      · exact h3 i hi
theorem prsF_cons (lab : List UInt8) (w : Option ByteArray) (kids rest : Fo) : prsF (.cons lab w kids rest) = ((w.map fun v => (([] : List UInt8), v)).toList ++ prsF kids).map (fun p => (lab ++ p.1, p.2)) ++ prsF rest := rfl
theorem cntF_cons (lab : List UInt8) (w : Option ByteArray) (kids rest : Fo) : cntF (.cons lab w kids rest) = 1 + cntF kids + cntF rest := rfl
theorem prsF_its {ah : ByteArray} {key : List UInt8} (hk : ah.data.toList = key) : ∀ {F : Fo} {its : List It}, its.map (fun i => (i.sl.data.toList, i.w, i.F)) = F.toL → (∀ i ∈ its, i.ah = ah ∧ i.own = false) → its.flatMap It.prs = (prsF F).map fun p => (key ++ p.1, p.2)
  | .nil, its, h, _ => by
    have : its = [] := by simpa [Fo.toL] using h
    rw [this]; rfl
  | .cons lab w kids rest, [], h, _ => by simp [Fo.toL] at h
  | .cons lab w kids rest, i :: its, h, ha => by
    rw [Fo.toL_cons, List.map_cons, List.cons.injEq] at h
    obtain ⟨h1, h2⟩ := h
    simp only [Prod.mk.injEq] at h1
    obtain ⟨e1, e2, e3⟩ := h1
    rw [List.flatMap_cons, prsF_its hk h2 fun j hj => ha j (List.mem_cons_of_mem _ hj)]
    obtain ⟨a1, a2⟩ := ha i (List.mem_cons_self ..)
    rw [prsF_cons, List.map_append, List.map_map]
    congr 1
    unfold It.prs It.key prsR
    rw [a2, a1, hk, e1, e2, e3]
    simp only [Bool.false_eq_true, if_false, List.append_assoc, List.map_append, Function.comp_def]
theorem cost_its : ∀ {F : Fo} {its : List It}, its.map (fun i => (i.sl.data.toList, i.w, i.F)) = F.toL → (∀ i ∈ its, i.own = false) → costP its = 2 * cntF F
  | .nil, its, h, _ => by
    have : its = [] := by simpa [Fo.toL] using h
    rw [this]; rfl
  | .cons lab w kids rest, [], h, _ => by simp [Fo.toL] at h
  | .cons lab w kids rest, i :: its, h, ha => by
    rw [Fo.toL_cons, List.map_cons, List.cons.injEq] at h
    obtain ⟨h1, h2⟩ := h
    simp only [Prod.mk.injEq] at h1
    have e := cost_its h2 fun j hj => ha j (List.mem_cons_of_mem _ hj)
    unfold costP at e ⊢
    rw [List.map_cons, List.sum_cons, e]
    rw [cntF_cons]
    unfold It.cost
    rw [ha i (List.mem_cons_self ..), h1.2.2]
    simp only [Bool.false_eq_true, if_false]
    omega
theorem len_cost : ∀ l : List It, l.length ≤ costP l
  | [] => Nat.le_refl _
  | i :: l => by
    have := len_cost l
    unfold costP at this ⊢
    rw [List.map_cons, List.sum_cons, List.length_cons]
    have : 1 ≤ i.cost := by unfold It.cost; split <;> omega
    omega
abbrev curC (s : SliceV) : Array Value := #[sv s, .string (⟨#[]⟩ : ByteArray), .string (⟨#[]⟩ : ByteArray), .bool true, .bool false]
/-- A cursor over all keys. -/
structure Cur (W : Nat → Prop) (h : Heap) (cb : Nat) (C : Nat → Prop) (items : List It) : Prop where
  ex : ∃ s, h[cb]? = some (.cells (curC s) t_span_Cursor (0, 0)) ∧ OwnS wkF 3 t_span_work C h s (items.map It.raw)
  ok : ∀ i ∈ items, It.Ok W h i
theorem kid_ok {W : Nat → Prop} {h h' : Heap} {i : It} (io : It.Ok W h i) (ho : i.own = false) {its : List It} (e : its.map (fun i => (i.sl.data.toList, i.w, i.F)) = i.F.toL) {ah : ByteArray} (ha : ah.data.toList = i.key) (hi : ∀ j ∈ its, j.ah = ah ∧ j.own = false ∧ RxN W h' j.b j.sl j.w j.F) : ∀ j ∈ its, It.Ok W h' j := by
  intro j hj
  obtain ⟨a1, a2, a3⟩ := hi j hj
  have hm : (j.sl.data.toList, j.w, j.F) ∈ i.F.toL := by rw [← e]; exact List.mem_map.2 ⟨j, hj, rfl⟩
  have hcn := (canF_iff.1 io.2.1).2 _ hm
  have hall : ∀ p ∈ prsR j.w j.F, j.key.length + p.1.length ≤ 10000 := fun p hp => by
    have hin : InF i.F (j.sl.data.toList ++ p.1) p.2 := inF_iff.2 ⟨_, hm, p.1, rfl, mem_prsR.1 (show (p.1, p.2) ∈ _ from hp)⟩
    have := io.2.2.2 (j.sl.data.toList ++ p.1, p.2) (mem_prsR.2 (.inr hin))
    unfold It.key at this ⊢
    rw [a1, ha]
    unfold It.key
    simp only [List.length_append] at this ⊢
    omega
  obtain ⟨r, v, hr⟩ := inF_some io.2.1 _ hm
  have := hall (r, v) (mem_prsR.2 hr)
  exact ⟨a3, hcn.2.2, by simp only at this; omega, hall⟩
set_option maxHeartbeats 1000000 in
theorem push_ok {W C : Nat → Prop} {h : Heap} {cb : Nat} {items : List It} {i : It} (cur : Cur W h cb C items) (io : It.Ok W h i) (ho : i.own = false) (hC : ∀ b, h.size ≤ b → C b) (hCW : ∀ b, C b → W b) (hcbW : W cb) (hcb : ¬ C cb) (hcost : costP items + i.cost ≤ 100000000) {K : Unit → Heap → Prop}
    (hk : ∀ h' kids, Cur W h' cb C (items ++ kids) → remP kids = i.prs → costP kids < i.cost → Upd (fun b => C b ∨ b = cb) h h' → K () h') : HC PG f_span_Cursor_push [.pointer (some ⟨cb, 0, none⟩), .agg #[.pointer (some ⟨i.b, 0, none⟩), .string i.ah, .bool i.own]] [] K h := by
  refine H_span_Cursor_push (some ⟨cb, 0, none⟩) i.raw ?_
  unfold F_span_Cursor_push
  obtain ⟨s, hcell, hst⟩ := cur.ex
  refine at_new fun h1 b1 k1 => ?_
  have zc := get_lt hcell
  have s1 := k1.size
  refine ⟨i.ah, vc b1 1, _, vc b1 0, ?_⟩
  have io1 := io.updM (k1.wide (M := C)) fun b hb => .inl (hCW b hb)
  refine rxLabel_ok io1.1 ⟨vc b1 1, ?_, ?_⟩
  · have := io.2.2.1
    unfold It.key at this
    rw [List.length_append] at this
    have e1 : i.ah.data.toList.length = i.ah.size := by simp
    have e2 : i.sl.data.toList.length = i.sl.size := by simp
    omega
  have c1 := k1.get0 hcell
  refine ⟨_, rfl, _, vc2 c1 1 0, _, vc2 c1 1 1, true, vc2 c1 1 2, ?_⟩
  refine past_ok fun h2 k2 => condP_false.2 ⟨_, vc (k2.get0 b1) 0, i.ah, vc (k2.get0 b1) 1, ?_⟩
  have k02 := k1.tr k2
  refine at_new fun h3 b3 k3 => ⟨_, vc (k3.get0 (k2.get0 b1)) 0, ?_⟩
  have k03 := k02.tr k3
  have z3 := get_lt b3
  have s2 := k02.size
  have io3 := io.updM (k03.wide (M := C)) fun b hb => .inl (hCW b hb)
  have hn := can_len io.2.1
  refine rxKids_ok io3.1 hn fun s4 h4 ks ho4 hL4 k4 => ?_
  have k04 := k03.tr k4
  have hs4 : Sl rxF 1 (fun b => h2.size ≤ b ∧ b < h3.size ∨ h4.size ≤ b) h4 s4 ks := ho4.sl fun b hb hlt hx => by rcases hx with hx | hx <;> omega
  have hlk : ks.length ≤ 256 := by rw [hL4.1]; exact hn
  have hlen4 := hs4.len
  have s34 := k4.size
  let own : It := ⟨i.b, i.ah, true, i.sl, i.w, i.F⟩
  have o3 : OwnS wkF 3 t_span_work (fun b => h2.size ≤ b ∧ b < h3.size ∨ h4.size ≤ b) h4 ⟨some (newA h2), 1, 1⟩ [own.raw] := ⟨rfl, wkF_ne, Nat.le_refl _, .inr ⟨h2.size, [], rfl, .inl ⟨Nat.le_refl _, z3⟩, k4.get0 b3, rfl⟩⟩
  have eah : (i.ah ++ i.sl).data.toList = i.key := by unfold It.key; rw [ByteArray.data_append, Array.toList_append]
  obtain ⟨its, e1, e2, e3⟩ := kidsIts (i.ah ++ i.sl) hL4
  have hst4 := (hst.within.upd k04 fun _ _ h => h)
  have c4 := k04.get0 hcell
  have hM : ∀ b, h4.size ≤ b → (h2.size ≤ b ∧ b < h3.size ∨ h4.size ≤ b) := fun b hb => .inr hb
  refine LoopP.ghost (fun (n : Nat) (t : SliceV × Int) h' => t.2 = (n : Int) ∧ n ≤ ks.length ∧ OwnS wkF 3 t_span_work (fun b => h2.size ≤ b ∧ b < h3.size ∨ h4.size ≤ b) h' t.1 (own.raw :: (ks.take n).map fun k => (k, i.ah ++ i.sl, false)) ∧ Upd (fun b => h2.size ≤ b ∧ b < h3.size ∨ h4.size ≤ b) h4 h') (fun n => ks.length - n) 0 ⟨rfl, Nat.zero_le _, by simpa using o3, Upd.refl _ _⟩ ?_
  rintro I n ⟨so, ti⟩ h' ⟨et, hnk, hso, hu⟩ hI
  simp only at et hso
  subst et
  have hsz := hu.size
  refine condP_dec (fun hlt => ?_) fun hge => ?_
  · have hlt : n < ks.length := by have : (n : Int) < (s4.len : Int) := hlt; omega
    obtain ⟨a, ha, _, hv⟩ := (hs4.upd hu fun b hb => .inl hb).at0 (List.getElem?_eq_getElem hlt)
    refine Join.intro (fun t h2' => OwnS wkF 3 t_span_work (fun b => h2.size ≤ b ∧ b < h3.size ∨ h4.size ≤ b) h2' t (own.raw :: (ks.take (n + 1)).map fun k => (k, i.ah ++ i.sl, false)) ∧ Upd (fun b => h2.size ≤ b ∧ b < h3.size ∨ h4.size ≤ b) h4 h2') (fun R hR => ⟨⟨by simp only; omega, by simp only; omega⟩, a, ha, ks[n], hv, at_new fun h5 b5 k5 => ?_⟩) ?_
    · have o5 : OwnS wkF 3 t_span_work (fun _ => True) h5 ⟨some (newA h'), 1, 1⟩ [(ks[n], i.ah ++ i.sl, false)] := ⟨rfl, wkF_ne, Nat.le_refl _, .inr ⟨h'.size, [], rfl, trivial, b5, rfl⟩⟩
      refine ⟨_, (o5.sl (W := No) fun _ _ _ h => h).srow, ?_⟩
      have s5 := k5.size
      refine AppP.own (ys := [(ks[n], i.ah ++ i.sl, false)]) (hso.upd k5 fun _ _ h => h) rfl rfl rfl rfl (by omega) (by rw [List.length_cons, List.length_map, List.length_take, List.length_singleton]; omega) (.inr (by omega)) fun s6 h6 ho6 hu6 => hR _ _ ⟨?_, (hu.tr k5.wide).tr hu6⟩
      rw [List.take_succ_eq_append_getElem hlt, List.map_append]
      exact ho6
    · rintro t h2' ⟨ho2, hu2⟩
      rw [wrap_succ hlt (by omega)]
      exact hI (n + 1) _ _ ⟨rfl, hlt, ho2, hu2⟩ (by omega)
  · have hnl : n = ks.length := by have : ¬ (n : Int) < (s4.len : Int) := hge; omega
    subst hnl
    rw [List.take_length, ← e1] at hso
    have hsub : ∀ b, (h2.size ≤ b ∧ b < h3.size ∨ h4.size ≤ b) → h.size ≤ b := fun b hb => by rcases hb with hb | hb <;> omega
    have hlits : its.length = ks.length := by have := congrArg List.length e1; simpa using this
    refine Join.intro (fun _ h2' => OwnS wkF 3 t_span_work (fun b => h2.size ≤ b ∧ b < h3.size ∨ h4.size ≤ b) h2' so (own.raw :: its.map It.raw).reverse ∧ Upd (fun b => h2.size ≤ b ∧ b < h3.size ∨ h4.size ≤ b) h4 h2') (fun R hR => ?_) ?_
    · have c5 := hu.get c4 (fun hb => by have := hsub _ hb; omega)
      refine ⟨_, rfl, false, vc c5 4, condP_true.2 ?_⟩
      exact reverse_ok hso (by rw [List.length_cons, List.length_map]; omega) fun h6 ho6 hu6 => hR _ _ ⟨ho6, hu.tr hu6⟩
    · rintro _ h6 ⟨ho6, hu6⟩
      have c6 := hu6.get c4 (fun hb => by have := hsub _ hb; omega)
      have hst6 := hst4.upd hu6 fun b hb hx => by have := hsub _ hx; omega
      refine ⟨_, rfl, s, vc c6 0, ?_⟩
      have s6 := hu6.size
      refine ⟨_, (ho6.sl (W := No) fun _ _ _ h => h).srow, ?_⟩
      have hrl := ho6.len
      have hil := len_cost items
      have hmap : (own.raw :: its.map It.raw).reverse = (its.reverse ++ [own]).map It.raw := by rw [List.reverse_cons, List.map_append, List.map_reverse]; rfl
      refine AppP.own (M := C) (ys := (own.raw :: its.map It.raw).reverse) (hst6.more fun b hb => hb.1) hrl rfl (one_wkF _) rfl (by omega) (by rw [List.length_reverse, List.length_cons, List.length_map, List.length_map]; omega) (hC _ (by omega)) fun s7 h7 ho7 hu7 => ?_
      have c7 := hu7.get c6 hcb
      refine ⟨_, rfl, ?_⟩
      refine vset (i := 0) (c' := curC s7) c7 (show 0 < 5 by decide) rfl fun h8 c8 hu8 => ?_
      have ho8 := ho7.upd hu8 fun b hb e => hcb (by have e : b = cb := e; rw [← e]; exact hb)
      rw [hmap, ← List.map_append] at ho8
      have huC : Upd (fun b => C b ∨ b = cb) h h8 := (((k04.wide (M := C)).trans hu6 fun b hb => .inr (hsub b hb)).tr hu7).mono (fun b hb => .inl (.inl hb)) |>.trans hu8 fun b hb => .inl (.inr hb)
      have hupd : ∀ {j : It}, It.Ok W h4 j → It.Ok W h8 j := fun oj => ((oj.updM hu6 fun b hb => .inl (hCW b (hC b (hsub b hb)))).updM hu7 fun b hb => .inl (hCW b hb)).updM hu8 fun b hb => .inl (by have hb : b = cb := hb; rw [hb]; exact hcbW)
      refine hk h8 (its.reverse ++ [own]) ⟨⟨s7, c8, ho8⟩, fun j hj => ?_⟩ ?_ ?_ huC
      · rcases List.mem_append.1 hj with hj | hj
        · exact (cur.ok j hj).updM huC fun b hb => .inl (hb.elim (hCW b) fun e => e ▸ hcbW)
        · rcases List.mem_append.1 hj with hj | hj
          · exact hupd (kid_ok io ho e2 eah e3 j (List.mem_reverse.1 hj))
          · rw [List.mem_singleton.1 hj]
            exact It.Ok.updM (i := own) huC (fun b hb => .inl (hb.elim (hCW b) fun e => e ▸ hcbW)) ⟨io.1, io.2⟩
      · rw [remP_snoc]
        unfold remP
        rw [List.reverse_reverse, prsF_its eah e2 fun j hj => ⟨(e3 j hj).1, (e3 j hj).2.1⟩]
        show (i.w.map fun v => (own.key, v)).toList ++ _ = It.prs i
        have hke : own.key = i.key := rfl
        unfold It.prs prsR
        rw [ho, hke]
        simp only [Bool.false_eq_true, if_false, List.map_append]
        congr 1
        cases i.w with
        | none => rfl
        | some v => simp
      · rw [costP_app]
        have hc1 : costP its.reverse = costP its := by unfold costP; rw [List.map_reverse, List.sum_reverse]
        rw [hc1, cost_its e2 fun j hj => (e3 j hj).2.1]
        have : costP [own] = 1 := rfl
        rw [this]
        unfold It.cost
        rw [ho]
        simp only [Bool.false_eq_true, if_false]
        omega
end Go.Proofs
namespace Go.Proofs
open Go Go.Lift
theorem Cur.upd {W C M : Nat → Prop} {h h' : Heap} {cb : Nat} {items : List It} (c : Cur W h cb C items) (k : Upd M h h') (hW : ∀ b, M b → W b ∨ h.size ≤ b) (hCm : ∀ b, C b → b < h.size → ¬ M b) (hcb : ¬ M cb) : Cur W h' cb C items := by
  obtain ⟨s, h1, h2⟩ := c.ex
  exact ⟨⟨s, k.get h1 hcb, (h2.within.upd k fun b hb => hCm b hb.1 hb.2).more fun b hb => hb.1⟩, fun i hi => (c.ok i hi).updM k hW⟩
theorem Cur.sub {W C C' : Nat → Prop} {h : Heap} {cb : Nat} {items : List It} (c : Cur W h cb C items) (hs : ∀ b, C b → b < h.size → C' b) : Cur W h cb C' items := by
  obtain ⟨s, h1, h2⟩ := c.ex
  exact ⟨⟨s, h1, h2.within.more fun b hb => hs b hb.1 hb.2⟩, c.ok⟩
set_option maxHeartbeats 1000000 in
theorem next_ok {W C : Nat → Prop} {h : Heap} {cb : Nat} {items : List It} (cur : Cur W h cb C items) (hC : ∀ b, h.size ≤ b → C b) (hCW : ∀ b, C b → W b) (hcbW : W cb) (hcb : ¬ C cb) (hcost : costP items ≤ 100000000) {K : (ByteArray × ByteArray) × Bool → Heap → Prop}
    (hn : ∀ h', remP items = [] → Upd (fun b => C b ∨ b = cb) h h' → K (((⟨#[]⟩ : ByteArray), (⟨#[]⟩ : ByteArray)), false) h')
    (hs : ∀ h' items' k v R, remP items = (k, v) :: R → remP items' = R → costP items' ≤ costP items → Cur W h' cb C items' → Upd (fun b => C b ∨ b = cb) h h' → K ((⟨k.toArray⟩, v), true) h') :
    HC PG f_span_Cursor_Next [.pointer (some ⟨cb, 0, none⟩)] [.agg [.str, .str], .c .bool] K h := by
  refine H_span_Cursor_Next (some ⟨cb, 0, none⟩) ?_
  unfold F_span_Cursor_Next
  refine at_new fun h1 b1 k1 => condP_false.2 ?_
  have z1 := get_lt b1
  obtain ⟨s0, hc0, _⟩ := cur.ex
  have zc := get_lt hc0
  have s1 := k1.size
  have hC1 : ∀ b, h1.size ≤ b → C b ∧ b ≠ h.size := fun b hb => ⟨hC b (by omega), by omega⟩
  have cur1 : Cur W h1 cb (fun b => C b ∧ b ≠ h.size) items := (cur.sub fun b hb hlt => (⟨hb, by omega⟩ : C b ∧ b ≠ h.size)).upd k1 (fun _ h => h.elim) (fun _ _ _ h => h) fun h => h
  refine LoopP.ghost (fun (its : List It) (_ : Unit) h' => Cur W h' cb (fun b => C b ∧ b ≠ h.size) its ∧ remP its = remP items ∧ costP its ≤ costP items ∧ h'[h.size]? = some (.cells zPrL.toArray t_pair_Pair (0, 0)) ∧ Upd (fun b => C b ∨ b = cb) h h' ∧ h1.size ≤ h'.size) costP items ⟨cur1, rfl, Nat.le_refl _, b1, k1.wide, Nat.le_refl _⟩ ?_
  rintro I its ⟨⟩ h' ⟨cu, hrem, hco, bz, hu, hsz⟩ hI
  obtain ⟨s, hcell, hst⟩ := cu.ex
  have hlen := hst.len
  rw [List.length_map] at hlen
  refine ⟨_, rfl, s, vc hcell 0, ?_⟩
  refine condP_dec (fun hpos => ?_) fun hnp => ?_
  · have hpos : 0 < its.length := by omega
    obtain ⟨its', i, rfl⟩ : ∃ its' i, its = its' ++ [i] := ⟨its.dropLast, its.getLast (by intro e; rw [e] at hpos; simp at hpos), (List.dropLast_concat_getLast _).symm⟩
    rw [List.map_append] at hst
    rw [List.length_append, List.length_singleton] at hlen
    have hil := len_cost (its' ++ [i])
    rw [List.length_append, List.length_singleton] at hil
    have eidx : IntKind.wrap .i64 ((s.len : Int) - 1) = ((its'.length : Nat) : Int) := by rw [w64 (by omega)]; omega
    have sl := hst.sl (W := No) fun _ _ _ h => h
    obtain ⟨a, ha, _, hv⟩ := sl.at (i := its'.length) (x := i.raw) (by rw [List.getElem?_append_right (by rw [List.length_map]; omega), List.length_map, Nat.sub_self]; rfl)
    have hio := cu.ok i (List.mem_append_right _ (List.mem_singleton.2 rfl))
    refine ⟨_, rfl, s, vc hcell 0, _, rfl, s, vc hcell 0, ?_⟩
    rw [eidx]
    refine ⟨⟨by omega, by omega⟩, a, ha, some ⟨i.b, 0, none⟩, hv 0 _ rfl, i.ah, hv 1 _ rfl, i.own, hv 2 _ rfl, ?_⟩
    refine at_new fun h2 b2 k2 => ?_
    have sl2 := sl.upd k2 fun _ h => h.elim
    obtain ⟨a', ha', _, hv2⟩ := sl2.at (i := its'.length) (x := i.raw) (by rw [List.getElem?_append_right (by rw [List.length_map]; omega), List.length_map, Nat.sub_self]; rfl)
    rw [ha] at ha'; cases ha'
    have c2 := k2.get0 hcell
    refine ⟨⟨hv2 0 _ rfl, hv2 1 _ rfl, hv2 2 _ rfl⟩, vc c2 0, vc c2 0, ?_⟩
    refine setAll (c := [.pointer none, .string (⟨#[]⟩ : ByteArray), .bool false]) (vs := [.pointer (some ⟨i.b, 0, none⟩), .string i.ah, .bool i.own]) b2 rfl fun h3 b3 hu3 => ?_
    have k3 : Upd No h' h3 := k2.own hu3 (Nat.le_refl _)
    have c3 := k3.get0 hcell
    have zcb := get_lt hcell
    have z3 := get_lt b3
    have s3 := k3.size
    refine ⟨_, rfl, s, vc c3 0, _, rfl, s, vc c3 0, ?_⟩
    rw [eidx]
    have hcap := hst.cap
    refine ⟨⟨by omega, by omega⟩, ?_⟩
    simp only [Bd]
    refine ⟨_, rfl, ?_⟩
    refine vset (i := 0) (c' := curC ⟨subAddr s.a 0 s.cap 3, its'.length, s.cap⟩) c3 (show 0 < 5 by decide) rfl fun h4 c4 hu4 => ?_
    have b4 := hu4.oth b3 (by omega)
    have bz4 := hu4.oth (k3.get0 bz) (by omega)
    have hpop := OwnS.pop hst
    have hst4 := ((hpop.upd k3 fun _ _ h => h).upd hu4 fun b hb e => hcb (by have e : b = cb := e; rw [← e]; exact hb.1))
    rw [List.length_map] at hst4
    have huW : ∀ {j}, It.Ok W h' j → It.Ok W h4 j := fun oj => (oj.updM k3 fun _ h => h.elim).updM hu4 fun b hb => .inl (by have hb : b = cb := hb; rw [hb]; exact hcbW)
    have cu4 : Cur W h4 cb (fun b => C b ∧ b ≠ h.size) its' := ⟨⟨_, c4, hst4⟩, fun j hj => huW (cu.ok j (List.mem_append_left _ hj))⟩
    have hio4 := huW hio
    have hu04 : Upd (fun b => C b ∨ b = cb) h h4 := (hu.tr k3.wide).trans hu4 fun b hb => .inl (.inr hb)
    have s4 := hu4.size
    have hcs : costP (its' ++ [i]) = costP its' + i.cost := by rw [costP_app]; rfl
    have hrs := remP_snoc its' i
    have hic : 1 ≤ i.cost := by unfold It.cost; split <;> omega
    refine ⟨i.own, vc b4 2, ?_⟩
    cases how : i.own with
    | false =>
      refine condP_true.2 ⟨_, vc b4 0, i.ah, vc b4 1, i.own, vc b4 2, ?_⟩
      refine push_ok cu4 hio4 how (fun b hb => hC1 b (by omega)) (fun b hb => hCW b hb.1) hcbW (fun hx => hcb hx.1) (by omega) fun h5 kids cu5 hr5 hc5 hu5 => ?_
      have hu5' : Upd (fun b => C b ∨ b = cb) h4 h5 := hu5.mono fun b hb => .inl (hb.imp (fun h => h.1) id)
      refine hI (its' ++ kids) () h5 ⟨cu5, ?_, ?_, hu5.get bz4 (fun hx => by rcases hx with hx | hx; exact hx.2 rfl; omega), hu04.tr hu5', by have := hu5.size; omega⟩ ?_
      · rw [remP_app, hr5, ← hrem, hrs]
      · rw [costP_app]; omega
      · rw [costP_app]; omega
    | true =>
      refine condP_false.2 ⟨i.ah, vc b4 1, _, vc b4 0, ?_⟩
      refine rxLabel_ok hio4.1 ⟨vc b4 1, ?_, ?_⟩
      · have := hio.2.2.1
        unfold It.key at this
        rw [List.length_append] at this
        have e1 : i.ah.data.toList.length = i.ah.size := by simp
        have e2 : i.sl.data.toList.length = i.sl.size := by simp
        omega
      refine ⟨_, vc b4 0, rxValue_ok hio4.1 fun v hvw => ?_⟩
      have hpr : i.prs = (i.w.map fun v => (i.key, v)).toList := by unfold It.prs; rw [how]; rfl
      have ekey : (⟨i.key.toArray⟩ : ByteArray) = i.ah ++ i.sl := by rw [← bytes_list, ByteArray.data_append, Array.toList_append]; rfl
      refine Join.intro (fun t h5 => t = i.w.isSome ∧ Upd No h4 h5) (fun R hR => ?_) ?_
      · cases hw : i.w with
        | none => exact condP_false.2 (hR _ _ ⟨by rw [hw]; rfl, Upd.refl _ _⟩)
        | some u => exact condP_true.2 ⟨_, rfl, _, vc2 c4 1 0, _, vc2 c4 1 1, true, vc2 c4 1 2, has_span_ok fun h5 k5 => hR _ _ ⟨by rw [hw]; rfl, k5⟩⟩
      · rintro t h5 ⟨rfl, k5⟩
        have cu5 : Cur W h5 cb (fun b => C b ∧ b ≠ h.size) its' := cu4.upd k5 (fun _ h => h.elim) (fun _ _ _ h => h) fun h => h
        have bz5 := k5.get0 bz4
        have hu05 := hu04.tr (k5.wide (M := fun b => C b ∨ b = cb))
        have s5 := k5.size
        cases hw : i.w with
        | none =>
          refine condP_false.2 (hI its' () h5 ⟨cu5, ?_, by omega, bz5, hu05, by omega⟩ (by omega))
          rw [← hrem, hrs, hpr, hw]; rfl
        | some u =>
          have hvu := hvw u hw
          subst hvu
          refine condP_true.2 ?_
          refine setAll (c := zPrL) (vs := [.string (i.ah ++ i.sl), .string v]) bz5 rfl fun h6 b6 hu6 => ?_
          refine ⟨_, vc b6 0, _, vc b6 1, ?_⟩
          rw [← ekey]
          refine hs h6 its' i.key v (remP its') (by rw [← hrem, hrs, hpr, hw]; rfl) rfl (by omega) ?_ (hu05.trans hu6 fun b hb => .inr (Nat.le_of_eq (Eq.symm hb)))
          exact (cu5.upd hu6 (fun b hb => .inl (hCW b (hC b (Nat.le_of_eq (Eq.symm hb))))) (fun b hb _ e => hb.2 e) (by show ¬ cb = h.size; omega)).sub fun b hb _ => hb.1
  · have h0 : its = [] := List.length_eq_zero_iff.1 (by omega)
    subst h0
    refine setAll (c := zPrL) (vs := zPrL) bz rfl fun h6 b6 hu6 => ?_
    refine ⟨_, vc b6 0, _, vc b6 1, hn h6 hrem.symm (hu.trans hu6 fun b hb => .inr (Nat.le_of_eq (Eq.symm hb)))⟩
end Go.Proofs
