/- A part of the proof that the named laws of this program answer true, whatever the input. -/
import Derived.Test.YtjkhbpjhngfpaaaGreatPart3
import Derived.Test.YtjkhbpjhngfpaaaGreatPart1
namespace Go.Proofs
open Go Go.Lift
theorem mem_ins_iff {p q : Pr} : ∀ {l : List Pr}, Rises l → (q ∈ insR p l ↔ q = p ∨ (q ∈ l ∧ q.1 ≠ p.1))
  | [], _ => by simp [insR]
  | r :: l, hr => by
    have hr := List.pairwise_cons.1 hr
    rw [insR_cons]
    by_cases h1 : kl r.1 p.1
    · have hne : r.1 ≠ p.1 := fun e => by rw [e] at h1; exact kl_irrefl _ h1
      rw [if_pos h1, List.mem_cons, List.mem_cons, mem_ins_iff hr.2]
      constructor
      · rintro (rfl | h | ⟨h, h'⟩)
        · exact .inr ⟨.inl rfl, hne⟩
        · exact .inl h
        · exact .inr ⟨.inr h, h'⟩
      · rintro (h | ⟨h | h, h'⟩)
        · exact .inr (.inl h)
        · exact .inl h
        · exact .inr (.inr ⟨h, h'⟩)
    · rw [if_neg h1]
      by_cases h2 : r.1 = p.1
      · rw [if_pos h2, List.mem_cons, List.mem_cons]
        constructor
        · rintro (h | h)
          · exact .inl h
          · refine .inr ⟨.inr h, fun e => ?_⟩
            have := hr.1 q h
            rw [e, h2] at this; exact kl_irrefl _ this
        · rintro (h | ⟨rfl | h, h'⟩)
          · exact .inl h
          · exact absurd h2 h'
          · exact .inr h
      · rw [if_neg h2, List.mem_cons, List.mem_cons]
        have h3 := kl_tri h1 h2
        constructor
        · rintro (h | rfl | h)
          · exact .inl h
          · exact .inr ⟨.inl rfl, h2⟩
          · refine .inr ⟨.inr h, fun e => ?_⟩
            have := kl_trans h3 (hr.1 q h)
            rw [e] at this; exact kl_irrefl _ this
        · rintro (h | ⟨rfl | h, h'⟩)
          · exact .inl h
          · exact .inr (.inl rfl)
          · exact .inr (.inr h)
def RadRoot (W : Nat → Prop) (h : Heap) (r : Option Addr) (l : List Pr) : Prop := (r = none ∧ l = []) ∨ ∃ b, r = some ⟨b, 0, none⟩ ∧ RadAt W h b l
theorem RadRoot.upd0 {W : Nat → Prop} {h h' : Heap} {r : Option Addr} {l : List Pr} (k : Upd No h h') (t : RadRoot W h r l) : RadRoot W h' r l := t.imp id fun ⟨b, e, t⟩ => ⟨b, e, t.upd0 k⟩
theorem bytes_list {a b : ByteArray} : a.data.toList = b.data.toList ↔ a = b := by
  constructor
  · intro h; cases a; cases b; exact congrArg ByteArray.mk (Array.toList_inj.1 h)
  · rintro rfl; rfl
theorem rxEmpty_ok {W : Nat → Prop} {h : Heap} (hW : ∀ y, W y → y < h.size) {K : Option Addr → Heap → Prop} (hk : ∀ h' b, RadAt W h' b [] → Upd No h h' → K (some ⟨b, 0, none⟩) h') : HC PG f_radix_Empty [] [.c .ptr] K h := by
  refine H_radix_Empty ?_
  unfold F_radix_Empty
  refine at_intro (hk _ h.size ⟨none, .nil, ⟨⟨#[]⟩, ⟨none, 0, 0⟩, none, [], hnew_get h rx0 t_radix_Node, fun v h => (by cases h), Sl.nil rxF_ne, ⟨Nat.le_refl _, fun hx => Nat.lt_irrefl _ (hW _ hx)⟩, rfl⟩, trivial, fun k v => ?_⟩ (Upd.hnew No h _ _))
  simp [prsR, prsF]
theorem rxSome_ok {W : Nat → Prop} {h : Heap} {r : Option Addr} {l : List Pr} (t : RadRoot W h r l) (hW : ∀ y, W y → y < h.size) {K : Option Addr → Heap → Prop} (hk : ∀ h' b, RadAt W h' b l → Upd No h h' → (r = some ⟨b, 0, none⟩ ∨ r = none) → K (some ⟨b, 0, none⟩) h') : HC PG f_radix_some [.pointer r] [.c .ptr] K h := by
  refine H_radix_some r ?_
  unfold F_radix_some
  rcases t with ⟨rfl, rfl⟩ | ⟨b, rfl, t⟩
  · exact condP_true.2 (rxEmpty_ok hW fun h' b t hu => hk h' b t hu (.inr rfl))
  · exact condP_false.2 (hk h b t (Upd.refl _ _) (.inl rfl))
theorem radixPut_ok {W : Nat → Prop} {h : Heap} {r : Option Addr} {l : List Pr} (t : RadRoot W h r l) (hW : ∀ y, W y → y < h.size) (hr : Rises l) (p : Pr) (hp : p.1.size ≤ 1000000) {K : Option Addr × Bool → Heap → Prop}
    (hk : ∀ h' b' added, Upd No h h' → RadAt W h' b' (insR p l) → (p ∈ l → r = some ⟨b', 0, none⟩ ∨ r = none) → K (some ⟨b', 0, none⟩, added) h') :
    HC PG f_radix_Put [.pointer none, .pointer r, .agg #[.string p.1, .string p.2]] [.c .ptr, .c .bool] K h := by
  refine H_radix_Put none r p ?_
  unfold F_radix_Put
  have k1 := Upd.hnew No h [.string p.1, .string p.2] t_pair_Pair
  have b1 := hnew_get h [.string p.1, .string p.2] t_pair_Pair
  refine at_intro ?_
  simp only [newA_eq h]
  generalize hnew h [.string p.1, .string p.2] t_pair_Pair = h1 at k1 b1
  have w1 : ∀ {h' : Heap}, Upd No h1 h' → ∀ i, hcell h' (adr ⟨h.size, 0, none⟩ i) = (#[.string p.1, .string p.2] : Array Value)[i]? := fun k i => by rw [adr_mk, hcell_blk (k.get0 b1), Nat.zero_add]
  have r0 := Upd.refl No h1
  refine ⟨p.1, w1 r0 0, p.2, w1 r0 1, rxSome_ok (t.upd0 k1) (fun y hy => Nat.lt_of_lt_of_le (hW y hy) k1.size) fun h2 b t2 hu2 hb => ⟨w1 hu2 1, w1 hu2 0, ?_⟩⟩
  obtain ⟨w, F, r1, r2, r3⟩ := t2.ex
  refine rxPut_ok (p.1.size + 1) p.1 p.2 (by omega) hp r1 (fun y hy => Nat.lt_of_lt_of_le (hW y hy) (k1.tr hu2).size) r2 fun h3 b3 w' F' added ch hu3 rn3 hc3 hp3 hsm hch => ?_
  refine hk h3 b3 added ((k1.tr hu2).tr hu3) ⟨w', F', rn3, hc3, fun k v => ?_⟩ fun hm => ?_
  · rw [mem_prsR, hp3 k v, ← mem_prsR, r3 k v]
    constructor
    · rintro (⟨rfl, rfl⟩ | ⟨hne, q, hq, rfl, rfl⟩)
      · exact ⟨p, (mem_ins_iff hr).2 (.inl rfl), rfl, rfl⟩
      · exact ⟨q, (mem_ins_iff hr).2 (.inr ⟨hq, fun e => hne (by rw [e])⟩), rfl, rfl⟩
    · rintro ⟨q, hq, rfl, rfl⟩
      rcases (mem_ins_iff hr).1 hq with rfl | ⟨hq, hne⟩
      · exact .inl ⟨rfl, rfl⟩
      · exact .inr ⟨fun e => hne (bytes_list.1 e), q, hq, rfl, rfl⟩
  · have := hch (mem_prsR.1 ((r3 _ _).2 ⟨p, hm, rfl, rfl⟩))
    rw [(hsm this).1]; exact hb
/-- How a radix tree of a list looks. -/
def RadV (l : List Pr) (xs : List UInt8) : Prop := ∃ w F, CanF F ∧ prsR w F = toU l ∧ xs = shapeN ([], w, F)
theorem fit_root {w : Option ByteArray} {F : Fo} {l : List Pr} (hc : CanF F) (hp : prsR w F = toU l) (hf : Fit l) : FitF F ∧ ∀ v, w = some v → v.size ≤ 10000 := by
  have hm : ∀ k v, InR w F k v → k.length ≤ 10000 ∧ v.size ≤ 10000 := fun k v hi => by
    have := mem_prsR.2 hi
    rw [hp] at this
    obtain ⟨q, hq, e⟩ := List.mem_map.1 this
    cases e
    have := hf q hq
    exact ⟨by simpa using this.1, this.2⟩
  exact ⟨fit_of hc fun k v hi => hm k v (.inr hi), fun v hv => (hm [] v (.inl ⟨rfl, hv⟩)).2⟩
theorem radV_eq {l l' : List Pr} {xs xs' : List UInt8} (h : RadV l xs) (h' : RadV l' xs') (hf : Fit l) (hf' : Fit l') : xs = xs' ↔ l = l' := by
  obtain ⟨w, F, c, e, rfl⟩ := h
  obtain ⟨w', F', c', e', rfl⟩ := h'
  have f1 := fit_root c e hf
  have f2 := fit_root c' e' hf'
  constructor
  · intro hx
    have hx : shapeN ([], w, F) ++ [] = shapeN ([], w', F') ++ [] := by rw [hx]
    unfold shapeN at hx
    simp only [List.append_assoc] at hx
    obtain ⟨_, e2, e3, hx⟩ := nodeV_inj (Nat.zero_le _) (Nat.zero_le _) f1.2 f2.2 (can_len c) (can_len c') hx
    obtain ⟨e4, _⟩ := shapeF_inj f1.1 f2.1 e3 hx
    exact toU_inj (by rw [← e, ← e', e2, e4])
  · rintro rfl
    obtain ⟨e2, e4⟩ := root_inj c c' (e.trans e'.symm)
    rw [e2, e4]
theorem radV_len {l : List Pr} {xs : List UInt8} (h : RadV l xs) (hf : Fit l) : xs.length ≤ 20010 + 2 * l.length * 20010 := by
  obtain ⟨w, F, c, e, rfl⟩ := h
  have f1 := fit_root c e hf
  have h1 := nodeV_len (lab := []) (n := F.toL.length) (Nat.zero_le _) f1.2
  have h2 := shapeF_len f1.1
  have h3 := cntF_le c
  have h4 := congrArg List.length e
  unfold prsR toU at h4
  rw [List.length_append, List.length_map] at h4
  have h5 : cntF F * 20010 ≤ 2 * l.length * 20010 := Nat.mul_le_mul_right _ (by omega)
  unfold shapeN
  rw [List.length_append]
  simp only
  omega
theorem radShape_ok {W : Nat → Prop} {h : Heap} {b : Nat} {l : List Pr} (t : RadAt W h b l) (hr : Rises l) (hf : Fit l) (hn : l.length ≤ 60000) {K : SliceV → Heap → Prop}
    (hk : ∀ s' h' xs, RadV l xs → OwnS byF 1 t_u8 (fun y => h.size ≤ y) h' s' xs → Upd No h h' → K s' h') : HC PG f_radix_Shape [.pointer (some ⟨b, 0, none⟩)] [.c .slice] K h := by
  refine H_radix_Shape _ ?_
  unfold F_radix_Shape
  refine condP_false.2 ?_
  obtain ⟨w, F, r1, r2, r3⟩ := t.ex
  have hp := rad_prs r2 hr r3
  have f1 := fit_root r2 hp hf
  have hv : RadV l (shapeN ([], w, F)) := ⟨w, F, r2, hp, rfl⟩
  have hl := radV_len hv hf
  exact shp_of (lab := []) (Nat.zero_le _) f1.2 (can_len r2) (shp_all f1.1) (s := ⟨none, 0, 0⟩) (xs := []) (M := fun y => h.size ≤ y) r1 rfl (Upd.refl _ _) (fun _ h => h) (OwnS.nil byF_ne) (fun _ h => h) (by rw [List.length_nil]; omega) fun s' h' ho hu => hk s' h' _ hv ho (hu.mono fun y hy => .inr hy)
end Go.Proofs
namespace Go.Proofs
open Go Go.Lift
theorem at_new {h : Heap} {cs : List Value} {t : TypeId} {k : Heap → Prop} (hk : ∀ h', h'[h.size]? = some (.cells cs.toArray t (0, 0)) → Upd No h h' → k h') : At (hnew h cs t) k :=
  at_intro (hk _ (hnew_get h cs t) (Upd.hnew No h cs t))
theorem vc {h : Heap} {b : Nat} {c : Array Value} {t : TypeId} (hb : h[b]? = some (.cells c t (0, 0))) (i : Nat) : hcell h (adr ⟨b, 0, none⟩ i) = c[i]? := by rw [adr_mk, Nat.zero_add]; exact hcell_blk hb
theorem vc2 {h : Heap} {b : Nat} {c : Array Value} {t : TypeId} (hb : h[b]? = some (.cells c t (0, 0))) (i j : Nat) : hcell h (adr (adr ⟨b, 0, none⟩ i) j) = c[i + j]? := by rw [adr_mk, adr_mk, Nat.zero_add]; exact hcell_blk hb
theorem vset {h : Heap} {b i : Nat} {c c' : Array Value} {t : TypeId} {v : Value} {k : Heap → Prop} (hb : h[b]? = some (.cells c t (0, 0))) (hi : i < c.size) (e : c.setIfInBounds i v = c') (hk : ∀ h', h'[b]? = some (.cells c' t (0, 0)) → Upd (· = b) h h' → k h') : Wr h (adr ⟨b, 0, none⟩ i) ∧ At (hset h (adr ⟨b, 0, none⟩ i) v) k := by
  rw [adr_mk, Nat.zero_add]
  exact ⟨wr_blk hb hi, at_set hb fun h' hb' hu => hk h' (e ▸ hb') hu⟩
/-- A block of one's own, that is newer, changes nothing that stood. -/
theorem _root_.Go.Lift.Upd.own {h h1 h2 : Heap} {b : Nat} (k : Upd No h h1) (hu : Upd (· = b) h1 h2) (hb : h.size ≤ b) : Upd No h h2 := k.trans hu fun x hx => .inr (by have hx : x = b := hx; omega)
theorem _root_.Go.Lift.Upd.oth {h h' : Heap} {b c : Nat} {o : Obj} (hu : Upd (· = b) h h') (hc : h[c]? = some o) (hne : c ≠ b) : h'[c]? = some o := hu.get hc hne
abbrev Tr := Int × Int × Int × Int × (Option Addr) × (Option Addr)
abbrev trL (t : Tr) : List Value := [.int .i64 t.1, .int .u64 t.2.1, .int .u64 t.2.2.1, .int .u64 t.2.2.2.1, .pointer t.2.2.2.2.1, .pointer t.2.2.2.2.2]
abbrev trV (t : Tr) : Value := .agg #[.int .i64 t.1, .int .u64 t.2.1, .int .u64 t.2.2.1, .int .u64 t.2.2.2.1, .pointer t.2.2.2.2.1, .pointer t.2.2.2.2.2]
/-- What a function lays out at its beginning is left out, too. -/
def Pro (W : Nat → Prop) (h h2 : Heap) (y : Nat) : Prop := W y ∨ (h.size ≤ y ∧ y < h2.size)
theorem Pro.lt {W : Nat → Prop} {h h2 : Heap} (hW : ∀ y, W y → y < h.size) (k : Upd No h h2) : ∀ y, Pro W h h2 y → y < h2.size := fun y hy => hy.elim (fun h => Nat.lt_of_lt_of_le (hW y h) k.size) fun h => h.2
theorem Pro.hm {W : Nat → Prop} {h h2 : Heap} : ∀ y, Pro W h h2 y → W y ∨ h.size ≤ y := fun _ hy => hy.imp id fun h => h.1
theorem Pro.sub {W : Nat → Prop} {h h2 h3 : Heap} : ∀ y, W y → Pro W h h2 y ∨ h3.size ≤ y := fun _ hy => .inl (.inl hy)
theorem RootAt.less {W W' : Nat → Prop} {x : Hs} {h : Heap} (hm : ∀ b, W' b → W b ∨ h.size ≤ b) {r : Option Addr} {l : List Pr} (t : RootAt W x h r l) : RootAt W' x h r l := t.imp id fun ⟨b, e, t⟩ => ⟨b, e, TrieAt.less hm t⟩
theorem RadRoot.less {W W' : Nat → Prop} {h : Heap} (hm : ∀ b, W' b → W b ∨ h.size ≤ b) {r : Option Addr} {l : List Pr} (t : RadRoot W h r l) : RadRoot W' h r l := t.imp id fun ⟨b, e, t⟩ => ⟨b, e, t.less hm⟩
/-- A tree of a kind and a hasher, of a rising list. -/
def TreeIs (W : Nat → Prop) (h : Heap) (kind : Int) (x : Hs) (t : Tr) (l : List Pr) : Prop := (kind = 0 ∧ ∃ b, t = (0, x.k0, x.k1, x.mask, some ⟨b, 0, none⟩, none) ∧ TrieAt W x h 13 b l) ∨ (kind = 1 ∧ ∃ b, t = (1, 0, 0, 0, none, some ⟨b, 0, none⟩) ∧ RadAt W h b l)
theorem TreeIs.upd0 {W : Nat → Prop} {h h' : Heap} {kind : Int} {x : Hs} {t : Tr} {l : List Pr} (k : Upd No h h') (i : TreeIs W h kind x t l) : TreeIs W h' kind x t l :=
  i.imp (fun ⟨e, b, e2, t⟩ => ⟨e, b, e2, TrieAt.upd0 k t⟩) fun ⟨e, b, e2, t⟩ => ⟨e, b, e2, t.upd0 k⟩
theorem TreeIs.less {W W' : Nat → Prop} {h : Heap} (hm : ∀ b, W' b → W b ∨ h.size ≤ b) {kind : Int} {x : Hs} {t : Tr} {l : List Pr} (i : TreeIs W h kind x t l) : TreeIs W' h kind x t l :=
  i.imp (fun ⟨e, b, e2, t⟩ => ⟨e, b, e2, TrieAt.less hm t⟩) fun ⟨e, b, e2, t⟩ => ⟨e, b, e2, t.less hm⟩
theorem TreeIs.updM {W M : Nat → Prop} {h h' : Heap} (k : Upd M h h') (hm : ∀ b, M b → W b ∨ h.size ≤ b) {kind : Int} {x : Hs} {t : Tr} {l : List Pr} (i : TreeIs W h kind x t l) : TreeIs W h' kind x t l :=
  i.imp (fun ⟨e, b, e2, t⟩ => ⟨e, b, e2, TrieAt.updM k hm t⟩) fun ⟨e, b, e2, t⟩ => ⟨e, b, e2, t.updM k hm⟩
theorem TreeIs.pro {W : Nat → Prop} {h h2 : Heap} (k : Upd No h h2) {kind : Int} {x : Hs} {t : Tr} {l : List Pr} (i : TreeIs W h kind x t l) : TreeIs (Pro W h h2) h2 kind x t l := (i.less Pro.hm).upd0 k
theorem champEmpty_ok {W : Nat → Prop} {x : Hs} {h : Heap} (hW : ∀ y, W y → y < h.size) {K : Option Addr → Heap → Prop} (hk : ∀ h' b, TrieAt W x h' 13 b [] → Upd No h h' → K (some ⟨b, 0, none⟩) h') : HC PG f_champ_Empty [] [.c .ptr] K h := by
  refine H_champ_Empty ?_
  unfold F_champ_Empty
  exact nodeInner_ok hW fun h' b nd hu => hk h' b (trie_nil nd) hu
abbrev tr0 : Tr := (0, 0, 0, 0, none, none)
theorem tOfChamp_ok {W : Nat → Prop} {x : Hs} {h : Heap} {r : Option Addr} {l : List Pr} (t : RootAt W x h r l) (hW : ∀ y, W y → y < h.size) {K : Tr → Heap → Prop} (hk : ∀ h' t, TreeIs W h' 0 x t l → Upd No h h' → K t h') : HC PG f_tree_OfChamp [.agg #[.int .u64 x.k0, .int .u64 x.k1, .int .u64 x.mask], .pointer r] [.agg [.int .i64, .int .u64, .int .u64, .int .u64, .ptr, .ptr]] K h := by
  refine H_tree_OfChamp (x.k0, x.k1, x.mask) r ?_
  unfold F_tree_OfChamp
  refine at_new fun h1 b1 k1 => at_new fun h2 b2 k2 => ?_
  have z1 := get_lt b1
  have z2 := get_lt b2
  have k02 := k1.tr k2
  refine Join.intro (fun t h' => Upd No h2 h' ∧ ∃ b, t = some ⟨b, 0, none⟩ ∧ TrieAt (Pro W h h2) x h' 13 b l) (fun R hR => ?_) ?_
  · rcases t with ⟨rfl, rfl⟩ | ⟨b, rfl, t⟩
    · exact condP_true.2 (champEmpty_ok (Pro.lt hW k02) fun h3 b t hu3 => hR _ _ ⟨hu3, b, rfl, t⟩)
    · exact condP_false.2 (hR _ _ ⟨Upd.refl _ _, b, rfl, TrieAt.upd0 k02 (TrieAt.less Pro.hm t)⟩)
  · rintro t3 h3 ⟨hu3, b, rfl, t3⟩
    have c1 := hu3.get0 (k2.get0 b1)
    refine ⟨_, vc c1 0, _, vc c1 1, _, vc c1 2, ?_⟩
    refine setAll (c := trL tr0) (vs := trL (0, x.k0, x.k1, x.mask, some ⟨b, 0, none⟩, none)) (hu3.get0 b2) rfl fun h4 b4 hu4 => ?_
    refine ⟨_, vc b4 0, _, vc b4 1, _, vc b4 2, _, vc b4 3, _, vc b4 4, _, vc b4 5, ?_⟩
    have hb1 : h.size ≤ h1.size := k1.size
    exact hk h4 _ (.inl ⟨rfl, b, rfl, TrieAt.less Pro.sub (TrieAt.updM hu4 (fun y hy => .inl (.inr (by have hy : y = h1.size := hy; omega))) t3)⟩) ((k02.tr hu3).own hu4 hb1)
theorem tOfRadix_ok {W : Nat → Prop} {x : Hs} {h : Heap} {r : Option Addr} {l : List Pr} (t : RadRoot W h r l) (hW : ∀ y, W y → y < h.size) {K : Tr → Heap → Prop} (hk : ∀ h' t, TreeIs W h' 1 x t l → Upd No h h' → K t h') : HC PG f_tree_OfRadix [.pointer r] [.agg [.int .i64, .int .u64, .int .u64, .int .u64, .ptr, .ptr]] K h := by
  refine H_tree_OfRadix r ?_
  unfold F_tree_OfRadix
  refine at_new fun h2 b2 k02 => ?_
  have z2 := get_lt b2
  refine Join.intro (fun t h' => Upd No h2 h' ∧ ∃ b, t = some ⟨b, 0, none⟩ ∧ RadAt (Pro W h h2) h' b l) (fun R hR => ?_) ?_
  · rcases t with ⟨rfl, rfl⟩ | ⟨b, rfl, t⟩
    · exact condP_true.2 (rxEmpty_ok (Pro.lt hW k02) fun h3 b t hu3 => hR _ _ ⟨hu3, b, rfl, t⟩)
    · exact condP_false.2 (hR _ _ ⟨Upd.refl _ _, b, rfl, (t.less Pro.hm).upd0 k02⟩)
  · rintro t3 h3 ⟨hu3, b, rfl, t3⟩
    refine setAll (c := trL tr0) (vs := trL (1, 0, 0, 0, none, some ⟨b, 0, none⟩)) (hu3.get0 b2) rfl fun h4 b4 hu4 => ?_
    refine ⟨_, vc b4 0, _, vc b4 1, _, vc b4 2, _, vc b4 3, _, vc b4 4, _, vc b4 5, ?_⟩
    exact hk h4 _ (.inr ⟨rfl, b, rfl, (t3.updM hu4 (fun y hy => .inl (.inr (by have hy : y = h.size := hy; omega)))).less Pro.sub⟩) ((k02.tr hu3).own hu4 (Nat.le_refl _))
theorem tNew_ok {W : Nat → Prop} {x : Hs} {h : Heap} (hW : ∀ y, W y → y < h.size) {kind : Int} (hkd : kind = 0 ∨ kind = 1) {K : Tr × Int → Heap → Prop} (hk : ∀ h' t, TreeIs W h' kind x t [] → Upd No h h' → K (t, 0) h') : HC PG f_tree_New [.int .i64 kind, .agg #[.int .u64 x.k0, .int .u64 x.k1, .int .u64 x.mask]] [.agg [.int .i64, .int .u64, .int .u64, .int .u64, .ptr, .ptr], .c (.int .i64)] K h := by
  refine H_tree_New kind (x.k0, x.k1, x.mask) ?_
  unfold F_tree_New
  refine at_new fun h1 b1 k1 => at_new fun h2 b2 k2 => ?_
  have z1 := get_lt b1
  have z2 := get_lt b2
  have k02 := k1.tr k2
  have hb1 : h.size ≤ h1.size := k1.size
  have c1 := k2.get0 b1
  rcases hkd with rfl | rfl
  · refine condP_true.2 ⟨_, vc c1 0, _, vc c1 1, _, vc c1 2, ?_⟩
    refine tOfChamp_ok (W := Pro W h h2) (x := x) (l := []) (.inl ⟨rfl, rfl⟩) (Pro.lt hW k02) fun h3 t i3 hu3 => ?_
    refine setAll (c := trL tr0) (vs := trL t) (hu3.get0 b2) rfl fun h4 b4 hu4 => ?_
    refine ⟨_, vc b4 0, _, vc b4 1, _, vc b4 2, _, vc b4 3, _, vc b4 4, _, vc b4 5, ?_⟩
    exact hk h4 t ((i3.updM hu4 (fun y hy => .inl (.inr (by have hy : y = h1.size := hy; omega)))).less Pro.sub) ((k02.tr hu3).own hu4 hb1)
  · refine condP_false.2 (condP_true.2 ?_)
    refine tOfRadix_ok (W := Pro W h h2) (x := x) (l := []) (.inl ⟨rfl, rfl⟩) (Pro.lt hW k02) fun h3 t i3 hu3 => ?_
    refine setAll (c := trL tr0) (vs := trL t) (hu3.get0 b2) rfl fun h4 b4 hu4 => ?_
    refine ⟨_, vc b4 0, _, vc b4 1, _, vc b4 2, _, vc b4 3, _, vc b4 4, _, vc b4 5, ?_⟩
    exact hk h4 t ((i3.updM hu4 (fun y hy => .inl (.inr (by have hy : y = h1.size := hy; omega)))).less Pro.sub) ((k02.tr hu3).own hu4 hb1)
theorem pRight_ok {k v : ByteArray} (h1 : k.size ≤ 256) (h2 : v.size ≤ 4096) {h : Heap} {K : Int → Heap → Prop} (hk : K 0 h) : HC PG f_pair_Right [.string k, .string v] [.c (.int .i64)] K h := by
  refine H_pair_Right k v ?_
  unfold F_pair_Right
  refine condP_dec (fun h => absurd h (by omega)) fun _ => condP_dec (fun h => absurd h (by omega)) fun _ => hk
theorem tWith_ok {W : Nat → Prop} {x : Hs} {h : Heap} {kind : Int} {t : Tr} {l : List Pr} (i : TreeIs W h kind x t l) (hW : ∀ y, W y → y < h.size) (hr : Rises l) (hn : l.length ≤ 1000000) (p : Pr) (hp1 : p.1.size ≤ 256) (hp2 : p.2.size ≤ 4096) {K : Tr × Int → Heap → Prop}
    (hk : ∀ h' t', TreeIs W h' kind x t' (insR p l) → (p ∈ l → t' = t) → Upd No h h' → K (t', 0) h') : HC PG f_tree_Tree_With [trV t, .pointer none, .agg #[.string p.1, .string p.2]] [.agg [.int .i64, .int .u64, .int .u64, .int .u64, .ptr, .ptr], .c (.int .i64)] K h := by
  refine H_tree_Tree_With t none p ?_
  unfold F_tree_Tree_With
  refine at_new fun h1 b1 k1 => at_new fun h2 b2 k2 => at_new fun h3 b3 k3 => ?_
  have z1 := get_lt b1
  have z2 := get_lt b2
  have z3 := get_lt b3
  have s1 : h.size ≤ h1.size := k1.size
  have s2 : h1.size ≤ h2.size := k2.size
  have s3 := k3.size
  have k03 := (k1.tr k2).tr k3
  have v1 := k3.get0 (k2.get0 b1)
  have v2 := k3.get0 b2
  have i3 := i.pro k03
  have hW3 := Pro.lt hW k03
  refine ⟨_, vc v2 0, _, vc v2 1, pRight_ok hp1 hp2 (condP_false.2 ?_)⟩
  rcases i3 with ⟨rfl, b, rfl, t3⟩ | ⟨rfl, b, rfl, t3⟩
  · refine ⟨_, vc v1 0, condP_false.2 ⟨_, vc2 v1 1 0, _, vc2 v1 1 1, _, vc2 v1 1 2, _, vc v1 4, p.1, vc v2 0, p.2, vc v2 1, ?_⟩⟩
    refine champPut_ok (.inr ⟨b, rfl, t3⟩) hW3 hr hn p fun h4 b4 hu4 t4 hsame => ?_
    refine vset (i := 4) (c' := (trL (0, x.k0, x.k1, x.mask, some ⟨b4, 0, none⟩, none)).toArray) (hu4.get0 v1) (show 4 < 6 by decide) rfl fun h5 v5 hu5 => ?_
    refine ⟨_, vc v5 0, _, vc v5 1, _, vc v5 2, _, vc v5 3, _, vc v5 4, _, vc v5 5, ?_⟩
    refine setAll (c := trL tr0) (vs := trL (0, x.k0, x.k1, x.mask, some ⟨b4, 0, none⟩, none)) (hu5.oth (hu4.get0 b3) (by omega)) rfl fun h6 v6 hu6 => ?_
    refine ⟨_, vc v6 0, _, vc v6 1, _, vc v6 2, _, vc v6 3, _, vc v6 4, _, vc v6 5, ?_⟩
    refine hk h6 _ (.inl ⟨rfl, b4, rfl, TrieAt.less Pro.sub (TrieAt.updM hu6 (fun y hy => .inl (.inr (by have hy : y = h2.size := hy; omega))) (TrieAt.updM hu5 (fun y hy => .inl (.inr (by have hy : y = h.size := hy; omega))) t4))⟩) (fun hm => ?_) (((k03.tr hu4).own hu5 (Nat.le_refl _)).own hu6 (by omega))
    rcases hsame hm with e | e
    · rw [e]
    · cases e
  · refine ⟨_, vc v1 0, condP_true.2 ⟨_, vc v1 5, p.1, vc v2 0, p.2, vc v2 1, ?_⟩⟩
    refine radixPut_ok (.inr ⟨b, rfl, t3⟩) hW3 hr p (by omega) fun h4 b4 added hu4 t4 hsame => ?_
    refine vset (i := 5) (c' := (trL (1, 0, 0, 0, none, some ⟨b4, 0, none⟩)).toArray) (hu4.get0 v1) (show 5 < 6 by decide) rfl fun h5 v5 hu5 => ?_
    refine ⟨_, vc v5 0, _, vc v5 1, _, vc v5 2, _, vc v5 3, _, vc v5 4, _, vc v5 5, ?_⟩
    refine setAll (c := trL tr0) (vs := trL (1, 0, 0, 0, none, some ⟨b4, 0, none⟩)) (hu5.oth (hu4.get0 b3) (by omega)) rfl fun h6 v6 hu6 => ?_
    refine ⟨_, vc v6 0, _, vc v6 1, _, vc v6 2, _, vc v6 3, _, vc v6 4, _, vc v6 5, ?_⟩
    refine hk h6 _ (.inr ⟨rfl, b4, rfl, ((t4.updM hu5 (fun y hy => .inl (.inr (by have hy : y = h.size := hy; omega)))).updM hu6 (fun y hy => .inl (.inr (by have hy : y = h2.size := hy; omega)))).less Pro.sub⟩) (fun hm => ?_) (((k03.tr hu4).own hu5 (Nat.le_refl _)).own hu6 (by omega))
    rcases hsame hm with e | e
    · rw [e]
    · cases e
end Go.Proofs
namespace Go.Proofs
open Go Go.Lift
/-- A list without a key. -/
def delR (k : ByteArray) (l : List Pr) : List Pr := l.filter fun q => decide (q.1 ≠ k)
theorem delR_cons (k : ByteArray) (q : Pr) (l : List Pr) : delR k (q :: l) = if q.1 = k then delR k l else q :: delR k l := by
  unfold delR
  rw [List.filter_cons]
  by_cases h : q.1 = k
  · rw [if_pos h, if_neg (by simpa using h)]
  · rw [if_neg h, if_pos (by simpa using h)]
theorem del_no {k : ByteArray} {l : List Pr} (h : ∀ q ∈ l, q.1 ≠ k) : delR k l = l := List.filter_eq_self.2 fun q hq => decide_eq_true (h q hq)
theorem there_no {k : ByteArray} {l : List Pr} (h : there l k = false) : ∀ q ∈ l, q.1 ≠ k := fun q hq e => by
  have : there l k = true := List.any_eq_true.2 ⟨q, hq, decide_eq_true e⟩
  rw [h] at this; cases this
theorem no_there {k : ByteArray} {l : List Pr} (h : ∀ q ∈ l, q.1 ≠ k) : there l k = false := by
  rcases ht : there l k with _ | _
  · rfl
  · obtain ⟨q, hq, e⟩ := List.any_eq_true.1 ht
    exact absurd (of_decide_eq_true e) (h q hq)
theorem rises_del {k : ByteArray} {l : List Pr} (hr : Rises l) : Rises (delR k l) := hr.sublist List.filter_sublist
theorem mem_del {k : ByteArray} {l : List Pr} {p : Pr} : p ∈ delR k l ↔ p ∈ l ∧ p.1 ≠ k := by unfold delR; rw [List.mem_filter, decide_eq_true_iff]
theorem del_le {k : ByteArray} {l : List Pr} : (delR k l).length ≤ l.length := List.length_filter_le ..
theorem del_len {k : ByteArray} : ∀ {l : List Pr}, Rises l → l.length ≤ (delR k l).length + 1
  | [], _ => Nat.zero_le _
  | q :: l, hr => by
    have hr := List.pairwise_cons.1 hr
    rw [delR_cons]
    by_cases h : q.1 = k
    · rw [if_pos h, del_no fun r hm e => by have := hr.1 r hm; rw [h, e] at this; exact kl_irrefl _ this]; exact Nat.le_refl _
    · rw [if_neg h]
      have := del_len (k := k) hr.2
      simp only [List.length_cons]; omega
theorem delP_eq (k : ByteArray) : ∀ {l : List Pr}, Rises l → delP l k = delR k l
  | [], _ => by simp [delP, delR, there]
  | q :: l, hr => by
    have hr' := hr
    have hr := List.pairwise_cons.1 hr
    have hpos : pos (q :: l) k = if kl q.1 k then pos l k + 1 else 0 := by
      unfold pos; rw [List.takeWhile_cons]
      by_cases h : kl q.1 k
      · rw [if_pos (by simpa using h), if_pos h]; rfl
      · rw [if_neg (by simpa using h), if_neg h]; rfl
    have hth : there (q :: l) k = (decide (q.1 = k) || there l k) := by unfold there; rw [List.any_cons]
    by_cases h : kl q.1 k
    · have hne : q.1 ≠ k := fun e => by rw [e] at h; exact kl_irrefl _ h
      rw [delR_cons, if_neg hne, ← delP_eq k hr.2]
      unfold delP
      rw [hth, hpos, if_pos h, decide_eq_false hne, Bool.false_or]
      by_cases ht : there l k = true
      · rw [if_pos ht, if_pos ht]; rfl
      · rw [if_neg ht, if_neg ht]
    · by_cases e : q.1 = k
      · have hno : ∀ r ∈ l, r.1 ≠ k := fun r hm e2 => by have := hr.1 r hm; rw [e, e2] at this; exact kl_irrefl _ this
        rw [delR_cons, if_pos e, del_no hno]
        unfold delP
        rw [hth, hpos, if_neg h, decide_eq_true e, Bool.true_or, if_pos rfl]; rfl
      · have hgt := kl_tri h e
        have hno : ∀ r ∈ q :: l, r.1 ≠ k := fun r hm e2 => by
          rcases List.mem_cons.1 hm with rfl | hm
          · exact e e2
          · have := hr.1 r hm
            rw [e2] at this
            exact kl_irrefl _ (kl_trans hgt this)
        rw [del_no hno]
        unfold delP
        rw [no_there hno]; rfl
theorem part_del {x : Hs} {lev c : Nat} {k : ByteArray} {l : List Pr} : part x lev c (delR k l) = delR k (part x lev c l) := by
  unfold part delR
  rw [List.filter_filter, List.filter_filter]
  exact List.filter_congr fun p _ => Bool.and_comm ..
theorem part_delN {x : Hs} {lev c : Nat} {k : ByteArray} {l : List Pr} (h : c ≠ ck x lev k) : part x lev c (delR k l) = part x lev c l := by
  rw [part_del]
  exact del_no fun q hq e => h (by rw [← e]; exact (mem_part.1 hq).2.symm)
/-- A chunk's slot turned, the others as they were. -/
theorem trie_turnD {W : Nat → Prop} {x : Hs} {h h' : Heap} {m b' : Nat} {s s' : Slots} {l : List Pr} {k : ByteArray} (hu : Upd No h h') (nd : NodeAt W h' b' s') (hs : ∀ c, c < 32 → SlotIs W x h m s c (part x (12 - m) c l))
    (hp : ∀ c, c ≠ ck x (12 - m) k → s'.p c = s.p c ∧ s'.k c = s.k c) (hi : SlotIs W x h' m s' (ck x (12 - m) k) (delR k (part x (12 - m) (ck x (12 - m) k) l))) : TrieAt W x h' (m + 1) b' (delR k l) := by
  refine ⟨s', nd, fun c hc => ?_⟩
  by_cases e : ck x (12 - m) k = c
  · rw [part_del]; subst e; exact hi
  · rw [part_delN fun h => e h.symm]
    have t := SlotIs.upd0 hu (hs c hc)
    obtain ⟨e1, e2⟩ := hp c fun h => e h.symm
    unfold SlotIs at t
    rw [← e1, ← e2] at t
    exact t
theorem fm_lenS {β : Type} (g : Nat → Option β) : ∀ n, (fm g n).length = ((List.range n).map fun c => (g c).toList.length).sum
  | 0 => rfl
  | n + 1 => by
    rw [fm_succ, List.length_append, fm_lenS g n, List.range_succ, List.map_append, List.sum_append]
    simp
theorem solo_all {x : Hs} {lev : Nat} {l : List Pr} (h : ∀ c, c < 32 → (part x lev c l).length ≤ 1) : (solos x lev l).length = l.length := by
  unfold solos
  rw [fm_lenS]
  have e := parts_len x lev l 32
  have e2 : (l.filter fun p => decide (ck x lev p.1 < 32)) = l := List.filter_eq_self.2 fun p _ => decide_eq_true (ck_lt x lev p.1)
  rw [e2] at e
  rw [← e]
  refine congrArg List.sum (List.map_congr_left fun c hc => ?_)
  have := h c (List.mem_range.1 hc)
  match hp : part x lev c l with
  | [] => rfl
  | [p] => rfl
  | a :: b :: r => rw [hp] at this; simp at this
/-- What a node of a trie has in its rows: just if it has one pair, and no kid, its list is one of one pair. -/
theorem trie_alone {W : Nat → Prop} {x : Hs} {h : Heap} {m b : Nat} {l : List Pr} (t : TrieAt W x h m b l) (hn : l.length ≤ 1000000) :
    ∃ d n sp sk bu ow lp lk, h[b]? = some (.cells (nodeC d n sp sk bu ow) t_node_Node (0, 0)) ∧ Sl prF 2 W h sp lp ∧ Sl ndF 1 W h sk lk ∧ lp.length ≤ 1000000 ∧ lk.length ≤ 32 ∧ (lp.length + lk.length = 1 ∧ n = 0 ↔ l.length = 1) ∧ ∀ p, l = [p] → lp = [p] := by
  cases m with
  | zero =>
    obtain ⟨sp, sk, ow, hb, hsp, hsk, _⟩ := BuckAt.ex t
    exact ⟨0, 0, sp, sk, true, ow, l, [], hb, hsp, hsk, hn, by simp, by simp, fun p e => e⟩
  | succ m =>
    obtain ⟨s, nd, hs⟩ := t
    have hs : ∀ c, c < 32 → SlotIs W x h m s c (part x (12 - m) c l) := hs
    obtain ⟨d, n, sp, sk, ow, hb, bits, hsp, hsk, _⟩ := nd.ex
    have hso := solosAt hs
    have hl32 := fm_32 (g := s.p)
    refine ⟨d, n, sp, sk, false, ow, _, _, hb, hsp, hsk, by omega, fm_32, ?_, ?_⟩
    · by_cases hk : ∀ c, c < 32 → s.k c = none
      · have e0 : n = 0 := Nat.eq_of_testBit_eq fun c => by
          rw [Nat.zero_testBit]
          by_cases hc : c < 32
          · rw [bits.nk c hc, hk c hc]; rfl
          · exact Nat.testBit_lt_two_pow (Nat.lt_of_lt_of_le bits.n32 (Nat.pow_le_pow_right (n := 2) (by omega) (by omega : 32 ≤ c)))
        have ek : fm s.k 32 = [] := by
          unfold fm
          rw [List.filterMap_eq_nil_iff]
          exact fun c hc => hk c (List.mem_range.1 hc)
        have el : (fm s.p 32).length = l.length := by
          rw [hso]
          refine solo_all fun c hc => ?_
          rcases hs c hc with ⟨h0, _⟩ | ⟨p, h0, _⟩ | ⟨_, _, kb, h2, _⟩
          · rw [h0]; simp
          · rw [h0]; simp
          · rw [hk c hc] at h2; cases h2
        rw [ek, el, e0]; simp
      · obtain ⟨c, hc⟩ := Classical.not_forall.1 hk
        obtain ⟨hc, hkc⟩ := Classical.not_imp.1 hc
        have hne : n ≠ 0 := fun e0 => by
          have := bits.nk c hc
          rw [e0, Nat.zero_testBit] at this
          cases hkk : s.k c with
          | none => exact hkc hkk
          | some y => rw [hkk] at this; cases this
        rcases hs c hc with ⟨_, _, h0⟩ | ⟨p, _, _, h0⟩ | ⟨h2, _⟩
        · exact absurd h0 hkc
        · exact absurd h0 hkc
        · have := part_len (x := x) (lev := 12 - m) (c := c) (l := l)
          constructor
          · rintro ⟨_, e⟩; exact absurd e hne
          · intro e; omega
    · rintro p rfl
      rw [hso]
      have hc := ck_lt x (12 - m) p.1
      have el : (solos x (12 - m) [p]).length = 1 := solo_all fun c _ => Nat.le_trans part_len (by simp)
      match hq : solos x (12 - m) [p], el with
      | [q], _ =>
        have : q ∈ solos x (12 - m) [p] := by rw [hq]; exact List.mem_singleton.2 rfl
        rw [List.mem_singleton.1 (mem_solos this)]
theorem nLen_ok {h : Heap} {b d n : Nat} {sp sk : SliceV} {bu : Bool} {ow : Option Addr} (hb : h[b]? = some (.cells (nodeC d n sp sk bu ow) t_node_Node (0, 0))) (hl : sp.len + sk.len ≤ 1000000000) {K : Int → Heap → Prop} (hk : K ((sp.len + sk.len : Nat) : Int) h) : HC PG f_node_Node_Len [.pointer (some ⟨b, 0, none⟩)] [.c (.int .i64)] K h := by
  refine H_node_Node_Len _ ?_
  unfold F_node_Node_Len
  refine condP_false.2 ⟨_, rfl, sp, ncell (i := 2) hb, _, rfl, sk, ncell (i := 3) hb, ?_⟩
  have e : IntKind.wrap .i64 ((sp.len : Int) + (sk.len : Int)) = ((sp.len + sk.len : Nat) : Int) := by rw [w64 (by omega)]; omega
  rw [e]; exact hk
theorem alone_ok {W : Nat → Prop} {x : Hs} {h : Heap} {m b : Nat} {l : List Pr} (t : TrieAt W x h m b l) (hn : l.length ≤ 1000000) {K : Pr × Bool → Heap → Prop}
    (hk : ∀ h' p, Upd No h h' → (l.length = 1 → l = [p]) → K (p, decide (l.length = 1)) h') : HC PG f_champ_alone [.pointer (some ⟨b, 0, none⟩)] [.agg [.str, .str], .c .bool] K h := by
  refine H_champ_alone _ ?_
  unfold F_champ_alone
  refine at_new fun h1 b1 k1 => ?_
  have t1 := TrieAt.upd0 k1 t
  obtain ⟨d, n, sp, sk, bu, ow, lp, lk, hb, hsp, hsk, h1l, h2l, hiff, hone⟩ := trie_alone t1 hn
  have l1 := hsp.len
  have l2 := hsk.len
  refine Join.intro (fun t h' => t = !decide (l.length = 1) ∧ h' = h1) (fun R hR => ?_) ?_
  · refine nLen_ok hb (by omega) ?_
    by_cases e : sp.len + sk.len = 1
    · have e2 : ((sp.len + sk.len : Nat) : Int) = 1 := by omega
      rw [e2]
      refine condP_false.2 (nodes_ok hb (hR _ _ ⟨?_, rfl⟩))
      by_cases e0 : n = 0
      · rw [decide_eq_true (hiff.1 ⟨by omega, e0⟩), e0]; rfl
      · rw [decide_eq_false fun h => e0 (hiff.2 h).2]
        exact bne_iff_ne.2 (by omega)
    · have e2 : (((sp.len + sk.len : Nat) : Int) != (1 : Int)) = true := bne_iff_ne.2 (by omega)
      rw [e2]
      refine condP_true.2 (hR _ _ ⟨?_, rfl⟩)
      rw [decide_eq_false fun h => e (by have := (hiff.2 h).1; omega)]; rfl
  · rintro _ h' ⟨rfl, rfl⟩
    have b1' : h'[h.size]? = some (.cells #[.string zPr.1, .string zPr.2] t_pair_Pair (0, 0)) := b1
    by_cases e : l.length = 1
    · rw [decide_eq_true e]
      refine condP_false.2 ?_
      refine pairs_ok hb hsp (by omega) fun s2 h2 ho2 hu2 => ?_
      match l, e, hone with
      | [p], e, hone =>
        have hlp := hone p rfl
        subst hlp
        have hlen := ho2.len
        obtain ⟨a, ha, _, hv⟩ := (ho2.sl (W := No) fun _ _ _ h => h).at (i := 0) (x := p) rfl
        refine ⟨⟨by omega, by simp at hlen; omega⟩, a, ha, p.1, hv 0 _ rfl, p.2, hv 1 _ rfl, ?_⟩
        refine prVar (p := p) (hu2.get0 b1') fun h3 b3 hu3 => ⟨_, vc b3 0, _, vc b3 1, ?_⟩
        have := hk h3 p ((k1.tr hu2).own hu3 (Nat.le_refl _)) fun _ => rfl
        exact this
    · have := hk
      rw [decide_eq_false e]
      rw [decide_eq_false e] at hk
      refine condP_true.2 (prVar (p := zPr) b1' fun h3 b3 hu3 => ⟨_, vc b3 0, _, vc b3 1, ?_⟩)
      exact hk h3 _ (k1.own hu3 (Nat.le_refl _)) fun h => absurd h e
end Go.Proofs
namespace Go.Proofs
open Go Go.Lift
theorem pairDrop_ok {h : Heap} {s : SliceV} {l : List Pr} (hs : Sl prF 2 No h s l) (hc : s.len ≤ s.cap) (hr : Rises l) (hn : l.length ≤ 1000000000) (k : ByteArray)
    {K : SliceV → Heap → Prop} (hk : ∀ s' h', OwnS prF 2 t_pair_Pair (fun b => h.size ≤ b) h' s' (delR k l) → Upd No h h' → K s' h') : HC PG f_pair_Drop [.slice s.a s.len s.cap, .string k] [.c .slice] K h := by
  refine H_pair_Drop s k ?_
  unfold F_pair_Drop
  have hlen := hs.len
  refine find_ok hs hr hn k fun h2 hu2 => ?_
  have hp := pos_le l k
  cases ht : there l k with
  | false =>
    refine condP_true.2 (clone_prF (hs.upd hu2 fun _ h => h.elim) (by omega) fun s3 h3 ho3 hu3 => ?_)
    rw [del_no (there_no ht)] at hk
    exact hk _ _ (ho3.more fun b hb => Nat.le_trans hu2.size hb) (hu2.tr hu3)
  | true =>
    obtain ⟨hlt, _⟩ := pos_lt hr ht
    have ew : IntKind.wrap .i64 ((pos l k : Int) + 1) = ((pos l k + 1 : Nat) : Int) := by rw [w64 (by omega)]; omega
    refine condP_false.2 ?_
    simp only
    rw [ew]
    refine ⟨by omega, by omega, ?_⟩
    simp only [Bd, Int.toNat_natCast]
    refine at_intro ?_
    have hs2 := hs.upd hu2 fun _ h => h.elim
    have k4 := Upd.hnew No h2 [.slice (subAddr s.a 0 s.cap 2) (pos l k - 0) (s.cap - 0), .slice (subAddr s.a (pos l k + 1) s.cap 2) (s.len - (pos l k + 1)) (s.cap - (pos l k + 1))] t_A_pair_Pair
    have b4 := hnew_get h2 [.slice (subAddr s.a 0 s.cap 2) (pos l k - 0) (s.cap - 0), .slice (subAddr s.a (pos l k + 1) s.cap 2) (s.len - (pos l k + 1)) (s.cap - (pos l k + 1))] t_A_pair_Pair
    have hA := sl_sub hs2 (i := 0) (j := pos l k) (m := s.cap) (Nat.zero_le _) hp (by omega) (s.cap - 0)
    have hC := sl_sub hs2 (i := pos l k + 1) (j := l.length) (m := s.cap) (by omega) (Nat.le_refl _) (by omega) (s.cap - (pos l k + 1))
    rw [← hlen] at hC
    rw [List.drop_zero] at hA
    rw [List.take_of_length_le (by rw [List.length_drop]; omega)] at hC
    have e0 : delR k l = [l.take (pos l k - 0), l.drop (pos l k + 1)].flatten := by rw [← delP_eq k hr]; unfold delP; rw [if_pos ht]; simp
    refine concat_ok (s := ⟨some (newA h2), 2, 2⟩) (vs := [⟨subAddr s.a 0 s.cap 2, pos l k - 0, s.cap - 0⟩, ⟨subAddr s.a (pos l k + 1) s.cap 2, s.len - (pos l k + 1), s.cap - (pos l k + 1)⟩]) (ls := [l.take (pos l k - 0), l.drop (pos l k + 1)])
      ⟨rfl, fun x => ⟨rfl, Nat.one_pos⟩, fun _ => ⟨_, rfl, fun h => h.elim, row_blk b4 fun i v hv => by simpa [slF] using hv⟩⟩ ⟨hA.upd k4 fun _ h => h.elim, hC.upd k4 fun _ h => h.elim, trivial⟩ ?_ (by simp) fun s5 h5 ho5 hu5 => ?_
    · simp only [List.flatten_cons, List.flatten_nil, List.length_append, List.length_take, List.length_drop, List.length_nil]; omega
    · rw [← e0] at ho5
      have hu := hu2.tr k4
      exact hk _ _ (ho5.more fun b hb => Nat.le_trans hu.size hb) (hu.tr hu5)
theorem bDrop_ok {W : Nat → Prop} {h : Heap} {b : Nat} {l : List Pr} (bk : BuckAt W h b l) (hW : ∀ x, W x → x < h.size) (hr : Rises l) (hn : l.length ≤ 1000000000) (k : ByteArray) {K : Option Addr → Heap → Prop}
    (hk : ∀ h' b', BuckAt W h' b' (delR k l) → Upd No h h' → K (some ⟨b', 0, none⟩) h') :
    HC PG f_node_Node_Drop [.pointer (some ⟨b, 0, none⟩), .pointer none, .string k] [.c .ptr] K h := by
  refine H_node_Node_Drop _ none k ?_
  unfold F_node_Node_Drop
  obtain ⟨sp, sk, ow, hb, hsp, hsk, hcp, hck⟩ := bk.ex
  refine isBucket_ok hb (condP_false.2 ?_)
  refine ownB_ok bk hn fun h2 s2 t2 b2 hA hB hu2 => ?_
  refine ⟨_, rfl, s2, ncell (i := 2) b2, ?_⟩
  refine pairDrop_ok (hA.sl fun _ _ _ h => h) hA.cap hr hn k fun s3 h3 ho3 hu3 => ?_
  have b3 := hu3.get0 b2
  refine ⟨_, rfl, nwr (i := 2) b3 (show 2 < 6 by decide), nset (i := 2) (c' := nodeC 0 0 s3 t2 true none) b3 rfl fun h4 b4 hu4 => ?_⟩
  have z2 := get_lt b2
  have ho4 := ho3.upd hu4 fun x hx e => by have e : x = h.size := e; omega
  have hB4 := (hB.upd hu3 fun _ _ h => h).upd hu4 fun x hx e => by have e : x = h.size := e; omega
  refine hk h4 h.size ⟨⟨s3, t2, none, b4, ho4.sl fun x hx _ hw => ?_, hB4.sl fun x hx _ hw => ?_, ho3.cap, hB.cap⟩, fun hw => ?_⟩ ((hu2.tr hu3).trans hu4 fun x hx => .inr ?_)
  · have := hW x hw; have := hu2.size; omega
  · have := hW x hw; omega
  · have := hW _ hw; omega
  · have hx : x = h.size := hx
    omega
theorem champDel_ok {W : Nat → Prop} {x : Hs} : ∀ (m : Nat), m ≤ 13 → ∀ {b : Nat} {l : List Pr} (k : ByteArray) {h : Heap}, TrieAt W x h m b l → (∀ y, W y → y < h.size) → Rises l → l.length ≤ 1000000 → ∀ {K : (Option Addr) × Bool → Heap → Prop},
    (∀ h' b', Upd No h h' → TrieAt W x h' m b' (delR k l) → (there l k = false → b' = b) → K (some ⟨b', 0, none⟩, there l k) h') →
    HC PG f_champ_work_drop [workV x k, .pointer (some ⟨b, 0, none⟩), .int .i64 ((13 - m : Nat) : Int)] [.c .ptr, .c .bool] K h := by
  intro m
  induction m with
  | zero =>
    intro _ b l k h t hW hr hn K hk
    have gW : ∀ {h'}, Upd No h h' → ∀ y, W y → y < h'.size := fun k y hy => Nat.lt_of_lt_of_le (hW y hy) k.size
    refine H_champ_work_drop (x.k0, x.k1, x.mask, none, k, hashV x k) (some ⟨b, 0, none⟩) ((13 - 0 : Nat) : Int) ?_
    unfold F_champ_work_drop
    refine at_new fun h1 b1 k1 => ?_
    have bk : BuckAt W h1 b l := BuckAt.upd t k1 fun _ h => h.elim
    obtain ⟨sp, sk, ow, hb, _⟩ := bk.ex
    refine isBucket_ok hb (condP_true.2 ⟨_, vc b1 4, in_ok bk hr (by omega) k fun h3 v hu3 hv => ?_⟩)
    have b3 := hu3.get0 b1
    cases ht : there l k with
    | false =>
      rw [ht] at hk
      exact condP_true.2 (hk h3 b (k1.tr hu3) (by rw [del_no (there_no ht)]; exact bk.upd hu3 fun _ h => h.elim) fun _ => rfl)
    | true =>
      rw [ht] at hk
      refine condP_false.2 ⟨none, vc b3 3, _, vc b3 4, ?_⟩
      refine bDrop_ok (bk.upd hu3 fun _ h => h.elim) (gW (k1.tr hu3)) hr (by omega) k fun h5 b5 bk5 hu5 => ?_
      exact hk h5 b5 ((k1.tr hu3).tr hu5) bk5 fun h => by cases h
  | succ m ih =>
    intro hm b l k h t hW hr hn K hk
    have gW : ∀ {h'}, Upd No h h' → ∀ y, W y → y < h'.size := fun k y hy => Nat.lt_of_lt_of_le (hW y hy) k.size
    have hl : 13 - (m + 1) < 13 := by omega
    have hlev : 13 - (m + 1) = 12 - m := by omega
    refine H_champ_work_drop (x.k0, x.k1, x.mask, none, k, hashV x k) (some ⟨b, 0, none⟩) ((13 - (m + 1) : Nat) : Int) ?_
    unfold F_champ_work_drop
    refine at_new fun h1 b1 k1 => ?_
    have t1 := TrieAt.upd0 k1 t
    obtain ⟨s, nd1, hs⟩ := t1
    have hs : ∀ c, c < 32 → SlotIs W x h1 m s c (part x (12 - m) c l) := hs
    obtain ⟨d, n, sp, sk, ow, hb, _⟩ := nd1.ex
    refine isBucket_ok hb (condP_false.2 ⟨_, vc b1 5, ckAt hl ?_⟩)
    rw [hlev]
    have hi := ck_lt x (12 - m) k
    have hsi := hs _ hi
    have htp : there (part x (12 - m) (ck x (12 - m) k) l) k = there l k := there_part
    have hrp : Rises (part x (12 - m) (ck x (12 - m) k) l) := rises_part hr
    have hnp : (part x (12 - m) (ck x (12 - m) k) l).length ≤ 1000000 := Nat.le_trans part_len hn
    have hturn : ∀ {h' : Heap} {b' : Nat} {s' : Slots}, Upd No h1 h' → NodeAt W h' b' s' → (∀ c, c ≠ ck x (12 - m) k → s'.p c = s.p c ∧ s'.k c = s.k c) → SlotIs W x h' m s' (ck x (12 - m) k) (delR k (part x (12 - m) (ck x (12 - m) k) l)) → TrieAt W x h' (m + 1) b' (delR k l) := fun hu nd hp hi => trie_turnD hu nd hs hp hi
    have tt : ∀ {h' : Heap}, Upd No h1 h' → TrieAt W x h' (m + 1) b l := fun hu => TrieAt.upd0 (k1.tr hu) t
    generalize hc : ck x (12 - m) k = c at *
    generalize hlc : part x (12 - m) c l = lc at *
    refine nPair_ok nd1 hi fun h3 hu3 => ?_
    refine at_new fun h4 b4 k4 => ?_
    have b4' : h4[h3.size]? = some (.cells #[.string zPr.1, .string zPr.2] t_pair_Pair (0, 0)) := b4
    refine prVar (p := gotP (s.p c)) b4' fun h5 b5 hu5 => ?_
    have hu15 : Upd No h1 h5 := (hu3.tr k4).own hu5 hu3.size
    have c1 := hu15.get0 b1
    have nd5 := nd1.upd hu15 fun _ h => h.elim
    have same : ∀ {h' : Heap}, Upd No h1 h' → there l k = false → K (some ⟨b, 0, none⟩, false) h' := fun hu ht => by
      have := hk _ b (k1.tr hu) (by rw [del_no (there_no ht)]; exact tt hu) fun _ => rfl
      rw [ht] at this; exact this
    cases hsp : s.p c with
    | some y =>
      rw [hsp] at b5
      obtain ⟨hone, hk0⟩ : lc = [y] ∧ s.k c = none := by
        rcases hsi with ⟨_, h2, _⟩ | ⟨q, h1, h2, h3⟩ | ⟨_, h2, _⟩
        · rw [hsp] at h2; cases h2
        · rw [hsp] at h2; cases h2; exact ⟨h1, h3⟩
        · rw [hsp] at h2; cases h2
      refine condP_true.2 ⟨y.1, vc b5 0, k, vc c1 4, ?_⟩
      rw [beq_list]
      by_cases e1 : y.1 = k
      · have ht : there l k = true := by rw [← htp, hone]; exact List.any_eq_true.2 ⟨y, List.mem_singleton.2 rfl, decide_eq_true e1⟩
        rw [decide_eq_true e1]
        rw [ht] at hk
        refine condP_false.2 ⟨none, vc c1 3, clear_ok nd5 (gW (k1.tr hu15)) hi fun h6 b6 nd6 hu6 => ?_⟩
        refine hk h6 b6 ((k1.tr hu15).tr hu6) (hturn (hu15.tr hu6) nd6 (fun c' hc' => ⟨upd_other hc', upd_other hc'⟩) ?_) fun h => by cases h
        refine .inl ⟨?_, upd_same, upd_same⟩
        rw [hone, delR_cons, if_pos e1]; rfl
      · rw [decide_eq_false e1]
        have ht : there l k = false := by
          rw [← htp, hone]
          unfold there
          rw [List.any_cons, decide_eq_false e1]; rfl
        exact condP_true.2 (same hu15 ht)
    | none =>
      refine condP_false.2 (nKid_ok nd5 hi ?_)
      cases hsk : s.k c with
      | none =>
        have hlc0 : lc = [] := by
          rcases hsi with ⟨h1, _⟩ | ⟨q, _, h2, _⟩ | ⟨_, _, kb, h2, _⟩
          · exact h1
          · rw [hsp] at h2; cases h2
          · rw [hsk] at h2; cases h2
        exact condP_true.2 (same hu15 (by rw [← htp, hlc0]; rfl))
      | some kp =>
        obtain ⟨h2l, kb, rfl, tk⟩ : 2 ≤ lc.length ∧ ∃ kb, kp = some ⟨kb, 0, none⟩ ∧ TrieAt W x h1 m kb lc := by
          rcases hsi with ⟨_, _, h2⟩ | ⟨q, _, h2, _⟩ | ⟨h1, _, kb, h2, h3⟩
          · rw [hsk] at h2; cases h2
          · rw [hsp] at h2; cases h2
          · rw [hsk] at h2; cases h2; exact ⟨h1, kb, rfl, h3⟩
        refine condP_false.2 ⟨_, vc c1 0, _, vc c1 1, _, vc c1 2, _, vc c1 3, _, vc c1 4, _, vc c1 5, ?_⟩
        have ew : IntKind.wrap .i64 (((12 - m : Nat) : Int) + 1) = ((13 - m : Nat) : Int) := by rw [w64 (by omega)]; omega
        rw [ew]
        refine ih (by omega) k (TrieAt.upd0 hu15 tk) (gW (k1.tr hu15)) hrp hnp fun h6 b6 hu6 t6 hsame => ?_
        have hu16 := hu15.tr hu6
        rw [htp]
        cases ht : there l k with
        | false => exact condP_true.2 (same hu16 ht)
        | true =>
          rw [ht] at hk
          have hdl := del_len (k := k) hrp
          have hdn : (delR k lc).length ≤ 1000000 := Nat.le_trans del_le hnp
          refine condP_false.2 (alone_ok t6 hdn fun h7 p hu7 hp => ?_)
          refine at_new fun h8 b8 k8 => ?_
          have b8' : h8[h7.size]? = some (.cells #[.string zPr.1, .string zPr.2] t_pair_Pair (0, 0)) := b8
          refine prVar (p := p) b8' fun h9 b9 hu9 => ?_
          have hu19 : Upd No h1 h9 := ((hu16.tr hu7).tr k8).own hu9 (hu16.tr hu7).size
          have c9 := hu19.get0 b1
          have nd9 := nd1.upd hu19 fun _ h => h.elim
          refine condP_dec (fun e => ?_) fun e => ?_
          · refine ⟨none, vc c9 3, p.1, vc b9 0, p.2, vc b9 1, setPair_ok nd9 (gW (k1.tr hu19)) hi (fun y hy => by rw [hsp] at hy; cases hy) p fun h10 b10 nd10 hu10 => ?_⟩
            refine hk h10 b10 ((k1.tr hu19).tr hu10) (hturn (hu19.tr hu10) nd10 (fun c' hc' => ⟨upd_other hc', upd_other hc'⟩) ?_) fun h => by cases h
            exact .inr (.inl ⟨p, hp e, upd_same, upd_same⟩)
          · refine ⟨none, vc c9 3, setKid_ok nd9 (gW (k1.tr hu19)) hi (fun _ _ => hsp) ⟨b6, 0, none⟩ fun h10 b10 nd10 hu10 => ?_⟩
            refine hk h10 b10 ((k1.tr hu19).tr hu10) (hturn (hu19.tr hu10) nd10 (fun c' hc' => ⟨upd_other hc', upd_other hc'⟩) ?_) fun h => by cases h
            exact .inr (.inr ⟨by omega, upd_same, b6, upd_same, TrieAt.upd0 ((hu7.tr k8).own hu9 hu7.size |>.tr hu10) t6⟩)
theorem champDrop_ok {W : Nat → Prop} {x : Hs} {h : Heap} {b : Nat} {l : List Pr} (t : TrieAt W x h 13 b l) (hW : ∀ y, W y → y < h.size) (hr : Rises l) (hn : l.length ≤ 1000000) (k : ByteArray) {K : Option Addr × Bool → Heap → Prop}
    (hk : ∀ h' b', Upd No h h' → TrieAt W x h' 13 b' (delR k l) → (there l k = false → b' = b) → K (some ⟨b', 0, none⟩, there l k) h') :
    HC PG f_champ_Drop [.agg #[.int .u64 x.k0, .int .u64 x.k1, .int .u64 x.mask], .pointer none, .pointer (some ⟨b, 0, none⟩), .string k] [.c .ptr, .c .bool] K h := by
  refine H_champ_Drop (x.k0, x.k1, x.mask) none (some ⟨b, 0, none⟩) k ?_
  unfold F_champ_Drop
  refine at_new fun h1 b1 k1 => ?_
  refine some_ok (.inr ⟨b, rfl, TrieAt.upd0 k1 t⟩) (fun y hy => Nat.lt_of_lt_of_le (hW y hy) k1.size) fun h2 b2 t2 hu2 hb2 => ?_
  have c2 := hu2.get0 b1
  refine ⟨_, vc c2 0, _, vc c2 1, _, vc c2 2, _, vc c2 0, _, vc c2 1, _, vc c2 2, ?_⟩
  refine hash_ok fun h3 hu3 => ?_
  have c3 := hu3.get0 c2
  refine ⟨⟨vc c3 0, vc c3 1, vc c3 2⟩, ?_⟩
  have hu03 := (k1.tr hu2).tr hu3
  refine champDel_ok 13 (Nat.le_refl _) k (TrieAt.upd0 hu3 t2) (fun y hy => Nat.lt_of_lt_of_le (hW y hy) hu03.size) hr hn fun h4 b4 hu4 t4 hs4 => ?_
  refine hk h4 b4 (hu03.tr hu4) t4 fun ht => ?_
  rw [hs4 ht]
  rcases hb2 with e | e
  · cases e; rfl
  · cases e
end Go.Proofs
namespace Go.Proofs
/-- Without a key. -/
def Drops (P P' : List UInt8 → ByteArray → Prop) (k : List UInt8) : Prop := ∀ k' v', P' k' v' ↔ k' ≠ k ∧ P k' v'
theorem drops_none {P : List UInt8 → ByteArray → Prop} {k : List UInt8} (h : ∀ v, ¬ P k v) : Drops P P k := fun k' v' => ⟨fun hp => ⟨fun e => h v' (e ▸ hp), hp⟩, fun h => h.2⟩
theorem drops_root {w : Option ByteArray} {F : Fo} (h : CanF F) : Drops (InR w F) (InR none F) [] := by
  intro k' v'
  unfold InR
  constructor
  · rintro (⟨_, f⟩ | hi)
    · cases f
    · exact ⟨inF_ne h hi, .inr hi⟩
  · rintro ⟨e, ⟨f, _⟩ | hi⟩
    · exact absurd f e
    · exact .inr hi
theorem drops_kids {w : Option ByteArray} {F F' : Fo} {k : List UInt8} (hk : k ≠ []) (h : Drops (InF F) (InF F') k) : Drops (InR w F) (InR w F') k := by
  intro k' v'
  unfold InR
  rw [h k' v']
  constructor
  · rintro (⟨e, f⟩ | hi)
    · exact ⟨fun e' => hk (e'.symm.trans e), .inl ⟨e, f⟩⟩
    · exact ⟨hi.1, .inr hi.2⟩
  · rintro ⟨e, hi | hi⟩
    · exact .inl hi
    · exact .inr ⟨e, hi⟩
theorem drops_node {lab r : List UInt8} {w w' : Option ByteArray} {F F' : Fo} (h : Drops (InR w F) (InR w' F') r) : Drops (InN (lab, w, F)) (InN (lab, w', F')) (lab ++ r) := by
  intro k' v'
  constructor
  · rintro ⟨s, e, hs⟩
    obtain ⟨h1, h2⟩ := (h s v').1 hs
    exact ⟨fun e' => h1 (List.append_cancel_left (e.symm.trans e')), s, e, h2⟩
  · rintro ⟨h1, s, e, hs⟩
    exact ⟨s, e, (h s v').2 ⟨fun e' => h1 (by rw [e, e']), hs⟩⟩
theorem drops_set {F : Fo} {i : Nat} {m : Bn} {k : List UInt8} (h : CanF F) (hi : i < F.toL.length) (ek : hd F.toL[i].1 = hd k) (hp : Drops (InN F.toL[i]) (InN m) k) : Drops (InF F) (InF (.ofL (F.toL.set i m))) k := by
  intro k' v'
  have hc := canF_iff.1 h
  rw [inF_iff, inF_iff, Fo.to_of]
  constructor
  · rintro ⟨n, hn, hr⟩
    rcases (mem_set_iff hi (nodupF h hi)).1 hn with rfl | ⟨hn, hne⟩
    · obtain ⟨h1, h2⟩ := (hp k' v').1 hr
      exact ⟨h1, _, List.getElem_mem hi, h2⟩
    · refine ⟨fun e => hne ?_, n, hn, hr⟩
      obtain ⟨r, e', _⟩ := hr
      refine can_one h hn (List.getElem_mem hi) ?_
      rw [ek, ← e, e', hd_app (hc.2 n hn).1]
  · rintro ⟨h1, n, hn, hr⟩
    by_cases e : n = F.toL[i]
    · exact ⟨m, (mem_set_iff hi (nodupF h hi)).2 (.inl rfl), (hp k' v').2 ⟨h1, by rw [← e]; exact hr⟩⟩
    · exact ⟨n, (mem_set_iff hi (nodupF h hi)).2 (.inr ⟨hn, e⟩), hr⟩
theorem mem_del_iff {α : Type} {l : List α} {i : Nat} (hi : i < l.length) {x : α} (nd : ∀ j (hj : j < l.length), j ≠ i → l[j] ≠ l[i]) : x ∈ l.take i ++ l.drop (i + 1) ↔ x ∈ l ∧ x ≠ l[i] := by
  constructor
  · intro h
    rcases List.mem_append.1 h with h | h
    · obtain ⟨j, hj, e⟩ := List.getElem_of_mem h
      rw [List.length_take] at hj
      rw [List.getElem_take] at e
      exact ⟨List.mem_of_mem_take h, by rw [← e]; exact nd j (by omega) (by omega)⟩
    · obtain ⟨j, hj, e⟩ := List.getElem_of_mem h
      rw [List.length_drop] at hj
      rw [List.getElem_drop] at e
      exact ⟨List.mem_of_mem_drop h, by rw [← e]; exact nd (i + 1 + j) (by omega) (by omega)⟩
  · rintro ⟨h, hne⟩
    obtain ⟨j, hj, e⟩ := List.getElem_of_mem h
    rcases Nat.lt_trichotomy j i with hl | hl | hl
    · exact List.mem_append.2 (.inl (List.mem_of_getElem (i := j) (h := by rw [List.length_take]; omega) (by rw [List.getElem_take]; exact e)))
    · subst hl; exact absurd e.symm hne
    · refine List.mem_append.2 (.inr (List.mem_of_getElem (i := j - (i + 1)) (h := by rw [List.length_drop]; omega) ?_))
      rw [List.getElem_drop]
      have : i + 1 + (j - (i + 1)) = j := by omega
      simp only [this]; exact e
theorem can_del {F : Fo} {i : Nat} (h : CanF F) : CanF (.ofL (F.toL.take i ++ F.toL.drop (i + 1))) := by
  have hc := canF_iff.1 h
  rw [canF_iff, Fo.to_of]
  have hs : (F.toL.take i ++ F.toL.drop (i + 1)).Sublist F.toL := by rw [← List.eraseIdx_eq_take_drop_succ]; exact List.eraseIdx_sublist ..
  exact ⟨hc.1.sublist hs, fun n hn => hc.2 n (hs.subset hn)⟩
theorem drops_del {F : Fo} {i : Nat} {k : List UInt8} (h : CanF F) (hi : i < F.toL.length) (ek : hd F.toL[i].1 = hd k) (hp : ∀ k' v', InN F.toL[i] k' v' → k' = k) : Drops (InF F) (InF (.ofL (F.toL.take i ++ F.toL.drop (i + 1)))) k := by
  intro k' v'
  have hc := canF_iff.1 h
  rw [inF_iff, inF_iff, Fo.to_of]
  constructor
  · rintro ⟨n, hn, hr⟩
    obtain ⟨hn, hne⟩ := (mem_del_iff hi (nodupF h hi)).1 hn
    refine ⟨fun e => hne ?_, n, hn, hr⟩
    obtain ⟨r, e', _⟩ := hr
    refine can_one h hn (List.getElem_mem hi) ?_
    rw [ek, ← e, e', hd_app (hc.2 n hn).1]
  · rintro ⟨h1, n, hn, hr⟩
    by_cases e : n = F.toL[i]
    · exact absurd (hp k' v' (by rw [← e]; exact hr)) h1
    · exact ⟨n, (mem_del_iff hi (nodupF h hi)).2 ⟨hn, e⟩, hr⟩
/-- What is left of a branch: nothing, one with its only kid, or itself. -/
def Mend (n : Bn) (o : Option Bn) : Prop := (o = none ∧ ∀ k v, ¬ InN n k v) ∨ ∃ m, o = some m ∧ CanN m ∧ hd m.1 = hd n.1 ∧ ∀ k v, InN m k v ↔ InN n k v
theorem mend_self {lab : List UInt8} {w : Option ByteArray} {F : Fo} (hl : lab ≠ []) (hc : CanF F) (h : w.isSome ∨ 2 ≤ F.toL.length) : Mend (lab, w, F) (some (lab, w, F)) := .inr ⟨_, rfl, ⟨hl, h, hc⟩, rfl, fun _ _ => Iff.rfl⟩
theorem mend_none {lab : List UInt8} {F : Fo} (h : F.toL = []) : Mend (lab, none, F) none := by
  refine .inl ⟨rfl, fun k v hi => ?_⟩
  obtain ⟨r, _, ⟨_, h'⟩ | h'⟩ := hi
  · cases h'
  · obtain ⟨n, hn, _⟩ := inF_iff.1 h'
    simp only at hn
    rw [h] at hn; cases hn
theorem mend_kid {lab lk : List UInt8} {wk : Option ByteArray} {F Fk : Fo} (hl : lab ≠ []) (hc : CanF F) (h : F.toL = [(lk, wk, Fk)]) : Mend (lab, none, F) (some (lab ++ lk, wk, Fk)) := by
  have eF : F = .cons lk wk Fk .nil := by
    rw [← Fo.of_to F, h]; rfl
  have hn := (canF_iff.1 hc).2 (lk, wk, Fk) (by rw [h]; exact List.mem_singleton.2 rfl)
  refine .inr ⟨_, rfl, ⟨fun e => hl (List.append_eq_nil_iff.1 e).1, hn.2.1, hn.2.2⟩, hd_app hl, fun k v => ?_⟩
  have := inN_split (lab := lab ++ lk) (w := wk) (F := Fk) lab.length k v
  rw [List.take_left, List.drop_left] at this
  rw [eF]
  exact this.symm
end Go.Proofs
namespace Go.Proofs
open Go Go.Lift
theorem size_list (s : ByteArray) : s.data.toList.length = s.size := by simp
theorem app_list (a b : ByteArray) : (a ++ b).data.toList = a.data.toList ++ b.data.toList := by rw [ByteArray.data_append, Array.toList_append]
theorem prefix_ok {a b : ByteArray} {h : Heap} {K : Bool → Heap → Prop} (hk : K (decide (b.data.toList <+: a.data.toList)) h) : HC PG f_twig_Begins [.string a, .string b] [.c .bool] K h := by
  refine H_twig_Begins a b ?_
  unfold F_twig_Begins
  refine H_strs_HasPrefix a b ?_
  unfold F_strs_HasPrefix
  refine H_internal_strslite_HasPrefix a b ?_
  unfold F_internal_strslite_HasPrefix
  have la := size_list a
  have lb := size_list b
  refine condP_dec (fun hge => ?_) fun hlt => ?_
  · refine ⟨⟨by omega, by omega⟩, ?_⟩
    rw [beq_list, Int.toNat_natCast]
    have e : decide (a.extract 0 b.size = b) = decide (b.data.toList <+: a.data.toList) := by
      rw [decide_eq_decide, ← bytes_list, ext_take, List.prefix_iff_eq_take, lb]
      exact eq_comm
    rw [e]; exact hk
  · have e : decide (b.data.toList <+: a.data.toList) = false := decide_eq_false fun hp => by
      have := hp.length_le
      omega
    rw [e] at hk; exact hk
theorem cut_ok {a b : ByteArray} {h : Heap} {K : ByteArray × Bool → Heap → Prop} (h1 : ∀ s : ByteArray, a.data.toList = b.data.toList ++ s.data.toList → K (s, true) h) (h2 : (∀ r, a.data.toList ≠ b.data.toList ++ r) → K (⟨#[]⟩, false) h) : HC PG f_twig_Cut [.string a, .string b] [.c .str, .c .bool] K h := by
  refine H_twig_Cut a b ?_
  unfold F_twig_Cut
  refine prefix_ok ?_
  have la := size_list a
  have lb := size_list b
  by_cases hp : b.data.toList <+: a.data.toList
  · rw [decide_eq_true hp]
    have hle := hp.length_le
    refine condP_false.2 ⟨⟨by omega, by omega⟩, ?_⟩
    rw [Int.toNat_natCast]
    refine h1 _ ?_
    rw [ext_drop]
    obtain ⟨r, e⟩ := hp
    rw [← e, ← lb, List.drop_left]
  · rw [decide_eq_false hp]
    exact condP_true.2 (h2 fun r e => hp ⟨r, e.symm⟩)
def optB (W : Nat → Prop) (h : Heap) (r : Option Addr) (o : Option Bn) : Prop := (r = none ∧ o = none) ∨ ∃ b sl m, r = some ⟨b, 0, none⟩ ∧ o = some m ∧ sl.data.toList = m.1 ∧ RxN W h b sl m.2.1 m.2.2
theorem rxMend_ok {W : Nat → Prop} {h : Heap} {b : Nat} {sl : ByteArray} {w : Option ByteArray} {F : Fo} (r : RxN W h b sl w F) (hW : ∀ y, W y → y < h.size) (hc : CanF F) (hne : sl.data.toList ≠ []) (hs1 : sl.size ≤ 1000000) (hs2 : ∀ k v, InF F k v → k.length ≤ 1000000)
    {K : Option Addr → Heap → Prop} (hk : ∀ h' r o, Upd No h h' → Mend (sl.data.toList, w, F) o → optB W h' r o → K r h') : HC PG f_radix_Node_mend [.pointer (some ⟨b, 0, none⟩), .pointer none] [.c .ptr] K h := by
  refine H_radix_Node_mend _ none ?_
  unfold F_radix_Node_mend
  have hr := r
  obtain ⟨val, s, ow, ks, hb, hv, hs, hcap, hF⟩ := r
  have hL := rxF_iff.1 hF
  have hn := can_len hc
  have hlen := hs.len
  rw [hL.1] at hlen
  refine Join.intro (fun t h' => t = decide (w.isSome ∨ 2 ≤ F.toL.length) ∧ h' = h) (fun R hR => ⟨_, rfl, w.isSome, rcell (i := 1) hb, ?_⟩) ?_
  · cases w with
    | some v => exact condP_true.2 (hR _ _ ⟨rfl, rfl⟩)
    | none =>
      refine condP_false.2 ⟨_, rfl, s, rcell (i := 3) hb, hR _ _ ⟨?_, rfl⟩⟩
      rw [decide_eq_decide]
      constructor
      · intro h; exact .inr (by omega)
      · rintro (h | h)
        · cases h
        · omega
  · rintro t h' ⟨rfl, rfl⟩
    refine condP_dec (fun h2 => ?_) fun h2 => ?_
    · exact hk h' _ _ (Upd.refl _ _) (mend_self hne hc h2) (.inr ⟨b, sl, _, rfl, rfl, rfl, hr⟩)
    · have hw : w = none := by
        cases w with
        | none => rfl
        | some v => exact absurd (.inl rfl) h2
      subst hw
      have hl2 : F.toL.length < 2 := by
        rcases Nat.lt_or_ge F.toL.length 2 with h | h
        · exact h
        · exact absurd (.inr h) h2
      refine ⟨_, rfl, s, rcell (i := 3) hb, ?_⟩
      match hFL : F.toL, hl2 with
      | [], _ =>
        rw [hFL] at hlen
        have e : ((s.len : Int) == (0 : Int)) = true := by rw [beq_iff_eq, hlen]; rfl
        rw [e]
        exact condP_true.2 (hk h' _ _ (Upd.refl _ _) (mend_none hFL) (.inl ⟨rfl, rfl⟩))
      | [(lk, wk, Fk)], _ =>
        rw [hFL] at hlen
        have e : ((s.len : Int) == (0 : Int)) = false := by rw [beq_eq_false_iff_ne, hlen]; simp
        rw [e]
        have hmem : (lk, wk, Fk) ∈ F.toL := by rw [hFL]; exact List.mem_singleton.2 rfl
        have hcm := (canF_iff.1 hc).2 _ hmem
        have h0 : 0 < F.toL.length := by rw [hFL]; exact Nat.one_pos
        obtain ⟨kb, ksl, hki, hkl, hkn⟩ := hL.at h0
        have e0 : F.toL[0] = (lk, wk, Fk) := by simp only [hFL]; rfl
        rw [e0] at hkl hkn
        simp only at hkl hkn
        obtain ⟨a, ha, _, hvv⟩ := hs.at0 hki
        obtain ⟨kval, kss, kow, kks, hkb, hkv, hkss, hkcap, hkF⟩ := hkn
        have hkL := rxF_iff.1 hkF
        have hkn2 := can_len hcm.2.2
        refine condP_false.2 ⟨_, rfl, s, rcell (i := 3) hb, ⟨by omega, by rw [hlen]; simp⟩, a, ha, some ⟨kb, 0, none⟩, hvv, ?_⟩
        refine rxOwn_ok hkb hkss (by rw [hkL.1]; exact hkn2) fun h1 s1 b1 ho1 hu1 => ?_
        obtain ⟨rr, vv, hin⟩ := inF_some hc _ hmem
        have hbd := hs2 (lk ++ rr) vv (inF_iff.2 ⟨_, hmem, rr, rfl, hin⟩)
        rw [List.length_append] at hbd
        have hlkl : lk.length = ksl.size := by rw [← hkl]; exact size_list ksl
        refine ⟨_, rfl, sl, rcell (i := 0) (hu1.get0 hb), _, rfl, ksl, rcell (i := 0) b1, by omega, ?_⟩
        have hbl : b < h'.size := get_lt hb
        refine rxNamed_ok b1 fun h2 b2 hu2 => ?_
        have hu02 : Upd No h' h2 := hu1.own hu2 (Nat.le_refl _)
        have ho2 := ho1.upd hu2 fun x hx e => by have e : x = h'.size := e; have := hx.1; omega
        refine hk h2 _ _ hu02 (mend_kid hne hc hFL) (.inr ⟨h'.size, sl ++ ksl, _, rfl, rfl, by rw [← hkl]; exact app_list sl ksl, ⟨kval, s1, none, kks, b2, hkv, ho2.sl (fun x hx _ hw => by have := hW _ hw; have := hx.1; omega), ⟨ho2.cap, fun hx => Nat.lt_irrefl _ (hW _ hx)⟩, RxF.upd0 hu02 hkF⟩⟩)
set_option maxHeartbeats 1000000 in
theorem rxDel_ok {W : Nat → Prop} : ∀ (n : Nat) {b : Nat} {sl : ByteArray} {w : Option ByteArray} {F : Fo} {h : Heap} (k : ByteArray), k.size < n → RxN W h b sl w F → (∀ y, W y → y < h.size) → CanF F → (∀ j v, InF F j v → j.length ≤ 1000000) → ∀ {K : (Option Addr) × Bool → Heap → Prop},
    (∀ h' b' w' F' gone, Upd No h h' → RxN W h' b' sl w' F' → CanF F' → Drops (InR w F) (InR w' F') k.data.toList → (gone = false → b' = b ∧ ∀ v, ¬ InR w F k.data.toList v) → (gone = true → ∃ v, InR w F k.data.toList v) → K (some ⟨b', 0, none⟩, gone) h') →
    HC PG f_radix_Node_drop [.pointer (some ⟨b, 0, none⟩), .pointer none, .string k] [.c .ptr, .c .bool] K h := by
  intro n
  induction n with
  | zero => intro b sl w F h k hk; omega
  | succ n ih =>
    intro b sl w F h k hkn r hW hc hbd K hk
    refine H_radix_Node_drop (some ⟨b, 0, none⟩) none k ?_
    unfold F_radix_Node_drop
    have hr := r
    obtain ⟨val, s, ow, ks, hb, hv, hs, hcap, hF⟩ := r
    have hL := rxF_iff.1 hF
    have hn := can_len hc
    have hcan := canF_iff.1 hc
    have stay : ∀ {h' : Heap}, Upd No h h' → (∀ v, ¬ InR w F k.data.toList v) → K (some ⟨b, 0, none⟩, false) h' := fun hu hno => hk _ b w F false hu (hr.upd0 hu) hc (drops_none hno) (fun _ => ⟨rfl, hno⟩) fun h => by cases h
    rw [beq_list]
    refine condP_dec (fun hk0 => ?_) fun hk0 => ?_
    · have hke : k.data.toList = [] := by rw [hk0]
      rw [hke] at hk stay
      refine ⟨_, rfl, w.isSome, rcell (i := 1) hb, ?_⟩
      cases hw : w with
      | none =>
        refine condP_true.2 (stay (Upd.refl _ _) fun v hin => ?_)
        rcases hin with ⟨_, h⟩ | h
        · rw [hw] at h; cases h
        · exact absurd rfl (inF_ne hc h)
      | some u =>
        refine condP_false.2 (rxOwn_ok hb hs (by rw [hL.1]; exact hn) fun h1 s1 b1 ho1 hu1 => ?_)
        refine ⟨_, rfl, rwr (i := 1) b1 (show 1 < 5 by decide), rset (i := 1) (c' := rxC sl false val s1 none) b1 rfl fun h2 b2 hu2 => ?_⟩
        refine ⟨_, rfl, rwr (i := 2) b2 (show 2 < 5 by decide), rset (i := 2) (c' := rxC sl false ⟨#[]⟩ s1 none) b2 rfl fun h3 b3 hu3 => ?_⟩
        have hu03 : Upd No h h3 := hu1.own (hu2.tr hu3) (Nat.le_refl _)
        have ho3 := ho1.upd (hu2.tr hu3) fun x hx e => by have e : x = h.size := e; have := hx.1; omega
        refine hk h3 h.size none F true hu03 ⟨⟨#[]⟩, s1, none, ks, b3, fun _ hu => (by cases hu), ho3.sl (fun x hx _ hw => by have := hW _ hw; have := hx.1; omega), ⟨ho3.cap, fun hx => Nat.lt_irrefl _ (hW _ hx)⟩, RxF.upd0 hu03 hF⟩ hc (drops_root hc) (fun h => by cases h) fun _ => ⟨u, .inl ⟨rfl, hw⟩⟩
    · have hkne : k.data.toList ≠ [] := fun e => hk0 (by cases k; exact congrArg ByteArray.mk (Array.toList_inj.1 e))
      obtain ⟨c0, hc0, hc0e⟩ := hd_get hkne
      refine ⟨c0, Int.le_refl _, hc0, ?_⟩
      have hlk : k.data.toList.length = k.size := size_list k
      refine rxFind_ok hr hc (c := c0.toNat) (UInt8.toNat_lt _) fun i ok hil hlo hhi hok => ?_
      rw [hc0e] at hlo hhi hok
      cases ok with
      | false =>
        refine condP_true.2 (stay (Upd.refl _ _) fun v hin => ?_)
        rcases hin with ⟨h, _⟩ | hin
        · exact hkne h
        · obtain ⟨n', hn', e, _⟩ := inF_hd hc hin
          obtain ⟨j, hj, rfl⟩ := List.getElem_of_mem hn'
          rcases Nat.lt_or_ge j i with hl | hl
          · have := hlo j hj hl; omega
          · have h1 := hhi j hj hl
            have h2 := hhi i (by omega) (Nat.le_refl _)
            rcases Nat.lt_or_ge i j with hl2 | hl2
            · have h3 := List.pairwise_iff_getElem.1 hcan.1 i j (by omega) hj hl2
              omega
            · have : i = j := by omega
              subst this
              have := hok.2 ⟨hj, e⟩
              cases this
      | true =>
        obtain ⟨hi, hie⟩ := hok.1 rfl
        refine condP_false.2 ⟨_, rfl, s, rcell (i := 3) hb, ?_⟩
        obtain ⟨kb, ksl, hki, hkl, hkn'⟩ := hL.at hi
        have hmem : F.toL[i] ∈ F.toL := List.getElem_mem hi
        have hcm := hcan.2 _ hmem
        obtain ⟨a, ha, _, hvv⟩ := hs.at0 hki
        have hslen := hs.len
        rw [hL.1] at hslen
        have hlt1 : (i : Int) < ((s.len : Nat) : Int) := by omega
        refine ⟨⟨by simp only; omega, hlt1⟩, a, ha, some ⟨kb, 0, none⟩, hvv, _, rfl, ?_⟩
        obtain ⟨kval, kss, kow, kks, hkb, _⟩ := id hkn'
        have hin_m : ∀ v, InF F k.data.toList v → InN F.toL[i] k.data.toList v := fun v hin => by
          obtain ⟨n', hn', e, hN⟩ := inF_hd hc hin
          rw [← can_one hc hn' hmem (by omega)]; exact hN
        have hm_in : ∀ j v, InN F.toL[i] j v → InF F j v := fun j v hin => inF_iff.2 ⟨_, hmem, hin⟩
        have hcanset : ∀ {m : Bn}, CanN m → hd m.1 = hd F.toL[i].1 → CanF (.ofL (F.toL.set i m)) := fun h1 h2 => can_set hc hi h1 h2
        have hdset : ∀ {m : Bn}, Drops (InN F.toL[i]) (InN m) k.data.toList → Drops (InF F) (InF (.ofL (F.toL.set i m))) k.data.toList := fun hp => drops_set hc hi hie hp
        have hddel : (∀ k' v', InN F.toL[i] k' v' → k' = k.data.toList) → Drops (InF F) (InF (.ofL (F.toL.take i ++ F.toL.drop (i + 1)))) k.data.toList := fun hp => drops_del hc hi hie hp
        have hrset : ∀ {h' : Heap} {k' : Option Addr} {m : Bn}, Upd No h h' → Kid W h' k' m → RxL W h' (ks.set i k') (F.toL.set i m) := fun hu hkd => (hL.upd0 hu).set hi hkd
        generalize F.toL[i] = m at hkl hkn' hcm hin_m hm_in hcanset hdset hddel hie
        obtain ⟨lab, wk, Fk⟩ := m
        simp only at hkl hkn' hcm hie hcanset
        refine ⟨ksl, rcell (i := 0) hkb, cut_ok (fun rest hrest => ?_) fun hno => ?_⟩
        · rw [hkl] at hrest
          have hlne : lab.length ≠ 0 := fun e => hcm.1 (List.length_eq_zero_iff.1 e)
          have hrl : rest.size < k.size := by
            rw [← size_list rest, ← hlk, hrest, List.length_append]; omega
          refine condP_false.2 ⟨_, rfl, s, rcell (i := 3) hb, ⟨by simp only; omega, hlt1⟩, a, ha, some ⟨kb, 0, none⟩, hvv, ?_⟩
          have hkbd : ∀ j v, InF Fk j v → j.length ≤ 1000000 := fun j v hin => by
            have := hbd _ v (hm_in (lab ++ j) v ⟨j, rfl, .inr hin⟩)
            rw [List.length_append] at this; omega
          refine ih rest (by omega) hkn' hW hcm.2.2 hkbd fun h2 b2 w2 F2 gone hu2 rn2 hc2 hd2 hg0 hg1 => ?_
          cases gone with
          | false =>
            refine condP_true.2 (stay hu2 fun v hin => ?_)
            rcases hin with ⟨h, _⟩ | hin
            · exact hkne h
            · obtain ⟨r', e, hr'⟩ := hin_m v hin
              simp only at e
              rw [hrest] at e
              exact (hg0 rfl).2 v (by rw [List.append_cancel_left e]; exact hr')
          | true =>
            obtain ⟨v0, hv0⟩ := hg1 rfl
            have hthere : ∃ v, InR w F k.data.toList v := ⟨v0, .inr (hm_in _ _ ⟨_, hrest, hv0⟩)⟩
            have hdn : Drops (InN (lab, wk, Fk)) (InN (lab, w2, F2)) k.data.toList := by
              rw [hrest]; exact drops_node hd2
            refine condP_false.2 (rxOwn_ok (hu2.get0 hb) (hs.upd hu2 fun _ h => h.elim) (by rw [hL.1]; exact hn) fun h3 s3 b3 ho3 hu3 => ?_)
            have hu03 := hu2.tr hu3
            obtain ⟨rr, vv, hin⟩ := inF_some hc _ hmem
            have hlb : lab.length ≤ 1000000 := by
              have := hbd _ v0 (hm_in _ _ ⟨_, hrest, hv0⟩)
              rw [hrest, List.length_append] at this; omega
            have hb2 : ∀ j v, InF F2 j v → j.length ≤ 1000000 := fun j v hin => by
              rcases ((hd2 j v).1 (.inr hin)).2 with ⟨e, _⟩ | h
              · rw [e]; simp
              · exact hkbd j v h
            refine rxMend_ok (W := Pro W h2 h3) ((rn2.less Pro.hm).upd0 hu3) (Pro.lt (fun y hy => Nat.lt_of_lt_of_le (hW y hy) hu2.size) hu3) hc2 (by rw [hkl]; exact hcm.1) (by rw [← size_list ksl, hkl]; exact hlb) hb2 fun h4 r4 o4 hu4 hm4 hr4 => ?_
            rw [hkl] at hm4
            have b4 := hu4.get0 b3
            have ho4 := ho3.upd hu4 fun _ _ h => h
            have hu04 := hu03.tr hu4
            have hz2 : h.size ≤ h2.size := hu2.size
            have hil : i < ks.length := by rw [hL.1]; exact hi
            have hlen4 := ho4.len
            rcases hr4 with ⟨rfl, rfl⟩ | ⟨b4', sl4, m4, rfl, rfl, hsl4, rn4⟩
            · rcases hm4 with ⟨_, hno⟩ | ⟨_, e, _⟩
              · have ew : IntKind.wrap .i64 ((i : Int) + 1) = ((i + 1 : Nat) : Int) := by rw [w64 (by omega)]; omega
                refine condP_true.2 ⟨_, rfl, s3, rcell (i := 3) b4, ?_⟩
                simp only
                rw [ew]
                refine delete_rxF ho4 hil (by rw [hL.1]; omega) fun s5 h5 ho5 hu5 => ?_
                have b5 := hu5.get b4 fun hx => by have := hx.1; omega
                refine ⟨_, rfl, rwr (i := 3) b5 (show 3 < 5 by decide), rset (i := 3) (c' := rxC sl w.isSome val s5 none) b5 rfl fun h6 b6 hu6 => ?_⟩
                have hu06 : Upd No h h6 := (hu04.trans hu5 fun x hx => .inr (by have := hx.1; omega)).own hu6 hz2
                have ho6 := ho5.upd hu6 fun x hx e => by have e : x = h2.size := e; have := hx.1; omega
                refine hk h6 h2.size w _ true hu06 ⟨val, s5, none, _, b6, hv, ho6.sl (fun x hx _ hw => by have := hW _ hw; have := hx.1; omega), ⟨ho6.cap, fun hx => by have := hW _ hx; omega⟩, rxF_iff.2 (by rw [Fo.to_of]; exact ((hL.upd0 hu06).take i).app ((hL.upd0 hu06).drop (i + 1)))⟩ (can_del hc) (drops_kids hkne (hddel fun k' v' hN => ?_)) (fun h => by cases h) fun _ => hthere
                refine Classical.byContradiction fun hne => hno k' v' ((hdn k' v').2 ⟨hne, hN⟩)
              · cases e
            · rcases hm4 with ⟨e, _⟩ | ⟨m', e, hcn, hhd, hiff⟩
              · cases e
              · cases e
                obtain ⟨a3, ha3, hab, hw3, ho5, hu5⟩ := OwnS.setAt ho4 hil (some ⟨b4', 0, none⟩)
                refine condP_false.2 ⟨_, rfl, s3, rcell (i := 3) b4, ⟨by simp only; omega, by simp only; omega⟩, a3, ha3, ?_⟩
                have hw1 : Wr h4 (adr a3 (i * 1)) := by
                  rcases hw3 with hw | ⟨b', hb', hw⟩
                  · cases hw
                  · cases hb'; exact hw 0 (by simp)
                refine ⟨hw1, at_intro ?_⟩
                have b5 := hu5.get b4 fun e => by have e : h2.size = a3.block := e; have := hab.1; omega
                have hu45 : Upd No h2 _ := (hu3.tr hu4).trans hu5 fun x hx => .inr (by have hx : x = a3.block := hx; have := hab.1; omega)
                have hu05 := hu2.tr hu45
                have eset : ks.set i (some ⟨b4', 0, none⟩) = ks.take i ++ some ⟨b4', 0, none⟩ :: ks.drop (i + 1) := by rw [List.set_eq_take_append_cons_drop, if_pos hil]
                rw [← eset] at ho5
                have rn5 := (rn4.updM (M := (· = a3.block)) hu5 fun y hy => .inl (.inr (by have hy : y = a3.block := hy; have := hab.1; have := hab.2; omega))).less (W' := W) fun y hy => .inl (.inl hy)
                exact hk _ h2.size w _ true hu05 ⟨val, s3, none, _, b5, hv, ho5.sl (fun x hx _ hw => by have := hW _ hw; have := hx.1; omega), ⟨ho5.cap, fun hx => by have := hW _ hx; omega⟩, rxF_iff.2 (by rw [Fo.to_of]; exact hrset hu05 ⟨b4', sl4, rfl, hsl4, rn5⟩)⟩ (hcanset hcn hhd) (drops_kids hkne (hdset fun k' v' => by rw [hiff k' v']; exact hdn k' v')) (fun h => by cases h) fun _ => hthere
        · rw [hkl] at hno
          refine condP_true.2 (stay (Upd.refl _ _) fun v hin => ?_)
          rcases hin with ⟨h, _⟩ | hin
          · exact hkne h
          · obtain ⟨r', e, _⟩ := hin_m v hin
            exact hno r' e
end Go.Proofs
namespace Go.Proofs
open Go Go.Lift
theorem rad_bound {w : Option ByteArray} {F : Fo} {l : List Pr} (h : ∀ k v, (k, v) ∈ prsR w F ↔ ∃ p ∈ l, p.1.data.toList = k ∧ p.2 = v) (hf : Fit l) : ∀ j v, InF F j v → j.length ≤ 1000000 := fun j v hi => by
  obtain ⟨p, hp, e, _⟩ := (h j v).1 (mem_prsR.2 (.inr hi))
  have := (hf p hp).1
  rw [← e, size_list]; omega
theorem radixDrop_ok {W : Nat → Prop} {h : Heap} {b : Nat} {l : List Pr} (t : RadAt W h b l) (hW : ∀ y, W y → y < h.size) (hf : Fit l) (k : ByteArray) {K : Option Addr × Bool → Heap → Prop}
    (hk : ∀ h' b', Upd No h h' → RadAt W h' b' (delR k l) → (there l k = false → b' = b) → K (some ⟨b', 0, none⟩, there l k) h') :
    HC PG f_radix_Drop [.pointer none, .pointer (some ⟨b, 0, none⟩), .string k] [.c .ptr, .c .bool] K h := by
  refine H_radix_Drop none (some ⟨b, 0, none⟩) k ?_
  unfold F_radix_Drop
  refine rxSome_ok (.inr ⟨b, rfl, t⟩) hW fun h2 b2 t2 hu2 hb2 => ?_
  have hbb : b2 = b := by
    rcases hb2 with e | e
    · cases e; rfl
    · cases e
  subst hbb
  obtain ⟨w, F, r1, r2, r3⟩ := t2.ex
  refine rxDel_ok (k.size + 1) k (by omega) r1 (fun y hy => Nat.lt_of_lt_of_le (hW y hy) hu2.size) r2 (rad_bound r3 hf) fun h3 b3 w' F' gone hu3 rn3 hc3 hd3 hg0 hg1 => ?_
  have hin : ∀ v, InR w F k.data.toList v ↔ (k, v) ∈ l := fun v => by
    rw [← mem_prsR, r3]
    constructor
    · rintro ⟨p, hp, e1, rfl⟩
      rw [← bytes_list.1 e1]; exact hp
    · intro hp; exact ⟨_, hp, rfl, rfl⟩
  have hgt : gone = there l k := by
    cases gone with
    | false =>
      refine (no_there fun q hq e => (hg0 rfl).2 q.2 ((hin _).2 ?_)).symm
      rw [← e]; exact hq
    | true =>
      obtain ⟨v, hv⟩ := hg1 rfl
      exact (List.any_eq_true.2 ⟨_, (hin v).1 hv, decide_eq_true rfl⟩).symm
  subst hgt
  refine hk h3 b3 (hu2.tr hu3) ⟨w', F', rn3, hc3, fun j v => ?_⟩ fun ht => (hg0 ht).1
  rw [mem_prsR, hd3 j v, ← mem_prsR, r3]
  constructor
  · rintro ⟨hne, q, hq, rfl, rfl⟩
    exact ⟨q, mem_del.2 ⟨hq, fun e => hne (by rw [e])⟩, rfl, rfl⟩
  · rintro ⟨q, hq, rfl, rfl⟩
    obtain ⟨hq, hne⟩ := mem_del.1 hq
    exact ⟨fun e => hne (bytes_list.1 e), q, hq, rfl, rfl⟩
theorem tWithout_ok {W : Nat → Prop} {x : Hs} {h : Heap} {kind : Int} {t : Tr} {l : List Pr} (i : TreeIs W h kind x t l) (hW : ∀ y, W y → y < h.size) (hr : Rises l) (hf : Fit l) (hn : l.length ≤ 1000000) (k : ByteArray) (hk1 : k.size ≤ 256) {K : Tr × Int → Heap → Prop}
    (hk : ∀ h' t', TreeIs W h' kind x t' (delR k l) → (there l k = false → t' = t) → Upd No h h' → K (t', if there l k then 0 else 4) h') : HC PG f_tree_Tree_Without [trV t, .pointer none, .string k] [.agg [.int .i64, .int .u64, .int .u64, .int .u64, .ptr, .ptr], .c (.int .i64)] K h := by
  refine H_tree_Tree_Without t none k ?_
  unfold F_tree_Tree_Without
  refine at_new fun h1 b1 k1 => at_new fun h2 b2 k2 => ?_
  have z1 := get_lt b1
  have z2 := get_lt b2
  have s1 : h.size ≤ h1.size := k1.size
  have k02 := k1.tr k2
  refine pRight_ok (v := ⟨#[]⟩) hk1 (Nat.zero_le 4096) (condP_false.2 ?_)
  have c1 := k2.get0 b1
  refine ⟨_, vc c1 0, _, vc c1 1, _, vc c1 2, _, vc c1 3, _, vc c1 4, _, vc c1 5, ?_⟩
  refine at_new fun h3 b3 k3 => ?_
  have z3 := get_lt b3
  have s2 : h1.size ≤ h2.size := k2.size
  refine setAll (c := trL tr0) (vs := trL t) b3 rfl fun h4 b4 hu4 => ?_
  have k04 : Upd No h h4 := (k02.tr k3).own hu4 (by omega)
  have k24 : Upd No h2 h4 := k3.own hu4 (Nat.le_refl _)
  have s4 : h3.size ≤ h4.size := hu4.size
  have c4 := k24.get0 c1
  have d4 := k24.get0 b2
  have i4 := i.pro k04
  have hW4 := Pro.lt hW k04
  -- what is left when the root is there
  have fin : ∀ {h6 : Heap} {t' : Tr}, Upd No h h6 → h6[h.size]? = some (.cells (trL t').toArray t_tree_Tree (0, 0)) → h6[h1.size]? = some (.cells (trL tr0).toArray t_tree_Tree (0, 0)) → h6[h2.size]? = some (.cells (trL t).toArray t_tree_Tree (0, 0)) → TreeIs (Pro W h h4) h6 kind x t' (delR k l) → (there l k = false → t' = t) →
      CondP (!there l k) (∃ v41 : Int, hcell h6 (adr (newA h2) 0) = some (.int .i64 v41) ∧
           ∃ v42 : Int, hcell h6 (adr (newA h2) 1) = some (.int .u64 v42) ∧
           ∃ v43 : Int, hcell h6 (adr (newA h2) 2) = some (.int .u64 v43) ∧
           ∃ v44 : Int, hcell h6 (adr (newA h2) 3) = some (.int .u64 v44) ∧
           ∃ v45 : Option Addr, hcell h6 (adr (newA h2) 4) = some (.pointer v45) ∧
           ∃ v46 : Option Addr, hcell h6 (adr (newA h2) 5) = some (.pointer v46) ∧
           (WrS h6 (some (newA h1)) 0 [.int .i64 v41, .int .u64 v42, .int .u64 v43, .int .u64 v44, .pointer v45, .pointer v46] ∧
            At (hsetL h6 (newA h1) 0 [.int .i64 v41, .int .u64 v42, .int .u64 v43, .int .u64 v44, .pointer v45, .pointer v46]) (fun h47 =>
             ∃ v48 : Int, hcell h47 (adr (newA h1) 0) = some (.int .i64 v48) ∧
             ∃ v49 : Int, hcell h47 (adr (newA h1) 1) = some (.int .u64 v49) ∧
             ∃ v50 : Int, hcell h47 (adr (newA h1) 2) = some (.int .u64 v50) ∧
             ∃ v51 : Int, hcell h47 (adr (newA h1) 3) = some (.int .u64 v51) ∧
             ∃ v52 : Option Addr, hcell h47 (adr (newA h1) 4) = some (.pointer v52) ∧
             ∃ v53 : Option Addr, hcell h47 (adr (newA h1) 5) = some (.pointer v53) ∧
             K ((v48, v49, v50, v51, v52, v53), 4) h47))) (
           ∃ v54 : Int, hcell h6 (adr (newA h) 0) = some (.int .i64 v54) ∧
           ∃ v55 : Int, hcell h6 (adr (newA h) 1) = some (.int .u64 v55) ∧
           ∃ v56 : Int, hcell h6 (adr (newA h) 2) = some (.int .u64 v56) ∧
           ∃ v57 : Int, hcell h6 (adr (newA h) 3) = some (.int .u64 v57) ∧
           ∃ v58 : Option Addr, hcell h6 (adr (newA h) 4) = some (.pointer v58) ∧
           ∃ v59 : Option Addr, hcell h6 (adr (newA h) 5) = some (.pointer v59) ∧
           (WrS h6 (some (newA h1)) 0 [.int .i64 v54, .int .u64 v55, .int .u64 v56, .int .u64 v57, .pointer v58, .pointer v59] ∧
            At (hsetL h6 (newA h1) 0 [.int .i64 v54, .int .u64 v55, .int .u64 v56, .int .u64 v57, .pointer v58, .pointer v59]) (fun h60 =>
             ∃ v61 : Int, hcell h60 (adr (newA h1) 0) = some (.int .i64 v61) ∧
             ∃ v62 : Int, hcell h60 (adr (newA h1) 1) = some (.int .u64 v62) ∧
             ∃ v63 : Int, hcell h60 (adr (newA h1) 2) = some (.int .u64 v63) ∧
             ∃ v64 : Int, hcell h60 (adr (newA h1) 3) = some (.int .u64 v64) ∧
             ∃ v65 : Option Addr, hcell h60 (adr (newA h1) 4) = some (.pointer v65) ∧
             ∃ v66 : Option Addr, hcell h60 (adr (newA h1) 5) = some (.pointer v66) ∧
             K ((v61, v62, v63, v64, v65, v66), 0) h60))) := fun {h6 t'} k6 e0 e1 e2 i6 hsm => by
    cases ht : there l k with
    | false =>
      rw [ht] at hk hsm
      have hte := hsm rfl
      subst hte
      refine condP_true.2 ⟨_, vc e2 0, _, vc e2 1, _, vc e2 2, _, vc e2 3, _, vc e2 4, _, vc e2 5, ?_⟩
      refine setAll (c := trL tr0) (vs := trL t') e1 rfl fun h7 b7 hu7 => ?_
      refine ⟨_, vc b7 0, _, vc b7 1, _, vc b7 2, _, vc b7 3, _, vc b7 4, _, vc b7 5, ?_⟩
      exact hk h7 t' ((i6.updM hu7 (fun y hy => .inl (.inr (by have hy : y = h1.size := hy; omega)))).less Pro.sub) (fun _ => rfl) (k6.own hu7 s1)
    | true =>
      rw [ht] at hk hsm
      refine condP_false.2 ⟨_, vc e0 0, _, vc e0 1, _, vc e0 2, _, vc e0 3, _, vc e0 4, _, vc e0 5, ?_⟩
      refine setAll (c := trL tr0) (vs := trL t') e1 rfl fun h7 b7 hu7 => ?_
      refine ⟨_, vc b7 0, _, vc b7 1, _, vc b7 2, _, vc b7 3, _, vc b7 4, _, vc b7 5, ?_⟩
      exact hk h7 t' ((i6.updM hu7 (fun y hy => .inl (.inr (by have hy : y = h1.size := hy; omega)))).less Pro.sub) (fun h => by cases h) (k6.own hu7 s1)
  refine Join.intro (fun tk h6 => tk = there l k ∧ Upd No h h6 ∧ ∃ t', h6[h.size]? = some (.cells (trL t').toArray t_tree_Tree (0, 0)) ∧ h6[h1.size]? = some (.cells (trL tr0).toArray t_tree_Tree (0, 0)) ∧ h6[h2.size]? = some (.cells (trL t).toArray t_tree_Tree (0, 0)) ∧ TreeIs (Pro W h h4) h6 kind x t' (delR k l) ∧ (there l k = false → t' = t)) (fun R hR => ?_) ?_
  · rcases i4 with ⟨rfl, b, rfl, t4⟩ | ⟨rfl, b, rfl, t4⟩
    · refine ⟨_, vc c4 0, condP_false.2 ⟨_, vc2 c4 1 0, _, vc2 c4 1 1, _, vc2 c4 1 2, _, vc c4 4, ?_⟩⟩
      refine champDrop_ok t4 hW4 hr hn k fun h5 b5 hu5 t5 hsm => ?_
      refine vset (i := 4) (c' := (trL (0, x.k0, x.k1, x.mask, some ⟨b5, 0, none⟩, none)).toArray) (hu5.get0 c4) (show 4 < 6 by decide) rfl fun h6 b6 hu6 => ?_
      exact hR _ _ ⟨rfl, (k04.tr hu5).own hu6 (Nat.le_refl _), _, b6, hu6.oth (hu5.get0 d4) (by omega), hu6.oth (hu5.get0 b4) (by omega), .inl ⟨rfl, b5, rfl, TrieAt.updM hu6 (fun y hy => .inl (.inr (by have hy : y = h.size := hy; omega))) t5⟩, fun ht => by rw [hsm ht]⟩
    · refine ⟨_, vc c4 0, condP_true.2 ⟨_, vc c4 5, ?_⟩⟩
      refine radixDrop_ok t4 hW4 hf k fun h5 b5 hu5 t5 hsm => ?_
      refine vset (i := 5) (c' := (trL (1, 0, 0, 0, none, some ⟨b5, 0, none⟩)).toArray) (hu5.get0 c4) (show 5 < 6 by decide) rfl fun h6 b6 hu6 => ?_
      exact hR _ _ ⟨rfl, (k04.tr hu5).own hu6 (Nat.le_refl _), _, b6, hu6.oth (hu5.get0 d4) (by omega), hu6.oth (hu5.get0 b4) (by omega), .inr ⟨rfl, b5, rfl, t5.updM hu6 (fun y hy => .inl (.inr (by have hy : y = h.size := hy; omega)))⟩, fun ht => by rw [hsm ht]⟩
  · rintro _ h6 ⟨rfl, k6, t', e0, e1, e2, i6, hsm⟩
    exact fin k6 e0 e1 e2 i6 hsm
end Go.Proofs
