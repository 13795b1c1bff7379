/- A part of the proof that the named laws of this program answer true, whatever the input. -/
import Derived.Test.YtjkhbpjhngfpaaaGreatPart3
import Derived.Test.YtjkhbpjhngfpaaaGreatLaw0
import Derived.Test.YtjkhbpjhngfpaaaGreatPart0
namespace Go.Proofs
open Go Go.Lift
theorem mem_ins_iff {p q : Pr} : ∀ {l : List Pr}, Rises l → (q ∈ insR p l ↔ q = p ∨ (q ∈ l ∧ q.1 ≠ p.1))
  | [], _ => by simp [insR]
  | r :: l, hr => by
    have hr := List.pairwise_cons.1 hr
    rw [insR_cons]
    by_cases h1 : kl r.1 p.1
    · have hne : r.1 ≠ p.1 := fun e => by rw [e] at h1; exact kl_irrefl _ h1
      rw [if_pos h1, List.mem_cons, List.mem_cons, mem_ins_iff hr.2]
      constructor
      · rintro (rfl | h | ⟨h, h'⟩)
        · exact .inr ⟨.inl rfl, hne⟩
        · exact .inl h
        · exact .inr ⟨.inr h, h'⟩
      · rintro (h | ⟨h | h, h'⟩)
        · exact .inr (.inl h)
        · exact .inl h
        · exact .inr (.inr ⟨h, h'⟩)
    · rw [if_neg h1]
      by_cases h2 : r.1 = p.1
      · rw [if_pos h2, List.mem_cons, List.mem_cons]
        constructor
        · rintro (h | h)
          · exact .inl h
          · refine .inr ⟨.inr h, fun e => ?_⟩
            have := hr.1 q h
            rw [e, h2] at this; exact kl_irrefl _ this
        · rintro (h | ⟨rfl | h, h'⟩)
          · exact .inl h
          · exact absurd h2 h'
          · exact .inr h
      · rw [if_neg h2, List.mem_cons, List.mem_cons]
        have h3 := kl_tri h1 h2
        constructor
        · rintro (h | rfl | h)
          · exact .inl h
          · exact .inr ⟨.inl rfl, h2⟩
          · refine .inr ⟨.inr h, fun e => ?_⟩
            have := kl_trans h3 (hr.1 q h)
            rw [e] at this; exact kl_irrefl _ this
        · rintro (h | ⟨rfl | h, h'⟩)
          · exact .inl h
          · exact .inr (.inl rfl)
          · exact .inr (.inr h)
def RadRoot (W : Nat → Prop) (h : Heap) (r : Option Addr) (l : List Pr) : Prop := (r = none ∧ l = []) ∨ ∃ b, r = some ⟨b, 0, none⟩ ∧ RadAt W h b l
theorem RadRoot.upd0 {W : Nat → Prop} {h h' : Heap} {r : Option Addr} {l : List Pr} (k : Upd No h h') (t : RadRoot W h r l) : RadRoot W h' r l := t.imp id fun ⟨b, e, t⟩ => ⟨b, e, t.upd0 k⟩
theorem bytes_list {a b : ByteArray} : a.data.toList = b.data.toList ↔ a = b := by
  constructor
  · intro h; cases a; cases b; exact congrArg ByteArray.mk (Array.toList_inj.1 h)
  · rintro rfl; rfl
theorem rxEmpty_ok {W : Nat → Prop} {h : Heap} (hW : ∀ y, W y → y < h.size) {K : Option Addr → Heap → Prop} (hk : ∀ h' b, RadAt W h' b [] → Upd No h h' → K (some ⟨b, 0, none⟩) h') : HC PG f_radix_Empty [] [.c .ptr] K h := by
  refine H_radix_Empty ?_
  unfold F_radix_Empty
  refine at_intro (hk _ h.size ⟨none, .nil, ⟨⟨#[]⟩, ⟨none, 0, 0⟩, none, [], hnew_get h rx0 t_radix_Node, fun v h => (by cases h), Sl.nil rxF_ne, ⟨Nat.le_refl _, fun hx => Nat.lt_irrefl _ (hW _ hx)⟩, rfl⟩, trivial, fun k v => ?_⟩ (Upd.hnew No h _ _))
  simp [prsR, prsF]
theorem rxSome_ok {W : Nat → Prop} {h : Heap} {r : Option Addr} {l : List Pr} (t : RadRoot W h r l) (hW : ∀ y, W y → y < h.size) {K : Option Addr → Heap → Prop} (hk : ∀ h' b, RadAt W h' b l → Upd No h h' → (r = some ⟨b, 0, none⟩ ∨ r = none) → K (some ⟨b, 0, none⟩) h') : HC PG f_radix_some [.pointer r] [.c .ptr] K h := by
  refine H_radix_some r ?_
  unfold F_radix_some
  rcases t with ⟨rfl, rfl⟩ | ⟨b, rfl, t⟩
  · exact condP_true.2 (rxEmpty_ok hW fun h' b t hu => hk h' b t hu (.inr rfl))
  · exact condP_false.2 (hk h b t (Upd.refl _ _) (.inl rfl))
theorem radixPut_ok {W : Nat → Prop} {h : Heap} {r : Option Addr} {l : List Pr} (t : RadRoot W h r l) (hW : ∀ y, W y → y < h.size) (hr : Rises l) (p : Pr) (hp : p.1.size ≤ 1000000) {K : Option Addr × Bool → Heap → Prop}
    (hk : ∀ h' b' added, Upd No h h' → RadAt W h' b' (insR p l) → (p ∈ l → r = some ⟨b', 0, none⟩ ∨ r = none) → K (some ⟨b', 0, none⟩, added) h') :
    HC PG f_radix_Put [.pointer none, .pointer r, .agg #[.string p.1, .string p.2]] [.c .ptr, .c .bool] K h := by
  refine H_radix_Put none r p ?_
  unfold F_radix_Put
  have k1 := Upd.hnew No h [.string p.1, .string p.2] t_pair_Pair
  have b1 := hnew_get h [.string p.1, .string p.2] t_pair_Pair
  refine at_intro ?_
  simp only [newA_eq h]
  generalize hnew h [.string p.1, .string p.2] t_pair_Pair = h1 at k1 b1
  have w1 : ∀ {h' : Heap}, Upd No h1 h' → ∀ i, hcell h' (adr ⟨h.size, 0, none⟩ i) = (#[.string p.1, .string p.2] : Array Value)[i]? := fun k i => by rw [adr_mk, hcell_blk (k.get0 b1), Nat.zero_add]
  have r0 := Upd.refl No h1
  refine ⟨p.1, w1 r0 0, p.2, w1 r0 1, rxSome_ok (t.upd0 k1) (fun y hy => Nat.lt_of_lt_of_le (hW y hy) k1.size) fun h2 b t2 hu2 hb => ⟨w1 hu2 1, w1 hu2 0, ?_⟩⟩
  obtain ⟨w, F, r1, r2, r3⟩ := t2.ex
  refine rxPut_ok (p.1.size + 1) p.1 p.2 (by omega) hp r1 (fun y hy => Nat.lt_of_lt_of_le (hW y hy) (k1.tr hu2).size) r2 fun h3 b3 w' F' added ch hu3 rn3 hc3 hp3 hsm hch => ?_
  refine hk h3 b3 added ((k1.tr hu2).tr hu3) ⟨w', F', rn3, hc3, fun k v => ?_⟩ fun hm => ?_
  · rw [mem_prsR, hp3 k v, ← mem_prsR, r3 k v]
    constructor
    · rintro (⟨rfl, rfl⟩ | ⟨hne, q, hq, rfl, rfl⟩)
      · exact ⟨p, (mem_ins_iff hr).2 (.inl rfl), rfl, rfl⟩
      · exact ⟨q, (mem_ins_iff hr).2 (.inr ⟨hq, fun e => hne (by rw [e])⟩), rfl, rfl⟩
    · rintro ⟨q, hq, rfl, rfl⟩
      rcases (mem_ins_iff hr).1 hq with rfl | ⟨hq, hne⟩
      · exact .inl ⟨rfl, rfl⟩
      · exact .inr ⟨fun e => hne (bytes_list.1 e), q, hq, rfl, rfl⟩
  · have := hch (mem_prsR.1 ((r3 _ _).2 ⟨p, hm, rfl, rfl⟩))
    rw [(hsm this).1]; exact hb
/-- How a radix tree of a list looks. -/
def RadV (l : List Pr) (xs : List UInt8) : Prop := ∃ w F, CanF F ∧ prsR w F = toU l ∧ xs = shapeN ([], w, F)
theorem fit_root {w : Option ByteArray} {F : Fo} {l : List Pr} (hc : CanF F) (hp : prsR w F = toU l) (hf : Fit l) : FitF F ∧ ∀ v, w = some v → v.size ≤ 10000 := by
  have hm : ∀ k v, InR w F k v → k.length ≤ 10000 ∧ v.size ≤ 10000 := fun k v hi => by
    have := mem_prsR.2 hi
    rw [hp] at this
    obtain ⟨q, hq, e⟩ := List.mem_map.1 this
    cases e
    have := hf q hq
    exact ⟨by simpa using this.1, this.2⟩
  exact ⟨fit_of hc fun k v hi => hm k v (.inr hi), fun v hv => (hm [] v (.inl ⟨rfl, hv⟩)).2⟩
theorem radV_eq {l l' : List Pr} {xs xs' : List UInt8} (h : RadV l xs) (h' : RadV l' xs') (hf : Fit l) (hf' : Fit l') : xs = xs' ↔ l = l' := by
  obtain ⟨w, F, c, e, rfl⟩ := h
  obtain ⟨w', F', c', e', rfl⟩ := h'
  have f1 := fit_root c e hf
  have f2 := fit_root c' e' hf'
  constructor
  · intro hx
    have hx : shapeN ([], w, F) ++ [] = shapeN ([], w', F') ++ [] := by rw [hx]
    unfold shapeN at hx
    simp only [List.append_assoc] at hx
    obtain ⟨_, e2, e3, hx⟩ := nodeV_inj (Nat.zero_le _) (Nat.zero_le _) f1.2 f2.2 (can_len c) (can_len c') hx
    obtain ⟨e4, _⟩ := shapeF_inj f1.1 f2.1 e3 hx
    exact toU_inj (by rw [← e, ← e', e2, e4])
  · rintro rfl
    obtain ⟨e2, e4⟩ := root_inj c c' (e.trans e'.symm)
    rw [e2, e4]
theorem radV_len {l : List Pr} {xs : List UInt8} (h : RadV l xs) (hf : Fit l) : xs.length ≤ 20010 + 2 * l.length * 20010 := by
  obtain ⟨w, F, c, e, rfl⟩ := h
  have f1 := fit_root c e hf
  have h1 := nodeV_len (lab := []) (n := F.toL.length) (Nat.zero_le _) f1.2
  have h2 := shapeF_len f1.1
  have h3 := cntF_le c
  have h4 := congrArg List.length e
  unfold prsR toU at h4
  rw [List.length_append, List.length_map] at h4
  have h5 : cntF F * 20010 ≤ 2 * l.length * 20010 := Nat.mul_le_mul_right _ (by omega)
  unfold shapeN
  rw [List.length_append]
  simp only
  omega
theorem radShape_ok {W : Nat → Prop} {h : Heap} {b : Nat} {l : List Pr} (t : RadAt W h b l) (hr : Rises l) (hf : Fit l) (hn : l.length ≤ 60000) {K : SliceV → Heap → Prop}
    (hk : ∀ s' h' xs, RadV l xs → OwnS byF 1 t_u8 (fun y => h.size ≤ y) h' s' xs → Upd No h h' → K s' h') : HC PG f_radix_Shape [.pointer (some ⟨b, 0, none⟩)] [.c .slice] K h := by
  refine H_radix_Shape _ ?_
  unfold F_radix_Shape
  refine condP_false.2 ?_
  obtain ⟨w, F, r1, r2, r3⟩ := t.ex
  have hp := rad_prs r2 hr r3
  have f1 := fit_root r2 hp hf
  have hv : RadV l (shapeN ([], w, F)) := ⟨w, F, r2, hp, rfl⟩
  have hl := radV_len hv hf
  exact shp_of (lab := []) (Nat.zero_le _) f1.2 (can_len r2) (shp_all f1.1) (s := ⟨none, 0, 0⟩) (xs := []) (M := fun y => h.size ≤ y) r1 rfl (Upd.refl _ _) (fun _ h => h) (OwnS.nil byF_ne) (fun _ h => h) (by rw [List.length_nil]; omega) fun s' h' ho hu => hk s' h' _ hv ho (hu.mono fun y hy => .inr hy)
end Go.Proofs
namespace Go.Proofs
open Go Go.Lift
theorem at_new {h : Heap} {cs : List Value} {t : TypeId} {k : Heap → Prop} (hk : ∀ h', h'[h.size]? = some (.cells cs.toArray t (0, 0)) → Upd No h h' → k h') : At (hnew h cs t) k :=
  at_intro (hk _ (hnew_get h cs t) (Upd.hnew No h cs t))
theorem vc {h : Heap} {b : Nat} {c : Array Value} {t : TypeId} (hb : h[b]? = some (.cells c t (0, 0))) (i : Nat) : hcell h (adr ⟨b, 0, none⟩ i) = c[i]? := by rw [adr_mk, Nat.zero_add]; exact hcell_blk hb
theorem vc2 {h : Heap} {b : Nat} {c : Array Value} {t : TypeId} (hb : h[b]? = some (.cells c t (0, 0))) (i j : Nat) : hcell h (adr (adr ⟨b, 0, none⟩ i) j) = c[i + j]? := by rw [adr_mk, adr_mk, Nat.zero_add]; exact hcell_blk hb
theorem vset {h : Heap} {b i : Nat} {c c' : Array Value} {t : TypeId} {v : Value} {k : Heap → Prop} (hb : h[b]? = some (.cells c t (0, 0))) (hi : i < c.size) (e : c.setIfInBounds i v = c') (hk : ∀ h', h'[b]? = some (.cells c' t (0, 0)) → Upd (· = b) h h' → k h') : Wr h (adr ⟨b, 0, none⟩ i) ∧ At (hset h (adr ⟨b, 0, none⟩ i) v) k := by
  rw [adr_mk, Nat.zero_add]
  exact ⟨wr_blk hb hi, at_set hb fun h' hb' hu => hk h' (e ▸ hb') hu⟩
/-- A block of one's own, that is newer, changes nothing that stood. -/
theorem _root_.Go.Lift.Upd.own {h h1 h2 : Heap} {b : Nat} (k : Upd No h h1) (hu : Upd (· = b) h1 h2) (hb : h.size ≤ b) : Upd No h h2 := k.trans hu fun x hx => .inr (by have hx : x = b := hx; omega)
theorem _root_.Go.Lift.Upd.oth {h h' : Heap} {b c : Nat} {o : Obj} (hu : Upd (· = b) h h') (hc : h[c]? = some o) (hne : c ≠ b) : h'[c]? = some o := hu.get hc hne
abbrev Tr := Int × Int × Int × Int × (Option Addr) × (Option Addr)
abbrev trL (t : Tr) : List Value := [.int .i64 t.1, .int .u64 t.2.1, .int .u64 t.2.2.1, .int .u64 t.2.2.2.1, .pointer t.2.2.2.2.1, .pointer t.2.2.2.2.2]
abbrev trV (t : Tr) : Value := .agg #[.int .i64 t.1, .int .u64 t.2.1, .int .u64 t.2.2.1, .int .u64 t.2.2.2.1, .pointer t.2.2.2.2.1, .pointer t.2.2.2.2.2]
/-- What a function lays out at its beginning is left out, too. -/
def Pro (W : Nat → Prop) (h h2 : Heap) (y : Nat) : Prop := W y ∨ (h.size ≤ y ∧ y < h2.size)
theorem Pro.lt {W : Nat → Prop} {h h2 : Heap} (hW : ∀ y, W y → y < h.size) (k : Upd No h h2) : ∀ y, Pro W h h2 y → y < h2.size := fun y hy => hy.elim (fun h => Nat.lt_of_lt_of_le (hW y h) k.size) fun h => h.2
theorem Pro.hm {W : Nat → Prop} {h h2 : Heap} : ∀ y, Pro W h h2 y → W y ∨ h.size ≤ y := fun _ hy => hy.imp id fun h => h.1
theorem Pro.sub {W : Nat → Prop} {h h2 h3 : Heap} : ∀ y, W y → Pro W h h2 y ∨ h3.size ≤ y := fun _ hy => .inl (.inl hy)
theorem RootAt.less {W W' : Nat → Prop} {x : Hs} {h : Heap} (hm : ∀ b, W' b → W b ∨ h.size ≤ b) {r : Option Addr} {l : List Pr} (t : RootAt W x h r l) : RootAt W' x h r l := t.imp id fun ⟨b, e, t⟩ => ⟨b, e, TrieAt.less hm t⟩
theorem RadRoot.less {W W' : Nat → Prop} {h : Heap} (hm : ∀ b, W' b → W b ∨ h.size ≤ b) {r : Option Addr} {l : List Pr} (t : RadRoot W h r l) : RadRoot W' h r l := t.imp id fun ⟨b, e, t⟩ => ⟨b, e, t.less hm⟩
/-- A tree of a kind and a hasher, of a rising list. -/
def TreeIs (W : Nat → Prop) (h : Heap) (kind : Int) (x : Hs) (t : Tr) (l : List Pr) : Prop := (kind = 0 ∧ ∃ b, t = (0, x.k0, x.k1, x.mask, some ⟨b, 0, none⟩, none) ∧ TrieAt W x h 13 b l) ∨ (kind = 1 ∧ ∃ b, t = (1, 0, 0, 0, none, some ⟨b, 0, none⟩) ∧ RadAt W h b l)
theorem TreeIs.upd0 {W : Nat → Prop} {h h' : Heap} {kind : Int} {x : Hs} {t : Tr} {l : List Pr} (k : Upd No h h') (i : TreeIs W h kind x t l) : TreeIs W h' kind x t l :=
  i.imp (fun ⟨e, b, e2, t⟩ => ⟨e, b, e2, TrieAt.upd0 k t⟩) fun ⟨e, b, e2, t⟩ => ⟨e, b, e2, t.upd0 k⟩
theorem TreeIs.less {W W' : Nat → Prop} {h : Heap} (hm : ∀ b, W' b → W b ∨ h.size ≤ b) {kind : Int} {x : Hs} {t : Tr} {l : List Pr} (i : TreeIs W h kind x t l) : TreeIs W' h kind x t l :=
  i.imp (fun ⟨e, b, e2, t⟩ => ⟨e, b, e2, TrieAt.less hm t⟩) fun ⟨e, b, e2, t⟩ => ⟨e, b, e2, t.less hm⟩
theorem TreeIs.updM {W M : Nat → Prop} {h h' : Heap} (k : Upd M h h') (hm : ∀ b, M b → W b ∨ h.size ≤ b) {kind : Int} {x : Hs} {t : Tr} {l : List Pr} (i : TreeIs W h kind x t l) : TreeIs W h' kind x t l :=
  i.imp (fun ⟨e, b, e2, t⟩ => ⟨e, b, e2, TrieAt.updM k hm t⟩) fun ⟨e, b, e2, t⟩ => ⟨e, b, e2, t.updM k hm⟩
theorem TreeIs.pro {W : Nat → Prop} {h h2 : Heap} (k : Upd No h h2) {kind : Int} {x : Hs} {t : Tr} {l : List Pr} (i : TreeIs W h kind x t l) : TreeIs (Pro W h h2) h2 kind x t l := (i.less Pro.hm).upd0 k
theorem champEmpty_ok {W : Nat → Prop} {x : Hs} {h : Heap} (hW : ∀ y, W y → y < h.size) {K : Option Addr → Heap → Prop} (hk : ∀ h' b, TrieAt W x h' 13 b [] → Upd No h h' → K (some ⟨b, 0, none⟩) h') : HC PG f_champ_Empty [] [.c .ptr] K h := by
  refine H_champ_Empty ?_
  unfold F_champ_Empty
  exact nodeInner_ok hW fun h' b nd hu => hk h' b (trie_nil nd) hu
abbrev tr0 : Tr := (0, 0, 0, 0, none, none)
theorem tOfChamp_ok {W : Nat → Prop} {x : Hs} {h : Heap} {r : Option Addr} {l : List Pr} (t : RootAt W x h r l) (hW : ∀ y, W y → y < h.size) {K : Tr → Heap → Prop} (hk : ∀ h' t, TreeIs W h' 0 x t l → Upd No h h' → K t h') : HC PG f_tree_OfChamp [.agg #[.int .u64 x.k0, .int .u64 x.k1, .int .u64 x.mask], .pointer r] [.agg [.int .i64, .int .u64, .int .u64, .int .u64, .ptr, .ptr]] K h := by
  refine H_tree_OfChamp (x.k0, x.k1, x.mask) r ?_
  unfold F_tree_OfChamp
  refine at_new fun h1 b1 k1 => at_new fun h2 b2 k2 => ?_
  have z1 := get_lt b1
  have z2 := get_lt b2
  have k02 := k1.tr k2
  refine Join.intro (fun t h' => Upd No h2 h' ∧ ∃ b, t = some ⟨b, 0, none⟩ ∧ TrieAt (Pro W h h2) x h' 13 b l) (fun R hR => ?_) ?_
  · rcases t with ⟨rfl, rfl⟩ | ⟨b, rfl, t⟩
    · exact condP_true.2 (champEmpty_ok (Pro.lt hW k02) fun h3 b t hu3 => hR _ _ ⟨hu3, b, rfl, t⟩)
    · exact condP_false.2 (hR _ _ ⟨Upd.refl _ _, b, rfl, TrieAt.upd0 k02 (TrieAt.less Pro.hm t)⟩)
  · rintro t3 h3 ⟨hu3, b, rfl, t3⟩
    have c1 := hu3.get0 (k2.get0 b1)
    refine ⟨_, vc c1 0, _, vc c1 1, _, vc c1 2, ?_⟩
    refine setAll (c := trL tr0) (vs := trL (0, x.k0, x.k1, x.mask, some ⟨b, 0, none⟩, none)) (hu3.get0 b2) rfl fun h4 b4 hu4 => ?_
    refine ⟨_, vc b4 0, _, vc b4 1, _, vc b4 2, _, vc b4 3, _, vc b4 4, _, vc b4 5, ?_⟩
    have hb1 : h.size ≤ h1.size := k1.size
    exact hk h4 _ (.inl ⟨rfl, b, rfl, TrieAt.less Pro.sub (TrieAt.updM hu4 (fun y hy => .inl (.inr (by have hy : y = h1.size := hy; omega))) t3)⟩) ((k02.tr hu3).own hu4 hb1)
theorem tOfRadix_ok {W : Nat → Prop} {x : Hs} {h : Heap} {r : Option Addr} {l : List Pr} (t : RadRoot W h r l) (hW : ∀ y, W y → y < h.size) {K : Tr → Heap → Prop} (hk : ∀ h' t, TreeIs W h' 1 x t l → Upd No h h' → K t h') : HC PG f_tree_OfRadix [.pointer r] [.agg [.int .i64, .int .u64, .int .u64, .int .u64, .ptr, .ptr]] K h := by
  refine H_tree_OfRadix r ?_
  unfold F_tree_OfRadix
  refine at_new fun h2 b2 k02 => ?_
  have z2 := get_lt b2
  refine Join.intro (fun t h' => Upd No h2 h' ∧ ∃ b, t = some ⟨b, 0, none⟩ ∧ RadAt (Pro W h h2) h' b l) (fun R hR => ?_) ?_
  · rcases t with ⟨rfl, rfl⟩ | ⟨b, rfl, t⟩
    · exact condP_true.2 (rxEmpty_ok (Pro.lt hW k02) fun h3 b t hu3 => hR _ _ ⟨hu3, b, rfl, t⟩)
    · exact condP_false.2 (hR _ _ ⟨Upd.refl _ _, b, rfl, (t.less Pro.hm).upd0 k02⟩)
  · rintro t3 h3 ⟨hu3, b, rfl, t3⟩
    refine setAll (c := trL tr0) (vs := trL (1, 0, 0, 0, none, some ⟨b, 0, none⟩)) (hu3.get0 b2) rfl fun h4 b4 hu4 => ?_
    refine ⟨_, vc b4 0, _, vc b4 1, _, vc b4 2, _, vc b4 3, _, vc b4 4, _, vc b4 5, ?_⟩
    exact hk h4 _ (.inr ⟨rfl, b, rfl, (t3.updM hu4 (fun y hy => .inl (.inr (by have hy : y = h.size := hy; omega)))).less Pro.sub⟩) ((k02.tr hu3).own hu4 (Nat.le_refl _))
theorem tNew_ok {W : Nat → Prop} {x : Hs} {h : Heap} (hW : ∀ y, W y → y < h.size) {kind : Int} (hkd : kind = 0 ∨ kind = 1) {K : Tr × Int → Heap → Prop} (hk : ∀ h' t, TreeIs W h' kind x t [] → Upd No h h' → K (t, 0) h') : HC PG f_tree_New [.int .i64 kind, .agg #[.int .u64 x.k0, .int .u64 x.k1, .int .u64 x.mask]] [.agg [.int .i64, .int .u64, .int .u64, .int .u64, .ptr, .ptr], .c (.int .i64)] K h := by
  refine H_tree_New kind (x.k0, x.k1, x.mask) ?_
  unfold F_tree_New
  refine at_new fun h1 b1 k1 => at_new fun h2 b2 k2 => ?_
  have z1 := get_lt b1
  have z2 := get_lt b2
  have k02 := k1.tr k2
  have hb1 : h.size ≤ h1.size := k1.size
  have c1 := k2.get0 b1
  rcases hkd with rfl | rfl
  · refine condP_true.2 ⟨_, vc c1 0, _, vc c1 1, _, vc c1 2, ?_⟩
    refine tOfChamp_ok (W := Pro W h h2) (x := x) (l := []) (.inl ⟨rfl, rfl⟩) (Pro.lt hW k02) fun h3 t i3 hu3 => ?_
    refine setAll (c := trL tr0) (vs := trL t) (hu3.get0 b2) rfl fun h4 b4 hu4 => ?_
    refine ⟨_, vc b4 0, _, vc b4 1, _, vc b4 2, _, vc b4 3, _, vc b4 4, _, vc b4 5, ?_⟩
    exact hk h4 t ((i3.updM hu4 (fun y hy => .inl (.inr (by have hy : y = h1.size := hy; omega)))).less Pro.sub) ((k02.tr hu3).own hu4 hb1)
  · refine condP_false.2 (condP_true.2 ?_)
    refine tOfRadix_ok (W := Pro W h h2) (x := x) (l := []) (.inl ⟨rfl, rfl⟩) (Pro.lt hW k02) fun h3 t i3 hu3 => ?_
    refine setAll (c := trL tr0) (vs := trL t) (hu3.get0 b2) rfl fun h4 b4 hu4 => ?_
    refine ⟨_, vc b4 0, _, vc b4 1, _, vc b4 2, _, vc b4 3, _, vc b4 4, _, vc b4 5, ?_⟩
    exact hk h4 t ((i3.updM hu4 (fun y hy => .inl (.inr (by have hy : y = h1.size := hy; omega)))).less Pro.sub) ((k02.tr hu3).own hu4 hb1)
theorem pRight_ok {k v : ByteArray} (h1 : k.size ≤ 256) (h2 : v.size ≤ 4096) {h : Heap} {K : Int → Heap → Prop} (hk : K 0 h) : HC PG f_pair_Right [.string k, .string v] [.c (.int .i64)] K h := by
  refine H_pair_Right k v ?_
  unfold F_pair_Right
  refine condP_dec (fun h => absurd h (by omega)) fun _ => condP_dec (fun h => absurd h (by omega)) fun _ => hk
theorem tWith_ok {W : Nat → Prop} {x : Hs} {h : Heap} {kind : Int} {t : Tr} {l : List Pr} (i : TreeIs W h kind x t l) (hW : ∀ y, W y → y < h.size) (hr : Rises l) (hn : l.length ≤ 1000000) (p : Pr) (hp1 : p.1.size ≤ 256) (hp2 : p.2.size ≤ 4096) {K : Tr × Int → Heap → Prop}
    (hk : ∀ h' t', TreeIs W h' kind x t' (insR p l) → (p ∈ l → t' = t) → Upd No h h' → K (t', 0) h') : HC PG f_tree_Tree_With [trV t, .pointer none, .agg #[.string p.1, .string p.2]] [.agg [.int .i64, .int .u64, .int .u64, .int .u64, .ptr, .ptr], .c (.int .i64)] K h := by
  refine H_tree_Tree_With t none p ?_
  unfold F_tree_Tree_With
  refine at_new fun h1 b1 k1 => at_new fun h2 b2 k2 => at_new fun h3 b3 k3 => ?_
  have z1 := get_lt b1
  have z2 := get_lt b2
  have z3 := get_lt b3
  have s1 : h.size ≤ h1.size := k1.size
  have s2 : h1.size ≤ h2.size := k2.size
  have s3 := k3.size
  have k03 := (k1.tr k2).tr k3
  have v1 := k3.get0 (k2.get0 b1)
  have v2 := k3.get0 b2
  have i3 := i.pro k03
  have hW3 := Pro.lt hW k03
  refine ⟨_, vc v2 0, _, vc v2 1, pRight_ok hp1 hp2 (condP_false.2 ?_)⟩
  rcases i3 with ⟨rfl, b, rfl, t3⟩ | ⟨rfl, b, rfl, t3⟩
  · refine ⟨_, vc v1 0, condP_false.2 ⟨_, vc2 v1 1 0, _, vc2 v1 1 1, _, vc2 v1 1 2, _, vc v1 4, p.1, vc v2 0, p.2, vc v2 1, ?_⟩⟩
    refine champPut_ok (.inr ⟨b, rfl, t3⟩) hW3 hr hn p fun h4 b4 hu4 t4 hsame => ?_
    refine vset (i := 4) (c' := (trL (0, x.k0, x.k1, x.mask, some ⟨b4, 0, none⟩, none)).toArray) (hu4.get0 v1) (show 4 < 6 by decide) rfl fun h5 v5 hu5 => ?_
    refine ⟨_, vc v5 0, _, vc v5 1, _, vc v5 2, _, vc v5 3, _, vc v5 4, _, vc v5 5, ?_⟩
    refine setAll (c := trL tr0) (vs := trL (0, x.k0, x.k1, x.mask, some ⟨b4, 0, none⟩, none)) (hu5.oth (hu4.get0 b3) (by omega)) rfl fun h6 v6 hu6 => ?_
    refine ⟨_, vc v6 0, _, vc v6 1, _, vc v6 2, _, vc v6 3, _, vc v6 4, _, vc v6 5, ?_⟩
    refine hk h6 _ (.inl ⟨rfl, b4, rfl, TrieAt.less Pro.sub (TrieAt.updM hu6 (fun y hy => .inl (.inr (by have hy : y = h2.size := hy; omega))) (TrieAt.updM hu5 (fun y hy => .inl (.inr (by have hy : y = h.size := hy; omega))) t4))⟩) (fun hm => ?_) (((k03.tr hu4).own hu5 (Nat.le_refl _)).own hu6 (by omega))
    rcases hsame hm with e | e
    · rw [e]
    · cases e
  · refine ⟨_, vc v1 0, condP_true.2 ⟨_, vc v1 5, p.1, vc v2 0, p.2, vc v2 1, ?_⟩⟩
    refine radixPut_ok (.inr ⟨b, rfl, t3⟩) hW3 hr p (by omega) fun h4 b4 added hu4 t4 hsame => ?_
    refine vset (i := 5) (c' := (trL (1, 0, 0, 0, none, some ⟨b4, 0, none⟩)).toArray) (hu4.get0 v1) (show 5 < 6 by decide) rfl fun h5 v5 hu5 => ?_
    refine ⟨_, vc v5 0, _, vc v5 1, _, vc v5 2, _, vc v5 3, _, vc v5 4, _, vc v5 5, ?_⟩
    refine setAll (c := trL tr0) (vs := trL (1, 0, 0, 0, none, some ⟨b4, 0, none⟩)) (hu5.oth (hu4.get0 b3) (by omega)) rfl fun h6 v6 hu6 => ?_
    refine ⟨_, vc v6 0, _, vc v6 1, _, vc v6 2, _, vc v6 3, _, vc v6 4, _, vc v6 5, ?_⟩
    refine hk h6 _ (.inr ⟨rfl, b4, rfl, ((t4.updM hu5 (fun y hy => .inl (.inr (by have hy : y = h.size := hy; omega)))).updM hu6 (fun y hy => .inl (.inr (by have hy : y = h2.size := hy; omega)))).less Pro.sub⟩) (fun hm => ?_) (((k03.tr hu4).own hu5 (Nat.le_refl _)).own hu6 (by omega))
    rcases hsame hm with e | e
    · rw [e]
    · cases e
end Go.Proofs
namespace Go.Proofs
open Go Go.Lift
theorem condP_and {b x : Bool} {K : Bool → Heap → Prop} {h : Heap} (hk : K (b && x) h) : CondP b (K x h) (K false h) := by
  cases b
  · exact condP_false.2 hk
  · exact condP_true.2 hk
def likeB (t u : Tr) : Bool := (t.1 == u.1) && ((((t.2.1 == u.2.1) && ((t.2.2.1 == u.2.2.1) && true))) && ((t.2.2.2.1 == u.2.2.2.1) && true))
theorem tLike_ok {t u : Tr} {h : Heap} {K : Bool → Heap → Prop} (hk : ∀ h', Upd No h h' → K (likeB t u) h') : HC PG f_tree_Like [trV t, trV u] [.c .bool] K h := by
  refine H_tree_Like t u ?_
  unfold F_tree_Like
  refine at_new fun h1 b1 k1 => at_new fun h2 b2 k2 => ?_
  have c1 := k2.get0 b1
  refine ⟨_, vc c1 0, _, vc b2 0, ?_⟩
  have := hk h2 (k1.tr k2)
  unfold likeB at this
  rcases hb : (t.1 == u.1) with _ | _
  · rw [hb] at this
    exact condP_false.2 this
  · rw [hb] at this
    exact condP_true.2 ⟨_, vc2 c1 1 0, _, vc2 c1 1 1, _, vc2 c1 1 2, _, vc2 b2 1 0, _, vc2 b2 1 1, _, vc2 b2 1 2, this⟩
theorem tChamp_ok {W : Nat → Prop} {x : Hs} {h : Heap} {b : Nat} {l : List Pr} (t : TrieAt W x h 13 b l) {K : Option Addr → Heap → Prop} (hk : ∀ h', Upd No h h' → K (some ⟨b, 0, none⟩) h') : HC PG f_tree_Tree_Champ [trV (0, x.k0, x.k1, x.mask, some ⟨b, 0, none⟩, none)] [.c .ptr] K h := by
  refine H_tree_Tree_Champ (0, x.k0, x.k1, x.mask, some ⟨b, 0, none⟩, none) ?_
  unfold F_tree_Tree_Champ
  refine at_new fun h1 b1 k1 => ?_
  refine Join.intro (fun t h' => t = false ∧ h' = h1) (fun R hR => ⟨_, vc b1 0, condP_true.2 ⟨_, vc b1 4, hR _ _ ⟨rfl, rfl⟩⟩⟩) ?_
  rintro t h' ⟨rfl, rfl⟩
  exact condP_false.2 ⟨_, vc b1 4, hk h' k1⟩
/-- How a tree looks. -/
def TreeV (kind : Int) (x : Hs) (l : List Pr) (xs : List UInt8) : Prop := (kind = 0 ∧ xs = 0 :: shapeV x 13 l) ∨ (kind = 1 ∧ ∃ ys, RadV l ys ∧ xs = 1 :: ys)
theorem byteOne {h h1 : Heap} {b : UInt8} (hb : h1[h.size]? = some (.cells #[.int .u8 (b.toNat : Int)] t_u8 (0, 0))) : OwnS byF 1 t_u8 (fun y => h.size ≤ y) h1 ⟨some ⟨h.size, 0, none⟩, 1, 1⟩ [b] := ⟨rfl, byF_ne, Nat.le_refl _, .inr ⟨h.size, [], rfl, Nat.le_refl _, hb, rfl⟩⟩
theorem tShape_ok {W : Nat → Prop} {x : Hs} {h : Heap} {kind : Int} {t : Tr} {l : List Pr} (i : TreeIs W h kind x t l) (hr : Rises l) (hf : Fit l) (hn : l.length ≤ 60000) {K : SliceV → Heap → Prop}
    (hk : ∀ s' h' xs, TreeV kind x l xs → OwnS byF 1 t_u8 (fun y => h.size ≤ y) h' s' xs → Upd No h h' → K s' h') : HC PG f_tree_Tree_Shape [trV t] [.c .slice] K h := by
  refine H_tree_Tree_Shape t ?_
  unfold F_tree_Tree_Shape
  refine at_new fun h1 b1 k1 => ?_
  have z1 := k1.size
  have app : ∀ {b : UInt8} {h2 h3 : Heap} {s : SliceV} {xs : List UInt8}, h2[h1.size]? = some (.cells #[.int .u8 (b.toNat : Int)] t_u8 (0, 0)) → Upd No h1 h2 → OwnS byF 1 t_u8 (fun y => h2.size ≤ y) h3 s xs → Upd No h2 h3 → xs.length ≤ 70000000000000 → TreeV kind x l (b :: xs) →
      ∃ xs7, SRow h3 s.a (s.len * 1) xs7 ∧ AppP (some [.int .u8 0]) 1 1 t_u8 (some (newA h1)) 1 1 s.len xs7 h3 (fun s8 h9 => K s8 h9) := fun {b h2 h3 s xs} hb k2 ho k3 hl hv => by
    refine ⟨_, (ho.sl (W := No) fun _ _ _ h => h).srow, ?_⟩
    have k13 := k2.tr k3
    have hz := get_lt hb
    have o1 : OwnS byF 1 t_u8 (fun y => h.size ≤ y) h3 ⟨some ⟨h1.size, 0, none⟩, 1, 1⟩ [b] := ((byteOne hb).upd k3 fun _ _ h => h).more fun y hy => by omega
    refine AppP.own (ys := xs) o1 ho.len rfl (one_byF _) rfl (by omega) (by simp only [List.length_singleton]; omega) (by have := k13.size; omega) fun s' h' ho' hu' => ?_
    exact hk s' h' _ hv ho' ((k1.tr k13).trans hu' fun y hy => .inr hy)
  rcases i with ⟨rfl, b, rfl, t⟩ | ⟨rfl, b, rfl, t⟩
  · refine ⟨_, vc b1 0, condP_false.2 (at_new fun h2 b2 k2 => ?_)⟩
    have c1 := k2.get0 b1
    refine ⟨_, vc c1 0, _, vc c1 1, _, vc c1 2, _, vc c1 3, _, vc c1 4, _, vc c1 5, ?_⟩
    refine tChamp_ok (TrieAt.upd0 (k1.tr k2) t) fun h3 k3 => ?_
    refine shOf_ok (TrieAt.upd0 ((k1.tr k2).tr k3) t) hf hn fun s4 h4 ho4 k4 => ?_
    have z3 := k3.size
    have hlen := shapeV_len (x := x) 13 hf
    have hb : l.length * (20004 + 9 * (13 + 1)) ≤ 60000 * (20004 + 9 * (13 + 1)) := Nat.mul_le_mul_right _ hn
    exact app (b := 0) b2 k2 (ho4.more fun y hy => by omega) (k3.tr k4) (by omega) (.inl ⟨rfl, rfl⟩)
  · refine ⟨_, vc b1 0, condP_true.2 (at_new fun h2 b2 k2 => ?_)⟩
    have c1 := k2.get0 b1
    refine ⟨_, vc c1 5, ?_⟩
    refine radShape_ok (t.upd0 (k1.tr k2)) hr hf hn fun s4 h4 xs hv ho4 k4 => ?_
    have hlen := radV_len hv hf
    have hb : 2 * l.length * 20010 ≤ 2 * 60000 * 20010 := Nat.mul_le_mul_right _ (by omega)
    exact app (b := 1) b2 k2 ho4 k4 (by omega) (.inr ⟨rfl, xs, hv, rfl⟩)
theorem like_kind {W W' : Nat → Prop} {h h' : Heap} {kind kind' : Int} {x x' : Hs} {t u : Tr} {l l' : List Pr} (i : TreeIs W h kind x t l) (i' : TreeIs W' h' kind' x' u l') (hl : likeB t u = true) : kind = kind' ∧ (kind = 0 → x = x') := by
  rcases i with ⟨rfl, b, rfl, _⟩ | ⟨rfl, b, rfl, _⟩ <;> rcases i' with ⟨rfl, b', rfl, _⟩ | ⟨rfl, b', rfl, _⟩
  · refine ⟨rfl, fun _ => ?_⟩
    unfold likeB at hl
    simp only [Bool.and_eq_true, beq_iff_eq, Bool.and_true, true_and] at hl
    cases x; cases x'
    simp only at hl
    simp only [Hs.mk.injEq]
    exact ⟨hl.1.1, hl.1.2, hl.2⟩
  · simp [likeB] at hl
  · simp [likeB] at hl
  · exact ⟨rfl, fun h => by cases h⟩
theorem treeV_eq {kind : Int} {x x' : Hs} (hx : kind = 0 → x = x') {l l' : List Pr} {xs xs' : List UInt8} (hv : TreeV kind x l xs) (hv' : TreeV kind x' l' xs') (hf : Fit l) (hf' : Fit l') (hn : l.length ≤ 60000) (hn' : l'.length ≤ 60000) (hr : Rises l) (hr' : Rises l') : xs = xs' ↔ l = l' := by
  rcases hv with ⟨rfl, rfl⟩ | ⟨rfl, ys, hv, rfl⟩ <;> rcases hv' with ⟨e, rfl⟩ | ⟨e, ys', hv', rfl⟩
  · rw [hx rfl]
    constructor
    · intro h
      have h : shapeV x' 13 l ++ [] = shapeV x' 13 l' ++ [] := by rw [(List.cons.inj h).2]
      exact (shapeV_inj 13 hf hf' hn hn' hr hr' h).1
    · rintro rfl; rfl
  · cases e
  · cases e
  · rw [List.cons.injEq, ← radV_eq hv hv' hf hf']
    exact ⟨fun h => h.2, fun h => ⟨rfl, h⟩⟩
theorem tSame_ok {W W' : Nat → Prop} {x x' : Hs} {h : Heap} {kind kind' : Int} {t u : Tr} {l l' : List Pr} (i : TreeIs W h kind x t l) (i' : TreeIs W' h kind' x' u l') (hr : Rises l) (hf : Fit l) (hn : l.length ≤ 60000) (hr' : Rises l') (hf' : Fit l') (hn' : l'.length ≤ 60000) {K : Bool → Heap → Prop}
    (hk : ∀ h', Upd No h h' → K (likeB t u && decide (l = l')) h') : HC PG f_tree_Same [trV t, trV u] [.c .bool] K h := by
  refine H_tree_Same t u ?_
  unfold F_tree_Same
  refine at_new fun h1 b1 k1 => at_new fun h2 b2 k2 => ?_
  have c1 := k2.get0 b1
  refine ⟨_, vc c1 0, _, vc c1 1, _, vc c1 2, _, vc c1 3, _, vc c1 4, _, vc c1 5, _, vc b2 0, _, vc b2 1, _, vc b2 2, _, vc b2 3, _, vc b2 4, _, vc b2 5, ?_⟩
  refine tLike_ok fun h3 k3 => ?_
  have k03 := (k1.tr k2).tr k3
  have c3 := k3.get0 c1
  have b3 := k3.get0 b2
  rcases hl : likeB t u with _ | _
  · rw [hl] at hk
    exact condP_false.2 (hk h3 k03)
  · rw [hl] at hk
    refine condP_true.2 ⟨_, vc c3 0, _, vc c3 1, _, vc c3 2, _, vc c3 3, _, vc c3 4, _, vc c3 5, _, vc b3 0, _, vc b3 1, _, vc b3 2, _, vc b3 3, _, vc b3 4, _, vc b3 5, ?_⟩
    refine tShape_ok (i.upd0 k03) hr hf hn fun s4 h4 xs hv ho4 k4 => ?_
    have b4 := k4.get0 b3
    refine ⟨⟨vc b4 0, vc b4 1, vc b4 2, vc b4 3, vc b4 4, vc b4 5⟩, ?_⟩
    refine tShape_ok (i'.upd0 (k03.tr k4)) hr' hf' hn' fun s5 h5 ys hv' ho5 k5 => ?_
    have ho4' := ho4.upd k5 fun _ _ h => h
    refine bytesEq_ok (W := No) (W' := No) (ho4'.sl fun _ _ _ h => h) (ho5.sl fun _ _ _ h => h) ?_
    obtain ⟨rfl, hx⟩ := like_kind i i' hl
    have := hk h5 ((k03.tr k4).tr k5)
    rw [decide_eq_decide.2 (treeV_eq hx hv hv' hf hf' hn hn' hr hr')]
    exact this
theorem TreeIs.plain {W : Nat → Prop} {h : Heap} {kind : Int} {x : Hs} {t : Tr} {l : List Pr} (i : TreeIs W h kind x t l) : (∀ a, t.2.2.2.2.1 = some a → plainPtr h a) ∧ (∀ a, t.2.2.2.2.2 = some a → plainPtr h a) := by
  rcases i with ⟨rfl, b, rfl, t⟩ | ⟨rfl, b, rfl, t⟩
  · obtain ⟨s, nd, _⟩ := t
    obtain ⟨d, n, sp, sk, ow, hb, _⟩ := nd.ex
    refine ⟨fun a ha => ?_, fun a ha => (by cases ha)⟩
    cases ha
    exact ⟨_, _, hb, show 0 < 6 by decide⟩
  · obtain ⟨w, F, ⟨val, s, ow, ks, hb, _⟩, _⟩ := t.ex
    refine ⟨fun a ha => (by cases ha), fun a ha => ?_⟩
    cases ha
    exact ⟨_, _, hb, show 0 < 5 by decide⟩
def oneB (t u : Tr) : Bool := decide (t = u)
theorem tOne_ok {W W' : Nat → Prop} {x x' : Hs} {h : Heap} {kind kind' : Int} {t u : Tr} {l l' : List Pr} (i : TreeIs W h kind x t l) (i' : TreeIs W' h kind' x' u l') {K : Bool → Heap → Prop} (hk : ∀ h', Upd No h h' → K (decide (t = u)) h') : HC PG f_tree_One [trV t, trV u] [.c .bool] K h := by
  refine H_tree_One t u ?_
  unfold F_tree_One
  refine at_new fun h1 b1 k1 => at_new fun h2 b2 k2 => ?_
  have c1 := k2.get0 b1
  have p1 := (i.upd0 (k1.tr k2)).plain
  have p2 := (i'.upd0 (k1.tr k2)).plain
  refine ⟨_, vc c1 0, _, vc c1 1, _, vc c1 2, _, vc c1 3, _, vc c1 4, _, vc c1 5, _, vc b2 0, _, vc b2 1, _, vc b2 2, _, vc b2 3, _, vc b2 4, _, vc b2 5, ⟨⟨fun y z hy hz => ⟨p1.1 y hy, p2.1 z hz⟩, fun y z hy hz => ⟨p1.2 y hy, p2.2 z hz⟩, trivial⟩, ?_⟩⟩
  have e : ((t.1 == u.1) && ((((((t.2.1 == u.2.1) && ((t.2.2.1 == u.2.2.1) && true))) && ((t.2.2.2.1 == u.2.2.2.1) && true))) && ((t.2.2.2.2.1 == u.2.2.2.2.1) && ((t.2.2.2.2.2 == u.2.2.2.2.2) && true)))) = decide (t = u) := by
    obtain ⟨a, b, c, d, e, f⟩ := t
    obtain ⟨a', b', c', d', e', f'⟩ := u
    rw [Bool.eq_iff_iff]
    simp only [Bool.and_eq_true, beq_iff_eq, decide_eq_true_iff, Prod.mk.injEq, and_true]
    constructor
    · rintro ⟨h1, ⟨⟨h2, h3⟩, h4⟩, h5, h6⟩; exact ⟨h1, h2, h3, h4, h5, h6⟩
    · rintro ⟨h1, h2, h3, h4, h5, h6⟩; exact ⟨h1, ⟨⟨h2, h3⟩, h4⟩, h5, h6⟩
  rw [e]
  exact hk h2 (k1.tr k2)
end Go.Proofs
namespace Go.Proofs
open Go Go.Lift
abbrev zPrL : List Value := [.string (⟨#[]⟩ : ByteArray), .string (⟨#[]⟩ : ByteArray)]
/-- A variable of a pair, laid out and set. -/
theorem newPr {h : Heap} {t : TypeId} {p : Pr} {k : Heap → Prop} (hk : ∀ h', h'[h.size]? = some (.cells #[.string p.1, .string p.2] t (0, 0)) → Upd No h h' → k h') :
    At (hnew h [.string (⟨#[]⟩ : ByteArray), .string (⟨#[]⟩ : ByteArray)] t) fun h8 => WrS h8 (some (newA h)) 0 [.string p.1, .string p.2] ∧ At (hsetL h8 (newA h) 0 [.string p.1, .string p.2]) k := by
  refine at_new fun h1 b1 k1 => ?_
  exact setAll (c := zPrL) (vs := [.string p.1, .string p.2]) b1 rfl fun h2 b2 hu2 => hk h2 b2 (k1.own hu2 (Nat.le_refl _))
/-- One more pair behind one's own. -/
theorem append1p {t : TypeId} {M : Nat → Prop} {h : Heap} {so : SliceV} {out : List Pr} {p : Pr} {K : SliceV → Heap → Prop} (ho : OwnS prF 2 t M h so out) (hM : ∀ b, h.size ≤ b → M b) (hn : out.length + 1 ≤ 1000000000)
    (hk : ∀ s' h', OwnS prF 2 t M h' s' (out ++ [p]) → Upd M h h' → K s' h') :
    ∃ xs, SRow (hnew h [.string p.1, .string p.2] t) (some (newA h)) (1 * 2) xs ∧ AppP (some [.string (⟨#[]⟩ : ByteArray), .string (⟨#[]⟩ : ByteArray)]) 2 32 t so.a so.len so.cap 1 xs (hnew h [.string p.1, .string p.2] t) K := by
  have k := Upd.hnew No h [.string p.1, .string p.2] t
  have h1 : OwnS prF 2 t (fun _ => True) (hnew h [.string p.1, .string p.2] t) ⟨some (newA h), 1, 1⟩ [p] := ⟨rfl, prF_ne, Nat.le_refl _, .inr ⟨h.size, [], rfl, trivial, hnew_get .., rfl⟩⟩
  refine ⟨_, (h1.sl (W := No) fun _ _ _ h => h).srow, ?_⟩
  refine AppP.own (ys := [p]) (ho.upd k fun _ _ h => h) rfl rfl rfl rfl (by omega) (by simp only [List.length_singleton]; omega) (hM _ (by rw [hnew_size]; omega)) fun s' h' ho' hu => ?_
  exact hk s' h' ho' ((Upd.hnew M h _ _).tr hu)
theorem insR_app {p : Pr} : ∀ {A B : List Pr}, (∀ r ∈ A, kl r.1 p.1) → insR p (A ++ B) = A ++ insR p B
  | [], _, _ => rfl
  | r :: A, B, h => by
    rw [List.cons_append, insR_cons, if_pos (h r (List.mem_cons_self ..)), insR_app fun q hq => h q (List.mem_cons_of_mem _ hq)]; rfl
theorem insR_end {p q : Pr} : ∀ {A : List Pr}, (∃ r ∈ A, kl p.1 r.1) → insR p (A ++ [q]) = insR p A ++ [q]
  | [], h => by obtain ⟨r, hr, _⟩ := h; simp at hr
  | r :: A, h => by
    rw [List.cons_append, insR_cons, insR_cons]
    by_cases h1 : kl r.1 p.1
    · rw [if_pos h1, if_pos h1, insR_end]
      · rfl
      · obtain ⟨r', hr', hk⟩ := h
        rcases List.mem_cons.1 hr' with rfl | hr'
        · exact absurd (kl_trans h1 hk) (kl_irrefl _)
        · exact ⟨r', hr', hk⟩
    · rw [if_neg h1, if_neg h1]
      by_cases h2 : r.1 = p.1
      · rw [if_pos h2, if_pos h2]; rfl
      · rw [if_neg h2, if_neg h2]; rfl
theorem insR_low {p : Pr} : ∀ {l : List Pr}, (∀ q ∈ l, kl p.1 q.1) → insR p l = p :: l
  | [], _ => rfl
  | q :: l, h => by
    have h1 := h q (List.mem_cons_self ..)
    rw [insR_cons, if_neg fun h2 => kl_irrefl _ (kl_trans h1 h2), if_neg fun e => by rw [e] at h1; exact kl_irrefl _ h1]
theorem insR_drop {p : Pr} : ∀ {l : List Pr}, Rises l → insR p (l.filter fun q => decide (q.1 ≠ p.1)) = insR p l
  | [], _ => rfl
  | r :: l, hr => by
    have hr := List.pairwise_cons.1 hr
    have keep : ∀ {l : List Pr}, (∀ q ∈ l, kl p.1 q.1) → (l.filter fun q => decide (q.1 ≠ p.1)) = l := fun {l} h => List.filter_eq_self.2 fun q hq => decide_eq_true fun e => by have := h q hq; rw [e] at this; exact kl_irrefl _ this
    rw [List.filter_cons, insR_cons]
    by_cases e : r.1 = p.1
    · have hl : ∀ q ∈ l, kl p.1 q.1 := fun q hq => by rw [← e]; exact hr.1 q hq
      rw [if_neg (by simp [e]), if_neg (by rw [e]; exact kl_irrefl _), if_pos e, keep hl, insR_low hl]
    · rw [if_pos (by simpa using e), insR_cons]
      by_cases h1 : kl r.1 p.1
      · rw [if_pos h1, if_pos h1, insR_drop hr.2]
      · rw [if_neg h1, if_neg h1, if_neg e, if_neg e]
        have h2 := kl_tri h1 e
        rw [keep fun q hq => kl_trans h2 (hr.1 q hq)]
theorem wrap_succB {i n : Nat} (h : i < n) (hn : n ≤ 9223372036854775807) : IntKind.wrap .i64 ((i : Int) + 1) = ((i + 1 : Nat) : Int) := by rw [Go.IntWalk.i64_in _ (by omega)]; omega
theorem insR_len1 (p : Pr) : ∀ {l : List Pr}, (insR p l).length ≤ l.length + 1
  | [] => Nat.le_refl _
  | q :: l => by
    rw [insR_cons]; split
    · have := insR_len1 p (l := l); simp only [List.length_cons]; omega
    · split <;> simp
theorem like_same {W W' : Nat → Prop} {h h' : Heap} {kind : Int} {x : Hs} {t u : Tr} {l l' : List Pr} (i : TreeIs W h kind x t l) (i' : TreeIs W' h' kind x u l') : likeB t u = true := by
  rcases i with ⟨rfl, b, rfl, _⟩ | ⟨rfl, b, rfl, _⟩ <;> rcases i' with ⟨e, b', rfl, _⟩ | ⟨e, b', rfl, _⟩
  · simp [likeB]
  · cases e
  · cases e
  · simp [likeB]
theorem likeB_self (t : Tr) : likeB t t = true := by simp [likeB]
theorem kind2 {k : Int} (h0 : 0 ≤ k) (h1 : k ≤ 255) : IntKind.wrap .i64 (Int.tmod k 2) = 0 ∨ IntKind.wrap .i64 (Int.tmod k 2) = 1 := by
  have : Int.tmod k 2 = k % 2 := Int.tmod_eq_emod_of_nonneg h0
  rw [this, w64 (by omega)]; omega
abbrev hsL (x : Hs) : List Value := [.int .u64 x.k0, .int .u64 x.k1, .int .u64 x.mask]
end Go.Proofs
namespace Go.Proofs
open Go Go.Lift
abbrev Wk := Option Addr × ByteArray × Bool
abbrev wkF (x : Wk) : List Value := [.pointer x.1, .string x.2.1, .bool x.2.2]
theorem wkF_ne (x : Wk) : (wkF x).length = 3 ∧ 0 < 3 := ⟨rfl, by omega⟩
theorem one_wkF : ∀ xs : List Wk, oneCell (xs.flatMap wkF) = true
  | [] => rfl
  | x :: xs => by rw [List.flatMap_cons]; exact oneCell_join rfl (one_wkF xs)
theorem set_eq {α : Type} {l : List α} {i : Nat} (hi : i < l.length) (x : α) : l.take i ++ x :: l.drop (i + 1) = l.set i x := by rw [List.set_eq_take_append_cons_drop, if_pos hi]
theorem reverse_ok {M : Nat → Prop} {h : Heap} {s : SliceV} {xs : List Wk} (ho : OwnS wkF 3 t_span_work M h s xs) (hn : xs.length ≤ 1000000000) {K : Unit → Heap → Prop} (hk : ∀ h', OwnS wkF 3 t_span_work M h' s xs.reverse → Upd M h h' → K () h') : HC PG f_slices_Reverse_A_span_work_span_work [.slice s.a s.len s.cap] [] K h := by
  refine H_slices_Reverse_A_span_work_span_work s ?_
  unfold F_slices_Reverse_A_span_work_span_work
  have hlen := ho.len
  have ej : IntKind.wrap .i64 ((s.len : Int) - 1) = (xs.length : Int) - 1 - ((0 : Nat) : Int) := by rw [w64 (by omega)]; omega
  rw [ej]
  refine LoopP.ghost (fun (i : Nat) (t : Int × Int) h' => t.1 = (i : Int) ∧ t.2 = (xs.length : Int) - 1 - (i : Int) ∧ i ≤ xs.length ∧ (∃ ys, OwnS wkF 3 t_span_work M h' s ys ∧ ys.length = xs.length ∧ ∀ k, k < xs.length → ys[k]? = if k < i ∨ xs.length - i ≤ k then xs[xs.length - 1 - k]? else xs[k]?) ∧ Upd M h h') (fun i => xs.length - i) 0
    ⟨rfl, rfl, Nat.zero_le _, ⟨xs, ho, rfl, fun k hk => by rw [if_neg (by omega)]⟩, Upd.refl _ _⟩ ?_
  rintro I i ⟨ti, tj⟩ h' ⟨e1, e2, hi, ⟨ys, hy, hyl, hys⟩, hu⟩ hI
  simp only at e1 e2
  subst e1 e2
  refine condP_dec (fun hlt => ?_) fun hge => ?_
  · have hlt : 2 * i + 1 < xs.length := by have : (i : Int) < (xs.length : Int) - 1 - (i : Int) := hlt; omega
    obtain ⟨j, hj⟩ : ∃ j : Nat, (xs.length : Int) - 1 - (i : Int) = (j : Int) := ⟨xs.length - 1 - i, by omega⟩
    have hjn : j = xs.length - 1 - i := by omega
    simp only
    rw [hj]
    have hiy : i < ys.length := by omega
    have hjy : j < ys.length := by omega
    have sl := hy.sl (W := No) fun _ _ _ h => h
    obtain ⟨a, ha, _, hv⟩ := sl.at (List.getElem?_eq_getElem hjy)
    obtain ⟨a', ha', _, hv'⟩ := sl.at (List.getElem?_eq_getElem hiy)
    rw [ha] at ha'; cases ha'
    refine ⟨⟨by omega, by omega⟩, a, ha, ys[j].1, hv 0 _ rfl, ys[j].2.1, hv 1 _ rfl, ys[j].2.2, hv 2 _ rfl, ⟨by omega, by omega⟩, a, ha, ys[i].1, hv' 0 _ rfl, ys[i].2.1, hv' 1 _ rfl, ys[i].2.2, hv' 2 _ rfl, ⟨by omega, by omega⟩, ?_⟩
    obtain ⟨b, hb, hbM, hw, ho1, hu1⟩ := OwnS.setAt hy hiy ys[j]
    rw [ha] at hb; cases hb
    rw [set_eq hiy] at ho1
    refine ⟨a, ha, hw, at_intro ⟨⟨by omega, by omega⟩, a, ha, ?_⟩⟩
    obtain ⟨b, hb, _, hw2, ho2, hu2⟩ := OwnS.setAt ho1 (k := j) (by rw [List.length_set]; omega) ys[i]
    rw [ha] at hb; cases hb
    rw [set_eq (by rw [List.length_set]; omega)] at ho2
    refine ⟨hw2, at_intro ?_⟩
    rw [wrap_succ (n := xs.length) (by omega) (by omega)]
    have ej2 : IntKind.wrap .i64 ((j : Int) - 1) = (xs.length : Int) - 1 - ((i + 1 : Nat) : Int) := by rw [w64 (by omega)]; omega
    rw [ej2]
    refine hI (i + 1) _ _ ⟨rfl, rfl, by omega, ⟨_, ho2, by rw [List.length_set, List.length_set]; exact hyl, fun k hk => ?_⟩, ?_⟩ (by omega)
    · rw [List.getElem?_set, List.length_set]
      have ei := hys i (by omega)
      have ejj := hys j (by omega)
      rw [if_neg (by omega), List.getElem?_eq_getElem hiy] at ei
      rw [if_neg (by omega), List.getElem?_eq_getElem hjy] at ejj
      by_cases h1 : j = k
      · rw [if_pos h1, if_pos hjy, if_pos (by omega), ei]
        congr 1; omega
      · rw [if_neg h1, List.getElem?_set]
        by_cases h2 : i = k
        · rw [if_pos h2, if_pos hiy, if_pos (by omega), ejj]
          congr 1; omega
        · rw [if_neg h2, hys k hk]
          by_cases h3 : k < i ∨ xs.length - i ≤ k
          · rw [if_pos h3, if_pos (by omega)]
          · rw [if_neg h3, if_neg (by omega)]
    · exact (hu.trans hu1 fun y hy => .inl (by have hy : y = a.block := hy; rw [hy]; exact hbM)).trans hu2 fun y hy => .inl (by have hy : y = a.block := hy; rw [hy]; exact hbM)
  · have hge : xs.length ≤ 2 * i + 1 := by have : ¬ (i : Int) < (xs.length : Int) - 1 - (i : Int) := hge; omega
    have e : ys = xs.reverse := by
      apply List.ext_getElem?
      intro k
      by_cases hk : k < xs.length
      · rw [hys k hk, List.getElem?_reverse hk]
        by_cases h3 : k < i ∨ xs.length - i ≤ k
        · rw [if_pos h3]
        · rw [if_neg h3]; congr 1; omega
      · rw [List.getElem?_eq_none (by omega), List.getElem?_eq_none (by rw [List.length_reverse]; omega)]
    subst e
    exact hk _ hy hu
/-- The last one is taken off. -/
theorem OwnS.pop {α : Type} {f : α → List Value} {sz : Nat} {t : TypeId} {M : Nat → Prop} {h : Heap} {s : SliceV} {xs : List α} {x : α} (ho : OwnS f sz t M h s (xs ++ [x])) : OwnS f sz t M h ⟨subAddr s.a 0 s.cap sz, xs.length, s.cap⟩ xs := by
  have hl := ho.len
  have hc := ho.cap
  rw [List.length_append, List.length_singleton] at hl
  refine ⟨rfl, ho.ne, by simp only; omega, ho.blk.imp id fun ⟨b, rest, ha, hb, hcell, hr⟩ => ⟨b, f x ++ rest, ?_, hb, ?_, ?_⟩⟩
  · simp only; rw [ha, sub_zero]
  · rw [hcell, List.flatMap_append, List.flatMap_cons, List.flatMap_nil, List.append_nil, List.append_assoc]
  · rw [List.length_append, (ho.ne x).1, hr]
    simp only
    have : s.cap - xs.length = (s.cap - s.len) + 1 := by omega
    rw [this, Nat.add_mul]; omega
/-- Work that is still to come. -/
structure It where
  b : Nat
  ah : ByteArray
  own : Bool
  sl : ByteArray
  w : Option ByteArray
  F : Fo
def It.raw (i : It) : Wk := (some ⟨i.b, 0, none⟩, i.ah, i.own)
def It.key (i : It) : List UInt8 := i.ah.data.toList ++ i.sl.data.toList
/-- The pairs that it still gives. -/
def It.prs (i : It) : List (List UInt8 × ByteArray) := if i.own then (i.w.map fun v => (i.key, v)).toList else (prsR i.w i.F).map fun p => (i.key ++ p.1, p.2)
def It.cost (i : It) : Nat := if i.own then 1 else 2 + 2 * cntF i.F
def remP (l : List It) : List (List UInt8 × ByteArray) := l.reverse.flatMap It.prs
def costP (l : List It) : Nat := (l.map It.cost).sum
theorem remP_snoc (l : List It) (i : It) : remP (l ++ [i]) = i.prs ++ remP l := by unfold remP; rw [List.reverse_append]; rfl
theorem costP_app (l m : List It) : costP (l ++ m) = costP l + costP m := by unfold costP; rw [List.map_append, List.sum_append]
theorem remP_app (l m : List It) : remP (l ++ m) = remP m ++ remP l := by unfold remP; rw [List.reverse_append, List.flatMap_append]
end Go.Proofs
namespace Go.Proofs
open Go Go.Lift
/-- build.hashed: a pair, and its key's hash. -/
abbrev hzF (z : Hs) (p : Pr) : List Value := [.string p.1, .string p.2, .int .u64 (hashV z p.1)]
theorem hzF_ne (z : Hs) (p : Pr) : (hzF z p).length = 3 ∧ 0 < 3 := ⟨rfl, by omega⟩
theorem one_hzF (z : Hs) : ∀ xs : List Pr, oneCell (xs.flatMap (hzF z)) = true
  | [] => rfl
  | x :: xs => by rw [List.flatMap_cons]; exact oneCell_join rfl (one_hzF z xs)
section
variable {α : Type} {f : α → List Value} {sz : Nat} {t : TypeId} {M : Nat → Prop} {h : Heap} {s : SliceV} {P Q : List α} {x : α}
theorem readApp (ho : OwnS f sz t M h s (P ++ x :: Q)) {i : Nat} (hi : i = P.length) : ∃ a, s.a = some a ∧ ∀ j v, (f x)[j]? = some v → hcell h (adr (adr a (i * sz)) j) = some v := by
  obtain ⟨a, ha, _, hv⟩ := (ho.sl (W := No) fun _ _ _ h => h).at (i := i) (x := x) (by rw [hi, List.getElem?_append_right (Nat.le_refl _), Nat.sub_self]; rfl)
  exact ⟨a, ha, hv⟩
theorem setApp (ho : OwnS f sz t M h s (P ++ x :: Q)) (y : α) {a : Addr} (ha : s.a = some a) {i : Nat} (hi : i = P.length) {G : Heap → Prop} (hk : ∀ h', OwnS f sz t M h' s (P ++ y :: Q) → Upd M h h' → G h') :
    WrS h (some (adr a (i * sz))) 0 (f y) ∧ At (hsetL h (adr a (i * sz)) 0 (f y)) G := by
  obtain ⟨a', ha', hM, hw, ho', hu⟩ := OwnS.setAt ho (k := i) (by rw [hi, List.length_append, List.length_cons]; omega) y
  rw [ha] at ha'; cases ha'
  refine ⟨hw, at_intro (hk _ ?_ (hu.mono fun b hb => .inl (by have hb : b = a.block := hb; rw [hb]; exact hM)))⟩
  subst hi
  have e1 : (P ++ x :: Q).take P.length = P := List.take_left
  have e2 : (P ++ x :: Q).drop (P.length + 1) = Q := by rw [← List.drop_drop, List.drop_left]; rfl
  rw [e1, e2] at ho'
  exact ho'
end
theorem readGet {α : Type} {f : α → List Value} {sz : Nat} {t : TypeId} {M : Nat → Prop} {h : Heap} {s : SliceV} {xs : List α} {x : α} (ho : OwnS f sz t M h s xs) {i : Nat} (hi : xs[i]? = some x) : ∃ a, s.a = some a ∧ ∀ j v, (f x)[j]? = some v → hcell h (adr (adr a (i * sz)) j) = some v := by
  obtain ⟨a, ha, _, hv⟩ := (ho.sl (W := No) fun _ _ _ h => h).at hi
  exact ⟨a, ha, hv⟩
theorem get_skip {α : Type} {A U X : List α} {i : Nat} (hi : A.length + U.length ≤ i) : (A ++ (U ++ X))[i]? = X[i - A.length - U.length]? := by
  rw [List.getElem?_append_right (by omega), List.getElem?_append_right (by omega)]
theorem get_in {α : Type} {A U V B : List α} {i k : Nat} {x : α} (hi : A.length + U.length + k = i) (hk : V[k]? = some x) : (A ++ (U ++ (V ++ B)))[i]? = some x := by
  rw [get_skip (by omega), show i - A.length - U.length = k by omega, List.getElem?_append_left (List.getElem?_eq_some_iff.1 hk).1]; exact hk
theorem get_mid {α : Type} {A U X : List α} {i k : Nat} {x : α} (hi : A.length + k = i) (hk : U[k]? = some x) : (A ++ (U ++ X))[i]? = some x := by
  rw [List.getElem?_append_right (by omega), show i - A.length = k by omega, List.getElem?_append_left (List.getElem?_eq_some_iff.1 hk).1]; exact hk
theorem half_eq {i j : Nat} (h : i + j ≤ 4000000000) : IntKind.wrap .i64 (Int.fdiv (IntKind.wrap .u64 (IntKind.wrap .i64 ((i : Int) + (j : Int)))) (2 ^ (min (1 : Int).toNat (IntKind.bits .u64)))) = (((i + j) / 2 : Nat) : Int) := by
  have e3 : (2 ^ (min (1 : Int).toNat (IntKind.bits .u64)) : Int) = 2 := rfl
  rw [e3, w64 (x := (i : Int) + (j : Int)) (by omega), Go.IntWalk.u64_in _ (by omega), Int.fdiv_eq_ediv_of_nonneg _ (by omega), w64 (by omega)]
  omega
theorem srt_le {α : Type} {lt : α → α → Bool} (w : WO lt) {l : List α} (h : Srt lt l) {i j : Nat} (hij : i ≤ j) {x y : α} (hx : l[i]? = some x) (hy : l[j]? = some y) : lt y x = false := by
  obtain ⟨hi, rfl⟩ := List.getElem?_eq_some_iff.1 hx
  obtain ⟨hj, rfl⟩ := List.getElem?_eq_some_iff.1 hy
  rcases Nat.lt_or_ge i j with h1 | h1
  · exact List.pairwise_iff_getElem.1 h i j hi hj h1
  · have : i = j := by omega
    subst this; exact w.irr _
theorem eq_snoc {α : Type} (l : List α) : l = [] ∨ ∃ l' y, l = l' ++ [y] := by
  rcases List.eq_nil_or_concat l with h | ⟨l', y, h⟩
  · exact .inl h
  · exact .inr ⟨l', y, by rw [h, List.concat_eq_append]⟩
/-- What a comparison that is handed over tells. -/
structure Cmp {α : Type} (lt : α → α → Bool) (f : α → List Value) (M : Nat → Prop) (Iv : Heap → Prop) (V : Value) : Prop where
  call : ∀ (a b : α) {h : Heap} {K : Int → Heap → Prop}, Iv h → (∀ h' e, Upd No h h' → decide (e < 0) = lt a b → K e h') → HV PG V [.agg (f a).toArray, .agg (f b).toArray] [.c (.int .i64)] K h
  step : ∀ {h h' : Heap}, Upd M h h' → Iv h → Iv h'
end Go.Proofs
