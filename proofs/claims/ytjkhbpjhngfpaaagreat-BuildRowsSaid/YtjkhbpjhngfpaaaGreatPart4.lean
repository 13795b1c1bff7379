/- A part of the proof that the named laws of this program answer true, whatever the input. -/
import Derived.Test.YtjkhbpjhngfpaaaGreatPart3
import Derived.Test.YtjkhbpjhngfpaaaGreatLift3
namespace Go.Proofs
open Go Go.Lift
theorem mem_ins_iff {p q : Pr} : ∀ {l : List Pr}, Rises l → (q ∈ insR p l ↔ q = p ∨ (q ∈ l ∧ q.1 ≠ p.1))
  | [], _ => by simp [insR]
  | r :: l, hr => by
    have hr := List.pairwise_cons.1 hr
    rw [insR_cons]
    by_cases h1 : kl r.1 p.1
    · have hne : r.1 ≠ p.1 := fun e => by rw [e] at h1; exact kl_irrefl _ h1
      rw [if_pos h1, List.mem_cons, List.mem_cons, mem_ins_iff hr.2]
      constructor
      · rintro (rfl | h | ⟨h, h'⟩)
        · exact .inr ⟨.inl rfl, hne⟩
        · exact .inl h
        · exact .inr ⟨.inr h, h'⟩
      · rintro (h | ⟨h | h, h'⟩)
        · exact .inr (.inl h)
        · exact .inl h
        · exact .inr (.inr ⟨h, h'⟩)
    · rw [if_neg h1]
      by_cases h2 : r.1 = p.1
      · rw [if_pos h2, List.mem_cons, List.mem_cons]
        constructor
        · rintro (h | h)
          · exact .inl h
          · refine .inr ⟨.inr h, fun e => ?_⟩
            have := hr.1 q h
            rw [e, h2] at this; exact kl_irrefl _ this
        · rintro (h | ⟨rfl | h, h'⟩)
          · exact .inl h
          · exact absurd h2 h'
          · exact .inr h
      · rw [if_neg h2, List.mem_cons, List.mem_cons]
        have h3 := kl_tri h1 h2
        constructor
        · rintro (h | rfl | h)
          · exact .inl h
          · exact .inr ⟨.inl rfl, h2⟩
          · refine .inr ⟨.inr h, fun e => ?_⟩
            have := kl_trans h3 (hr.1 q h)
            rw [e] at this; exact kl_irrefl _ this
        · rintro (h | ⟨rfl | h, h'⟩)
          · exact .inl h
          · exact .inr (.inl rfl)
          · exact .inr (.inr h)
def RadRoot (W : Nat → Prop) (h : Heap) (r : Option Addr) (l : List Pr) : Prop := (r = none ∧ l = []) ∨ ∃ b, r = some ⟨b, 0, none⟩ ∧ RadAt W h b l
theorem RadRoot.upd0 {W : Nat → Prop} {h h' : Heap} {r : Option Addr} {l : List Pr} (k : Upd No h h') (t : RadRoot W h r l) : RadRoot W h' r l := t.imp id fun ⟨b, e, t⟩ => ⟨b, e, t.upd0 k⟩
theorem bytes_list {a b : ByteArray} : a.data.toList = b.data.toList ↔ a = b := by
  constructor
  · intro h; cases a; cases b; exact congrArg ByteArray.mk (Array.toList_inj.1 h)
  · rintro rfl; rfl
theorem rxEmpty_ok {W : Nat → Prop} {h : Heap} (hW : ∀ y, W y → y < h.size) {K : Option Addr → Heap → Prop} (hk : ∀ h' b, RadAt W h' b [] → Upd No h h' → K (some ⟨b, 0, none⟩) h') : HC PG f_radix_Empty [] [.c .ptr] K h := by
  refine H_radix_Empty ?_
  unfold F_radix_Empty
  refine at_intro (hk _ h.size ⟨none, .nil, ⟨⟨#[]⟩, ⟨none, 0, 0⟩, none, [], hnew_get h rx0 t_radix_Node, fun v h => (by cases h), Sl.nil rxF_ne, ⟨Nat.le_refl _, fun hx => Nat.lt_irrefl _ (hW _ hx)⟩, rfl⟩, trivial, fun k v => ?_⟩ (Upd.hnew No h _ _))
  simp [prsR, prsF]
theorem rxSome_ok {W : Nat → Prop} {h : Heap} {r : Option Addr} {l : List Pr} (t : RadRoot W h r l) (hW : ∀ y, W y → y < h.size) {K : Option Addr → Heap → Prop} (hk : ∀ h' b, RadAt W h' b l → Upd No h h' → (r = some ⟨b, 0, none⟩ ∨ r = none) → K (some ⟨b, 0, none⟩) h') : HC PG f_radix_some [.pointer r] [.c .ptr] K h := by
  refine H_radix_some r ?_
  unfold F_radix_some
  rcases t with ⟨rfl, rfl⟩ | ⟨b, rfl, t⟩
  · exact condP_true.2 (rxEmpty_ok hW fun h' b t hu => hk h' b t hu (.inr rfl))
  · exact condP_false.2 (hk h b t (Upd.refl _ _) (.inl rfl))
theorem radixPut_ok {W : Nat → Prop} {h : Heap} {r : Option Addr} {l : List Pr} (t : RadRoot W h r l) (hW : ∀ y, W y → y < h.size) (hr : Rises l) (p : Pr) (hp : p.1.size ≤ 1000000) {K : Option Addr × Bool → Heap → Prop}
    (hk : ∀ h' b' added, Upd No h h' → RadAt W h' b' (insR p l) → (p ∈ l → r = some ⟨b', 0, none⟩ ∨ r = none) → K (some ⟨b', 0, none⟩, added) h') :
    HC PG f_radix_Put [.pointer none, .pointer r, .agg #[.string p.1, .string p.2]] [.c .ptr, .c .bool] K h := by
  refine H_radix_Put none r p ?_
  unfold F_radix_Put
  have k1 := Upd.hnew No h [.string p.1, .string p.2] t_pair_Pair
  have b1 := hnew_get h [.string p.1, .string p.2] t_pair_Pair
  refine at_intro ?_
  simp only [newA_eq h]
  generalize hnew h [.string p.1, .string p.2] t_pair_Pair = h1 at k1 b1
  have w1 : ∀ {h' : Heap}, Upd No h1 h' → ∀ i, hcell h' (adr ⟨h.size, 0, none⟩ i) = (#[.string p.1, .string p.2] : Array Value)[i]? := fun k i => by rw [adr_mk, hcell_blk (k.get0 b1), Nat.zero_add]
  have r0 := Upd.refl No h1
  refine ⟨p.1, w1 r0 0, p.2, w1 r0 1, rxSome_ok (t.upd0 k1) (fun y hy => Nat.lt_of_lt_of_le (hW y hy) k1.size) fun h2 b t2 hu2 hb => ⟨w1 hu2 1, w1 hu2 0, ?_⟩⟩
  obtain ⟨w, F, r1, r2, r3⟩ := t2.ex
  refine rxPut_ok (p.1.size + 1) p.1 p.2 (by omega) hp r1 (fun y hy => Nat.lt_of_lt_of_le (hW y hy) (k1.tr hu2).size) r2 fun h3 b3 w' F' added ch hu3 rn3 hc3 hp3 hsm hch => ?_
  refine hk h3 b3 added ((k1.tr hu2).tr hu3) ⟨w', F', rn3, hc3, fun k v => ?_⟩ fun hm => ?_
  · rw [mem_prsR, hp3 k v, ← mem_prsR, r3 k v]
    constructor
    · rintro (⟨rfl, rfl⟩ | ⟨hne, q, hq, rfl, rfl⟩)
      · exact ⟨p, (mem_ins_iff hr).2 (.inl rfl), rfl, rfl⟩
      · exact ⟨q, (mem_ins_iff hr).2 (.inr ⟨hq, fun e => hne (by rw [e])⟩), rfl, rfl⟩
    · rintro ⟨q, hq, rfl, rfl⟩
      rcases (mem_ins_iff hr).1 hq with rfl | ⟨hq, hne⟩
      · exact .inl ⟨rfl, rfl⟩
      · exact .inr ⟨fun e => hne (bytes_list.1 e), q, hq, rfl, rfl⟩
  · have := hch (mem_prsR.1 ((r3 _ _).2 ⟨p, hm, rfl, rfl⟩))
    rw [(hsm this).1]; exact hb
def RadV (l : List Pr) (xs : List UInt8) : Prop := ∃ w F, CanF F ∧ prsR w F = toU l ∧ xs = shapeN ([], w, F)
theorem fit_root {w : Option ByteArray} {F : Fo} {l : List Pr} (hc : CanF F) (hp : prsR w F = toU l) (hf : Fit l) : FitF F ∧ ∀ v, w = some v → v.size ≤ 10000 := by
  have hm : ∀ k v, InR w F k v → k.length ≤ 10000 ∧ v.size ≤ 10000 := fun k v hi => by
    have := mem_prsR.2 hi
    rw [hp] at this
    obtain ⟨q, hq, e⟩ := List.mem_map.1 this
    cases e
    have := hf q hq
    exact ⟨by simpa using this.1, this.2⟩
  exact ⟨fit_of hc fun k v hi => hm k v (.inr hi), fun v hv => (hm [] v (.inl ⟨rfl, hv⟩)).2⟩
theorem radV_eq {l l' : List Pr} {xs xs' : List UInt8} (h : RadV l xs) (h' : RadV l' xs') (hf : Fit l) (hf' : Fit l') : xs = xs' ↔ l = l' := by
  obtain ⟨w, F, c, e, rfl⟩ := h
  obtain ⟨w', F', c', e', rfl⟩ := h'
  have f1 := fit_root c e hf
  have f2 := fit_root c' e' hf'
  constructor
  · intro hx
    have hx : shapeN ([], w, F) ++ [] = shapeN ([], w', F') ++ [] := by rw [hx]
    unfold shapeN at hx
    simp only [List.append_assoc] at hx
    obtain ⟨_, e2, e3, hx⟩ := nodeV_inj (Nat.zero_le _) (Nat.zero_le _) f1.2 f2.2 (can_len c) (can_len c') hx
    obtain ⟨e4, _⟩ := shapeF_inj f1.1 f2.1 e3 hx
    exact toU_inj (by rw [← e, ← e', e2, e4])
  · rintro rfl
    obtain ⟨e2, e4⟩ := root_inj c c' (e.trans e'.symm)
    rw [e2, e4]
theorem radV_len {l : List Pr} {xs : List UInt8} (h : RadV l xs) (hf : Fit l) : xs.length ≤ 20010 + 2 * l.length * 20010 := by
  obtain ⟨w, F, c, e, rfl⟩ := h
  have f1 := fit_root c e hf
  have h1 := nodeV_len (lab := []) (n := F.toL.length) (Nat.zero_le _) f1.2
  have h2 := shapeF_len f1.1
  have h3 := cntF_le c
  have h4 := congrArg List.length e
  unfold prsR toU at h4
  rw [List.length_append, List.length_map] at h4
  have h5 : cntF F * 20010 ≤ 2 * l.length * 20010 := Nat.mul_le_mul_right _ (by omega)
  unfold shapeN
  rw [List.length_append]
  simp only
  omega
theorem radShape_ok {W : Nat → Prop} {h : Heap} {b : Nat} {l : List Pr} (t : RadAt W h b l) (hr : Rises l) (hf : Fit l) (hn : l.length ≤ 60000) {K : SliceV → Heap → Prop}
    (hk : ∀ s' h' xs, RadV l xs → OwnS byF 1 t_u8 (fun y => h.size ≤ y) h' s' xs → Upd No h h' → K s' h') : HC PG f_radix_Shape [.pointer (some ⟨b, 0, none⟩)] [.c .slice] K h := by
  refine H_radix_Shape _ ?_
  unfold F_radix_Shape
  refine condP_false.2 ?_
  obtain ⟨w, F, r1, r2, r3⟩ := t.ex
  have hp := rad_prs r2 hr r3
  have f1 := fit_root r2 hp hf
  have hv : RadV l (shapeN ([], w, F)) := ⟨w, F, r2, hp, rfl⟩
  have hl := radV_len hv hf
  exact shp_of (lab := []) (Nat.zero_le _) f1.2 (can_len r2) (shp_all f1.1) (s := ⟨none, 0, 0⟩) (xs := []) (M := fun y => h.size ≤ y) r1 rfl (Upd.refl _ _) (fun _ h => h) (OwnS.nil byF_ne) (fun _ h => h) (by rw [List.length_nil]; omega) fun s' h' ho hu => hk s' h' _ hv ho (hu.mono fun y hy => .inr hy)
end Go.Proofs
namespace Go.Proofs
open Go Go.Lift
theorem at_new {h : Heap} {cs : List Value} {t : TypeId} {k : Heap → Prop} (hk : ∀ h', h'[h.size]? = some (.cells cs.toArray t (0, 0)) → Upd No h h' → k h') : At (hnew h cs t) k :=
  at_intro (hk _ (hnew_get h cs t) (Upd.hnew No h cs t))
theorem vc {h : Heap} {b : Nat} {c : Array Value} {t : TypeId} (hb : h[b]? = some (.cells c t (0, 0))) (i : Nat) : hcell h (adr ⟨b, 0, none⟩ i) = c[i]? := by rw [adr_mk, Nat.zero_add]; exact hcell_blk hb
theorem vc2 {h : Heap} {b : Nat} {c : Array Value} {t : TypeId} (hb : h[b]? = some (.cells c t (0, 0))) (i j : Nat) : hcell h (adr (adr ⟨b, 0, none⟩ i) j) = c[i + j]? := by rw [adr_mk, adr_mk, Nat.zero_add]; exact hcell_blk hb
theorem vset {h : Heap} {b i : Nat} {c c' : Array Value} {t : TypeId} {v : Value} {k : Heap → Prop} (hb : h[b]? = some (.cells c t (0, 0))) (hi : i < c.size) (e : c.setIfInBounds i v = c') (hk : ∀ h', h'[b]? = some (.cells c' t (0, 0)) → Upd (· = b) h h' → k h') : Wr h (adr ⟨b, 0, none⟩ i) ∧ At (hset h (adr ⟨b, 0, none⟩ i) v) k := by
  rw [adr_mk, Nat.zero_add]
  exact ⟨wr_blk hb hi, at_set hb fun h' hb' hu => hk h' (e ▸ hb') hu⟩
theorem _root_.Go.Lift.Upd.own {h h1 h2 : Heap} {b : Nat} (k : Upd No h h1) (hu : Upd (· = b) h1 h2) (hb : h.size ≤ b) : Upd No h h2 := k.trans hu fun x hx => .inr (by have hx : x = b := hx; omega)
theorem _root_.Go.Lift.Upd.oth {h h' : Heap} {b c : Nat} {o : Obj} (hu : Upd (· = b) h h') (hc : h[c]? = some o) (hne : c ≠ b) : h'[c]? = some o := hu.get hc hne
abbrev Tr := Int × Int × Int × Int × (Option Addr) × (Option Addr)
abbrev trL (t : Tr) : List Value := [.int .i64 t.1, .int .u64 t.2.1, .int .u64 t.2.2.1, .int .u64 t.2.2.2.1, .pointer t.2.2.2.2.1, .pointer t.2.2.2.2.2]
abbrev trV (t : Tr) : Value := .agg #[.int .i64 t.1, .int .u64 t.2.1, .int .u64 t.2.2.1, .int .u64 t.2.2.2.1, .pointer t.2.2.2.2.1, .pointer t.2.2.2.2.2]
def Pro (W : Nat → Prop) (h h2 : Heap) (y : Nat) : Prop := W y ∨ (h.size ≤ y ∧ y < h2.size)
theorem Pro.lt {W : Nat → Prop} {h h2 : Heap} (hW : ∀ y, W y → y < h.size) (k : Upd No h h2) : ∀ y, Pro W h h2 y → y < h2.size := fun y hy => hy.elim (fun h => Nat.lt_of_lt_of_le (hW y h) k.size) fun h => h.2
theorem Pro.hm {W : Nat → Prop} {h h2 : Heap} : ∀ y, Pro W h h2 y → W y ∨ h.size ≤ y := fun _ hy => hy.imp id fun h => h.1
theorem Pro.sub {W : Nat → Prop} {h h2 h3 : Heap} : ∀ y, W y → Pro W h h2 y ∨ h3.size ≤ y := fun _ hy => .inl (.inl hy)
theorem RootAt.less {W W' : Nat → Prop} {x : Hs} {h : Heap} (hm : ∀ b, W' b → W b ∨ h.size ≤ b) {r : Option Addr} {l : List Pr} (t : RootAt W x h r l) : RootAt W' x h r l := t.imp id fun ⟨b, e, t⟩ => ⟨b, e, TrieAt.less hm t⟩
theorem RadRoot.less {W W' : Nat → Prop} {h : Heap} (hm : ∀ b, W' b → W b ∨ h.size ≤ b) {r : Option Addr} {l : List Pr} (t : RadRoot W h r l) : RadRoot W' h r l := t.imp id fun ⟨b, e, t⟩ => ⟨b, e, t.less hm⟩
def TreeIs (W : Nat → Prop) (h : Heap) (kind : Int) (x : Hs) (t : Tr) (l : List Pr) : Prop := (kind = 0 ∧ ∃ b, t = (0, x.k0, x.k1, x.mask, some ⟨b, 0, none⟩, none) ∧ TrieAt W x h 13 b l) ∨ (kind = 1 ∧ ∃ b, t = (1, 0, 0, 0, none, some ⟨b, 0, none⟩) ∧ RadAt W h b l)
theorem TreeIs.upd0 {W : Nat → Prop} {h h' : Heap} {kind : Int} {x : Hs} {t : Tr} {l : List Pr} (k : Upd No h h') (i : TreeIs W h kind x t l) : TreeIs W h' kind x t l :=
  i.imp (fun ⟨e, b, e2, t⟩ => ⟨e, b, e2, TrieAt.upd0 k t⟩) fun ⟨e, b, e2, t⟩ => ⟨e, b, e2, t.upd0 k⟩
theorem TreeIs.less {W W' : Nat → Prop} {h : Heap} (hm : ∀ b, W' b → W b ∨ h.size ≤ b) {kind : Int} {x : Hs} {t : Tr} {l : List Pr} (i : TreeIs W h kind x t l) : TreeIs W' h kind x t l :=
  i.imp (fun ⟨e, b, e2, t⟩ => ⟨e, b, e2, TrieAt.less hm t⟩) fun ⟨e, b, e2, t⟩ => ⟨e, b, e2, t.less hm⟩
theorem TreeIs.updM {W M : Nat → Prop} {h h' : Heap} (k : Upd M h h') (hm : ∀ b, M b → W b ∨ h.size ≤ b) {kind : Int} {x : Hs} {t : Tr} {l : List Pr} (i : TreeIs W h kind x t l) : TreeIs W h' kind x t l :=
  i.imp (fun ⟨e, b, e2, t⟩ => ⟨e, b, e2, TrieAt.updM k hm t⟩) fun ⟨e, b, e2, t⟩ => ⟨e, b, e2, t.updM k hm⟩
theorem TreeIs.pro {W : Nat → Prop} {h h2 : Heap} (k : Upd No h h2) {kind : Int} {x : Hs} {t : Tr} {l : List Pr} (i : TreeIs W h kind x t l) : TreeIs (Pro W h h2) h2 kind x t l := (i.less Pro.hm).upd0 k
theorem champEmpty_ok {W : Nat → Prop} {x : Hs} {h : Heap} (hW : ∀ y, W y → y < h.size) {K : Option Addr → Heap → Prop} (hk : ∀ h' b, TrieAt W x h' 13 b [] → Upd No h h' → K (some ⟨b, 0, none⟩) h') : HC PG f_champ_Empty [] [.c .ptr] K h := by
  refine H_champ_Empty ?_
  unfold F_champ_Empty
  exact nodeInner_ok hW fun h' b nd hu => hk h' b (trie_nil nd) hu
abbrev tr0 : Tr := (0, 0, 0, 0, none, none)
theorem tOfChamp_ok {W : Nat → Prop} {x : Hs} {h : Heap} {r : Option Addr} {l : List Pr} (t : RootAt W x h r l) (hW : ∀ y, W y → y < h.size) {K : Tr → Heap → Prop} (hk : ∀ h' t, TreeIs W h' 0 x t l → Upd No h h' → K t h') : HC PG f_tree_OfChamp [.agg #[.int .u64 x.k0, .int .u64 x.k1, .int .u64 x.mask], .pointer r] [.agg [.int .i64, .int .u64, .int .u64, .int .u64, .ptr, .ptr]] K h := by
  refine H_tree_OfChamp (x.k0, x.k1, x.mask) r ?_
  unfold F_tree_OfChamp
  refine at_new fun h1 b1 k1 => at_new fun h2 b2 k2 => ?_
  have z1 := get_lt b1
  have z2 := get_lt b2
  have k02 := k1.tr k2
  refine Join.intro (fun t h' => Upd No h2 h' ∧ ∃ b, t = some ⟨b, 0, none⟩ ∧ TrieAt (Pro W h h2) x h' 13 b l) (fun R hR => ?_) ?_
  · rcases t with ⟨rfl, rfl⟩ | ⟨b, rfl, t⟩
    · exact condP_true.2 (champEmpty_ok (Pro.lt hW k02) fun h3 b t hu3 => hR _ _ ⟨hu3, b, rfl, t⟩)
    · exact condP_false.2 (hR _ _ ⟨Upd.refl _ _, b, rfl, TrieAt.upd0 k02 (TrieAt.less Pro.hm t)⟩)
  · rintro t3 h3 ⟨hu3, b, rfl, t3⟩
    have c1 := hu3.get0 (k2.get0 b1)
    refine ⟨_, vc c1 0, _, vc c1 1, _, vc c1 2, ?_⟩
    refine setAll (c := trL tr0) (vs := trL (0, x.k0, x.k1, x.mask, some ⟨b, 0, none⟩, none)) (hu3.get0 b2) rfl fun h4 b4 hu4 => ?_
    refine ⟨_, vc b4 0, _, vc b4 1, _, vc b4 2, _, vc b4 3, _, vc b4 4, _, vc b4 5, ?_⟩
    have hb1 : h.size ≤ h1.size := k1.size
    exact hk h4 _ (.inl ⟨rfl, b, rfl, TrieAt.less Pro.sub (TrieAt.updM hu4 (fun y hy => .inl (.inr (by have hy : y = h1.size := hy; omega))) t3)⟩) ((k02.tr hu3).own hu4 hb1)
theorem tOfRadix_ok {W : Nat → Prop} {x : Hs} {h : Heap} {r : Option Addr} {l : List Pr} (t : RadRoot W h r l) (hW : ∀ y, W y → y < h.size) {K : Tr → Heap → Prop} (hk : ∀ h' t, TreeIs W h' 1 x t l → Upd No h h' → K t h') : HC PG f_tree_OfRadix [.pointer r] [.agg [.int .i64, .int .u64, .int .u64, .int .u64, .ptr, .ptr]] K h := by
  refine H_tree_OfRadix r ?_
  unfold F_tree_OfRadix
  refine at_new fun h2 b2 k02 => ?_
  have z2 := get_lt b2
  refine Join.intro (fun t h' => Upd No h2 h' ∧ ∃ b, t = some ⟨b, 0, none⟩ ∧ RadAt (Pro W h h2) h' b l) (fun R hR => ?_) ?_
  · rcases t with ⟨rfl, rfl⟩ | ⟨b, rfl, t⟩
    · exact condP_true.2 (rxEmpty_ok (Pro.lt hW k02) fun h3 b t hu3 => hR _ _ ⟨hu3, b, rfl, t⟩)
    · exact condP_false.2 (hR _ _ ⟨Upd.refl _ _, b, rfl, (t.less Pro.hm).upd0 k02⟩)
  · rintro t3 h3 ⟨hu3, b, rfl, t3⟩
    refine setAll (c := trL tr0) (vs := trL (1, 0, 0, 0, none, some ⟨b, 0, none⟩)) (hu3.get0 b2) rfl fun h4 b4 hu4 => ?_
    refine ⟨_, vc b4 0, _, vc b4 1, _, vc b4 2, _, vc b4 3, _, vc b4 4, _, vc b4 5, ?_⟩
    exact hk h4 _ (.inr ⟨rfl, b, rfl, (t3.updM hu4 (fun y hy => .inl (.inr (by have hy : y = h.size := hy; omega)))).less Pro.sub⟩) ((k02.tr hu3).own hu4 (Nat.le_refl _))
theorem tNew_ok {W : Nat → Prop} {x : Hs} {h : Heap} (hW : ∀ y, W y → y < h.size) {kind : Int} (hkd : kind = 0 ∨ kind = 1) {K : Tr × Int → Heap → Prop} (hk : ∀ h' t, TreeIs W h' kind x t [] → Upd No h h' → K (t, 0) h') : HC PG f_tree_New [.int .i64 kind, .agg #[.int .u64 x.k0, .int .u64 x.k1, .int .u64 x.mask]] [.agg [.int .i64, .int .u64, .int .u64, .int .u64, .ptr, .ptr], .c (.int .i64)] K h := by
  refine H_tree_New kind (x.k0, x.k1, x.mask) ?_
  unfold F_tree_New
  refine at_new fun h1 b1 k1 => at_new fun h2 b2 k2 => ?_
  have z1 := get_lt b1
  have z2 := get_lt b2
  have k02 := k1.tr k2
  have hb1 : h.size ≤ h1.size := k1.size
  have c1 := k2.get0 b1
  rcases hkd with rfl | rfl
  · refine condP_true.2 ⟨_, vc c1 0, _, vc c1 1, _, vc c1 2, ?_⟩
    refine tOfChamp_ok (W := Pro W h h2) (x := x) (l := []) (.inl ⟨rfl, rfl⟩) (Pro.lt hW k02) fun h3 t i3 hu3 => ?_
    refine setAll (c := trL tr0) (vs := trL t) (hu3.get0 b2) rfl fun h4 b4 hu4 => ?_
    refine ⟨_, vc b4 0, _, vc b4 1, _, vc b4 2, _, vc b4 3, _, vc b4 4, _, vc b4 5, ?_⟩
    exact hk h4 t ((i3.updM hu4 (fun y hy => .inl (.inr (by have hy : y = h1.size := hy; omega)))).less Pro.sub) ((k02.tr hu3).own hu4 hb1)
  · refine condP_false.2 (condP_true.2 ?_)
    refine tOfRadix_ok (W := Pro W h h2) (x := x) (l := []) (.inl ⟨rfl, rfl⟩) (Pro.lt hW k02) fun h3 t i3 hu3 => ?_
    refine setAll (c := trL tr0) (vs := trL t) (hu3.get0 b2) rfl fun h4 b4 hu4 => ?_
    refine ⟨_, vc b4 0, _, vc b4 1, _, vc b4 2, _, vc b4 3, _, vc b4 4, _, vc b4 5, ?_⟩
    exact hk h4 t ((i3.updM hu4 (fun y hy => .inl (.inr (by have hy : y = h1.size := hy; omega)))).less Pro.sub) ((k02.tr hu3).own hu4 hb1)
theorem pRight_ok {k v : ByteArray} (h1 : k.size ≤ 256) (h2 : v.size ≤ 4096) {h : Heap} {K : Int → Heap → Prop} (hk : K 0 h) : HC PG f_pair_Right [.string k, .string v] [.c (.int .i64)] K h := by
  refine H_pair_Right k v ?_
  unfold F_pair_Right
  refine condP_dec (fun h => absurd h (by omega)) fun _ => condP_dec (fun h => absurd h (by omega)) fun _ => hk
theorem tWith_ok {W : Nat → Prop} {x : Hs} {h : Heap} {kind : Int} {t : Tr} {l : List Pr} (i : TreeIs W h kind x t l) (hW : ∀ y, W y → y < h.size) (hr : Rises l) (hn : l.length ≤ 1000000) (p : Pr) (hp1 : p.1.size ≤ 256) (hp2 : p.2.size ≤ 4096) {K : Tr × Int → Heap → Prop}
    (hk : ∀ h' t', TreeIs W h' kind x t' (insR p l) → (p ∈ l → t' = t) → Upd No h h' → K (t', 0) h') : HC PG f_tree_Tree_With [trV t, .pointer none, .agg #[.string p.1, .string p.2]] [.agg [.int .i64, .int .u64, .int .u64, .int .u64, .ptr, .ptr], .c (.int .i64)] K h := by
  refine H_tree_Tree_With t none p ?_
  unfold F_tree_Tree_With
  refine at_new fun h1 b1 k1 => at_new fun h2 b2 k2 => at_new fun h3 b3 k3 => ?_
  have z1 := get_lt b1
  have z2 := get_lt b2
  have z3 := get_lt b3
  have s1 : h.size ≤ h1.size := k1.size
  have s2 : h1.size ≤ h2.size := k2.size
  have s3 := k3.size
  have k03 := (k1.tr k2).tr k3
  have v1 := k3.get0 (k2.get0 b1)
  have v2 := k3.get0 b2
  have i3 := i.pro k03
  have hW3 := Pro.lt hW k03
  refine ⟨_, vc v2 0, _, vc v2 1, pRight_ok hp1 hp2 (condP_false.2 ?_)⟩
  rcases i3 with ⟨rfl, b, rfl, t3⟩ | ⟨rfl, b, rfl, t3⟩
  · refine ⟨_, vc v1 0, condP_false.2 ⟨_, vc2 v1 1 0, _, vc2 v1 1 1, _, vc2 v1 1 2, _, vc v1 4, p.1, vc v2 0, p.2, vc v2 1, ?_⟩⟩
    refine champPut_ok (.inr ⟨b, rfl, t3⟩) hW3 hr hn p fun h4 b4 hu4 t4 hsame => ?_
    refine vset (i := 4) (c' := (trL (0, x.k0, x.k1, x.mask, some ⟨b4, 0, none⟩, none)).toArray) (hu4.get0 v1) (show 4 < 6 by decide) rfl fun h5 v5 hu5 => ?_
    refine ⟨_, vc v5 0, _, vc v5 1, _, vc v5 2, _, vc v5 3, _, vc v5 4, _, vc v5 5, ?_⟩
    refine setAll (c := trL tr0) (vs := trL (0, x.k0, x.k1, x.mask, some ⟨b4, 0, none⟩, none)) (hu5.oth (hu4.get0 b3) (by omega)) rfl fun h6 v6 hu6 => ?_
    refine ⟨_, vc v6 0, _, vc v6 1, _, vc v6 2, _, vc v6 3, _, vc v6 4, _, vc v6 5, ?_⟩
    refine hk h6 _ (.inl ⟨rfl, b4, rfl, TrieAt.less Pro.sub (TrieAt.updM hu6 (fun y hy => .inl (.inr (by have hy : y = h2.size := hy; omega))) (TrieAt.updM hu5 (fun y hy => .inl (.inr (by have hy : y = h.size := hy; omega))) t4))⟩) (fun hm => ?_) (((k03.tr hu4).own hu5 (Nat.le_refl _)).own hu6 (by omega))
    rcases hsame hm with e | e
    · rw [e]
    · cases e
  · refine ⟨_, vc v1 0, condP_true.2 ⟨_, vc v1 5, p.1, vc v2 0, p.2, vc v2 1, ?_⟩⟩
    refine radixPut_ok (.inr ⟨b, rfl, t3⟩) hW3 hr p (by omega) fun h4 b4 added hu4 t4 hsame => ?_
    refine vset (i := 5) (c' := (trL (1, 0, 0, 0, none, some ⟨b4, 0, none⟩)).toArray) (hu4.get0 v1) (show 5 < 6 by decide) rfl fun h5 v5 hu5 => ?_
    refine ⟨_, vc v5 0, _, vc v5 1, _, vc v5 2, _, vc v5 3, _, vc v5 4, _, vc v5 5, ?_⟩
    refine setAll (c := trL tr0) (vs := trL (1, 0, 0, 0, none, some ⟨b4, 0, none⟩)) (hu5.oth (hu4.get0 b3) (by omega)) rfl fun h6 v6 hu6 => ?_
    refine ⟨_, vc v6 0, _, vc v6 1, _, vc v6 2, _, vc v6 3, _, vc v6 4, _, vc v6 5, ?_⟩
    refine hk h6 _ (.inr ⟨rfl, b4, rfl, ((t4.updM hu5 (fun y hy => .inl (.inr (by have hy : y = h.size := hy; omega)))).updM hu6 (fun y hy => .inl (.inr (by have hy : y = h2.size := hy; omega)))).less Pro.sub⟩) (fun hm => ?_) (((k03.tr hu4).own hu5 (Nat.le_refl _)).own hu6 (by omega))
    rcases hsame hm with e | e
    · rw [e]
    · cases e
end Go.Proofs
namespace Go.Proofs
open Go Go.Lift
theorem condP_and {b x : Bool} {K : Bool → Heap → Prop} {h : Heap} (hk : K (b && x) h) : CondP b (K x h) (K false h) := by
  cases b
  · exact condP_false.2 hk
  · exact condP_true.2 hk
def likeB (t u : Tr) : Bool := (t.1 == u.1) && ((((t.2.1 == u.2.1) && ((t.2.2.1 == u.2.2.1) && true))) && ((t.2.2.2.1 == u.2.2.2.1) && true))
theorem tLike_ok {t u : Tr} {h : Heap} {K : Bool → Heap → Prop} (hk : ∀ h', Upd No h h' → K (likeB t u) h') : HC PG f_tree_Like [trV t, trV u] [.c .bool] K h := by
  refine H_tree_Like t u ?_
  unfold F_tree_Like
  refine at_new fun h1 b1 k1 => at_new fun h2 b2 k2 => ?_
  have c1 := k2.get0 b1
  refine ⟨_, vc c1 0, _, vc b2 0, ?_⟩
  have := hk h2 (k1.tr k2)
  unfold likeB at this
  rcases hb : (t.1 == u.1) with _ | _
  · rw [hb] at this
    exact condP_false.2 this
  · rw [hb] at this
    exact condP_true.2 ⟨_, vc2 c1 1 0, _, vc2 c1 1 1, _, vc2 c1 1 2, _, vc2 b2 1 0, _, vc2 b2 1 1, _, vc2 b2 1 2, this⟩
theorem tChamp_ok {W : Nat → Prop} {x : Hs} {h : Heap} {b : Nat} {l : List Pr} (t : TrieAt W x h 13 b l) {K : Option Addr → Heap → Prop} (hk : ∀ h', Upd No h h' → K (some ⟨b, 0, none⟩) h') : HC PG f_tree_Tree_Champ [trV (0, x.k0, x.k1, x.mask, some ⟨b, 0, none⟩, none)] [.c .ptr] K h := by
  refine H_tree_Tree_Champ (0, x.k0, x.k1, x.mask, some ⟨b, 0, none⟩, none) ?_
  unfold F_tree_Tree_Champ
  refine at_new fun h1 b1 k1 => ?_
  refine Join.intro (fun t h' => t = false ∧ h' = h1) (fun R hR => ⟨_, vc b1 0, condP_true.2 ⟨_, vc b1 4, hR _ _ ⟨rfl, rfl⟩⟩⟩) ?_
  rintro t h' ⟨rfl, rfl⟩
  exact condP_false.2 ⟨_, vc b1 4, hk h' k1⟩
def TreeV (kind : Int) (x : Hs) (l : List Pr) (xs : List UInt8) : Prop := (kind = 0 ∧ xs = 0 :: shapeV x 13 l) ∨ (kind = 1 ∧ ∃ ys, RadV l ys ∧ xs = 1 :: ys)
theorem byteOne {h h1 : Heap} {b : UInt8} (hb : h1[h.size]? = some (.cells #[.int .u8 (b.toNat : Int)] t_u8 (0, 0))) : OwnS byF 1 t_u8 (fun y => h.size ≤ y) h1 ⟨some ⟨h.size, 0, none⟩, 1, 1⟩ [b] := ⟨rfl, byF_ne, Nat.le_refl _, .inr ⟨h.size, [], rfl, Nat.le_refl _, hb, rfl⟩⟩
theorem tShape_ok {W : Nat → Prop} {x : Hs} {h : Heap} {kind : Int} {t : Tr} {l : List Pr} (i : TreeIs W h kind x t l) (hr : Rises l) (hf : Fit l) (hn : l.length ≤ 60000) {K : SliceV → Heap → Prop}
    (hk : ∀ s' h' xs, TreeV kind x l xs → OwnS byF 1 t_u8 (fun y => h.size ≤ y) h' s' xs → Upd No h h' → K s' h') : HC PG f_tree_Tree_Shape [trV t] [.c .slice] K h := by
  refine H_tree_Tree_Shape t ?_
  unfold F_tree_Tree_Shape
  refine at_new fun h1 b1 k1 => ?_
  have z1 := k1.size
  have app : ∀ {b : UInt8} {h2 h3 : Heap} {s : SliceV} {xs : List UInt8}, h2[h1.size]? = some (.cells #[.int .u8 (b.toNat : Int)] t_u8 (0, 0)) → Upd No h1 h2 → OwnS byF 1 t_u8 (fun y => h2.size ≤ y) h3 s xs → Upd No h2 h3 → xs.length ≤ 70000000000000 → TreeV kind x l (b :: xs) →
      ∃ xs7, SRow h3 s.a (s.len * 1) xs7 ∧ AppP (some [.int .u8 0]) 1 1 t_u8 (some (newA h1)) 1 1 s.len xs7 h3 (fun s8 h9 => K s8 h9) := fun {b h2 h3 s xs} hb k2 ho k3 hl hv => by
    refine ⟨_, (ho.sl (W := No) fun _ _ _ h => h).srow, ?_⟩
    have k13 := k2.tr k3
    have hz := get_lt hb
    have o1 : OwnS byF 1 t_u8 (fun y => h.size ≤ y) h3 ⟨some ⟨h1.size, 0, none⟩, 1, 1⟩ [b] := ((byteOne hb).upd k3 fun _ _ h => h).more fun y hy => by omega
    refine AppP.own (ys := xs) o1 ho.len rfl (one_byF _) rfl (by omega) (by simp only [List.length_singleton]; omega) (by have := k13.size; omega) fun s' h' ho' hu' => ?_
    exact hk s' h' _ hv ho' ((k1.tr k13).trans hu' fun y hy => .inr hy)
  rcases i with ⟨rfl, b, rfl, t⟩ | ⟨rfl, b, rfl, t⟩
  · refine ⟨_, vc b1 0, condP_false.2 (at_new fun h2 b2 k2 => ?_)⟩
    have c1 := k2.get0 b1
    refine ⟨_, vc c1 0, _, vc c1 1, _, vc c1 2, _, vc c1 3, _, vc c1 4, _, vc c1 5, ?_⟩
    refine tChamp_ok (TrieAt.upd0 (k1.tr k2) t) fun h3 k3 => ?_
    refine shOf_ok (TrieAt.upd0 ((k1.tr k2).tr k3) t) hf hn fun s4 h4 ho4 k4 => ?_
    have z3 := k3.size
    have hlen := shapeV_len (x := x) 13 hf
    have hb : l.length * (20004 + 9 * (13 + 1)) ≤ 60000 * (20004 + 9 * (13 + 1)) := Nat.mul_le_mul_right _ hn
    exact app (b := 0) b2 k2 (ho4.more fun y hy => by omega) (k3.tr k4) (by omega) (.inl ⟨rfl, rfl⟩)
  · refine ⟨_, vc b1 0, condP_true.2 (at_new fun h2 b2 k2 => ?_)⟩
    have c1 := k2.get0 b1
    refine ⟨_, vc c1 5, ?_⟩
    refine radShape_ok (t.upd0 (k1.tr k2)) hr hf hn fun s4 h4 xs hv ho4 k4 => ?_
    have hlen := radV_len hv hf
    have hb : 2 * l.length * 20010 ≤ 2 * 60000 * 20010 := Nat.mul_le_mul_right _ (by omega)
    exact app (b := 1) b2 k2 ho4 k4 (by omega) (.inr ⟨rfl, xs, hv, rfl⟩)
theorem like_kind {W W' : Nat → Prop} {h h' : Heap} {kind kind' : Int} {x x' : Hs} {t u : Tr} {l l' : List Pr} (i : TreeIs W h kind x t l) (i' : TreeIs W' h' kind' x' u l') (hl : likeB t u = true) : kind = kind' ∧ (kind = 0 → x = x') := by
  rcases i with ⟨rfl, b, rfl, _⟩ | ⟨rfl, b, rfl, _⟩ <;> rcases i' with ⟨rfl, b', rfl, _⟩ | ⟨rfl, b', rfl, _⟩
  · refine ⟨rfl, fun _ => ?_⟩
    unfold likeB at hl
    simp only [Bool.and_eq_true, beq_iff_eq, Bool.and_true, true_and] at hl
    cases x; cases x'
    simp only at hl
    simp only [Hs.mk.injEq]
    exact ⟨hl.1.1, hl.1.2, hl.2⟩
  · simp [likeB] at hl
  · simp [likeB] at hl
  · exact ⟨rfl, fun h => by cases h⟩
theorem treeV_eq {kind : Int} {x x' : Hs} (hx : kind = 0 → x = x') {l l' : List Pr} {xs xs' : List UInt8} (hv : TreeV kind x l xs) (hv' : TreeV kind x' l' xs') (hf : Fit l) (hf' : Fit l') (hn : l.length ≤ 60000) (hn' : l'.length ≤ 60000) (hr : Rises l) (hr' : Rises l') : xs = xs' ↔ l = l' := by
  rcases hv with ⟨rfl, rfl⟩ | ⟨rfl, ys, hv, rfl⟩ <;> rcases hv' with ⟨e, rfl⟩ | ⟨e, ys', hv', rfl⟩
  · rw [hx rfl]
    constructor
    · intro h
      have h : shapeV x' 13 l ++ [] = shapeV x' 13 l' ++ [] := by rw [(List.cons.inj h).2]
      exact (shapeV_inj 13 hf hf' hn hn' hr hr' h).1
    · rintro rfl; rfl
  · cases e
  · cases e
  · rw [List.cons.injEq, ← radV_eq hv hv' hf hf']
    exact ⟨fun h => h.2, fun h => ⟨rfl, h⟩⟩
theorem tSame_ok {W W' : Nat → Prop} {x x' : Hs} {h : Heap} {kind kind' : Int} {t u : Tr} {l l' : List Pr} (i : TreeIs W h kind x t l) (i' : TreeIs W' h kind' x' u l') (hr : Rises l) (hf : Fit l) (hn : l.length ≤ 60000) (hr' : Rises l') (hf' : Fit l') (hn' : l'.length ≤ 60000) {K : Bool → Heap → Prop}
    (hk : ∀ h', Upd No h h' → K (likeB t u && decide (l = l')) h') : HC PG f_tree_Same [trV t, trV u] [.c .bool] K h := by
  refine H_tree_Same t u ?_
  unfold F_tree_Same
  refine at_new fun h1 b1 k1 => at_new fun h2 b2 k2 => ?_
  have c1 := k2.get0 b1
  refine ⟨_, vc c1 0, _, vc c1 1, _, vc c1 2, _, vc c1 3, _, vc c1 4, _, vc c1 5, _, vc b2 0, _, vc b2 1, _, vc b2 2, _, vc b2 3, _, vc b2 4, _, vc b2 5, ?_⟩
  refine tLike_ok fun h3 k3 => ?_
  have k03 := (k1.tr k2).tr k3
  have c3 := k3.get0 c1
  have b3 := k3.get0 b2
  rcases hl : likeB t u with _ | _
  · rw [hl] at hk
    exact condP_false.2 (hk h3 k03)
  · rw [hl] at hk
    refine condP_true.2 ⟨_, vc c3 0, _, vc c3 1, _, vc c3 2, _, vc c3 3, _, vc c3 4, _, vc c3 5, _, vc b3 0, _, vc b3 1, _, vc b3 2, _, vc b3 3, _, vc b3 4, _, vc b3 5, ?_⟩
    refine tShape_ok (i.upd0 k03) hr hf hn fun s4 h4 xs hv ho4 k4 => ?_
    have b4 := k4.get0 b3
    refine ⟨⟨vc b4 0, vc b4 1, vc b4 2, vc b4 3, vc b4 4, vc b4 5⟩, ?_⟩
    refine tShape_ok (i'.upd0 (k03.tr k4)) hr' hf' hn' fun s5 h5 ys hv' ho5 k5 => ?_
    have ho4' := ho4.upd k5 fun _ _ h => h
    refine bytesEq_ok (W := No) (W' := No) (ho4'.sl fun _ _ _ h => h) (ho5.sl fun _ _ _ h => h) ?_
    obtain ⟨rfl, hx⟩ := like_kind i i' hl
    have := hk h5 ((k03.tr k4).tr k5)
    rw [decide_eq_decide.2 (treeV_eq hx hv hv' hf hf' hn hn' hr hr')]
    exact this
theorem TreeIs.plain {W : Nat → Prop} {h : Heap} {kind : Int} {x : Hs} {t : Tr} {l : List Pr} (i : TreeIs W h kind x t l) : (∀ a, t.2.2.2.2.1 = some a → plainPtr h a) ∧ (∀ a, t.2.2.2.2.2 = some a → plainPtr h a) := by
  rcases i with ⟨rfl, b, rfl, t⟩ | ⟨rfl, b, rfl, t⟩
  · obtain ⟨s, nd, _⟩ := t
    obtain ⟨d, n, sp, sk, ow, hb, _⟩ := nd.ex
    refine ⟨fun a ha => ?_, fun a ha => (by cases ha)⟩
    cases ha
    exact ⟨_, _, hb, show 0 < 6 by decide⟩
  · obtain ⟨w, F, ⟨val, s, ow, ks, hb, _⟩, _⟩ := t.ex
    refine ⟨fun a ha => (by cases ha), fun a ha => ?_⟩
    cases ha
    exact ⟨_, _, hb, show 0 < 5 by decide⟩
def oneB (t u : Tr) : Bool := decide (t = u)
theorem tOne_ok {W W' : Nat → Prop} {x x' : Hs} {h : Heap} {kind kind' : Int} {t u : Tr} {l l' : List Pr} (i : TreeIs W h kind x t l) (i' : TreeIs W' h kind' x' u l') {K : Bool → Heap → Prop} (hk : ∀ h', Upd No h h' → K (decide (t = u)) h') : HC PG f_tree_One [trV t, trV u] [.c .bool] K h := by
  refine H_tree_One t u ?_
  unfold F_tree_One
  refine at_new fun h1 b1 k1 => at_new fun h2 b2 k2 => ?_
  have c1 := k2.get0 b1
  have p1 := (i.upd0 (k1.tr k2)).plain
  have p2 := (i'.upd0 (k1.tr k2)).plain
  refine ⟨_, vc c1 0, _, vc c1 1, _, vc c1 2, _, vc c1 3, _, vc c1 4, _, vc c1 5, _, vc b2 0, _, vc b2 1, _, vc b2 2, _, vc b2 3, _, vc b2 4, _, vc b2 5, ⟨⟨fun y z hy hz => ⟨p1.1 y hy, p2.1 z hz⟩, fun y z hy hz => ⟨p1.2 y hy, p2.2 z hz⟩, trivial⟩, ?_⟩⟩
  have e : ((t.1 == u.1) && ((((((t.2.1 == u.2.1) && ((t.2.2.1 == u.2.2.1) && true))) && ((t.2.2.2.1 == u.2.2.2.1) && true))) && ((t.2.2.2.2.1 == u.2.2.2.2.1) && ((t.2.2.2.2.2 == u.2.2.2.2.2) && true)))) = decide (t = u) := by
    obtain ⟨a, b, c, d, e, f⟩ := t
    obtain ⟨a', b', c', d', e', f'⟩ := u
    rw [Bool.eq_iff_iff]
    simp only [Bool.and_eq_true, beq_iff_eq, decide_eq_true_iff, Prod.mk.injEq, and_true]
    constructor
    · rintro ⟨h1, ⟨⟨h2, h3⟩, h4⟩, h5, h6⟩; exact ⟨h1, h2, h3, h4, h5, h6⟩
    · rintro ⟨h1, h2, h3, h4, h5, h6⟩; exact ⟨h1, ⟨⟨h2, h3⟩, h4⟩, h5, h6⟩
  rw [e]
  exact hk h2 (k1.tr k2)
end Go.Proofs
namespace Go.Proofs
open Go Go.Lift
abbrev zPrL : List Value := [.string (⟨#[]⟩ : ByteArray), .string (⟨#[]⟩ : ByteArray)]
theorem newPr {h : Heap} {t : TypeId} {p : Pr} {k : Heap → Prop} (hk : ∀ h', h'[h.size]? = some (.cells #[.string p.1, .string p.2] t (0, 0)) → Upd No h h' → k h') :
    At (hnew h [.string (⟨#[]⟩ : ByteArray), .string (⟨#[]⟩ : ByteArray)] t) fun h8 => WrS h8 (some (newA h)) 0 [.string p.1, .string p.2] ∧ At (hsetL h8 (newA h) 0 [.string p.1, .string p.2]) k := by
  refine at_new fun h1 b1 k1 => ?_
  exact setAll (c := zPrL) (vs := [.string p.1, .string p.2]) b1 rfl fun h2 b2 hu2 => hk h2 b2 (k1.own hu2 (Nat.le_refl _))
theorem append1p {t : TypeId} {M : Nat → Prop} {h : Heap} {so : SliceV} {out : List Pr} {p : Pr} {K : SliceV → Heap → Prop} (ho : OwnS prF 2 t M h so out) (hM : ∀ b, h.size ≤ b → M b) (hn : out.length + 1 ≤ 1000000000)
    (hk : ∀ s' h', OwnS prF 2 t M h' s' (out ++ [p]) → Upd M h h' → K s' h') :
    ∃ xs, SRow (hnew h [.string p.1, .string p.2] t) (some (newA h)) (1 * 2) xs ∧ AppP (some [.string (⟨#[]⟩ : ByteArray), .string (⟨#[]⟩ : ByteArray)]) 2 32 t so.a so.len so.cap 1 xs (hnew h [.string p.1, .string p.2] t) K := by
  have k := Upd.hnew No h [.string p.1, .string p.2] t
  have h1 : OwnS prF 2 t (fun _ => True) (hnew h [.string p.1, .string p.2] t) ⟨some (newA h), 1, 1⟩ [p] := ⟨rfl, prF_ne, Nat.le_refl _, .inr ⟨h.size, [], rfl, trivial, hnew_get .., rfl⟩⟩
  refine ⟨_, (h1.sl (W := No) fun _ _ _ h => h).srow, ?_⟩
  refine AppP.own (ys := [p]) (ho.upd k fun _ _ h => h) rfl rfl rfl rfl (by omega) (by simp only [List.length_singleton]; omega) (hM _ (by rw [hnew_size]; omega)) fun s' h' ho' hu => ?_
  exact hk s' h' ho' ((Upd.hnew M h _ _).tr hu)
theorem insR_app {p : Pr} : ∀ {A B : List Pr}, (∀ r ∈ A, kl r.1 p.1) → insR p (A ++ B) = A ++ insR p B
  | [], _, _ => rfl
  | r :: A, B, h => by
    rw [List.cons_append, insR_cons, if_pos (h r (List.mem_cons_self ..)), insR_app fun q hq => h q (List.mem_cons_of_mem _ hq)]; rfl
theorem insR_end {p q : Pr} : ∀ {A : List Pr}, (∃ r ∈ A, kl p.1 r.1) → insR p (A ++ [q]) = insR p A ++ [q]
  | [], h => by obtain ⟨r, hr, _⟩ := h; simp at hr
  | r :: A, h => by
    rw [List.cons_append, insR_cons, insR_cons]
    by_cases h1 : kl r.1 p.1
    · rw [if_pos h1, if_pos h1, insR_end]
      · rfl
      · obtain ⟨r', hr', hk⟩ := h
        rcases List.mem_cons.1 hr' with rfl | hr'
        · exact absurd (kl_trans h1 hk) (kl_irrefl _)
        · exact ⟨r', hr', hk⟩
    · rw [if_neg h1, if_neg h1]
      by_cases h2 : r.1 = p.1
      · rw [if_pos h2, if_pos h2]; rfl
      · rw [if_neg h2, if_neg h2]; rfl
theorem insR_low {p : Pr} : ∀ {l : List Pr}, (∀ q ∈ l, kl p.1 q.1) → insR p l = p :: l
  | [], _ => rfl
  | q :: l, h => by
    have h1 := h q (List.mem_cons_self ..)
    rw [insR_cons, if_neg fun h2 => kl_irrefl _ (kl_trans h1 h2), if_neg fun e => by rw [e] at h1; exact kl_irrefl _ h1]
theorem insR_drop {p : Pr} : ∀ {l : List Pr}, Rises l → insR p (l.filter fun q => decide (q.1 ≠ p.1)) = insR p l
  | [], _ => rfl
  | r :: l, hr => by
    have hr := List.pairwise_cons.1 hr
    have keep : ∀ {l : List Pr}, (∀ q ∈ l, kl p.1 q.1) → (l.filter fun q => decide (q.1 ≠ p.1)) = l := fun {l} h => List.filter_eq_self.2 fun q hq => decide_eq_true fun e => by have := h q hq; rw [e] at this; exact kl_irrefl _ this
    rw [List.filter_cons, insR_cons]
    by_cases e : r.1 = p.1
    · have hl : ∀ q ∈ l, kl p.1 q.1 := fun q hq => by rw [← e]; exact hr.1 q hq
      rw [if_neg (by simp [e]), if_neg (by rw [e]; exact kl_irrefl _), if_pos e, keep hl, insR_low hl]
    · rw [if_pos (by simpa using e), insR_cons]
      by_cases h1 : kl r.1 p.1
      · rw [if_pos h1, if_pos h1, insR_drop hr.2]
      · rw [if_neg h1, if_neg h1, if_neg e, if_neg e]
        have h2 := kl_tri h1 e
        rw [keep fun q hq => kl_trans h2 (hr.1 q hq)]
theorem wrap_succB {i n : Nat} (h : i < n) (hn : n ≤ 9223372036854775807) : IntKind.wrap .i64 ((i : Int) + 1) = ((i + 1 : Nat) : Int) := by rw [Go.IntWalk.i64_in _ (by omega)]; omega
theorem insR_len1 (p : Pr) : ∀ {l : List Pr}, (insR p l).length ≤ l.length + 1
  | [] => Nat.le_refl _
  | q :: l => by
    rw [insR_cons]; split
    · have := insR_len1 p (l := l); simp only [List.length_cons]; omega
    · split <;> simp
theorem like_same {W W' : Nat → Prop} {h h' : Heap} {kind : Int} {x : Hs} {t u : Tr} {l l' : List Pr} (i : TreeIs W h kind x t l) (i' : TreeIs W' h' kind x u l') : likeB t u = true := by
  rcases i with ⟨rfl, b, rfl, _⟩ | ⟨rfl, b, rfl, _⟩ <;> rcases i' with ⟨e, b', rfl, _⟩ | ⟨e, b', rfl, _⟩
  · simp [likeB]
  · cases e
  · cases e
  · simp [likeB]
theorem likeB_self (t : Tr) : likeB t t = true := by simp [likeB]
theorem kind2 {k : Int} (h0 : 0 ≤ k) (h1 : k ≤ 255) : IntKind.wrap .i64 (Int.tmod k 2) = 0 ∨ IntKind.wrap .i64 (Int.tmod k 2) = 1 := by
  have : Int.tmod k 2 = k % 2 := Int.tmod_eq_emod_of_nonneg h0
  rw [this, w64 (by omega)]; omega
abbrev hsL (x : Hs) : List Value := [.int .u64 x.k0, .int .u64 x.k1, .int .u64 x.mask]
end Go.Proofs
namespace Go.Proofs
open Go Go.Lift
abbrev Wk := Option Addr × ByteArray × Bool
abbrev wkF (x : Wk) : List Value := [.pointer x.1, .string x.2.1, .bool x.2.2]
theorem wkF_ne (x : Wk) : (wkF x).length = 3 ∧ 0 < 3 := ⟨rfl, by omega⟩
theorem one_wkF : ∀ xs : List Wk, oneCell (xs.flatMap wkF) = true
  | [] => rfl
  | x :: xs => by rw [List.flatMap_cons]; exact oneCell_join rfl (one_wkF xs)
theorem set_eq {α : Type} {l : List α} {i : Nat} (hi : i < l.length) (x : α) : l.take i ++ x :: l.drop (i + 1) = l.set i x := by rw [List.set_eq_take_append_cons_drop, if_pos hi]
theorem reverse_ok {M : Nat → Prop} {h : Heap} {s : SliceV} {xs : List Wk} (ho : OwnS wkF 3 t_span_work M h s xs) (hn : xs.length ≤ 1000000000) {K : Unit → Heap → Prop} (hk : ∀ h', OwnS wkF 3 t_span_work M h' s xs.reverse → Upd M h h' → K () h') : HC PG f_slices_Reverse_A_span_work_span_work [.slice s.a s.len s.cap] [] K h := by
  refine H_slices_Reverse_A_span_work_span_work s ?_
  unfold F_slices_Reverse_A_span_work_span_work
  have hlen := ho.len
  have ej : IntKind.wrap .i64 ((s.len : Int) - 1) = (xs.length : Int) - 1 - ((0 : Nat) : Int) := by rw [w64 (by omega)]; omega
  rw [ej]
  refine LoopP.ghost (fun (i : Nat) (t : Int × Int) h' => t.1 = (i : Int) ∧ t.2 = (xs.length : Int) - 1 - (i : Int) ∧ i ≤ xs.length ∧ (∃ ys, OwnS wkF 3 t_span_work M h' s ys ∧ ys.length = xs.length ∧ ∀ k, k < xs.length → ys[k]? = if k < i ∨ xs.length - i ≤ k then xs[xs.length - 1 - k]? else xs[k]?) ∧ Upd M h h') (fun i => xs.length - i) 0
    ⟨rfl, rfl, Nat.zero_le _, ⟨xs, ho, rfl, fun k hk => by rw [if_neg (by omega)]⟩, Upd.refl _ _⟩ ?_
  rintro I i ⟨ti, tj⟩ h' ⟨e1, e2, hi, ⟨ys, hy, hyl, hys⟩, hu⟩ hI
  simp only at e1 e2
  subst e1 e2
  refine condP_dec (fun hlt => ?_) fun hge => ?_
  · have hlt : 2 * i + 1 < xs.length := by have : (i : Int) < (xs.length : Int) - 1 - (i : Int) := hlt; omega
    obtain ⟨j, hj⟩ : ∃ j : Nat, (xs.length : Int) - 1 - (i : Int) = (j : Int) := ⟨xs.length - 1 - i, by omega⟩
    have hjn : j = xs.length - 1 - i := by omega
    simp only
    rw [hj]
    have hiy : i < ys.length := by omega
    have hjy : j < ys.length := by omega
    have sl := hy.sl (W := No) fun _ _ _ h => h
    obtain ⟨a, ha, _, hv⟩ := sl.at (List.getElem?_eq_getElem hjy)
    obtain ⟨a', ha', _, hv'⟩ := sl.at (List.getElem?_eq_getElem hiy)
    rw [ha] at ha'; cases ha'
    refine ⟨⟨by omega, by omega⟩, a, ha, ys[j].1, hv 0 _ rfl, ys[j].2.1, hv 1 _ rfl, ys[j].2.2, hv 2 _ rfl, ⟨by omega, by omega⟩, a, ha, ys[i].1, hv' 0 _ rfl, ys[i].2.1, hv' 1 _ rfl, ys[i].2.2, hv' 2 _ rfl, ⟨by omega, by omega⟩, ?_⟩
    obtain ⟨b, hb, hbM, hw, ho1, hu1⟩ := OwnS.setAt hy hiy ys[j]
    rw [ha] at hb; cases hb
    rw [set_eq hiy] at ho1
    refine ⟨a, ha, hw, at_intro ⟨⟨by omega, by omega⟩, a, ha, ?_⟩⟩
    obtain ⟨b, hb, _, hw2, ho2, hu2⟩ := OwnS.setAt ho1 (k := j) (by rw [List.length_set]; omega) ys[i]
    rw [ha] at hb; cases hb
    rw [set_eq (by rw [List.length_set]; omega)] at ho2
    refine ⟨hw2, at_intro ?_⟩
    rw [wrap_succ (n := xs.length) (by omega) (by omega)]
    have ej2 : IntKind.wrap .i64 ((j : Int) - 1) = (xs.length : Int) - 1 - ((i + 1 : Nat) : Int) := by rw [w64 (by omega)]; omega
    rw [ej2]
    refine hI (i + 1) _ _ ⟨rfl, rfl, by omega, ⟨_, ho2, by rw [List.length_set, List.length_set]; exact hyl, fun k hk => ?_⟩, ?_⟩ (by omega)
    · rw [List.getElem?_set, List.length_set]
      have ei := hys i (by omega)
      have ejj := hys j (by omega)
      rw [if_neg (by omega), List.getElem?_eq_getElem hiy] at ei
      rw [if_neg (by omega), List.getElem?_eq_getElem hjy] at ejj
      by_cases h1 : j = k
      · rw [if_pos h1, if_pos hjy, if_pos (by omega), ei]
        congr 1; omega
      · rw [if_neg h1, List.getElem?_set]
        by_cases h2 : i = k
        · rw [if_pos h2, if_pos hiy, if_pos (by omega), ejj]
          congr 1; omega
        · rw [if_neg h2, hys k hk]
          by_cases h3 : k < i ∨ xs.length - i ≤ k
          · rw [if_pos h3, if_pos (by omega)]
          · rw [if_neg h3, if_neg (by omega)]
    · exact (hu.trans hu1 fun y hy => .inl (by have hy : y = a.block := hy; rw [hy]; exact hbM)).trans hu2 fun y hy => .inl (by have hy : y = a.block := hy; rw [hy]; exact hbM)
  · have hge : xs.length ≤ 2 * i + 1 := by have : ¬ (i : Int) < (xs.length : Int) - 1 - (i : Int) := hge; omega
    have e : ys = xs.reverse := by
      apply List.ext_getElem?
      intro k
      by_cases hk : k < xs.length
      · rw [hys k hk, List.getElem?_reverse hk]
        by_cases h3 : k < i ∨ xs.length - i ≤ k
        · rw [if_pos h3]
        · rw [if_neg h3]; congr 1; omega
      · rw [List.getElem?_eq_none (by omega), List.getElem?_eq_none (by rw [List.length_reverse]; omega)]
    subst e
    exact hk _ hy hu
theorem OwnS.pop {α : Type} {f : α → List Value} {sz : Nat} {t : TypeId} {M : Nat → Prop} {h : Heap} {s : SliceV} {xs : List α} {x : α} (ho : OwnS f sz t M h s (xs ++ [x])) : OwnS f sz t M h ⟨subAddr s.a 0 s.cap sz, xs.length, s.cap⟩ xs := by
  have hl := ho.len
  have hc := ho.cap
  rw [List.length_append, List.length_singleton] at hl
  refine ⟨rfl, ho.ne, by simp only; omega, ho.blk.imp id fun ⟨b, rest, ha, hb, hcell, hr⟩ => ⟨b, f x ++ rest, ?_, hb, ?_, ?_⟩⟩
  · simp only; rw [ha, sub_zero]
  · rw [hcell, List.flatMap_append, List.flatMap_cons, List.flatMap_nil, List.append_nil, List.append_assoc]
  · rw [List.length_append, (ho.ne x).1, hr]
    simp only
    have : s.cap - xs.length = (s.cap - s.len) + 1 := by omega
    rw [this, Nat.add_mul]; omega
structure It where
  b : Nat
  ah : ByteArray
  own : Bool
  sl : ByteArray
  w : Option ByteArray
  F : Fo
def It.raw (i : It) : Wk := (some ⟨i.b, 0, none⟩, i.ah, i.own)
def It.key (i : It) : List UInt8 := i.ah.data.toList ++ i.sl.data.toList
def It.prs (i : It) : List (List UInt8 × ByteArray) := if i.own then (i.w.map fun v => (i.key, v)).toList else (prsR i.w i.F).map fun p => (i.key ++ p.1, p.2)
def It.cost (i : It) : Nat := if i.own then 1 else 2 + 2 * cntF i.F
def remP (l : List It) : List (List UInt8 × ByteArray) := l.reverse.flatMap It.prs
def costP (l : List It) : Nat := (l.map It.cost).sum
theorem remP_snoc (l : List It) (i : It) : remP (l ++ [i]) = i.prs ++ remP l := by unfold remP; rw [List.reverse_append]; rfl
theorem costP_app (l m : List It) : costP (l ++ m) = costP l + costP m := by unfold costP; rw [List.map_append, List.sum_append]
theorem remP_app (l m : List It) : remP (l ++ m) = remP m ++ remP l := by unfold remP; rw [List.reverse_append, List.flatMap_append]
end Go.Proofs
namespace Go.Proofs
open Go Go.Lift
theorem rxLabel_ok {W : Nat → Prop} {h : Heap} {b : Nat} {sl : ByteArray} {w : Option ByteArray} {F : Fo} (r : RxN W h b sl w F) {K : ByteArray → Heap → Prop} (hk : K sl h) : HC PG f_radix_Node_Label [.pointer (some ⟨b, 0, none⟩)] [.c .str] K h := by
  refine H_radix_Node_Label _ ?_
  unfold F_radix_Node_Label
  obtain ⟨val, s, ow, ks, hb, _⟩ := r
  exact condP_false.2 ⟨_, rfl, sl, rcell (i := 0) hb, hk⟩
theorem rxValue_ok {W : Nat → Prop} {h : Heap} {b : Nat} {sl : ByteArray} {w : Option ByteArray} {F : Fo} (r : RxN W h b sl w F) {K : ByteArray × Bool → Heap → Prop} (hk : ∀ v, (∀ u, w = some u → v = u) → K (v, w.isSome) h) : HC PG f_radix_Node_Value [.pointer (some ⟨b, 0, none⟩)] [.c .str, .c .bool] K h := by
  refine H_radix_Node_Value _ ?_
  unfold F_radix_Node_Value
  obtain ⟨val, s, ow, ks, hb, hv, _⟩ := r
  exact condP_false.2 ⟨_, rfl, val, rcell (i := 2) hb, _, rfl, w.isSome, rcell (i := 1) hb, hk val hv⟩
theorem rxKids_ok {W : Nat → Prop} {h : Heap} {b : Nat} {sl : ByteArray} {w : Option ByteArray} {F : Fo} (r : RxN W h b sl w F) (hn : F.toL.length ≤ 256) {K : SliceV → Heap → Prop} (hk : ∀ s' h' ks, OwnS rxF 1 t_P_radix_Node (fun y => h.size ≤ y) h' s' ks → RxL W h' ks F.toL → Upd No h h' → K s' h') : HC PG f_radix_Node_Kids [.pointer (some ⟨b, 0, none⟩)] [.c .slice] K h := by
  refine H_radix_Node_Kids _ ?_
  unfold F_radix_Node_Kids
  obtain ⟨val, s, ow, ks, hb, hv, hs, _, hF⟩ := r
  have hL := rxF_iff.1 hF
  refine condP_false.2 ⟨_, rfl, s, rcell (i := 3) hb, ?_⟩
  refine clone_rxF hs (by rw [hL.1]; omega) fun s' h' ho hu => hk s' h' ks ho (hL.upd0 hu) hu
theorem less_nil (x : List UInt8) : Op.bytesLess x [] = false := by cases x <;> rfl
theorem nil_list : (⟨#[]⟩ : ByteArray).toList = [] := by rw [ByteArray.toList_eq]
theorem past_ok {k : ByteArray} {h : Heap} {K : Bool → Heap → Prop} (hk : ∀ h', Upd No h h' → K false h') : HC PG f_span_Span_past [.agg #[.string ⟨#[]⟩, .string ⟨#[]⟩, .bool true], .string k] [.c .bool] K h := by
  refine H_span_Span_past (⟨#[]⟩, ⟨#[]⟩, true) k ?_
  unfold F_span_Span_past
  refine at_new fun h1 b1 k1 => ?_
  refine Join.intro (fun t h' => t = false ∧ h' = h1) (fun R hR => ⟨true, vc b1 2, condP_false.2 (hR _ _ ⟨rfl, rfl⟩)⟩) ?_
  rintro t h' ⟨rfl, rfl⟩
  refine condP_false.2 ⟨_, vc b1 0, ?_⟩
  rw [nil_list, less_nil]
  exact condP_false.2 (hk h' k1)
theorem has_span_ok {k : ByteArray} {h : Heap} {K : Bool → Heap → Prop} (hk : ∀ h', Upd No h h' → K true h') : HC PG f_span_Span_Has [.agg #[.string ⟨#[]⟩, .string ⟨#[]⟩, .bool true], .string k] [.c .bool] K h := by
  refine H_span_Span_Has (⟨#[]⟩, ⟨#[]⟩, true) k ?_
  unfold F_span_Span_Has
  refine at_new fun h1 b1 k1 => ⟨_, vc b1 0, ?_⟩
  rw [nil_list, less_nil]
  exact condP_true.2 ⟨true, vc b1 2, condP_true.2 (hk h1 k1)⟩
def It.Ok (W : Nat → Prop) (h : Heap) (i : It) : Prop := RxN W h i.b i.sl i.w i.F ∧ CanF i.F ∧ i.key.length ≤ 10000 ∧ ∀ p ∈ prsR i.w i.F, i.key.length + p.1.length ≤ 10000
theorem It.Ok.updM {W M : Nat → Prop} {h h' : Heap} (k : Upd M h h') (hm : ∀ b, M b → W b ∨ h.size ≤ b) {i : It} (o : It.Ok W h i) : It.Ok W h' i := ⟨o.1.updM k hm, o.2⟩
theorem kidsIts {W : Nat → Prop} {h : Heap} (ah : ByteArray) : ∀ {ks : List (Option Addr)} {L : List Bn}, RxL W h ks L → ∃ its : List It, its.map It.raw = ks.map (fun k => (k, ah, false)) ∧ its.map (fun i => (i.sl.data.toList, i.w, i.F)) = L ∧ ∀ i ∈ its, i.ah = ah ∧ i.own = false ∧ RxN W h i.b i.sl i.w i.F
  | [], [], _ => ⟨[], rfl, rfl, by simp⟩
  | [], _ :: _, r => absurd r.1 (by simp)
  | _ :: _, [], r => absurd r.1 (by simp)
  | k :: ks, n :: L, r => by
    obtain ⟨its, h1, h2, h3⟩ := kidsIts ah (ks := ks) (L := L) ⟨by simpa using r.1, fun p hp => r.2 p (by rw [List.zip_cons_cons]; exact List.mem_cons_of_mem _ hp)⟩
    obtain ⟨b, sl, e1, e2, e3⟩ := r.2 (k, n) (by rw [List.zip_cons_cons]; exact List.mem_cons_self ..)
    simp only at e1 e2 e3
    refine ⟨⟨b, ah, false, sl, n.2.1, n.2.2⟩ :: its, ?_, ?_, ?_⟩
    · rw [List.map_cons, List.map_cons, h1, e1]; rfl
    · rw [List.map_cons, h2]; simp only [e2]
    · intro i hi
      rcases List.mem_cons.1 hi with rfl | hi
      · exact ⟨rfl, rfl, e3⟩
      · exact h3 i hi
theorem prsF_cons (lab : List UInt8) (w : Option ByteArray) (kids rest : Fo) : prsF (.cons lab w kids rest) = ((w.map fun v => (([] : List UInt8), v)).toList ++ prsF kids).map (fun p => (lab ++ p.1, p.2)) ++ prsF rest := rfl
theorem cntF_cons (lab : List UInt8) (w : Option ByteArray) (kids rest : Fo) : cntF (.cons lab w kids rest) = 1 + cntF kids + cntF rest := rfl
theorem prsF_its {ah : ByteArray} {key : List UInt8} (hk : ah.data.toList = key) : ∀ {F : Fo} {its : List It}, its.map (fun i => (i.sl.data.toList, i.w, i.F)) = F.toL → (∀ i ∈ its, i.ah = ah ∧ i.own = false) → its.flatMap It.prs = (prsF F).map fun p => (key ++ p.1, p.2)
  | .nil, its, h, _ => by
    have : its = [] := by simpa [Fo.toL] using h
    rw [this]; rfl
  | .cons lab w kids rest, [], h, _ => by simp [Fo.toL] at h
  | .cons lab w kids rest, i :: its, h, ha => by
    rw [Fo.toL_cons, List.map_cons, List.cons.injEq] at h
    obtain ⟨h1, h2⟩ := h
    simp only [Prod.mk.injEq] at h1
    obtain ⟨e1, e2, e3⟩ := h1
    rw [List.flatMap_cons, prsF_its hk h2 fun j hj => ha j (List.mem_cons_of_mem _ hj)]
    obtain ⟨a1, a2⟩ := ha i (List.mem_cons_self ..)
    rw [prsF_cons, List.map_append, List.map_map]
    congr 1
    unfold It.prs It.key prsR
    rw [a2, a1, hk, e1, e2, e3]
    simp only [Bool.false_eq_true, if_false, List.append_assoc, List.map_append, Function.comp_def]
theorem cost_its : ∀ {F : Fo} {its : List It}, its.map (fun i => (i.sl.data.toList, i.w, i.F)) = F.toL → (∀ i ∈ its, i.own = false) → costP its = 2 * cntF F
  | .nil, its, h, _ => by
    have : its = [] := by simpa [Fo.toL] using h
    rw [this]; rfl
  | .cons lab w kids rest, [], h, _ => by simp [Fo.toL] at h
  | .cons lab w kids rest, i :: its, h, ha => by
    rw [Fo.toL_cons, List.map_cons, List.cons.injEq] at h
    obtain ⟨h1, h2⟩ := h
    simp only [Prod.mk.injEq] at h1
    have e := cost_its h2 fun j hj => ha j (List.mem_cons_of_mem _ hj)
    unfold costP at e ⊢
    rw [List.map_cons, List.sum_cons, e]
    rw [cntF_cons]
    unfold It.cost
    rw [ha i (List.mem_cons_self ..), h1.2.2]
    simp only [Bool.false_eq_true, if_false]
    omega
theorem len_cost : ∀ l : List It, l.length ≤ costP l
  | [] => Nat.le_refl _
  | i :: l => by
    have := len_cost l
    unfold costP at this ⊢
    rw [List.map_cons, List.sum_cons, List.length_cons]
    have : 1 ≤ i.cost := by unfold It.cost; split <;> omega
    omega
abbrev curC (s : SliceV) : Array Value := #[sv s, .string (⟨#[]⟩ : ByteArray), .string (⟨#[]⟩ : ByteArray), .bool true, .bool false]
structure Cur (W : Nat → Prop) (h : Heap) (cb : Nat) (C : Nat → Prop) (items : List It) : Prop where
  ex : ∃ s, h[cb]? = some (.cells (curC s) t_span_Cursor (0, 0)) ∧ OwnS wkF 3 t_span_work C h s (items.map It.raw)
  ok : ∀ i ∈ items, It.Ok W h i
theorem kid_ok {W : Nat → Prop} {h h' : Heap} {i : It} (io : It.Ok W h i) (ho : i.own = false) {its : List It} (e : its.map (fun i => (i.sl.data.toList, i.w, i.F)) = i.F.toL) {ah : ByteArray} (ha : ah.data.toList = i.key) (hi : ∀ j ∈ its, j.ah = ah ∧ j.own = false ∧ RxN W h' j.b j.sl j.w j.F) : ∀ j ∈ its, It.Ok W h' j := by
  intro j hj
  obtain ⟨a1, a2, a3⟩ := hi j hj
  have hm : (j.sl.data.toList, j.w, j.F) ∈ i.F.toL := by rw [← e]; exact List.mem_map.2 ⟨j, hj, rfl⟩
  have hcn := (canF_iff.1 io.2.1).2 _ hm
  have hall : ∀ p ∈ prsR j.w j.F, j.key.length + p.1.length ≤ 10000 := fun p hp => by
    have hin : InF i.F (j.sl.data.toList ++ p.1) p.2 := inF_iff.2 ⟨_, hm, p.1, rfl, mem_prsR.1 (show (p.1, p.2) ∈ _ from hp)⟩
    have := io.2.2.2 (j.sl.data.toList ++ p.1, p.2) (mem_prsR.2 (.inr hin))
    unfold It.key at this ⊢
    rw [a1, ha]
    unfold It.key
    simp only [List.length_append] at this ⊢
    omega
  obtain ⟨r, v, hr⟩ := inF_some io.2.1 _ hm
  have := hall (r, v) (mem_prsR.2 hr)
  exact ⟨a3, hcn.2.2, by simp only at this; omega, hall⟩
set_option maxHeartbeats 1000000 in
theorem push_ok {W C : Nat → Prop} {h : Heap} {cb : Nat} {items : List It} {i : It} (cur : Cur W h cb C items) (io : It.Ok W h i) (ho : i.own = false) (hC : ∀ b, h.size ≤ b → C b) (hCW : ∀ b, C b → W b) (hcbW : W cb) (hcb : ¬ C cb) (hcost : costP items + i.cost ≤ 100000000) {K : Unit → Heap → Prop}
    (hk : ∀ h' kids, Cur W h' cb C (items ++ kids) → remP kids = i.prs → costP kids < i.cost → Upd (fun b => C b ∨ b = cb) h h' → K () h') : HC PG f_span_Cursor_push [.pointer (some ⟨cb, 0, none⟩), .agg #[.pointer (some ⟨i.b, 0, none⟩), .string i.ah, .bool i.own]] [] K h := by
  refine H_span_Cursor_push (some ⟨cb, 0, none⟩) i.raw ?_
  unfold F_span_Cursor_push
  obtain ⟨s, hcell, hst⟩ := cur.ex
  refine at_new fun h1 b1 k1 => ?_
  have zc := get_lt hcell
  have s1 := k1.size
  refine ⟨i.ah, vc b1 1, _, vc b1 0, ?_⟩
  have io1 := io.updM (k1.wide (M := C)) fun b hb => .inl (hCW b hb)
  refine rxLabel_ok io1.1 ⟨vc b1 1, ?_, ?_⟩
  · have := io.2.2.1
    unfold It.key at this
    rw [List.length_append] at this
    have e1 : i.ah.data.toList.length = i.ah.size := by simp
    have e2 : i.sl.data.toList.length = i.sl.size := by simp
    omega
  have c1 := k1.get0 hcell
  refine ⟨_, rfl, _, vc2 c1 1 0, _, vc2 c1 1 1, true, vc2 c1 1 2, ?_⟩
  refine past_ok fun h2 k2 => condP_false.2 ⟨_, vc (k2.get0 b1) 0, i.ah, vc (k2.get0 b1) 1, ?_⟩
  have k02 := k1.tr k2
  refine at_new fun h3 b3 k3 => ⟨_, vc (k3.get0 (k2.get0 b1)) 0, ?_⟩
  have k03 := k02.tr k3
  have z3 := get_lt b3
  have s2 := k02.size
  have io3 := io.updM (k03.wide (M := C)) fun b hb => .inl (hCW b hb)
  have hn := can_len io.2.1
  refine rxKids_ok io3.1 hn fun s4 h4 ks ho4 hL4 k4 => ?_
  have k04 := k03.tr k4
  have hs4 : Sl rxF 1 (fun b => h2.size ≤ b ∧ b < h3.size ∨ h4.size ≤ b) h4 s4 ks := ho4.sl fun b hb hlt hx => by rcases hx with hx | hx <;> omega
  have hlk : ks.length ≤ 256 := by rw [hL4.1]; exact hn
  have hlen4 := hs4.len
  have s34 := k4.size
  let own : It := ⟨i.b, i.ah, true, i.sl, i.w, i.F⟩
  have o3 : OwnS wkF 3 t_span_work (fun b => h2.size ≤ b ∧ b < h3.size ∨ h4.size ≤ b) h4 ⟨some (newA h2), 1, 1⟩ [own.raw] := ⟨rfl, wkF_ne, Nat.le_refl _, .inr ⟨h2.size, [], rfl, .inl ⟨Nat.le_refl _, z3⟩, k4.get0 b3, rfl⟩⟩
  have eah : (i.ah ++ i.sl).data.toList = i.key := by unfold It.key; rw [ByteArray.data_append, Array.toList_append]
  obtain ⟨its, e1, e2, e3⟩ := kidsIts (i.ah ++ i.sl) hL4
  have hst4 := (hst.within.upd k04 fun _ _ h => h)
  have c4 := k04.get0 hcell
  have hM : ∀ b, h4.size ≤ b → (h2.size ≤ b ∧ b < h3.size ∨ h4.size ≤ b) := fun b hb => .inr hb
  refine LoopP.ghost (fun (n : Nat) (t : SliceV × Int) h' => t.2 = (n : Int) ∧ n ≤ ks.length ∧ OwnS wkF 3 t_span_work (fun b => h2.size ≤ b ∧ b < h3.size ∨ h4.size ≤ b) h' t.1 (own.raw :: (ks.take n).map fun k => (k, i.ah ++ i.sl, false)) ∧ Upd (fun b => h2.size ≤ b ∧ b < h3.size ∨ h4.size ≤ b) h4 h') (fun n => ks.length - n) 0 ⟨rfl, Nat.zero_le _, by simpa using o3, Upd.refl _ _⟩ ?_
  rintro I n ⟨so, ti⟩ h' ⟨et, hnk, hso, hu⟩ hI
  simp only at et hso
  subst et
  have hsz := hu.size
  refine condP_dec (fun hlt => ?_) fun hge => ?_
  · have hlt : n < ks.length := by have : (n : Int) < (s4.len : Int) := hlt; omega
    obtain ⟨a, ha, _, hv⟩ := (hs4.upd hu fun b hb => .inl hb).at0 (List.getElem?_eq_getElem hlt)
    refine Join.intro (fun t h2' => OwnS wkF 3 t_span_work (fun b => h2.size ≤ b ∧ b < h3.size ∨ h4.size ≤ b) h2' t (own.raw :: (ks.take (n + 1)).map fun k => (k, i.ah ++ i.sl, false)) ∧ Upd (fun b => h2.size ≤ b ∧ b < h3.size ∨ h4.size ≤ b) h4 h2') (fun R hR => ⟨⟨by simp only; omega, by simp only; omega⟩, a, ha, ks[n], hv, at_new fun h5 b5 k5 => ?_⟩) ?_
    · have o5 : OwnS wkF 3 t_span_work (fun _ => True) h5 ⟨some (newA h'), 1, 1⟩ [(ks[n], i.ah ++ i.sl, false)] := ⟨rfl, wkF_ne, Nat.le_refl _, .inr ⟨h'.size, [], rfl, trivial, b5, rfl⟩⟩
      refine ⟨_, (o5.sl (W := No) fun _ _ _ h => h).srow, ?_⟩
      have s5 := k5.size
      refine AppP.own (ys := [(ks[n], i.ah ++ i.sl, false)]) (hso.upd k5 fun _ _ h => h) rfl rfl rfl rfl (by omega) (by rw [List.length_cons, List.length_map, List.length_take, List.length_singleton]; omega) (.inr (by omega)) fun s6 h6 ho6 hu6 => hR _ _ ⟨?_, (hu.tr k5.wide).tr hu6⟩
      rw [List.take_succ_eq_append_getElem hlt, List.map_append]
      exact ho6
    · rintro t h2' ⟨ho2, hu2⟩
      rw [wrap_succ hlt (by omega)]
      exact hI (n + 1) _ _ ⟨rfl, hlt, ho2, hu2⟩ (by omega)
  · have hnl : n = ks.length := by have : ¬ (n : Int) < (s4.len : Int) := hge; omega
    subst hnl
    rw [List.take_length, ← e1] at hso
    have hsub : ∀ b, (h2.size ≤ b ∧ b < h3.size ∨ h4.size ≤ b) → h.size ≤ b := fun b hb => by rcases hb with hb | hb <;> omega
    have hlits : its.length = ks.length := by have := congrArg List.length e1; simpa using this
    refine Join.intro (fun _ h2' => OwnS wkF 3 t_span_work (fun b => h2.size ≤ b ∧ b < h3.size ∨ h4.size ≤ b) h2' so (own.raw :: its.map It.raw).reverse ∧ Upd (fun b => h2.size ≤ b ∧ b < h3.size ∨ h4.size ≤ b) h4 h2') (fun R hR => ?_) ?_
    · have c5 := hu.get c4 (fun hb => by have := hsub _ hb; omega)
      refine ⟨_, rfl, false, vc c5 4, condP_true.2 ?_⟩
      exact reverse_ok hso (by rw [List.length_cons, List.length_map]; omega) fun h6 ho6 hu6 => hR _ _ ⟨ho6, hu.tr hu6⟩
    · rintro _ h6 ⟨ho6, hu6⟩
      have c6 := hu6.get c4 (fun hb => by have := hsub _ hb; omega)
      have hst6 := hst4.upd hu6 fun b hb hx => by have := hsub _ hx; omega
      refine ⟨_, rfl, s, vc c6 0, ?_⟩
      have s6 := hu6.size
      refine ⟨_, (ho6.sl (W := No) fun _ _ _ h => h).srow, ?_⟩
      have hrl := ho6.len
      have hil := len_cost items
      have hmap : (own.raw :: its.map It.raw).reverse = (its.reverse ++ [own]).map It.raw := by rw [List.reverse_cons, List.map_append, List.map_reverse]; rfl
      refine AppP.own (M := C) (ys := (own.raw :: its.map It.raw).reverse) (hst6.more fun b hb => hb.1) hrl rfl (one_wkF _) rfl (by omega) (by rw [List.length_reverse, List.length_cons, List.length_map, List.length_map]; omega) (hC _ (by omega)) fun s7 h7 ho7 hu7 => ?_
      have c7 := hu7.get c6 hcb
      refine ⟨_, rfl, ?_⟩
      refine vset (i := 0) (c' := curC s7) c7 (show 0 < 5 by decide) rfl fun h8 c8 hu8 => ?_
      have ho8 := ho7.upd hu8 fun b hb e => hcb (by have e : b = cb := e; rw [← e]; exact hb)
      rw [hmap, ← List.map_append] at ho8
      have huC : Upd (fun b => C b ∨ b = cb) h h8 := (((k04.wide (M := C)).trans hu6 fun b hb => .inr (hsub b hb)).tr hu7).mono (fun b hb => .inl (.inl hb)) |>.trans hu8 fun b hb => .inl (.inr hb)
      have hupd : ∀ {j : It}, It.Ok W h4 j → It.Ok W h8 j := fun oj => ((oj.updM hu6 fun b hb => .inl (hCW b (hC b (hsub b hb)))).updM hu7 fun b hb => .inl (hCW b hb)).updM hu8 fun b hb => .inl (by have hb : b = cb := hb; rw [hb]; exact hcbW)
      refine hk h8 (its.reverse ++ [own]) ⟨⟨s7, c8, ho8⟩, fun j hj => ?_⟩ ?_ ?_ huC
      · rcases List.mem_append.1 hj with hj | hj
        · exact (cur.ok j hj).updM huC fun b hb => .inl (hb.elim (hCW b) fun e => e ▸ hcbW)
        · rcases List.mem_append.1 hj with hj | hj
          · exact hupd (kid_ok io ho e2 eah e3 j (List.mem_reverse.1 hj))
          · rw [List.mem_singleton.1 hj]
            exact It.Ok.updM (i := own) huC (fun b hb => .inl (hb.elim (hCW b) fun e => e ▸ hcbW)) ⟨io.1, io.2⟩
      · rw [remP_snoc]
        unfold remP
        rw [List.reverse_reverse, prsF_its eah e2 fun j hj => ⟨(e3 j hj).1, (e3 j hj).2.1⟩]
        show (i.w.map fun v => (own.key, v)).toList ++ _ = It.prs i
        have hke : own.key = i.key := rfl
        unfold It.prs prsR
        rw [ho, hke]
        simp only [Bool.false_eq_true, if_false, List.map_append]
        congr 1
        cases i.w with
        | none => rfl
        | some v => simp
      · rw [costP_app]
        have hc1 : costP its.reverse = costP its := by unfold costP; rw [List.map_reverse, List.sum_reverse]
        rw [hc1, cost_its e2 fun j hj => (e3 j hj).2.1]
        have : costP [own] = 1 := rfl
        rw [this]
        unfold It.cost
        rw [ho]
        simp only [Bool.false_eq_true, if_false]
        omega
end Go.Proofs
namespace Go.Proofs
open Go Go.Lift
theorem Cur.upd {W C M : Nat → Prop} {h h' : Heap} {cb : Nat} {items : List It} (c : Cur W h cb C items) (k : Upd M h h') (hW : ∀ b, M b → W b ∨ h.size ≤ b) (hCm : ∀ b, C b → b < h.size → ¬ M b) (hcb : ¬ M cb) : Cur W h' cb C items := by
  obtain ⟨s, h1, h2⟩ := c.ex
  exact ⟨⟨s, k.get h1 hcb, (h2.within.upd k fun b hb => hCm b hb.1 hb.2).more fun b hb => hb.1⟩, fun i hi => (c.ok i hi).updM k hW⟩
theorem Cur.sub {W C C' : Nat → Prop} {h : Heap} {cb : Nat} {items : List It} (c : Cur W h cb C items) (hs : ∀ b, C b → b < h.size → C' b) : Cur W h cb C' items := by
  obtain ⟨s, h1, h2⟩ := c.ex
  exact ⟨⟨s, h1, h2.within.more fun b hb => hs b hb.1 hb.2⟩, c.ok⟩
set_option maxHeartbeats 1000000 in
theorem next_ok {W C : Nat → Prop} {h : Heap} {cb : Nat} {items : List It} (cur : Cur W h cb C items) (hC : ∀ b, h.size ≤ b → C b) (hCW : ∀ b, C b → W b) (hcbW : W cb) (hcb : ¬ C cb) (hcost : costP items ≤ 100000000) {K : (ByteArray × ByteArray) × Bool → Heap → Prop}
    (hn : ∀ h', remP items = [] → Upd (fun b => C b ∨ b = cb) h h' → K (((⟨#[]⟩ : ByteArray), (⟨#[]⟩ : ByteArray)), false) h')
    (hs : ∀ h' items' k v R, remP items = (k, v) :: R → remP items' = R → costP items' ≤ costP items → Cur W h' cb C items' → Upd (fun b => C b ∨ b = cb) h h' → K ((⟨k.toArray⟩, v), true) h') :
    HC PG f_span_Cursor_Next [.pointer (some ⟨cb, 0, none⟩)] [.agg [.str, .str], .c .bool] K h := by
  refine H_span_Cursor_Next (some ⟨cb, 0, none⟩) ?_
  unfold F_span_Cursor_Next
  refine at_new fun h1 b1 k1 => condP_false.2 ?_
  have z1 := get_lt b1
  obtain ⟨s0, hc0, _⟩ := cur.ex
  have zc := get_lt hc0
  have s1 := k1.size
  have hC1 : ∀ b, h1.size ≤ b → C b ∧ b ≠ h.size := fun b hb => ⟨hC b (by omega), by omega⟩
  have cur1 : Cur W h1 cb (fun b => C b ∧ b ≠ h.size) items := (cur.sub fun b hb hlt => (⟨hb, by omega⟩ : C b ∧ b ≠ h.size)).upd k1 (fun _ h => h.elim) (fun _ _ _ h => h) fun h => h
  refine LoopP.ghost (fun (its : List It) (_ : Unit) h' => Cur W h' cb (fun b => C b ∧ b ≠ h.size) its ∧ remP its = remP items ∧ costP its ≤ costP items ∧ h'[h.size]? = some (.cells zPrL.toArray t_pair_Pair (0, 0)) ∧ Upd (fun b => C b ∨ b = cb) h h' ∧ h1.size ≤ h'.size) costP items ⟨cur1, rfl, Nat.le_refl _, b1, k1.wide, Nat.le_refl _⟩ ?_
  rintro I its ⟨⟩ h' ⟨cu, hrem, hco, bz, hu, hsz⟩ hI
  obtain ⟨s, hcell, hst⟩ := cu.ex
  have hlen := hst.len
  rw [List.length_map] at hlen
  refine ⟨_, rfl, s, vc hcell 0, ?_⟩
  refine condP_dec (fun hpos => ?_) fun hnp => ?_
  · have hpos : 0 < its.length := by omega
    obtain ⟨its', i, rfl⟩ : ∃ its' i, its = its' ++ [i] := ⟨its.dropLast, its.getLast (by intro e; rw [e] at hpos; simp at hpos), (List.dropLast_concat_getLast _).symm⟩
    rw [List.map_append] at hst
    rw [List.length_append, List.length_singleton] at hlen
    have hil := len_cost (its' ++ [i])
    rw [List.length_append, List.length_singleton] at hil
    have eidx : IntKind.wrap .i64 ((s.len : Int) - 1) = ((its'.length : Nat) : Int) := by rw [w64 (by omega)]; omega
    have sl := hst.sl (W := No) fun _ _ _ h => h
    obtain ⟨a, ha, _, hv⟩ := sl.at (i := its'.length) (x := i.raw) (by rw [List.getElem?_append_right (by rw [List.length_map]; omega), List.length_map, Nat.sub_self]; rfl)
    have hio := cu.ok i (List.mem_append_right _ (List.mem_singleton.2 rfl))
    refine ⟨_, rfl, s, vc hcell 0, _, rfl, s, vc hcell 0, ?_⟩
    rw [eidx]
    refine ⟨⟨by omega, by omega⟩, a, ha, some ⟨i.b, 0, none⟩, hv 0 _ rfl, i.ah, hv 1 _ rfl, i.own, hv 2 _ rfl, ?_⟩
    refine at_new fun h2 b2 k2 => ?_
    have sl2 := sl.upd k2 fun _ h => h.elim
    obtain ⟨a', ha', _, hv2⟩ := sl2.at (i := its'.length) (x := i.raw) (by rw [List.getElem?_append_right (by rw [List.length_map]; omega), List.length_map, Nat.sub_self]; rfl)
    rw [ha] at ha'; cases ha'
    have c2 := k2.get0 hcell
    refine ⟨⟨hv2 0 _ rfl, hv2 1 _ rfl, hv2 2 _ rfl⟩, vc c2 0, vc c2 0, ?_⟩
    refine setAll (c := [.pointer none, .string (⟨#[]⟩ : ByteArray), .bool false]) (vs := [.pointer (some ⟨i.b, 0, none⟩), .string i.ah, .bool i.own]) b2 rfl fun h3 b3 hu3 => ?_
    have k3 : Upd No h' h3 := k2.own hu3 (Nat.le_refl _)
    have c3 := k3.get0 hcell
    have zcb := get_lt hcell
    have z3 := get_lt b3
    have s3 := k3.size
    refine ⟨_, rfl, s, vc c3 0, _, rfl, s, vc c3 0, ?_⟩
    rw [eidx]
    have hcap := hst.cap
    refine ⟨⟨by omega, by omega⟩, ?_⟩
    simp only [Bd]
    refine ⟨_, rfl, ?_⟩
    refine vset (i := 0) (c' := curC ⟨subAddr s.a 0 s.cap 3, its'.length, s.cap⟩) c3 (show 0 < 5 by decide) rfl fun h4 c4 hu4 => ?_
    have b4 := hu4.oth b3 (by omega)
    have bz4 := hu4.oth (k3.get0 bz) (by omega)
    have hpop := OwnS.pop hst
    have hst4 := ((hpop.upd k3 fun _ _ h => h).upd hu4 fun b hb e => hcb (by have e : b = cb := e; rw [← e]; exact hb.1))
    rw [List.length_map] at hst4
    have huW : ∀ {j}, It.Ok W h' j → It.Ok W h4 j := fun oj => (oj.updM k3 fun _ h => h.elim).updM hu4 fun b hb => .inl (by have hb : b = cb := hb; rw [hb]; exact hcbW)
    have cu4 : Cur W h4 cb (fun b => C b ∧ b ≠ h.size) its' := ⟨⟨_, c4, hst4⟩, fun j hj => huW (cu.ok j (List.mem_append_left _ hj))⟩
    have hio4 := huW hio
    have hu04 : Upd (fun b => C b ∨ b = cb) h h4 := (hu.tr k3.wide).trans hu4 fun b hb => .inl (.inr hb)
    have s4 := hu4.size
    have hcs : costP (its' ++ [i]) = costP its' + i.cost := by rw [costP_app]; rfl
    have hrs := remP_snoc its' i
    have hic : 1 ≤ i.cost := by unfold It.cost; split <;> omega
    refine ⟨i.own, vc b4 2, ?_⟩
    cases how : i.own with
    | false =>
      refine condP_true.2 ⟨_, vc b4 0, i.ah, vc b4 1, i.own, vc b4 2, ?_⟩
      refine push_ok cu4 hio4 how (fun b hb => hC1 b (by omega)) (fun b hb => hCW b hb.1) hcbW (fun hx => hcb hx.1) (by omega) fun h5 kids cu5 hr5 hc5 hu5 => ?_
      have hu5' : Upd (fun b => C b ∨ b = cb) h4 h5 := hu5.mono fun b hb => .inl (hb.imp (fun h => h.1) id)
      refine hI (its' ++ kids) () h5 ⟨cu5, ?_, ?_, hu5.get bz4 (fun hx => by rcases hx with hx | hx; exact hx.2 rfl; omega), hu04.tr hu5', by have := hu5.size; omega⟩ ?_
      · rw [remP_app, hr5, ← hrem, hrs]
      · rw [costP_app]; omega
      · rw [costP_app]; omega
    | true =>
      refine condP_false.2 ⟨i.ah, vc b4 1, _, vc b4 0, ?_⟩
      refine rxLabel_ok hio4.1 ⟨vc b4 1, ?_, ?_⟩
      · have := hio.2.2.1
        unfold It.key at this
        rw [List.length_append] at this
        have e1 : i.ah.data.toList.length = i.ah.size := by simp
        have e2 : i.sl.data.toList.length = i.sl.size := by simp
        omega
      refine ⟨_, vc b4 0, rxValue_ok hio4.1 fun v hvw => ?_⟩
      have hpr : i.prs = (i.w.map fun v => (i.key, v)).toList := by unfold It.prs; rw [how]; rfl
      have ekey : (⟨i.key.toArray⟩ : ByteArray) = i.ah ++ i.sl := by rw [← bytes_list, ByteArray.data_append, Array.toList_append]; rfl
      refine Join.intro (fun t h5 => t = i.w.isSome ∧ Upd No h4 h5) (fun R hR => ?_) ?_
      · cases hw : i.w with
        | none => exact condP_false.2 (hR _ _ ⟨by rw [hw]; rfl, Upd.refl _ _⟩)
        | some u => exact condP_true.2 ⟨_, rfl, _, vc2 c4 1 0, _, vc2 c4 1 1, true, vc2 c4 1 2, has_span_ok fun h5 k5 => hR _ _ ⟨by rw [hw]; rfl, k5⟩⟩
      · rintro t h5 ⟨rfl, k5⟩
        have cu5 : Cur W h5 cb (fun b => C b ∧ b ≠ h.size) its' := cu4.upd k5 (fun _ h => h.elim) (fun _ _ _ h => h) fun h => h
        have bz5 := k5.get0 bz4
        have hu05 := hu04.tr (k5.wide (M := fun b => C b ∨ b = cb))
        have s5 := k5.size
        cases hw : i.w with
        | none =>
          refine condP_false.2 (hI its' () h5 ⟨cu5, ?_, by omega, bz5, hu05, by omega⟩ (by omega))
          rw [← hrem, hrs, hpr, hw]; rfl
        | some u =>
          have hvu := hvw u hw
          subst hvu
          refine condP_true.2 ?_
          refine setAll (c := zPrL) (vs := [.string (i.ah ++ i.sl), .string v]) bz5 rfl fun h6 b6 hu6 => ?_
          refine ⟨_, vc b6 0, _, vc b6 1, ?_⟩
          rw [← ekey]
          refine hs h6 its' i.key v (remP its') (by rw [← hrem, hrs, hpr, hw]; rfl) rfl (by omega) ?_ (hu05.trans hu6 fun b hb => .inr (Nat.le_of_eq (Eq.symm hb)))
          exact (cu5.upd hu6 (fun b hb => .inl (hCW b (hC b (Nat.le_of_eq (Eq.symm hb))))) (fun b hb _ e => hb.2 e) (by show ¬ cb = h.size; omega)).sub fun b hb _ => hb.1
  · have h0 : its = [] := List.length_eq_zero_iff.1 (by omega)
    subst h0
    refine setAll (c := zPrL) (vs := zPrL) bz rfl fun h6 b6 hu6 => ?_
    refine ⟨_, vc b6 0, _, vc b6 1, hn h6 hrem.symm (hu.trans hu6 fun b hb => .inr (Nat.le_of_eq (Eq.symm hb)))⟩
end Go.Proofs
namespace Go.Proofs
open Go Go.Lift
abbrev encP (x : Pr) : List Value := [.agg #[.string x.1, .string x.2]]
theorem appendSeqP_ok {h : Heap} {fv : Value} {N : Nat} {S : List Pr → Prop} {Q : Nat → Prop} (hg : Gives PG fv encP N S Q h) (hN : N ≤ 100000000) {K : SliceV → Heap → Prop}
    (hk : ∀ s' h' xs, S xs → OwnS prF 2 t_pair_Pair (fun b => h.size ≤ b) h' s' xs → Upd No h h' → K s' h') : HC PG f_slices_AppendSeq_A_pair_Pair_pair_Pair [.slice none 0 0, fv] [.c .slice] K h := by
  refine H_slices_AppendSeq_A_pair_Pair_pair_Pair ⟨none, 0, 0⟩ fv ?_
  unfold F_slices_AppendSeq_A_pair_Pair_pair_Pair
  have k0 := Upd.hnew No h [.slice none 0 0] t_A_pair_Pair
  have b0 := hnew_get h [.slice none 0 0] t_A_pair_Pair
  have hsz : (hnew h [.slice none 0 0] t_A_pair_Pair).size = h.size + 1 := hnew_size ..
  have hg1 := hg.upd k0 fun _ _ => id
  refine at_intro ?_
  generalize hnew h [.slice none 0 0] t_A_pair_Pair = h1 at hg1 k0 b0 hsz
  refine ⟨fun lo hlo hround => ?_⟩
  obtain ⟨f, first, cap, rfl, hrun⟩ := hg1.run
  refine ⟨f, first, cap, rfl, ?_⟩
  have k1 : Upd No h1 ((h1.push (.deferred (some []))).push (lo .ready none)) := (Upd.push No _ _).tr (Upd.push No _ _)
  have l2 : ((h1.push (.deferred (some []))).push (lo .ready none))[h1.size + 1]? = some (lo .ready none) := by
    have := push_get (h1.push (.deferred (some []))) (lo .ready none)
    rwa [Array.size_push] at this
  have l1 : ((h1.push (.deferred (some []))).push (lo .ready none))[h1.size]? = some (.deferred (some [])) := (Upd.push No _ _).get0 (push_get h1 _)
  refine hrun (.func (.yield (h1.size + 1)) #[] #[]) (fun pre A h' => (∀ b, A b → b < h'.size ∧ h.size ≤ b) ∧ A h.size ∧ A h1.size ∧ A (h1.size + 1) ∧ h'[h1.size]? = some (.deferred (some [])) ∧ h'[h1.size + 1]? = some (lo .ready none) ∧
      ∃ s : SliceV, h'[h.size]? = some (.cells #[sv s] t_A_pair_Pair (0, 0)) ∧ OwnS prF 2 t_pair_Pair (fun b => A b ∧ h1.size + 1 < b) h' s pre ∧ pre.length ≤ N)
    (fun b => b = h.size ∨ b = h1.size ∨ b = h1.size + 1) No _ _ ⟨fun _ _ _ hj b hb => (hj.1 b hb).1, fun pre A h' h'' B hj hu hB => ?_, fun pre A h' x K' hj hlen hK => ?_⟩ ?_ k1 (fun _ _ => id) (fun b hb hq => ?_) ?_
  · obtain ⟨h1', h2, h3, h4, h5, h6, s, h7, h8, h9⟩ := hj
    exact ⟨fun b hb => ⟨Nat.lt_of_lt_of_le (h1' b hb).1 hu.size, (h1' b hb).2⟩, h2, h3, h4, hu.get h5 (hB _ h3), hu.get h6 (hB _ h4), s, hu.get h7 (hB _ h2), h8.upd hu fun b hb => hB b hb.1, h9⟩
  · obtain ⟨hA, hA1, hA2, hA3, hd, hl, s, hs, ho, hpl⟩ := hj
    refine hround x h' K' hl ?_
    refine newPr (p := x) fun hp bp kp => ?_
    have zp := get_lt bp
    have hl := kp.get0 hl
    have hs := kp.get0 hs
    have hd := kp.get0 hd
    have hop := ho.upd kp fun _ _ h => h
    have sp := kp.size
    refine ⟨hl, ?_⟩
    have kb : Upd (· = h1.size + 1) hp (hp.setIfInBounds (h1.size + 1) (lo .busy none)) := Upd.set _ _ rfl
    have lb := set_get (o := lo .busy none) hl
    have sb := kb.size
    refine at_intro ?_
    generalize hp.setIfInBounds (h1.size + 1) (lo .busy none) = h2 at kb lb sb
    have hlt1 := (hA _ hA1).1
    have hlt3 := (hA _ hA3).1
    have bp2 := kb.get bp (by omega)
    have hs2 := kb.get hs (by omega)
    refine ⟨s, by rw [newA_eq, hcell_blk hs2]; rfl, _, vc bp2 0, _, vc bp2 1, at_intro ?_⟩
    refine append1p (p := x) (M := fun b => ((A b ∧ b < h'.size) ∨ h2.size ≤ b) ∧ h1.size + 1 < b) ((hop.upd kb fun b hb => by omega).more fun b hb => ⟨.inl ⟨hb.1, (hA b hb.1).1⟩, hb.2⟩) (fun b hb => ⟨.inr hb, by have := get_lt lb; omega⟩) (by omega) fun s' h3 ho3 hu3 => ?_
    have hs3 : h3[h.size]? = some (.cells #[sv s] t_A_pair_Pair (0, 0)) := hu3.get hs2 (by omega)
    refine ⟨by rw [newA_eq]; exact wr_blk hs3 (by simp), ?_⟩
    have k4 : Upd (· = h.size) h3 (hset h3 (newA h) (.slice s'.a s'.len s'.cap)) := Upd.hset _ _ rfl
    have hs4 : (hset h3 (newA h) (.slice s'.a s'.len s'.cap))[h.size]? = some (.cells #[sv s'] t_A_pair_Pair (0, 0)) := by
      rw [newA_eq, hset_blk hs3, set_get hs3]; rfl
    refine at_intro ?_
    generalize hset h3 (newA h) (.slice s'.a s'.len s'.cap) = h4 at k4 hs4
    have hl4 : h4[h1.size + 1]? = some (lo .busy none) := k4.get (hu3.get lb (by omega)) (by omega)
    refine ⟨hl4, ?_⟩
    have k5 : Upd (· = h1.size + 1) h4 (h4.setIfInBounds (h1.size + 1) (lo .ready none)) := Upd.set _ _ rfl
    have hl5 := set_get (o := lo .ready none) hl4
    have hall : Upd A h' h4 := ((kp.wide.tr (kb.mono (M' := A) fun b hb => .inl (hb ▸ hA3))).trans hu3 fun b hb => hb.1.imp (fun h => h.1) fun h => by omega).trans k4 fun b hb => .inl (hb ▸ hA1)
    have z3 := hu3.size
    have z4 := k4.size
    have z5 := k5.size
    refine hK _ (fun b => ((A b ∧ b < h'.size) ∨ h2.size ≤ b) ∧ b < h4.size) ⟨fun b hb => ⟨Nat.lt_of_lt_of_le hb.2 z5, hb.1.elim (fun h => (hA b h.1).2) fun h => by omega⟩, ⟨.inl ⟨hA1, hlt1⟩, by omega⟩, ⟨.inl ⟨hA2, (hA _ hA2).1⟩, by have := (hA _ hA2).1; omega⟩, ⟨.inl ⟨hA3, hlt3⟩, by omega⟩,
      k5.get (k4.get (hu3.get (kb.get hd (by omega)) (by omega)) (by omega)) (by omega), hl5, s', k5.get hs4 (by omega), ?_, by simp; omega⟩ (hall.trans k5 fun b hb => .inl (hb ▸ hA3)) fun b hb => hb.1.imp (fun h => h.1) fun h => by omega
    exact (((ho3.upd k4 fun b hb => by omega).within).more fun b hb => ⟨⟨hb.1.1, hb.2⟩, hb.1.2⟩).upd k5 fun b hb => by omega
  · refine ⟨fun b hb => ?_, .inl rfl, .inr (.inl rfl), .inr (.inr rfl), l1, l2, ⟨none, 0, 0⟩, k1.get0 b0, OwnS.nil prF_ne, Nat.zero_le _⟩
    have := get_lt l2
    rcases hb with rfl | rfl | rfl <;> omega
  · have := hg.lt b hq
    rcases hb with rfl | rfl | rfl <;> omega
  · rintro xs A' h' hS ⟨hA, hA1, hA2, hA3, hd, hl, s, hs, ho, hpl⟩ hu hA'
    refine ⟨.ready, none, by decide, hl, ?_⟩
    have k5 : Upd (· = h1.size + 1) h' (h'.setIfInBounds (h1.size + 1) (lo .exhausted none)) := Upd.set _ _ rfl
    show ∃ v : SliceV, hcell (h'.setIfInBounds (h1.size + 1) (lo .exhausted none)) (newA h) = some (.slice v.a v.len v.cap) ∧ _
    have hd5 := k5.get hd (show ¬ h1.size = h1.size + 1 by omega)
    have hs5 := k5.get hs (show ¬ h.size = h1.size + 1 by omega)
    have ho5 := ho.upd k5 fun b hb => by omega
    generalize h'.setIfInBounds (h1.size + 1) (lo .exhausted none) = h5 at k5 hd5 hs5 ho5
    refine ⟨s, by rw [newA_eq, hcell_blk hs5]; rfl, hd5, ?_⟩
    have k6 : Upd (· = h1.size) h5 (h5.setIfInBounds h1.size (.deferred none)) := Upd.set _ _ rfl
    refine hk s _ xs hS ((ho5.upd k6 fun b hb => by omega).more fun b hb => (hA b hb.1).2) ?_
    refine (((k0.tr k1).trans hu fun b hb => ?_).trans k5 fun b hb => .inr (by omega)).trans k6 fun b hb => .inr (by omega)
    rcases hb with rfl | rfl | rfl <;> (right; omega)
theorem collectP_ok {h : Heap} {fv : Value} {N : Nat} {S : List Pr → Prop} {Q : Nat → Prop} (hg : Gives PG fv encP N S Q h) (hN : N ≤ 100000000) {K : SliceV → Heap → Prop}
    (hk : ∀ s' h' xs, S xs → OwnS prF 2 t_pair_Pair (fun b => h.size ≤ b) h' s' xs → Upd No h h' → K s' h') : HC PG f_slices_Collect_pair_Pair [fv] [.c .slice] K h := by
  refine H_slices_Collect_pair_Pair fv ?_
  unfold F_slices_Collect_pair_Pair
  exact appendSeqP_ok hg hN hk
theorem spanNew_ok {W : Nat → Prop} {h : Heap} {b : Nat} {w : Option ByteArray} {F : Fo} (io : It.Ok W h ⟨b, ⟨#[]⟩, false, ⟨#[]⟩, w, F⟩) (hW : ∀ y, h.size ≤ y → W y) {K : Option Addr → Heap → Prop}
    (hk : ∀ h' cb, h.size ≤ cb → cb < h'.size → Cur W h' cb (fun y => h.size ≤ y ∧ y ≠ cb) [⟨b, ⟨#[]⟩, false, ⟨#[]⟩, w, F⟩] → Upd No h h' → K (some ⟨cb, 0, none⟩) h') : HC PG f_span_New [.pointer (some ⟨b, 0, none⟩), .agg #[.string ⟨#[]⟩, .string ⟨#[]⟩, .bool true], .bool false] [.c .ptr] K h := by
  refine H_span_New (some ⟨b, 0, none⟩) (⟨#[]⟩, ⟨#[]⟩, true) false ?_
  unfold F_span_New
  refine at_new fun h1 b1 k1 => ⟨_, vc b1 0, _, vc b1 1, true, vc b1 2, at_new fun h2 b2 k2 => condP_true.2 ⟨_, rfl, ⟨none, 0, 0⟩, vc b2 0, at_new fun h3 b3 k3 => ?_⟩⟩
  have s1 := k1.size
  have s2 := k2.size
  have z2 := get_lt b2
  have z3 := get_lt b3
  have o3 : OwnS wkF 3 t_span_work (fun _ => True) h3 ⟨some (newA h2), 1, 1⟩ [(some ⟨b, 0, none⟩, ⟨#[]⟩, false)] := ⟨rfl, wkF_ne, Nat.le_refl _, .inr ⟨h2.size, [], rfl, trivial, b3, rfl⟩⟩
  refine ⟨_, (o3.sl (W := No) fun _ _ _ h => h).srow, ?_⟩
  refine AppP.own (M := fun y => h3.size ≤ y) (ys := [(some ⟨b, 0, none⟩, ⟨#[]⟩, false)]) (OwnS.nil (f := wkF) wkF_ne) rfl rfl rfl rfl (by omega) (by simp) (Nat.le_refl _) fun s4 h4 ho4 hu4 => ?_
  have c4 := hu4.get (k3.get0 b2) (by omega)
  refine ⟨_, rfl, ?_⟩
  refine vset (i := 0) (c' := curC s4) c4 (show 0 < 5 by decide) rfl fun h5 c5 hu5 => ?_
  have hu : Upd No h h5 := (((k1.tr k2).tr k3).trans hu4 fun y hy => .inr (by omega)).own hu5 s1
  have s5 := hu4.size
  have s6 := hu5.size
  refine hk h5 h1.size s1 (by omega) ⟨⟨s4, c5, ?_⟩, fun i hi => ?_⟩ hu
  · exact (ho4.upd hu5 fun y hy e => by have e : y = h1.size := e; omega).more fun y hy => ⟨by omega, by omega⟩
  · rw [List.mem_singleton.1 hi]
    exact io.updM hu fun _ h => h.elim
theorem toU_app (l m : List Pr) : toU (l ++ m) = toU l ++ toU m := by unfold toU; rw [List.map_append]
theorem spanEach_ok {W : Nat → Prop} {h : Heap} {b : Nat} {l : List Pr} (t : RadAt W h b l) (hr : Rises l) (hf : Fit l) (hn : l.length ≤ 60000) {K : Value → Heap → Prop}
    (hk : ∀ fv h', Gives PG fv encP (2 * l.length) (fun xs => xs = l) (fun y => y < h'.size) h' → Upd No h h' → K fv h') : HC PG f_span_Each [.pointer (some ⟨b, 0, none⟩), .agg #[.string ⟨#[]⟩, .string ⟨#[]⟩, .bool true], .bool false] [.c .raw] K h := by
  refine H_span_Each (some ⟨b, 0, none⟩) (⟨#[]⟩, ⟨#[]⟩, true) false ?_
  unfold F_span_Each
  refine at_new fun h1 b1 k1 => at_new fun h2 b2 k2 => at_new fun h3 b3 k3 => ?_
  have k03 := (k1.tr k2).tr k3
  have c1 := k3.get0 (k2.get0 b1)
  have c2 := k3.get0 b2
  have z1 := get_lt c1
  have z2 := get_lt c2
  have z3 := get_lt b3
  refine hk _ h3 ?_ k03
  obtain ⟨w, F, r1, r2, r3⟩ := (((t.upd0 k03).less (W' := fun y => h3.size ≤ y) fun y hy => .inr hy)).ex
  have hprs := rad_prs r2 hr r3
  have hcnt := cntF_le r2
  have hlenU := congrArg List.length hprs
  unfold prsR toU at hlenU
  rw [List.length_append, List.length_map] at hlenU
  refine ⟨fun y hy => hy, f_span_Each_1, #[], _, rfl, fun y J A M h4 K' ht hj hu hq ha hk' => ?_⟩
  refine HE_span_Each_1 y (newA h) (newA h1) (newA h2) ?_
  unfold F_span_Each_1
  have d1 := hu.get c1 (hq _ z1)
  have d2 := hu.get c2 (hq _ z2)
  have d3 := hu.get b3 (hq _ z3)
  have s4 := hu.size
  have io : It.Ok (fun y => h3.size ≤ y) h4 ⟨b, ⟨#[]⟩, false, ⟨#[]⟩, w, F⟩ := ⟨r1.updM hu fun y hy => .inl (by
    rcases Nat.lt_or_ge y h3.size with hl | hl
    · exact absurd hy (hq y hl)
    · exact hl), r2, by simp [It.key], fun p hp => by
      rw [hprs] at hp
      obtain ⟨q, hq', e⟩ := List.mem_map.1 hp
      have := (hf q hq').1
      rw [← e]
      simpa [It.key] using this⟩
  refine ⟨_, (by have := vc d1 0; rw [adr_mk, Nat.add_zero] at this; exact this), _, vc d2 0, _, vc d2 1, true, vc d2 2, false, (by have := vc d3 0; rw [adr_mk, Nat.add_zero] at this; exact this), ?_⟩
  refine spanNew_ok io (fun y hy => Nat.le_trans s4 hy) fun h5 cb hcb hcb5 cur k5 => ?_
  have hAlt := ht.lt _ _ _ hj
  have hA3 : ∀ y, A y → h3.size ≤ y := fun y hy => by
    rcases Nat.lt_or_ge y h3.size with hl | hl
    · exact absurd hl (ha y hy)
    · exact hl
  have s5 := k5.size
  have hcost0 : costP [⟨b, ⟨#[]⟩, false, ⟨#[]⟩, w, F⟩] ≤ 100000000 := by
    have : costP [⟨b, ⟨#[]⟩, false, ⟨#[]⟩, w, F⟩] = 2 + 2 * cntF F := by simp [costP, It.cost]
    rw [this]; omega
  have hrem0 : remP [⟨b, ⟨#[]⟩, false, ⟨#[]⟩, w, F⟩] = toU l := by
    rw [← hprs]
    simp [remP, It.prs, It.key]
  refine LoopP.ghost (fun (g : List Pr × List It × (Nat → Prop)) (_ : Unit) h' => Cur (fun y => h3.size ≤ y) h' cb (fun y => h4.size ≤ y ∧ y ≠ cb ∧ ¬ g.2.2 y) g.2.1 ∧ J g.1 g.2.2 h' ∧ Upd A h4 h' ∧ (∀ y, g.2.2 y → (A y ∨ h4.size ≤ y) ∧ y ≠ cb) ∧ toU g.1 ++ remP g.2.1 = toU l ∧ costP g.2.1 ≤ 100000000 ∧ h5.size ≤ h'.size) (fun g => (remP g.2.1).length) ([], [⟨b, ⟨#[]⟩, false, ⟨#[]⟩, w, F⟩], A)
    ⟨cur.sub fun y hy hlt => ⟨hy.1, hy.2, fun hx => by have := hAlt y hx; omega⟩, ht.keep _ _ _ _ No hj k5 (fun _ _ h => h), k5.wide, fun y hy => ⟨.inl hy, by have := hAlt y hy; omega⟩, by rw [hrem0]; rfl, hcost0, Nat.le_refl _⟩ ?_
  rintro I ⟨pre, items, A1⟩ ⟨⟩ h' ⟨cu, hj', hu', hA1, hrem, hco, hsz⟩ hI
  simp only at cu hj' hA1 hrem hco
  have hlt' := ht.lt _ _ _ hj'
  have hA1W : ∀ y, A1 y → h3.size ≤ y := fun y hy => (hA1 y hy).1.elim (hA3 y) fun h => by omega
  refine next_ok cu (fun y hy => ⟨by omega, by omega, fun hx => by have := hlt' y hx; omega⟩) (fun y hy => Nat.le_trans s4 hy.1) (Nat.le_trans s4 hcb) (fun hx => hx.2.1 rfl) hco (fun h6 hr0 hu6 => ?_) fun h6 items' k v R hr1 hr2 hc6 cu6 hu6 => ?_
  · have hd : ∀ y, A1 y → ¬ ((h4.size ≤ y ∧ y ≠ cb ∧ ¬ A1 y) ∨ y = cb) := fun y hy hx => hx.elim (fun h => h.2.2 hy) (hA1 y hy).2
    have hj6 := ht.keep _ _ _ _ _ hj' hu6 hd
    refine newPr fun h7 b7 k7 => ?_
    refine Join.intro (fun t h8 => t = true ∧ h8 = h7) (fun R hR => condP_true.2 (hR _ _ ⟨rfl, rfl⟩)) ?_
    rintro t h8 ⟨rfl, rfl⟩
    refine condP_true.2 (hk' pre A1 h8 ?_ (ht.keep _ _ _ _ No hj6 k7 (fun _ _ h => h)) ?_ fun y hy => (hA1 y hy).1)
    · rw [hr0, List.append_nil] at hrem
      exact toU_inj hrem
    · exact (hu'.trans hu6 fun y hy => .inr (by rcases hy with hy | hy; exact hy.1; omega)).tr k7.wide
  · have hd : ∀ y, A1 y → ¬ ((h4.size ≤ y ∧ y ≠ cb ∧ ¬ A1 y) ∨ y = cb) := fun y hy hx => hx.elim (fun h => h.2.2 hy) (hA1 y hy).2
    have hj6 := ht.keep _ _ _ _ _ hj' hu6 hd
    refine newPr (p := (⟨k.toArray⟩, v)) fun h7 b7 k7 => ?_
    have hj7 := ht.keep _ _ _ _ No hj6 k7 (fun _ _ h => h)
    have cu7 := cu6.upd k7 (fun _ h => h.elim) (fun _ _ _ h => h) fun h => h
    have hu47 : Upd A h4 h7 := (hu'.trans hu6 fun y hy => .inr (by rcases hy with hy | hy; exact hy.1; omega)).tr k7.wide
    have s6 := hu6.size
    have s7 := k7.size
    refine Join.intro (fun t h8 => t = false ∧ ∃ A3, J (pre ++ [(⟨k.toArray⟩, v)]) A3 h8 ∧ Upd A1 h7 h8 ∧ ∀ y, A3 y → A1 y ∨ h7.size ≤ y) (fun R' hR => ?_) ?_
    · refine condP_false.2 ⟨_, vc b7 0, _, vc b7 1, ?_⟩
      refine ht.step pre A1 h7 (⟨k.toArray⟩, v) _ hj7 ?_ fun h8 A3 hj8 hu8 hA8 => hR _ _ ⟨rfl, A3, hj8, hu8, hA8⟩
      have := congrArg List.length hrem
      rw [hr1] at this
      simp only [toU, List.length_append, List.length_map, List.length_cons] at this
      omega
    · rintro t h8 ⟨rfl, A3, hj8, hu8, hA8⟩
      refine condP_false.2 (hI (pre ++ [(⟨k.toArray⟩, v)], items', A3) () h8 ⟨?_, hj8, ?_, fun y hy => ?_, ?_, by simp only; omega, by have := hu8.size; omega⟩ ?_)
      · have c7 : Cur (fun y => h3.size ≤ y) h7 cb (fun y => (h4.size ≤ y ∧ y ≠ cb ∧ ¬ A1 y) ∧ y < h7.size) items' := cu7.sub fun y hy hlt => ⟨hy, hlt⟩
        exact (c7.upd hu8 (fun y hy => .inl (hA1W y hy)) (fun y hy _ hx => hy.1.2.2 hx) (fun hx => (hA1 _ hx).2 rfl)).sub fun y hy _ => ⟨hy.1.1, hy.1.2.1, fun hx => by
          rcases hA8 y hx with h | h
          · exact hy.1.2.2 h
          · have := hy.2; omega⟩
      · exact hu47.trans hu8 fun y hy => (hA1 y hy).1
      · rcases hA8 y hy with h | h
        · exact hA1 y h
        · exact ⟨.inr (by omega), by omega⟩
      · simp only
        rw [toU_app, List.append_assoc, hr2, ← hrem, hr1]
        rfl
      · simp only
        rw [hr1, hr2]; simp
theorem spanPairs_ok {W : Nat → Prop} {h : Heap} {b : Nat} {l : List Pr} (t : RadAt W h b l) (hr : Rises l) (hf : Fit l) (hn : l.length ≤ 60000) {K : SliceV → Heap → Prop}
    (hk : ∀ s' h', OwnS prF 2 t_pair_Pair (fun y => h.size ≤ y) h' s' l → Upd No h h' → K s' h') : HC PG f_span_Pairs [.pointer (some ⟨b, 0, none⟩), .agg #[.string ⟨#[]⟩, .string ⟨#[]⟩, .bool true]] [.c .slice] K h := by
  refine H_span_Pairs (some ⟨b, 0, none⟩) (⟨#[]⟩, ⟨#[]⟩, true) ?_
  unfold F_span_Pairs
  refine at_new fun h1 b1 k1 => ⟨_, vc b1 0, _, vc b1 1, true, vc b1 2, ?_⟩
  refine spanEach_ok (t.upd0 k1) hr hf hn fun fv h2 hg k2 => ?_
  refine collectP_ok hg (by omega) fun s3 h3 xs e ho k3 => ?_
  subst e
  have s12 := (k1.tr k2).size
  exact hk s3 h3 (ho.more fun y hy => by omega) ((k1.tr k2).tr k3)
theorem tPairsR_ok {W : Nat → Prop} {x : Hs} {h : Heap} {t : Tr} {l : List Pr} (i : TreeIs W h 1 x t l) (hr : Rises l) (hf : Fit l) (hn : l.length ≤ 60000) {K : SliceV → Heap → Prop}
    (hk : ∀ s' h', OwnS prF 2 t_pair_Pair (fun y => h.size ≤ y) h' s' l → Upd No h h' → K s' h') : HC PG f_tree_Tree_Pairs [trV t] [.c .slice] K h := by
  refine H_tree_Tree_Pairs t ?_
  unfold F_tree_Tree_Pairs
  rcases i with ⟨e, _⟩ | ⟨_, b, rfl, t⟩
  · cases e
  refine at_new fun h1 b1 k1 => ⟨_, vc b1 0, condP_true.2 ⟨_, vc b1 5, ?_⟩⟩
  refine H_span_All ?_
  unfold F_span_All
  refine at_new fun h2 b2 k2 => ?_
  refine setAll (c := [.string (⟨#[]⟩ : ByteArray), .string (⟨#[]⟩ : ByteArray), .bool false]) (vs := [.string (⟨#[]⟩ : ByteArray), .string (⟨#[]⟩ : ByteArray), .bool true]) b2 rfl fun h3 b3 hu3 => ?_
  have k3 : Upd No h1 h3 := k2.own hu3 (Nat.le_refl _)
  have k03 := k1.tr k3
  refine ⟨_, vc b3 0, _, vc b3 1, true, vc b3 2, vc (k3.get0 b1) 5, ?_⟩
  refine spanPairs_ok (t.upd0 k03) hr hf hn fun s4 h4 ho k4 => hk s4 h4 (ho.more fun y hy => ?_) (k03.tr k4)
  have := k03.size
  omega
end Go.Proofs
