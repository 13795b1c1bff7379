/- A part of the proof that the named laws of this program answer true, whatever the input. -/
import Derived.Test.YtjkhbpjhngfpaaaGreatPart1
namespace Go.Proofs
open Go.Lift
theorem data_ok {h : Heap} {b d n : Nat} {sp sk : SliceV} {bu : Bool} {ow : Option Addr} (hb : h[b]? = some (.cells (nodeC d n sp sk bu ow) t_node_Node (0, 0))) {K : Int → Heap → Prop} (hk : K (d : Int) h) : HC PG f_node_Node_Data [.pointer (some ⟨b, 0, none⟩)] [.c (.int .u32)] K h := by
  refine H_node_Node_Data _ ?_
  unfold F_node_Node_Data
  exact condP_false.2 ⟨_, rfl, _, ncell (i := 0) hb, hk⟩
theorem nodes_ok {h : Heap} {b d n : Nat} {sp sk : SliceV} {bu : Bool} {ow : Option Addr} (hb : h[b]? = some (.cells (nodeC d n sp sk bu ow) t_node_Node (0, 0))) {K : Int → Heap → Prop} (hk : K (n : Int) h) : HC PG f_node_Node_Nodes [.pointer (some ⟨b, 0, none⟩)] [.c (.int .u32)] K h := by
  refine H_node_Node_Nodes _ ?_
  unfold F_node_Node_Nodes
  exact condP_false.2 ⟨_, rfl, _, ncell (i := 1) hb, hk⟩
theorem isBucket_ok {h : Heap} {b d n : Nat} {sp sk : SliceV} {bu : Bool} {ow : Option Addr} (hb : h[b]? = some (.cells (nodeC d n sp sk bu ow) t_node_Node (0, 0))) {K : Bool → Heap → Prop} (hk : K bu h) : HC PG f_node_Node_IsBucket [.pointer (some ⟨b, 0, none⟩)] [.c .bool] K h := by
  refine H_node_Node_IsBucket _ ?_
  unfold F_node_Node_IsBucket
  exact condP_true.2 ⟨_, rfl, _, ncell (i := 4) hb, hk⟩
def gotP (o : Option Pr) : Pr := o.getD (⟨#[]⟩, ⟨#[]⟩)
theorem setPrV (h : Heap) (p q : Pr) : WrS (hnew h [.string q.1, .string q.2] t_pair_Pair) (some (newA h)) 0 [.string p.1, .string p.2] ∧
    (hsetL (hnew h [.string q.1, .string q.2] t_pair_Pair) (newA h) 0 [.string p.1, .string p.2])[h.size]? = some (.cells #[.string p.1, .string p.2] t_pair_Pair (0, 0)) := by
  have b1 := hnew_get h [.string q.1, .string q.2] t_pair_Pair
  refine ⟨.inr ⟨_, rfl, fun j hj => by rw [newA_eq, adr_mk]; exact wr_blk b1 (by simp at hj ⊢; omega)⟩, ?_⟩
  rw [newA_eq, hsetL_blk _ _ 0 0 _ b1 (by simp), set_get b1]; rfl
/-- A pair's variable is set. -/
theorem prVar {h : Heap} {b : Nat} {q p : Pr} (hb : h[b]? = some (.cells #[.string q.1, .string q.2] t_pair_Pair (0, 0))) {k : Heap → Prop}
    (hk : ∀ h', h'[b]? = some (.cells #[.string p.1, .string p.2] t_pair_Pair (0, 0)) → Upd (· = b) h h' → k h') : WrS h (some ⟨b, 0, none⟩) 0 [.string p.1, .string p.2] ∧ At (hsetL h ⟨b, 0, none⟩ 0 [.string p.1, .string p.2]) k := by
  have e := hsetL_blk [.string p.1, .string p.2] h 0 0 [.string q.1, .string q.2] hb (by simp)
  refine ⟨.inr ⟨_, rfl, fun j hj => by rw [adr_mk]; exact wr_blk hb (by simp at hj ⊢; omega)⟩, at_intro ?_⟩
  rw [e]
  refine hk _ ?_ (Upd.set h _ rfl)
  rw [set_get hb]; rfl
theorem nPair_ok {W : Nat → Prop} {h : Heap} {b : Nat} {s : Slots} (nd : NodeAt W h b s) {i : Nat} (hi : i < 32) {K : Pr × Bool → Heap → Prop} (hk : ∀ h', Upd No h h' → K (gotP (s.p i), (s.p i).isSome) h') :
    HC PG f_node_Node_Pair [.pointer (some ⟨b, 0, none⟩), .int .i64 i] [.agg [.str, .str], .c .bool] K h := by
  refine H_node_Node_Pair _ i ?_
  unfold F_node_Node_Pair
  obtain ⟨d, n, sp, sk, ow, hb, bits, hsp, hsk, hcp, hck⟩ := nd.ex
  have k1 := Upd.hnew No h [.string (⟨#[]⟩ : ByteArray), .string (⟨#[]⟩ : ByteArray)] t_pair_Pair
  have b1 := hnew_get h [.string (⟨#[]⟩ : ByteArray), .string (⟨#[]⟩ : ByteArray)] t_pair_Pair
  refine at_intro ?_
  simp only [newA_eq h]
  generalize hnew h [.string (⟨#[]⟩ : ByteArray), .string (⟨#[]⟩ : ByteArray)] t_pair_Pair = h1 at k1 b1
  have hb1 := k1.get0 hb
  have b1' : h1[h.size]? = some (.cells #[.string zPr.1, .string zPr.2] t_pair_Pair (0, 0)) := b1
  refine data_ok hb1 (has_ok bits.d32 hi ?_)
  rw [bits.dp i hi]
  cases hp : s.p i with
  | none =>
    rw [hp] at hk
    refine condP_true.2 (prVar (p := zPr) b1' fun h2 b2 hu2 => ⟨_, by rw [adr_mk, hcell_blk b2]; rfl, _, by rw [adr_mk, hcell_blk b2]; rfl, hk _ (k1.trans hu2 fun x hx => .inr (Nat.le_of_eq hx.symm))⟩)
  | some y =>
    rw [hp] at hk
    refine condP_false.2 ⟨_, rfl, sp, ncell (i := 2) hb1, _, rfl, _, ncell (i := 0) hb1, rank_ok bits.d32 hi ⟨ncell (i := 2) hb1, ?_⟩⟩
    have hlt := fm_lt hi bits.dp hp
    have hsp1 := hsp.upd k1 fun _ h => h.elim
    obtain ⟨a, ha, _, hv⟩ := hsp1.at (fm_at hi bits.dp hp)
    have hlen := hsp.len
    refine ⟨by omega, a, ha, y.1, hv 0 _ rfl, y.2, hv 1 _ rfl, ?_⟩
    refine prVar (p := y) b1' fun h2 b2 hu2 => ⟨_, by rw [adr_mk, hcell_blk b2]; rfl, _, by rw [adr_mk, hcell_blk b2]; rfl, hk _ (k1.trans hu2 fun x hx => .inr (Nat.le_of_eq hx.symm))⟩
theorem nKid_ok {W : Nat → Prop} {h : Heap} {b : Nat} {s : Slots} (nd : NodeAt W h b s) {i : Nat} (hi : i < 32) {K : Option Addr × Bool → Heap → Prop} (hk : K ((s.k i).getD none, (s.k i).isSome) h) :
    HC PG f_node_Node_Kid [.pointer (some ⟨b, 0, none⟩), .int .i64 i] [.c .ptr, .c .bool] K h := by
  refine H_node_Node_Kid _ i ?_
  unfold F_node_Node_Kid
  obtain ⟨d, n, sp, sk, ow, hb, bits, hsp, hsk, hcp, hck⟩ := nd.ex
  refine nodes_ok hb (has_ok bits.n32 hi ?_)
  rw [bits.nk i hi]
  cases hp : s.k i with
  | none => rw [hp] at hk; exact condP_true.2 hk
  | some y =>
    rw [hp] at hk
    refine condP_false.2 ⟨_, rfl, sk, ncell (i := 3) hb, _, rfl, _, ncell (i := 1) hb, rank_ok bits.n32 hi ⟨ncell (i := 3) hb, ?_⟩⟩
    have hlt := fm_lt hi bits.nk hp
    obtain ⟨a, ha, _, hv⟩ := hsk.at (fm_at hi bits.nk hp)
    have hlen := hsk.len
    exact ⟨by omega, a, ha, y, hv 0 _ rfl, hk⟩
theorem pairs_ok {W : Nat → Prop} {h : Heap} {b d n : Nat} {sp sk : SliceV} {bu : Bool} {ow : Option Addr} {l : List Pr} (hb : h[b]? = some (.cells (nodeC d n sp sk bu ow) t_node_Node (0, 0))) (hs : Sl prF 2 W h sp l) (hn : l.length ≤ 1000000000) {K : SliceV → Heap → Prop}
    (hk : ∀ s' h', OwnS prF 2 t_pair_Pair (fun x => h.size ≤ x) h' s' l → Upd No h h' → K s' h') : HC PG f_node_Node_Pairs [.pointer (some ⟨b, 0, none⟩)] [.c .slice] K h := by
  refine H_node_Node_Pairs _ ?_
  unfold F_node_Node_Pairs
  exact condP_false.2 ⟨_, rfl, sp, ncell (i := 2) hb, clone_prF hs (by omega) hk⟩
theorem kids_ok {W : Nat → Prop} {h : Heap} {b d n : Nat} {sp sk : SliceV} {bu : Bool} {ow : Option Addr} {l : List (Option Addr)} (hb : h[b]? = some (.cells (nodeC d n sp sk bu ow) t_node_Node (0, 0))) (hs : Sl ndF 1 W h sk l) (hn : l.length ≤ 1000000000) {K : SliceV → Heap → Prop}
    (hk : ∀ s' h', OwnS ndF 1 t_P_node_Node (fun x => h.size ≤ x) h' s' l → Upd No h h' → K s' h') : HC PG f_node_Node_Kids [.pointer (some ⟨b, 0, none⟩)] [.c .slice] K h := by
  refine H_node_Node_Kids _ ?_
  unfold F_node_Node_Kids
  exact condP_false.2 ⟨_, rfl, sk, ncell (i := 3) hb, clone_ndF hs (by omega) hk⟩
/-- A bucket at block b. -/
structure BuckAt (W : Nat → Prop) (h : Heap) (b : Nat) (l : List Pr) : Prop where
  ex : ∃ sp sk ow, h[b]? = some (.cells (nodeC 0 0 sp sk true ow) t_node_Node (0, 0)) ∧ Sl prF 2 W h sp l ∧ Sl ndF 1 W h sk [] ∧ sp.len ≤ sp.cap ∧ sk.len ≤ sk.cap
  nw : ¬ W b
theorem BuckAt.upd {W M : Nat → Prop} {h h' : Heap} {b : Nat} {l : List Pr} (n : BuckAt W h b l) (k : Upd M h h') (hm : ∀ b, M b → W b ∨ h.size ≤ b) : BuckAt W h' b l := by
  obtain ⟨sp, sk, ow, h1, h3, h4, h5, h6⟩ := n.ex
  exact ⟨⟨sp, sk, ow, k.get h1 (fun hb => (hm _ hb).elim n.nw fun h => by have := get_lt h1; omega), h3.upd k hm, h4.upd k hm, h5, h6⟩, n.nw⟩
/-- champ.in: a bucket's value. -/
theorem in_ok {W : Nat → Prop} {h : Heap} {b : Nat} {l : List Pr} (bk : BuckAt W h b l) (hr : Rises l) (hn : l.length ≤ 1000000000) (k : ByteArray) {K : ByteArray × Bool → Heap → Prop}
    (hk : ∀ h' v, Upd No h h' → (there l k = true → (k, v) ∈ l) → K (v, there l k) h') : HC PG f_champ_in [.pointer (some ⟨b, 0, none⟩), .string k] [.c .str, .c .bool] K h := by
  refine H_champ_in _ k ?_
  unfold F_champ_in
  obtain ⟨sp, sk, ow, hb, hsp, hsk, hc1, hc2⟩ := bk.ex
  refine pairs_ok hb hsp hn fun s1 h1 ho1 hu1 => ?_
  have hs1 : Sl prF 2 No h1 s1 l := ho1.sl fun _ _ _ h => h
  refine find_ok hs1 hr hn k fun h2 hu2 => ?_
  cases ht : there l k with
  | false => rw [ht] at hk; exact condP_true.2 (hk _ _ (hu1.tr hu2) fun h => by cases h)
  | true =>
    rw [ht] at hk
    obtain ⟨hlt, e⟩ := pos_lt hr ht
    obtain ⟨a, ha, _, hv⟩ := (hs1.upd hu2 fun _ h => h.elim).at (List.getElem?_eq_getElem hlt)
    have hlen := hs1.len
    refine condP_false.2 ⟨by simp only; omega, a, ha, _, hv 1 _ rfl, hk _ _ (hu1.tr hu2) fun _ => ?_⟩
    have : (k, l[pos l k].2) = l[pos l k] := Prod.ext e.symm rfl
    rw [this]; exact List.getElem_mem hlt
end Go.Proofs
namespace Go.Proofs
open Go.Lift
set_option maxRecDepth 4000 in
theorem ownB_ok {W : Nat → Prop} {h : Heap} {b : Nat} {l : List Pr} (nd : BuckAt W h b l) (hn : l.length ≤ 1000000000) {K : Option Addr → Heap → Prop}
    (hk : ∀ h' sp sk, h'[h.size]? = some (.cells (nodeC 0 0 sp sk true none) t_node_Node (0, 0)) → OwnS prF 2 t_pair_Pair (fun x => h.size < x ∧ x < h'.size) h' sp l → OwnS ndF 1 t_P_node_Node (fun x => h.size < x ∧ x < h'.size) h' sk [] → Upd No h h' → K (some ⟨h.size, 0, none⟩) h') :
    HC PG f_node_Node_own [.pointer (some ⟨b, 0, none⟩), .pointer none] [.c .ptr] K h := by
  obtain ⟨sp, sk, ow, hb, hsp, hsk, hcp, hck⟩ := nd.ex
  refine H_node_Node_own _ none ?_
  unfold F_node_Node_own
  refine owned_nil (condP_false.2 ?_)
  have c : ∀ {h : Heap} {b : Nat} {c : Array Value} {i : Nat}, h[b]? = some (.cells c t_node_Node (0, 0)) → hcell h ⟨b, 0 + i, none⟩ = c[i]? := fun hb => by rw [Nat.zero_add]; exact hcell_blk hb
  refine ⟨_, rfl, _, c (i := 0) hb, _, c (i := 1) hb, sp, c (i := 2) hb, sk, c (i := 3) hb, _, c (i := 4) hb, _, c (i := 5) hb, ?_⟩
  have k1 := Upd.hnew No h [.int .u32 0, .int .u32 0, .slice none 0 0, .slice none 0 0, .bool false, .pointer none] t_node_Node
  have b1 := hnew_get h [.int .u32 0, .int .u32 0, .slice none 0 0, .slice none 0 0, .bool false, .pointer none] t_node_Node
  refine at_intro ?_
  simp only [newA_eq h]
  generalize hnew h [.int .u32 0, .int .u32 0, .slice none 0 0, .slice none 0 0, .bool false, .pointer none] t_node_Node = h1 at k1 b1
  have hs1 : hsetL h1 ⟨h.size, 0, none⟩ 0 [.int .u32 ((0 : Nat) : Int), .int .u32 ((0 : Nat) : Int), .slice sp.a sp.len sp.cap, .slice sk.a sk.len sk.cap, .bool true, .pointer ow] = _ := hsetL_blk _ h1 0 0 _ b1 (by simp)
  refine ⟨.inr ⟨_, rfl, fun j hj => by rw [adr_mk]; exact wr_blk b1 (by simp at hj ⊢; omega)⟩, at_intro ?_⟩
  rw [hs1]
  have b2 := set_get (o := .cells (nodeC 0 0 sp sk true ow) t_node_Node (0, 0)) b1
  have k2 : Upd No h _ := k1.trans (M' := (· = h.size)) (Upd.set h1 (.cells (nodeC 0 0 sp sk true ow) t_node_Node (0, 0)) rfl) fun x hx => .inr (Nat.le_of_eq hx.symm)
  have hz2 : h.size < (h1.setIfInBounds h.size (.cells (nodeC 0 0 sp sk true ow) t_node_Node (0, 0))).size := get_lt b2
  have hbb : h.size ≠ b := fun e => by have := get_lt hb; omega
  have e2 : (Obj.cells (List.take (0 + 0) [Value.int .u32 0, .int .u32 0, .slice none 0 0, .slice none 0 0, .bool false, .pointer none] ++ [Value.int .u32 ((0 : Nat) : Int), .int .u32 ((0 : Nat) : Int), .slice sp.a sp.len sp.cap, .slice sk.a sk.len sk.cap, .bool true, .pointer ow] ++ List.drop (0 + 0 + [Value.int .u32 ((0 : Nat) : Int), .int .u32 ((0 : Nat) : Int), .slice sp.a sp.len sp.cap, .slice sk.a sk.len sk.cap, .bool true, .pointer ow].length) [Value.int .u32 0, .int .u32 0, .slice none 0 0, .slice none 0 0, .bool false, .pointer none]).toArray t_node_Node (0, 0)) = .cells (nodeC 0 0 sp sk true ow) t_node_Node (0, 0) := rfl
  rw [e2]
  generalize h1.setIfInBounds h.size (.cells (nodeC 0 0 sp sk true ow) t_node_Node (0, 0)) = h2 at b2 k2 hz2
  have hb2 := k2.get0 hb
  refine ⟨_, rfl, sp, c (i := 2) hb2, _, rfl, sk, c (i := 3) hb2, ?_⟩
  refine clone_prF (hsp.upd k2 fun _ h => h.elim) (by omega) fun s3 h3 ho3 hu3 => ?_
  refine ⟨c (i := 3) (hu3.get0 hb2), ?_⟩
  refine clone_ndF ((hsk.upd k2 fun _ h => h.elim).upd hu3 fun _ h => h.elim) (by simp) fun s4 h4 ho4 hu4 => ?_
  have b4 := hu4.get0 (hu3.get0 b2)
  have ho3' := ho3.within.upd hu4 fun _ _ h => h
  have ho4' := ho4.within
  have z3 := hu3.size
  have z4 := hu4.size
  have w : ∀ {h : Heap} {c : Array Value} {x i : Nat}, h[x]? = some (.cells c t_node_Node (0, 0)) → i < c.size → Wr h ⟨x, 0 + i, none⟩ := fun hb hi => by rw [Nat.zero_add]; exact wr_blk hb hi
  have st : ∀ {h : Heap} {c c' : Array Value} {x i : Nat} {v : Value} {k : Heap → Prop}, h[x]? = some (.cells c t_node_Node (0, 0)) → c.setIfInBounds i v = c' → (∀ h', h'[x]? = some (.cells c' t_node_Node (0, 0)) → Upd (· = x) h h' → k h') → At (hset h ⟨x, i, none⟩ v) k := fun hb e hk => at_set hb fun h' hb' hu => hk h' (e ▸ hb') hu
  refine ⟨w (i := 2) b4 (show 2 < 6 by decide), st (i := 2) (c' := nodeC 0 0 s3 sk true ow) b4 rfl fun h5 b5 hu5 => ?_⟩
  refine ⟨w (i := 3) b5 (show 3 < 6 by decide), st (i := 3) (c' := nodeC 0 0 s3 s4 true ow) b5 rfl fun h6 b6 hu6 => ?_⟩
  refine ⟨w (i := 5) b6 (show 5 < 6 by decide), st (i := 5) (c' := nodeC 0 0 s3 s4 true none) b6 rfl fun h7 b7 hu7 => ?_⟩
  refine live_nil (condP_false.2 ?_)
  have hu47 := hu5.tr (hu6.tr hu7)
  have z7 := hu47.size
  refine hk _ s3 s4 b7 ((ho3'.upd hu47 fun x hx e => ?_).more fun x hx => ?_) ((ho4'.upd hu47 fun x hx e => ?_).more fun x hx => ?_) ?_
  · have e : x = h.size := e; omega
  · omega
  · have e : x = h.size := e; omega
  · omega
  · exact ((k2.tr hu3).tr hu4).trans hu47 fun x hx => .inr (Nat.le_of_eq hx.symm)
theorem bPut_ok {W : Nat → Prop} {h : Heap} {b : Nat} {l : List Pr} (bk : BuckAt W h b l) (hW : ∀ x, W x → x < h.size) (hr : Rises l) (hn : l.length ≤ 1000000000) (p : Pr) {K : Option Addr → Heap → Prop}
    (hk : ∀ h' b', BuckAt W h' b' (insP l p) → Upd No h h' → K (some ⟨b', 0, none⟩) h') :
    HC PG f_node_Node_Put [.pointer (some ⟨b, 0, none⟩), .pointer none, .agg #[.string p.1, .string p.2]] [.c .ptr] K h := by
  refine H_node_Node_Put _ none p ?_
  unfold F_node_Node_Put
  have k1 := Upd.hnew No h [.string p.1, .string p.2] t_pair_Pair
  have b1 := hnew_get h [.string p.1, .string p.2] t_pair_Pair
  refine at_intro ?_
  simp only [newA_eq h]
  generalize hnew h [.string p.1, .string p.2] t_pair_Pair = h1 at k1 b1
  have z1 := get_lt b1
  have bk1 := bk.upd k1 fun _ h => h.elim
  obtain ⟨sp, sk, ow, hb, hsp, hsk, hcp, hck⟩ := bk1.ex
  refine isBucket_ok hb (condP_false.2 ?_)
  refine ownB_ok bk1 hn fun h2 s2 t2 b2 hA hB hu2 => ?_
  have b12 := hu2.get0 b1
  refine ⟨_, rfl, s2, ncell (i := 2) b2, p.1, by rw [adr_mk, hcell_blk b12]; rfl, p.2, by rw [adr_mk, hcell_blk b12]; rfl, ?_⟩
  refine pairPut_ok (hA.sl fun _ _ _ h => h) hA.cap hr hn p fun s3 h3 ho3 hu3 => ?_
  have b3 := hu3.get0 b2
  refine ⟨_, rfl, nwr (i := 2) b3 (show 2 < 6 by decide), nset (i := 2) (c' := nodeC 0 0 s3 t2 true none) b3 rfl fun h4 b4 hu4 => ?_⟩
  have z2 := get_lt b2
  have ho4 := ho3.upd hu4 fun x hx e => by have e : x = h1.size := e; omega
  have hB4 := (hB.upd hu3 fun _ _ h => h).upd hu4 fun x hx e => by have e : x = h1.size := e; omega
  refine hk h4 h1.size ⟨⟨s3, t2, none, b4, ho4.sl fun x hx _ hw => ?_, hB4.sl fun x hx _ hw => ?_, ho3.cap, hB.cap⟩, fun hw => ?_⟩ (((k1.tr hu2).tr hu3).trans hu4 fun x hx => .inr ?_)
  · have := hW x hw; have := hu2.size; omega
  · have := hW x hw; omega
  · have := hW _ hw; omega
  · have hx : x = h1.size := hx
    omega
theorem bucket_ok {W : Nat → Prop} {h : Heap} (hW : ∀ x, W x → x < h.size) {K : Option Addr → Heap → Prop} (hk : ∀ h' b', BuckAt W h' b' [] → Upd No h h' → K (some ⟨b', 0, none⟩) h') : HC PG f_node_Bucket [] [.c .ptr] K h := by
  refine H_node_Bucket ?_
  unfold F_node_Bucket
  exact hk _ _ ⟨⟨⟨none, 0, 0⟩, ⟨none, 0, 0⟩, none, hnew_get h _ _, Sl.nil prF_ne, Sl.nil ndF_ne, Nat.le_refl _, Nat.le_refl _⟩, fun hx => Nat.lt_irrefl _ (hW _ hx)⟩ (Upd.hnew No h _ _)
theorem nodeInner_ok {W : Nat → Prop} {h : Heap} (hW : ∀ x, W x → x < h.size) {K : Option Addr → Heap → Prop} (hk : ∀ h' b', NodeAt W h' b' ⟨fun _ => none, fun _ => none⟩ → Upd No h h' → K (some ⟨b', 0, none⟩) h') : HC PG f_node_Inner [] [.c .ptr] K h := by
  refine H_node_Inner ?_
  unfold F_node_Inner
  have e1 : fm (fun _ => (none : Option Pr)) 32 = [] := by simp [fm]
  have e2 : fm (fun _ => (none : Option (Option Addr))) 32 = [] := by simp [fm]
  refine hk _ _ ⟨⟨0, 0, ⟨none, 0, 0⟩, ⟨none, 0, 0⟩, none, hnew_get h _ _, ⟨by decide, by decide, fun c _ => by simp, fun c _ => by simp⟩, ?_, ?_, Nat.le_refl _, Nat.le_refl _⟩, fun hx => Nat.lt_irrefl _ (hW _ hx)⟩ (Upd.hnew No h _ _)
  · show Sl prF 2 W _ _ (fm (fun _ => none) 32)
    rw [e1]; exact Sl.nil prF_ne
  · show Sl ndF 1 W _ _ (fm (fun _ => none) 32)
    rw [e2]; exact Sl.nil ndF_ne
end Go.Proofs
namespace Go.Proofs
open Go.Lift
/-- A list with a pair, place by place. -/
def insR (p : Pr) : List Pr → List Pr
  | [] => [p]
  | q :: l => if kl q.1 p.1 then q :: insR p l else if q.1 = p.1 then p :: l else p :: q :: l
theorem insR_cons (p q : Pr) (l : List Pr) : insR p (q :: l) = if kl q.1 p.1 then q :: insR p l else if q.1 = p.1 then p :: l else p :: q :: l := rfl
theorem insP_eq (p : Pr) : ∀ {l : List Pr}, Rises l → insP l p = insR p l
  | [], _ => by simp [insP, insR, pos, there]
  | q :: l, hr => by
    have hr := List.pairwise_cons.1 hr
    unfold insR
    have hpos : pos (q :: l) p.1 = if kl q.1 p.1 then pos l p.1 + 1 else 0 := by
      unfold pos; rw [List.takeWhile_cons]
      by_cases h : kl q.1 p.1
      · rw [if_pos (by simpa using h), if_pos h]; rfl
      · rw [if_neg (by simpa using h), if_neg h]; rfl
    have hth : there (q :: l) p.1 = (decide (q.1 = p.1) || there l p.1) := by unfold there; rw [List.any_cons]
    by_cases h : kl q.1 p.1
    · have hne : q.1 ≠ p.1 := fun e => by rw [e] at h; exact kl_irrefl _ h
      rw [if_pos h, ← insP_eq p hr.2]
      unfold insP
      rw [hth, hpos, if_pos h, decide_eq_false hne, Bool.false_or]
      by_cases ht : there l p.1 = true
      · rw [if_pos ht, if_pos ht]; rfl
      · rw [if_neg ht, if_neg ht]; rfl
    · rw [if_neg h]
      unfold insP
      rw [hth, hpos, if_neg h]
      by_cases e : q.1 = p.1
      · rw [if_pos e, decide_eq_true e, Bool.true_or, if_pos rfl]; rfl
      · have hgt := kl_tri h e
        have ht : there l p.1 = false := by
          unfold there
          rw [List.any_eq_false]
          intro r hr' e2
          have e2 := of_decide_eq_true e2
          have := hr.1 r hr'
          rw [e2] at this
          exact kl_irrefl _ (kl_trans hgt this)
        rw [if_neg e, decide_eq_false e, ht]; rfl
theorem mem_insR {p q : Pr} : ∀ {l : List Pr}, q ∈ insR p l → q = p ∨ q ∈ l
  | [], h => by simp [insR] at h; exact .inl h
  | r :: l, h => by
    unfold insR at h
    split at h
    · rcases List.mem_cons.1 h with h | h
      · exact .inr (h ▸ List.mem_cons_self ..)
      · exact (mem_insR h).imp id fun h => List.mem_cons_of_mem _ h
    · split at h
      · rcases List.mem_cons.1 h with h | h
        · exact .inl h
        · exact .inr (List.mem_cons_of_mem _ h)
      · rcases List.mem_cons.1 h with h | h
        · exact .inl h
        · exact .inr h
theorem rises_ins (p : Pr) : ∀ {l : List Pr}, Rises l → Rises (insR p l)
  | [], _ => List.pairwise_singleton ..
  | q :: l, hr => by
    have hr' := hr
    have hr := List.pairwise_cons.1 hr
    unfold insR
    split
    · rename_i h
      refine List.pairwise_cons.2 ⟨fun r hm => ?_, rises_ins p hr.2⟩
      rcases mem_insR hm with rfl | hm
      · exact h
      · exact hr.1 r hm
    · rename_i h
      split
      · rename_i e
        exact List.pairwise_cons.2 ⟨fun r hm => e ▸ hr.1 r hm, hr.2⟩
      · rename_i e
        have hgt := kl_tri h e
        refine List.pairwise_cons.2 ⟨fun r hm => ?_, hr'⟩
        rcases List.mem_cons.1 hm with rfl | hm
        · exact hgt
        · exact kl_trans hgt (hr.1 r hm)
/-- Those of a chunk: a pair that comes is one of its own chunk's alone. -/
theorem filter_ins (p : Pr) (g : ByteArray → Bool) : ∀ {l : List Pr}, Rises l → (insR p l).filter (fun q => g q.1) = if g p.1 then insR p (l.filter fun q => g q.1) else l.filter fun q => g q.1
  | [], _ => by
    unfold insR
    rw [List.filter_cons, List.filter_nil]
  | q :: l, hr => by
    have hr' := hr
    have hr := List.pairwise_cons.1 hr
    have ih := filter_ins p g hr.2
    rw [insR_cons]
    by_cases h : kl q.1 p.1
    · rw [if_pos h, List.filter_cons, List.filter_cons, ih]
      by_cases hq : g q.1 = true
      · rw [if_pos hq, if_pos hq]
        split
        · rw [insR_cons, if_pos h]
        · rfl
      · rw [if_neg hq, if_neg hq]
    · rw [if_neg h]
      by_cases e : q.1 = p.1
      · rw [if_pos e, List.filter_cons, List.filter_cons, e]
        by_cases hp : g p.1 = true
        · rw [if_pos hp, if_pos hp, if_pos hp, insR_cons, if_neg h, if_pos e]
        · rw [if_neg hp, if_neg hp, if_neg hp]
      · rw [if_neg e]
        have hgt := kl_tri h e
        rw [List.filter_cons]
        by_cases hp : g p.1 = true
        · rw [if_pos hp, if_pos hp]
          have : ∀ r ∈ (q :: l).filter (fun q => g q.1), kl p.1 r.1 := fun r hm => by
            rcases List.mem_cons.1 (List.mem_filter.1 hm).1 with rfl | hm
            · exact hgt
            · exact kl_trans hgt (hr.1 r hm)
          cases hf : (q :: l).filter (fun q => g q.1) with
          | nil => rfl
          | cons r rs =>
            have hpr := this r (by rw [hf]; exact List.mem_cons_self ..)
            rw [insR_cons, if_neg fun hk => kl_irrefl _ (kl_trans hpr hk), if_neg fun e => by rw [e] at hpr; exact kl_irrefl _ hpr]
        · rw [if_neg hp, if_neg hp]
/-- A pair that is there already changes nothing. -/
theorem ins_mem {p : Pr} : ∀ {l : List Pr}, Rises l → p ∈ l → insR p l = l
  | q :: l, hr, hm => by
    have hr := List.pairwise_cons.1 hr
    unfold insR
    rcases List.mem_cons.1 hm with rfl | hm
    · rw [if_neg (kl_irrefl _), if_pos rfl]
    · rw [if_pos (hr.1 p hm), ins_mem hr.2 hm]
theorem ins_ne {p : Pr} : ∀ {l : List Pr}, insR p l ≠ []
  | [] => by simp [insR]
  | q :: l => by unfold insR; split; simp; split <;> simp
/-- Five bits of a key's hash. -/
def ck (x : Hs) (lev : Nat) (k : ByteArray) : Nat := ((hashV x k).toNat >>> (5 * lev)) % 32
theorem ck_lt (x : Hs) (lev : Nat) (k : ByteArray) : ck x lev k < 32 := Nat.mod_lt _ (by omega)
def part (x : Hs) (lev c : Nat) (l : List Pr) : List Pr := l.filter fun p => decide (ck x lev p.1 = c)
/-- **The trie of a list**: m levels above the buckets. -/
def TrieAt (W : Nat → Prop) (x : Hs) (h : Heap) : Nat → Nat → List Pr → Prop
  | 0, b, l => BuckAt W h b l
  | m + 1, b, l => ∃ s, NodeAt W h b s ∧ ∀ c, c < 32 →
      ((part x (12 - m) c l = [] ∧ s.p c = none ∧ s.k c = none) ∨ (∃ p, part x (12 - m) c l = [p] ∧ s.p c = some p ∧ s.k c = none) ∨
       (2 ≤ (part x (12 - m) c l).length ∧ s.p c = none ∧ ∃ kb, s.k c = some (some ⟨kb, 0, none⟩) ∧ TrieAt W x h m kb (part x (12 - m) c l)))
theorem TrieAt.upd0 {W : Nat → Prop} {x : Hs} {h h' : Heap} (k : Upd No h h') : ∀ {m b : Nat} {l : List Pr}, TrieAt W x h m b l → TrieAt W x h' m b l
  | 0, _, _, t => BuckAt.upd t k fun _ h => h.elim
  | m + 1, _, _, ⟨s, nd, hc⟩ => ⟨s, nd.upd k fun _ h => h.elim, fun c hc' => (hc c hc').imp id fun o => o.imp id fun ⟨h1, h2, kb, h3, h4⟩ => ⟨h1, h2, kb, h3, TrieAt.upd0 k h4⟩⟩
theorem NodeAt.less {W W' : Nat → Prop} {h : Heap} {b : Nat} {s : Slots} (n : NodeAt W h b s) (hm : ∀ b, W' b → W b ∨ h.size ≤ b) : NodeAt W' h b s := by
  obtain ⟨d, m, sp, sk, ow, h1, h2, h3, h4, h5, h6⟩ := n.ex
  exact ⟨⟨d, m, sp, sk, ow, h1, h2, h3.less hm, h4.less hm, h5, h6⟩, fun hx => (hm _ hx).elim n.nw fun h => by have := get_lt h1; omega⟩
theorem BuckAt.less {W W' : Nat → Prop} {h : Heap} {b : Nat} {l : List Pr} (n : BuckAt W h b l) (hm : ∀ b, W' b → W b ∨ h.size ≤ b) : BuckAt W' h b l := by
  obtain ⟨sp, sk, ow, h1, h3, h4, h5, h6⟩ := n.ex
  exact ⟨⟨sp, sk, ow, h1, h3.less hm, h4.less hm, h5, h6⟩, fun hx => (hm _ hx).elim n.nw fun h => by have := get_lt h1; omega⟩
theorem TrieAt.less {W W' : Nat → Prop} {x : Hs} {h : Heap} (hm : ∀ b, W' b → W b ∨ h.size ≤ b) : ∀ {m b : Nat} {l : List Pr}, TrieAt W x h m b l → TrieAt W' x h m b l
  | 0, _, _, t => BuckAt.less t hm
  | m + 1, _, _, ⟨s, nd, hc⟩ => ⟨s, nd.less hm, fun c hc' => (hc c hc').imp id fun o => o.imp id fun ⟨h1, h2, kb, h3, h4⟩ => ⟨h1, h2, kb, h3, TrieAt.less hm h4⟩⟩
theorem TrieAt.updM {W M : Nat → Prop} {x : Hs} {h h' : Heap} (k : Upd M h h') (hm : ∀ b, M b → W b ∨ h.size ≤ b) : ∀ {m b : Nat} {l : List Pr}, TrieAt W x h m b l → TrieAt W x h' m b l
  | 0, _, _, t => BuckAt.upd t k hm
  | m + 1, _, _, ⟨s, nd, hc⟩ => ⟨s, nd.upd k hm, fun c hc' => (hc c hc').imp id fun o => o.imp id fun ⟨h1, h2, kb, h3, h4⟩ => ⟨h1, h2, kb, h3, TrieAt.updM k hm h4⟩⟩
end Go.Proofs
namespace Go.Proofs
open Go.Lift
theorem and64n (a b : Nat) : (BitVec.ofInt (IntKind.bits .u64) (a : Int) &&& BitVec.ofInt (IntKind.bits .u64) (b : Int)).toNat = (a % 18446744073709551616) &&& (b % 18446744073709551616) := by
  simp [IntKind.bits, BitVec.toNat_and, BitVec.toNat_ofInt]; rfl
theorem at_ok {hv : Int} (h0 : 0 ≤ hv ∧ hv < 18446744073709551616) {lev : Nat} (hl : lev < 13) {h : Heap} {K : Int → Heap → Prop} (hk : K (((hv.toNat >>> (5 * lev)) % 32 : Nat) : Int) h) : HC PG f_chunk_At [.int .u64 hv, .int .i64 lev] [.c (.int .i64)] K h := by
  refine H_chunk_At hv lev ?_
  unfold F_chunk_At
  refine Join.plain (condP_dec (fun h => by omega) fun _ => ?_)
  rw [decide_eq_false (by omega)]
  refine condP_false.2 ?_
  have e5 : IntKind.wrap .i64 (5 * (lev : Int)) = ((5 * lev : Nat) : Int) := by rw [w64 (by omega)]; omega
  rw [e5]
  have em : min (((5 * lev : Nat) : Int)).toNat (IntKind.bits .u64) = 5 * lev := by rw [Int.toNat_natCast]; exact Nat.min_eq_left (by show 5 * lev ≤ 64; omega)
  rw [em]
  obtain ⟨n, rfl⟩ := Int.eq_ofNat_of_zero_le h0.1
  rw [Int.toNat_natCast] at hk
  simp only [Bd]
  rw [fdiv_shift]
  have hlt : n >>> (5 * lev) < 18446744073709551616 := Nat.lt_of_le_of_lt (Nat.shiftRight_le _ _) (by omega)
  have e := and64n (n >>> (5 * lev)) 31
  rw [Nat.mod_eq_of_lt hlt, show ((31 : Nat) : Int) = (31 : Int) from rfl, show 31 % 18446744073709551616 = 2 ^ 5 - 1 from rfl, Nat.and_two_pow_sub_one_eq_mod] at e
  rw [e]
  have hm : n >>> (5 * lev) % 2 ^ 5 < 32 := Nat.mod_lt _ (by omega)
  rw [Go.IntWalk.u64_in _ (by omega), w64 (by omega)]
  exact ⟨by omega, hk⟩
theorem ckAt {x : Hs} {k : ByteArray} {lev : Nat} (hl : lev < 13) {h : Heap} {K : Int → Heap → Prop} (hk : K (ck x lev k : Int) h) : HC PG f_chunk_At [.int .u64 (hashV x k), .int .i64 lev] [.c (.int .i64)] K h := at_ok (hash_bounds x k) hl hk
abbrev workV (x : Hs) (k : ByteArray) : Value := .agg #[.int .u64 x.k0, .int .u64 x.k1, .int .u64 x.mask, .pointer none, .string k, .int .u64 (hashV x k)]
theorem part_all {x : Hs} {lev c : Nat} {l : List Pr} (h : ∀ p ∈ l, ck x lev p.1 = c) : part x lev c l = l := List.filter_eq_self.2 fun p hp => decide_eq_true (h p hp)
theorem part_no {x : Hs} {lev c : Nat} {l : List Pr} (h : ∀ p ∈ l, ck x lev p.1 ≠ c) : part x lev c l = [] := List.filter_eq_nil_iff.2 fun p hp => by simpa using h p hp
theorem part_ins {x : Hs} {lev c : Nat} {p : Pr} {l : List Pr} (hr : Rises l) : part x lev c (insR p l) = if ck x lev p.1 = c then insR p (part x lev c l) else part x lev c l := by
  have := filter_ins p (fun k => decide (ck x lev k = c)) hr
  unfold part
  rw [this]
  by_cases h : ck x lev p.1 = c
  · rw [if_pos h, if_pos (decide_eq_true h)]
  · rw [if_neg h, if_neg (by simpa using h)]
theorem two_len {p q : Pr} (h : p.1 ≠ q.1) : (insR q [p]).length = 2 := by
  rw [insR_cons]
  by_cases hk : kl p.1 q.1
  · rw [if_pos hk]; rfl
  · rw [if_neg hk, if_neg h]; rfl
theorem mem_two {p q r : Pr} (h : r ∈ insR q [p]) : r = p ∨ r = q := (mem_insR h).symm.imp (fun h => List.mem_singleton.1 h) id
theorem upd_other {β : Type} {g : Nat → Option β} {i c : Nat} {x : Option β} (h : c ≠ i) : upd g i x c = g c := by unfold upd; rw [if_neg h]
theorem both_ok {W : Nat → Prop} {x : Hs} : ∀ (m : Nat) (p q : Pr), m ≤ 13 → p.1 ≠ q.1 → ∀ {h : Heap}, (∀ y, W y → y < h.size) → ∀ {K : Option Addr → Heap → Prop}, (∀ h' b', TrieAt W x h' m b' (insR q [p]) → Upd No h h' → K (some ⟨b', 0, none⟩) h') →
    HC PG f_champ_work_both [workV x q.1, .agg #[.string p.1, .string p.2], .agg #[.string q.1, .string q.2], .int .i64 ((13 - m : Nat) : Int)] [.c .ptr] K h := by
  intro m
  induction m with
  | zero =>
    intro p q _ hne h hW K hk
    have gW : ∀ {h'}, Upd No h h' → ∀ y, W y → y < h'.size := fun k y hy => Nat.lt_of_lt_of_le (hW y hy) k.size
    refine H_champ_work_both (x.k0, x.k1, x.mask, none, q.1, hashV x q.1) p q ((13 - 0 : Nat) : Int) ?_
    unfold F_champ_work_both
    have k1 := Upd.hnew No h [.int .u64 x.k0, .int .u64 x.k1, .int .u64 x.mask, .pointer none, .string q.1, .int .u64 (hashV x q.1)] t_champ_work
    have b1 := hnew_get h [.int .u64 x.k0, .int .u64 x.k1, .int .u64 x.mask, .pointer none, .string q.1, .int .u64 (hashV x q.1)] t_champ_work
    refine at_intro ?_
    simp only [newA_eq h]
    generalize hnew h [.int .u64 x.k0, .int .u64 x.k1, .int .u64 x.mask, .pointer none, .string q.1, .int .u64 (hashV x q.1)] t_champ_work = h1 at k1 b1
    have k2 := Upd.hnew No h1 [.string p.1, .string p.2] t_pair_Pair
    have b2 := hnew_get h1 [.string p.1, .string p.2] t_pair_Pair
    refine at_intro ?_
    simp only [newA_eq h1]
    generalize hnew h1 [.string p.1, .string p.2] t_pair_Pair = h2 at k2 b2
    have k3 := Upd.hnew No h2 [.string q.1, .string q.2] t_pair_Pair
    have b3 := hnew_get h2 [.string q.1, .string q.2] t_pair_Pair
    refine at_intro ?_
    simp only [newA_eq h2]
    generalize hnew h2 [.string q.1, .string q.2] t_pair_Pair = h3 at k3 b3
    have w1 : ∀ {h' : Heap}, Upd No h3 h' → ∀ i, hcell h' (adr ⟨h.size, 0, none⟩ i) = (#[.int .u64 x.k0, .int .u64 x.k1, .int .u64 x.mask, .pointer none, .string q.1, .int .u64 (hashV x q.1)] : Array Value)[i]? := fun k i => by
      rw [adr_mk, hcell_blk (k.get0 (k3.get0 (k2.get0 b1))), Nat.zero_add]
    have w2 : ∀ {h' : Heap}, Upd No h3 h' → ∀ i, hcell h' (adr ⟨h1.size, 0, none⟩ i) = (#[.string p.1, .string p.2] : Array Value)[i]? := fun k i => by rw [adr_mk, hcell_blk (k.get0 (k3.get0 b2)), Nat.zero_add]
    have w3 : ∀ {h' : Heap}, Upd No h3 h' → ∀ i, hcell h' (adr ⟨h2.size, 0, none⟩ i) = (#[.string q.1, .string q.2] : Array Value)[i]? := fun k i => by rw [adr_mk, hcell_blk (k.get0 b3), Nat.zero_add]
    have r := Upd.refl No h3
    refine condP_true.2 ⟨none, w1 r 3, p.1, w2 r 0, p.2, w2 r 1, none, w1 r 3, q.1, w3 r 0, q.2, w3 r 1, ?_⟩
    refine bucket_ok (gW ((k1.tr k2).tr k3)) fun h4 b4 bk4 hu4 => ⟨⟨w3 hu4 0, w3 hu4 1⟩, w1 hu4 3, ⟨w2 hu4 0, w2 hu4 1⟩, w1 hu4 3, ?_⟩
    refine bPut_ok bk4 (gW (((k1.tr k2).tr k3).tr hu4)) List.Pairwise.nil (by simp) p fun h5 b5 bk5 hu5 => ?_
    have hu45 := hu4.tr hu5
    refine ⟨⟨w3 hu45 0, w3 hu45 1⟩, w1 hu45 3, ?_⟩
    have e1 : insP [] p = [p] := insP_eq p List.Pairwise.nil
    rw [e1] at bk5
    refine bPut_ok bk5 (gW (((k1.tr k2).tr k3).tr hu45)) (List.pairwise_singleton ..) (by simp) q fun h6 b6 bk6 hu6 => ?_
    rw [insP_eq q (List.pairwise_singleton ..)] at bk6
    exact hk h6 b6 bk6 ((((k1.tr k2).tr k3).tr hu45).tr hu6)
  | succ m ih =>
    intro p q hm hne h hW K hk
    have gW : ∀ {h'}, Upd No h h' → ∀ y, W y → y < h'.size := fun k y hy => Nat.lt_of_lt_of_le (hW y hy) k.size
    have hl : 13 - (m + 1) < 13 := by omega
    have hlev : 13 - (m + 1) = 12 - m := by omega
    refine H_champ_work_both (x.k0, x.k1, x.mask, none, q.1, hashV x q.1) p q ((13 - (m + 1) : Nat) : Int) ?_
    unfold F_champ_work_both
    have k1 := Upd.hnew No h [.int .u64 x.k0, .int .u64 x.k1, .int .u64 x.mask, .pointer none, .string q.1, .int .u64 (hashV x q.1)] t_champ_work
    have b1 := hnew_get h [.int .u64 x.k0, .int .u64 x.k1, .int .u64 x.mask, .pointer none, .string q.1, .int .u64 (hashV x q.1)] t_champ_work
    refine at_intro ?_
    simp only [newA_eq h]
    generalize hnew h [.int .u64 x.k0, .int .u64 x.k1, .int .u64 x.mask, .pointer none, .string q.1, .int .u64 (hashV x q.1)] t_champ_work = h1 at k1 b1
    have k2 := Upd.hnew No h1 [.string p.1, .string p.2] t_pair_Pair
    have b2 := hnew_get h1 [.string p.1, .string p.2] t_pair_Pair
    refine at_intro ?_
    simp only [newA_eq h1]
    generalize hnew h1 [.string p.1, .string p.2] t_pair_Pair = h2 at k2 b2
    have k3 := Upd.hnew No h2 [.string q.1, .string q.2] t_pair_Pair
    have b3 := hnew_get h2 [.string q.1, .string q.2] t_pair_Pair
    refine at_intro ?_
    simp only [newA_eq h2]
    generalize hnew h2 [.string q.1, .string q.2] t_pair_Pair = h3 at k3 b3
    have w1 : ∀ {h' : Heap}, Upd No h3 h' → ∀ i, hcell h' (adr ⟨h.size, 0, none⟩ i) = (#[.int .u64 x.k0, .int .u64 x.k1, .int .u64 x.mask, .pointer none, .string q.1, .int .u64 (hashV x q.1)] : Array Value)[i]? := fun k i => by
      rw [adr_mk, hcell_blk (k.get0 (k3.get0 (k2.get0 b1))), Nat.zero_add]
    have w2 : ∀ {h' : Heap}, Upd No h3 h' → ∀ i, hcell h' (adr ⟨h1.size, 0, none⟩ i) = (#[.string p.1, .string p.2] : Array Value)[i]? := fun k i => by rw [adr_mk, hcell_blk (k.get0 (k3.get0 b2)), Nat.zero_add]
    have w3 : ∀ {h' : Heap}, Upd No h3 h' → ∀ i, hcell h' (adr ⟨h2.size, 0, none⟩ i) = (#[.string q.1, .string q.2] : Array Value)[i]? := fun k i => by rw [adr_mk, hcell_blk (k.get0 b3), Nat.zero_add]
    have r := Upd.refl No h3
    have ne : (((13 - (m + 1) : Nat) : Int) == (13 : Int)) = false := by rw [beq_eq_false_iff_ne]; omega
    rw [ne]
    refine condP_false.2 ⟨_, w1 r 0, _, w1 r 1, _, w1 r 2, _, w2 r 0, _, w1 r 5, ?_⟩
    refine hash_ok fun h4 hu4 => ⟨w1 hu4 5, ckAt hl ⟨w1 hu4 5, ckAt hl ?_⟩⟩
    have hi := ck_lt x (13 - (m + 1)) p.1
    have hj := ck_lt x (13 - (m + 1)) q.1
    have hk03 := ((k1.tr k2).tr k3)
    have hcl := two_len hne
    refine CondP.intro (fun e => ?_) fun e => ?_
    · have e : ck x (13 - (m + 1)) p.1 = ck x (13 - (m + 1)) q.1 := by have := eq_of_beq e; omega
      refine ⟨_, w1 hu4 3, _, w1 hu4 0, _, w1 hu4 1, _, w1 hu4 2, _, w1 hu4 3, _, w1 hu4 4, _, w1 hu4 5, _, w2 hu4 0, _, w2 hu4 1, _, w3 hu4 0, _, w3 hu4 1, ?_⟩
      refine nodeInner_ok (gW (hk03.tr hu4)) fun h5 b5 nd5 hu5 => ?_
      have hu35 := hu4.tr hu5
      refine ⟨⟨w3 hu35 0, w3 hu35 1⟩, ⟨w2 hu35 0, w2 hu35 1⟩, ⟨w1 hu35 0, w1 hu35 1, w1 hu35 2, w1 hu35 3, w1 hu35 4, w1 hu35 5⟩, w1 hu35 3, ?_⟩
      have ew : IntKind.wrap .i64 (((13 - (m + 1) : Nat) : Int) + 1) = ((13 - m : Nat) : Int) := by rw [w64 (by omega)]; omega
      rw [ew]
      refine ih p q (by omega) hne (gW (hk03.tr hu35)) fun h6 b6 t6 hu6 => ?_
      have hu36 := hu35.tr hu6
      refine ⟨w1 hu36 3, ?_⟩
      refine setKid_ok (nd5.upd hu6 fun _ h => h.elim) (gW (hk03.tr hu36)) hi (fun y h => by cases h) ⟨b6, 0, none⟩ fun h7 b7 nd7 hu7 => ?_
      refine hk h7 b7 ⟨_, nd7, fun c hc => ?_⟩ ((hk03.tr hu36).tr hu7)
      rw [hlev] at e
      by_cases hcc : c = ck x (13 - (m + 1)) p.1
      · refine .inr (.inr ?_)
        have ea : part x (12 - m) c (insR q [p]) = insR q [p] := part_all fun r hr => by
          rcases mem_two hr with rfl | rfl
          · rw [hcc, hlev]
          · rw [hcc, hlev, e]
        rw [ea]
        exact ⟨by omega, by simp [upd], b6, by rw [hcc]; exact upd_same, TrieAt.upd0 hu7 t6⟩
      · refine .inl ⟨part_no fun r hr => ?_, by simp [upd], upd_other hcc⟩
        rw [hlev] at hcc
        rcases mem_two hr with rfl | rfl
        · exact fun e => hcc e.symm
        · rw [← e]; exact fun e => hcc e.symm
    · have e : ck x (13 - (m + 1)) p.1 ≠ ck x (13 - (m + 1)) q.1 := fun h => by rw [h] at e; simp at e
      refine ⟨_, w1 hu4 3, _, w2 hu4 0, _, w2 hu4 1, _, w1 hu4 3, _, w3 hu4 0, _, w3 hu4 1, ?_⟩
      refine nodeInner_ok (gW (hk03.tr hu4)) fun h5 b5 nd5 hu5 => ?_
      have hu35 := hu4.tr hu5
      refine ⟨⟨w3 hu35 0, w3 hu35 1⟩, w1 hu35 3, ⟨w2 hu35 0, w2 hu35 1⟩, w1 hu35 3, ?_⟩
      refine setPair_ok nd5 (gW (hk03.tr hu35)) hi (fun y h => by cases h) p fun h6 b6 nd6 hu6 => ?_
      have hu36 := hu35.tr hu6
      refine ⟨⟨w3 hu36 0, w3 hu36 1⟩, w1 hu36 3, ?_⟩
      refine setPair_ok nd6 (gW (hk03.tr hu36)) hj (fun y h => by simp [upd]) q fun h7 b7 nd7 hu7 => ?_
      refine hk h7 b7 ⟨_, nd7, fun c hc => ?_⟩ ((hk03.tr hu36).tr hu7)
      have hpi := part_ins (x := x) (lev := 12 - m) (c := c) (p := q) (l := [p]) (List.pairwise_singleton ..)
      rw [hlev] at e
      by_cases hcp : c = ck x (12 - m) p.1
      · have hcq : ck x (12 - m) q.1 ≠ c := fun h => e (by omega)
        have e1 : part x (12 - m) c [p] = [p] := part_all fun r hr => by rw [List.mem_singleton.1 hr, hcp]
        rw [if_neg hcq, e1] at hpi
        exact .inr (.inl ⟨p, hpi, by simp [upd, hlev, hcp, e], by simp [upd]⟩)
      · have e1 : part x (12 - m) c [p] = [] := part_no fun r hr => by rw [List.mem_singleton.1 hr]; exact fun h => hcp h.symm
        rw [e1] at hpi
        by_cases hcq : c = ck x (12 - m) q.1
        · rw [if_pos hcq.symm] at hpi
          exact .inr (.inl ⟨q, hpi, by simp [upd, hlev, hcq], by simp [upd]⟩)
        · rw [if_neg fun h => hcq h.symm] at hpi
          exact .inl ⟨hpi, by simp [upd, hlev, hcq, hcp], by simp [upd]⟩
end Go.Proofs
namespace Go.Proofs
open Go.Lift
noncomputable instance memDec (p : Pr) (l : List Pr) : Decidable (p ∈ l) := Classical.propDecidable _
theorem rises_uniq {l : List Pr} (hr : Rises l) {k v w : ByteArray} (h1 : (k, v) ∈ l) (h2 : (k, w) ∈ l) : v = w := by
  induction l with
  | nil => cases h1
  | cons q l ih =>
    have hr := List.pairwise_cons.1 hr
    rcases List.mem_cons.1 h1 with e1 | h1 <;> rcases List.mem_cons.1 h2 with e2 | h2
    · exact (Prod.mk.inj (e1.trans e2.symm)).2
    · have := hr.1 _ h2; rw [← e1] at this; exact absurd this (kl_irrefl _)
    · have := hr.1 _ h1; rw [← e2] at this; exact absurd this (kl_irrefl _)
    · exact ih hr.2 h1 h2
theorem mem_part {x : Hs} {lev c : Nat} {l : List Pr} {p : Pr} : p ∈ part x lev c l ↔ p ∈ l ∧ ck x lev p.1 = c := by unfold part; rw [List.mem_filter, decide_eq_true_iff]
theorem there_part {x : Hs} {lev : Nat} {l : List Pr} {k : ByteArray} : there (part x lev (ck x lev k) l) k = there l k := by
  unfold there
  rw [Bool.eq_iff_iff, List.any_eq_true, List.any_eq_true]
  constructor
  · rintro ⟨p, hp, e⟩; exact ⟨p, (mem_part.1 hp).1, e⟩
  · rintro ⟨p, hp, e⟩; exact ⟨p, mem_part.2 ⟨hp, by rw [of_decide_eq_true e]⟩, e⟩
theorem rises_part {x : Hs} {lev c : Nat} {l : List Pr} (hr : Rises l) : Rises (part x lev c l) := hr.sublist List.filter_sublist
theorem part_len {x : Hs} {lev c : Nat} {l : List Pr} : (part x lev c l).length ≤ l.length := List.length_filter_le ..
/-- What a chunk of a node of a trie has. -/
def SlotIs (W : Nat → Prop) (x : Hs) (h : Heap) (m : Nat) (s : Slots) (c : Nat) (l : List Pr) : Prop :=
  (l = [] ∧ s.p c = none ∧ s.k c = none) ∨ (∃ p, l = [p] ∧ s.p c = some p ∧ s.k c = none) ∨ (2 ≤ l.length ∧ s.p c = none ∧ ∃ kb, s.k c = some (some ⟨kb, 0, none⟩) ∧ TrieAt W x h m kb l)
theorem SlotIs.upd0 {W : Nat → Prop} {x : Hs} {h h' : Heap} {m : Nat} {s : Slots} {c : Nat} {l : List Pr} (k : Upd No h h') (t : SlotIs W x h m s c l) : SlotIs W x h' m s c l := t.imp id fun o => o.imp id fun ⟨h1, h2, kb, h3, h4⟩ => ⟨h1, h2, kb, h3, TrieAt.upd0 k h4⟩
theorem insR_len (p : Pr) : ∀ {l : List Pr}, l.length ≤ (insR p l).length
  | [] => Nat.zero_le _
  | q :: l => by
    rw [insR_cons]; split
    · have := insR_len p (l := l); simp only [List.length_cons]; omega
    · split <;> simp
/-- A chunk's slot turned, the others as they were. -/
theorem trie_turn {W : Nat → Prop} {x : Hs} {h h' : Heap} {m b' : Nat} {s s' : Slots} {l : List Pr} {p : Pr} (hr : Rises l) (hu : Upd No h h') (nd : NodeAt W h' b' s') (hs : ∀ c, c < 32 → SlotIs W x h m s c (part x (12 - m) c l))
    (hp : ∀ c, c ≠ ck x (12 - m) p.1 → s'.p c = s.p c ∧ s'.k c = s.k c) (hi : SlotIs W x h' m s' (ck x (12 - m) p.1) (insR p (part x (12 - m) (ck x (12 - m) p.1) l))) : TrieAt W x h' (m + 1) b' (insR p l) := by
  refine ⟨s', nd, fun c hc => ?_⟩
  rw [part_ins hr]
  by_cases e : ck x (12 - m) p.1 = c
  · rw [if_pos e]; subst e; exact hi
  · rw [if_neg e]
    have t := SlotIs.upd0 hu (hs c hc)
    obtain ⟨e1, e2⟩ := hp c fun h => e h.symm
    unfold SlotIs at t
    rw [← e1, ← e2] at t
    exact t
theorem beq_list {a b : ByteArray} : (a.toList == b.toList) = decide (a = b) := by
  rw [Bool.eq_iff_iff, beq_iff_eq, decide_eq_true_iff, bytes_ext]
theorem put_ok {W : Nat → Prop} {x : Hs} : ∀ (m : Nat), m ≤ 13 → ∀ {b : Nat} {l : List Pr} (p : Pr) {h : Heap}, TrieAt W x h m b l → (∀ y, W y → y < h.size) → Rises l → l.length ≤ 1000000 → ∀ {K : (Option Addr) × Bool × Bool → Heap → Prop},
    (∀ h' b' ch, Upd No h h' → TrieAt W x h' m b' (insR p l) → (ch = false → b' = b) → ch = !decide (p ∈ l) → K (some ⟨b', 0, none⟩, !there l p.1, ch) h') →
    HC PG f_champ_work_put [workV x p.1, .pointer (some ⟨b, 0, none⟩), .agg #[.string p.1, .string p.2], .int .i64 ((13 - m : Nat) : Int)] [.c .ptr, .c .bool, .c .bool] K h := by
  intro m
  induction m with
  | zero =>
    intro _ b l p h t hW hr hn K hk
    have gW : ∀ {h'}, Upd No h h' → ∀ y, W y → y < h'.size := fun k y hy => Nat.lt_of_lt_of_le (hW y hy) k.size
    refine H_champ_work_put (x.k0, x.k1, x.mask, none, p.1, hashV x p.1) (some ⟨b, 0, none⟩) p ((13 - 0 : Nat) : Int) ?_
    unfold F_champ_work_put
    have k1 := Upd.hnew No h [.int .u64 x.k0, .int .u64 x.k1, .int .u64 x.mask, .pointer none, .string p.1, .int .u64 (hashV x p.1)] t_champ_work
    have b1 := hnew_get h [.int .u64 x.k0, .int .u64 x.k1, .int .u64 x.mask, .pointer none, .string p.1, .int .u64 (hashV x p.1)] t_champ_work
    refine at_intro ?_
    simp only [newA_eq h]
    generalize hnew h [.int .u64 x.k0, .int .u64 x.k1, .int .u64 x.mask, .pointer none, .string p.1, .int .u64 (hashV x p.1)] t_champ_work = h1 at k1 b1
    have k2 := Upd.hnew No h1 [.string p.1, .string p.2] t_pair_Pair
    have b2 := hnew_get h1 [.string p.1, .string p.2] t_pair_Pair
    refine at_intro ?_
    simp only [newA_eq h1]
    generalize hnew h1 [.string p.1, .string p.2] t_pair_Pair = h2 at k2 b2
    have w1 : ∀ {h' : Heap}, Upd No h2 h' → ∀ i, hcell h' (adr ⟨h.size, 0, none⟩ i) = (#[.int .u64 x.k0, .int .u64 x.k1, .int .u64 x.mask, .pointer none, .string p.1, .int .u64 (hashV x p.1)] : Array Value)[i]? := fun k i => by
      rw [adr_mk, hcell_blk (k.get0 (k2.get0 b1)), Nat.zero_add]
    have w2 : ∀ {h' : Heap}, Upd No h2 h' → ∀ i, hcell h' (adr ⟨h1.size, 0, none⟩ i) = (#[.string p.1, .string p.2] : Array Value)[i]? := fun k i => by rw [adr_mk, hcell_blk (k.get0 b2), Nat.zero_add]
    have r := Upd.refl No h2
    have k02 := k1.tr k2
    have bk : BuckAt W h2 b l := BuckAt.upd t k02 fun _ h => h.elim
    obtain ⟨sp, sk, ow, hb, _⟩ := bk.ex
    refine isBucket_ok hb (condP_true.2 ⟨_, w2 r 0, in_ok bk hr (by omega) p.1 fun h3 v hu3 hv => ?_⟩)
    have put : ∀ (hnot : p ∉ l) {h4 : Heap}, Upd No h2 h4 → HC PG f_node_Node_Put [.pointer (some ⟨b, 0, none⟩), .pointer none, .agg #[.string p.1, .string p.2]] [.c .ptr] (fun (e15 : Option Addr) h16 => K (e15, !there l p.1, true) h16) h4 := fun hnot h4 hu4 =>
      bPut_ok (bk.upd hu4 fun _ h => h.elim) (gW (k02.tr hu4)) hr (by omega) p fun h5 b5 bk5 hu5 => by
        rw [insP_eq p hr] at bk5
        exact hk h5 b5 true ((k02.tr hu4).tr hu5) bk5 (fun h => by cases h) (by rw [decide_eq_false hnot]; rfl)
    refine Join.intro (fun t' h' => t' = decide (p ∈ l) ∧ Upd No h2 h') (fun R hR => ?_) ?_
    · cases ht : there l p.1 with
      | false =>
        refine condP_false.2 (hR _ _ ⟨?_, hu3⟩)
        refine (decide_eq_false fun hm => ?_).symm
        have : there l p.1 = true := List.any_eq_true.2 ⟨p, hm, decide_eq_true rfl⟩
        rw [ht] at this; cases this
      | true =>
        have hv := hv ht
        refine condP_true.2 ⟨_, w2 hu3 1, hR _ _ ⟨?_, hu3⟩⟩
        rw [beq_list, decide_eq_decide]
        constructor
        · intro e
          have e : v = p.2 := e
          rw [e] at hv; exact hv
        · intro hm
          exact rises_uniq hr hv (show (p.1, p.2) ∈ l from hm)
    · rintro t' h4 ⟨rfl, hu4⟩
      by_cases hm : p ∈ l
      · rw [decide_eq_true hm]
        refine condP_true.2 ?_
        have ht : there l p.1 = true := List.any_eq_true.2 ⟨p, hm, decide_eq_true rfl⟩
        have := hk h4 b false (k02.tr hu4) (by rw [ins_mem hr hm]; exact bk.upd hu4 fun _ h => h.elim) (fun _ => rfl) (by rw [decide_eq_true hm]; rfl)
        rw [ht] at this; exact this
      · rw [decide_eq_false hm]
        refine condP_false.2 ⟨none, w1 hu4 3, _, w2 hu4 0, _, w2 hu4 1, put hm hu4⟩
  | succ m ih =>
    intro hm b l p h t hW hr hn K hk
    have gW : ∀ {h'}, Upd No h h' → ∀ y, W y → y < h'.size := fun k y hy => Nat.lt_of_lt_of_le (hW y hy) k.size
    have hl : 13 - (m + 1) < 13 := by omega
    have hlev : 13 - (m + 1) = 12 - m := by omega
    refine H_champ_work_put (x.k0, x.k1, x.mask, none, p.1, hashV x p.1) (some ⟨b, 0, none⟩) p ((13 - (m + 1) : Nat) : Int) ?_
    unfold F_champ_work_put
    have k1 := Upd.hnew No h [.int .u64 x.k0, .int .u64 x.k1, .int .u64 x.mask, .pointer none, .string p.1, .int .u64 (hashV x p.1)] t_champ_work
    have b1 := hnew_get h [.int .u64 x.k0, .int .u64 x.k1, .int .u64 x.mask, .pointer none, .string p.1, .int .u64 (hashV x p.1)] t_champ_work
    refine at_intro ?_
    simp only [newA_eq h]
    generalize hnew h [.int .u64 x.k0, .int .u64 x.k1, .int .u64 x.mask, .pointer none, .string p.1, .int .u64 (hashV x p.1)] t_champ_work = h1 at k1 b1
    have k2 := Upd.hnew No h1 [.string p.1, .string p.2] t_pair_Pair
    have b2 := hnew_get h1 [.string p.1, .string p.2] t_pair_Pair
    refine at_intro ?_
    simp only [newA_eq h1]
    generalize hnew h1 [.string p.1, .string p.2] t_pair_Pair = h2 at k2 b2
    have w1 : ∀ {h' : Heap}, Upd No h2 h' → ∀ i, hcell h' (adr ⟨h.size, 0, none⟩ i) = (#[.int .u64 x.k0, .int .u64 x.k1, .int .u64 x.mask, .pointer none, .string p.1, .int .u64 (hashV x p.1)] : Array Value)[i]? := fun k i => by
      rw [adr_mk, hcell_blk (k.get0 (k2.get0 b1)), Nat.zero_add]
    have w2 : ∀ {h' : Heap}, Upd No h2 h' → ∀ i, hcell h' (adr ⟨h1.size, 0, none⟩ i) = (#[.string p.1, .string p.2] : Array Value)[i]? := fun k i => by rw [adr_mk, hcell_blk (k.get0 b2), Nat.zero_add]
    have r := Upd.refl No h2
    have k02 := k1.tr k2
    obtain ⟨s, nd0, hs0⟩ := TrieAt.upd0 k02 t
    have hs : ∀ c, c < 32 → SlotIs W x h2 m s c (part x (12 - m) c l) := hs0
    have tt : ∀ {h' : Heap}, Upd No h2 h' → TrieAt W x h' (m + 1) b l := fun k => TrieAt.upd0 (k02.tr k) t
    obtain ⟨d0, n0, sp0, sk0, ow0, hb0, _⟩ := nd0.ex
    refine isBucket_ok hb0 (condP_false.2 ⟨_, w1 r 5, ckAt hl ?_⟩)
    rw [hlev]
    have hi := ck_lt x (12 - m) p.1
    have hsi := hs _ hi
    have hrp := rises_part (x := x) (lev := 12 - m) (c := ck x (12 - m) p.1) hr
    have hnp : (part x (12 - m) (ck x (12 - m) p.1) l).length ≤ 1000000 := Nat.le_trans part_len hn
    have hmp : p ∈ part x (12 - m) (ck x (12 - m) p.1) l ↔ p ∈ l := by rw [mem_part]; exact ⟨fun h => h.1, fun h => ⟨h, rfl⟩⟩
    have htp := there_part (x := x) (lev := 12 - m) (l := l) (k := p.1)
    have hturn := fun {h' : Heap} {b' : Nat} {s' : Slots} => trie_turn (W := W) (x := x) (h := h2) (h' := h') (m := m) (b' := b') (s := s) (s' := s') (l := l) (p := p) hr
    generalize hc : ck x (12 - m) p.1 = c at hi hsi hrp hnp hmp htp hturn
    generalize hlp : part x (12 - m) c l = lc at hsi hrp hnp hmp htp hturn
    refine nPair_ok nd0 hi fun h3 hu3 => ?_
    have k4 := Upd.hnew No h3 [.string (⟨#[]⟩ : ByteArray), .string (⟨#[]⟩ : ByteArray)] t_pair_Pair
    have b4 := hnew_get h3 [.string (⟨#[]⟩ : ByteArray), .string (⟨#[]⟩ : ByteArray)] t_pair_Pair
    refine at_intro ?_
    simp only [newA_eq h3]
    generalize hnew h3 [.string (⟨#[]⟩ : ByteArray), .string (⟨#[]⟩ : ByteArray)] t_pair_Pair = h4 at k4 b4
    have b4' : h4[h3.size]? = some (.cells #[.string zPr.1, .string zPr.2] t_pair_Pair (0, 0)) := b4
    refine prVar (p := gotP (s.p c)) b4' fun h5 b5 hu5 => ?_
    have hu25 : Upd No h2 h5 := (hu3.tr k4).trans hu5 fun y hy => .inr (by have hy : y = h3.size := hy; have := hu3.size; omega)
    have w5 : ∀ {h' : Heap}, Upd No h5 h' → ∀ i, hcell h' (adr ⟨h3.size, 0, none⟩ i) = (#[.string (gotP (s.p c)).1, .string (gotP (s.p c)).2] : Array Value)[i]? := fun k i => by rw [adr_mk, hcell_blk (k.get0 b5), Nat.zero_add]
    have r5 := Upd.refl No h5
    have nd5 := nd0.upd hu25 fun _ h => h.elim
    cases hsp : s.p c with
    | some y =>
      rw [hsp] at w5
      obtain ⟨hone, hk0⟩ : lc = [y] ∧ s.k c = none := by
        rcases hsi with ⟨_, h2, _⟩ | ⟨q, h1, h2, h3⟩ | ⟨_, h2, _⟩
        · rw [hsp] at h2; cases h2
        · rw [hsp] at h2; cases h2; exact ⟨h1, h3⟩
        · rw [hsp] at h2; cases h2
      refine condP_true.2 ⟨y.1, w5 r5 0, y.2, w5 r5 1, p.1, w2 hu25 0, p.2, w2 hu25 1, ?_⟩
      rw [beq_list, beq_list]
      have hyl : y ∈ l := (mem_part.1 (show y ∈ part x (12 - m) c l by rw [hlp, hone]; exact List.mem_singleton.2 rfl)).1
      by_cases e1 : y.1 = p.1
      · have ht : there l p.1 = true := List.any_eq_true.2 ⟨y, hyl, decide_eq_true e1⟩
        rw [ht] at hk
        by_cases e2 : y.2 = p.2
        · rw [decide_eq_true e1, decide_eq_true e2]
          have hyp : y = p := Prod.ext e1 e2
          have hml : p ∈ l := hyp ▸ hyl
          refine condP_true.2 ?_
          exact hk h5 b false (k02.tr hu25) (by rw [ins_mem hr hml]; exact tt hu25) (fun _ => rfl) (by rw [decide_eq_true hml]; rfl)
        · rw [decide_eq_true e1, decide_eq_false e2]
          refine condP_false.2 ⟨y.1, w5 r5 0, p.1, w2 hu25 0, ?_⟩
          rw [beq_list, decide_eq_true e1]
          refine condP_true.2 ⟨none, w1 hu25 3, p.1, w2 hu25 0, p.2, w2 hu25 1, ?_⟩
          refine setPair_ok nd5 (gW (k02.tr hu25)) hi (fun _ _ => hk0) p fun h6 b6 nd6 hu6 => ?_
          have hnl : p ∉ l := fun hm => by
            have := hmp.2 hm
            rw [hone] at this
            exact e2 (by rw [List.mem_singleton.1 this])
          refine hk h6 b6 true ((k02.tr hu25).tr hu6) (hturn (hu25.tr hu6) nd6 hs (fun c' hc' => ⟨upd_other hc', upd_other hc'⟩) ?_) (fun h => by cases h) (by rw [decide_eq_false hnl]; rfl)
          refine .inr (.inl ⟨p, ?_, upd_same, upd_same⟩)
          rw [hone, insR_cons, if_neg (by rw [e1]; exact kl_irrefl _), if_pos e1]
      · rw [decide_eq_false e1]
        refine condP_false.2 ⟨y.1, w5 r5 0, p.1, w2 hu25 0, ?_⟩
        rw [beq_list, decide_eq_false e1]
        refine condP_false.2 ⟨none, w1 hu25 3, _, w1 hu25 0, _, w1 hu25 1, _, w1 hu25 2, _, w1 hu25 3, _, w1 hu25 4, _, w1 hu25 5, y.1, w5 r5 0, y.2, w5 r5 1, p.1, w2 hu25 0, p.2, w2 hu25 1, ?_⟩
        have ew : IntKind.wrap .i64 (((12 - m : Nat) : Int) + 1) = ((13 - m : Nat) : Int) := by rw [w64 (by omega)]; omega
        rw [ew]
        refine both_ok m y p (by omega) e1 (gW (k02.tr hu25)) fun h6 b6 t6 hu6 => ⟨w1 (hu25.tr hu6) 3, ?_⟩
        refine setKid_ok (nd5.upd hu6 fun _ h => h.elim) (gW ((k02.tr hu25).tr hu6)) hi (fun z hz => by rw [hk0] at hz; cases hz) ⟨b6, 0, none⟩ fun h7 b7 nd7 hu7 => ?_
        have ht : there l p.1 = false := by
          rw [← htp, hone]
          unfold there
          rw [List.any_cons, decide_eq_false e1]; rfl
        have hnl : p ∉ l := fun hm => by
          have : there l p.1 = true := List.any_eq_true.2 ⟨p, hm, decide_eq_true rfl⟩
          rw [ht] at this; cases this
        rw [ht] at hk
        refine hk h7 b7 true (((k02.tr hu25).tr hu6).tr hu7) (hturn ((hu25.tr hu6).tr hu7) nd7 hs (fun c' hc' => ⟨upd_other hc', upd_other hc'⟩) ?_) (fun h => by cases h) (by rw [decide_eq_false hnl]; rfl)
        rw [hone]
        exact .inr (.inr ⟨by rw [two_len e1]; omega, upd_same, b6, upd_same, TrieAt.upd0 hu7 t6⟩)
    | none =>
      refine condP_false.2 (nKid_ok nd5 hi ?_)
      cases hsk : s.k c with
      | none =>
        have hlc : lc = [] := by
          rcases hsi with ⟨h1, _⟩ | ⟨q, _, h2, _⟩ | ⟨_, _, kb, h2, _⟩
          · exact h1
          · rw [hsp] at h2; cases h2
          · rw [hsk] at h2; cases h2
        refine condP_true.2 ⟨none, w1 hu25 3, p.1, w2 hu25 0, p.2, w2 hu25 1, ?_⟩
        refine setPair_ok nd5 (gW (k02.tr hu25)) hi (fun _ _ => hsk) p fun h6 b6 nd6 hu6 => ?_
        have ht : there l p.1 = false := by rw [← htp, hlc]; rfl
        have hnl : p ∉ l := fun hm => by
          have : there l p.1 = true := List.any_eq_true.2 ⟨p, hm, decide_eq_true rfl⟩
          rw [ht] at this; cases this
        rw [ht] at hk
        refine hk h6 b6 true ((k02.tr hu25).tr hu6) (hturn (hu25.tr hu6) nd6 hs (fun c' hc' => ⟨upd_other hc', upd_other hc'⟩) ?_) (fun h => by cases h) (by rw [decide_eq_false hnl]; rfl)
        rw [hlc]
        exact .inr (.inl ⟨p, rfl, upd_same, upd_same⟩)
      | some kp =>
        obtain ⟨h2l, kb, rfl, tk⟩ : 2 ≤ lc.length ∧ ∃ kb, kp = some ⟨kb, 0, none⟩ ∧ TrieAt W x h2 m kb lc := by
          rcases hsi with ⟨_, _, h2⟩ | ⟨q, _, h2, _⟩ | ⟨h1, _, kb, h2, h3⟩
          · rw [hsk] at h2; cases h2
          · rw [hsp] at h2; cases h2
          · rw [hsk] at h2; cases h2; exact ⟨h1, kb, rfl, h3⟩
        refine condP_false.2 ⟨_, w1 hu25 0, _, w1 hu25 1, _, w1 hu25 2, _, w1 hu25 3, _, w1 hu25 4, _, w1 hu25 5, p.1, w2 hu25 0, p.2, w2 hu25 1, ?_⟩
        have ew : IntKind.wrap .i64 (((12 - m : Nat) : Int) + 1) = ((13 - m : Nat) : Int) := by rw [w64 (by omega)]; omega
        rw [ew]
        refine ih (by omega) p (TrieAt.upd0 hu25 tk) (gW (k02.tr hu25)) hrp hnp fun h6 b6 ch hu6 t6 hsame hch => ?_
        have hu26 := hu25.tr hu6
        by_cases hml : p ∈ l
        · have hch : ch = false := by rw [hch, decide_eq_true (hmp.2 hml)]; rfl
          have ht : there l p.1 = true := List.any_eq_true.2 ⟨p, hml, decide_eq_true rfl⟩
          rw [ht] at hk
          rw [hch]
          refine condP_true.2 ?_
          exact hk h6 b false (k02.tr hu26) (by rw [ins_mem hr hml]; exact tt hu26) (fun _ => rfl) (by rw [decide_eq_true hml]; rfl)
        · have hch : ch = true := by rw [hch, decide_eq_false fun h => hml (hmp.1 h)]; rfl
          rw [hch]
          refine condP_false.2 ⟨none, w1 hu26 3, ?_⟩
          refine setKid_ok (nd5.upd hu6 fun _ h => h.elim) (gW ((k02.tr hu25).tr hu6)) hi (fun _ _ => hsp) ⟨b6, 0, none⟩ fun h7 b7 nd7 hu7 => ?_
          rw [htp]
          refine hk h7 b7 true ((k02.tr hu26).tr hu7) (hturn (hu26.tr hu7) nd7 hs (fun c' hc' => ⟨upd_other hc', upd_other hc'⟩) ?_) (fun h => by cases h) (by rw [decide_eq_false hml]; rfl)
          exact .inr (.inr ⟨Nat.le_trans h2l (insR_len p), upd_same, b6, upd_same, TrieAt.upd0 hu7 t6⟩)
end Go.Proofs
namespace Go.Proofs
open Go.Lift
theorem trie_nil {W : Nat → Prop} {x : Hs} {h : Heap} {m b : Nat} (nd : NodeAt W h b ⟨fun _ => none, fun _ => none⟩) : TrieAt W x h (m + 1) b [] := ⟨_, nd, fun _ _ => .inl ⟨rfl, rfl, rfl⟩⟩
/-- A root: none counts as one of no pairs. -/
def RootAt (W : Nat → Prop) (x : Hs) (h : Heap) (r : Option Addr) (l : List Pr) : Prop := (r = none ∧ l = []) ∨ ∃ b, r = some ⟨b, 0, none⟩ ∧ TrieAt W x h 13 b l
theorem RootAt.upd0 {W : Nat → Prop} {x : Hs} {h h' : Heap} {r : Option Addr} {l : List Pr} (k : Upd No h h') (t : RootAt W x h r l) : RootAt W x h' r l := t.imp id fun ⟨b, e, t⟩ => ⟨b, e, TrieAt.upd0 k t⟩
theorem some_ok {W : Nat → Prop} {x : Hs} {h : Heap} {r : Option Addr} {l : List Pr} (t : RootAt W x h r l) (hW : ∀ y, W y → y < h.size) {K : Option Addr → Heap → Prop} (hk : ∀ h' b, TrieAt W x h' 13 b l → Upd No h h' → (r = some ⟨b, 0, none⟩ ∨ r = none) → K (some ⟨b, 0, none⟩) h') : HC PG f_champ_some [.pointer r] [.c .ptr] K h := by
  refine H_champ_some r ?_
  unfold F_champ_some
  rcases t with ⟨rfl, rfl⟩ | ⟨b, rfl, t⟩
  · refine condP_true.2 (H_champ_Empty ?_)
    unfold F_champ_Empty
    exact nodeInner_ok hW fun h' b nd hu => hk h' b (trie_nil nd) hu (.inr rfl)
  · exact condP_false.2 (hk h b t (Upd.refl _ _) (.inl rfl))
/-- A variable of six cells is set. -/
theorem setAll {h : Heap} {b : Nat} {t : TypeId} {c vs : List Value} (hb : h[b]? = some (.cells c.toArray t (0, 0))) (hl : vs.length = c.length) {k : Heap → Prop}
    (hk : ∀ h', h'[b]? = some (.cells vs.toArray t (0, 0)) → Upd (· = b) h h' → k h') : WrS h (some ⟨b, 0, none⟩) 0 vs ∧ At (hsetL h ⟨b, 0, none⟩ 0 vs) k := by
  have e := hsetL_blk vs h 0 0 c hb (by omega)
  refine ⟨.inr ⟨_, rfl, fun j hj => by rw [adr_mk]; exact wr_blk hb (by rw [List.size_toArray]; omega)⟩, at_intro ?_⟩
  rw [e]
  refine hk _ ?_ (Upd.set h _ rfl)
  rw [set_get hb]
  congr 3
  simp [hl]
set_option maxRecDepth 4000 in
theorem champPut_ok {W : Nat → Prop} {x : Hs} {h : Heap} {r : Option Addr} {l : List Pr} (t : RootAt W x h r l) (hW : ∀ y, W y → y < h.size) (hr : Rises l) (hn : l.length ≤ 1000000) (p : Pr) {K : Option Addr × Bool → Heap → Prop}
    (hk : ∀ h' b', Upd No h h' → TrieAt W x h' 13 b' (insR p l) → (p ∈ l → r = some ⟨b', 0, none⟩ ∨ r = none) → K (some ⟨b', 0, none⟩, !there l p.1) h') :
    HC PG f_champ_Put [.agg #[.int .u64 x.k0, .int .u64 x.k1, .int .u64 x.mask], .pointer none, .pointer r, .agg #[.string p.1, .string p.2]] [.c .ptr, .c .bool] K h := by
  refine H_champ_Put (x.k0, x.k1, x.mask) none r p ?_
  unfold F_champ_Put
  have k1 := Upd.hnew No h [.int .u64 x.k0, .int .u64 x.k1, .int .u64 x.mask] t_sip_Hasher
  have b1 := hnew_get h [.int .u64 x.k0, .int .u64 x.k1, .int .u64 x.mask] t_sip_Hasher
  refine at_intro ?_
  simp only [newA_eq h]
  generalize hnew h [.int .u64 x.k0, .int .u64 x.k1, .int .u64 x.mask] t_sip_Hasher = h1 at k1 b1
  have k2 := Upd.hnew No h1 [.string p.1, .string p.2] t_pair_Pair
  have b2 := hnew_get h1 [.string p.1, .string p.2] t_pair_Pair
  refine at_intro ?_
  simp only [newA_eq h1]
  generalize hnew h1 [.string p.1, .string p.2] t_pair_Pair = h2 at k2 b2
  have w1 : ∀ {h' : Heap}, Upd No h2 h' → ∀ i, hcell h' (adr ⟨h.size, 0, none⟩ i) = (#[.int .u64 x.k0, .int .u64 x.k1, .int .u64 x.mask] : Array Value)[i]? := fun k i => by
    rw [adr_mk, hcell_blk (k.get0 (k2.get0 b1)), Nat.zero_add]
  have w2 : ∀ {h' : Heap}, Upd No h2 h' → ∀ i, hcell h' (adr ⟨h1.size, 0, none⟩ i) = (#[.string p.1, .string p.2] : Array Value)[i]? := fun k i => by rw [adr_mk, hcell_blk (k.get0 b2), Nat.zero_add]
  have r2 := Upd.refl No h2
  have k02 := k1.tr k2
  let c6 : List Value := [.int .u64 0, .int .u64 0, .int .u64 0, .pointer none, .string (⟨#[]⟩ : ByteArray), .int .u64 0]
  let v6 : List Value := [.int .u64 x.k0, .int .u64 x.k1, .int .u64 x.mask, .pointer none, .string p.1, .int .u64 (hashV x p.1)]
  -- the last part, of a block that has the work
  have fin : ∀ {h4 : Heap} {b : Nat}, Upd No h2 h4 → h4[b]? = some (.cells v6.toArray t_champ_work (0, 0)) →
      ∃ v15 : Int, hcell h4 (adr ⟨b, 0, none⟩ 0) = some (.int .u64 v15) ∧
              ∃ v16 : Int, hcell h4 (adr ⟨b, 0, none⟩ 1) = some (.int .u64 v16) ∧
              ∃ v17 : Int, hcell h4 (adr ⟨b, 0, none⟩ 2) = some (.int .u64 v17) ∧
              ∃ v18 : Option Addr, hcell h4 (adr ⟨b, 0, none⟩ 3) = some (.pointer v18) ∧
              ∃ v19 : ByteArray, hcell h4 (adr ⟨b, 0, none⟩ 4) = some (.string v19) ∧
              ∃ v20 : Int, hcell h4 (adr ⟨b, 0, none⟩ 5) = some (.int .u64 v20) ∧
              ∃ v21 : ByteArray, hcell h4 (adr ⟨h1.size, 0, none⟩ 0) = some (.string v21) ∧
              ∃ v22 : ByteArray, hcell h4 (adr ⟨h1.size, 0, none⟩ 1) = some (.string v22) ∧
              HC PG f_champ_some [.pointer r] [.c .ptr] (fun (e23 : Option Addr) h24 =>
               ((hcell h24 (adr ⟨h1.size, 0, none⟩ 0) = some (.string v21) ∧ hcell h24 (adr ⟨h1.size, 0, none⟩ 1) = some (.string v22)) ∧
                ((hcell h24 (adr ⟨b, 0, none⟩ 0) = some (.int .u64 v15) ∧ hcell h24 (adr ⟨b, 0, none⟩ 1) = some (.int .u64 v16) ∧ hcell h24 (adr ⟨b, 0, none⟩ 2) = some (.int .u64 v17) ∧ hcell h24 (adr ⟨b, 0, none⟩ 3) = some (.pointer v18) ∧ hcell h24 (adr ⟨b, 0, none⟩ 4) = some (.string v19) ∧ hcell h24 (adr ⟨b, 0, none⟩ 5) = some (.int .u64 v20)) ∧
                 HC PG f_champ_work_put [.agg #[.int .u64 v15, .int .u64 v16, .int .u64 v17, .pointer v18, .string v19, .int .u64 v20], .pointer e23, .agg #[.string v21, .string v22], .int .i64 0] [.c .ptr, .c .bool, .c .bool] (fun (e25 : (Option Addr) × Bool × Bool) h26 =>
                  K (e25.1, e25.2.1) h26) h24))) h4 := fun {h4 b} hu4 hb4 => by
    have w4 : ∀ {h' : Heap}, Upd No h4 h' → ∀ i, hcell h' (adr ⟨b, 0, none⟩ i) = v6.toArray[i]? := fun k i => by rw [adr_mk, hcell_blk (k.get0 hb4), Nat.zero_add]
    have r4 := Upd.refl No h4
    refine ⟨_, w4 r4 0, _, w4 r4 1, _, w4 r4 2, _, w4 r4 3, _, w4 r4 4, _, w4 r4 5, p.1, w2 hu4 0, p.2, w2 hu4 1, ?_⟩
    refine some_ok (t.upd0 (k02.tr hu4)) (fun y hy => Nat.lt_of_lt_of_le (hW y hy) (k02.tr hu4).size) fun h5 b5 t5 hu5 hr5 => ?_
    have hu25 := hu4.tr hu5
    refine ⟨⟨w2 hu25 0, w2 hu25 1⟩, ⟨w4 hu5 0, w4 hu5 1, w4 hu5 2, w4 hu5 3, w4 hu5 4, w4 hu5 5⟩, ?_⟩
    refine put_ok 13 (Nat.le_refl _) p t5 (fun y hy => Nat.lt_of_lt_of_le (hW y hy) ((k02.tr hu4).tr hu5).size) hr hn fun h6 b6 ch hu6 t6 hs hch => ?_
    refine hk h6 b6 ((k02.tr hu25).tr hu6) t6 fun hm => ?_
    have hb : b6 = b5 := hs (by rw [hch, decide_eq_true hm]; rfl)
    rw [hb]; exact hr5
  have own : ∀ {h3 h4 : Heap} {b : Nat}, h2.size ≤ b → Upd (· = b) h3 h4 → Upd No h2 h3 → Upd No h2 h4 := fun hb hu k => k.trans hu fun y hy => .inr (hy ▸ hb)
  refine ⟨_, w1 r2 0, _, w1 r2 1, _, w1 r2 2, _, w2 r2 0, _, w1 r2 0, _, w1 r2 1, _, w1 r2 2, _, w2 r2 0, ?_, ?_⟩
  · refine hash_ok fun h3 hu3 => ⟨w2 hu3 0, ⟨w1 hu3 0, w1 hu3 1, w1 hu3 2⟩, ?_, ?_⟩
    · have k4 := Upd.hnew No h3 c6 t_champ_work
      have b4 := hnew_get h3 c6 t_champ_work
      refine at_intro ?_
      simp only [newA_eq h3]
      refine setAll (vs := v6) b4 rfl fun h5 b5 hu5 => fin (own hu3.size hu5 (hu3.tr k4)) b5
    · have k4 := Upd.hnew No h3 c6 t_champ_work
      have b4 := hnew_get h3 c6 t_champ_work
      have hu4 := hu3.tr k4
      refine at_intro ?_
      simp only [newA_eq h3]
      refine ⟨w2 hu4 0, ⟨w1 hu4 0, w1 hu4 1, w1 hu4 2⟩, ?_⟩
      refine setAll (vs := v6) b4 rfl fun h5 b5 hu5 => fin (own hu3.size hu5 hu4) b5
  · have k4 := Upd.hnew No h2 c6 t_champ_work
    have b4 := hnew_get h2 c6 t_champ_work
    refine at_intro ?_
    simp only [newA_eq h2]
    refine ⟨w2 k4 0, ⟨w1 k4 0, w1 k4 1, w1 k4 2⟩, w2 k4 0, ⟨w1 k4 0, w1 k4 1, w1 k4 2⟩, ?_⟩
    refine hash_ok fun h5 hu5 => ?_
    have hu25 := k4.tr hu5
    refine ⟨w2 hu25 0, ⟨w1 hu25 0, w1 hu25 1, w1 hu25 2⟩, ?_⟩
    exact setAll (vs := v6) (hu5.get0 b4) rfl fun h6 b6 hu6 => fin (own (Nat.le_refl _) hu6 hu25) b6
end Go.Proofs
namespace Go.Proofs
open Go.Lift
abbrev byF (b : UInt8) : List Value := [.int .u8 (b.toNat : Int)]
theorem byF_ne (b : UInt8) : (byF b).length = 1 ∧ 0 < 1 := ⟨rfl, Nat.one_pos⟩
theorem one_byF : ∀ xs : List UInt8, oneCell (xs.flatMap byF) = true
  | [] => rfl
  | x :: xs => by rw [List.flatMap_cons]; exact oneCell_join rfl (one_byF xs)
theorem byteVals_eq (s : ByteArray) : byteVals s = s.data.toList.flatMap byF := by
  unfold byteVals
  generalize s.data.toList = l
  induction l with
  | nil => rfl
  | cons b l ih => rw [List.map_cons, List.flatMap_cons, ih]; rfl
/-- One more byte behind one's own. -/
theorem append1b {M : Nat → Prop} {h : Heap} {so : SliceV} {out : List UInt8} {v : Int} {b : UInt8} (hv : v = (b.toNat : Int)) {K : SliceV → Heap → Prop} (ho : OwnS byF 1 t_u8 M h so out) (hM : ∀ b, h.size ≤ b → M b) (hn : out.length + 1 ≤ 140737488355328)
    (hk : ∀ s' h', OwnS byF 1 t_u8 M h' s' (out ++ [b]) → Upd M h h' → K s' h') :
    ∃ xs, SRow (hnew h [.int .u8 v] t_u8) (some (newA h)) (1 * 1) xs ∧ AppP (some [.int .u8 0]) 1 1 t_u8 so.a so.len so.cap 1 xs (hnew h [.int .u8 v] t_u8) K := by
  subst hv
  have k := Upd.hnew No h [.int .u8 (b.toNat : Int)] t_u8
  have h1 : OwnS byF 1 t_u8 (fun _ => True) (hnew h [.int .u8 (b.toNat : Int)] t_u8) ⟨some (newA h), 1, 1⟩ [b] := ⟨rfl, byF_ne, Nat.le_refl _, .inr ⟨h.size, [], rfl, trivial, hnew_get .., rfl⟩⟩
  refine ⟨_, (h1.sl (W := No) fun _ _ _ h => h).srow, ?_⟩
  refine AppP.own (ys := [b]) (ho.upd k fun _ _ h => h) rfl rfl rfl rfl (by omega) (by simp only [List.length_singleton]; omega) (hM _ (by rw [hnew_size]; omega)) fun s' h' ho' hu => ?_
  exact hk s' h' ho' ((Upd.hnew M h _ _).tr hu)
/-- A number's lowest k bytes. -/
def layV (n k : Nat) : List UInt8 := (List.range k).map fun i => UInt8.ofNat (n >>> (8 * i))
theorem layV_succ (n k : Nat) : layV n (k + 1) = layV n k ++ [UInt8.ofNat (n >>> (8 * k))] := by unfold layV; rw [List.range_succ, List.map_append]; rfl
theorem layV_len (n k : Nat) : (layV n k).length = k := by simp [layV]
theorem lay_ok {M : Nat → Prop} {h : Heap} {s : SliceV} {xs : List UInt8} (ho : OwnS byF 1 t_u8 M h s xs) (hM : ∀ b, h.size ≤ b → M b) {n k : Nat} (hn : n < 18446744073709551616) (hk8 : k ≤ 8) (hl : xs.length + k ≤ 140737488355328) {K : SliceV → Heap → Prop}
    (hk : ∀ s' h', OwnS byF 1 t_u8 M h' s' (xs ++ layV n k) → Upd M h h' → K s' h') : HC PG f_shape_lay [.slice s.a s.len s.cap, .int .u64 n, .int .i64 k] [.c .slice] K h := by
  refine H_shape_lay s n k ?_
  unfold F_shape_lay
  refine LoopP.ghost (fun (i : Nat) (t : SliceV × Int) h' => t.2 = (i : Int) ∧ i ≤ k ∧ OwnS byF 1 t_u8 M h' t.1 (xs ++ layV n i) ∧ Upd M h h') (fun i => k - i) 0 ⟨rfl, Nat.zero_le _, by simpa [layV] using ho, Upd.refl _ _⟩ ?_
  rintro I i ⟨so, ti⟩ h' ⟨e1, hi, ho', hu⟩ hI
  simp only at e1 ho'
  subst e1
  refine condP_dec (fun hlt => ?_) fun hge => ?_
  · have hlt : i < k := by have : (i : Int) < (k : Int) := hlt; omega
    have e8 : IntKind.wrap .i64 (8 * (i : Int)) = ((8 * i : Nat) : Int) := by rw [w64 (by omega)]; omega
    have em : min (((8 * i : Nat) : Int)).toNat (IntKind.bits .u64) = 8 * i := by rw [Int.toNat_natCast]; exact Nat.min_eq_left (by show 8 * i ≤ 64; omega)
    refine Join.plain ?_
    simp only [Bd]
    rw [e8, em, fdiv_shift]
    refine ⟨by omega, at_intro ?_⟩
    refine append1b (b := UInt8.ofNat (n >>> (8 * i))) ?_ ho' (fun b hb => hM b (Nat.le_trans hu.size hb)) (by rw [List.length_append, layV_len]; omega) fun s2 h2 ho2 hu2 => ?_
    · rw [IntKind.wrap_u8]; simp
    · rw [wrap_succ hlt (by omega)]
      refine hI (i + 1) _ _ ⟨rfl, hlt, ?_, hu.tr hu2⟩ (by omega)
      rw [layV_succ, ← List.append_assoc]; exact ho2
  · have hik : i = k := by have : ¬ (i : Int) < (k : Int) := hge; omega
    subst hik
    exact hk _ _ ho' hu
end Go.Proofs
namespace Go.Proofs
open Go Go.Lift
/-- Append where there is no room: a row of one's own comes of it. -/
theorem appFresh {α : Type} {f : α → List Value} {sz bytes : Nat} {t : TypeId} {W : Nat → Prop} {h : Heap} {base : Option Addr} {sl sc xl : Nat} {xs ys : List α} {ysv z : List Value} {K : SliceV → Heap → Prop}
    (hs : Sl f sz W h ⟨base, sl, sc⟩ xs) (hxl : xl = ys.length) (hys : ysv = ys.flatMap f) (hz : z.length = sz) (hb : 0 < bytes) (hout : sc < sl + xl) (hfit : (xs.length + ys.length) * bytes ≤ 140737488355328)
    (hk : ∀ s' h', OwnS f sz t (fun b => h.size ≤ b) h' s' (xs ++ ys) → Upd No h h' → K s' h') : AppP (some z) sz bytes t base sl sc xl ysv h K := by
  have hlen : sl = xs.length := hs.len
  subst hxl hys
  refine ⟨fun hin => by omega, fun _ => ?_⟩
  refine ⟨xs.flatMap f, z, hs.srow, rfl, hb, Go.growslice_fits hout (by rw [hlen]; exact hfit), fun nc hnc => ?_⟩
  refine hk _ _ ⟨by simp [hlen], hs.ne, hnc, .inr ⟨h.size, zrow (nc - (sl + ys.length)) z, rfl, Nat.le_refl _, ?_, ?_⟩⟩ (Upd.hnew No h _ _)
  · rw [hnew_get, List.flatMap_append]
  · rw [zrow_len, hz]
theorem layF_ok {h : Heap} {s : SliceV} {xs : List UInt8} (hs : Sl byF 1 No h s xs) (hc : s.cap = s.len) {n k : Nat} (hk8 : k ≤ 8) (hk0 : 0 < k) (hl : xs.length + k ≤ 140737488355328) {K : SliceV → Heap → Prop}
    (hk : ∀ s' h', OwnS byF 1 t_u8 (fun b => h.size ≤ b) h' s' (xs ++ layV n k) → Upd No h h' → K s' h') : HC PG f_shape_lay [.slice s.a s.len s.cap, .int .u64 n, .int .i64 k] [.c .slice] K h := by
  refine H_shape_lay s n k ?_
  unfold F_shape_lay
  refine LoopP.ghost (fun (i : Nat) (t : SliceV × Int) h' => t.2 = (i : Int) ∧ i ≤ k ∧ ((i = 0 ∧ t.1 = s ∧ h' = h) ∨ OwnS byF 1 t_u8 (fun b => h.size ≤ b) h' t.1 (xs ++ layV n i)) ∧ Upd No h h') (fun i => k - i) 0 ⟨rfl, Nat.zero_le _, .inl ⟨rfl, rfl, rfl⟩, Upd.refl _ _⟩ ?_
  rintro I i ⟨so, ti⟩ h' ⟨e1, hi, ho', hu⟩ hI
  simp only at e1 ho'
  subst e1
  refine condP_dec (fun hlt => ?_) fun hge => ?_
  · have hlt : i < k := by have : (i : Int) < (k : Int) := hlt; omega
    have e8 : IntKind.wrap .i64 (8 * (i : Int)) = ((8 * i : Nat) : Int) := by rw [w64 (by omega)]; omega
    have em : min (((8 * i : Nat) : Int)).toNat (IntKind.bits .u64) = 8 * i := by rw [Int.toNat_natCast]; exact Nat.min_eq_left (by show 8 * i ≤ 64; omega)
    refine Join.plain ?_
    simp only [Bd]
    rw [e8, em, fdiv_shift]
    refine ⟨by omega, at_intro ?_⟩
    have ev : IntKind.wrap .u8 ((n >>> (8 * i) : Nat) : Int) = ((UInt8.ofNat (n >>> (8 * i))).toNat : Int) := by rw [IntKind.wrap_u8]; simp
    rcases ho' with ⟨rfl, rfl, rfl⟩ | ho'
    · rw [ev]
      have k1 := Upd.hnew No h' [.int .u8 ((UInt8.ofNat (n >>> (8 * 0))).toNat : Int)] t_u8
      have h1 : OwnS byF 1 t_u8 (fun _ => True) (hnew h' [.int .u8 ((UInt8.ofNat (n >>> (8 * 0))).toNat : Int)] t_u8) ⟨some (newA h'), 1, 1⟩ [UInt8.ofNat (n >>> (8 * 0))] := ⟨rfl, byF_ne, Nat.le_refl _, .inr ⟨h'.size, [], rfl, trivial, hnew_get .., rfl⟩⟩
      refine ⟨_, (h1.sl (W := No) fun _ _ _ h => h).srow, ?_⟩
      refine appFresh (ys := [UInt8.ofNat (n >>> (8 * 0))]) (hs.upd k1 fun _ h => h.elim) rfl rfl rfl (by omega) (by omega) (by simp only [List.length_singleton]; omega) fun s2 h2 ho2 hu2 => ?_
      rw [wrap_succ hlt (by omega)]
      refine hI 1 _ _ ⟨rfl, hlt, .inr ?_, k1.tr hu2⟩ (by omega)
      exact ho2.more fun b hb => Nat.le_trans k1.size hb
    · refine append1b ev ho' (fun b hb => Nat.le_trans hu.size hb) (by rw [List.length_append, layV_len]; omega) fun s2 h2 ho2 hu2 => ?_
      rw [wrap_succ hlt (by omega)]
      refine hI (i + 1) _ _ ⟨rfl, hlt, .inr ?_, hu.trans hu2 fun b hb => .inr hb⟩ (by omega)
      rw [layV_succ, ← List.append_assoc]; exact ho2
  · have hik : i = k := by have : ¬ (i : Int) < (k : Int) := hge; omega
    subst hik
    rcases ho' with ⟨e, _⟩ | ho'
    · omega
    · exact hk _ _ ho' hu
/-- How long, and the bytes. -/
def textV (s : ByteArray) : List UInt8 := layV s.size 2 ++ s.data.toList
theorem text_ok {W : Nat → Prop} {h : Heap} {s : SliceV} {xs : List UInt8} (hs : Sl byF 1 W h s xs) (hc : s.len ≤ s.cap) (b : ByteArray) (hb : b.size ≤ 1000000) (hl : xs.length + 2 + b.size ≤ 140737488355328) {K : SliceV → Heap → Prop}
    (hk : ∀ s' h', OwnS byF 1 t_u8 (fun x => h.size ≤ x) h' s' (xs ++ textV b) → Upd No h h' → K s' h') : HC PG f_shape_Text [.slice s.a s.len s.cap, .string b] [.c .slice] K h := by
  refine H_shape_Text s b ?_
  unfold F_shape_Text
  have hlen := hs.len
  refine ⟨by omega, by omega, ?_⟩
  simp only [Int.toNat_natCast]
  have hs1 : Sl byF 1 No h ⟨subAddr s.a 0 s.len 1, s.len - 0, s.len - 0⟩ xs := by
    have := Sl.sub (hs.less (W' := No) fun _ h => h.elim) (l := 0) (hi := s.len) (m := s.len) (c := s.len - 0) (Nat.zero_le _) (by omega) (Nat.le_refl _)
    rw [List.drop_zero, List.take_of_length_le (by omega)] at this
    exact this
  have ew : IntKind.wrap .u64 (b.size : Int) = (b.size : Int) := Go.IntWalk.u64_in _ (by omega)
  rw [ew]
  refine layF_ok hs1 rfl (n := b.size) (k := 2) (by omega) (by omega) (by omega) fun s2 h2 ho2 hu2 => ?_
  refine AppP.own (ys := b.data.toList) ho2 (by simp) (byteVals_eq b) (by rw [byteVals_eq]; exact one_byF _) rfl (by omega) ?_ hu2.size fun s3 h3 ho3 hu3 => ?_
  · simp only [List.length_append, layV_len]
    have : b.data.toList.length = b.size := by simp
    omega
  · refine hk s3 h3 ?_ (hu2.trans hu3 fun x hx => .inr hx)
    rw [textV, ← List.append_assoc]; exact ho3
end Go.Proofs
namespace Go.Proofs
open Go Go.Lift
def pairV (p : Pr) : List UInt8 := textV p.1 ++ textV p.2
def pairsV (l : List Pr) : List UInt8 := l.flatMap pairV
theorem textV_len (b : ByteArray) : (textV b).length = 2 + b.size := by simp [textV, layV_len]
/-- Pairs, none of them too long. -/
def Fit (l : List Pr) : Prop := ∀ p ∈ l, p.1.size ≤ 10000 ∧ p.2.size ≤ 10000
theorem pairV_len {p : Pr} (h : p.1.size ≤ 10000 ∧ p.2.size ≤ 10000) : (pairV p).length ≤ 20004 := by
  unfold pairV; rw [List.length_append, textV_len, textV_len]; omega
theorem pairsV_len : ∀ {l : List Pr}, Fit l → (pairsV l).length ≤ l.length * 20004
  | [], _ => by simp [pairsV]
  | p :: l, h => by
    have h1 := pairV_len (h p (List.mem_cons_self ..))
    have h2 := pairsV_len (l := l) fun q hq => h q (List.mem_cons_of_mem _ hq)
    unfold pairsV at *
    rw [List.flatMap_cons, List.length_append, List.length_cons]
    omega
theorem pairsV_take {l : List Pr} {i : Nat} (hi : i < l.length) : pairsV (l.take (i + 1)) = pairsV (l.take i) ++ pairV l[i] := by
  unfold pairsV
  rw [List.take_succ_eq_append_getElem hi, List.flatMap_append, List.flatMap_cons, List.flatMap_nil, List.append_nil]
theorem shPairs_ok {M W : Nat → Prop} {h : Heap} {s sp : SliceV} {xs : List UInt8} {l : List Pr} (ho : OwnS byF 1 t_u8 M h s xs) (hM : ∀ b, h.size ≤ b → M b) (hs : Sl prF 2 W h sp l) (hW : ∀ x, M x → x < h.size → W x) (hf : Fit l) (hn : l.length ≤ 1000000) (hl : xs.length + l.length * 20004 ≤ 140737488355328) {K : SliceV → Heap → Prop}
    (hk : ∀ s' h', OwnS byF 1 t_u8 M h' s' (xs ++ pairsV l) → Upd M h h' → K s' h') : HC PG f_shape_pairs [.slice s.a s.len s.cap, .slice sp.a sp.len sp.cap] [.c .slice] K h := by
  refine H_shape_pairs s sp ?_
  unfold F_shape_pairs
  have hlen := hs.len
  have hMW : ∀ b, M b → W b ∨ h.size ≤ b := fun b hb => by
    rcases Nat.lt_or_ge b h.size with hx | hx
    · exact .inl (hW b hb hx)
    · exact .inr hx
  refine LoopP.ghost (fun (i : Nat) (t : SliceV × Int) h' => t.2 = (i : Int) ∧ i ≤ l.length ∧ OwnS byF 1 t_u8 M h' t.1 (xs ++ pairsV (l.take i)) ∧ Upd M h h') (fun i => l.length - i) 0 ⟨rfl, Nat.zero_le _, by simpa [pairsV] using ho, Upd.refl _ _⟩ ?_
  rintro I i ⟨so, ti⟩ h' ⟨e1, hi, ho', hu⟩ hI
  simp only at e1 ho'
  subst e1
  refine condP_dec (fun hlt => ?_) fun hge => ?_
  · have hlt : i < l.length := by have : (i : Int) < (sp.len : Int) := hlt; omega
    obtain ⟨a, ha, _, hv⟩ := (hs.upd hu hMW).at (List.getElem?_eq_getElem hlt)
    have hfi := hf l[i] (List.getElem_mem hlt)
    have htl := pairsV_len (l := l.take i) fun q hq => hf q (List.mem_of_mem_take hq)
    rw [List.length_take, Nat.min_eq_left hi] at htl
    have k1 := Upd.hnew No h' [.string (⟨#[]⟩ : ByteArray), .string (⟨#[]⟩ : ByteArray)] t_pair_Pair
    have b1 := hnew_get h' [.string (⟨#[]⟩ : ByteArray), .string (⟨#[]⟩ : ByteArray)] t_pair_Pair
    refine ⟨by simp only; omega, a, ha, l[i].1, hv 0 _ rfl, l[i].2, hv 1 _ rfl, at_intro ?_⟩
    simp only [newA_eq h']
    generalize hnew h' [.string (⟨#[]⟩ : ByteArray), .string (⟨#[]⟩ : ByteArray)] t_pair_Pair = h1 at k1 b1
    have b1' : h1[h'.size]? = some (.cells #[.string zPr.1, .string zPr.2] t_pair_Pair (0, 0)) := b1
    refine prVar (p := l[i]) b1' fun h2 b2 hu2 => ?_
    have hu12 : Upd No h' h2 := k1.trans hu2 fun x hx => .inr (Nat.le_of_eq hx.symm)
    have ho2 := ho'.upd hu12 fun _ _ h => h
    refine ⟨l[i].1, by rw [adr_mk, hcell_blk b2]; rfl, l[i].2, by rw [adr_mk, hcell_blk b2]; rfl, ?_⟩
    have hmul : i * 20004 + 20004 ≤ l.length * 20004 := by rw [← Nat.succ_mul]; exact Nat.mul_le_mul_right _ hlt
    refine text_ok (W := No) (ho2.sl fun _ _ _ h => h) ho2.cap l[i].1 (by omega) (by rw [List.length_append]; omega) fun s3 h3 ho3 hu3 => ⟨by rw [adr_mk, hcell_blk (hu3.get0 b2)]; rfl, ?_⟩
    refine text_ok (W := No) (ho3.sl fun _ _ _ h => h) ho3.cap l[i].2 (by omega) (by rw [List.length_append, List.length_append, textV_len]; omega) fun s4 h4 ho4 hu4 => ?_
    have hu04 : Upd M h h4 := hu.tr ((hu12.tr (hu3.tr hu4)).wide)
    rw [wrap_succ hlt (by omega)]
    refine hI (i + 1) _ _ ⟨rfl, hlt, ?_, hu04⟩ (by omega)
    rw [pairsV_take hlt, pairV, ← List.append_assoc, ← List.append_assoc]
    exact ho4.more fun b hb => hM b (Nat.le_trans (hu.tr ((hu12.tr hu3).wide)).size hb)
  · have hil : i = l.length := by have : ¬ (i : Int) < (sp.len : Int) := hge; omega
    rw [List.take_of_length_le (by omega)] at ho'
    exact hk _ _ ho' hu
end Go.Proofs
namespace Go.Proofs
open Go Go.Lift
/-- The number whose bits are told. -/
def bitsN (q : Nat → Bool) : Nat → Nat
  | 0 => 0
  | n + 1 => bitsN q n + (if q n then 2 ^ n else 0)
theorem bitsN_lt (q : Nat → Bool) : ∀ n, bitsN q n < 2 ^ n
  | 0 => by simp [bitsN]
  | n + 1 => by
    have := bitsN_lt q n
    unfold bitsN
    rw [Nat.pow_succ]
    split <;> omega
theorem bitsN_bit (q : Nat → Bool) (c : Nat) : ∀ n, (bitsN q n).testBit c = (decide (c < n) && q c)
  | 0 => by simp [bitsN]
  | n + 1 => by
    have hlt := bitsN_lt q n
    have ih := bitsN_bit q c n
    unfold bitsN
    by_cases hq : q n = true
    · rw [if_pos hq, Nat.add_comm]
      rcases Nat.lt_trichotomy c n with h | h | h
      · rw [Nat.testBit_two_pow_add_gt h, ih, decide_eq_true h, decide_eq_true (by omega)]
      · subst h
        rw [Nat.testBit_two_pow_add_eq, Nat.testBit_lt_two_pow hlt, decide_eq_true (by omega), hq]; rfl
      · have h1 : 2 ^ n + bitsN q n < 2 ^ c := Nat.lt_of_lt_of_le (by rw [Nat.pow_succ]; omega : 2 ^ n + bitsN q n < 2 ^ (n + 1)) (Nat.pow_le_pow_right (by omega) h)
        rw [Nat.testBit_lt_two_pow h1, decide_eq_false (by omega)]; rfl
    · rw [if_neg hq, Nat.add_zero, ih]
      by_cases h : c < n
      · rw [decide_eq_true h, decide_eq_true (by omega)]
      · by_cases e : c = n
        · subst e; have : q c = false := by simpa using hq
          rw [this]; simp
        · rw [decide_eq_false h, decide_eq_false (by omega)]
theorem bits_uniq {d : Nat} {q : Nat → Bool} (hd : d < 4294967296) (h : ∀ c, c < 32 → d.testBit c = q c) : d = bitsN q 32 := by
  refine Nat.eq_of_testBit_eq fun c => ?_
  rw [bitsN_bit]
  by_cases hc : c < 32
  · rw [h c hc, decide_eq_true hc]; rfl
  · rw [decide_eq_false hc, Nat.testBit_lt_two_pow (Nat.lt_of_lt_of_le hd (Nat.pow_le_pow_right (n := 2) (by omega) (show 32 ≤ c by omega)))]; rfl
end Go.Proofs
namespace Go.Proofs
open Go Go.Lift
/-- Of a node's chunks: the pairs that stand alone, the parts of two and more. -/
def solo (l : List Pr) : Option Pr := match l with | [p] => some p | _ => none
def many (l : List Pr) : Option (List Pr) := if 2 ≤ l.length then some l else none
def solos (x : Hs) (lev : Nat) (l : List Pr) : List Pr := fm (fun c => solo (part x lev c l)) 32
def manys (x : Hs) (lev : Nat) (l : List Pr) : List (List Pr) := fm (fun c => many (part x lev c l)) 32
/-- How the trie of a list looks. -/
def shapeV (x : Hs) : Nat → List Pr → List UInt8
  | 0, l => 1 :: (layV l.length 2 ++ pairsV l)
  | m + 1, l => 0 :: (layV (bitsN (fun c => (solo (part x (12 - m) c l)).isSome) 32) 4 ++ (layV (bitsN (fun c => (many (part x (12 - m) c l)).isSome) 32) 4 ++ (pairsV (solos x (12 - m) l) ++ (manys x (12 - m) l).flatMap (shapeV x m))))
theorem slot_p {W : Nat → Prop} {x : Hs} {h : Heap} {m : Nat} {s : Slots} {c : Nat} {l : List Pr} (t : SlotIs W x h m s c l) : s.p c = solo l ∧ (s.k c).isSome = (many l).isSome := by
  rcases t with ⟨rfl, h1, h2⟩ | ⟨p, rfl, h1, h2⟩ | ⟨h0, h1, kb, h2, _⟩
  · rw [h1, h2]; exact ⟨rfl, rfl⟩
  · rw [h1, h2]; exact ⟨rfl, rfl⟩
  · rw [h1, h2]
    refine ⟨?_, by simp [many, h0]⟩
    match l, h0 with
    | a :: b :: l, _ => rfl
/-- Kids, each with its part. -/
def KidsAt (W : Nat → Prop) (x : Hs) (h : Heap) (m : Nat) : List (Option Addr) → List (List Pr) → Prop
  | [], [] => True
  | k :: ks, l :: ls => (∃ kb, k = some ⟨kb, 0, none⟩ ∧ TrieAt W x h m kb l) ∧ KidsAt W x h m ks ls
  | _, _ => False
theorem KidsAt.app {W : Nat → Prop} {x : Hs} {h : Heap} {m : Nat} : ∀ {ks ks' : List (Option Addr)} {ls ls' : List (List Pr)}, KidsAt W x h m ks ls → KidsAt W x h m ks' ls' → KidsAt W x h m (ks ++ ks') (ls ++ ls')
  | [], _, [], _, _, q => q
  | _ :: _, _, _ :: _, _, q, q' => ⟨q.1, KidsAt.app q.2 q'⟩
  | [], _, _ :: _, _, q, _ => q.elim
  | _ :: _, _, [], _, q, _ => q.elim
theorem fm_succ {β : Type} (g : Nat → Option β) (n : Nat) : fm g (n + 1) = fm g n ++ (g n).toList := by
  unfold fm
  rw [List.range_succ, List.filterMap_append]
  cases h : g n <;> simp [h]
theorem kidsAt {W : Nat → Prop} {x : Hs} {h : Heap} {m lev : Nat} {s : Slots} {l : List Pr} : ∀ n, (∀ c, c < n → SlotIs W x h m s c (part x lev c l)) → KidsAt W x h m (fm s.k n) (fm (fun c => many (part x lev c l)) n)
  | 0, _ => trivial
  | n + 1, hs => by
    rw [fm_succ, fm_succ]
    refine KidsAt.app (kidsAt n fun c hc => hs c (by omega)) ?_
    rcases hs n (by omega) with ⟨h0, _, h2⟩ | ⟨p, h0, _, h2⟩ | ⟨h0, _, kb, h2, h3⟩
    · rw [h2, h0]; exact trivial
    · rw [h2, h0]; exact trivial
    · rw [h2]
      have : many (part x lev n l) = some (part x lev n l) := by unfold many; rw [if_pos h0]
      simp only [this]
      exact ⟨⟨kb, rfl, h3⟩, trivial⟩
theorem solosAt {W : Nat → Prop} {x : Hs} {h : Heap} {m lev : Nat} {s : Slots} {l : List Pr} (hs : ∀ c, c < 32 → SlotIs W x h m s c (part x lev c l)) : fm s.p 32 = solos x lev l :=
  fmc _ fun c hc => (slot_p (hs c (List.mem_range.1 hc))).1
end Go.Proofs
namespace Go.Proofs
open Go Go.Lift
/-- The parts of the first n chunks have no more pairs than there are. -/
theorem parts_len (x : Hs) (lev : Nat) (l : List Pr) : ∀ n, (((List.range n).map fun c => (part x lev c l).length).sum) = (l.filter fun p => decide (ck x lev p.1 < n)).length
  | 0 => by
    have : (l.filter fun p => decide (ck x lev p.1 < 0)) = [] := List.filter_eq_nil_iff.2 fun p _ => by simp
    rw [this]; rfl
  | n + 1 => by
    rw [List.range_succ, List.map_append, List.sum_append, parts_len x lev l n]
    simp only [List.map_cons, List.map_nil, List.sum_cons, List.sum_nil, Nat.add_zero]
    unfold part
    clear parts_len
    induction l with
    | nil => rfl
    | cons p l ih =>
      simp only [List.filter_cons, decide_eq_true_iff]
      split <;> split <;> split <;> first | omega | (simp only [List.length_cons]; omega)
theorem solos_len (x : Hs) (lev : Nat) (l : List Pr) : (solos x lev l).length + (manys x lev l).flatten.length ≤ l.length := by
  have h := parts_len x lev l 32
  have hle : (l.filter fun p => decide (ck x lev p.1 < 32)).length ≤ l.length := List.length_filter_le ..
  have : ∀ n, (fm (fun c => solo (part x lev c l)) n).length + (fm (fun c => many (part x lev c l)) n).flatten.length ≤ ((List.range n).map fun c => (part x lev c l).length).sum := by
    intro n
    induction n with
    | zero => simp [fm]
    | succ n ih =>
      rw [fm_succ, fm_succ, List.range_succ, List.map_append, List.sum_append]
      simp only [List.length_append, List.flatten_append, List.map_cons, List.map_nil, List.sum_cons, List.sum_nil, Nat.add_zero]
      generalize part x lev n l = q
      have : (solo q).toList.length + (many q).toList.flatten.length ≤ q.length := by
        match q with
        | [] => simp [solo, many]
        | [a] => simp [solo, many]
        | a :: b :: q => simp [solo, many]
      omega
  have := this 32
  unfold solos manys
  omega
end Go.Proofs
namespace Go.Proofs
open Go Go.Lift
theorem mem_solos {x : Hs} {lev : Nat} {l : List Pr} {p : Pr} (h : p ∈ solos x lev l) : p ∈ l := by
  unfold solos fm at h
  obtain ⟨c, _, hc⟩ := List.mem_filterMap.1 h
  unfold solo at hc
  split at hc
  · rename_i q hq
    cases hc
    have : p ∈ part x lev c l := by rw [hq]; exact List.mem_singleton.2 rfl
    exact (mem_part.1 this).1
  · cases hc
theorem mem_manys {x : Hs} {lev : Nat} {l L : List Pr} (h : L ∈ manys x lev l) : 2 ≤ L.length ∧ ∃ c, L = part x lev c l := by
  unfold manys fm at h
  obtain ⟨c, _, hc⟩ := List.mem_filterMap.1 h
  unfold many at hc
  split at hc
  · cases hc; exact ⟨by assumption, c, rfl⟩
  · cases hc
theorem Fit.part {x : Hs} {lev c : Nat} {l : List Pr} (h : Fit l) : Fit (part x lev c l) := fun p hp => h p (mem_part.1 hp).1
theorem sum_len {B : Nat} {f : List Pr → List UInt8} : ∀ {ls : List (List Pr)}, (∀ L ∈ ls, 2 ≤ L.length ∧ (f L).length ≤ 9 + L.length * B) → (ls.flatMap f).length ≤ ls.flatten.length * (B + 9)
  | [], _ => by simp
  | L :: ls, h => by
    have h1 := h L (List.mem_cons_self ..)
    have h2 := sum_len (ls := ls) fun M hM => h M (List.mem_cons_of_mem _ hM)
    rw [List.flatMap_cons, List.length_append, List.flatten_cons, List.length_append, Nat.add_mul]
    have : L.length * (B + 9) = L.length * B + L.length * 9 := Nat.mul_add ..
    omega
theorem shapeV_len {x : Hs} : ∀ (m : Nat) {l : List Pr}, Fit l → (shapeV x m l).length ≤ 9 + l.length * (20004 + 9 * (m + 1))
  | 0, l, h => by
    have := pairsV_len h
    unfold shapeV
    rw [List.length_cons, List.length_append, layV_len]
    have : l.length * 20004 ≤ l.length * (20004 + 9 * (0 + 1)) := Nat.mul_le_mul_left _ (by omega)
    omega
  | m + 1, l, h => by
    have h1 := pairsV_len (l := solos x (12 - m) l) fun p hp => h p (mem_solos hp)
    have h2 := sum_len (f := shapeV x m) (ls := manys x (12 - m) l) (B := 20004 + 9 * (m + 1)) fun L hL => by
      obtain ⟨h3, c, rfl⟩ := mem_manys hL
      exact ⟨h3, shapeV_len m h.part⟩
    have h4 := solos_len x (12 - m) l
    unfold shapeV
    rw [List.length_cons, List.length_append, List.length_append, List.length_append, layV_len, layV_len]
    have h5 : (solos x (12 - m) l).length * 20004 ≤ (solos x (12 - m) l).length * (20004 + 9 * (m + 1 + 1)) := Nat.mul_le_mul_left _ (by omega)
    have h6 : ((solos x (12 - m) l).length + (manys x (12 - m) l).flatten.length) * (20004 + 9 * (m + 1 + 1)) ≤ l.length * (20004 + 9 * (m + 1 + 1)) := Nat.mul_le_mul_right _ h4
    rw [Nat.add_mul] at h6
    have h7 : 20004 + 9 * (m + 1) + 9 = 20004 + 9 * (m + 1 + 1) := by omega
    rw [h7] at h2
    omega
end Go.Proofs
