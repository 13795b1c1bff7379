/- A part of the proof that the named laws of this program answer true, whatever the input. -/
import Derived.Test.YtjkhbpjhngfpaaaGreatPart4
import Derived.Test.YtjkhbpjhngfpaaaGreatPart5
namespace Go.Proofs
open Go Go.Lift
theorem mem_fm {β : Type} {g : Nat → Option β} {n : Nat} {y : β} : y ∈ fm g n ↔ ∃ c, c < n ∧ g c = some y := by
  unfold fm
  rw [List.mem_filterMap]
  exact ⟨fun ⟨c, h1, h2⟩ => ⟨c, List.mem_range.1 h1, h2⟩, fun ⟨c, h1, h2⟩ => ⟨c, List.mem_range.2 h1, h2⟩⟩
def wl (x : Hs) : Nat → List Pr → List Pr
  | 0, l => l
  | m + 1, l => solos x (12 - m) l ++ (manys x (12 - m) l).flatMap (wl x m)
theorem wl_succ (x : Hs) (m : Nat) (l : List Pr) : wl x (m + 1) l = solos x (12 - m) l ++ (manys x (12 - m) l).flatMap (wl x m) := rfl
theorem mem_wl {x : Hs} {p : Pr} : ∀ (m : Nat) {l : List Pr}, p ∈ wl x m l ↔ p ∈ l
  | 0, _ => Iff.rfl
  | m + 1, l => by
    rw [wl_succ, List.mem_append, List.mem_flatMap]
    constructor
    · rintro (h | ⟨L, hL, h⟩)
      · exact mem_solos h
      · obtain ⟨_, c, rfl⟩ := mem_manys hL
        exact (mem_part.1 ((mem_wl m).1 h)).1
    · intro h
      have hm : p ∈ part x (12 - m) (ck x (12 - m) p.1) l := mem_part.2 ⟨h, rfl⟩
      have hc := ck_lt x (12 - m) p.1
      rcases hL : part x (12 - m) (ck x (12 - m) p.1) l with _ | ⟨a, _ | ⟨b, r⟩⟩
      · rw [hL] at hm; cases hm
      · left
        rw [hL] at hm
        rw [List.mem_singleton.1 hm]
        unfold solos
        exact mem_fm.2 ⟨_, hc, by show solo (part x (12 - m) (ck x (12 - m) p.1) l) = _; rw [hL]; rfl⟩
      · right
        refine ⟨a :: b :: r, ?_, (mem_wl m).2 (by rw [← hL]; exact hm)⟩
        unfold manys
        exact mem_fm.2 ⟨_, hc, by show many (part x (12 - m) (ck x (12 - m) p.1) l) = _; rw [hL]; rfl⟩
theorem flat_len {f : List Pr → List Pr} (h : ∀ l, (f l).length ≤ l.length) : ∀ ls : List (List Pr), (ls.flatMap f).length ≤ ls.flatten.length
  | [] => Nat.le_refl _
  | l :: ls => by
    have h1 := h l
    have h2 := flat_len h ls
    rw [List.flatMap_cons, List.flatten_cons, List.length_append, List.length_append]; omega
theorem wl_len (x : Hs) : ∀ (m : Nat) (l : List Pr), (wl x m l).length ≤ l.length
  | 0, _ => Nat.le_refl _
  | m + 1, l => by
    rw [wl_succ, List.length_append]
    have h1 := solos_len x (12 - m) l
    have h2 := flat_len (wl_len x m) (manys x (12 - m) l)
    omega
theorem srt_wl {x : Hs} {m : Nat} {l : List Pr} (hr : Rises l) : srtL (wl x m l) = l := by
  refine rises_ext (srt_rises _) hr fun p => ?_
  rw [mem_srt]
  constructor
  · intro h; exact (mem_wl m).1 (lastK_mem h)
  · intro h
    have hp : p ∈ (wl x m l).filter fun q => decide (q.1 = p.1) := List.mem_filter.2 ⟨(mem_wl m).2 h, decide_eq_true rfl⟩
    have hne : lastK (wl x m l) p.1 ≠ none := by
      unfold lastK
      intro e
      rw [List.getLast?_eq_none_iff] at e
      rw [e] at hp; cases hp
    cases hl : lastK (wl x m l) p.1 with
    | none => exact absurd hl hne
    | some q =>
      have h1 := lastK_key hl
      have h2 := (mem_wl m).1 (lastK_mem hl)
      have h3 : (p.1, q.2) ∈ l := by rw [← h1]; exact h2
      have h4 := rises_uniq hr (k := p.1) (v := p.2) (w := q.2) h h3
      rw [Prod.ext h1 h4.symm]
def cw (x : Hs) : Nat → List Pr → Nat
  | 0, _ => 2
  | m + 1, l => 2 + ((manys x (12 - m) l).map (cw x m)).sum
theorem cw_pos (x : Hs) (m : Nat) (l : List Pr) : 2 ≤ cw x m l := by cases m <;> simp [cw]
structure Fr where
  sp : SliceV
  sk : SliceV
  n : Nat
  ps : List Pr
  ks : List (Nat × List Pr)
abbrev frF (v : SliceV × SliceV) : List Value := [sv v.1, sv v.2]
theorem frF_ne (x : SliceV × SliceV) : (frF x).length = 2 ∧ 0 < 2 := ⟨rfl, by omega⟩
def Fr.raw (f : Fr) : SliceV × SliceV := (f.sp, f.sk)
def Fr.rem (x : Hs) (f : Fr) : List Pr := f.ps ++ f.ks.flatMap fun k => wl x (f.n - 1) k.2
def Fr.cost (x : Hs) (f : Fr) : Nat := 1 + (f.ks.map fun k => cw x (f.n - 1) k.2).sum
def remW (x : Hs) (l : List Fr) : List Pr := l.reverse.flatMap (Fr.rem x)
def costW (x : Hs) (l : List Fr) : Nat := (l.map (Fr.cost x)).sum
theorem remW_snoc (x : Hs) (l : List Fr) (f : Fr) : remW x (l ++ [f]) = f.rem x ++ remW x l := by unfold remW; rw [List.reverse_append]; rfl
theorem costW_snoc (x : Hs) (l : List Fr) (f : Fr) : costW x (l ++ [f]) = costW x l + f.cost x := by unfold costW; rw [List.map_append, List.sum_append]; simp
abbrev kidA (k : Nat × List Pr) : Option Addr := some ⟨k.1, 0, none⟩
structure Fr.Ok (W G : Nat → Prop) (x : Hs) (h : Heap) (f : Fr) : Prop where
  p : Sl prF 2 (fun y => ¬ G y) h f.sp f.ps
  k : Sl ndF 1 (fun y => ¬ G y) h f.sk (f.ks.map kidA)
  pc : f.sp.len ≤ f.sp.cap
  kc : f.sk.len ≤ f.sk.cap
  t : ∀ k ∈ f.ks, TrieAt W x h (f.n - 1) k.1 k.2 ∧ k.2.length ≤ 100000
  n0 : f.ks ≠ [] → 0 < f.n
  n13 : f.n ≤ 13
theorem Fr.Ok.upd {W G M : Nat → Prop} {x : Hs} {h h' : Heap} {f : Fr} (o : f.Ok W G x h) (k : Upd M h h') (hW : ∀ b, M b → W b ∨ h.size ≤ b) (hG : ∀ b, M b → ¬ G b ∨ h.size ≤ b) : f.Ok W G x h' :=
  ⟨o.p.upd k hG, o.k.upd k hG, o.pc, o.kc, fun q hq => ⟨TrieAt.updM k hW (o.t q hq).1, (o.t q hq).2⟩, o.n0, o.n13⟩
theorem Fr.Ok.sub {W G G' : Nat → Prop} {x : Hs} {h : Heap} {f : Fr} (o : f.Ok W G x h) (hG : ∀ b, G b → G' b) : f.Ok W G' x h :=
  ⟨o.p.less fun b hb => .inl fun hg => hb (hG b hg), o.k.less fun b hb => .inl fun hg => hb (hG b hg), o.pc, o.kc, o.t, o.n0, o.n13⟩
abbrev cuC (s : SliceV) (d : Int) : Array Value := #[sv s, .int .i64 d]
structure CurW (W G C : Nat → Prop) (x : Hs) (h : Heap) (cb : Nat) (fs : List Fr) : Prop where
  ex : ∃ s d, h[cb]? = some (.cells (cuC s d) t_walk_Cursor (0, 0)) ∧ OwnS frF 2 t_walk_frame C h s (fs.map Fr.raw)
  ok : ∀ f ∈ fs, f.Ok W G x h
  lt : ∀ b, (C b ∨ G b) → b < h.size
  dj : ∀ b, G b → ¬ C b ∧ b ≠ cb
  cc : ¬ C cb
  cw : (∀ b, C b → W b) ∧ W cb
  lv : fs.Pairwise fun f g => g.n < f.n
theorem CurW.upd {W G C M : Nat → Prop} {x : Hs} {h h' : Heap} {cb : Nat} {fs : List Fr} (c : CurW W G C x h cb fs) (k : Upd M h h') (hW : ∀ b, M b → W b ∨ h.size ≤ b) (hC : ∀ b, C b → ¬ M b) (hG : ∀ b, G b → ¬ M b) (hcb : ¬ M cb) : CurW W G C x h' cb fs := by
  obtain ⟨s, d, h1, h2⟩ := c.ex
  exact ⟨⟨s, d, k.get h1 hcb, h2.upd k hC⟩, fun f hf => (c.ok f hf).upd k hW fun b hb => .inl fun hg => hG b hg hb, fun b hb => Nat.lt_of_lt_of_le (c.lt b hb) k.size, c.dj, c.cc, c.cw, c.lv⟩
theorem lv_len : ∀ {fs : List Fr} {n : Nat}, fs.Pairwise (fun f g => g.n < f.n) → (∀ f ∈ fs, f.n ≤ n) → fs.length ≤ n + 1
  | [], _, _, _ => Nat.zero_le _
  | f :: fs, n, hp, hn => by
    have hp := List.pairwise_cons.1 hp
    have h0 := hn f (List.mem_cons_self ..)
    rcases fs with _ | ⟨g, fs⟩
    · simp
    · have hg := hp.1 g (List.mem_cons_self ..)
      have := lv_len (n := f.n - 1) hp.2 fun g hg => by have := hp.1 g hg; omega
      rw [List.length_cons]; omega
theorem setCell {α : Type} {f : α → List Value} {sz : Nat} {t : TypeId} {M : Nat → Prop} {h : Heap} {s : SliceV} {P Q : List α} {x y : α} {j : Nat} {v : Value} (ho : OwnS f sz t M h s (P ++ x :: Q)) (hj : j < sz) (hy : f y = (f x).set j v) {a : Addr} (ha : s.a = some a) {i : Nat} (hi : i = P.length) {G : Heap → Prop} (hk : ∀ h', OwnS f sz t M h' s (P ++ y :: Q) → Upd M h h' → G h') :
    Wr h (adr (adr a (i * sz)) j) ∧ At (hset h (adr (adr a (i * sz)) j) v) G := by
  subst hi
  have hf := ho.ne
  have hlen := ho.len
  have hcap := ho.cap
  rcases ho.blk with h0 | ⟨b, rest, ha', hb, hc, hr⟩
  · rw [List.length_append, List.length_cons] at hlen; omega
  rw [ha] at ha'; cases ha'
  have hA : (P.flatMap f).length = P.length * sz := cut_len hf P
  rw [List.flatMap_append, List.flatMap_cons] at hc
  have hX := (hf x).1
  have ea : adr (adr ⟨b, 0, none⟩ (P.length * sz)) j = ⟨b, P.length * sz + j, none⟩ := by rw [adr_mk, adr_mk, Nat.zero_add]
  rw [ea]
  have hsz : P.length * sz + j < (P.flatMap f ++ (f x ++ Q.flatMap f) ++ rest).toArray.size := by
    simp only [List.size_toArray, List.length_append]; omega
  refine ⟨wr_blk hc hsz, at_set hc fun h' hb' hu' => hk h' ⟨by rw [hlen]; simp, hf, hcap, .inr ⟨b, rest, ha, hb, ?_, hr⟩⟩ (hu'.mono fun z hz => .inl (by have hz : z = b := hz; rw [hz]; exact hb))⟩
  rw [hb']
  congr 3
  rw [List.flatMap_append, List.flatMap_cons, hy]
  apply Array.toList_inj.1
  rw [Array.toList_setIfInBounds]
  simp only [List.append_assoc]
  rw [List.set_append_right _ _ (by omega), show P.length * sz + j - (P.flatMap f).length = j by omega, List.set_append_left _ _ (by omega)]
theorem kidsAt_ex {W : Nat → Prop} {x : Hs} {h : Heap} {m : Nat} : ∀ {ks : List (Option Addr)} {ls : List (List Pr)}, KidsAt W x h m ks ls → ∃ q : List (Nat × List Pr), ks = q.map kidA ∧ ls = q.map (·.2) ∧ ∀ k ∈ q, TrieAt W x h m k.1 k.2
  | [], [], _ => ⟨[], rfl, rfl, fun k hk => by cases hk⟩
  | _ :: _, [], h => h.elim
  | [], _ :: _, h => h.elim
  | k :: ks, l :: ls, hk => by
    obtain ⟨⟨kb, e, t⟩, hr⟩ := hk
    obtain ⟨q, e1, e2, e3⟩ := kidsAt_ex hr
    refine ⟨(kb, l) :: q, by rw [e, e1]; rfl, by rw [e2]; rfl, fun k' hk' => ?_⟩
    rcases List.mem_cons.1 hk' with rfl | hk'
    · exact t
    · exact e3 k' hk'
theorem walkOf_ok {W : Nat → Prop} {x : Hs} {h : Heap} {m b : Nat} {l : List Pr} (t : TrieAt W x h m b l) (hm : m ≤ 13) (hn : l.length ≤ 100000) {K : SliceV × SliceV → Heap → Prop}
    (hk : ∀ h' f, f.n = m → Fr.rem x f = wl x m l → f.cost x + 1 = cw x m l → f.Ok W (fun y => h.size ≤ y ∧ y < h'.size) x h' → Upd No h h' → K f.raw h') : HC PG f_walk_of [.pointer (some ⟨b, 0, none⟩)] [.agg [.slice, .slice]] K h := by
  refine H_walk_of (some ⟨b, 0, none⟩) ?_
  unfold F_walk_of
  refine at_new fun h1 b1 k1 => ?_
  have t1 := TrieAt.upd0 k1 (TrieAt.less (W' := Pro W h h1) Pro.hm t)
  obtain ⟨d, n, sp, sk, bu, ow, lp, q, hb, hsp, hsk, hlp, hq, hwl, hcw, htr, hq0⟩ : ∃ d n sp sk bu ow lp, ∃ q : List (Nat × List Pr), h1[b]? = some (.cells (nodeC d n sp sk bu ow) t_node_Node (0, 0)) ∧ Sl prF 2 (Pro W h h1) h1 sp lp ∧ Sl ndF 1 (Pro W h h1) h1 sk (q.map kidA) ∧ lp.length ≤ 100000 ∧ q.length ≤ 32 ∧ (lp ++ q.flatMap fun k => wl x (m - 1) k.2) = wl x m l ∧ 2 + (q.map fun k => cw x (m - 1) k.2).sum = cw x m l ∧ (∀ k ∈ q, TrieAt (Pro W h h1) x h1 (m - 1) k.1 k.2 ∧ k.2.length ≤ 100000) ∧ (q ≠ [] → 0 < m) := by
    cases m with
    | zero =>
      obtain ⟨sp, sk, ow, hb, hsp, hsk, _⟩ := BuckAt.ex t1
      exact ⟨0, 0, sp, sk, true, ow, l, [], hb, hsp, hsk, hn, by simp, by simp [wl], by simp [cw], fun k hk => (by cases hk), fun h => absurd rfl h⟩
    | succ m =>
      obtain ⟨s, nd, hs⟩ := t1
      have hs : ∀ c, c < 32 → SlotIs (Pro W h h1) x h1 m s c (part x (12 - m) c l) := hs
      obtain ⟨d, n, sp, sk, ow, hb, bits, hsp, hsk, _⟩ := nd.ex
      have hka := kidsAt (W := Pro W h h1) (x := x) (h := h1) (m := m) (lev := 12 - m) (s := s) (l := l) 32 hs
      obtain ⟨q, e1, e2, e3⟩ := kidsAt_ex hka
      have e2 : manys x (12 - m) l = q.map (·.2) := e2
      have hso := solosAt hs
      have hsl := solos_len x (12 - m) l
      have hk32 := fm_32 (g := s.k)
      have hql : q.length = (fm s.k 32).length := by rw [e1, List.length_map]
      refine ⟨d, n, sp, sk, false, ow, fm s.p 32, q, hb, hsp, by rw [← e1]; exact hsk, by rw [hso]; omega, by omega, ?_, ?_, fun k hk => ⟨e3 k hk, ?_⟩, fun _ => Nat.succ_pos _⟩
      · rw [wl_succ, hso, e2, List.flatMap_map]; rfl
      · show _ = 2 + _
        rw [e2, List.map_map]; rfl
      · have : k.2 ∈ manys x (12 - m) l := by rw [e2]; exact List.mem_map.2 ⟨k, hk, rfl⟩
        obtain ⟨_, c, hc⟩ := mem_manys this
        rw [hc]
        exact Nat.le_trans part_len hn
  refine pairs_ok hb hsp (by omega) fun s2 h2 ho2 hu2 => ?_
  refine kids_ok (hu2.get0 hb) (hsk.upd hu2 fun _ h => h.elim) (by rw [List.length_map]; omega) fun s3 h3 ho3 hu3 => ?_
  have b3 := hu3.get0 (hu2.get0 b1)
  have z1 := k1.size
  have z2 := hu2.size
  have z3 := hu3.size
  have zb := get_lt b1
  refine setAll (c := [.slice none 0 0, .slice none 0 0]) (vs := [sv s2, sv s3]) b3 rfl fun h4 b4 hu4 => ?_
  refine ⟨s2, vc b4 0, s3, vc b4 1, ?_⟩
  have z4 := hu4.size
  have k14 : Upd No h h4 := ((k1.tr hu2).tr hu3).own hu4 (Nat.le_refl _)
  refine hk h4 ⟨s2, s3, m, lp, q⟩ rfl hwl (by unfold Fr.cost; simp only; omega) ⟨?_, ?_, ho2.cap, ho3.cap, fun k hk => ⟨TrieAt.less (W := Pro W h h1) (fun y hy => .inl (.inl hy)) (TrieAt.updM (M := (· = h.size)) hu4 (fun y hy => .inl (.inr (by have hy : y = h.size := hy; omega))) (TrieAt.upd0 (hu2.tr hu3) (htr k hk).1)), (htr k hk).2⟩, hq0, hm⟩ k14
  · exact (((ho2.upd hu3 fun _ _ h => h).within).upd hu4 fun y hy e => by have e : y = h.size := e; have := hy.1; omega).sl fun y hy _ hg => hg ⟨by have := hy.1; omega, by have := hy.2; omega⟩
  · exact (ho3.within.upd hu4 fun y hy e => by have e : y = h.size := e; have := hy.1; omega).sl fun y hy _ hg => hg ⟨by have := hy.1; omega, by have := hy.2; omega⟩
end Go.Proofs
namespace Go.Proofs
open Go Go.Lift
theorem append1f {M : Nat → Prop} {h : Heap} {so : SliceV} {out : List (SliceV × SliceV)} {p : SliceV × SliceV} {K : SliceV → Heap → Prop} (ho : OwnS frF 2 t_walk_frame M h so out) (hM : ∀ b, h.size ≤ b → M b) (hn : out.length + 1 ≤ 1000000000)
    (hk : ∀ s' h', OwnS frF 2 t_walk_frame M h' s' (out ++ [p]) → Upd M h h' → K s' h') :
    ∃ xs, SRow (hnew h (frF p) t_walk_frame) (some (newA h)) (1 * 2) xs ∧ AppP (some [.slice none 0 0, .slice none 0 0]) 2 48 t_walk_frame so.a so.len so.cap 1 xs (hnew h (frF p) t_walk_frame) K := by
  have k := Upd.hnew No h (frF p) t_walk_frame
  have h1 : OwnS frF 2 t_walk_frame (fun _ => True) (hnew h (frF p) t_walk_frame) ⟨some (newA h), 1, 1⟩ [p] := ⟨rfl, frF_ne, Nat.le_refl _, .inr ⟨h.size, [], rfl, trivial, hnew_get .., rfl⟩⟩
  refine ⟨_, (h1.sl (W := No) fun _ _ _ h => h).srow, ?_⟩
  refine AppP.own (ys := [p]) (ho.upd k fun _ _ h => h) rfl rfl rfl rfl (by omega) (by simp only [List.length_singleton]; omega) (hM _ (by rw [hnew_size]; omega)) fun s' h' ho' hu => ?_
  exact hk s' h' ho' ((Upd.hnew M h _ _).tr hu)
set_option maxHeartbeats 2000000 in
theorem walkNext_ok {W G0 C0 : Nat → Prop} {x : Hs} {h : Heap} {cb : Nat} {fs0 : List Fr} (cur : CurW W G0 C0 x h cb fs0) (hW0 : ∀ b, h.size ≤ b → W b) {K : (ByteArray × ByteArray) × Bool → Heap → Prop}
    (hn : ∀ h', remW x fs0 = [] → Upd (fun b => C0 b ∨ b = cb) h h' → K (((⟨#[]⟩ : ByteArray), (⟨#[]⟩ : ByteArray)), false) h')
    (hs : ∀ h' fs' p R G' C', remW x fs0 = p :: R → remW x fs' = R → CurW W G' C' x h' cb fs' → (∀ b, C' b → C0 b ∨ h.size ≤ b) → (∀ b, G' b → G0 b ∨ h.size ≤ b) → Upd (fun b => C0 b ∨ b = cb) h h' → K (p, true) h') :
    HC PG f_walk_Cursor_Next [.pointer (some ⟨cb, 0, none⟩)] [.agg [.str, .str], .c .bool] K h := by
  refine H_walk_Cursor_Next (some ⟨cb, 0, none⟩) ?_
  unfold F_walk_Cursor_Next
  refine at_new fun h1 b1 k1 => condP_false.2 ?_
  have z1 := get_lt b1
  obtain ⟨s00, d00, hc0, _⟩ := cur.ex
  have zc := get_lt hc0
  have s1 := k1.size
  have cur1 := cur.upd k1 (fun _ h => h.elim) (fun _ _ h => h) (fun _ _ h => h) fun h => h
  refine LoopP.ghost (fun (g : List Fr × (Nat → Prop) × (Nat → Prop)) (_ : Unit) h' => CurW W g.2.1 g.2.2 x h' cb g.1 ∧ remW x g.1 = remW x fs0 ∧ (∀ b, g.2.2 b → (C0 b ∨ h.size ≤ b) ∧ b ≠ h.size) ∧ (∀ b, g.2.1 b → (G0 b ∨ h.size ≤ b) ∧ b ≠ h.size) ∧ h'[h.size]? = some (.cells zPrL.toArray t_pair_Pair (0, 0)) ∧ Upd (fun b => C0 b ∨ b = cb) h h') (fun g => costW x g.1) (fs0, G0, C0)
    ⟨cur1, rfl, fun b hb => ⟨.inl hb, by have := cur.lt b (.inl hb); omega⟩, fun b hb => ⟨.inl hb, by have := cur.lt b (.inr hb); omega⟩, b1, k1.wide⟩ ?_
  rintro I ⟨fs, G, C⟩ ⟨⟩ h' ⟨cu, hrem, hCo, hGo, bz, hu⟩ hI
  simp only at cu hrem hCo hGo
  obtain ⟨s, d, hcell, hst⟩ := cu.ex
  have hlen := hst.len
  rw [List.length_map] at hlen
  have hzs : h.size < h'.size := get_lt bz
  have zcb := get_lt hcell
  refine ⟨_, rfl, s, vc hcell 0, ?_⟩
  refine condP_dec (fun hpos => ?_) fun hnp => ?_
  · obtain ⟨fs', f, rfl⟩ : ∃ fs' f, fs = fs' ++ [f] := by
      rcases eq_snoc fs with rfl | ⟨l', y, e⟩
      · simp only [List.length_nil] at hlen; omega
      · exact ⟨l', y, e⟩
    rw [List.map_append, List.map_cons, List.map_nil] at hst
    rw [List.length_append, List.length_singleton] at hlen
    have h14 := lv_len (n := 13) cu.lv fun f hf => (cu.ok f hf).n13
    rw [List.length_append, List.length_singleton] at h14
    have eidx : IntKind.wrap .i64 ((s.len : Int) - 1) = ((fs'.length : Nat) : Int) := by rw [w64 (by omega)]; omega
    obtain ⟨a, ha, hv⟩ := readApp hst (i := fs'.length) (by rw [List.length_map])
    have fo := cu.ok f (List.mem_append_right _ (List.mem_singleton.2 rfl))
    have hpl := fo.p.len
    have hkl := fo.k.len
    rw [List.length_map] at hkl
    have hpc := fo.pc
    have hkc := fo.kc
    have hcap := hst.cap
    refine ⟨_, rfl, s, vc hcell 0, _, rfl, s, vc hcell 0, ?_⟩
    rw [eidx]
    refine ⟨⟨by omega, by omega⟩, a, ha, _, rfl, f.sp, hv 0 _ rfl, ?_⟩
    -- what all writes leave as it was
    have keep : ∀ {h2 : Heap} {M : Nat → Prop}, Upd M h' h2 → (∀ b, M b → C b ∨ b = cb ∨ b = h.size ∨ h'.size ≤ b) → ∀ {g : Fr}, g.Ok W G x h' → g.Ok W G x h2 := fun {h2 M} k hM {g} o => o.upd k (fun b hb => by
      rcases hM b hb with h | h | h | h
      · exact .inl (cu.cw.1 b h)
      · exact .inl (by rw [h]; exact cu.cw.2)
      · exact .inl (by rw [h]; exact hW0 _ (Nat.le_refl _))
      · exact .inr h) fun b hb => by
      rcases hM b hb with h | h | h | h
      · exact .inl fun hg => (cu.dj b hg).1 h
      · exact .inl fun hg => (cu.dj b hg).2 h
      · exact .inl fun hg => (hGo b hg).2 h
      · exact .inr h
    have lvs := List.pairwise_append.1 cu.lv
    have hrs := remW_snoc x fs' f
    have hcs := costW_snoc x fs' f
    refine condP_dec (fun hp => ?_) fun hp => ?_
    · -- a pair
      rcases hps : f.ps with _ | ⟨p, ps⟩
      · rw [hps] at hpl; simp only [List.length_nil] at hpl; omega
      have fop := fo.p
      rw [hps] at fop hpl
      simp only [List.length_cons] at hpl
      obtain ⟨ap, hap, _, hvp⟩ := fop.at (i := 0) (x := p) rfl
      refine ⟨_, rfl, f.sp, hv 0 _ rfl, ⟨by omega, by omega⟩, ap, hap, p.1, hvp 0 _ rfl, p.2, hvp 1 _ rfl, ?_⟩
      refine newPr' (p := p) fun h8 b8 k8 => ?_
      have z8 := get_lt b8
      have hst8 := hst.upd k8 fun _ _ h => h
      obtain ⟨a', ha', hv8⟩ := readApp hst8 (i := fs'.length) (by rw [List.length_map])
      rw [ha] at ha'; cases ha'
      refine ⟨_, rfl, f.sp, hv8 0 _ rfl, ⟨by omega, by omega⟩, _, rfl, ?_⟩
      let f' : Fr := ⟨⟨subAddr f.sp.a 1 f.sp.cap 2, f.sp.len - 1, f.sp.cap - 1⟩, f.sk, f.n, ps, f.ks⟩
      refine setCell hst8 (y := f'.raw) (j := 0) (by omega) rfl ha (by simp) fun h9 ho9 hu9 => ?_
      have c9 := hu9.get (k8.get0 hcell) cu.cc
      refine ⟨_, rfl, s, vc c9 0, _, rfl, ?_⟩
      refine vset (i := 1) (c' := cuC s (s.len : Int)) c9 (show 1 < 2 by decide) rfl fun h10 c10 hu10 => ?_
      have hCh : ∀ b, C b → b < h'.size := fun b hb => cu.lt b (.inl hb)
      have b9 := hu9.get b8 fun hx => by have := hCh _ hx; omega
      have b10 := hu10.oth b9 (by omega)
      refine ⟨_, vc b10 0, _, vc b10 1, ?_⟩
      have bz10 := hu10.oth (hu9.get (k8.get0 bz) fun hx => (hCo _ hx).2 rfl) (by omega)
      refine setAll (c := zPrL) (vs := [.string p.1, .string p.2]) bz10 rfl fun h11 b11 hu11 => ?_
      refine ⟨_, vc b11 0, _, vc b11 1, ?_⟩
      have c11 := hu11.oth c10 (by omega)
      have hall : Upd (fun b => C b ∨ b = cb ∨ b = h.size ∨ h'.size ≤ b) h' h11 := ((k8.wide.trans hu9 fun b hb => .inl (.inl hb)).trans hu10 fun b hb => .inl (.inr (.inl hb))).trans hu11 fun b hb => .inl (.inr (.inr (.inl hb)))
      have ho11 : OwnS frF 2 t_walk_frame C h11 s ((fs' ++ [f']).map Fr.raw) := by
        rw [List.map_append, List.map_cons, List.map_nil]
        exact (ho9.upd hu10 fun b hb e => by have e : b = cb := e; rw [e] at hb; exact cu.cc hb).upd hu11 fun b hb e => (hCo b hb).2 e
      have fo' : f'.Ok W G x h11 := by
        have o := keep hall (fun b hb => hb) fo
        refine ⟨?_, o.k, by show f.sp.len - 1 ≤ f.sp.cap - 1; omega, o.kc, o.t, o.n0, o.n13⟩
        have op := o.p
        rw [hps] at op
        have := Sl.sub op (l := 1) (hi := (p :: ps).length) (m := f.sp.cap) (c := f.sp.cap - 1) (by simp) (Nat.le_refl _) (by simp only [List.length_cons]; omega)
        rw [List.drop_one, List.tail_cons, List.take_of_length_le (by simp)] at this
        have e : (p :: ps).length - 1 = f.sp.len - 1 := by simp only [List.length_cons]; omega
        rw [e] at this
        exact this
      refine hs h11 (fs' ++ [f']) p (f'.rem x ++ remW x fs') G C ?_ (remW_snoc x fs' f') ⟨⟨s, _, c11, ho11⟩, fun g hg => ?_, fun b hb => Nat.lt_of_lt_of_le (cu.lt b hb) hall.size, cu.dj, cu.cc, cu.cw, List.pairwise_append.2 ⟨lvs.1, List.pairwise_singleton .., fun g hg g' hg' => by rw [List.mem_singleton.1 hg']; exact lvs.2.2 g hg f (List.mem_singleton.2 rfl)⟩⟩ (fun b hb => (hCo b hb).1) (fun b hb => (hGo b hb).1) ?_
      · rw [← hrem, hrs]
        unfold Fr.rem
        rw [hps]; rfl
      · rcases List.mem_append.1 hg with hg | hg
        · exact keep hall (fun b hb => hb) (cu.ok g (List.mem_append_left _ hg))
        · rw [List.mem_singleton.1 hg]; exact fo'
      · refine hu.trans hall fun b hb => ?_
        rcases hb with h | h | h | h
        · exact (hCo b h).1.imp .inl id
        · exact .inl (.inr h)
        · exact .inr (by omega)
        · exact .inr (by omega)
    · have hps : f.ps = [] := List.length_eq_zero_iff.1 (by omega)
      refine ⟨_, rfl, f.sk, hv 1 _ rfl, ?_⟩
      refine condP_dec (fun hk => ?_) fun hk => ?_
      · -- a kid
        rcases hks : f.ks with _ | ⟨kd, ks⟩
        · rw [hks] at hkl; simp only [List.length_nil] at hkl; omega
        have fok := fo.k
        rw [hks] at fok hkl
        simp only [List.length_cons] at hkl
        rw [List.map_cons] at fok
        obtain ⟨ap, hap, _, hvp⟩ := fok.at0 (i := 0) (x := kidA kd) rfl
        have hfn : 0 < f.n := fo.n0 (by rw [hks]; simp)
        have hf13 := fo.n13
        refine ⟨_, rfl, f.sk, hv 1 _ rfl, ⟨by omega, by omega⟩, ap, hap, _, hvp, _, rfl, f.sk, hv 1 _ rfl, ⟨by omega, by omega⟩, _, rfl, ?_⟩
        let f' : Fr := ⟨f.sp, ⟨subAddr f.sk.a 1 f.sk.cap 1, f.sk.len - 1, f.sk.cap - 1⟩, f.n, f.ps, ks⟩
        refine setCell hst (y := f'.raw) (j := 1) (by omega) rfl ha (by simp) fun h8 ho8 hu8 => ?_
        have c8 := hu8.get hcell cu.cc
        have hall8 : Upd (fun b => C b ∨ b = cb ∨ b = h.size ∨ h'.size ≤ b) h' h8 := hu8.mono fun b hb => .inl (.inl hb)
        have s8 := hu8.size
        refine ⟨_, rfl, s, vc c8 0, ?_⟩
        have fo8 := keep hall8 (fun b hb => hb) fo
        obtain ⟨tk, hkn⟩ := fo8.t kd (by rw [hks]; exact List.mem_cons_self ..)
        refine walkOf_ok tk (by omega) hkn fun h9 g hgn hgr hgc go k9 => ?_
        have c9 := k9.get0 c8
        have s9 := k9.size
        refine ⟨vc c9 0, at_intro ⟨vc ((Upd.hnew No h9 (frF g.raw) t_walk_frame).get0 c9) 0, ?_⟩⟩
        have hC9 : ∀ b, C b → b < h9.size := fun b hb => by have := cu.lt b (.inl hb); omega
        refine append1f (M := fun b => C b ∨ h9.size ≤ b) (p := g.raw) ((ho8.upd k9 fun _ _ h => h).more fun b hb => .inl hb) (fun b hb => .inr hb) (by rw [List.length_append, List.length_map, List.length_singleton]; omega) fun s10 h10 ho10 hu10 => ?_
        have s10' := hu10.size
        have c10 := hu10.get c9 (by rintro (hx | hx); exact cu.cc hx; omega)
        refine ⟨_, rfl, ?_⟩
        refine vset (i := 0) (c' := cuC s10 d) c10 (show 0 < 2 by decide) rfl fun h11 c11 hu11 => ?_
        have s11 := hu11.size
        have hall : Upd (fun b => C b ∨ b = cb ∨ b = h.size ∨ h'.size ≤ b) h' h11 := ((hall8.tr k9.wide).trans hu10 fun b hb => hb.elim (fun h => .inl (.inl h)) fun h => .inr (by omega)).trans hu11 fun b hb => .inl (.inr (.inl hb))
        have bz11 := hu11.oth (hu10.get (k9.get0 (hu8.get bz fun hx => (hCo _ hx).2 rfl)) (by rintro (hx | hx); exact (hCo _ hx).2 rfl; omega)) (by omega)
        have hGl : ∀ b, G b → b < h'.size := fun b hb => cu.lt b (.inr hb)
        refine hI (fs' ++ [f'] ++ [g], fun b => G b ∨ (h8.size ≤ b ∧ b < h9.size), fun b => (C b ∨ h9.size ≤ b) ∧ b < h10.size) () h11 ⟨⟨⟨s10, d, c11, ?_⟩, fun g' hg' => ?_, fun b hb => ?_, fun b hb => ?_, fun hb => ?_, ⟨fun b hb => ?_, cu.cw.2⟩, ?_⟩, ?_, fun b hb => ?_, fun b hb => ?_, bz11, ?_⟩ ?_
        · rw [List.map_append, List.map_append, List.map_cons, List.map_nil, List.map_cons, List.map_nil]
          exact ho10.within.upd hu11 fun b hb e => by
            have e : b = cb := e
            rw [e] at hb
            rcases hb.1 with h | h
            · exact cu.cc h
            · omega
        · have hsubG : ∀ {q : Fr}, q.Ok W G x h11 → q.Ok W (fun b => G b ∨ (h8.size ≤ b ∧ b < h9.size)) x h11 := fun o => o.sub fun b hb => .inl hb
          rcases List.mem_append.1 hg' with hg' | hg'
          · rcases List.mem_append.1 hg' with hg' | hg'
            · exact hsubG (keep hall (fun b hb => hb) (cu.ok g' (List.mem_append_left _ hg')))
            · rw [List.mem_singleton.1 hg']
              have o := keep hall (fun b hb => hb) fo
              refine hsubG ⟨o.p, ?_, o.pc, by show f.sk.len - 1 ≤ f.sk.cap - 1; omega, fun q hq => o.t q (by rw [hks]; exact List.mem_cons_of_mem _ hq), fun _ => hfn, hf13⟩
              have op := o.k
              rw [hks, List.map_cons] at op
              have := Sl.sub op (l := 1) (hi := (kidA kd :: ks.map kidA).length) (m := f.sk.cap) (c := f.sk.cap - 1) (by simp) (Nat.le_refl _) (by simp only [List.length_cons, List.length_map]; omega)
              rw [List.drop_one, List.tail_cons, List.take_of_length_le (by simp)] at this
              have e : (kidA kd :: ks.map kidA).length - 1 = f.sk.len - 1 := by simp only [List.length_cons, List.length_map]; omega
              rw [e] at this
              exact this
          · rw [List.mem_singleton.1 hg']
            have o1 := go.upd hu10 (fun b hb => hb.elim (fun h => .inl (cu.cw.1 b h)) .inr) fun b hb => hb.elim (fun h => .inl fun hg => by have := cu.lt b (.inl h); omega) .inr
            have o2 := o1.upd hu11 (fun b hb => .inl (by have hb : b = cb := hb; rw [hb]; exact cu.cw.2)) fun b hb => .inl fun hg => by have hb : b = cb := hb; omega
            exact o2.sub fun b hb => .inr hb
        · rcases hb with hb | hb | hb
          · omega
          · have := hGl b hb; omega
          · omega
        · refine ⟨fun hc => ?_, fun e => ?_⟩
          · rcases hb with hb | hb
            · rcases hc.1 with h | h
              · exact (cu.dj b hb).1 h
              · have := hGl b hb; omega
            · rcases hc.1 with h | h
              · have := cu.lt b (.inl h); omega
              · omega
          · subst e
            rcases hb with hb | hb
            · exact (cu.dj _ hb).2 rfl
            · omega
        · rcases hb.1 with h | h
          · exact cu.cc h
          · omega
        · rcases hb.1 with h | h
          · exact cu.cw.1 b h
          · exact hW0 b (by omega)
        · refine List.pairwise_append.2 ⟨List.pairwise_append.2 ⟨lvs.1, List.pairwise_singleton .., fun q hq q' hq' => by rw [List.mem_singleton.1 hq']; exact lvs.2.2 q hq f (List.mem_singleton.2 rfl)⟩, List.pairwise_singleton .., fun q hq q' hq' => ?_⟩
          rw [List.mem_singleton.1 hq', hgn]
          rcases List.mem_append.1 hq with hq | hq
          · have := lvs.2.2 q hq f (List.mem_singleton.2 rfl); omega
          · rw [List.mem_singleton.1 hq]; show f.n - 1 < f.n; omega
        · rw [remW_snoc, remW_snoc, ← hrem, hrs, hgr]
          unfold Fr.rem
          rw [hps, hks, List.flatMap_cons]
          simp
          rfl
        · refine ⟨?_, ?_⟩
          · rcases hb.1 with h | h
            · exact (hCo b h).1
            · exact .inr (by omega)
          · rcases hb.1 with h | h
            · exact (hCo b h).2
            · omega
        · refine ⟨?_, ?_⟩
          · rcases hb with h | h
            · exact (hGo b h).1
            · exact .inr (by omega)
          · rcases hb with h | h
            · exact (hGo b h).2
            · omega
        · refine hu.trans hall fun b hb => ?_
          rcases hb with h | h | h | h
          · exact (hCo b h).1.imp .inl id
          · exact .inl (.inr h)
          · exact .inr (by omega)
          · exact .inr (by omega)
        · show costW x (fs' ++ [f'] ++ [g]) < costW x (fs' ++ [f])
          rw [costW_snoc, costW_snoc, hcs]
          have e1 : f.cost x = f'.cost x + cw x (f.n - 1) kd.2 := by
            unfold Fr.cost
            rw [hks, List.map_cons, List.sum_cons]
            have e0 : (f'.ks.map fun k => cw x (f'.n - 1) k.2).sum = (ks.map fun k => cw x (f.n - 1) k.2).sum := rfl
            omega
          omega
      · -- nothing is left of it
        have hks : f.ks = [] := List.length_eq_zero_iff.1 (by omega)
        refine ⟨_, rfl, s, vc hcell 0, _, rfl, s, vc hcell 0, ?_⟩
        rw [eidx]
        refine ⟨⟨by omega, by omega⟩, ?_⟩
        simp only [Bd]
        refine ⟨_, rfl, ?_⟩
        refine vset (i := 0) (c' := cuC ⟨subAddr s.a 0 s.cap 2, fs'.length, s.cap⟩ d) hcell (show 0 < 2 by decide) rfl fun h8 c8 hu8 => ?_
        have hpop := OwnS.pop hst
        rw [List.length_map] at hpop
        have hall : Upd (fun b => C b ∨ b = cb ∨ b = h.size ∨ h'.size ≤ b) h' h8 := hu8.mono fun b hb => .inl (.inr (.inl hb))
        refine hI (fs', G, C) () h8 ⟨⟨⟨_, d, c8, hpop.upd hu8 fun b hb e => by have e : b = cb := e; rw [e] at hb; exact cu.cc hb⟩, fun g hg => keep hall (fun b hb => hb) (cu.ok g (List.mem_append_left _ hg)), fun b hb => Nat.lt_of_lt_of_le (cu.lt b hb) hall.size, cu.dj, cu.cc, cu.cw, lvs.1⟩, ?_, hCo, hGo, hu8.oth bz (by omega), hu.trans hu8 fun b hb => .inl (.inr hb)⟩ ?_
        · rw [← hrem, hrs]
          unfold Fr.rem
          rw [hps, hks]; rfl
        · show costW x fs' < costW x (fs' ++ [f])
          rw [hcs]
          unfold Fr.cost
          omega
  · have h0 : fs = [] := List.length_eq_zero_iff.1 (by omega)
    subst h0
    refine ⟨_, rfl, ?_⟩
    refine vset (i := 1) (c' := cuC s 0) hcell (show 1 < 2 by decide) rfl fun h8 c8 hu8 => ?_
    refine setAll (c := zPrL) (vs := zPrL) (hu8.oth bz (by omega)) rfl fun h9 b9 hu9 => ?_
    refine ⟨_, vc b9 0, _, vc b9 1, hn h9 hrem.symm ((hu.trans hu8 fun b hb => .inl (.inr hb)).trans hu9 fun b hb => .inr (Nat.le_of_eq (Eq.symm hb)))⟩
end Go.Proofs
namespace Go.Proofs
open Go Go.Lift
theorem walkNew_ok {W : Nat → Prop} {x : Hs} {h : Heap} {b : Nat} {l : List Pr} (t : TrieAt W x h 13 b l) (hn : l.length ≤ 100000) (hW : ∀ y, h.size ≤ y → W y) {K : Option Addr → Heap → Prop}
    (hk : ∀ h' cb f G C, h.size ≤ cb → (∀ y, G y ∨ C y → h.size ≤ y) → CurW W G C x h' cb [f] → f.rem x = wl x 13 l → Upd No h h' → K (some ⟨cb, 0, none⟩) h') : HC PG f_walk_New [.pointer (some ⟨b, 0, none⟩)] [.c .ptr] K h := by
  refine H_walk_New (some ⟨b, 0, none⟩) ?_
  unfold F_walk_New
  refine walkOf_ok t (Nat.le_refl _) hn fun h2 f hfn hfr _ fo k2 => ?_
  refine at_new fun h3 b3 k3 => at_new fun h4 b4 k4 => ?_
  have z3 := get_lt b3
  have z4 := get_lt b4
  have s2 := k2.size
  have s3 := k3.size
  have o3 : OwnS frF 2 t_walk_frame (fun y => y = h2.size) h3 ⟨some (newA h2), 1, 1⟩ [f.raw] := ⟨rfl, frF_ne, Nat.le_refl _, .inr ⟨h2.size, [], rfl, rfl, b3, rfl⟩⟩
  refine hk h4 h3.size f (fun y => h.size ≤ y ∧ y < h2.size) (fun y => y = h2.size) (by omega) (fun y hy => by rcases hy with h | h <;> omega) ⟨⟨_, 0, b4, o3.upd k4 fun _ _ h => h⟩, fun g hg => ?_, fun y hy => by rcases hy with h | h <;> omega, fun y hy => ⟨by omega, by omega⟩, by omega, ⟨fun y hy => hW y (by omega), hW _ (by omega)⟩, List.pairwise_singleton ..⟩ hfr ((k2.tr k3).tr k4)
  rw [List.mem_singleton.1 hg]
  exact fo.upd (k3.tr k4) (fun _ h => h.elim) fun _ h => h.elim
theorem walkAll_ok {W : Nat → Prop} {x : Hs} {h : Heap} {b : Nat} {l : List Pr} (t : TrieAt W x h 13 b l) (hn : l.length ≤ 100000) {K : Value → Heap → Prop}
    (hk : ∀ fv h', Gives PG fv encP l.length (fun xs => xs = wl x 13 l) (fun y => y < h'.size) h' → Upd No h h' → K fv h') : HC PG f_walk_All [.pointer (some ⟨b, 0, none⟩)] [.c .raw] K h := by
  refine H_walk_All (some ⟨b, 0, none⟩) ?_
  unfold F_walk_All
  refine at_new fun h1 b1 k1 => ?_
  have z1 := get_lt b1
  refine hk _ h1 ?_ k1
  have t1 := TrieAt.less (W' := fun y => h1.size ≤ y) (fun y hy => .inr hy) (TrieAt.upd0 k1 t)
  have hwl := wl_len x 13 l
  refine ⟨fun y hy => hy, f_walk_All_1, #[], _, rfl, fun y J A M h4 K' ht hj hu hq ha hk' => ?_⟩
  refine HE_walk_All_1 y (newA h) ?_
  unfold F_walk_All_1
  have d1 := hu.get b1 (hq _ z1)
  have s4 := hu.size
  have t4 : TrieAt (fun y => h1.size ≤ y) x h4 13 b l := TrieAt.updM hu (fun y hy => .inl (by
    rcases Nat.lt_or_ge y h1.size with hl | hl
    · exact absurd hy (hq y hl)
    · exact hl)) t1
  refine ⟨_, hcell_blk d1, ?_⟩
  refine walkNew_ok t4 hn (fun y hy => Nat.le_trans s4 hy) fun h5 cb f G C hcb hGC cur hfr k5 => ?_
  have hAlt := ht.lt _ _ _ hj
  have hA3 : ∀ y, A y → h1.size ≤ y := fun y hy => by
    rcases Nat.lt_or_ge y h1.size with hl | hl
    · exact absurd hl (ha y hy)
    · exact hl
  have s5 := k5.size
  have hrem0 : remW x [f] = wl x 13 l := by rw [← hfr]; simp [remW]
  refine LoopP.ghost (fun (g : List Pr × List Fr × (Nat → Prop) × (Nat → Prop) × (Nat → Prop)) (_ : Unit) h' => CurW (fun y => h1.size ≤ y) g.2.2.2.1 g.2.2.2.2 x h' cb g.2.1 ∧ J g.1 g.2.2.1 h' ∧ Upd A h4 h' ∧ (∀ y, g.2.2.1 y → (A y ∨ h4.size ≤ y) ∧ ¬ g.2.2.2.1 y ∧ ¬ g.2.2.2.2 y ∧ y ≠ cb) ∧ (∀ y, g.2.2.2.1 y ∨ g.2.2.2.2 y → h4.size ≤ y) ∧ g.1 ++ remW x g.2.1 = wl x 13 l ∧ h5.size ≤ h'.size) (fun g => (remW x g.2.1).length) ([], [f], A, G, C)
    ⟨cur, ht.keep _ _ _ _ No hj k5 (fun _ _ h => h), k5.wide, fun y hy => ⟨.inl hy, fun hx => by have := hAlt y hy; have := hGC y (.inl hx); omega, fun hx => by have := hAlt y hy; have := hGC y (.inr hx); omega, fun e => by have := hAlt y hy; omega⟩, hGC, by rw [hrem0]; rfl, Nat.le_refl _⟩ ?_
  rintro I ⟨pre, fs, A1, G1, C1⟩ ⟨⟩ h' ⟨cu, hj', hu', hA1, hGC1, hrem, hsz⟩ hI
  simp only at cu hj' hA1 hGC1 hrem
  have hlt' := ht.lt _ _ _ hj'
  have hA1W : ∀ y, A1 y → h1.size ≤ y := fun y hy => (hA1 y hy).1.elim (hA3 y) fun h => by omega
  have hd : ∀ y, A1 y → ¬ (C1 y ∨ y = cb) := fun y hy hx => hx.elim (hA1 y hy).2.2.1 (hA1 y hy).2.2.2
  have hC4 : ∀ y, C1 y ∨ y = cb → h4.size ≤ y := fun y hy => hy.elim (fun h => hGC1 y (.inr h)) fun e => by omega
  refine walkNext_ok cu (fun y hy => by omega) (fun h6 hr0 hu6 => ?_) fun h6 fs' p R G' C' hr1 hr2 cu6 hC' hG' hu6 => ?_
  · have hj6 := ht.keep _ _ _ _ _ hj' hu6 hd
    refine newPr fun h7 b7 k7 => ?_
    refine Join.intro (fun t h8 => t = true ∧ h8 = h7) (fun R hR => condP_true.2 (hR _ _ ⟨rfl, rfl⟩)) ?_
    rintro t h8 ⟨rfl, rfl⟩
    refine condP_true.2 (hk' pre A1 h8 ?_ (ht.keep _ _ _ _ No hj6 k7 (fun _ _ h => h)) ?_ fun y hy => (hA1 y hy).1)
    · rw [hr0, List.append_nil] at hrem
      exact hrem
    · exact (hu'.trans hu6 fun y hy => .inr (hC4 y hy)).tr k7.wide
  · have hj6 := ht.keep _ _ _ _ _ hj' hu6 hd
    refine newPr (p := p) fun h7 b7 k7 => ?_
    have hj7 := ht.keep _ _ _ _ No hj6 k7 (fun _ _ h => h)
    have cu7 := cu6.upd k7 (fun _ h => h.elim) (fun _ _ h => h) (fun _ _ h => h) fun h => h
    have hu47 : Upd A h4 h7 := (hu'.trans hu6 fun y hy => .inr (hC4 y hy)).tr k7.wide
    have s6 := hu6.size
    have s7 := k7.size
    refine Join.intro (fun t h8 => t = false ∧ ∃ A3, J (pre ++ [p]) A3 h8 ∧ Upd A1 h7 h8 ∧ ∀ y, A3 y → A1 y ∨ h7.size ≤ y) (fun R' hR => ?_) ?_
    · refine condP_false.2 ⟨_, vc b7 0, _, vc b7 1, ?_⟩
      refine ht.step pre A1 h7 p _ hj7 ?_ fun h8 A3 hj8 hu8 hA8 => hR _ _ ⟨rfl, A3, hj8, hu8, hA8⟩
      have := congrArg List.length hrem
      rw [hr1] at this
      simp only [List.length_append, List.length_cons] at this
      omega
    · rintro t h8 ⟨rfl, A3, hj8, hu8, hA8⟩
      have hG'1 : ∀ y, G' y → ¬ A1 y := fun y hy hx => (hG' y hy).elim (hA1 y hx).2.1 fun h => by have := hlt' y hx; omega
      have hC'1 : ∀ y, C' y → ¬ A1 y := fun y hy hx => (hC' y hy).elim (hA1 y hx).2.2.1 fun h => by have := hlt' y hx; omega
      have hcb6 : cb < h6.size := by obtain ⟨s, d, hx, _⟩ := cu6.ex; exact get_lt hx
      refine condP_false.2 (hI (pre ++ [p], fs', A3, G', C') () h8 ⟨?_, hj8, ?_, fun y hy => ?_, fun y hy => ?_, ?_, by have := hu8.size; omega⟩ ?_)
      · exact cu7.upd hu8 (fun y hy => .inl (hA1W y hy)) hC'1 hG'1 fun hx => (hA1 _ hx).2.2.2 rfl
      · exact hu47.trans hu8 fun y hy => (hA1 y hy).1
      · rcases hA8 y hy with h | h
        · exact ⟨(hA1 y h).1, fun hx => hG'1 y hx h, fun hx => hC'1 y hx h, (hA1 y h).2.2.2⟩
        · exact ⟨.inr (by omega), fun hx => by have := cu6.lt y (.inr hx); omega, fun hx => by have := cu6.lt y (.inl hx); omega, by omega⟩
      · rcases hy with hy | hy
        · rcases hG' y hy with h | h
          · exact hGC1 y (.inl h)
          · omega
        · rcases hC' y hy with h | h
          · exact hGC1 y (.inr h)
          · omega
      · simp only
        rw [List.append_assoc, hr2, ← hrem, hr1]
        rfl
      · simp only
        rw [hr1, hr2]; simp
theorem walkSorted_ok {W W' : Nat → Prop} {x : Hs} {h : Heap} {b : Nat} {l : List Pr} (t : TrieAt W x h 13 b l) (hr : Rises l) (hn : l.length ≤ 100000) (hW' : ∀ y, W' y → y < h.size) {K : SliceV → Heap → Prop}
    (hk : ∀ s' h', Sl prF 2 W' h' s' l → s'.len ≤ s'.cap → Upd No h h' → K s' h') : HC PG f_walk_Sorted [.pointer (some ⟨b, 0, none⟩)] [.c .slice] K h := by
  refine H_walk_Sorted (some ⟨b, 0, none⟩) ?_
  unfold F_walk_Sorted
  refine walkAll_ok t hn fun fv h2 hg k2 => ?_
  refine collectP_ok hg (by omega) fun s3 h3 xs e ho k3 => ?_
  subst e
  have hwl := wl_len x 13 l
  refine sorted_ok (W' := W') (ho.sl (W := No) fun _ _ _ h => h) (fun y hy => Nat.lt_of_lt_of_le (hW' y hy) (k2.tr k3).size) (by omega) fun s4 h4 hs4 hc4 k4 => ?_
  rw [srt_wl hr] at hs4
  exact hk s4 h4 hs4 hc4 ((k2.tr k3).tr k4)
theorem tPairs_ok {W W' : Nat → Prop} {x : Hs} {h : Heap} {kind : Int} {t : Tr} {l : List Pr} (i : TreeIs W h kind x t l) (hr : Rises l) (hf : Fit l) (hn : l.length ≤ 60000) (hW' : ∀ y, W' y → y < h.size) {K : SliceV → Heap → Prop}
    (hk : ∀ s' h', Sl prF 2 W' h' s' l → Upd No h h' → K s' h') : HC PG f_tree_Tree_Pairs [trV t] [.c .slice] K h := by
  have i0 := i
  rcases i with ⟨rfl, b, rfl, t⟩ | ⟨rfl, _, _, _⟩
  · refine H_tree_Tree_Pairs _ ?_
    unfold F_tree_Tree_Pairs
    refine at_new fun h1 b1 k1 => ⟨_, vc b1 0, condP_false.2 ⟨_, vc b1 4, ?_⟩⟩
    exact walkSorted_ok (W' := W') (TrieAt.upd0 k1 t) hr (by omega) (fun y hy => Nat.lt_of_lt_of_le (hW' y hy) k1.size) fun s4 h4 hs4 _ k4 => hk s4 h4 hs4 (k1.tr k4)
  · exact tPairsR_ok i0 hr hf hn fun s' h' ho k => hk s' h' (ho.sl fun y hy _ hw => by have := hW' y hw; omega) k
theorem pairSame_ok {W W' : Nat → Prop} {h : Heap} {s s' : SliceV} {l : List Pr} (hs : Sl prF 2 W h s l) (hs' : Sl prF 2 W' h s' l) (hn : l.length ≤ 1000000) {K : Bool → Heap → Prop} (hk : K true h) : HC PG f_pair_Same [.slice s.a s.len s.cap, .slice s'.a s'.len s'.cap] [.c .bool] K h := by
  refine H_pair_Same s s' ?_
  unfold F_pair_Same
  refine H_slices_Equal_A_pair_Pair_pair_Pair s s' ?_
  unfold F_slices_Equal_A_pair_Pair_pair_Pair
  have hl := hs.len
  have hl' := hs'.len
  have ne : ((s.len : Int) != (s'.len : Int)) = false := by rw [bne_eq_false_iff_eq]; omega
  rw [ne]
  refine condP_false.2 (LoopP.ghost (fun (i : Nat) (t : Int) h' => t = (i : Int) ∧ i ≤ l.length ∧ h' = h) (fun i => l.length - i) 0 ⟨rfl, Nat.zero_le _, rfl⟩ ?_)
  rintro I i t h' ⟨rfl, hi, rfl⟩ hI
  refine condP_dec (fun hlt => ?_) fun hge => hk
  have hlt : i < l.length := by omega
  obtain ⟨a, ha, _, hv⟩ := hs.at (List.getElem?_eq_getElem hlt)
  obtain ⟨a', ha', _, hv'⟩ := hs'.at (List.getElem?_eq_getElem hlt)
  refine ⟨⟨by omega, by omega⟩, a, ha, l[i].1, hv 0 _ rfl, l[i].2, hv 1 _ rfl, ⟨by omega, by omega⟩, a', ha', l[i].1, hv' 0 _ rfl, l[i].2, hv' 1 _ rfl, ?_⟩
  rw [beq_self_eq_true, beq_self_eq_true]
  refine condP_false.2 ?_
  rw [wrap_succB hlt (by omega)]
  exact hI (i + 1) _ _ ⟨rfl, hlt, rfl⟩ (by omega)
end Go.Proofs
