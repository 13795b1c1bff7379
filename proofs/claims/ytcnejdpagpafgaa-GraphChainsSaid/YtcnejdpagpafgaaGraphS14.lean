/- A part of the proof that the named laws of this program answer true, whatever the input. -/
import Derived.Test.YtcnejdpagpafgaaGraphS13
namespace Go.Proofs
open Go.Lift
/-- What always holds of the versions and of the id that comes next. -/
structure Inv (L : Vers) (nx : Int) : Prop where
  good : Good L
  pos : ∀ id ∈ ids L, 1 ≤ id ∧ id < nx
  nx1 : 1 ≤ nx
  nx2 : nx ≤ 2147483648
  few : L.length ≤ 1024
theorem Inv.nil : Inv [] 1 := ⟨⟨⟨fun v hv => (by cases hv), by simp⟩, List.Pairwise.nil, fun v hv => (by cases hv)⟩, fun v hv => (by cases hv), by omega, by omega, by simp⟩
theorem drop_gt {id : Int} : ∀ {L : Vers}, (ids L).Pairwise (· < ·) → id ∉ ids L → ∀ v ∈ L.dropWhile (fun v => decide (v.1 < id)), id < v.1
  | [], _, _, v, hv => by cases hv
  | u :: L, hp, hn, v, hv => by
    simp only [ids, List.map_cons, List.pairwise_cons, List.mem_cons, not_or] at hp hn
    rw [List.dropWhile_cons] at hv
    split at hv
    · exact drop_gt hp.2 hn.2 v hv
    · rename_i h
      have h : ¬ u.1 < id := by simpa using h
      rcases List.mem_cons.1 hv with rfl | hv
      · omega
      · have := hp.1 v.1 (List.mem_map.2 ⟨v, hv, rfl⟩); omega
theorem take_lt {id : Int} : ∀ {L : Vers}, ∀ v ∈ L.takeWhile (fun v => decide (v.1 < id)), v.1 < id
  | [], v, hv => by cases hv
  | u :: L, v, hv => by
    rw [List.takeWhile_cons] at hv
    split at hv
    · rename_i h
      rcases List.mem_cons.1 hv with rfl | hv
      · simpa using h
      · exact take_lt v hv
    · cases hv
theorem insV_good {L : Vers} (g : Good L) {id : Int} {ps : List Int} (hn : id ∉ ids L) (hp : ∀ p ∈ ps, p ∈ ids L ∧ p < id) (h2 : ps.length ≤ 2) (hl : L.length < 100000) : Good (insV L id ps) := by
  have hperm := insV_perm L id ps
  refine ⟨⟨fun v hv => ?_, by rw [hperm.length_eq]; simp; omega⟩, ?_, fun v hv p hpv => ?_⟩
  · rcases List.mem_cons.1 (hperm.mem_iff.1 hv) with rfl | hv
    · exact h2
    · exact g.two v hv
  · unfold insV ids
    rw [List.map_append, List.map_cons, List.pairwise_append]
    refine ⟨(g.up.sublist ((List.takeWhile_sublist _).map _)), List.pairwise_cons.2 ⟨fun y hy => ?_, g.up.sublist ((List.dropWhile_sublist _).map _)⟩, fun x hx y hy => ?_⟩
    · obtain ⟨v, hv, rfl⟩ := List.mem_map.1 hy
      exact drop_gt g.up hn v hv
    · obtain ⟨u, hu, rfl⟩ := List.mem_map.1 hx
      have hu' := take_lt u hu
      rcases List.mem_cons.1 hy with rfl | hy
      · exact hu'
      · obtain ⟨v, hv, rfl⟩ := List.mem_map.1 hy
        have := drop_gt g.up hn v hv
        omega
  · rw [insV_ids.mem_iff]
    rcases List.mem_cons.1 (hperm.mem_iff.1 hv) with rfl | hv
    · exact ⟨List.mem_cons_of_mem _ (hp p hpv).1, (hp p hpv).2⟩
    · have := g.par v hv p hpv
      exact ⟨List.mem_cons_of_mem _ this.1, this.2⟩
theorem fitsV_zero {L : Vers} {ps : List Int} (h : fitsV L ps = 0) : (∀ p ∈ ps, p ∈ ids L) ∧ L.length < 1024 := by
  unfold fitsV at h
  split at h
  · cases h
  · rename_i h1
    split at h
    · cases h
    · rename_i h2
      refine ⟨fun p hp => ?_, by omega⟩
      by_cases hm : p ∈ ids L
      · exact hm
      · exact absurd (List.any_eq_true.2 ⟨p, hp, by simpa using hm⟩) h1
theorem mayV_zero {ps : List Int} (h : mayV ps = 0) : ps.length ≤ 2 := by
  unfold mayV at h
  split at h
  · cases h
  · rename_i h1
    have := not_or.1 h1
    omega
theorem Inv.add {L : Vers} {nx : Int} (v : Inv L nx) (ps : List Int) : Inv (addV L nx ps).2.1 (addV L nx ps).2.2 := by
  unfold addV
  split
  · exact v
  · rename_i h1
    split
    · exact v
    · rename_i h2
      split
      · exact v
      · rename_i h3
        have h1 : mayV ps = 0 := by omega
        have h2 : fitsV L ps = 0 := by omega
        obtain ⟨f1, f2⟩ := fitsV_zero h2
        have hn : nx ∉ ids L := fun hm => by have := (v.pos nx hm).2; omega
        show Inv (insV L nx ps) (nx + 1)
        refine ⟨insV_good v.good hn (fun p hp => ⟨f1 p hp, (v.pos p (f1 p hp)).2⟩) (mayV_zero h1) (by have := v.few; omega), fun id hid => ?_, by have := v.nx1; omega, by omega, ?_⟩
        · rcases List.mem_cons.1 (insV_ids.mem_iff.1 hid) with rfl | h
          · have := v.nx1; omega
          · have := v.pos id h; omega
        · rw [(insV_perm L nx ps).length_eq]; simp; omega
theorem Inv.put {L : Vers} {nx : Int} (v : Inv L nx) {id : Int} (hid : 0 ≤ id) (ps : List Int) : Inv (putV L nx id ps).2.1 (putV L nx id ps).2.2 := by
  unfold putV
  split
  · exact v
  · rename_i h1
    have h1 := not_or.1 h1
    have h1a := h1.1
    have h1b := not_or.1 h1.2
    have h1c := not_or.1 h1b.2
    split
    · exact v
    · rename_i h2
      split
      · exact v
      · rename_i h3
        have h4 : mayV ps = 0 := by omega
        have h3 : fitsV L ps = 0 := by omega
        obtain ⟨f1, f2⟩ := fitsV_zero h3
        have hnx := v.nx1
        refine ⟨insV_good v.good h2 (fun p hp => ⟨f1 p hp, ?_⟩) (mayV_zero h4) (by have := v.few; omega), fun j hj => ?_, by simp only; split <;> omega, ?_, ?_⟩
        · by_cases hlt : p < id
          · exact hlt
          · exact absurd (List.any_eq_true.2 ⟨p, hp, by simpa using hlt⟩) h1c.2
        · rcases List.mem_cons.1 (insV_ids.mem_iff.1 hj) with rfl | h
          · simp only; split <;> omega
          · have := v.pos j h; simp only; split <;> omega
        · have := v.nx2; simp only; split <;> omega
        · rw [(insV_perm L id ps).length_eq]; simp; omega
theorem Inv.drop {L : Vers} {nx : Int} (v : Inv L nx) {keep st : List Int} (hst : ∀ y, y ∈ st ↔ ∃ k ∈ keep, Up L k y) : Inv (L.filter fun v => decide (v.1 ∈ st)) nx := by
  have hsub : ∀ id, id ∈ ids (L.filter fun v => decide (v.1 ∈ st)) ↔ id ∈ ids L ∧ id ∈ st := fun id => by
    unfold ids
    simp only [List.mem_map, List.mem_filter, decide_eq_true_iff]
    constructor
    · rintro ⟨u, ⟨h1, h2⟩, rfl⟩; exact ⟨⟨u, h1, rfl⟩, h2⟩
    · rintro ⟨⟨u, h1, rfl⟩, h2⟩; exact ⟨u, ⟨h1, h2⟩, rfl⟩
  refine ⟨⟨⟨fun u hu => v.good.two u (List.mem_filter.1 hu).1, Nat.le_trans (List.length_filter_le ..) v.good.len⟩, v.good.up.sublist ((List.filter_sublist).map _), fun u hu p hp => ?_⟩, fun id hid => v.pos id ((hsub id).1 hid).1, v.nx1, v.nx2, Nat.le_trans (List.length_filter_le ..) v.few⟩
  obtain ⟨h1, h2⟩ := List.mem_filter.1 hu
  obtain ⟨h3, h4⟩ := v.good.par u h1 p hp
  refine ⟨(hsub p).2 ⟨h3, ?_⟩, h4⟩
  obtain ⟨k, hk, hup⟩ := (hst _).1 (of_decide_eq_true h2)
  refine (hst p).2 ⟨k, hk, hup.snoc ?_ h3⟩
  have : alook L u.1 = some u.2 := (alook_mem v.good.nd).2 h1
  simp [parV, this, hp]
/-- The graph and the document's, side by side. -/
structure Both (W : Nat → Prop) (h : Heap) (gp gm xp : Nat) (L : Vers) (nx : Int) : Prop where
  g : GraphAt W h gp gm L nx
  x : RefAt W h xp L nx
  n1 : xp ≠ gp
  n2 : xp ≠ gm
  inv : Inv L nx
abbrev Three (a b c : Nat) : Nat → Prop := fun x => x = a ∨ x = b ∨ x = c
variable {W : Nat → Prop} {h : Heap} {gp gm xp : Nat} {L : Vers} {nx : Int}
theorem Both.upd0 {h' : Heap} (v : Both W h gp gm xp L nx) (k : Upd No h h') : Both W h' gp gm xp L nx := ⟨v.g.upd0 k, v.x.upd0 k, v.n1, v.n2, v.inv⟩
theorem Both.two {h' : Heap} (v : Both W h gp gm xp L nx) (k : Upd (Two gp gm) h h') : RefAt W h' xp L nx := v.x.upd k fun b hb => .inl (by
  have := v.n1; have := v.n2; have := v.g.wp; have := v.g.wm
  rcases hb with rfl | rfl
  · exact ⟨v.g.wp, fun e => v.n1 e.symm⟩
  · exact ⟨v.g.wm, fun e => v.n2 e.symm⟩)
theorem GraphAt.one {h' : Heap} (g : GraphAt W h gp gm L nx) (hx : W xp) (n1 : xp ≠ gp) (n2 : xp ≠ gm) (k : Upd (· = xp) h h') : GraphAt W h' gp gm L nx := g.upd k fun b hb => .inl (by subst hb; exact ⟨hx, n1, n2⟩)
/-- An act, as it comes: its number, an id, parents. -/
structure ActAt (W : Nat → Prop) (h : Heap) (a : Int × Int × SliceV × Bool) : Prop where
  do0 : 0 ≤ a.1
  id0 : 0 ≤ a.2.1
  p : ∃ ps, Nums W h a.2.2.1 ps ∧ ∀ p ∈ ps, 0 ≤ p
  cap : a.2.2.1.len ≤ a.2.2.1.cap
theorem ActAt.upd {M : Nat → Prop} {h' : Heap} {a : Int × Int × SliceV × Bool} (c : ActAt W h a) (k : Upd M h h') (hm : ∀ b, M b → W b ∨ h.size ≤ b) : ActAt W h' a := by
  obtain ⟨ps, h1, h2⟩ := c.p
  exact ⟨c.do0, c.id0, ⟨ps, h1.upd k hm, h2⟩, c.cap⟩
theorem Nums.cut {s : SliceV} {ps : List Int} (hs : Nums W h s ps) (hc : s.len ≤ s.cap) {n : Nat} (hn : n ≤ s.len) : Nums W h ⟨subAddr s.a 0 s.cap 1, n - 0, s.cap - 0⟩ (ps.take n) := by
  have := Sl.sub (l := 0) (hi := n) (m := s.cap) (c := s.cap - 0) hs (Nat.zero_le _) (by rw [← hs.len]; exact hn) (by omega)
  simpa using this
theorem actParents_ok {a : Int × Int × SliceV × Bool} (ha : ActAt W h a) (hx : RefAt W h xp L nx) (hL : L.length ≤ 100000) {K : SliceV → Heap → Prop}
    (hk : ∀ s' h' ps, Nums W h' s' ps → ps.length ≤ 3 → Upd No h h' → K s' h') :
    HC PG f_l20_Act_parents [.agg #[.int .u8 a.1, .int .u32 a.2.1, .slice a.2.2.1.a a.2.2.1.len a.2.2.1.cap, .bool a.2.2.2], .pointer (some ⟨xp, 0, none⟩)] [.c .slice] K h := by
  refine H_l20_Act_parents a (some ⟨xp, 0, none⟩) ?_
  unfold F_l20_Act_parents
  obtain ⟨dv, idv, s, near⟩ := a
  obtain ⟨ps, hs, hps⟩ := ha.p
  have hcap : s.len ≤ s.cap := ha.cap
  have k0 := Upd.hnew No h [.int .u8 dv, .int .u32 idv, .slice s.a s.len s.cap, .bool near] t_l20_Act
  have b0 := hnew_get h [.int .u8 dv, .int .u32 idv, .slice s.a s.len s.cap, .bool near] t_l20_Act
  simp only at hs
  have hs0 := hs.upd k0 fun _ h => h.elim
  have hx0 := hx.upd0 k0
  simp only [At]
  generalize hnew h [.int .u8 dv, .int .u32 idv, .slice s.a s.len s.cap, .bool near] t_l20_Act = h1 at k0 b0 hs0 hx0
  refine ⟨s, by rw [hcell_newA b0]; rfl, s, by rw [hcell_newA b0]; rfl, ?_⟩
  have e3 : (if (3 : Int) < (s.len : Int) then (3 : Int) else (s.len : Int)) = ((min 3 s.len : Nat) : Int) := by split <;> omega
  rw [e3]
  have hc0 := Nums.cut hs0 hcap (Nat.min_le_right 3 s.len)
  refine ⟨by omega, ?_⟩
  simp only [Bd, Int.toNat_natCast]
  refine ⟨near, by rw [hcell_newA b0]; rfl, CondP.intro (fun _ => ?_) fun _ => ?_⟩
  · refine clone_ok hc0 (by simp; omega) fun s' h2 ho hu _ => hk s' h2 _ (ho.sl fun b hb _ hw => ?_) (by simp; omega) (k0.tr hu)
    have := hx.lt b hw; have := k0.size; omega
  · have hcl : (ps.take (min 3 s.len)).length = min 3 s.len - 0 := by rw [← hc0.len]
    refine LoopP.ghost (fun (i : Nat) (t : SliceV × Int) h' => t.2 = (i : Int) ∧ i ≤ min 3 s.len ∧ Upd No h1 h' ∧ ∃ out, OwnS u32 1 t_u32 (fun b => h1.size ≤ b) h' t.1 out ∧ out.length ≤ i) (fun i => min 3 s.len - i) 0
      ⟨rfl, Nat.zero_le _, Upd.refl _ _, [], OwnS.nil u32_ne, Nat.le_refl _⟩ ?_
    rintro I i ⟨so, t⟩ h2 ⟨ht, hi, hu, out, ho, hol⟩ hI
    simp only at ht ho
    subst ht
    have step : ∀ s' h3 out', OwnS u32 1 t_u32 (fun b => h1.size ≤ b) h3 s' out' → out'.length ≤ i + 1 → Upd No h1 h3 → i < min 3 s.len → I (s', IntKind.wrap .i64 ((i : Int) + 1)) h3 := fun s' h3 out' q1 q2 q3 q4 => by
      rw [w64 (by omega)]
      exact hI (i + 1) _ _ ⟨rfl, q4, q3, out', q1, q2⟩ (by omega)
    refine condP_dec (fun hlt => ?_) fun hge => ?_
    · have hlt : i < min 3 s.len := by simp only at hlt; omega
      obtain ⟨a1, ha1, _, hv⟩ := Nums.at (hc0.upd hu fun _ h => h.elim) (i := i) (by rw [hcl]; omega)
      have hx2 := hx0.upd0 hu
      obtain ⟨sx, tx, Ls, hb, hl, hpar, hcapx⟩ := hx2.blk
      have hc : hcell h2 (adr ⟨xp, 0, none⟩ 0) = some (.slice sx.a sx.len sx.cap) := by rw [show adr ⟨xp, 0, none⟩ 0 = ⟨xp, 0, none⟩ from rfl, hcell_blk hb]; rfl
      refine Join.plain ⟨by simp only; omega, a1, ha1, _, hv, _, rfl, sx, hc, condP_dec (fun hpos => ?_) fun _ => step _ _ _ ho (by omega) hu hlt⟩
      have hv0 : 0 ≤ (ps.take (min 3 s.len))[i]'(by rw [hcl]; omega) := hps _ (List.mem_of_mem_take (List.getElem_mem _))
      generalize (ps.take (min 3 s.len))[i]'(by rw [hcl]; omega) = v at hv0
      have hll := hl.len
      have hpl := hpar.len
      obtain ⟨q, hq, hq2⟩ : ∃ q : Nat, Int.tmod (IntKind.wrap .i64 (Int.tmod v 64)) (sx.len : Int) = (q : Int) ∧ q < Ls.length := by
        have e1 : Int.tmod v 64 = v % 64 := Int.tmod_eq_emod_of_nonneg hv0
        rw [e1, w64 (by omega), Int.tmod_eq_emod_of_nonneg (by omega)]
        have hsx : (0 : Int) < (sx.len : Int) := by omega
        have h1 := Int.emod_nonneg (v % 64) (b := (sx.len : Int)) (by omega)
        have h2 := Int.emod_lt_of_pos (v % 64) hsx
        exact ⟨(v % 64 % (sx.len : Int)).toNat, by omega, by omega⟩
      obtain ⟨a2, ha2, c0, c1⟩ := verVar hl hq2
      refine ⟨_, rfl, sx, hc, by decide, _, rfl, sx, hc, by omega, ?_⟩
      rw [hq]
      refine ⟨by omega, a2, ha2, _, c0, ?_⟩
      have kb := Upd.hnew No h2 [.int .u32 Ls[q].1] t_u32
      have hx3 := hx2.upd0 kb
      have hcc : ∀ h', Upd No h2 h' → hcell h' (adr ⟨xp, 0, none⟩ 0) = some (.slice sx.a sx.len sx.cap) := fun h' k => k.cell0 hc
      refine ⟨hcc _ kb, hcc _ kb, ?_⟩
      obtain ⟨xs, hsr, hap⟩ := append1 (x := Ls[q].1) (M := fun b => h1.size ≤ b) (K := fun s' h' => (hcell h' (adr ⟨xp, 0, none⟩ 0) = some (.slice sx.a sx.len sx.cap) ∧ hcell h' (adr ⟨xp, 0, none⟩ 0) = some (.slice sx.a sx.len sx.cap) ∧ I (s', IntKind.wrap .i64 ((i : Int) + 1)) h')) ho (fun b hb => Nat.le_trans hu.size hb) (by omega) fun s' h' ho' hu' => by
        have hu12 := hu.trans hu' fun b hb => .inr hb
        have hxl := hx.lt _ hx.wp
        have z0 := k0.size
        have hcu : hcell h' (adr ⟨xp, 0, none⟩ 0) = some (.slice sx.a sx.len sx.cap) := hu'.cell hc (by rw [adr_block]; show ¬ h1.size ≤ xp; omega)
        exact ⟨hcu, hcu, step _ _ _ ho' (by simp; omega) hu12 hlt⟩
      exact ⟨xs, hsr, hap⟩
    · refine hk so h2 out (ho.sl fun b hb _ hw => ?_) (by omega) (k0.tr hu)
      have := hx.lt b hw; have := k0.size; omega
end Go.Proofs
