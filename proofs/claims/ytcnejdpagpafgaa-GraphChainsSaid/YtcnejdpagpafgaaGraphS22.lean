/- A part of the proof that the named laws of this program answer true, whatever the input. -/
import Derived.Test.YtcnejdpagpafgaaGraphS18
namespace Go.Proofs
open Go.Lift
/-- A chain, and one more beside it. -/
def chP (k fr : Nat) (id : Int) : List Int := if id = 1 then [] else if id = (k : Int) + 1 then [(fr : Int)] else [id - 1]
structure ChainAt (L : Vers) (k fr n : Nat) : Prop where
  ids : ∀ id, id ∈ ids L ↔ 1 ≤ id ∧ id ≤ (n : Int)
  len : L.length = n
  par : ∀ id, 1 ≤ id → id ≤ (n : Int) → parV L id = chP k fr id
  inv : Inv L ((n : Int) + 1)
theorem ChainAt.nil {k fr : Nat} : ChainAt [] k fr 0 := ⟨fun id => by simp; omega, rfl, fun id h1 h2 => by omega, Inv.nil⟩
theorem ChainAt.add {L : Vers} {k fr n : Nat} (c : ChainAt L k fr n) (hn : n < 1000) {ps : List Int} (hp : ps = chP k fr ((n : Int) + 1)) (hfr : 1 ≤ fr ∧ fr ≤ k) :
    (addV L ((n : Int) + 1) ps).1 = ((n : Int) + 1, 0) ∧ (addV L ((n : Int) + 1) ps).2.2 = ((n + 1 : Nat) : Int) + 1 ∧ ChainAt (addV L ((n : Int) + 1) ps).2.1 k fr (n + 1) := by
  have hmem : ∀ p ∈ ps, p ∈ Proofs.ids L := fun p hpp => by
    rw [hp] at hpp
    unfold chP at hpp
    rw [c.ids]
    split at hpp
    · cases hpp
    · split at hpp
      · rw [List.mem_singleton.1 hpp]; omega
      · rw [List.mem_singleton.1 hpp]; omega
  have hmay : mayV ps = 0 := by
    rw [hp]; unfold chP mayV
    split
    · decide
    · split <;> simp [dup]
  have hfit : fitsV L ps = 0 := by
    unfold fitsV
    rw [if_neg, if_neg (by rw [c.len]; omega)]
    intro h
    obtain ⟨p, h1, h2⟩ := List.any_eq_true.1 h
    simp [hmem p h1] at h2
  have hnot : ((n : Int) + 1) ∉ Proofs.ids L := fun h => by have := (c.ids _).1 h; omega
  have v := c.inv.add ps
  rw [addV_val hmay hfit (by omega)] at v ⊢
  refine ⟨rfl, by simp, fun id => ?_, by simp only; rw [(insV_perm L _ ps).length_eq, List.length_cons, c.len], fun id h1 h2 => ?_, by simpa using v⟩
  · rw [insV_ids.mem_iff, List.mem_cons, c.ids]; omega
  · unfold parV
    rw [insV_look hnot]
    split
    · rename_i e; rw [e, ← hp]; rfl
    · exact c.par id h1 (by omega)
variable {L : Vers} {k fr n : Nat}
theorem ChainAt.up1 (c : ChainAt L k fr n) (hk : k ≤ n) (z : Int) : ∀ a : Nat, 1 ≤ a → a ≤ k → (Up L (a : Int) z ↔ 1 ≤ z ∧ z ≤ (a : Int))
  | 0, h, _ => by omega
  | a + 1, _, h => by
    rw [up_iff, c.ids, c.par _ (by omega) (by omega)]
    unfold chP
    by_cases ha : a = 0
    · subst ha
      rw [if_pos (by simp)]
      simp; omega
    · rw [if_neg (by omega), if_neg (by omega)]
      have e : ((a + 1 : Nat) : Int) - 1 = (a : Int) := by omega
      simp only [List.mem_singleton, exists_eq_left, e]
      rw [ChainAt.up1 c hk z a (by omega) (by omega)]
      omega
theorem ChainAt.up2 (c : ChainAt L k fr n) (hk : 1 ≤ k) (hfr : 1 ≤ fr ∧ fr ≤ k) (z : Int) : ∀ t : Nat, k + 1 + t ≤ n → (Up L ((k + 1 + t : Nat) : Int) z ↔ (((k : Int) + 1 ≤ z ∧ z ≤ ((k + 1 + t : Nat) : Int)) ∨ 1 ≤ z ∧ z ≤ (fr : Int)))
  | 0, h => by
    rw [up_iff, c.ids, c.par _ (by omega) (by omega)]
    unfold chP
    rw [if_neg (by omega), if_pos (by omega)]
    simp only [List.mem_singleton, exists_eq_left]
    rw [c.up1 (by omega) z fr hfr.1 hfr.2]
    omega
  | t + 1, h => by
    rw [up_iff, c.ids, c.par _ (by omega) (by omega)]
    unfold chP
    rw [if_neg (by omega), if_neg (by omega)]
    have e : ((k + 1 + (t + 1) : Nat) : Int) - 1 = ((k + 1 + t : Nat) : Int) := by omega
    simp only [List.mem_singleton, exists_eq_left, e]
    rw [ChainAt.up2 c hk hfr z t (by omega)]
    omega
theorem GraphAt.wide {W M Q : Nat → Prop} {h0 h : Heap} {gp gm : Nat} {L : Vers} {nx : Int} (g : GraphAt W h0 gp gm L nx) (k : Upd M h0 h) (hm : ∀ b, M b → (W b ∧ b ≠ gp ∧ b ≠ gm) ∨ h0.size ≤ b) (hq : ∀ b, Q b → h0.size ≤ b ∧ b < h.size) :
    GraphAt (fun b => W b ∨ Q b) h gp gm L nx := by
  have g' := g.upd k hm
  obtain ⟨m, hmm, hr⟩ := g.map
  have lp := g.lt _ g.wp
  have lm := g.lt _ g.wm
  refine ⟨g'.blk, ⟨m, hmm.upd k fun h => (hm _ h).elim (fun h => h.2.2 rfl) fun h => by omega, fun j => ?_⟩, .inl g.wp, .inl g.wm, fun b hb => hb.elim (g'.lt b) fun hb => (hq b hb).2, g.nd⟩
  rcases hr j with ⟨s, ps, h1, h2, h3⟩ | h0
  · exact .inl ⟨s, ps, h1, h2, (h3.less fun b hb => hb.imp id fun hb => (hq b hb).1).upd k fun b hb => (hm b hb).imp (fun h => .inl h.1) id⟩
  · exact .inr h0
theorem u32w {n : Int} (h : 0 ≤ n ∧ n ≤ 4294967295) : IntKind.wrap .u32 n = n := Go.IntWalk.u32_in _ (by omega)
theorem tmod_nat {a b : Int} (ha : 0 ≤ a) (hb : 0 < b) : ∃ r : Nat, Int.tmod a b = (r : Int) ∧ (r : Int) < b := by
  rw [Int.tmod_eq_emod_of_nonneg ha]
  have h1 := Int.emod_nonneg a (b := b) (by omega)
  have h2 := Int.emod_lt_of_pos a hb
  exact ⟨(a % b).toNat, by omega, by omega⟩
theorem aboveV {k fr t : Nat} (hf : fr ≤ k) {xs : List Int} (hx : xs.Pairwise (· < ·)) (hm : ∀ z, z ∈ xs ↔ (((k : Int) + 1 ≤ z ∧ z ≤ ((k + 1 + t : Nat) : Int)) ∨ 1 ≤ z ∧ z ≤ (fr : Int))) : xs.length = fr + t + 1 := by
  have : xs = ((List.range fr).map fun (i : Nat) => (i : Int) + 1) ++ (List.range (t + 1)).map fun (i : Nat) => (k : Int) + 1 + (i : Int) := by
    refine rising_ext hx ?_ fun z => ?_
    · rw [List.pairwise_append]
      refine ⟨?_, ?_, fun x hx y hy => ?_⟩
      · rw [List.pairwise_map]
        exact List.pairwise_lt_range.imp fun h => by omega
      · rw [List.pairwise_map]
        exact List.pairwise_lt_range.imp fun h => by omega
      · obtain ⟨i, hi, rfl⟩ := List.mem_map.1 hx
        obtain ⟨j, hj, rfl⟩ := List.mem_map.1 hy
        rw [List.mem_range] at hi hj
        omega
    · rw [hm, List.mem_append, List.mem_map, List.mem_map]
      constructor
      · rintro (⟨q1, q2⟩ | ⟨q1, q2⟩)
        · exact .inr ⟨(z - k - 1).toNat, List.mem_range.2 (by omega), by omega⟩
        · exact .inl ⟨(z - 1).toNat, List.mem_range.2 (by omega), by omega⟩
      · rintro (⟨i, hi, rfl⟩ | ⟨i, hi, rfl⟩)
        · rw [List.mem_range] at hi; exact .inr (by omega)
        · rw [List.mem_range] at hi; exact .inl (by omega)
  rw [this]; simp; omega
def sideV (k n : Nat) : List Int := (List.range n).map fun (i : Nat) => (k : Int) + 1 + (i : Int)
theorem chainsLaw_ok {h : Heap} {x0 x1 x2 x3 x4 : Int} (h0 : 0 ≤ x0 ∧ x0 ≤ 255) (h1 : 0 ≤ x1 ∧ x1 ≤ 255) (h2 : 0 ≤ x2 ∧ x2 ≤ 255) (h3 : 0 ≤ x3 ∧ x3 ≤ 255) (h4 : 0 ≤ x4 ∧ x4 ≤ 255) :
    HC PG f_l20_GraphChains [.int .u8 x0, .int .u8 x1, .int .u8 x2, .int .u8 x3, .int .u8 x4] [.c .bool] (fun b h' => b = true ∧ Upd No h h') h := by
  refine H_l20_GraphChains x0 x1 x2 x3 x4 ?_
  unfold F_l20_GraphChains
  obtain ⟨r0, e0, l0⟩ := tmod_nat h0.1 (b := 20) (by decide)
  obtain ⟨k, ek, k2, k21⟩ : ∃ k : Nat, IntKind.wrap .u32 (2 + IntKind.wrap .u32 (Int.tmod x0 20)) = (k : Int) ∧ 2 ≤ k ∧ k ≤ 21 := ⟨2 + r0, by rw [e0, u32w (n := (r0 : Int)) (by omega), u32w (by omega)]; omega, by omega, by omega⟩
  rw [ek, u32w (n := x1) (by omega), u32w (n := x3) (by omega), u32w (n := x4) (by omega), w64 (x := x4) (by omega)]
  obtain ⟨r1, e1, l1⟩ := tmod_nat h1.1 (b := (k : Int)) (by omega)
  obtain ⟨r3, e3, l3⟩ := tmod_nat h3.1 (b := (k : Int)) (by omega)
  obtain ⟨r4, e4, l4⟩ := tmod_nat h4.1 (b := (k : Int)) (by omega)
  obtain ⟨r2, e2, l2⟩ := tmod_nat h2.1 (b := 10) (by decide)
  rw [e1, e2, e3, e4]
  simp only [Bd]
  obtain ⟨fr, ef, f1, f2⟩ : ∃ fr : Nat, IntKind.wrap .u32 (1 + (r1 : Int)) = (fr : Int) ∧ 1 ≤ fr ∧ fr ≤ k := ⟨r1 + 1, by rw [u32w (by omega)]; omega, by omega, by omega⟩
  obtain ⟨a, ea, a1, a2⟩ : ∃ fr : Nat, IntKind.wrap .u32 (1 + (r3 : Int)) = (fr : Int) ∧ 1 ≤ fr ∧ fr ≤ k := ⟨r3 + 1, by rw [u32w (by omega)]; omega, by omega, by omega⟩
  obtain ⟨c, ec, c1, c2⟩ : ∃ fr : Nat, IntKind.wrap .u32 (1 + (r4 : Int)) = (fr : Int) ∧ 1 ≤ fr ∧ fr ≤ k := ⟨r4 + 1, by rw [u32w (by omega)]; omega, by omega, by omega⟩
  obtain ⟨M, eM, M1, M2⟩ : ∃ fr : Nat, IntKind.wrap .i64 (1 + IntKind.wrap .i64 (r2 : Int)) = (fr : Int) ∧ 1 ≤ fr ∧ fr ≤ 10 := ⟨r2 + 1, by rw [w64 (x := (r2 : Int)) (by omega), w64 (by omega)]; omega, by omega, by omega⟩
  rw [ef, ea, ec, eM]
  refine awake_ok fun hp1 hu1 => condP_false.2 ?_
  refine begin_ok fun hp2 gp gm hu2 hg1 hg2 g => ?_
  have z1 := hu1.size
  have hu02 := hu1.tr hu2
  have hnew : ∀ b, Two gp gm b → h.size ≤ b := fun b hb => by rcases hb with rfl | rfl <;> omega
  refine ⟨by decide, by omega, ?_⟩
  refine LoopP.ghost (fun (g : Nat × Vers) (t : Int) h' => t = (g.1 : Int) ∧ g.1 ≤ k ∧ GraphAt (Two gp gm) h' gp gm g.2 ((g.1 : Int) + 1) ∧ ChainAt g.2 k fr g.1 ∧ Upd No h h') (fun g => k - g.1) (0, []) ⟨rfl, by omega, g, ChainAt.nil, hu02⟩ ?_
  rintro I ⟨n, L⟩ t h' ⟨ht, hn, g, v, hu⟩ hI
  simp only at ht hn g v
  subst ht
  have hfr : ((n : Int) + 1) ∉ ids L := fun hm => by have := (v.ids _).1 hm; omega
  refine condP_dec (fun hlt => ?_) fun hge => ?_
  · have hlt : n < k := by omega
    have hw : IntKind.wrap .u32 ((n : Int) + 1) = ((n + 1 : Nat) : Int) := by rw [u32w (by omega)]; omega
    rw [hw]
    refine Join.plain (CondP.intro (fun e => ?_) fun e => ?_)
    · have e : n = 0 := by simpa using e
      subst e
      obtain ⟨q1, q2, q3⟩ := v.add (ps := []) (by omega) (by simp [chP]) ⟨f1, f2⟩
      refine gAdd_ok g (by omega) hfr (s := ⟨none, 0, 0⟩) (ps := []) (Sl.nil u32_ne) (by simp) fun h3 hu3 g3 => ?_
      rw [q2] at g3
      exact hI (0 + 1, _) _ _ ⟨rfl, hlt, g3, q3, hu.trans hu3 fun b hb => .inr (hnew b hb)⟩ (by simp only; omega)
    · have e : n ≠ 0 := by simpa using e
      obtain ⟨q1, q2, q3⟩ := v.add (ps := [(n : Int)]) (by omega) (by unfold chP; rw [if_neg (by omega), if_neg (by omega)]; simp) ⟨f1, f2⟩
      have kk := Upd.hnew No h' [.int .u32 (n : Int)] t_u32
      refine gAdd_ok (g.upd0 kk) (by omega) hfr (s := ⟨some (newA h'), 1, 1⟩) (ps := [(n : Int)]) ((single (M := (· = h'.size)) h' (n : Int) rfl).sl fun b hb _ hw => by have := g.lt b hw; omega) (by simp) fun h3 hu3 g3 => ?_
      rw [q2] at g3
      exact hI (n + 1, _) _ _ ⟨rfl, hlt, g3, q3, (hu.tr kk).trans hu3 fun b hb => .inr (hnew b hb)⟩ (by simp only; omega)
  · obtain rfl : n = k := by omega
    refine ⟨by decide, ?_⟩
    refine LoopP.ghost (fun (g : Nat × Vers × (Nat → Prop)) (t : Int × SliceV × Int) h' => t.2.2 = (g.1 : Int) ∧ t.1 = (if g.1 = 0 then (fr : Int) else (n : Int) + g.1) ∧ g.1 ≤ M ∧ OwnS u32 1 t_u32 g.2.2 h' t.2.1 (sideV n g.1) ∧ (∀ b, g.2.2 b → h.size ≤ b ∧ ¬ Two gp gm b) ∧
      GraphAt (fun b => Two gp gm b ∨ g.2.2 b) h' gp gm g.2.1 (((n + g.1 : Nat) : Int) + 1) ∧ ChainAt g.2.1 n fr (n + g.1) ∧ Upd No h h') (fun g => M - g.1) (0, L, No) ⟨rfl, rfl, by omega, OwnS.nil u32_ne, fun b hb => hb.elim, g.less (fun b hb => hb.elim id fun h => h.elim) (.inl g.wp) (.inl g.wm), v, hu⟩ ?_
    rintro I2 ⟨i, L2, A⟩ ⟨last, side, t⟩ h5 ⟨ht, hla, hi, ho, hA, g5, v5, hu5⟩ hI2
    simp only at ht hla hi ho hA g5 v5
    subst ht hla
    have hfr5 : (((n + i : Nat) : Int) + 1) ∉ ids L2 := fun hm => by have := (v5.ids _).1 hm; omega
    have z5 := hu5.size
    refine condP_dec (fun hlt => ?_) fun hge => ?_
    · have hlt : (i : Int) < (M : Int) := hlt
      have hlt : i < M := by omega
      refine Join.plain ?_
      simp only
      generalize hlast : (if i = 0 then (fr : Int) else (n : Int) + i) = last
      obtain ⟨q1, q2, q3⟩ := v5.add (ps := [last]) (by omega) (by
        unfold chP; rw [if_neg (by omega)]
        by_cases e : i = 0
        · subst e; rw [if_pos (by omega), ← hlast, if_pos rfl]
        · rw [if_neg (by omega), ← hlast, if_neg e]; congr 1; omega) ⟨f1, f2⟩
      have kk := Upd.hnew No h5 [.int .u32 last] t_u32
      refine gAdd_ok (g5.upd0 kk) (by omega) hfr5 (s := ⟨some (newA h5), 1, 1⟩) (ps := [last]) ((single (M := (· = h5.size)) h5 last rfl).sl fun b hb _ hw => by have := g5.lt b hw; omega) (by simp) fun h6 hu6 g6 => ?_
      rw [q2] at g6
      rw [q1]
      refine condP_false.2 ?_
      have ho6 := (ho.upd kk fun _ _ h => h).upd hu6 fun b hb => (hA b hb).2
      have z6 := (kk.wide.tr hu6).size
      refine append1 (M := fun b => A b ∨ h6.size ≤ b) (ho6.more fun b hb => .inl hb) (fun b hb => .inr hb) (by simp [sideV]; omega) fun s7 h7 ho7 hu7 => ?_
      have g7 := g6.wide (Q := fun b => h6.size ≤ b ∧ b < h7.size) hu7 (fun b hb => hb.imp (fun hb => ⟨.inr hb, fun e => (hA b hb).2 (.inl e), fun e => (hA b hb).2 (.inr e)⟩) id) fun b hb => hb
      have g7' := g7.less (W' := fun b => Two gp gm b ∨ (A b ∨ h6.size ≤ b) ∧ b < h7.size) (fun b hb => by
        rcases hb with hb | ⟨hb | hb, hb2⟩
        · exact .inl (.inl hb)
        · exact .inl (.inr hb)
        · exact .inr ⟨hb, hb2⟩) (.inl (.inl rfl)) (.inl (.inr rfl))
      simp only
      rw [wrap_succ hlt (by omega)]
      refine hI2 (i + 1, _, fun b => (A b ∨ h6.size ≤ b) ∧ b < h7.size) _ _ ⟨rfl, ?_, hlt, ?_, fun b hb => ?_, g7', q3, ?_⟩ (by simp only; omega)
      · simp only; rw [if_neg (by omega)]; omega
      · have : sideV n (i + 1) = sideV n i ++ [((n + i : Nat) : Int) + 1] := by
          unfold sideV; rw [List.range_succ, List.map_append]; simp; omega
        rw [this]; exact ho7.within
      · have := g6.lt gp g6.wp
        have := g6.lt gm g6.wm
        rcases hb.1 with hb | hb
        · exact hA b hb
        · exact ⟨by omega, fun e => by rcases e with rfl | rfl <;> omega⟩
      · exact ((hu5.tr kk).trans hu6 fun b hb => .inr (hnew b hb)).trans hu7 fun b hb => .inr (hb.elim (fun hb => (hA b hb).1) fun hb => by omega)
    · have hge : ¬ (i : Int) < (M : Int) := hge
      obtain rfl : i = M := by omega
      have hsl : Nums No h5 side (sideV n i) := ho.sl fun _ _ _ h => h
      have hsn : (sideV n i).length = i := by simp [sideV]
      have hlen : side.len = i := by rw [hsl.len, hsn]
      rw [show ((side.len : Nat) : Int) = (i : Int) by rw [hlen]]
      obtain ⟨r, er, lr⟩ := tmod_nat h4.1 (b := (i : Int)) (by omega)
      rw [er]
      obtain ⟨ad, had, _, hx⟩ := Nums.at hsl (i := r) (by omega)
      have hxr : (sideV n i)[r]'(by omega) = ((n + 1 + r : Nat) : Int) := by simp [sideV]
      rw [hxr] at hx
      refine ⟨by omega, by omega, by omega, ad, had, _, hx, ?_⟩
      have U1 := v5.up1 (by omega)
      have U2 := fun z => v5.up2 (by omega) ⟨f1, f2⟩ z r (by omega)
      have sm := v5.inv.good.toSmall
      refine gMeet_ok g5 sm _ _ fun best h6 m1 m2 m3 hu6 => ⟨by omega, ?_⟩
      refine gMeet_ok (g5.upd0 hu6) sm _ _ fun best2 h7 w1 w2 w3 hu7 => ?_
      have b1 : best = if (fr : Int) < (a : Int) then (fr : Int) else (a : Int) := by
        have q1 := m1 (if (fr : Int) < (a : Int) then (fr : Int) else (a : Int)) ((U1 _ a a1 a2).2 (by split <;> omega)) ((U2 _).2 (by split <;> omega))
        rcases m2 with e | ⟨q2, q3⟩
        · split at q1 <;> omega
        · have q2 := (U1 _ a a1 a2).1 q2
          have q3 := (U2 _).1 q3
          split at q1 <;> split <;> omega
      have b2 : best2 = if (a : Int) < (c : Int) then (a : Int) else (c : Int) := by
        have q1 := w1 (if (a : Int) < (c : Int) then (a : Int) else (c : Int)) ((U1 _ c c1 c2).2 (by split <;> omega)) ((U1 _ a a1 a2).2 (by split <;> omega))
        rcases w2 with e | ⟨q2, q3⟩
        · split at q1 <;> omega
        · have q2 := (U1 _ c c1 c2).1 q2
          have q3 := (U1 _ a a1 a2).1 q3
          split at q1 <;> split <;> omega
      have p1 : 0 < best := by rw [b1]; split <;> omega
      have p2 : 0 < best2 := by rw [b2]; split <;> omega
      rw [decide_eq_true (show best > 0 from p1), decide_eq_true (show best2 > 0 from p2), ← b1, ← b2]
      refine condP_true.2 ?_
      simp only [beq_self_eq_true]
      refine condP_true.2 (condP_true.2 ⟨by omega, condP_true.2 ⟨by omega, ?_⟩⟩)
      refine gAbove_ok ((g5.upd0 hu6).upd0 hu7) sm _ fun s8 h8 xs hx1 hx2 ho8 hu8 => ?_
      have hxl := aboveV f2 hx1 fun z => (hx2 z).trans (U2 z)
      have e8 : ((s8.len : Nat) : Int) = IntKind.wrap .i64 (IntKind.wrap .i64 (IntKind.wrap .i64 (fr : Int) + (r : Int)) + 1) := by
        rw [ho8.len, hxl, w64 (x := (fr : Int)) (by omega), w64 (x := (fr : Int) + (r : Int)) (by omega), w64 (by omega)]; omega
      rw [← e8]
      simp only [beq_self_eq_true]
      refine condP_true.2 ?_
      refine gLeads_ok (((g5.upd0 hu6).upd0 hu7).upd0 hu8) sm _ _ fun bb h9 hb9 hu9 => ?_
      obtain rfl : bb = true := hb9.2 ((U2 _).2 (.inr (by omega)))
      refine condP_true.2 ?_
      refine gLeads_ok ((((g5.upd0 hu6).upd0 hu7).upd0 hu8).upd0 hu9) sm _ _ fun bb h10 hb10 hu10 => ⟨?_, ((((hu5.tr hu6).tr hu7).tr hu8).tr hu9).tr hu10⟩
      cases bb
      · rfl
      · have := (U1 _ fr f1 f2).1 (hb10.1 rfl)
        omega
end Go.Proofs
