/- A part of the proof that the named laws of this program answer true, whatever the input. -/
import Derived.Test.YtcnejdpagpafgaaGraphS1
namespace Go.Proofs
open Go.Lift
abbrev sv (s : SliceV) : Value := .slice s.a s.len s.cap
abbrev KE : KeyE Int := kInt .u32
abbrev Vers := List (Int × List Int)
/-- The map has what the list has. -/
def Rep (W : Nat → Prop) (h : Heap) (m : List (Int × SliceV)) (L : Vers) : Prop :=
  ∀ id, (∃ s ps, alook m id = some s ∧ alook L id = some ps ∧ Nums W h s ps) ∨ (alook m id = none ∧ alook L id = none)
structure GraphAt (W : Nat → Prop) (h : Heap) (gp gm : Nat) (L : Vers) (nx : Int) : Prop where
  blk : h[gp]? = some (.cells #[.map (some gm), .int .u32 nx] t_graph_Graph (0, 0))
  map : ∃ m, MapAt KE sv h gm m ∧ Rep W h m L
  wp : W gp
  wm : W gm
  lt : ∀ b, W b → b < h.size
  nd : (L.map (·.1)).Nodup
theorem Rep.upd {W M : Nat → Prop} {h h' : Heap} {m : List (Int × SliceV)} {L : Vers} (r : Rep W h m L) (k : Upd M h h') (hm : ∀ b, M b → W b ∨ h.size ≤ b) : Rep W h' m L := fun id => by
  rcases r id with ⟨s, ps, h1, h2, h3⟩ | h0
  · exact .inl ⟨s, ps, h1, h2, h3.upd k hm⟩
  · exact .inr h0
theorem GraphAt.upd {W M : Nat → Prop} {h h' : Heap} {gp gm : Nat} {L : Vers} {nx : Int} (g : GraphAt W h gp gm L nx) (k : Upd M h h') (hm : ∀ b, M b → (W b ∧ b ≠ gp ∧ b ≠ gm) ∨ h.size ≤ b) : GraphAt W h' gp gm L nx := by
  have hlt := g.lt
  have h1 : ¬ M gp := fun e => (hm _ e).elim (fun e => e.2.1 rfl) fun e => absurd (hlt _ g.wp) (Nat.not_lt.2 e)
  have h2 : ¬ M gm := fun e => (hm _ e).elim (fun e => e.2.2 rfl) fun e => absurd (hlt _ g.wm) (Nat.not_lt.2 e)
  obtain ⟨m, hm1, hr⟩ := g.map
  exact ⟨k.get g.blk h1, ⟨m, hm1.upd k h2, hr.upd k fun b hb => (hm b hb).imp (·.1) id⟩, g.wp, g.wm, fun b hb => Nat.lt_of_lt_of_le (hlt b hb) k.size, g.nd⟩
theorem GraphAt.upd0 {W : Nat → Prop} {h h' : Heap} {gp gm : Nat} {L : Vers} {nx : Int} (g : GraphAt W h gp gm L nx) (k : Upd No h h') : GraphAt W h' gp gm L nx := g.upd k fun _ h => h.elim
theorem GraphAt.c0 {W : Nat → Prop} {h : Heap} {gp gm : Nat} {L : Vers} {nx : Int} (g : GraphAt W h gp gm L nx) : hcell h ⟨gp, 0, none⟩ = some (.map (some gm)) := by rw [hcell_blk g.blk]; rfl
theorem GraphAt.c1 {W : Nat → Prop} {h : Heap} {gp gm : Nat} {L : Vers} {nx : Int} (g : GraphAt W h gp gm L nx) : hcell h ⟨gp, 1, none⟩ = some (.int .u32 nx) := by rw [hcell_blk g.blk]; rfl
abbrev ids (L : Vers) : List Int := L.map (·.1)
theorem ids_look {L : Vers} {id : Int} : (alook L id).isSome = decide (id ∈ ids L) := by
  cases h : alook L id with
  | none => rw [decide_eq_false (alook_none.1 h)]; rfl
  | some v =>
    have : id ∈ ids L := by
      by_cases hm : id ∈ ids L
      · exact hm
      · rw [alook_none.2 hm] at h; cases h
    rw [decide_eq_true this]; rfl
theorem Rep.some {W : Nat → Prop} {h : Heap} {m : List (Int × SliceV)} {L : Vers} (r : Rep W h m L) (id : Int) : (alook m id).isSome = decide (id ∈ ids L) := by
  rw [← ids_look]
  rcases r id with ⟨s, ps, h1, h2, _⟩ | ⟨h1, h2⟩ <;> rw [h1, h2] <;> rfl
theorem Rep.len {W : Nat → Prop} {h : Heap} {m : List (Int × SliceV)} {L : Vers} (r : Rep W h m L) (h1 : (m.map (·.1)).Nodup) (h2 : (ids L).Nodup) : m.length = L.length := by
  have : (m.map (·.1)).Perm (ids L) := by
    rw [List.perm_ext_iff_of_nodup h1 h2]
    intro id
    have := r.some id
    have h3 : id ∈ m.map (·.1) ↔ (alook m id).isSome = true := by
      cases hl : alook m id with
      | none => simp [alook_none.1 hl]
      | some v =>
        simp only [Option.isSome_some, iff_true]
        by_cases hm : id ∈ m.map (·.1)
        · exact hm
        · rw [alook_none.2 hm] at hl; cases hl
    rw [h3, this, decide_eq_true_iff]
  have := this.length_eq
  simpa using this
/-! ### What the calls answer -/
def dup : List Int → Bool
  | [a, b] => a == b
  | _ => false
def mayV (ps : List Int) : Int := if ps.length > 2 ∨ dup ps = true then 1 else 0
def fitsV (L : Vers) (ps : List Int) : Int := if ps.any (fun p => !decide (p ∈ ids L)) then 4 else if L.length ≥ 1024 then 6 else 0
theorem gHas_ok {W : Nat → Prop} {h : Heap} {gp gm : Nat} {L : Vers} {nx : Int} (g : GraphAt W h gp gm L nx) (id : Int) {K : Bool → Heap → Prop} (hk : K (decide (id ∈ ids L)) h) :
    HC PG f_graph_Graph_Has [.pointer (some ⟨gp, 0, none⟩), .int .u32 id] [.c .bool] K h := by
  refine H_graph_Graph_Has (some ⟨gp, 0, none⟩) id ?_
  unfold F_graph_Graph_Has
  obtain ⟨m, hm, hr⟩ := g.map
  refine CondP.intro (fun e => by cases e) fun _ => ⟨_, rfl, _, g.c0, _, _, hm.get id ⟨none, 0, 0⟩, ?_⟩
  rw [hr.some id]
  exact hk
theorem gLen_ok {W : Nat → Prop} {h : Heap} {gp gm : Nat} {L : Vers} {nx : Int} (g : GraphAt W h gp gm L nx) {K : Int → Heap → Prop} (hk : K (L.length : Int) h) :
    HC PG f_graph_Graph_Len [.pointer (some ⟨gp, 0, none⟩)] [.c (.int .i64)] K h := by
  refine H_graph_Graph_Len (some ⟨gp, 0, none⟩) ?_
  unfold F_graph_Graph_Len
  obtain ⟨m, hm, hr⟩ := g.map
  refine CondP.intro (fun e => by cases e) fun _ => ⟨_, rfl, _, g.c0, _, hm.len, ?_⟩
  rw [hr.len hm.nodup g.nd]
  exact hk
theorem gNext_ok {W : Nat → Prop} {h : Heap} {gp gm : Nat} {L : Vers} {nx : Int} (g : GraphAt W h gp gm L nx) {K : Int → Heap → Prop} (hk : K nx h) :
    HC PG f_graph_Graph_Next [.pointer (some ⟨gp, 0, none⟩)] [.c (.int .u32)] K h := by
  refine H_graph_Graph_Next (some ⟨gp, 0, none⟩) ?_
  unfold F_graph_Graph_Next
  exact CondP.intro (fun e => by cases e) fun _ => ⟨_, rfl, _, g.c1, hk⟩
theorem gMay_ok {W : Nat → Prop} {h : Heap} {p : Option Addr} {s : SliceV} {ps : List Int} (hs : Nums W h s ps) {K : Int → Heap → Prop} (hk : K (mayV ps) h) :
    HC PG f_graph_Graph_may [.pointer p, .slice s.a s.len s.cap] [.c (.int .i64)] K h := by
  refine H_graph_Graph_may p s ?_
  unfold F_graph_Graph_may
  refine Join.plain (condP_dec (fun hgt => ?_) fun hle => CondP.intro (fun he => ?_) fun hne => ?_)
  · rw [hs.len] at hgt
    rw [show mayV ps = 1 from if_pos (.inl (by omega))] at hk
    exact condP_true.2 hk
  · rw [hs.len] at he
    have he : ps.length = 2 := by
      have : (ps.length : Int) = 2 := by simpa using he
      omega
    obtain ⟨a, ha, _, hx⟩ := Nums.at hs (i := 0) (by omega)
    obtain ⟨a', ha', _, hy⟩ := Nums.at hs (i := 1) (by omega)
    refine ⟨by rw [hs.len]; omega, a, ha, _, hx, by rw [hs.len]; omega, a', ha', _, hy, ?_⟩
    have e : mayV ps = if (ps[0] == ps[1]) = true then 1 else 0 := by
      match ps, he with
      | [x, y], _ => simp [mayV, dup]
    rw [e] at hk
    exact CondP.intro (fun h1 => by rw [if_pos h1] at hk; exact hk) fun h1 => by rw [if_neg (by rw [h1]; decide)] at hk; exact hk
  · rw [hs.len] at hle hne
    have hne : ps.length ≠ 2 := fun e => by rw [e] at hne; exact absurd hne (by decide)
    have hd : dup ps = false := by
      match ps, hne with
      | [], _ => rfl
      | [_], _ => rfl
      | [_, _], h => exact absurd rfl h
      | _ :: _ :: _ :: _, _ => rfl
    rw [show mayV ps = 0 from if_neg (by rw [hd]; simp; omega)] at hk
    exact condP_false.2 hk
theorem gFits_ok {W : Nat → Prop} {h : Heap} {gp gm : Nat} {L : Vers} {nx : Int} (g : GraphAt W h gp gm L nx) {s : SliceV} {ps : List Int} (hs : Nums W h s ps) (hn : ps.length ≤ 4611686018427387904)
    {K : Int → Heap → Prop} (hk : ∀ h', Upd No h h' → K (fitsV L ps) h') : HC PG f_graph_Graph_fits [.pointer (some ⟨gp, 0, none⟩), .slice s.a s.len s.cap] [.c (.int .i64)] K h := by
  refine H_graph_Graph_fits (some ⟨gp, 0, none⟩) s ?_
  unfold F_graph_Graph_fits
  have hu := Upd.hnew No h [.pointer (some ⟨gp, 0, none⟩)] t_P_graph_Graph
  refine containsFunc_ok (p := fun p => !decide (p ∈ ids L)) (fun h' => GraphAt W h' gp gm L nx ∧ Nums W h' s ps ∧ h'[h.size]? = some (.cells #[.pointer (some ⟨gp, 0, none⟩)] t_P_graph_Graph (0, 0)) ∧ Upd No h h') (fun h' hst => hst.2.1) ?_ hn ⟨g.upd0 hu, hs.upd hu fun _ h => h.elim, hnew_get h _ _, hu⟩ ?_
  · rintro h' x K ⟨hg, hps, hb, hu'⟩ _ hk'
    refine HV.mk' (H_graph_Graph_fits_1 x ⟨h.size, 0, none⟩ ?_)
    unfold F_graph_Graph_fits_1
    refine ⟨_, by rw [hcell_blk hb]; rfl, ?_⟩
    exact gHas_ok hg x (hk' h' ⟨hg, hps, hb, hu'⟩)
  · rintro h' ⟨hg, hps, hb, hu'⟩
    obtain ⟨m, hm, hr⟩ := hg.map
    refine CondP.intro (fun he => ?_) fun hne => ?_
    · rw [show fitsV L ps = 4 from if_pos he] at hk
      exact hk h' hu'
    · refine ⟨_, by rw [newA_eq, hcell_blk hb]; rfl, _, rfl, _, hg.c0, _, hm.len, ?_⟩
      rw [hr.len hm.nodup hg.nd]
      refine condP_dec (fun hge => ?_) fun hlt => ?_
      · rw [show fitsV L ps = 6 from (if_neg (by rw [hne]; decide)).trans (if_pos (by omega))] at hk
        exact hk h' hu'
      · rw [show fitsV L ps = 0 from (if_neg (by rw [hne]; decide)).trans (if_neg (by omega))] at hk
        exact hk h' hu'
end Go.Proofs
