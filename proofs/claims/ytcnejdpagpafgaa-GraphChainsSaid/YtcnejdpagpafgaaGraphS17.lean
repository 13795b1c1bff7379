/- A part of the proof that the named laws of this program answer true, whatever the input. -/
import Derived.Test.YtcnejdpagpafgaaGraphS16
namespace Go.Proofs
open Go.Lift
abbrev Act4 := Int × Int × SliceV × Bool
abbrev actf (a : Act4) : List Value := [.int .u8 a.1, .int .u32 a.2.1, .slice a.2.2.1.a a.2.2.1.len a.2.2.1.cap, .bool a.2.2.2]
theorem actf_ne (a : Act4) : (actf a).length = 4 ∧ 0 < 4 := ⟨rfl, by omega⟩
/-- Acts, acts they came in. -/
structure ActsAt (h : Heap) (s : SliceV) (acts : List Act4) : Prop where
  sl : Sl actf 4 No h s acts
  all : ∀ a ∈ acts, ActAt No h a
  len : acts.length ≤ 9223372036854775807
theorem ActsAt.upd {h h' : Heap} {s : SliceV} {acts : List Act4} (v : ActsAt h s acts) (k : Upd No h h') : ActsAt h' s acts := ⟨v.sl.upd k fun _ h => h.elim, fun a ha => (v.all a ha).upd k fun _ h => h.elim, v.len⟩
theorem ActAt.less {W : Nat → Prop} {h : Heap} {a : Act4} (v : ActAt No h a) (hw : ∀ b, W b → h.size ≤ b) : ActAt W h a := by
  obtain ⟨ps, h1, h2⟩ := v.p
  exact ⟨v.do0, v.id0, ⟨ps, h1.less fun b hb => .inr (hw b hb), h2⟩, v.cap⟩
/-- An act's own block. -/
theorem setAct (h : Heap) (a : Act4) : WrS (hnew h [.int .u8 0, .int .u32 0, .slice none 0 0, .bool false] t_l20_Act) (some (newA h)) 0 (actf a) ∧
    (hsetL (hnew h [.int .u8 0, .int .u32 0, .slice none 0 0, .bool false] t_l20_Act) (newA h) 0 (actf a))[h.size]? = some (.cells #[.int .u8 a.1, .int .u32 a.2.1, .slice a.2.2.1.a a.2.2.1.len a.2.2.1.cap, .bool a.2.2.2] t_l20_Act (0, 0)) ∧
    Upd No h (hsetL (hnew h [.int .u8 0, .int .u32 0, .slice none 0 0, .bool false] t_l20_Act) (newA h) 0 (actf a)) := by
  have hb := hnew_get h [.int .u8 0, .int .u32 0, .slice none 0 0, .bool false] t_l20_Act
  have e := hsetL_blk (actf a) (hnew h [.int .u8 0, .int .u32 0, .slice none 0 0, .bool false] t_l20_Act) 0 0 _ hb (by simp)
  rw [newA_eq] at *
  refine ⟨.inr ⟨_, rfl, fun j hj => ?_⟩, ?_, ?_⟩
  · rw [adr_mk]
    refine wr_blk hb ?_
    simp at hj ⊢; omega
  · rw [e, set_get hb]; rfl
  · rw [e]
    exact (Upd.hnew No h _ _).trans (M' := (· = h.size)) (Upd.set _ _ rfl) fun b hb => .inr (Nat.le_of_eq hb.symm)
/-- What the laws begin with. -/
theorem begin_ok {h : Heap} {K : Option Addr → Heap → Prop} (hk : ∀ h' gp gm, Upd No h h' → h.size ≤ gp → h.size ≤ gm → GraphAt (Two gp gm) h' gp gm [] 1 → K (some ⟨gp, 0, none⟩) h') : HC PG f_graph_New [] [.c .ptr] K h :=
  gNew_ok fun h' hu g => hk h' _ _ hu (by omega) (by omega) g
theorem begin_ref {h : Heap} {gp gm : Nat} (g : GraphAt (Two gp gm) h gp gm [] 1) : Both (Three gp gm h.size) (hnew h [.slice none 0 0, .int .u32 1] t_r20_Graph) gp gm h.size [] 1 := by
  have k := Upd.hnew No h [.slice none 0 0, .int .u32 1] t_r20_Graph
  have hb := hnew_get h [.slice none 0 0, .int .u32 1] t_r20_Graph
  have hz := hnew_size h [.slice none 0 0, .int .u32 1] t_r20_Graph
  have h1 := g.lt _ g.wp
  have h2 := g.lt _ g.wm
  have g' := g.more (Q := (· = h.size)) k fun b hb => by omega
  have hW : ∀ b, Three gp gm h.size b ↔ (Two gp gm b ∨ b = h.size) := fun b => by simp [Three, Two, or_assoc]
  refine ⟨g'.less (fun b hb => (hW b).1 hb) (.inl rfl) (.inr (.inl rfl)), ⟨⟨⟨none, 0, 0⟩, _, [], hb, Sl.nil vf_ne, trivial, Nat.le_refl _⟩, .inr (.inr rfl), fun b hb => ?_⟩, by omega, by omega, Inv.nil⟩
  rcases hb with rfl | rfl | rfl <;> omega
theorem i64s {i n : Nat} (h : i < n) (hn : n ≤ 9223372036854775807) : IntKind.wrap .i64 ((i : Int) + 1) = ((i + 1 : Nat) : Int) := by
  rw [Go.IntWalk.i64_in _ (by omega)]; omega
theorem plays_ok {h : Heap} {s : SliceV} {acts : List Act4} (ha : ActsAt h s acts) : HC PG f_l20_GraphPlays [.slice s.a s.len s.cap] [.c .bool] (fun b h' => b = true ∧ Upd No h h') h := by
  refine H_l20_GraphPlays s ?_
  unfold F_l20_GraphPlays
  refine awake_ok fun h1 hu1 => condP_false.2 ?_
  refine begin_ok fun h2 gp gm hu2 hg1 hg2 g => ?_
  have b0 := begin_ref g
  have k3 := Upd.hnew No h2 [.slice none 0 0, .int .u32 1] t_r20_Graph
  simp only [At, newA_eq]
  generalize hnew h2 [.slice none 0 0, .int .u32 1] t_r20_Graph = h3 at b0 k3
  have hu03 := (hu1.tr hu2).tr k3
  have z1 := hu1.size
  have z2 := hu2.size
  have z3 := k3.size
  refine LoopP.ghost (fun (g : Nat × Vers × Int) (t : Int) h' => t = (g.1 : Int) ∧ g.1 ≤ acts.length ∧ Both (Three gp gm h2.size) h' gp gm h2.size g.2.1 g.2.2 ∧ Upd (Three gp gm h2.size) h3 h') (fun g => acts.length - g.1) (0, [], 1) ⟨rfl, Nat.zero_le _, b0, Upd.refl _ _⟩ ?_
  rintro I ⟨i, L, nx⟩ t h' ⟨ht, hi, b, hu⟩ hI
  simp only at ht hi b
  subst ht
  have hnw : ∀ x, Three gp gm h2.size x → h.size ≤ x := fun x hx => by rcases hx with rfl | rfl | rfl <;> omega
  have hall : Upd No h h' := hu03.trans hu fun x hx => .inr (hnw x hx)
  have ha' := ha.upd hall
  refine condP_dec (fun hlt => ?_) fun _ => ⟨rfl, hall⟩
  rw [ha.sl.len] at hlt
  have hlt : i < acts.length := by omega
  obtain ⟨a, haa, _, hv⟩ := ha'.sl.at (List.getElem?_eq_getElem hlt)
  obtain ⟨q1, q2, q3⟩ := setAct h' acts[i]
  refine ⟨by rw [ha.sl.len]; omega, a, haa, _, hv 0 _ rfl, _, hv 1 _ rfl, _, hv 2 _ rfl, _, hv 3 _ rfl, q1, ?_⟩
  rw [newA_eq] at q2 q3
  generalize hsetL (hnew h' [.int .u8 0, .int .u32 0, .slice none 0 0, .bool false] t_l20_Act) ⟨h'.size, 0, none⟩ _ = h4 at q2 q3
  refine condP_dec (fun _ => ⟨rfl, hall.tr q3⟩) fun h50 => ?_
  refine Join.intro (fun t h'' => t = false ∧ ∃ L' nx', Both (Three gp gm h2.size) h'' gp gm h2.size L' nx' ∧ Upd (Three gp gm h2.size) h3 h'') (fun R hR => ?_) ?_
  · refine ⟨_, by rw [adr_mk, hcell_blk q2]; rfl, _, by rw [adr_mk, hcell_blk q2]; rfl, _, by rw [adr_mk, hcell_blk q2]; rfl, _, by rw [adr_mk, hcell_blk q2]; rfl, ?_⟩
    refine doAct_ok (a := acts[i]) ?_ (b.upd0 q3) fun h5 L' nx' b5 hu5 => condP_false.2 ?_
    · have v := (ha'.all _ (List.getElem_mem hlt)).upd q3 fun _ h => h.elim
      obtain ⟨ps, p1, p2⟩ := (ha.all _ (List.getElem_mem hlt)).p
      exact ⟨v.do0, v.id0, ⟨ps, (p1.less fun x hx => .inr (hnw x hx)).upd (hall.tr q3) fun _ h => h.elim, p2⟩, v.cap⟩
    · refine like_ok b5 fun h6 hu6 => hR _ _ ⟨rfl, L', nx', b5.upd0 hu6, ((hu.tr q3.wide).tr hu5).tr hu6.wide⟩
  · rintro t h5 ⟨rfl, L', nx', b5, hu5⟩
    refine condP_false.2 ?_
    rw [i64s hlt ha.len]
    exact hI (i + 1, L', nx') _ _ ⟨rfl, hlt, b5, hu5⟩ (by simp only; omega)
end Go.Proofs
