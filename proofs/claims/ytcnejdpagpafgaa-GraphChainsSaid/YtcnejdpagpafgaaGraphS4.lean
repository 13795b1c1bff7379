/- A part of the proof that the named laws of this program answer true, whatever the input. -/
import Derived.Test.YtcnejdpagpafgaaGraphS3
namespace Go.Proofs
open Go.Lift
theorem gPut_ok {W : Nat → Prop} {h : Heap} {gp gm : Nat} {L : Vers} {nx : Int} (g : GraphAt W h gp gm L nx) {id : Int} (hid : 0 ≤ id) {s : SliceV} {ps : List Int} (hs : Nums W h s ps) (hn : ps.length * 4 ≤ 140737488355328)
    {K : Int → Heap → Prop} (hk : ∀ h', Upd (Two gp gm) h h' → GraphAt W h' gp gm (putV L nx id ps).2.1 (putV L nx id ps).2.2 → K (putV L nx id ps).1 h') :
    HC PG f_graph_Graph_Put [.pointer (some ⟨gp, 0, none⟩), .int .u32 id, .slice s.a s.len s.cap] [.c (.int .i64)] K h := by
  refine H_graph_Graph_Put (some ⟨gp, 0, none⟩) id s ?_
  unfold F_graph_Graph_Put
  have hu0 := Upd.hnew No h [.int .u32 id] t_u32
  have g0 := g.upd0 hu0
  have hs0 : Nums W _ s ps := hs.upd hu0 fun _ h => h.elim
  have hb0 : (hnew h [.int .u32 id] t_u32)[h.size]? = some (.cells #[.int .u32 id] t_u32 (0, 0)) := hnew_get ..
  have hc : ∀ {h' : Heap}, Upd No (hnew h [.int .u32 id] t_u32) h' → hcell h' (newA h) = some (.int .u32 id) := fun k => by rw [newA_eq, hcell_blk (k.get0 hb0)]; rfl
  refine CondP.intro (fun e => by cases e) fun _ => gMay_ok hs0 ?_
  refine Join.intro (fun t h' => Upd No (hnew h [.int .u32 id] t_u32) h' ∧ t = decide (mayV ps ≠ 0 ∨ id = 0 ∨ id ≥ 2147483648 ∨ ps.any (fun p => decide (p ≥ id)) = true)) (fun R hR => ?_) ?_
  · refine CondP.intro (fun h1 => ?_) fun h1 => ?_
    · have h1 : mayV ps ≠ 0 := by simpa using h1
      exact hR _ _ ⟨Upd.refl _ _, (decide_eq_true (.inl h1)).symm⟩
    · have h1 : ¬ mayV ps ≠ 0 := by simpa using h1
      refine ⟨_, hc (Upd.refl _ _), CondP.intro (fun h2 => ?_) fun h2 => ?_⟩
      · have h2 : id = 0 := by simpa using h2
        exact hR _ _ ⟨Upd.refl _ _, (decide_eq_true (.inr (.inl h2))).symm⟩
      · have h2 : ¬ id = 0 := by simpa using h2
        refine ⟨_, hc (Upd.refl _ _), condP_dec (fun h3 => ?_) fun h3 => ?_⟩
        · exact hR _ _ ⟨Upd.refl _ _, (decide_eq_true (.inr (.inr (.inl h3)))).symm⟩
        · refine containsFunc_ok (p := fun p => decide (p ≥ id)) (fun h' => h' = hnew h [.int .u32 id] t_u32) (fun h' e => by rw [e]; exact hs0) ?_ (by omega) rfl fun h' e => ?_
          · rintro h' x K rfl _ hk'
            refine HV.mk' (H_graph_Graph_Put_1 x ⟨h.size, 0, none⟩ ?_)
            unfold F_graph_Graph_Put_1
            exact ⟨_, hc (Upd.refl _ _), hk' _ rfl⟩
          · subst e
            refine hR _ _ ⟨Upd.refl _ _, ?_⟩
            rw [Bool.eq_iff_iff, decide_eq_true_iff]
            simp [h1, h2, h3]
  · rintro t h' ⟨hu, rfl⟩
    refine condP_dec (fun h1 => ?_) fun h1 => ?_
    · rw [show putV L nx id ps = _ from if_pos h1] at hk
      exact hk h' (hu0.wide.tr hu.wide) (g0.upd0 hu)
    · have g1 := g0.upd0 hu
      have hs1 := hs0.upd hu fun _ h => h.elim
      refine ⟨_, hc hu, gHas_ok g1 id (condP_dec (fun h2 => ?_) fun h2 => ?_)⟩
      · rw [show putV L nx id ps = _ from (if_neg h1).trans (if_pos h2)] at hk
        exact hk h' (hu0.wide.tr hu.wide) g1
      · refine gFits_ok g1 hs1 (by omega) fun h2' hu2 => ?_
        have g2 := g1.upd0 hu2
        have hs2 := hs1.upd hu2 fun _ h => h.elim
        refine CondP.intro (fun h3 => ?_) fun h3 => ?_
        · have h3 : fitsV L ps ≠ 0 := by simpa using h3
          rw [show putV L nx id ps = _ from (if_neg h1).trans ((if_neg h2).trans (if_pos h3))] at hk
          exact hk _ ((hu0.wide.tr hu.wide).tr hu2.wide) g2
        · have h3 : ¬ fitsV L ps ≠ 0 := by simpa using h3
          refine ⟨_, rfl, _, g2.c0, _, hc (hu.tr hu2), clone_ok hs2 hn fun s' h3' ho hu3 _ => ?_⟩
          have g3 := g2.upd0 hu3
          obtain ⟨m, hm, hr⟩ := g3.map
          have hs3 : Nums W h3' s' ps := ho.sl fun b hb _ hw => absurd (g2.lt b hw) (Nat.not_lt.2 hb)
          obtain ⟨p1, p2, p3, p4, p5⟩ := g3.put hs3 h2 (if id + 1 > nx then id + 1 else nx)
          have hi : id < 2147483648 := by omega
          have hne : ¬ Two gp gm h.size := fun e => e.elim (fun e => absurd (g.lt _ (e ▸ g.wp)) (Nat.lt_irrefl _)) fun e => absurd (g.lt _ (e ▸ g.wm)) (Nat.lt_irrefl _)
          have hb3 := ((hu.tr hu2).tr hu3).get0 hb0
          have hb4 := p5.get hb3 hne
          refine ⟨by rw [newA_eq, hcell_blk hb3]; rfl, g3.c0, _, rfl, hm.isMap, _, rfl, _, p4, id, by rw [newA_eq, hcell_blk hb4]; rfl, _, rfl, p3, ?_⟩
          rw [show IntKind.wrap .u32 (id + 1) = id + 1 from Go.IntWalk.u32_in _ (by omega)]
          rw [show putV L nx id ps = _ from (if_neg h1).trans ((if_neg h2).trans (if_neg h3))] at hk
          exact hk _ ((((hu0.wide.tr hu.wide).tr hu2.wide).tr hu3.wide).tr p2) p1
theorem gSetNext_ok {W : Nat → Prop} {h : Heap} {gp gm : Nat} {L : Vers} {nx : Int} (g : GraphAt W h gp gm L nx) (n : Int)
    {K : Bool → Heap → Prop} (hk : ∀ h', Upd (Two gp gm) h h' → GraphAt W h' gp gm L (if n < nx ∨ n > 2147483648 then nx else n) → K (!decide (n < nx ∨ n > 2147483648)) h') :
    HC PG f_graph_Graph_SetNext [.pointer (some ⟨gp, 0, none⟩), .int .u32 n] [.c .bool] K h := by
  refine H_graph_Graph_SetNext (some ⟨gp, 0, none⟩) n ?_
  unfold F_graph_Graph_SetNext
  refine Join.intro (fun t h' => h' = h ∧ t = decide (n < nx ∨ n > 2147483648)) (fun R hR => ?_) ?_
  · refine CondP.intro (fun e => by cases e) fun _ => ⟨_, rfl, _, g.c1, condP_dec (fun h1 => ?_) fun h1 => ?_⟩
    · exact hR _ _ ⟨rfl, (decide_eq_true (.inl h1)).symm⟩
    · refine hR _ _ ⟨rfl, ?_⟩
      rw [Bool.eq_iff_iff, decide_eq_true_iff, decide_eq_true_iff]
      simp [h1]
  · rintro t h' ⟨rfl, rfl⟩
    refine condP_dec (fun h1 => ?_) fun h1 => ?_
    · rw [if_pos h1, decide_eq_true h1] at hk
      exact hk h' (Upd.refl _ _) g
    · rw [if_neg h1, decide_eq_false h1] at hk
      refine ⟨_, rfl, wr_blk g.blk (by simp), ?_⟩
      have k : Upd (· = gp) h' (hset h' ⟨gp, 1, none⟩ (.int .u32 n)) := Upd.hset _ _ rfl
      obtain ⟨m, hm, hr⟩ := g.map
      refine hk _ (k.mono fun b hb => .inl (.inl hb)) ⟨?_, ⟨m, hm.upd k g.ne, hr.upd k fun b hb => .inl (hb ▸ g.wp)⟩, g.wp, g.wm, fun b hb => Nat.lt_of_lt_of_le (g.lt b hb) k.size, g.nd⟩
      show (hset h' ⟨gp, 0 + 1, none⟩ _)[gp]? = _
      rw [hset_blk g.blk, set_get g.blk]
      rfl
theorem gParents_ok {W : Nat → Prop} {h : Heap} {gp gm : Nat} {L : Vers} {nx : Int} (g : GraphAt W h gp gm L nx) (id : Int) (hn : ∀ v ∈ L, v.2.length * 4 ≤ 140737488355328)
    {K : SliceV → Heap → Prop} (hk : ∀ s' h', OwnS u32 1 t_u32 (fun b => h.size ≤ b) h' s' ((alook L id).getD []) → Upd No h h' → K s' h') :
    HC PG f_graph_Graph_Parents [.pointer (some ⟨gp, 0, none⟩), .int .u32 id] [.c .slice] K h := by
  refine H_graph_Graph_Parents (some ⟨gp, 0, none⟩) id ?_
  unfold F_graph_Graph_Parents
  obtain ⟨m, hm, hr⟩ := g.map
  refine CondP.intro (fun e => by cases e) fun _ => ⟨_, rfl, _, g.c0, _, _, hm.get id ⟨none, 0, 0⟩, ?_⟩
  rcases hr id with ⟨s, ps, h1, h2, h3⟩ | ⟨h1, h2⟩
  · rw [h1]
    rw [h2] at hk
    exact clone_ok h3 (hn _ ((alook_mem g.nd).1 h2)) fun s' h' ho hu _ => hk s' h' ho hu
  · rw [h1]
    rw [h2] at hk
    exact clone_ok (W := No) (xs := []) (Sl.nil u32_ne) (by simp) fun s' h' ho hu _ => hk s' h' ho hu
theorem gNew_ok {h : Heap} {K : Option Addr → Heap → Prop} (hk : ∀ h', Upd No h h' → GraphAt (Two (h.size + 1) h.size) h' (h.size + 1) h.size [] 1 → K (some ⟨h.size + 1, 0, none⟩) h') :
    HC PG f_graph_New [] [.c .ptr] K h := by
  refine H_graph_New ?_
  unfold F_graph_New
  have k1 := Upd.push No h (.map #[] 0)
  have hm : MapAt KE sv (h.push (.map #[] 0)) h.size [] := MapAt.new h
  have k2 := Upd.hnew No (h.push (.map #[] 0)) [.map (some h.size), .int .u32 1] t_graph_Graph
  have hsz : (h.push (.map #[] 0)).size = h.size + 1 := by simp
  have := hk _ (k1.tr k2) ⟨by
    have := hnew_get (h.push (.map #[] 0)) [.map (some h.size), .int .u32 1] t_graph_Graph
    rw [hsz] at this; exact this, ⟨[], hm.upd k2 id, fun id => .inr ⟨rfl, rfl⟩⟩, .inl rfl, .inr rfl, fun b hb => by rw [hnew_size, hsz]; rcases hb with rfl | rfl <;> omega, List.nodup_nil⟩
  rw [← hsz] at this
  exact this
end Go.Proofs
