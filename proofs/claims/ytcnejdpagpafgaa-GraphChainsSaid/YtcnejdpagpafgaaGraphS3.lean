/- A part of the proof that the named laws of this program answer true, whatever the input. -/
import Derived.Test.YtcnejdpagpafgaaGraphS2
namespace Go.Proofs
open Go.Lift
def insV (L : Vers) (id : Int) (ps : List Int) : Vers := L.takeWhile (fun v => decide (v.1 < id)) ++ (id, ps) :: L.dropWhile (fun v => decide (v.1 < id))
def addV (L : Vers) (nx : Int) (ps : List Int) : (Int × Int) × Vers × Int :=
  if mayV ps ≠ 0 then ((0, mayV ps), L, nx) else if fitsV L ps ≠ 0 then ((0, fitsV L ps), L, nx) else if nx ≥ 2147483648 then ((0, 6), L, nx) else ((nx, 0), insV L nx ps, nx + 1)
def putV (L : Vers) (nx : Int) (id : Int) (ps : List Int) : Int × Vers × Int :=
  if mayV ps ≠ 0 ∨ id = 0 ∨ id ≥ 2147483648 ∨ ps.any (fun p => decide (p ≥ id)) = true then (1, L, nx) else if id ∈ ids L then (7, L, nx) else if fitsV L ps ≠ 0 then (fitsV L ps, L, nx) else (0, insV L id ps, if id + 1 > nx then id + 1 else nx)
abbrev Two (a b : Nat) : Nat → Prop := fun x => x = a ∨ x = b
theorem alook_app {κ β : Type} [DecidableEq κ] (l l' : List (κ × β)) (k : κ) : alook (l ++ l') k = (alook l k).or (alook l' k) := by
  induction l with
  | nil => simp [alook]
  | cons p l ih =>
    obtain ⟨k', u⟩ := p
    simp only [List.cons_append, alook, ih]
    split <;> simp
theorem insV_look {L : Vers} {id : Int} {ps : List Int} (hn : id ∉ ids L) (j : Int) : alook (insV L id ps) j = if j = id then some ps else alook L j := by
  have h1 : ∀ p : Int × List Int → Bool, alook L j = (alook (L.takeWhile p) j).or (alook (L.dropWhile p) j) := fun p => by rw [← alook_app, List.takeWhile_append_dropWhile]
  unfold insV
  rw [alook_app]
  simp only [alook]
  by_cases hj : j = id
  · subst hj
    have : alook (L.takeWhile fun v => decide (v.1 < j)) j = none := alook_none.2 fun hm => hn (by
      obtain ⟨x, hx, e⟩ := List.mem_map.1 hm
      exact List.mem_map.2 ⟨x, List.takeWhile_subset _ hx, e⟩)
    rw [this]; simp
  · simp only [hj, if_false]
    exact (h1 _).symm
theorem insV_perm (L : Vers) (id : Int) (ps : List Int) : (insV L id ps).Perm ((id, ps) :: L) := by
  unfold insV
  refine List.perm_middle.trans ?_
  rw [List.takeWhile_append_dropWhile]
theorem insV_ids {L : Vers} {id : Int} {ps : List Int} : (ids (insV L id ps)).Perm (id :: ids L) := (insV_perm L id ps).map _
theorem insV_nodup {L : Vers} {id : Int} {ps : List Int} (h : (ids L).Nodup) (hn : id ∉ ids L) : (ids (insV L id ps)).Nodup := by
  rw [insV_ids.nodup_iff]
  exact List.nodup_cons.2 ⟨hn, h⟩
theorem Rep.put {W : Nat → Prop} {h h' : Heap} {m : List (Int × SliceV)} {L : Vers} (r : Rep W h m L) {id : Int} {s : SliceV} {ps : List Int} (hu : ∀ s xs, Nums W h s xs → Nums W h' s xs) (hs : Nums W h' s ps) (hn : id ∉ ids L) : Rep W h' (aput m id s) (insV L id ps) := fun j => by
  rw [alook_put, insV_look hn]
  by_cases hj : j = id
  · simp only [hj, if_true]; exact .inl ⟨s, ps, rfl, rfl, hs⟩
  · simp only [hj, if_false]
    rcases r j with ⟨s, ps, h1, h2, h3⟩ | h0
    · exact .inl ⟨s, ps, h1, h2, hu s ps h3⟩
    · exact .inr h0
theorem GraphAt.ne {W : Nat → Prop} {h : Heap} {gp gm : Nat} {L : Vers} {nx : Int} (g : GraphAt W h gp gm L nx) : gm ≠ gp := fun e => by
  obtain ⟨m, ⟨ms, c, hm, _⟩, _⟩ := g.map
  have := hm.here
  rw [e, g.blk] at this; cases this
/-- A version comes into the map; the next id is written. -/
theorem GraphAt.put {W : Nat → Prop} {h : Heap} {gp gm : Nat} {L : Vers} {nx : Int} (g : GraphAt W h gp gm L nx) {id : Int} {s : SliceV} {ps : List Int} (hs : Nums W h s ps) (hn : id ∉ ids L) (n' : Int) :
    GraphAt W (hset (mput h gm (.int .u32 id) (sv s)) ⟨gp, 1, none⟩ (.int .u32 n')) gp gm (insV L id ps) n' ∧ Upd (Two gp gm) h (hset (mput h gm (.int .u32 id) (sv s)) ⟨gp, 1, none⟩ (.int .u32 n')) ∧
      Wr (mput h gm (.int .u32 id) (sv s)) ⟨gp, 1, none⟩ ∧ hcell (mput h gm (.int .u32 id) (sv s)) ⟨gp, 1, none⟩ = some (.int .u32 nx) ∧ Upd (Two gp gm) h (mput h gm (.int .u32 id) (sv s)) := by
  obtain ⟨m, hm, hr⟩ := g.map
  have hne := g.ne
  have k1 : Upd (· = gm) h (mput h gm (.int .u32 id) (sv s)) := upd_mput h _ _ rfl
  have hb1 := k1.get g.blk (Ne.symm hne)
  have k2 : Upd (· = gp) (mput h gm (.int .u32 id) (sv s)) (hset (mput h gm (.int .u32 id) (sv s)) ⟨gp, 1, none⟩ (.int .u32 n')) := Upd.hset _ _ rfl
  have k1' : Upd (Two gp gm) h (mput h gm (.int .u32 id) (sv s)) := k1.mono fun b hb => .inl (.inr hb)
  have k : Upd (Two gp gm) h (hset (mput h gm (.int .u32 id) (sv s)) ⟨gp, 1, none⟩ (.int .u32 n')) := k1'.trans k2 fun b hb => .inl (.inl hb)
  have hsub : ∀ b, Two gp gm b → W b ∨ h.size ≤ b := fun b hb => .inl (hb.elim (fun e => e ▸ g.wp) fun e => e ▸ g.wm)
  refine ⟨⟨?_, ⟨_, (MapAt.put hm id s).upd k2 hne, hr.put (fun s xs hs => hs.upd k hsub) (hs.upd k hsub) hn⟩, g.wp, g.wm, fun b hb => Nat.lt_of_lt_of_le (g.lt b hb) k.size, insV_nodup g.nd hn⟩, k, wr_blk hb1 (by simp), by rw [hcell_blk hb1]; rfl, k1'⟩
  rw [hset_blk hb1, set_get hb1]
  rfl
theorem gAdd_ok {W : Nat → Prop} {h : Heap} {gp gm : Nat} {L : Vers} {nx : Int} (g : GraphAt W h gp gm L nx) (hnx : 0 ≤ nx) (hfr : nx ∉ ids L) {s : SliceV} {ps : List Int} (hs : Nums W h s ps) (hn : ps.length * 4 ≤ 140737488355328)
    {K : Int × Int → Heap → Prop} (hk : ∀ h', Upd (Two gp gm) h h' → GraphAt W h' gp gm (addV L nx ps).2.1 (addV L nx ps).2.2 → K (addV L nx ps).1 h') :
    HC PG f_graph_Graph_Add [.pointer (some ⟨gp, 0, none⟩), .slice s.a s.len s.cap] [.c (.int .u32), .c (.int .i64)] K h := by
  refine H_graph_Graph_Add (some ⟨gp, 0, none⟩) s ?_
  unfold F_graph_Graph_Add
  refine CondP.intro (fun e => by cases e) fun _ => gMay_ok hs ?_
  refine CondP.intro (fun h1 => ?_) fun h1 => ?_
  · have h1 : mayV ps ≠ 0 := by simpa using h1
    rw [show addV L nx ps = _ from if_pos h1] at hk
    exact hk h (Upd.refl _ _) g
  · have h1 : ¬ mayV ps ≠ 0 := by simpa using h1
    refine gFits_ok g hs (by omega) fun h' hu => ?_
    refine CondP.intro (fun h2 => ?_) fun h2 => ?_
    · have h2 : fitsV L ps ≠ 0 := by simpa using h2
      rw [show addV L nx ps = _ from (if_neg h1).trans (if_pos h2)] at hk
      exact hk h' hu.wide (g.upd0 hu)
    · have h2 : ¬ fitsV L ps ≠ 0 := by simpa using h2
      have g1 := g.upd0 hu
      have hs1 := hs.upd hu fun _ h => h.elim
      refine ⟨_, rfl, _, g1.c1, condP_dec (fun h3 => ?_) fun h3 => ?_⟩
      · rw [show addV L nx ps = _ from (if_neg h1).trans ((if_neg h2).trans (if_pos h3))] at hk
        exact hk h' hu.wide g1
      · refine ⟨_, rfl, _, g1.c1, _, rfl, _, g1.c0, clone_ok hs1 hn fun s' h2' ho hu2 _ => ?_⟩
        have g2 := g1.upd0 hu2
        obtain ⟨m, hm, hr⟩ := g2.map
        have hs2 : Nums W h2' s' ps := ho.sl fun b hb _ hw => absurd (g1.lt b hw) (Nat.not_lt.2 hb)
        obtain ⟨p1, p2, p3, p4, _⟩ := g2.put hs2 hfr (nx + 1)
        refine ⟨g2.c0, _, rfl, hm.isMap, _, rfl, _, p4, _, rfl, p3, ?_⟩
        rw [show IntKind.wrap .u32 (nx + 1) = nx + 1 from Go.IntWalk.u32_in _ (by omega)]
        rw [show addV L nx ps = _ from (if_neg h1).trans ((if_neg h2).trans (if_neg h3))] at hk
        exact hk _ ((hu.wide.tr hu2.wide).tr p2) p1
end Go.Proofs
