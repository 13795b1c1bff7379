/- A part of the proof that the named laws of this program answer true, whatever the input. -/
import Derived.Test.YtcnejdpagpafgaaGraphSort6
namespace Go.Proofs
open Go.Lift
theorem sorted_rising : ∀ {ys : List Int}, ys.Pairwise (· ≤ ·) → ys.Nodup → ys.Pairwise (· < ·)
  | [], _, _ => List.Pairwise.nil
  | y :: ys, h, n => by
    rw [List.pairwise_cons] at h
    rw [List.nodup_cons] at n
    exact List.pairwise_cons.2 ⟨fun z hz => by have := h.1 z hz; have : y ≠ z := fun e => n.1 (e ▸ hz); omega, sorted_rising h.2 n.2⟩
theorem Rep.keys {W : Nat → Prop} {h : Heap} {m : List (Int × SliceV)} {L : Vers} (r : Rep W h m L) (id : Int) : id ∈ m.map (·.1) ↔ id ∈ ids L := by
  have := r.some id
  have h3 : id ∈ m.map (·.1) ↔ (alook m id).isSome = true := by
    cases hl : alook m id with
    | none => simp [alook_none.1 hl]
    | some v =>
      simp only [Option.isSome_some, iff_true]
      by_cases hm : id ∈ m.map (·.1)
      · exact hm
      · rw [alook_none.2 hm] at hl; cases hl
  rw [h3, this, decide_eq_true_iff]
theorem gIDs_ok {W : Nat → Prop} {h : Heap} {gp gm : Nat} {L : Vers} {nx : Int} (g : GraphAt W h gp gm L nx) (hup : (ids L).Pairwise (· < ·)) (hL : L.length ≤ 100000)
    {K : SliceV → Heap → Prop} (hk : ∀ s' h', OwnS u32 1 t_u32 (fun b => h.size ≤ b) h' s' (ids L) → Upd No h h' → K s' h') : HC PG f_graph_Graph_IDs [.pointer (some ⟨gp, 0, none⟩)] [.c .slice] K h := by
  refine H_graph_Graph_IDs (some ⟨gp, 0, none⟩) ?_
  unfold F_graph_Graph_IDs
  obtain ⟨m, hm, hr⟩ := g.map
  have hlen := hr.len hm.nodup g.nd
  refine CondP.intro (fun e => by cases e) fun _ => ⟨_, rfl, _, g.c0, ?_⟩
  refine keysS_ok hm fun fv h1 hg hu1 => ?_
  refine sorted_ok hg (by omega) (fun xs hx => by have := hx.length_eq; simp at this; omega) fun s' h2 xs ys hx ho hp hq hu2 => ?_
  have hpm := hp.trans hx
  have e : ys = ids L := rising_ext (sorted_rising hq (hpm.nodup_iff.2 hm.nodup)) hup fun y => by rw [hpm.mem_iff, hr.keys]
  subst e
  exact hk s' h2 (ho.more fun b hb => Nat.le_trans hu1.size hb) (hu1.tr hu2)
theorem gAbove_ok {W : Nat → Prop} {h : Heap} {gp gm : Nat} {L : Vers} {nx : Int} (g : GraphAt W h gp gm L nx) (hs : Small L) (id : Int)
    {K : SliceV → Heap → Prop} (hk : ∀ s' h' xs, xs.Pairwise (· < ·) → (∀ y, y ∈ xs ↔ Up L id y) → OwnS u32 1 t_u32 (fun b => h.size ≤ b) h' s' xs → Upd No h h' → K s' h') :
    HC PG f_graph_Graph_Above [.pointer (some ⟨gp, 0, none⟩), .int .u32 id] [.c .slice] K h := by
  refine H_graph_Graph_Above (some ⟨gp, 0, none⟩) id ?_
  unfold F_graph_Graph_Above
  refine gReach1_ok g hs id fun r h1 m hr hm hy h1' hu => ?_
  refine keysI_ok hm fun fv h2 hg hu2 => ?_
  have hml : m.length ≤ L.length := by
    have := subset_len hm.nodup (l' := ids L) fun y hy' => ((hy y).1 hy').right
    simpa using this
  have hLl := hs.len
  refine sorted_ok hg (by omega) (fun xs hx => by have := hx.length_eq; simp at this; omega) fun s' h3 xs ys hx ho hp hq hu3 => ?_
  have hpm := hp.trans hx
  exact hk s' h3 ys (sorted_rising hq (hpm.nodup_iff.2 hm.nodup)) (fun y => by rw [hpm.mem_iff, hy]) (ho.more fun b hb => Nat.le_trans (hu.tr hu2).size hb) ((hu.tr hu2).tr hu3)
/-- What the map has, as a function. -/
def RepF (W : Nat → Prop) (h : Heap) (m : List (Int × SliceV)) (F : Int → Option (List Int)) : Prop :=
  ∀ id, (∃ s ps, alook m id = some s ∧ F id = some ps ∧ Nums W h s ps) ∨ (alook m id = none ∧ F id = none)
theorem alook_filter (p : Int → Bool) : ∀ (L : Vers) (j : Int), alook (L.filter fun v => p v.1) j = if p j then alook L j else none
  | [], j => by simp [alook]
  | v :: L, j => by
    rw [List.filter_cons]
    by_cases h : p v.1 = true
    · rw [if_pos h]
      simp only [alook]
      rw [alook_filter p L j]
      by_cases e : j = v.1
      · subst e; simp [h]
      · simp [e]
    · rw [if_neg h, alook_filter p L j]
      simp only [alook]
      by_cases e : j = v.1
      · subst e; simp [h]
      · simp [e]
theorem gDrop_ok {W : Nat → Prop} {h : Heap} {gp gm : Nat} {L : Vers} {nx : Int} (g : GraphAt W h gp gm L nx) (gd : Good L) {s : SliceV} {keep : List Int} (hs : Nums W h s keep) (hn : keep.length ≤ 1000)
    {K : SliceV → Heap → Prop} (hk : ∀ s' h' (st : List Int), (∀ y, y ∈ st ↔ ∃ k ∈ keep, Up L k y) → OwnS u32 1 t_u32 (fun b => h.size ≤ b) h' s' ((ids L).filter fun y => !decide (y ∈ st)) → GraphAt W h' gp gm (L.filter fun v => decide (v.1 ∈ st)) nx → Upd (Two gp gm) h h' → K s' h') :
    HC PG f_graph_Graph_Drop [.pointer (some ⟨gp, 0, none⟩), .slice s.a s.len s.cap] [.c .slice] K h := by
  refine H_graph_Graph_Drop (some ⟨gp, 0, none⟩) s ?_
  unfold F_graph_Graph_Drop
  have hLl := gd.len
  refine CondP.intro (fun e => by cases e) fun _ => ?_
  refine clone_ok hs (by omega) fun s1 h1 ho1 hu1 _ => ?_
  have hgt : ∀ b, W b → b < h.size := g.lt
  have g1' := g.more (Q := fun b => h.size ≤ b ∧ b < h1.size) hu1 fun b hb => hb
  have z1 := hu1.size
  refine gReach_ok (Q := fun b => h.size ≤ b ∧ b < h1.size) g1' (fun b hb => ⟨.inr hb, fun e => by have := hgt _ g.wp; omega, fun e => by have := hgt _ g.wm; omega⟩) gd.two gd.len (ho1.more fun b hb => by omega) (by omega) fun r h2 m hr hm hy hv hu2 => ?_
  have hu02 : Upd No h h2 := hu1.trans hu2 fun b hb => .inr hb.1
  have g2 := g.upd0 hu02
  refine gIDs_ok g2 gd.up hLl fun s3 h3 ho3 hu3 => ?_
  have hu03 := hu02.tr hu3
  have g3 := g2.upd0 hu3
  have hm3 := hm.upd hu3 id
  have hrW : ¬ W r := fun e => by have := hgt _ e; omega
  have hr2 := hm.lt
  obtain ⟨st, hst⟩ : ∃ st : List Int, st = m.map (·.1) := ⟨_, rfl⟩
  have hyst : ∀ y, y ∈ st ↔ ∃ k ∈ keep, Up L k y := fun y => by rw [hst]; exact hy y
  have hzero : ∀ y, ((alook m y).getD 0 == (0 : Int)) = !decide (y ∈ st) := fun y => by
    cases hl : alook m y with
    | none => simp [hst, alook_none.1 hl]
    | some v =>
      have := hv y v hl
      subst this
      have : y ∈ st := by rw [hst]; exact List.mem_map.2 ⟨_, (alook_mem hm.nodup).1 hl, rfl⟩
      simp [this]
  have hids : Nums (Two gp gm) h3 s3 (ids L) := ho3.sl fun b hb _ hw => by
    have := hgt _ g.wp; have := hgt _ g.wm
    rcases hw with rfl | rfl <;> omega
  have hidl : (ids L).length = L.length := by simp
  have hsz2 := hu3.size
  have hsz1 := hu02.size
  have hp3 := hgt _ g.wp
  have hm3' := hgt _ g.wm
  refine LoopP.ghost (fun (i : Nat) (t : SliceV × Int) h' => t.2 = (i : Int) ∧ i ≤ L.length ∧ Upd (Two gp gm) h3 h' ∧ OwnS u32 1 t_u32 (fun b => h3.size ≤ b) h' t.1 (((ids L).take i).filter fun y => !decide (y ∈ st)) ∧
      h'[gp]? = some (.cells #[.map (some gm), .int .u32 nx] t_graph_Graph (0, 0)) ∧ ∃ m', MapAt KE sv h' gm m' ∧ RepF (fun b => W b ∨ h3.size ≤ b) h' m' (fun j => if j ∈ (ids L).take i ∧ j ∉ st then none else alook L j)) (fun i => L.length - i) 0
    ⟨rfl, Nat.zero_le _, Upd.refl _ _, OwnS.nil u32_ne, g3.blk, by
      obtain ⟨m', h4, h5⟩ := g3.map
      exact ⟨m', h4, fun j => by
        rcases h5 j with ⟨s4, ps, q1, q2, q3⟩ | q
        · exact .inl ⟨s4, ps, q1, by simpa using q2, q3.less fun b hb => hb⟩
        · exact .inr (by simpa using q)⟩⟩ ?_
  rintro I i ⟨out, t⟩ h' ⟨ht, hi, hu, ho, hb, m', hm', hr'⟩ hI
  simp only at ht ho
  subst ht
  have hz' := hu.size
  refine condP_dec (fun hlt => ?_) fun hge => ?_
  · have hlt : (i : Int) < (s3.len : Int) := hlt
    rw [ho3.len, hidl] at hlt
    have hlt : i < L.length := by omega
    have hlt' : i < (ids L).length := by omega
    obtain ⟨a1, ha1, _, hx⟩ := Nums.at (hids.upd hu fun b hb => .inl hb) hlt'
    have hmr := (hm3.upd hu (fun e => by rcases e with e | e <;> omega)).get (ids L)[i] 0
    refine Join.plain ⟨by show (0 : Int) ≤ (i : Int) ∧ (i : Int) < (s3.len : Int); rw [ho3.len, hidl]; omega, a1, ha1, _, hx, _, _, hmr, ?_⟩
    rw [hzero]
    have htk : (ids L).take (i + 1) = (ids L).take i ++ [(ids L)[i]] := List.take_succ_eq_append_getElem hlt'
    refine CondP.intro (fun hc => ?_) fun hc => ?_
    · have hns : (ids L)[i] ∉ st := by simpa using hc
      refine Join.plain ⟨_, rfl, _, by rw [show adr ⟨gp, 0, none⟩ 0 = ⟨gp, 0, none⟩ from rfl, hcell_blk hb]; rfl, .inr ⟨gm, rfl, hm'.isMap, ?_⟩⟩
      have hmd : MapAt KE sv (mdrop h' gm (.int .u32 (ids L)[i])) gm (adel m' (ids L)[i]) := hm'.del (ids L)[i]
      have hud : Upd (· = gm) h' (mdrop h' gm (.int .u32 (ids L)[i])) := upd_mdrop _ _ rfl
      have hod := ho.upd hud fun b hb e => by omega
      have hbd : (mdrop h' gm (.int .u32 (ids L)[i]))[gp]? = some (.cells #[.map (some gm), .int .u32 nx] t_graph_Graph (0, 0)) := hud.get hb (fun e => g.ne e.symm)
      have hrd : RepF (fun b => W b ∨ h3.size ≤ b) (mdrop h' gm (.int .u32 (ids L)[i])) (adel m' (ids L)[i]) (fun j => if j ∈ (ids L).take (i + 1) ∧ j ∉ st then none else alook L j) := fun j => by
        rw [alook_del]
        by_cases e : j = (ids L)[i]
        · right
          rw [if_pos e]
          refine ⟨rfl, ?_⟩
          simp only
          rw [if_pos ⟨by rw [htk, e]; exact List.mem_append_right _ (List.mem_singleton.2 rfl), by rw [e]; exact hns⟩]
        · rw [if_neg e]
          have : (j ∈ (ids L).take (i + 1) ∧ j ∉ st) ↔ (j ∈ (ids L).take i ∧ j ∉ st) := by
            rw [htk, List.mem_append, List.mem_singleton]
            exact ⟨fun h => ⟨h.1.resolve_right e, h.2⟩, fun h => ⟨.inl h.1, h.2⟩⟩
          simp only [this]
          rcases hr' j with ⟨s4, ps, q1, q2, q3⟩ | q
          · exact .inl ⟨s4, ps, q1, q2, q3.upd hud fun b hb => .inl (.inl (hb ▸ g.wm))⟩
          · exact .inr q
      have hzd := hud.size
      generalize mdrop h' gm (.int .u32 (ids L)[i]) = h4 at hmd hud hod hbd hrd hzd
      refine append1 (M := fun b => h3.size ≤ b) hod (fun b hb => by omega) ?_ fun s' h5 ho5 hu5 => ?_
      · have := List.length_filter_le (fun y => !decide (y ∈ st)) ((ids L).take i); simp at this; omega
      · simp only
        rw [wrap_succ hlt (by omega)]
        refine hI (i + 1) _ _ ⟨rfl, hlt, (hu.tr (hud.mono fun b hb => .inl (.inr hb))).trans hu5 fun b hb => .inr hb, ?_, hu5.get hbd (Nat.not_le.2 (by omega)), _, hmd.upd hu5 (Nat.not_le.2 (by omega)), ?_⟩ (by omega)
        · rw [htk, List.filter_append, List.filter_cons, if_pos (by simpa using hns)]
          exact ho5
        · intro j
          rcases hrd j with ⟨s4, ps, q1, q2, q3⟩ | q
          · exact .inl ⟨s4, ps, q1, q2, q3.upd hu5 fun b hb => .inl (.inr hb)⟩
          · exact .inr q
    · have hns : (ids L)[i] ∈ st := by simpa using hc
      simp only
      rw [wrap_succ hlt (by omega)]
      refine hI (i + 1) _ _ ⟨rfl, hlt, hu, ?_, hb, m', hm', fun j => ?_⟩ (by omega)
      · rw [htk, List.filter_append, List.filter_cons, if_neg (by simpa using hns)]
        simpa using ho
      · have : (j ∈ (ids L).take (i + 1) ∧ j ∉ st) ↔ (j ∈ (ids L).take i ∧ j ∉ st) := by
          rw [htk]
          simp only [List.mem_append, List.mem_singleton]
          constructor
          · rintro ⟨h1 | h1, h2⟩
            · exact ⟨h1, h2⟩
            · rw [h1] at h2; exact absurd hns h2
          · exact fun h => ⟨.inl h.1, h.2⟩
        simp only [this]
        exact hr' j
  · have hge : ¬ (i : Int) < (s3.len : Int) := hge
    rw [ho3.len, hidl] at hge
    have : i = L.length := by omega
    rw [List.take_of_length_le (by omega)] at ho
    refine hk out h' st hyst (ho.more fun b hb => by omega) ⟨hb, ⟨m', hm', fun j => ?_⟩, g.wp, g.wm, fun b hb => Nat.lt_of_lt_of_le (hgt b hb) (by omega), ?_⟩ ((hu03.wide).tr hu)
    · rw [alook_filter (fun y => decide (y ∈ st))]
      have hj := hr' j
      rw [List.take_of_length_le (by omega)] at hj
      by_cases e : j ∈ st
      · simp only [e, not_true_eq_false, and_false, if_false] at hj
        simp only [e, decide_true, if_true]
        rcases hj with ⟨s4, ps, q1, q2, q3⟩ | q
        · exact .inl ⟨s4, ps, q1, q2, q3.less fun b hb => .inl (.inl hb)⟩
        · exact .inr q
      · right
        rcases hj with ⟨s4, ps, q1, q2, q3⟩ | ⟨q1, q2⟩
        · by_cases e2 : j ∈ ids L
          · simp [e, e2] at q2
          · simp only [e2, false_and, if_false] at q2
            rw [alook_none.2 e2] at q2; cases q2
        · exact ⟨q1, by simp [e]⟩
    · exact g.nd.sublist ((List.filter_sublist).map _)
theorem mapsClone_ok {h : Heap} {r : Nat} {es : Array MapEntry} {clock : Nat} (t : TypeId) (hr : h[r]? = some (.map es clock)) {K : Value → Heap → Prop} (hk : K (.iface t (.map (some h.size))) (h.push (.map es clock))) :
    HC PG f_maps_clone [.iface t (.map (some r))] [.c .raw] K h := by
  refine ⟨fun w hw => .inr ?_⟩
  subst hw
  have hg : (getObj r).run PG w = .ok (.map es clock) w := by simp [getObj, Sem.run, hr]
  refine ⟨.iface t (.map (some w.heap.size)), w.alloc (.map es clock), ?_, ⟨rfl, rfl, rfl⟩, _, rfl, hk⟩
  rw [X_maps_clone]
  have e : Extern.MapsClone.clone #[.iface t (.map (some r))] = (getObj r >>= fun o => match o with
      | .map entries clock => (newObj (.map entries clock) >>= fun n => pure (.iface t (.map (some n))))
      | _ => stuck "maps.clone: a map expected") := rfl
  rw [show ([Value.iface t (.map (some r))] : List Value).toArray = #[.iface t (.map (some r))] from rfl, e]
  simp only [Sem.run_bind, hg, Result.andThen_ok]
  rfl
theorem gCopy_ok {W : Nat → Prop} {h : Heap} {gp gm : Nat} {L : Vers} {nx : Int} (g : GraphAt W h gp gm L nx)
    {K : Option Addr → Heap → Prop} (hk : ∀ h', Upd No h h' → GraphAt (fun b => W b ∨ b = h.size + 1 ∨ b = h.size) h' gp gm L nx → GraphAt (fun b => W b ∨ b = h.size + 1 ∨ b = h.size) h' (h.size + 1) h.size L nx → K (some ⟨h.size + 1, 0, none⟩) h') :
    HC PG f_graph_Graph_Copy [.pointer (some ⟨gp, 0, none⟩)] [.c .ptr] K h := by
  refine H_graph_Graph_Copy (some ⟨gp, 0, none⟩) ?_
  unfold F_graph_Graph_Copy
  refine CondP.intro (fun e => by cases e) fun _ => ⟨_, rfl, _, g.c0, _, rfl, _, g.c1, ?_⟩
  refine H_maps_Clone_M_u32_A_u32_u32_A_u32 (some gm) ?_
  unfold F_maps_Clone_M_u32_A_u32_u32_A_u32
  refine CondP.intro (fun e => by cases e) fun _ => ?_
  obtain ⟨m, ⟨ms, clock, hm, hp⟩, hr⟩ := g.map
  refine mapsClone_ok _ hm.here ⟨_, rfl, ?_⟩
  have k1 := Upd.push No h (.map (ms.map (mkE KE sv)).toArray clock)
  have hnw : MapAt KE sv (h.push (.map (ms.map (mkE KE sv)).toArray clock)) h.size m := ⟨ms, clock, ⟨push_get h _, hm.keys, hm.nums, hm.old⟩, hp⟩
  refine ⟨(g.upd0 k1).c1, ?_⟩
  have hsz : (h.push (.map (ms.map (mkE KE sv)).toArray clock)).size = h.size + 1 := by simp
  generalize (h.push (.map (ms.map (mkE KE sv)).toArray clock)) = h1 at k1 hnw hsz
  have k2 := Upd.hnew No h1 [.map (some h.size), .int .u32 nx] t_graph_Graph
  have b2 := hnew_get h1 [.map (some h.size), .int .u32 nx] t_graph_Graph
  have z2 := hnew_size h1 [.map (some h.size), .int .u32 nx] t_graph_Graph
  simp only [At, newA_eq]
  rw [hsz] at b2 ⊢
  generalize hnew h1 [.map (some h.size), .int .u32 nx] t_graph_Graph = h2 at k2 b2 z2
  have k := k1.tr k2
  have hQ : ∀ b, (b = h.size + 1 ∨ b = h.size) → h.size ≤ b ∧ b < h2.size := fun b hb => by omega
  have g' := g.more (Q := fun b => b = h.size + 1 ∨ b = h.size) k hQ
  refine hk h2 k g' ⟨b2, ⟨m, hnw.upd k2 id, ?_⟩, .inr (.inl rfl), .inr (.inr rfl), g'.lt, g.nd⟩
  intro j
  rcases hr j with ⟨s, ps, q1, q2, q3⟩ | q
  · exact .inl ⟨s, ps, q1, q2, (q3.less fun b hb => hb.imp id fun hb => (hQ b hb).1).upd k fun _ h => h.elim⟩
  · exact .inr q
theorem isSorted_ok {W : Nat → Prop} {h : Heap} {s : SliceV} {xs : List Int} (hs : Nums W h s xs) (hn : xs.length ≤ 1000000000) (hup : xs.Pairwise (· < ·)) {K : Bool → Heap → Prop} (hk : K true h) :
    HC PG f_slices_IsSorted_A_u32_u32 [.slice s.a s.len s.cap] [.c .bool] K h := by
  refine H_slices_IsSorted_A_u32_u32 s ?_
  unfold F_slices_IsSorted_A_u32_u32
  refine LoopP.ghost (fun (i : Nat) (t : Int) h' => t = (i : Int) - 1 ∧ h' = h ∧ i ≤ xs.length) (fun i => i) xs.length ⟨by rw [hs.len, w64 (by omega)], rfl, Nat.le_refl _⟩ ?_
  rintro I i t h' ⟨rfl, rfl, hi⟩ hI
  refine condP_dec (fun hgt => ?_) fun _ => hk
  obtain ⟨i, rfl⟩ : ∃ k, i = k + 2 := ⟨i - 2, by omega⟩
  have e1 : ((i + 2 : Nat) : Int) - 1 = ((i + 1 : Nat) : Int) := by omega
  have e2 : IntKind.wrap .i64 (((i + 1 : Nat) : Int) - 1) = (i : Int) := by rw [w64 (by omega)]; omega
  rw [e1, e2]
  obtain ⟨a, ha, _, hx⟩ := Nums.at hs (i := i + 1) (by omega)
  obtain ⟨a', ha', _, hx'⟩ := Nums.at hs (i := i) (by omega)
  refine ⟨by rw [hs.len]; omega, a, ha, _, hx, by rw [hs.len]; omega, a', ha', _, hx', less_ok ?_⟩
  have := List.pairwise_iff_getElem.1 hup i (i + 1) (by omega) (by omega) (by omega)
  rw [decide_eq_false (by omega)]
  exact condP_false.2 (hI (i + 1) _ _ ⟨by omega, rfl, by omega⟩ (by omega))
end Go.Proofs
