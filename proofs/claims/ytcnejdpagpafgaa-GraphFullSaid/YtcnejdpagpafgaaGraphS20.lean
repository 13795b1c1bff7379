/- A part of the proof that the named laws of this program answer true, whatever the input. -/
import Derived.Test.YtcnejdpagpafgaaGraphS18
namespace Go.Proofs
open Go.Lift
theorem upNil {a b : Int} : ¬ Up [] a b := fun h => by have := h.left; simp at this
theorem nHas_ok {h : Heap} {id : Int} {K : Bool → Heap → Prop} (hk : K false h) : HC PG f_graph_Graph_Has [.pointer none, .int .u32 id] [.c .bool] K h := by
  refine H_graph_Graph_Has none id ?_
  unfold F_graph_Graph_Has
  exact condP_true.2 hk
/-- A graph that is not there: nothing is reached. -/
theorem nReach_ok {h : Heap} (a : Int)
    {K : Option Nat → Heap → Prop} (hk : ∀ r h' m, h.size ≤ r → MapAt KE iv h' r m → (∀ y, y ∈ m.map (·.1) ↔ Up [] a y) → (∀ y v, alook m y = some v → v = 1) → Upd No h h' → K (some r) h') :
    HC PG f_graph_Graph_reach [.pointer none, .slice (some (newA h)) 1 1] [.c .map] K (hnew h [.int .u32 a] t_u32) := by
  refine H_graph_Graph_reach none ⟨some (newA h), 1, 1⟩ ?_
  unfold F_graph_Graph_reach
  have k := Upd.hnew No h [.int .u32 a] t_u32
  have hb := hnew_get h [.int .u32 a] t_u32
  have hz := hnew_size h [.int .u32 a] t_u32
  simp only [At]
  generalize hnew h [.int .u32 a] t_u32 = h1 at k hb hz
  have k0 := Upd.push No h1 (.map #[] 0)
  have hb0 := k0.get0 hb
  refine LoopP.ghost (fun (n : Nat) (t : SliceV) h' => h' = h1.push (.map #[] 0) ∧ t.len = n ∧ (n ≠ 0 → t = ⟨some (newA h), 1, 1⟩)) (fun n => n) 1 ⟨rfl, rfl, fun _ => rfl⟩ ?_
  rintro I n t h' ⟨rfl, ht, h1t⟩ hI
  refine condP_dec (fun hpos => ?_) fun _ => ?_
  · obtain rfl := h1t (by omega)
    refine ⟨(by decide : (0 : Int) ≤ IntKind.wrap .i64 (((1 : Nat) : Int) - 1) ∧ IntKind.wrap .i64 (((1 : Nat) : Int) - 1) < ((1 : Nat) : Int)), _, rfl, a, ?_, (by decide : (0 : Int) ≤ IntKind.wrap .i64 (((1 : Nat) : Int) - 1) ∧ IntKind.wrap .i64 (((1 : Nat) : Int) - 1) ≤ ((1 : Nat) : Int)), ?_⟩
    · rw [newA_eq]
      show hcell _ ⟨h.size, 0 + ((1 : Nat) : Int).toNat - 1, none⟩ = _
      rw [hcell_blk hb0]; rfl
    · refine Join.plain (nHas_ok (condP_true.2 (condP_true.2 ?_)))
      refine hI 0 _ _ ⟨rfl, rfl, fun h => absurd rfl h⟩ ?_
      simp only at ht; omega
  · exact hk _ _ [] (by omega) (MapAt.new h1) (fun y => ⟨fun h => by simp at h, fun h => absurd h upNil⟩) (fun y v e => by simp [alook] at e) (k.tr k0)
theorem nLeads_ok {h : Heap} (a c : Int)
    {K : Bool → Heap → Prop} (hk : ∀ b h', (b = true ↔ Up [] a c) → Upd No h h' → K b h') :
    HC PG f_graph_Graph_Leads [.pointer none, .int .u32 a, .int .u32 c] [.c .bool] K h := by
  refine H_graph_Graph_Leads none a c ?_
  unfold F_graph_Graph_Leads
  refine nReach_ok a fun r h' m hr hm hy h1 hu => ⟨_, _, hm.get c 0, hk _ _ ?_ hu⟩
  rw [← hy c]
  cases hl : alook m c with
  | none => simp [alook_none.1 hl]
  | some v =>
    rw [h1 c v hl]
    simp only [Option.getD_some, gt_iff_lt, Int.zero_lt_one, decide_true, true_iff]
    exact List.mem_map.2 ⟨_, (alook_mem hm.nodup).1 hl, rfl⟩
theorem nMeet_ok {h : Heap} (a b : Int)
    {K : Int × Bool → Heap → Prop} (hk : ∀ best h', (∀ c, Up [] a c → Up [] b c → c ≤ best) → (best = 0 ∨ Up [] a best ∧ Up [] b best) → 0 ≤ best → Upd No h h' → K (best, decide (best > 0)) h') :
    HC PG f_graph_Graph_Meet [.pointer none, .int .u32 a, .int .u32 b] [.c (.int .u32), .c .bool] K h := by
  refine H_graph_Graph_Meet none a b ?_
  unfold F_graph_Graph_Meet
  refine nReach_ok a fun r1 h3 m1 hr1 hm1 hy1 ho1 hu1 => ?_
  refine nReach_ok b fun r2 h6 m2 hr2 hm2 hy2 ho2 hu2 => ?_
  have hm1' := hm1.upd hu2 id
  have k7 := Upd.hnew No h6 [.map none] t_M_u32_int
  have b7 := hnew_get h6 [.map none] t_M_u32_int
  refine ⟨by rw [newA_eq]; exact wr_blk b7 (by simp), ?_⟩
  have k8 : Upd (· = h6.size) (hnew h6 [.map none] t_M_u32_int) (hset (hnew h6 [.map none] t_M_u32_int) (newA h6) (.map (some r2))) := Upd.hset _ _ rfl
  have b8 : (hset (hnew h6 [.map none] t_M_u32_int) (newA h6) (.map (some r2)))[h6.size]? = some (.cells #[.map (some r2)] t_M_u32_int (0, 0)) := by
    rw [newA_eq, hset_blk b7, set_get b7]; rfl
  have k68 : Upd No h6 (hset (hnew h6 [.map none] t_M_u32_int) (newA h6) (.map (some r2))) := k7.trans k8 fun b hb => .inr (Nat.le_of_eq hb.symm)
  have l1 := hm1.lt
  have l2 := hm2.lt
  have l6 := hm1'.lt
  refine deleteFunc_ok (hm1'.upd k68 id) (fun k _ => decide ((alook m2 k).getD 0 = 0)) (fun h' k v K' hu hk1 hk' => ?_) fun h10 m' hu10 hm' hlook => ?_
  · refine HV.mk' (H_graph_Graph_Meet_1 k v ⟨h6.size, 0, none⟩ ?_)
    unfold F_graph_Graph_Meet_1
    have hm2' := (hm2.upd k68 id).upd hu (fun e => by omega)
    refine ⟨some r2, by rw [hcell_blk (hu.get b8 (by omega))]; rfl, _, _, hm2'.get k 0, ?_⟩
    have e : ((alook m2 k).getD 0 == (0 : Int)) = decide ((alook m2 k).getD 0 = 0) := by
      rw [Bool.eq_iff_iff, decide_eq_true_iff]; simp
    rw [e]
    exact hk' h' (Upd.refl _ _)
  · have hin : ∀ y, (∃ v, alook m' y = some v) ↔ Up [] a y ∧ Up [] b y := fun y => by
      rw [hlook y, ← hy1 y, ← hy2 y]
      cases e1 : alook m1 y with
      | none => simp [alook_none.1 e1]
      | some v =>
        have q1 : y ∈ m1.map (·.1) := List.mem_map.2 ⟨_, (alook_mem hm1.nodup).1 e1, rfl⟩
        cases e2 : alook m2 y with
        | none => simp [alook_none.1 e2, Option.filter]
        | some u =>
          have q2 : y ∈ m2.map (·.1) := List.mem_map.2 ⟨_, (alook_mem hm2.nodup).1 e2, rfl⟩
          have := ho2 y u e2
          subst this
          simp only [q1, q2, and_self, iff_true]
          exact ⟨v, rfl⟩
    have hall : Upd No h h10 := ((hu1.tr hu2).tr k68).trans hu10 fun b hb => .inr (by omega)
    obtain ⟨c, ⟨es, hes⟩, hi0⟩ := hm'.range
    refine ⟨c, .inr ⟨r1, es, rfl, hes⟩, ?_⟩
    refine LoopP.ghost (fun (todo : List (Int × Int)) (t : Int) h' => IterSt KE iv h' h10.size r1 m' todo ∧ Upd No h h' ∧ (∀ y v, alook m' y = some v → alook todo y = none → y ≤ t) ∧ (t = 0 ∨ ∃ v, alook m' t = some v) ∧ 0 ≤ t ∧
        (∀ y v, alook todo y = some v → alook m' y = some v)) (fun todo => todo.length) m' ⟨hi0, hall.tr (Upd.push _ _ _), fun y v e1 e2 => (by rw [e1] at e2; cases e2), .inl rfl, Int.le_refl _, fun _ _ e => e⟩ ?_
    rintro I todo t h' ⟨hi, hu, hle, hbest, h0, hsub⟩ hI
    have hnd := hi.nodup
    have hge : h.size ≤ h10.size := hall.size
    refine NextP.at (M := (· = h10.size)) hi rfl (fun he => ?_) fun k v hkv e h2 ek ev hit hi2 hu2 => ?_
    · subst he
      refine hk t h' (fun c q1 q2 => ?_) ?_ h0 hu
      · obtain ⟨v, hv⟩ := (hin c).2 ⟨q1, q2⟩
        exact hle c v hv rfl
      · exact hbest.imp id fun hb => (hin t).1 hb
    · have hlk : alook todo k = some v := (alook_mem hnd).2 hkv
      refine ⟨rfl, e, k, v, hit, ek, ev, hI (adel todo k) _ _ ⟨hi2, hu.trans hu2 fun b hb => .inr (by omega), fun y u e1 e2 => ?_, ?_, ?_, fun y u hy => ?_⟩ (adel_len hkv)⟩
      · rw [alook_del] at e2
        split at e2
        · rename_i hy; subst hy; split <;> omega
        · have := hle y u e1 e2; split <;> omega
      · split
        · exact .inr ⟨v, hsub k v hlk⟩
        · exact hbest
      · split <;> omega
      · rw [alook_del] at hy
        split at hy
        · cases hy
        · exact hsub y u hy
theorem nAbove_ok {h : Heap} (id : Int)
    {K : SliceV → Heap → Prop} (hk : ∀ s' h' xs, xs.Pairwise (· < ·) → (∀ y, y ∈ xs ↔ Up [] id y) → OwnS u32 1 t_u32 (fun b => h.size ≤ b) h' s' xs → Upd No h h' → K s' h') :
    HC PG f_graph_Graph_Above [.pointer none, .int .u32 id] [.c .slice] K h := by
  refine H_graph_Graph_Above none id ?_
  unfold F_graph_Graph_Above
  refine nReach_ok id fun r h1 m hr hm hy h1' hu => ?_
  refine keysI_ok hm fun fv h2 hg hu2 => ?_
  have hml : m.length ≤ 0 := by
    have := subset_len hm.nodup (l' := ([] : List Int)) fun y hy' => absurd ((hy y).1 hy') upNil
    simpa using this
  refine sorted_ok hg (by omega) (fun xs hx => by have := hx.length_eq; simp at this; omega) fun s' h3 xs ys hx ho hp hq hu3 => ?_
  have hpm := hp.trans hx
  exact hk s' h3 ys (sorted_rising hq (hpm.nodup_iff.2 hm.nodup)) (fun y => by rw [hpm.mem_iff, hy]) (ho.more fun b hb => Nat.le_trans (hu.tr hu2).size hb) ((hu.tr hu2).tr hu3)
theorem nAdd_ok {h : Heap} {s : SliceV} {K : Int × Int → Heap → Prop} (hk : K (0, 4) h) : HC PG f_graph_Graph_Add [.pointer none, .slice s.a s.len s.cap] [.c (.int .u32), .c (.int .i64)] K h := by
  refine H_graph_Graph_Add none s ?_
  unfold F_graph_Graph_Add
  exact condP_true.2 hk
theorem nPut_ok {h : Heap} {id : Int} {s : SliceV} {K : Int → Heap → Prop} (hk : ∀ h', Upd No h h' → K 4 h') : HC PG f_graph_Graph_Put [.pointer none, .int .u32 id, .slice s.a s.len s.cap] [.c (.int .i64)] K h := by
  refine H_graph_Graph_Put none id s ?_
  unfold F_graph_Graph_Put
  exact condP_true.2 (hk _ (Upd.hnew No h _ _))
theorem nDrop_ok {h : Heap} {s : SliceV} {K : SliceV → Heap → Prop} (hk : K ⟨none, 0, 0⟩ h) : HC PG f_graph_Graph_Drop [.pointer none, .slice s.a s.len s.cap] [.c .slice] K h := by
  refine H_graph_Graph_Drop none s ?_
  unfold F_graph_Graph_Drop
  exact condP_true.2 hk
theorem nIDs_ok {h : Heap} {K : SliceV → Heap → Prop} (hk : K ⟨none, 0, 0⟩ h) : HC PG f_graph_Graph_IDs [.pointer none] [.c .slice] K h := by
  refine H_graph_Graph_IDs none ?_
  unfold F_graph_Graph_IDs
  exact condP_true.2 hk
theorem nParents_ok {h : Heap} {id : Int} {K : SliceV → Heap → Prop} (hk : K ⟨none, 0, 0⟩ h) : HC PG f_graph_Graph_Parents [.pointer none, .int .u32 id] [.c .slice] K h := by
  refine H_graph_Graph_Parents none id ?_
  unfold F_graph_Graph_Parents
  exact condP_true.2 hk
theorem nLen_ok {h : Heap} {K : Int → Heap → Prop} (hk : K 0 h) : HC PG f_graph_Graph_Len [.pointer none] [.c (.int .i64)] K h := by
  refine H_graph_Graph_Len none ?_
  unfold F_graph_Graph_Len
  exact condP_true.2 hk
theorem nNext_ok {h : Heap} {K : Int → Heap → Prop} (hk : K 0 h) : HC PG f_graph_Graph_Next [.pointer none] [.c (.int .u32)] K h := by
  refine H_graph_Graph_Next none ?_
  unfold F_graph_Graph_Next
  exact condP_true.2 hk
theorem nSetNext_ok {h : Heap} {n : Int} {K : Bool → Heap → Prop} (hk : K false h) : HC PG f_graph_Graph_SetNext [.pointer none, .int .u32 n] [.c .bool] K h := by
  refine H_graph_Graph_SetNext none n ?_
  unfold F_graph_Graph_SetNext
  exact Join.plain (condP_true.2 (condP_true.2 hk))
theorem nCopy_ok {h : Heap} {K : Option Addr → Heap → Prop} (hk : K none h) : HC PG f_graph_Graph_Copy [.pointer none] [.c .ptr] K h := by
  refine H_graph_Graph_Copy none ?_
  unfold F_graph_Graph_Copy
  exact condP_true.2 hk
end Go.Proofs
