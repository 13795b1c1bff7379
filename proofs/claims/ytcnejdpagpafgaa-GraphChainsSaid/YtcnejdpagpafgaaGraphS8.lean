/- A part of the proof that the named laws of this program answer true, whatever the input. -/
import Derived.Test.YtcnejdpagpafgaaGraphS7
namespace Go.Proofs
open Go.Lift
abbrev iv (n : Int) : Value := .int .i64 n
theorem single {M : Nat → Prop} (h : Heap) (x : Int) (hM : M h.size) : OwnS u32 1 t_u32 M (hnew h [.int .u32 x] t_u32) ⟨some (newA h), 1, 1⟩ [x] :=
  ⟨rfl, u32_ne, Nat.le_refl _, .inr ⟨h.size, [], rfl, hM, hnew_get .., rfl⟩⟩
/-- What the laws ask of the versions. -/
structure Small (L : Vers) : Prop where
  two : ∀ v ∈ L, v.2.length ≤ 2
  len : L.length ≤ 100000
theorem gReach1_ok {W : Nat → Prop} {h : Heap} {gp gm : Nat} {L : Vers} {nx : Int} (g : GraphAt W h gp gm L nx) (hs : Small L) (a : Int)
    {K : Option Nat → Heap → Prop} (hk : ∀ r h' m, h.size ≤ r → MapAt KE iv h' r m → (∀ y, y ∈ m.map (·.1) ↔ Up L a y) → (∀ y v, alook m y = some v → v = 1) → Upd No h h' → K (some r) h') :
    HC PG f_graph_Graph_reach [.pointer (some ⟨gp, 0, none⟩), .slice (some (newA h)) 1 1] [.c .map] K (hnew h [.int .u32 a] t_u32) := by
  have k := Upd.hnew No h [.int .u32 a] t_u32
  have g1 := g.more (Q := (· = h.size)) k fun b hb => by rw [hnew_size]; omega
  have hne : ∀ b, W b → b ≠ h.size := fun b hb e => absurd (g.lt b hb) (by omega)
  refine gReach_ok (Q := (· = h.size)) g1 (fun b hb => ⟨.inr hb, fun e => hne _ g.wp (e ▸ hb), fun e => hne _ g.wm (e ▸ hb)⟩) hs.two hs.len (s := ⟨some (newA h), 1, 1⟩) (single h a (.inl rfl)) (by simp) fun r h' m hr hm hy h1 hu => ?_
  refine hk r h' m (by rw [hnew_size] at hr; omega) hm (fun y => (hy y).trans ?_) h1 (k.trans hu fun b hb => .inr (Nat.le_of_eq hb.symm))
  simp
theorem gLeads_ok {W : Nat → Prop} {h : Heap} {gp gm : Nat} {L : Vers} {nx : Int} (g : GraphAt W h gp gm L nx) (hs : Small L) (a c : Int)
    {K : Bool → Heap → Prop} (hk : ∀ b h', (b = true ↔ Up L a c) → Upd No h h' → K b h') :
    HC PG f_graph_Graph_Leads [.pointer (some ⟨gp, 0, none⟩), .int .u32 a, .int .u32 c] [.c .bool] K h := by
  refine H_graph_Graph_Leads (some ⟨gp, 0, none⟩) a c ?_
  unfold F_graph_Graph_Leads
  refine gReach1_ok g hs a fun r h' m hr hm hy h1 hu => ⟨_, _, hm.get c 0, hk _ _ ?_ hu⟩
  rw [← hy c]
  cases hl : alook m c with
  | none => simp [alook_none.1 hl]
  | some v =>
    rw [h1 c v hl]
    simp only [Option.getD_some, gt_iff_lt, Int.zero_lt_one, decide_true, true_iff]
    exact List.mem_map.2 ⟨_, (alook_mem hm.nodup).1 hl, rfl⟩
theorem adel_len {κ β : Type} [DecidableEq κ] {l : List (κ × β)} {k : κ} {v : β} (hm : (k, v) ∈ l) : (adel l k).length < l.length := by
  unfold adel
  exact List.length_filter_lt_length_iff_exists.2 ⟨_, hm, by simp⟩
/-- maps.DeleteFunc. -/
theorem deleteFunc_ok {h : Heap} {r : Nat} {m : List (Int × Int)} (hm : MapAt KE iv h r m) {fv : Value} (p : Int → Int → Bool)
    (hf : ∀ h' k v (K : Bool → Heap → Prop), Upd (· = r) h h' → alook m k = some v → (∀ h2, Upd No h' h2 → K (p k v) h2) → HV PG fv [.int .u32 k, .int .i64 v] [.c .bool] K h')
    {K : Unit → Heap → Prop} (hk : ∀ h' m', Upd (· = r) h h' → MapAt KE iv h' r m' → (∀ y, alook m' y = (alook m y).filter fun v => !p y v) → K () h') :
    HC PG f_maps_DeleteFunc_M_u32_int_u32_int [.map (some r), fv] [] K h := by
  refine H_maps_DeleteFunc_M_u32_int_u32_int (some r) fv ?_
  unfold F_maps_DeleteFunc_M_u32_int_u32_int
  obtain ⟨c, ⟨es, hes⟩, hi0⟩ := hm.range
  refine ⟨c, .inr ⟨r, es, rfl, hes⟩, ?_⟩
  refine LoopP.ghost (fun (gh : List (Int × Int) × List (Int × Int)) (_ : Unit) h' => IterSt KE iv h' h.size r gh.1 gh.2 ∧ Upd (· = r) h h' ∧ (∀ y v, alook gh.2 y = some v → alook m y = some v) ∧
      (∀ y, alook gh.1 y = if (alook gh.2 y).isSome then alook m y else (alook m y).filter fun v => !p y v)) (fun gh => gh.2.length) (m, m) ⟨hi0, (Upd.push _ h _), fun _ _ e => e, fun y => ?_⟩ ?_
  · cases alook m y <;> simp
  · rintro I ⟨m1, todo⟩ ⟨⟩ h' ⟨hi, hu, ht, hinv⟩ hI
    simp only at hi ht hinv
    have hnd := hi.nodup
    refine NextP.at (M := (· = h.size)) hi rfl (fun he => ?_) fun k v hkv e h2 ek ev hit hi2 hu2 => ?_
    · subst he
      refine hk h' m1 hu hi.at fun y => ?_
      rw [hinv y]; rfl
    · refine ⟨rfl, e, k, v, hit, ek, ev, ?_⟩
      have hu3 : Upd (· = r) h h2 := hu.trans hu2 fun b hb => .inr (Nat.le_of_eq hb.symm)
      have hlk : alook todo k = some v := (alook_mem hnd).2 hkv
      have hlm := ht k v hlk
      refine hf h2 k v _ hu3 hlm fun h3 hu4 => ?_
      have hi3 := hi2.upd hu4 id id
      have hu5 := hu3.tr hu4.wide
      refine CondP.intro (fun hp => ?_) fun hp => ?_
      · refine .inr ⟨r, rfl, hi3.at.isMap, ?_⟩
        have hi6 := hi3.del k
        refine hI (adel m1 k, adel (adel todo k) k) () _ ⟨hi6, hu5.tr (upd_mdrop _ _ rfl), fun y v' hy => ?_, fun y => ?_⟩ ?_
        · simp only [alook_del] at hy
          split at hy
          · cases hy
          · exact ht y v' hy
        · simp only [alook_del]
          by_cases hy : y = k
          · subst hy; rw [if_pos rfl, if_pos rfl, hlm]; simp [Option.filter, hp]
          · simp only [hy, if_false]; exact hinv y
        · show (adel (adel todo k) k).length < todo.length
          exact Nat.lt_of_le_of_lt (List.length_filter_le ..) (adel_len hkv)
      · refine hI (m1, adel todo k) () _ ⟨hi3, hu5, fun y v' hy => ?_, fun y => ?_⟩ (adel_len hkv)
        · simp only [alook_del] at hy
          split at hy
          · cases hy
          · exact ht y v' hy
        · simp only [alook_del]
          by_cases hy : y = k
          · subst hy; rw [if_pos rfl, hinv y, hlk, hlm]; simp [Option.filter, hp]
          · simp only [hy, if_false]; exact hinv y
theorem gMeet_ok {W : Nat → Prop} {h : Heap} {gp gm : Nat} {L : Vers} {nx : Int} (g : GraphAt W h gp gm L nx) (hs : Small L) (a b : Int)
    {K : Int × Bool → Heap → Prop} (hk : ∀ best h', (∀ c, Up L a c → Up L b c → c ≤ best) → (best = 0 ∨ Up L a best ∧ Up L b best) → 0 ≤ best → Upd No h h' → K (best, decide (best > 0)) h') :
    HC PG f_graph_Graph_Meet [.pointer (some ⟨gp, 0, none⟩), .int .u32 a, .int .u32 b] [.c (.int .u32), .c .bool] K h := by
  refine H_graph_Graph_Meet (some ⟨gp, 0, none⟩) a b ?_
  unfold F_graph_Graph_Meet
  refine gReach1_ok g hs a fun r1 h3 m1 hr1 hm1 hy1 ho1 hu1 => ?_
  have g3 := g.upd0 hu1
  refine gReach1_ok g3 hs b fun r2 h6 m2 hr2 hm2 hy2 ho2 hu2 => ?_
  have hm1' := hm1.upd hu2 id
  have k7 := Upd.hnew No h6 [.map none] t_M_u32_int
  have b7 := hnew_get h6 [.map none] t_M_u32_int
  refine ⟨by rw [newA_eq]; exact wr_blk b7 (by simp), ?_⟩
  have k8 : Upd (· = h6.size) (hnew h6 [.map none] t_M_u32_int) (hset (hnew h6 [.map none] t_M_u32_int) (newA h6) (.map (some r2))) := Upd.hset _ _ rfl
  have b8 : (hset (hnew h6 [.map none] t_M_u32_int) (newA h6) (.map (some r2)))[h6.size]? = some (.cells #[.map (some r2)] t_M_u32_int (0, 0)) := by
    rw [newA_eq, hset_blk b7, set_get b7]; rfl
  have k68 : Upd No h6 (hset (hnew h6 [.map none] t_M_u32_int) (newA h6) (.map (some r2))) := k7.trans k8 fun b hb => .inr (Nat.le_of_eq hb.symm)
  have l1 := hm1.lt
  have l2 := hm2.lt
  have l6 := hm1'.lt
  refine deleteFunc_ok (hm1'.upd k68 id) (fun k _ => decide ((alook m2 k).getD 0 = 0)) (fun h' k v K' hu hk1 hk' => ?_) fun h10 m' hu10 hm' hlook => ?_
  · refine HV.mk' (H_graph_Graph_Meet_1 k v ⟨h6.size, 0, none⟩ ?_)
    unfold F_graph_Graph_Meet_1
    have hm2' := (hm2.upd k68 id).upd hu (fun e => by omega)
    refine ⟨some r2, by rw [hcell_blk (hu.get b8 (by omega))]; rfl, _, _, hm2'.get k 0, ?_⟩
    have e : ((alook m2 k).getD 0 == (0 : Int)) = decide ((alook m2 k).getD 0 = 0) := by
      rw [Bool.eq_iff_iff, decide_eq_true_iff]; simp
    rw [e]
    exact hk' h' (Upd.refl _ _)
  · have hin : ∀ y, (∃ v, alook m' y = some v) ↔ Up L a y ∧ Up L b y := fun y => by
      rw [hlook y, ← hy1 y, ← hy2 y]
      cases e1 : alook m1 y with
      | none => simp [alook_none.1 e1]
      | some v =>
        have q1 : y ∈ m1.map (·.1) := List.mem_map.2 ⟨_, (alook_mem hm1.nodup).1 e1, rfl⟩
        cases e2 : alook m2 y with
        | none => simp [alook_none.1 e2, Option.filter]
        | some u =>
          have q2 : y ∈ m2.map (·.1) := List.mem_map.2 ⟨_, (alook_mem hm2.nodup).1 e2, rfl⟩
          have := ho2 y u e2
          subst this
          simp only [q1, q2, and_self, iff_true]
          exact ⟨v, rfl⟩
    have hall : Upd No h h10 := ((hu1.tr hu2).tr k68).trans hu10 fun b hb => .inr (by omega)
    obtain ⟨c, ⟨es, hes⟩, hi0⟩ := hm'.range
    refine ⟨c, .inr ⟨r1, es, rfl, hes⟩, ?_⟩
    refine LoopP.ghost (fun (todo : List (Int × Int)) (t : Int) h' => IterSt KE iv h' h10.size r1 m' todo ∧ Upd No h h' ∧ (∀ y v, alook m' y = some v → alook todo y = none → y ≤ t) ∧ (t = 0 ∨ ∃ v, alook m' t = some v) ∧ 0 ≤ t ∧
        (∀ y v, alook todo y = some v → alook m' y = some v)) (fun todo => todo.length) m' ⟨hi0, hall.tr (Upd.push _ _ _), fun y v e1 e2 => (by rw [e1] at e2; cases e2), .inl rfl, Int.le_refl _, fun _ _ e => e⟩ ?_
    rintro I todo t h' ⟨hi, hu, hle, hbest, h0, hsub⟩ hI
    have hnd := hi.nodup
    have hge : h.size ≤ h10.size := hall.size
    refine NextP.at (M := (· = h10.size)) hi rfl (fun he => ?_) fun k v hkv e h2 ek ev hit hi2 hu2 => ?_
    · subst he
      refine hk t h' (fun c q1 q2 => ?_) ?_ h0 hu
      · obtain ⟨v, hv⟩ := (hin c).2 ⟨q1, q2⟩
        exact hle c v hv rfl
      · exact hbest.imp id fun hb => (hin t).1 hb
    · have hlk : alook todo k = some v := (alook_mem hnd).2 hkv
      refine ⟨rfl, e, k, v, hit, ek, ev, hI (adel todo k) _ _ ⟨hi2, hu.trans hu2 fun b hb => .inr (by omega), fun y u e1 e2 => ?_, ?_, ?_, fun y u hy => ?_⟩ (adel_len hkv)⟩
      · rw [alook_del] at e2
        split at e2
        · rename_i hy; subst hy; split <;> omega
        · have := hle y u e1 e2; split <;> omega
      · split
        · exact .inr ⟨v, hsub k v hlk⟩
        · exact hbest
      · split <;> omega
      · rw [alook_del] at hy
        split at hy
        · cases hy
        · exact hsub y u hy
end Go.Proofs
