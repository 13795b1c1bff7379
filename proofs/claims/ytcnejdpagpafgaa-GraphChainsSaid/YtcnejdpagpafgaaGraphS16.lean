/- A part of the proof that the named laws of this program answer true, whatever the input. -/
import Derived.Test.YtcnejdpagpafgaaGraphS15
namespace Go.Proofs
open Go.Lift
variable {W : Nat → Prop} {h : Heap} {gp gm xp : Nat} {L : Vers} {nx : Int}
theorem like_ok (b : Both W h gp gm xp L nx) {K : Bool → Heap → Prop} (hk : ∀ h', Upd No h h' → K true h') :
    HC PG f_l20_like [.pointer (some ⟨gp, 0, none⟩), .pointer (some ⟨xp, 0, none⟩)] [.c .bool] K h := by
  refine H_l20_like (some ⟨gp, 0, none⟩) (some ⟨xp, 0, none⟩) ?_
  unfold F_l20_like
  have hfew := b.inv.few
  have hgood := b.inv.good
  obtain ⟨sx, tx, Ls, hb, hl, hpar, hcapx⟩ := b.x.blk
  have hll := hl.len
  have hpl := hpar.len
  have hgt := b.g.lt
  have hwp := hgt _ b.g.wp
  have hsmall : ∀ v ∈ L, v.2.length * 4 ≤ 140737488355328 := fun v hv => by have := hgood.two v hv; omega
  refine ⟨_, rfl, sx, by rw [show adr ⟨xp, 0, none⟩ 0 = ⟨xp, 0, none⟩ from rfl, hcell_blk hb]; rfl, ?_⟩
  refine LoopP.ghost (fun (i : Nat) (t : SliceV × Int) h' => t.2 = (i : Int) ∧ i ≤ L.length ∧ Upd No h h' ∧ OwnS u32 1 t_u32 (fun b => h.size ≤ b) h' t.1 ((ids L).take i)) (fun i => L.length - i) 0
    ⟨rfl, Nat.zero_le _, Upd.refl _ _, OwnS.nil u32_ne⟩ ?_
  rintro I i ⟨so, t⟩ h1 ⟨ht, hi, hu, ho⟩ hI
  simp only at ht ho
  subst ht
  have bb := b.upd0 hu
  refine condP_dec (fun hlt => ?_) fun hge => ?_
  · have hlt : (i : Int) < (sx.len : Int) := hlt
    have hi' : i < Ls.length := by omega
    have hiL : i < L.length := by omega
    obtain ⟨a, ha, c0, c1⟩ := verVar (hl.upd hu fun _ h => h.elim) hi'
    obtain ⟨e1, e2⟩ := hpar.get hi' hiL
    obtain ⟨q1, q2, q3⟩ := setVar h1 t_r20_Version (.int .u32 0) (.slice none 0 0) Ls[i]
    refine ⟨by show (0 : Int) ≤ (i : Int) ∧ (i : Int) < (sx.len : Int); omega, a, ha, _, c0, _, c1, q1, ?_⟩
    simp only [At]
    have hzz := get_lt q2
    generalize hsetL (hnew h1 [.int .u32 0, .slice none 0 0] t_r20_Version) (newA h1) 0 [.int .u32 Ls[i].1, .slice Ls[i].2.a Ls[i].2.len Ls[i].2.cap] = h2 at q2 q3 hzz
    have hu2 := hu.tr q3
    refine Join.intro (fun s' h' => Upd (fun b => h.size ≤ b ∧ b ≠ h1.size) h2 h' ∧ OwnS u32 1 t_u32 (fun b => h.size ≤ b ∧ b ≠ h1.size) h' s' ((ids L).take (i + 1))) (fun R hR => ⟨_, hcell_newA q2 0, ?_⟩) ?_
    · have ho2 : OwnS u32 1 t_u32 (fun b => (h.size ≤ b ∧ b ≠ h1.size)) h2 so ((ids L).take i) := by
        have := ho.within.upd q3 fun _ _ h => h
        refine this.more fun b hb => ⟨hb.1, by omega⟩
      refine append1 ho2 (fun b hb => ⟨by have := hu2.size; omega, by omega⟩) (by simp; omega) fun s' h3 ho3 hu3 => hR _ _ ⟨hu3, ?_⟩
      rw [List.take_succ_eq_append_getElem (by simpa using hiL), List.getElem_map, ← e1]
      exact ho3
    · rintro s' h3 ⟨hu3, ho3⟩
      have b3 := hu3.get q2 fun e => e.2 rfl
      have hu03 : Upd No h h3 := hu2.trans hu3 fun b hb => .inr hb.1
      have hz1 := hu.size
      have bb3 := b.upd0 hu03
      have hin : Ls[i].1 ∈ ids L := by rw [e1]; exact List.mem_map.2 ⟨_, List.getElem_mem hiL, rfl⟩
      refine Join.intro (fun t h' => t = false ∧ Upd No h3 h') (fun R hR => ?_) ?_
      · refine ⟨_, hcell_newA b3 0, gHas_ok bb3.g _ ?_⟩
        rw [decide_eq_true hin]
        refine condP_false.2 ⟨_, hcell_newA b3 0, _, hcell_newA b3 1, gParents_ok bb3.g _ hsmall fun s4 h4 ho4 hu4 => ⟨hcell_newA (hu4.get0 b3) 1, ?_⟩⟩
        have hpv : (alook L Ls[i].1).getD [] = L[i].2 := by rw [e1]; exact parV_at hgood.nd hiL
        rw [hpv] at ho4
        refine equal_ok (ho4.sl (W := W) fun b' hb' _ hw => by have := hgt b' hw; have := hu03.size; omega) (e2.upd (hu03.tr hu4) fun _ h => h.elim) (by have := hgood.two _ (List.getElem_mem hiL); omega) ?_
        rw [decide_eq_true rfl]
        exact hR _ _ ⟨rfl, hu4⟩
      · rintro t h4 ⟨rfl, hu4⟩
        refine condP_false.2 ?_
        rw [wrap_succ hiL (by omega)]
        exact hI (i + 1) _ _ ⟨rfl, hiL, hu03.tr hu4, (ho3.more fun b hb => hb.1).upd hu4 fun _ _ h => h⟩ (by omega)
  · have hge : ¬ (i : Int) < (sx.len : Int) := hge
    have hiL : i = L.length := by omega
    rw [List.take_of_length_le (by simp; omega)] at ho
    have hidl : (ids L).length = L.length := by simp
    refine gIDs_ok bb.g hgood.up (by omega) fun s2 h2 ho2 hu2 => ?_
    refine equal_ok (ho2.sl (W := No) fun _ _ _ h => h) ((ho.upd hu2 fun _ _ h => h).sl (W := No) fun _ _ _ h => h) (by omega) ?_
    rw [decide_eq_true rfl]
    refine condP_true.2 ?_
    have bb2 := bb.upd0 hu2
    have c1 : ∀ h', Upd No h h' → hcell h' (adr ⟨xp, 0, none⟩ 1) = some (.int .u32 nx) := fun h' k => by rw [adr_mk, hcell_blk (k.get0 hb)]; rfl
    have hu02 := hu.tr hu2
    refine gLen_ok bb2.g ?_
    have hsl : so.len = L.length := by rw [ho.len, hidl]
    rw [show ((L.length : Int) == (so.len : Int)) = true by rw [hsl]; simp]
    refine condP_true.2 ⟨_, rfl, nx, c1 _ hu02, gNext_ok bb2.g ⟨c1 _ hu02, ?_⟩⟩
    rw [show (nx == nx) = true by simp]
    have h0 : (0 : Int) ∉ ids L := fun hm => by have := (b.inv.pos 0 hm).1; omega
    refine condP_true.2 (gHas_ok bb2.g 0 ⟨c1 _ hu02, ?_⟩)
    rw [decide_eq_false h0]
    refine condP_true.2 (gParents_ok bb2.g 0 hsmall fun s3 h3 ho3 hu3 => ⟨c1 _ (hu02.tr hu3), ?_⟩)
    rw [alook_none.2 h0] at ho3
    rw [show ((s3.len : Int) == 0) = true by rw [ho3.len]; rfl]
    exact hk h3 (hu02.tr hu3)
/-! ### The document's example -/
theorem up_iff {L : Vers} {a c : Int} : Up L a c ↔ a ∈ ids L ∧ (a = c ∨ ∃ p ∈ parV L a, Up L p c) := by
  constructor
  · intro h
    cases h with
    | refl h => exact ⟨h, .inl rfl⟩
    | step h1 h2 h3 => exact ⟨h1, .inr ⟨_, h2, h3⟩⟩
  · rintro ⟨h1, rfl | ⟨p, h2, h3⟩⟩
    · exact .refl h1
    · exact .step h1 h2 h3
theorem addV_val {L : Vers} {nx : Int} {ps : List Int} (h1 : mayV ps = 0) (h2 : fitsV L ps = 0) (h3 : nx < 2147483648) : addV L nx ps = ((nx, 0), insV L nx ps, nx + 1) := by
  unfold addV
  rw [if_neg (by rw [h1]; decide), if_neg (by rw [h2]; decide), if_neg (by omega)]
abbrev exL : Vers := [(1, []), (2, [1]), (3, [1]), (4, [2, 3])]
theorem awake_ok {h : Heap} {K : Bool → Heap → Prop} (hk : ∀ h', Upd No h h' → K true h') : HC PG f_l20_awake [] [.c .bool] K h := by
  refine H_l20_awake ?_
  unfold F_l20_awake
  refine gNew_ok fun h1 hu1 g1 => ?_
  have hz1 := hu1.size
  have glt := g1.lt
  have k2 := Upd.hnew No h1 [.int .u32 1] t_u32
  have b2 := hnew_get h1 [.int .u32 1] t_u32
  have k3 := Upd.hnew No (hnew h1 [.int .u32 1] t_u32) [.int .u32 1] t_u32
  have b3 := hnew_get (hnew h1 [.int .u32 1] t_u32) [.int .u32 1] t_u32
  have k4 := Upd.hnew No (hnew (hnew h1 [.int .u32 1] t_u32) [.int .u32 1] t_u32) [.int .u32 2, .int .u32 3] t_u32
  have b4 := hnew_get (hnew (hnew h1 [.int .u32 1] t_u32) [.int .u32 1] t_u32) [.int .u32 2, .int .u32 3] t_u32
  have z2 := hnew_size h1 [.int .u32 1] t_u32
  have z3 := hnew_size (hnew h1 [.int .u32 1] t_u32) [.int .u32 1] t_u32
  simp only [At, newA_eq]
  generalize hnew (hnew (hnew h1 [.int .u32 1] t_u32) [.int .u32 1] t_u32) [.int .u32 2, .int .u32 3] t_u32 = h4 at k4 b4
  generalize hnew (hnew h1 [.int .u32 1] t_u32) [.int .u32 1] t_u32 = h3 at k3 b3 k4 b4 z3
  generalize hnew h1 [.int .u32 1] t_u32 = h2 at k2 b2 k3 b3 z2 z3
  have s0 : Nums (Two (h.size + 1) h.size) h4 ⟨none, 0, 0⟩ [] := Sl.nil u32_ne
  have hne : ∀ {x : Nat}, h1.size ≤ x → ¬ Two (h.size + 1) h.size x := fun hx e => by
    have := glt _ g1.wp; have := glt _ g1.wm
    rcases e with e | e <;> omega
  have s1 : Nums (Two (h.size + 1) h.size) h4 ⟨some ⟨h1.size, 0, none⟩, 1, 1⟩ [1] := ⟨rfl, u32_ne, fun _ => ⟨_, rfl, hne (Nat.le_refl _), row_blk (k4.get0 (k3.get0 b2)) fun i v hv => by simpa using hv⟩⟩
  have s2 : Nums (Two (h.size + 1) h.size) h4 ⟨some ⟨h2.size, 0, none⟩, 1, 1⟩ [1] := ⟨rfl, u32_ne, fun _ => ⟨_, rfl, hne k2.size, row_blk (k4.get0 b3) fun i v hv => by simpa using hv⟩⟩
  have s3 : Nums (Two (h.size + 1) h.size) h4 ⟨some ⟨h3.size, 0, none⟩, 2, 2⟩ [2, 3] := ⟨rfl, u32_ne, fun _ => ⟨_, rfl, hne (k2.tr k3).size, row_blk b4 fun i v hv => by simpa using hv⟩⟩
  have g4 := ((g1.upd0 k2).upd0 k3).upd0 k4
  have k5 := Upd.hnew No h4 [.slice none 0 0, .slice (some ⟨h1.size, 0, none⟩) 1 1, .slice (some ⟨h2.size, 0, none⟩) 1 1, .slice (some ⟨h3.size, 0, none⟩) 2 2] t_A_u32
  have b5 := hnew_get h4 [.slice none 0 0, .slice (some ⟨h1.size, 0, none⟩) 1 1, .slice (some ⟨h2.size, 0, none⟩) 1 1, .slice (some ⟨h3.size, 0, none⟩) 2 2] t_A_u32
  generalize hnew h4 [.slice none 0 0, .slice (some ⟨h1.size, 0, none⟩) 1 1, .slice (some ⟨h2.size, 0, none⟩) 1 1, .slice (some ⟨h3.size, 0, none⟩) 2 2] t_A_u32 = h5 at k5 b5
  have hz4 := ((k2.tr k3).tr k4).size
  have ps_ok : ∀ i : Nat, i < 4 → ∃ s : SliceV, [(⟨none, 0, 0⟩ : SliceV), ⟨some ⟨h1.size, 0, none⟩, 1, 1⟩, ⟨some ⟨h2.size, 0, none⟩, 1, 1⟩, ⟨some ⟨h3.size, 0, none⟩, 2, 2⟩][i]? = some s ∧ Nums (Two (h.size + 1) h.size) h4 s ([[], [1], [1], [2, 3]][i]!) ∧
      h5[h4.size]? = h5[h4.size]? ∧ hcell h5 ⟨h4.size, i, none⟩ = some (sv s) := by
    intro i hi
    match i, hi with
    | 0, _ => exact ⟨_, rfl, s0, rfl, by rw [hcell_blk b5]; rfl⟩
    | 1, _ => exact ⟨_, rfl, s1, rfl, by rw [hcell_blk b5]; rfl⟩
    | 2, _ => exact ⟨_, rfl, s2, rfl, by rw [hcell_blk b5]; rfl⟩
    | 3, _ => exact ⟨_, rfl, s3, rfl, by rw [hcell_blk b5]; rfl⟩
  have hu05 : Upd No h h5 := (((hu1.tr k2).tr k3).tr k4).tr k5
  refine LoopP.ghost (fun (i : Nat) (t : Int) h' => t = (i : Int) ∧ i ≤ 4 ∧ Upd (Two (h.size + 1) h.size) h5 h' ∧ GraphAt (Two (h.size + 1) h.size) h' (h.size + 1) h.size (exL.take i) ((i : Int) + 1)) (fun i => 4 - i) 0
    ⟨rfl, by omega, Upd.refl _ _, g4.upd0 k5⟩ ?_
  rintro I i t h' ⟨rfl, hi, hu, g⟩ hI
  have hz5 := k5.size
  refine condP_dec (fun hlt => ?_) fun hge => ?_
  · have hlt : i < 4 := by omega
    obtain ⟨s, _, hs, _, hc⟩ := ps_ok i hlt
    have hl4 := get_lt b5
    refine ⟨by omega, _, rfl, s, ?_, ?_⟩
    · rw [show adr (⟨h4.size, 0, none⟩ : Addr) ((i : Int).toNat * 1) = ⟨h4.size, i, none⟩ by rw [adr_mk]; simp]
      exact hu.cell hc (hne hz4)
    · have hv : addV (exL.take i) ((i : Int) + 1) ([[], [1], [1], [2, 3]][i]!) = (((i : Int) + 1, 0), exL.take (i + 1), (i : Int) + 1 + 1) := by
        match i, hlt with
        | 0, _ => decide
        | 1, _ => decide
        | 2, _ => decide
        | 3, _ => decide
      have hpl : ([[], [1], [1], [2, 3]][i]! : List Int).length * 4 ≤ 140737488355328 := by
        match i, hlt with
        | 0, _ => decide
        | 1, _ => decide
        | 2, _ => decide
        | 3, _ => decide
      refine gAdd_ok g (by omega) ?_ ((hs.upd k5 fun _ h => h.elim).upd hu fun b hb => .inl hb) hpl fun h6 hu6 g6 => ?_
      · match i, hlt with
        | 0, _ => decide
        | 1, _ => decide
        | 2, _ => decide
        | 3, _ => decide
      · rw [hv] at g6 ⊢
        refine CondP.intro (fun e => by simp at e) fun _ => ?_
        rw [w64 (by omega)]
        exact hI (i + 1) _ _ ⟨rfl, hlt, hu.tr hu6, by simpa using g6⟩ (by omega)
  · have : i = 4 := by omega
    subst this
    have g : GraphAt (Two (h.size + 1) h.size) h' (h.size + 1) h.size exL 5 := g
    have hsm : Small exL := ⟨by decide, by decide⟩
    have u1 : ∀ c, Up exL 1 c ↔ c = 1 := fun c => by rw [up_iff]; simp [parV, alook, eq_comm]
    have u2 : ∀ c, Up exL 2 c ↔ c = 2 ∨ c = 1 := fun c => by rw [up_iff]; simp [parV, alook, u1, eq_comm]
    have u3 : ∀ c, Up exL 3 c ↔ c = 3 ∨ c = 1 := fun c => by rw [up_iff]; simp [parV, alook, u1, eq_comm]
    have u4 : ∀ c, Up exL 4 c ↔ c = 4 ∨ (c = 2 ∨ c = 1) ∨ c = 3 ∨ c = 1 := fun c => by rw [up_iff]; simp [parV, alook, u2, u3, eq_comm]
    refine gMeet_ok g hsm 2 3 fun best h6 hle hbest h0 hu6 => ?_
    have hb1 : best = 1 := by
      have := hle 1 ((u2 1).2 (.inr rfl)) ((u3 1).2 (.inr rfl))
      rcases hbest with e | ⟨e1, e2⟩
      · omega
      · rw [u2] at e1; rw [u3] at e2; omega
    subst hb1
    refine CondP.intro (fun _ => ?_) fun e => by simp at e
    refine CondP.intro (fun _ => ?_) fun e => by simp at e
    refine gAbove_ok (g.upd0 hu6) hsm 4 fun s h7 xs hx1 hx2 ho hu7 => ?_
    have hxs : xs = [1, 2, 3, 4] := rising_ext hx1 (by decide) fun y => by rw [hx2, u4]; simp; omega
    have k8 := Upd.hnew No h7 [.int .u32 1, .int .u32 2, .int .u32 3, .int .u32 4] t_u32
    have b8 := hnew_get h7 [.int .u32 1, .int .u32 2, .int .u32 3, .int .u32 4] t_u32
    refine equal_ok (W := No) (W' := No) (s' := ⟨some ⟨h7.size, 0, none⟩, 4, 4⟩) (ys := [1, 2, 3, 4]) ((ho.upd k8 fun _ _ h => h).sl fun _ _ _ h => h) ⟨rfl, u32_ne, fun _ => ⟨_, rfl, id, row_blk b8 fun i v hv => by rw [Nat.zero_add, List.getElem?_toArray]; exact hv⟩⟩ (by rw [hxs]; decide) ?_
    rw [decide_eq_true hxs]
    refine hk _ (((hu05.trans hu fun b hb => .inr ?_).tr (hu6.tr hu7)).tr k8)
    rcases hb with rfl | rfl <;> omega
end Go.Proofs
