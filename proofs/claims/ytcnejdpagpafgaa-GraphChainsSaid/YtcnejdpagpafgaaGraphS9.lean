/- A part of the proof that the named laws of this program answer true, whatever the input. -/
import Derived.Test.YtcnejdpagpafgaaGraphS8
namespace Go.Proofs
open Go.Lift
/-- The versions as they always are: rising ids; parents that are there, and less. -/
structure Good (L : Vers) : Prop extends Small L where
  up : (ids L).Pairwise (· < ·)
  par : ∀ v ∈ L, ∀ p ∈ v.2, p ∈ ids L ∧ p < v.1
theorem Good.nd {L : Vers} (g : Good L) : (ids L).Nodup := g.up.imp fun h => Int.ne_of_lt h
theorem Good.parV {L : Vers} (g : Good L) {a p : Int} (h : p ∈ parV L a) : p ∈ ids L ∧ p < a ∧ a ∈ ids L := by
  unfold Proofs.parV at h
  cases hl : alook L a with
  | none => rw [hl] at h; simp at h
  | some ps =>
    rw [hl] at h
    have hm := (alook_mem g.nd).1 hl
    have := g.par _ hm p (by simpa using h)
    exact ⟨this.1, this.2, List.mem_map.2 ⟨_, hm, rfl⟩⟩
theorem Up.snoc {L : Vers} {a z w : Int} (h : Up L a z) (hw : w ∈ Proofs.parV L z) (hi : w ∈ ids L) : Up L a w := by
  induction h with
  | refl h1 => exact .step h1 hw (.refl hi)
  | step h1 h2 _ ih => exact .step h1 h2 (ih hw)
theorem Up.right {L : Vers} {a b : Int} (h : Up L a b) : b ∈ ids L := by
  induction h with
  | refl h => exact h
  | step _ _ _ ih => exact ih
theorem Up.last {L : Vers} {a b : Int} (h : Up L a b) : b = a ∨ ∃ z, Up L a z ∧ b ∈ Proofs.parV L z := by
  induction h with
  | refl _ => exact .inl rfl
  | @step a p b h1 h2 h3 ih =>
    rcases ih with rfl | ⟨z, hz, hb⟩
    · exact .inr ⟨a, .refl h1, h2⟩
    · exact .inr ⟨z, .step h1 h2 hz, hb⟩
theorem Up.le {L : Vers} (g : Good L) {a b : Int} (h : Up L a b) : b ≤ a := by
  induction h with
  | refl _ => exact Int.le_refl _
  | step _ h2 _ ih => have := (g.parV h2).2.1; omega
theorem Up.trans {L : Vers} {a b c : Int} (h : Up L a b) (k : Up L b c) : Up L a c := by
  induction h with
  | refl _ => exact k
  | step h1 h2 _ ih => exact .step h1 h2 (ih k)
/-- A rising list is told by its members. -/
theorem rising_ext : ∀ {xs ys : List Int}, xs.Pairwise (· < ·) → ys.Pairwise (· < ·) → (∀ y, y ∈ xs ↔ y ∈ ys) → xs = ys
  | [], [], _, _, _ => rfl
  | [], y :: ys, _, _, h => by have := (h y).2 (List.mem_cons_self ..); cases this
  | x :: xs, [], _, _, h => by have := (h x).1 (List.mem_cons_self ..); cases this
  | x :: xs, y :: ys, hx, hy, h => by
    rw [List.pairwise_cons] at hx hy
    have e : x = y := by
      rcases List.mem_cons.1 ((h x).1 (List.mem_cons_self ..)) with e | e
      · exact e
      · rcases List.mem_cons.1 ((h y).2 (List.mem_cons_self ..)) with e2 | e2
        · exact e2.symm
        · have := hy.1 x e; have := hx.1 y e2; omega
    subst e
    congr 1
    refine rising_ext hx.2 hy.2 fun z => ?_
    have := h z
    simp only [List.mem_cons] at this
    constructor
    · intro hz
      rcases this.1 (.inr hz) with e | e
      · subst e; exact absurd (hx.1 _ hz) (Int.lt_irrefl _)
      · exact e
    · intro hz
      rcases this.2 (.inr hz) with e | e
      · subst e; exact absurd (hy.1 _ hz) (Int.lt_irrefl _)
      · exact e
theorem parV_at {L : Vers} (g : (ids L).Nodup) {i : Nat} (hi : i < L.length) : parV L L[i].1 = L[i].2 := by
  have : alook L L[i].1 = some L[i].2 := (alook_mem g).2 (List.getElem_mem hi)
  simp [parV, this]
theorem xAbove_ok {W : Nat → Prop} {h : Heap} {xp : Nat} {L : Vers} {nx : Int} (g : RefAt W h xp L nx) (gd : Good L) (id : Int)
    {K : SliceV → Heap → Prop} (hk : ∀ s' h' xs, xs.Pairwise (· < ·) → (∀ y, y ∈ xs ↔ Up L id y) → Nums (fun b => b < h.size) h' s' xs → Upd No h h' → K s' h') :
    HC PG f_r20_Above [.pointer (some ⟨xp, 0, none⟩), .int .u32 id] [.c .slice] K h := by
  refine H_r20_Above (some ⟨xp, 0, none⟩) id ?_
  unfold F_r20_Above
  obtain ⟨s0, t0, Ls, h1, h2, h3, hcap⟩ := g.blk
  have hl := h3.len
  have hL := gd.len
  have k0 := Upd.push No h (.map #[] 0)
  have m0 : MapAt KE iv (h.push (.map #[] 0)) h.size [] := MapAt.new h
  have k1 : Upd No h (mput (h.push (.map #[] 0)) h.size (.int .u32 id) (.int .i64 1)) := k0.trans (M' := (· = h.size)) (upd_mput _ _ _ rfl) fun b hb => .inr (Nat.le_of_eq hb.symm)
  refine ⟨_, rfl, m0.isMap, _, rfl, s0, by rw [adr_mk, hcell_blk (k1.get0 h1)]; rfl, ?_⟩
  refine LoopP.ghost (fun (gh : Nat × List Int × List (Int × Int)) (t : SliceV × Int) h' => t.2 = (gh.1 : Int) - 1 ∧ gh.1 ≤ L.length ∧ Upd No h h' ∧ Nums (fun b => b ≤ h.size) h' t.1 gh.2.1 ∧ MapAt KE iv h' h.size gh.2.2 ∧
      (∀ y v, alook gh.2.2 y = some v → v = 1) ∧ gh.2.1.Pairwise (· < ·) ∧ gh.2.1.length ≤ L.length - gh.1 ∧
      (∀ y, y ∈ gh.2.1 ↔ y ∈ (ids L).drop gh.1 ∧ Up L id y) ∧ (∀ y, y ∈ gh.2.2.map (·.1) ↔ y = id ∨ ∃ z ∈ (ids L).drop gh.1, Up L id z ∧ y ∈ parV L z)) (fun gh => gh.1) (L.length, [], [(id, 1)])
    ⟨?_, Nat.le_refl _, k1, Sl.nil u32_ne, m0.put id 1, ?_, List.Pairwise.nil, Nat.zero_le _, ?_, ?_⟩ ?_
  · show IntKind.wrap .i64 ((s0.len : Int) - 1) = _
    rw [h2.len, hl, Go.IntWalk.i64_in _ (by omega)]
  · intro y v hv
    simp only [alook] at hv
    split at hv
    · cases hv; rfl
    · cases hv
  · intro y
    rw [List.drop_of_length_le (by simp)]; simp
  · intro y
    rw [List.drop_of_length_le (by simp)]; simp
  rintro I ⟨n, out, m⟩ ⟨so, ti⟩ h' ⟨hti, hn, hu, hso, hm, hone, hup, hlen, hout, hin⟩ hI
  simp only at hti hn hso hm hone hup hlen hout hin
  subst hti
  refine condP_dec (fun hpos => ?_) fun hneg => ?_
  · obtain ⟨i, rfl⟩ : ∃ i, n = i + 1 := ⟨n - 1, by have hpos : (n : Int) - 1 ≥ 0 := hpos; omega⟩
    have hi : i < L.length := by omega
    have ei : ((i + 1 : Nat) : Int) - 1 = (i : Int) := by omega
    simp only [ei]
    have h2' := h2.upd hu fun _ h => h.elim
    obtain ⟨a, ha, c0, c1⟩ := verVar h2' (hl ▸ hi)
    obtain ⟨e1, e2⟩ := h3.get (hl ▸ hi) hi
    obtain ⟨q1, q2, q3⟩ := setVar h' t_r20_Version (.int .u32 0) (.slice none 0 0) (Ls[i]'(hl ▸ hi))
    rw [e1] at c0 q1 q2 q3
    have hw : IntKind.wrap .i64 ((i : Int) - 1) = (i : Int) - 1 := Go.IntWalk.i64_in _ (by omega)
    have hdrop : (ids L).drop i = L[i].1 :: (ids L).drop (i + 1) := by
      rw [List.drop_eq_getElem_cons (by simpa using hi), List.getElem_map]
    have hbig : ∀ z, z ∈ ids L → L[i].1 < z → z ∈ (ids L).drop (i + 1) := fun z hz hlt => by
      have hz' : z ∈ (ids L).take (i + 1) ++ (ids L).drop (i + 1) := by rw [List.take_append_drop]; exact hz
      rcases List.mem_append.1 hz' with hz' | hz'
      · exfalso
        obtain ⟨j, hj, ej⟩ := List.getElem_of_mem hz'
        rw [List.getElem_take] at ej
        have hj' : j ≤ i := by simp at hj; omega
        rcases Nat.lt_or_ge j i with hji | hji
        · have := List.pairwise_iff_getElem.1 gd.up j i (by simp; omega) (by simpa using hi) hji
          rw [ej, List.getElem_map] at this; omega
        · have : j = i := by omega
          subst this
          rw [List.getElem_map] at ej; omega
      · exact hz'
    have hkey : L[i].1 ∈ m.map (·.1) ↔ Up L id L[i].1 := by
      rw [hin]
      constructor
      · rintro (e | ⟨z, hz, hz2, hz3⟩)
        · rw [← e]; exact .refl (List.mem_map.2 ⟨_, List.getElem_mem hi, rfl⟩)
        · exact hz2.snoc hz3 (List.mem_map.2 ⟨_, List.getElem_mem hi, rfl⟩)
      · intro hup
        rcases hup.last with e | ⟨z, hz, hz2⟩
        · exact .inl e
        · exact .inr ⟨z, hbig z hz.right (gd.parV hz2).2.1, hz, hz2⟩
    have hm16 := hm.upd q3 fun h => h
    have hu16 := hu.tr q3
    have hml := hm.lt
    refine Join.plain ⟨_, rfl, s0, by rw [adr_mk, hcell_blk (hu.get0 h1)]; rfl, by rw [h2.len, hl]; omega, a, ha, _, c0, _, c1, q1, _, hcell_newA q2 0, _, _, hm16.get _ 0, ?_⟩
    rw [hw]
    refine CondP.intro (fun hz => ?_) fun hnz => ?_
    · have hnot : ¬ Up L id L[i].1 := fun hup => by
        obtain ⟨x, hx, ex⟩ := List.mem_map.1 (hkey.2 hup)
        have hlk : alook m L[i].1 = some x.2 := (alook_mem hm.nodup).2 (by rw [← ex]; exact hx)
        rw [hlk, hone _ _ hlk] at hz
        exact absurd hz (by decide)
      refine hI (i, out, m) _ _ ⟨rfl, Nat.le_of_lt hi, hu16, hso.upd q3 fun _ h => h.elim, hm16, hone, hup, by simp only; omega, fun y => ?_, fun y => ?_⟩ (by simp)
      · rw [hout, hdrop, List.mem_cons]
        constructor
        · exact fun h => ⟨.inr h.1, h.2⟩
        · rintro ⟨rfl | h, hy⟩
          · exact absurd hy hnot
          · exact ⟨h, hy⟩
      · rw [hin, hdrop]
        refine or_congr Iff.rfl ⟨fun ⟨z, hz, hr⟩ => ⟨z, List.mem_cons_of_mem _ hz, hr⟩, fun ⟨z, hz, hr⟩ => ?_⟩
        rcases List.mem_cons.1 hz with rfl | hz
        · exact absurd hr.1 hnot
        · exact ⟨z, hz, hr⟩
    · have hyes : Up L id L[i].1 := by
        rw [← hkey]
        cases hlk : alook m L[i].1 with
        | none => rw [hlk] at hnz; exact absurd hnz (by decide)
        | some v => exact List.mem_map.2 ⟨_, (alook_mem hm.nodup).1 hlk, rfl⟩
      refine Join.plain ⟨_, hcell_newA q2 0, _, (((hso.upd q3 fun _ h => h.elim).upd (Upd.hnew No _ _ _) fun _ h => h.elim).less (W' := No) fun _ h => h.elim).srow, ?_⟩
      have l16 := get_lt q2
      have lh := hu.size
      refine AppP.own (single (M := fun b => Array.size h' + 1 ≤ b) _ L[i].1 l16) hso.len rfl (oneCell_nums out) rfl (by omega) (by simp only [List.length_singleton]; omega) (by rw [hnew_size]; omega) fun s' h3' ho3 k3 => ?_
      have hu3 : Upd No h h3' := (hu16.tr (Upd.hnew No _ _ _)).trans k3 fun b hb => .inr (by omega)
      have hs3 : Nums (fun b => b ≤ h.size) h3' s' ([L[i].1] ++ out) := ho3.sl fun b hb _ hw => by omega
      have hm3 : MapAt KE iv h3' h.size m := (hm16.upd (Upd.hnew No _ _ _) fun h => h).upd k3 fun hb => by omega
      have b3 := k3.get ((Upd.hnew No _ [.int .u32 L[i].1] t_u32).get0 q2) fun hb => by omega
      refine ⟨_, hcell_newA b3 1, ?_⟩
      have hps : L[i].2.length ≤ 2 := gd.two _ (List.getElem_mem hi)
      have hpv : parV L L[i].1 = L[i].2 := parV_at gd.nd hi
      refine LoopP.ghost (fun (gh : Nat × List (Int × Int)) (t : Int) h2 => t = (gh.1 : Int) ∧ gh.1 ≤ L[i].2.length ∧ Upd (· = h.size) h3' h2 ∧ MapAt KE iv h2 h.size gh.2 ∧ (∀ y v, alook gh.2 y = some v → v = 1) ∧ (∀ y, y ∈ gh.2.map (·.1) ↔ y ∈ m.map (·.1) ∨ y ∈ L[i].2.take gh.1)) (fun gh => L[i].2.length - gh.1) (0, m)
        ⟨rfl, Nat.zero_le _, Upd.refl _ _, hm3, hone, fun y => by simp⟩ ?_
      rintro I2 ⟨j, m2⟩ t h2' ⟨ht, hj, hu2, hm2, hone2, hkeys⟩ hI2
      simp only at ht hj hm2 hone2 hkeys
      subst ht
      have hu4 : Upd No h h2' := hu3.trans hu2 fun b hb => .inr (Nat.le_of_eq hb.symm)
      have hnum : Nums W h2' (Ls[i]'(hl ▸ hi)).2 L[i].2 := e2.upd hu4 fun _ h => h.elim
      refine condP_dec (fun hlt => ?_) fun hge => ?_
      · rw [e2.len] at hlt
        have hlt : j < L[i].2.length := by omega
        obtain ⟨a2, ha2, _, hx⟩ := Nums.at hnum hlt
        refine ⟨by rw [e2.len]; omega, a2, ha2, _, hx, _, rfl, hm2.isMap, ?_⟩
        rw [wrap_succ hlt (by omega)]
        have hput := hm2.put L[i].2[j] 1
        refine hI2 (j + 1, aput m2 L[i].2[j] 1) _ _ ⟨rfl, hlt, hu2.tr (upd_mput _ _ _ rfl), hput, fun y v hv => ?_, fun y => ?_⟩ (by simp only; omega)
        · rw [alook_put] at hv
          split at hv
          · cases hv; rfl
          · exact hone2 y v hv
        · simp only
          rw [aput_keys, List.take_succ_eq_append_getElem hlt]
          split
          · rename_i hmem
            rw [hkeys y, List.mem_append, List.mem_singleton]
            constructor
            · exact fun h => h.imp (fun h => h) .inl
            · rintro (h | h | rfl)
              · exact .inl h
              · exact .inr h
              · exact (hkeys _).1 hmem
          · rw [List.mem_append, List.mem_append, List.mem_singleton, hkeys y, or_assoc]
      · rw [e2.len] at hge
        have : j = L[i].2.length := by omega
        subst this
        rw [List.take_length] at hkeys
        refine hI (i, L[i].1 :: out, m2) _ _ ⟨rfl, Nat.le_of_lt hi, hu4, hs3.upd hu2 fun b hb => .inl (Nat.le_of_eq hb), hm2, hone2, ?_, ?_, fun y => ?_, fun y => ?_⟩ (by simp)
        · refine List.pairwise_cons.2 ⟨fun y hy => ?_, hup⟩
          have hyd := ((hout y).1 hy).1
          have := gd.up.sublist (List.drop_sublist i (ids L))
          rw [hdrop, List.pairwise_cons] at this
          exact this.1 y hyd
        · simp only [List.length_cons]; omega
        · rw [List.mem_cons, hout, hdrop, List.mem_cons]
          constructor
          · rintro (rfl | h)
            · exact ⟨.inl rfl, hyes⟩
            · exact ⟨.inr h.1, h.2⟩
          · rintro ⟨rfl | h, hy⟩
            · exact .inl rfl
            · exact .inr ⟨h, hy⟩
        · simp only
          rw [hkeys y, hin, hdrop]
          constructor
          · rintro ((h | ⟨z, hz, hr⟩) | h)
            · exact .inl h
            · exact .inr ⟨z, List.mem_cons_of_mem _ hz, hr⟩
            · exact .inr ⟨_, List.mem_cons_self .., hyes, by rw [hpv]; exact h⟩
          · rintro (h | ⟨z, hz, hr⟩)
            · exact .inl (.inl h)
            · rcases List.mem_cons.1 hz with rfl | hz
              · rw [hpv] at hr; exact .inr hr.2
              · exact .inl (.inr ⟨z, hz, hr⟩)
  · have : n = 0 := by have hneg : ¬ (n : Int) - 1 ≥ 0 := hneg; omega
    subst this
    refine hk so h' out hup (fun y => (hout y).trans ?_) (hso.less fun b hb => .inl (Nat.le_of_lt hb)) hu
    rw [List.drop_zero]
    exact ⟨fun h => h.2, fun h => ⟨h.right, h⟩⟩
end Go.Proofs
