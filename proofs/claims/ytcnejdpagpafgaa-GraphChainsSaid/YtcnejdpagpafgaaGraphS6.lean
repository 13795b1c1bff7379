/- A part of the proof that the named laws of this program answer true, whatever the input. -/
import Derived.Test.YtcnejdpagpafgaaGraphS5
namespace Go.Proofs
open Go.Lift
theorem takeWhile_at {α : Type} {p : α → Bool} : ∀ (l : List α) (i : Nat), i ≤ l.length → (∀ v ∈ l.take i, p v = true) → (∀ h : i < l.length, p l[i] = false) → l.takeWhile p = l.take i ∧ l.dropWhile p = l.drop i
  | [], i, _, _, _ => by simp
  | x :: l, 0, _, _, h => by
    have := h (by simp)
    simp only [List.getElem_cons_zero] at this
    simp [this]
  | x :: l, i + 1, hi, h1, h2 => by
    have hx := h1 x (by simp)
    have := takeWhile_at l i (by simpa using hi) (fun v hv => h1 v (by simp [hv])) (fun h => h2 (by simpa using h))
    simp [hx, this]
theorem oneCell_nums : ∀ xs : List Int, oneCell (xs.flatMap u32) = true
  | [] => rfl
  | x :: xs => by rw [List.flatMap_cons]; exact oneCell_nums xs
theorem oneCell_vers : ∀ xs : List (Int × SliceV), oneCell (xs.flatMap vf) = true
  | [] => rfl
  | x :: xs => by rw [List.flatMap_cons]; exact oneCell_vers xs
theorem xInsert_ok {W : Nat → Prop} {h : Heap} {xp : Nat} {L : Vers} {nx : Int} (g : RefAt W h xp L nx) (hL : L.length ≤ 100000) {id : Int} (hid : 0 ≤ id ∧ id < 4294967295) {s : SliceV} {ps : List Int} (hs : Nums W h s ps) (hn : ps.length * 4 ≤ 140737488355328)
    {K : Unit → Heap → Prop} (hk : ∀ h', Upd (· = xp) h h' → RefAt W h' xp (insV L id ps) (if nx ≤ id then id + 1 else nx) → K () h') :
    HC PG f_r20_insert [.pointer (some ⟨xp, 0, none⟩), .int .u32 id, .slice s.a s.len s.cap] [] K h := by
  refine H_r20_insert (some ⟨xp, 0, none⟩) id s ?_
  unfold F_r20_insert
  obtain ⟨s0, t0, Ls, h1, h2, h3, hcap⟩ := g.blk
  have hl := h3.len
  have hlt := g.lt
  refine LoopP.ghost (fun (i : Nat) (t : Int) h' => t = (i : Int) ∧ h' = h ∧ i ≤ L.length ∧ ∀ v ∈ L.take i, decide (v.1 < id) = true) (fun i => L.length - i) 0 ⟨rfl, rfl, Nat.zero_le _, by simp⟩ ?_
  rintro I i t h' ⟨rfl, rfl, hi, hp⟩ hI
  have c0 : hcell h' (adr ⟨xp, 0, none⟩ 0) = some (.slice s0.a s0.len s0.cap) := by rw [adr_mk, hcell_blk h1]; rfl
  refine Join.intro (fun t h2 => h2 = h' ∧ (t = true → ∃ hlt : i < L.length, L[i].1 < id) ∧ (t = false → ∀ hlt : i < L.length, ¬ L[i].1 < id)) (fun R hR => ?_) ?_
  · refine ⟨_, rfl, s0, c0, condP_dec (fun h4 => ?_) fun h4 => ?_⟩
    · rw [h2.len, hl] at h4
      have h4 : i < L.length := by omega
      obtain ⟨a, ha, c1, _⟩ := verVar h2 (hl ▸ h4)
      refine ⟨_, rfl, s0, c0, by rw [h2.len, hl]; omega, a, ha, _, c1, hR _ _ ⟨rfl, ?_⟩⟩
      rw [(h3.get (hl ▸ h4) h4).1]
      exact ⟨fun e => ⟨h4, by simpa using e⟩, fun e _ => by simpa using e⟩
    · rw [h2.len, hl] at h4
      exact hR _ _ ⟨rfl, fun e => (by cases e), fun _ h5 => (by omega)⟩
  · rintro t h'' ⟨rfl, e1, e2⟩
    refine CondP.intro (fun e => ?_) fun e => ?_
    · obtain ⟨h4, h5⟩ := e1 e
      rw [wrap_succ h4 (by omega)]
      refine hI (i + 1) _ _ ⟨rfl, rfl, h4, ?_⟩ (by omega)
      rw [List.take_succ_eq_append_getElem h4]
      intro v hv
      rcases List.mem_append.1 hv with h6 | h6
      · exact hp v h6
      · rw [List.mem_singleton.1 h6]; exact decide_eq_true h5
    · obtain ⟨w1, w2⟩ := takeWhile_at (p := fun v => decide (v.1 < id)) L i hi hp (fun h4 => decide_eq_false (e2 e h4))
      have hins : insV L id ps = L.take i ++ (id, ps) :: L.drop i := by unfold insV; rw [w1, w2]
      refine Join.plain ?_
      refine ⟨_, rfl, s0, c0, by rw [h2.len, hl]; omega, ?_⟩
      -- the copy of the parents
      have k1 := Upd.hnew No h'' [] t_u32
      refine ⟨k1.cell0 c0, _, (hs.upd k1 fun _ h => h.elim).srow, ?_⟩
      refine AppP.own (f := u32) (M := fun b => h''.size ≤ b) (xs := []) (ys := ps) ⟨rfl, u32_ne, Nat.le_refl _, .inl rfl⟩ hs.len rfl (oneCell_nums ps) rfl (by omega) (by simpa using hn) (by rw [hnew_size]; omega) fun s18 h19 o18 k2 => ?_
      have k19 : Upd No h'' h19 := k1.trans k2 fun b hb => .inr hb
      have c19 := k19.cell0 c0
      refine ⟨c19, c19, ?_⟩
      -- the rest, behind the new one
      have k3 := Upd.hnew No h19 [.int .u32 id, .slice s18.a s18.len s18.cap] t_r20_Version
      have k20 := k19.tr k3
      have h2a : Sl vf 2 W _ s0 Ls := h2.upd k20 fun _ h => h.elim
      refine ⟨k20.cell0 c0, _, (h2a.sub (l := i) (hi := s0.len) (m := s0.cap) (c := 0) (by rw [h2.len, hl]; exact hi) (by rw [h2.len]; exact Nat.le_refl _) hcap).srow, ?_⟩
      have er : (Ls.drop i).take (s0.len - i) = Ls.drop i := by rw [h2.len]; exact List.take_of_length_le (by simp)
      rw [er]
      have hnw := hnew_get h19 [.int .u32 id, .slice s18.a s18.len s18.cap] t_r20_Version
      refine AppP.own (f := vf) (M := fun b => h19.size ≤ b) (xs := [(id, s18)]) (ys := Ls.drop i) ⟨rfl, vf_ne, Nat.le_refl _, .inr ⟨h19.size, [], rfl, Nat.le_refl _, hnw, rfl⟩⟩
        (by rw [List.length_drop, h2.len]; rfl) rfl (oneCell_vers _) rfl (by omega) (by rw [List.length_drop, hl]; simp only [List.length_singleton]; omega) (by rw [hnew_size]; omega) fun s22 h23 o22 k4 => ?_
      have k23 : Upd (fun b => h19.size ≤ b) h19 h23 := k3.wide.tr k4
      have k023 : Upd No h'' h23 := k19.trans k23 fun b hb => .inr (Nat.le_trans k19.size hb)
      refine ⟨k023.cell0 c0, Join.plain ?_⟩
      -- what is ahead
      have k5 := Upd.hnew No h23 [] t_r20_Version
      refine ⟨_, rfl, s0, (k023.tr k5).cell0 c0, by rw [h2.len, hl] at hcap; omega, ?_⟩
      have h2b : Sl vf 2 W _ s0 Ls := h2.upd (k023.tr k5) fun _ h => h.elim
      refine ⟨_, (h2b.sub (l := 0) (hi := i) (m := s0.cap) (c := 0) (by omega) (by omega) (by rw [h2.len, hl] at hcap; omega)).srow, ?_⟩
      rw [List.drop_zero, Nat.sub_zero]
      refine AppP.own (f := vf) (M := fun b => h23.size ≤ b) (xs := []) (ys := Ls.take i) ⟨rfl, vf_ne, Nat.le_refl _, .inl rfl⟩ (by rw [List.length_take]; simp; omega) rfl (oneCell_vers _) rfl (by omega)
        (by rw [List.length_take]; simp only [List.length_nil]; omega) (by rw [hnew_size]; omega) fun s31 h32 o31 k6 => ?_
      have k32 : Upd (fun b => h23.size ≤ b) h23 h32 := k5.wide.tr k6
      -- both
      have hr : Sl vf 2 (fun b => h23.size ≤ b) h23 s22 ((id, s18) :: Ls.drop i) := o22.sl fun b _ hlt => Nat.not_le.2 hlt
      refine ⟨_, (hr.upd k32 fun b hb => .inl hb).srow, ?_⟩
      refine AppP.own (f := vf) (M := fun b => h23.size ≤ b) (xs := Ls.take i) (ys := (id, s18) :: Ls.drop i) o31 hr.len rfl (oneCell_vers _) rfl (by omega)
        (by rw [List.length_take, List.length_cons, List.length_drop]; omega) k32.size fun s34 h35 o34 k7 => ?_
      have k35 : Upd (fun b => h23.size ≤ b) h23 h35 := k32.tr k7
      have k035 : Upd No h'' h35 := k023.trans k35 fun b hb => .inr (Nat.le_trans k023.size hb)
      have b35 := k035.get0 h1
      refine ⟨_, rfl, by rw [adr_mk]; exact wr_blk b35 (by simp), ?_⟩
      -- it is written down
      have e0 : adr ⟨xp, 0, none⟩ 0 = ⟨xp, 0, none⟩ := rfl
      rw [e0]
      have k8 : Upd (· = xp) h35 (hset h35 ⟨xp, 0, none⟩ (.slice s34.a s34.len s34.cap)) := Upd.hset _ _ rfl
      have b37 : (hset h35 ⟨xp, 0, none⟩ (.slice s34.a s34.len s34.cap))[xp]? = some (.cells #[.slice s34.a s34.len s34.cap, .int .u32 nx] t0 (0, 0)) := by
        rw [hset_blk b35, set_get b35]; rfl
      have kx : Upd (· = xp) h'' (hset h35 ⟨xp, 0, none⟩ (.slice s34.a s34.len s34.cap)) := k035.wide.tr k8
      have hWx : ∀ b, b = xp → W b ∨ h''.size ≤ b := fun b hb => .inl (hb ▸ g.wp)
      have hfin : ∀ {h' : Heap}, Upd (· = xp) h35 h' → Sl vf 2 W h' s34 (Ls.take i ++ (id, s18) :: Ls.drop i) ∧ Par W h' (Ls.take i ++ (id, s18) :: Ls.drop i) (insV L id ps) := fun {h'} k => by
        refine ⟨?_, ?_⟩
        · refine (o34.sl (W := W) fun b hb _ hw => absurd (hlt b hw) (Nat.not_lt.2 (Nat.le_trans k023.size hb))).upd k fun b hb => .inl (hb ▸ g.wp)
        · have kk : Upd (· = xp) h'' h' := k035.wide.tr k
          rw [hins]
          refine Par.app (Par.upd kk hWx (h3.take i)) ⟨rfl, ?_, Par.upd kk hWx (h3.drop i)⟩
          have hs18 : Nums (fun b => W b ∨ h19.size ≤ b) h19 s18 ps := o18.sl fun b hb hl hw => hw.elim (fun hw => absurd (hlt b hw) (Nat.not_lt.2 hb)) fun hge => absurd hl (Nat.not_lt.2 hge)
          have k19' : Upd (fun b => W b ∨ h19.size ≤ b) h19 h' := ((k23.mono fun b hb => .inl (.inr hb)).tr (k35.mono fun b hb => .inr hb)).tr (k.mono fun b hb => .inl (.inl (hb ▸ g.wp)))
          exact (hs18.upd k19' fun b hb => .inl hb).less fun b hb => .inl (.inl hb)
      have hcap34 := o34.cap
      refine ⟨_, rfl, nx, by rw [adr_mk, hcell_blk b37]; rfl, condP_dec (fun h6 => ?_) fun h6 => ?_⟩
      · refine ⟨_, rfl, wr_blk b37 (by simp), ?_⟩
        rw [show IntKind.wrap .u32 (id + 1) = id + 1 from Go.IntWalk.u32_in _ (by omega)]
        rw [if_pos h6] at hk
        have k9 : Upd (· = xp) _ (hset (hset h35 ⟨xp, 0, none⟩ (.slice s34.a s34.len s34.cap)) ⟨xp, 1, none⟩ (.int .u32 (id + 1))) := Upd.hset _ _ rfl
        obtain ⟨f1, f2⟩ := hfin (k8.tr k9)
        refine hk _ (kx.tr k9) ⟨⟨s34, t0, _, ?_, f1, f2, hcap34⟩, g.wp, fun b hb => Nat.lt_of_lt_of_le (hlt b hb) (kx.tr k9).size⟩
        rw [adr_mk, hset_blk b37, set_get b37]; rfl
      · rw [if_neg h6] at hk
        obtain ⟨f1, f2⟩ := hfin k8
        exact hk _ kx ⟨⟨s34, t0, _, b37, f1, f2, hcap34⟩, g.wp, fun b hb => Nat.lt_of_lt_of_le (hlt b hb) kx.size⟩
theorem max_next {nx id : Int} : (if id + 1 > nx then id + 1 else nx) = if nx ≤ id then id + 1 else nx := by
  split <;> split <;> omega
theorem xAdd_ok {W : Nat → Prop} {h : Heap} {xp : Nat} {L : Vers} {nx : Int} (g : RefAt W h xp L nx) (hnx : 0 ≤ nx) (hL : L.length ≤ 100000) {s : SliceV} {ps : List Int} (hs : Nums W h s ps) (hn : ps.length * 4 ≤ 140737488355328)
    {K : Int × Int → Heap → Prop} (hk : ∀ h', Upd (· = xp) h h' → RefAt W h' xp (addV L nx ps).2.1 (addV L nx ps).2.2 → K (addV L nx ps).1 h') :
    HC PG f_r20_Add [.pointer (some ⟨xp, 0, none⟩), .slice s.a s.len s.cap] [.c (.int .u32), .c (.int .i64)] K h := by
  refine H_r20_Add (some ⟨xp, 0, none⟩) s ?_
  unfold F_r20_Add
  refine xErr_ok hs (CondP.intro (fun h1 => ?_) fun h1 => ?_)
  · have h1 : mayV ps ≠ 0 := by simpa using h1
    rw [show addV L nx ps = _ from if_pos h1] at hk
    exact hk h (Upd.refl _ _) g
  · have h1 : ¬ mayV ps ≠ 0 := by simpa using h1
    refine xThere_ok g (by omega) hs (by omega) fun h' hu => ?_
    have g1 := g.upd0 hu
    have hs1 := hs.upd hu fun _ h => h.elim
    refine CondP.intro (fun h2 => ?_) fun h2 => ?_
    · have h2 : fitsV L ps ≠ 0 := by simpa using h2
      rw [show addV L nx ps = _ from (if_neg h1).trans (if_pos h2)] at hk
      exact hk h' hu.wide g1
    · have h2 : ¬ fitsV L ps ≠ 0 := by simpa using h2
      obtain ⟨s0, t0, Ls, b1, _⟩ := g1.blk
      have c1 : hcell h' (adr ⟨xp, 0, none⟩ 1) = some (.int .u32 nx) := by rw [adr_mk, hcell_blk b1]; rfl
      refine ⟨_, rfl, _, c1, condP_dec (fun h3 => ?_) fun h3 => ?_⟩
      · rw [show addV L nx ps = _ from (if_neg h1).trans ((if_neg h2).trans (if_pos h3))] at hk
        exact hk h' hu.wide g1
      · refine ⟨_, rfl, _, c1, xInsert_ok g1 hL (by omega) hs1 hn fun h2' hu2 g2 => ?_⟩
        rw [show addV L nx ps = _ from (if_neg h1).trans ((if_neg h2).trans (if_neg h3))] at hk
        rw [if_pos (Int.le_refl nx)] at g2
        exact hk _ (hu.wide.tr hu2) g2
theorem xPut_ok {W : Nat → Prop} {h : Heap} {xp : Nat} {L : Vers} {nx : Int} (g : RefAt W h xp L nx) {id : Int} (hid : 0 ≤ id) (hL : L.length ≤ 100000) {s : SliceV} {ps : List Int} (hs : Nums W h s ps) (hn : ps.length * 4 ≤ 140737488355328)
    {K : Int → Heap → Prop} (hk : ∀ h', Upd (· = xp) h h' → RefAt W h' xp (putV L nx id ps).2.1 (putV L nx id ps).2.2 → K (putV L nx id ps).1 h') :
    HC PG f_r20_Put [.pointer (some ⟨xp, 0, none⟩), .int .u32 id, .slice s.a s.len s.cap] [.c (.int .i64)] K h := by
  refine H_r20_Put (some ⟨xp, 0, none⟩) id s ?_
  unfold F_r20_Put
  refine xErr_ok hs ?_
  refine Join.intro (fun t h' => h' = h ∧ t = decide (mayV ps ≠ 0 ∨ id = 0 ∨ id ≥ 2147483648)) (fun R hR => ?_) ?_
  · refine CondP.intro (fun h1 => ?_) fun h1 => ?_
    · have h1 : mayV ps ≠ 0 := by simpa using h1
      exact hR _ _ ⟨rfl, (decide_eq_true (.inl h1)).symm⟩
    · have h1 : ¬ mayV ps ≠ 0 := by simpa using h1
      refine CondP.intro (fun h2 => ?_) fun h2 => ?_
      · have h2 : id = 0 := by simpa using h2
        exact hR _ _ ⟨rfl, (decide_eq_true (.inr (.inl h2))).symm⟩
      · have h2 : ¬ id = 0 := by simpa using h2
        refine hR _ _ ⟨rfl, ?_⟩
        rw [Bool.eq_iff_iff, decide_eq_true_iff, decide_eq_true_iff]
        simp [h1, h2]
  · rintro t h' ⟨rfl, rfl⟩
    refine condP_dec (fun h1 => ?_) fun h1 => ?_
    · rw [show putV L nx id ps = _ from if_pos (h1.elim .inl fun h => .inr (h.elim .inl fun h => .inr (.inl h)))] at hk
      exact hk h' (Upd.refl _ _) g
    · refine LoopP.ghost (fun (i : Nat) (t : Int) h2 => t = (i : Int) ∧ h2 = h' ∧ i ≤ ps.length ∧ ∀ p ∈ ps.take i, ¬ p ≥ id) (fun i => ps.length - i) 0 ⟨rfl, rfl, Nat.zero_le _, by simp⟩ ?_
      rintro I i t h2 ⟨rfl, rfl, hi, hp⟩ hI
      refine condP_dec (fun hlt => ?_) fun hge => ?_
      · rw [hs.len] at hlt
        have hlt : i < ps.length := by omega
        obtain ⟨a, ha, _, hx⟩ := Nums.at hs hlt
        refine ⟨by rw [hs.len]; omega, a, ha, _, hx, condP_dec (fun h3 => ?_) fun h3 => ?_⟩
        · have hany : ps.any (fun p => decide (p ≥ id)) = true := List.any_eq_true.2 ⟨_, List.getElem_mem hlt, decide_eq_true h3⟩
          rw [show putV L nx id ps = _ from if_pos (.inr (.inr (.inr hany)))] at hk
          exact hk _ (Upd.refl _ _) g
        · rw [wrap_succ hlt (by omega)]
          refine hI (i + 1) _ _ ⟨rfl, rfl, hlt, ?_⟩ (by omega)
          rw [List.take_succ_eq_append_getElem hlt]
          intro p hpm
          rcases List.mem_append.1 hpm with h4 | h4
          · exact hp p h4
          · rw [List.mem_singleton.1 h4]; exact h3
      · rw [hs.len] at hge
        have : i = ps.length := by omega
        subst this
        rw [List.take_length] at hp
        have h1' : ¬ (mayV ps ≠ 0 ∨ id = 0 ∨ id ≥ 2147483648 ∨ ps.any (fun p => decide (p ≥ id)) = true) := by
          rintro (h | h | h | h)
          · exact h1 (.inl h)
          · exact h1 (.inr (.inl h))
          · exact h1 (.inr (.inr h))
          · obtain ⟨p, hpm, h5⟩ := List.any_eq_true.1 h
            exact hp p hpm (of_decide_eq_true h5)
        refine xFind_ok g (by omega) id fun n h3 hu hn3 => condP_dec (fun h4 => ?_) fun h4 => ?_
        · rw [show putV L nx id ps = _ from (if_neg h1').trans (if_pos (hn3.1 h4))] at hk
          exact hk _ hu.wide (g.upd0 hu)
        · have hni : ¬ id ∈ ids L := fun h => h4 (hn3.2 h)
          have g3 := g.upd0 hu
          have hs3 := hs.upd hu fun _ h => h.elim
          refine xThere_ok g3 (by omega) hs3 (by omega) fun h5 hu5 => ?_
          have g5 := g3.upd0 hu5
          have hs5 := hs3.upd hu5 fun _ h => h.elim
          refine CondP.intro (fun h6 => ?_) fun h6 => ?_
          · have h6 : fitsV L ps ≠ 0 := by simpa using h6
            rw [show putV L nx id ps = _ from (if_neg h1').trans ((if_neg hni).trans (if_pos h6))] at hk
            exact hk _ (hu.wide.tr hu5.wide) g5
          · have h6 : ¬ fitsV L ps ≠ 0 := by simpa using h6
            refine xInsert_ok g5 hL (by omega) hs5 hn fun h7 hu7 g7 => ?_
            rw [show putV L nx id ps = _ from (if_neg h1').trans ((if_neg hni).trans (if_neg h6)), max_next] at hk
            exact hk _ ((hu.wide.tr hu5.wide).tr hu7) g7
end Go.Proofs
