/- A part of the proof that the named laws of this program answer true, whatever the input. -/
import Derived.Test.YtcnejdpagpafgaaGraphS6
namespace Go.Proofs
open Go.Lift
abbrev parV (L : Vers) (id : Int) : List Int := (alook L id).getD []
/-- One comes from another: going up from parents to parents, as far as they are there. -/
inductive Up (L : Vers) : Int → Int → Prop
  | refl {a : Int} : a ∈ ids L → Up L a a
  | step {a p b : Int} : a ∈ ids L → p ∈ parV L a → Up L p b → Up L a b
theorem Up.left {L : Vers} {a b : Int} (h : Up L a b) : a ∈ ids L := by cases h <;> assumption
theorem GraphAt.more {W Q : Nat → Prop} {h0 h : Heap} {gp gm : Nat} {L : Vers} {nx : Int} (g : GraphAt W h0 gp gm L nx) (k : Upd No h0 h) (hq : ∀ b, Q b → h0.size ≤ b ∧ b < h.size) : GraphAt (fun b => W b ∨ Q b) h gp gm L nx := by
  obtain ⟨m, hm, hr⟩ := g.map
  refine ⟨k.get0 g.blk, ⟨m, hm.upd k id, fun j => ?_⟩, .inl g.wp, .inl g.wm, fun b hb => hb.elim (fun hb => Nat.lt_of_lt_of_le (g.lt b hb) k.size) fun hb => (hq b hb).2, g.nd⟩
  rcases hr j with ⟨s, ps, h1, h2, h3⟩ | h0
  · exact .inl ⟨s, ps, h1, h2, (h3.less fun b hb => hb.imp id fun hb => (hq b hb).1).upd k fun _ h => h.elim⟩
  · exact .inr h0
/-- Fewer blocks are left out. -/
theorem GraphAt.less {W W' : Nat → Prop} {h : Heap} {gp gm : Nat} {L : Vers} {nx : Int} (g : GraphAt W h gp gm L nx) (hw : ∀ b, W' b → W b) (h1 : W' gp) (h2 : W' gm) : GraphAt W' h gp gm L nx := by
  obtain ⟨m, hm, hr⟩ := g.map
  refine ⟨g.blk, ⟨m, hm, fun j => ?_⟩, h1, h2, fun b hb => g.lt b (hw b hb), g.nd⟩
  rcases hr j with ⟨s, ps, h1, h2, h3⟩ | h0
  · exact .inl ⟨s, ps, h1, h2, h3.less fun b hb => .inl (hw b hb)⟩
  · exact .inr h0
theorem OwnS.pop {α : Type} {f : α → List Value} {sz : Nat} {t : TypeId} {M : Nat → Prop} {h : Heap} {a : Option Addr} {len cap : Nat} {xs : List α} {x : α} (hs : OwnS f sz t M h ⟨a, len, cap⟩ (xs ++ [x])) {n : Nat} (hn : n = xs.length) : OwnS f sz t M h ⟨subAddr a 0 cap sz, n - 0, cap - 0⟩ xs := by
  have hl : len = (xs ++ [x]).length := hs.len
  have hcap : len ≤ cap := hs.cap
  rw [List.length_append, List.length_singleton] at hl
  subst hn
  refine ⟨rfl, hs.ne, by show xs.length - 0 ≤ cap - 0; omega, ?_⟩
  rcases hs.blk with h0 | ⟨b, rest, ha, hb, hc, hr⟩
  · have h0 : cap = 0 := h0
    omega
  · have ha : a = some ⟨b, 0, none⟩ := ha
    have hr : rest.length = (cap - len) * sz := hr
    refine .inr ⟨b, f x ++ rest, ?_, hb, ?_, ?_⟩
    · show subAddr a 0 cap sz = _
      unfold subAddr
      rw [if_neg (by omega), ha]
      simp
    · rw [hc, List.flatMap_append, List.flatMap_cons, List.flatMap_nil, List.append_nil, List.append_assoc]
    · show (f x ++ rest).length = (cap - 0 - (xs.length - 0)) * sz
      rw [List.length_append, (hs.ne x).1, hr, show cap - 0 - (xs.length - 0) = (cap - len) + 1 by omega, Nat.succ_mul]; omega
theorem subset_len : ∀ {l l' : List Int}, l.Nodup → (∀ x ∈ l, x ∈ l') → l.length ≤ l'.length
  | [], _, _, _ => Nat.zero_le _
  | x :: l, l', hn, h => by
    rw [List.nodup_cons] at hn
    have hx := h x (List.mem_cons_self ..)
    have := subset_len (l' := l'.erase x) hn.2 fun y hy => (List.mem_erase_of_ne (a := y) (b := x) fun e => hn.1 (by rw [← e]; exact hy)).2 (h y (List.mem_cons_of_mem _ hy))
    rw [List.length_erase_of_mem hx] at this
    have : 0 < l'.length := List.length_pos_of_mem hx
    rw [List.length_cons]; omega
theorem gReach_ok {W Q : Nat → Prop} {h : Heap} {gp gm : Nat} {L : Vers} {nx : Int} (g : GraphAt W h gp gm L nx) (hQ : ∀ b, Q b → W b ∧ b ≠ gp ∧ b ≠ gm) (hP : ∀ v ∈ L, v.2.length ≤ 2) (hL : L.length ≤ 100000)
    {s : SliceV} {start : List Int} (hs : OwnS u32 1 t_u32 (fun b => Q b ∨ h.size ≤ b) h s start) (hn : start.length ≤ 1000000000)
    {K : Option Nat → Heap → Prop} (hk : ∀ r h' m, h.size ≤ r → MapAt KE (fun n : Int => .int .i64 n) h' r m → (∀ y, y ∈ m.map (·.1) ↔ ∃ s ∈ start, Up L s y) → (∀ y v, alook m y = some v → v = 1) → Upd Q h h' → K (some r) h') :
    HC PG f_graph_Graph_reach [.pointer (some ⟨gp, 0, none⟩), .slice s.a s.len s.cap] [.c .map] K h := by
  refine H_graph_Graph_reach (some ⟨gp, 0, none⟩) s ?_
  unfold F_graph_Graph_reach
  have k0 := Upd.push No h (.map #[] 0)
  have hPl : ∀ id, (parV L id).length ≤ 2 := fun id => by
    cases hl : alook L id with
    | none => simp [parV, hl]
    | some ps => simp only [parV, hl, Option.getD_some]; exact hP _ ((alook_mem g.nd).1 hl)
  refine LoopP.ghost (fun (gh : List Int × List (Int × Int)) (t : SliceV) h' => Upd (fun b => Q b ∨ h.size ≤ b) h h' ∧ OwnS u32 1 t_u32 (fun b => (Q b ∨ h.size ≤ b) ∧ b ≠ h.size) h' t gh.1 ∧ MapAt KE (fun n : Int => .int .i64 n) h' h.size gh.2 ∧
      (∀ y v, alook gh.2 y = some v → v = 1) ∧ gh.1.length ≤ start.length + 2 * gh.2.length ∧
      (∀ y ∈ gh.2.map (·.1), y ∈ ids L ∧ ∃ s ∈ start, Up L s y) ∧ (∀ x ∈ gh.1, ∀ y, Up L x y → ∃ s ∈ start, Up L s y) ∧
      (∀ s ∈ start, s ∈ ids L → s ∈ gh.2.map (·.1) ∨ s ∈ gh.1) ∧ (∀ y ∈ gh.2.map (·.1), ∀ p ∈ parV L y, p ∈ ids L → p ∈ gh.2.map (·.1) ∨ p ∈ gh.1))
    (fun gh => (L.length - gh.2.length) * 3 + gh.1.length) (start, []) ?_ ?_
  · refine ⟨k0.wide, ?_, MapAt.new h, fun y v e => (by cases e), Nat.le_add_right _ _, fun y hy => (by cases hy), fun x hx y hy => ⟨x, hx, hy⟩, fun s hs _ => .inr hs, fun y hy => (by cases hy)⟩
    have := hs.upd k0 fun _ _ => id
    refine ⟨this.len, this.ne, this.cap, ?_⟩
    rcases hs.blk with hb | ⟨b, rest, e1, e2, e3, e4⟩
    · exact .inl hb
    · exact .inr ⟨b, rest, e1, ⟨e2, Nat.ne_of_lt (get_lt e3)⟩, k0.get0 e3, e4⟩
  · rintro I ⟨stack, m⟩ t h' ⟨hu, ho, hm, hone, hlen, hkeys, hst, hstart, hcl⟩ hI
    have g1 := g.upd hu fun b hb => hb.imp (hQ b) id
    simp only at ho hm hone hlen hkeys hst hstart hcl
    refine condP_dec (fun hpos => ?_) fun hz => ?_
    · rw [ho.len] at hpos
      obtain ⟨xs, x, rfl⟩ : ∃ xs x, stack = xs ++ [x] := by
        rcases List.eq_nil_or_concat stack with e | ⟨xs, x, e⟩
        · subst e; simp at hpos
        · exact ⟨xs, x, by rw [e, List.concat_eq_append]⟩
      have htl : t.len = xs.length + 1 := by rw [ho.len]; simp
      have hw : IntKind.wrap .i64 ((t.len : Int) - 1) = (xs.length : Int) := by
        rw [Go.IntWalk.i64_in _ ?_, htl]
        · omega
        · rw [htl]; simp only [List.length_append, List.length_singleton] at hlen
          have : m.length ≤ L.length := by
            have := subset_len (hm.nodup) (fun y hy => (hkeys y hy).1)
            simpa using this
          omega
      rw [hw]
      have hmL : m.length ≤ L.length := by
        have := subset_len (hm.nodup) (fun y hy => (hkeys y hy).1)
        simpa using this
      have hsl : Nums No h' t (xs ++ [x]) := ho.sl fun _ _ _ => id
      obtain ⟨a, ha, _, hx⟩ := Nums.at hsl (i := xs.length) (by simp)
      rw [show (xs ++ [x])[xs.length] = x by simp] at hx
      have hcap := ho.cap
      have hop : OwnS u32 1 t_u32 (fun b => (Q b ∨ h.size ≤ b) ∧ b ≠ h.size) h' ⟨subAddr t.a 0 t.cap 1, ((xs.length : Int)).toNat - 0, t.cap - 0⟩ xs := OwnS.pop ho (by simp)
      refine ⟨by rw [htl]; omega, a, ha, _, hx, by omega, ?_⟩
      have skip : (¬ x ∈ ids L ∨ x ∈ m.map (·.1)) → I ⟨subAddr t.a 0 t.cap 1, ((xs.length : Int)).toNat - 0, t.cap - 0⟩ h' := fun hsk => by
        refine hI (xs, m) _ _ ⟨hu, hop, hm, hone, ?_, hkeys, fun z hz => hst z (by simp [hz]), fun s hs hsi => ?_, fun y hy p hp hpi => ?_⟩ (by simp)
        · simp only [List.length_append, List.length_singleton] at hlen ⊢; omega
        · rcases hstart s hs hsi with h1 | h1
          · exact .inl h1
          · rcases List.mem_append.1 h1 with h1 | h1
            · exact .inr h1
            · rw [List.mem_singleton.1 h1] at hsi ⊢
              exact .inl (hsk.resolve_left fun h => h hsi)
        · rcases hcl y hy p hp hpi with h1 | h1
          · exact .inl h1
          · rcases List.mem_append.1 h1 with h1 | h1
            · exact .inr h1
            · rw [List.mem_singleton.1 h1] at hpi ⊢
              exact .inl (hsk.resolve_left fun h => h hpi)
      refine Join.intro (fun t2 h2 => h2 = h' ∧ (t2 = true → (¬ x ∈ ids L ∨ x ∈ m.map (·.1))) ∧ (t2 = false → x ∈ ids L ∧ x ∉ m.map (·.1))) (fun R hR => ?_) ?_
      · refine gHas_ok g1 x (CondP.intro (fun h1 => ?_) fun h1 => ?_)
        · have h1 : ¬ x ∈ ids L := by simpa using h1
          exact hR _ _ ⟨rfl, fun _ => .inl h1, fun e => by cases e⟩
        · have h1 : x ∈ ids L := by simpa using h1
          refine ⟨_, _, hm.get x 0, hR _ _ ⟨rfl, ?_⟩⟩
          cases hl : alook m x with
          | none => exact ⟨fun e => (by simp at e), fun _ => ⟨h1, alook_none.1 hl⟩⟩
          | some v =>
            have := hone x v hl
            subst this
            refine ⟨fun _ => .inr ?_, fun e => (by simp at e)⟩
            exact List.mem_map.2 ⟨_, (alook_mem hm.nodup).1 hl, rfl⟩
      · rintro t2 h2 ⟨rfl, e1, e2⟩
        refine CondP.intro (fun e => skip (e1 e)) fun e => ?_
        obtain ⟨hx1, hx2⟩ := e2 e
        refine ⟨_, _, hm.get x 0, _, rfl, hm.isMap, ?_⟩
        rw [alook_none.2 hx2, show IntKind.wrap .i64 ((none : Option Int).getD 0 + 1) = 1 by decide]
        have hm2 := hm.put x 1
        have k1 : Upd (fun b => Q b ∨ h.size ≤ b) h2 (mput h2 h.size (.int .u32 x) (.int .i64 1)) := upd_mput _ _ _ (.inr (Nat.le_refl _))
        have k1' : Upd (· = h.size) h2 (mput h2 h.size (.int .u32 x) (.int .i64 1)) := upd_mput _ _ _ rfl
        have hu2 := hu.tr k1
        have g2 := g.upd hu2 fun b hb => hb.imp (hQ b) id
        have ho2 : OwnS u32 1 t_u32 (fun b => (Q b ∨ h.size ≤ b) ∧ b ≠ h.size) _ _ xs := hop.upd k1' fun b hb => hb.2
        obtain ⟨gmm, hgm, hr⟩ := g2.map
        have hml : (aput m x 1).length = m.length + 1 := by
          have := congrArg List.length (aput_keys m x 1)
          rw [if_neg hx2] at this
          simpa using this
        have hk2 : (aput m x 1).map (·.1) = m.map (·.1) ++ [x] := by rw [aput_keys, if_neg hx2]
        have hmL2 : m.length + 1 ≤ L.length := by
          have := subset_len hm2.nodup (l' := ids L) (fun y hy => by
            rw [hk2] at hy
            rcases List.mem_append.1 hy with h1 | h1
            · exact (hkeys y h1).1
            · rw [List.mem_singleton.1 h1]; exact hx1)
          rw [hk2] at this
          simpa using this
        have hone2 : ∀ y v, alook (aput m x 1) y = some v → v = 1 := fun y v hv => by
          rw [alook_put] at hv
          split at hv
          · cases hv; rfl
          · exact hone y v hv
        have upx : ∀ y, Up L x y → ∃ s ∈ start, Up L s y := hst x (by simp)
        refine ⟨_, rfl, _, g2.c0, _, _, hgm.get x ⟨none, 0, 0⟩, ?_⟩
        rcases hr x with ⟨sl, ps, l1, l2, hps⟩ | ⟨_, l2⟩
        · rw [l1]
          have hpar : parV L x = ps := by simp [parV, l2]
          refine ⟨_, hps.srow, ?_⟩
          have hpl := hPl x
          rw [hpar] at hpl
          refine AppP.own ho2 hps.len rfl (oneCell_nums ps) rfl (by omega) ?_ ⟨.inr hu2.size, ?_⟩ fun s' h3 ho3 k3 => ?_
          · simp only [List.length_append, List.length_singleton] at hlen; omega
          · exact Nat.ne_of_gt hm2.lt
          · have hu3 := hu2.tr (k3.mono fun b hb => .inl hb.1)
            refine hI (xs ++ ps, aput m x 1) _ _ ⟨hu3, ho3, hm2.upd k3 (fun h => h.2 rfl), hone2, ?_, ?_, ?_, ?_, ?_⟩ ?_
            · simp only [List.length_append, List.length_singleton] at hlen ⊢; rw [hml]; omega
            · intro y hy
              simp only [hk2] at hy
              rcases List.mem_append.1 hy with h1 | h1
              · exact hkeys y h1
              · rw [List.mem_singleton.1 h1]; exact ⟨hx1, upx x (.refl hx1)⟩
            · intro z hz y hzy
              rcases List.mem_append.1 hz with h1 | h1
              · exact hst z (by simp [h1]) y hzy
              · exact upx y (.step hx1 (by rw [hpar]; exact h1) hzy)
            · intro s1 hs1 hsi
              simp only [hk2]
              rcases hstart s1 hs1 hsi with h1 | h1
              · exact .inl (List.mem_append_left _ h1)
              · rcases List.mem_append.1 h1 with h1 | h1
                · exact .inr (List.mem_append_left _ h1)
                · exact .inl (List.mem_append_right _ h1)
            · intro y hy p hp hpi
              simp only [hk2] at hy ⊢
              rcases List.mem_append.1 hy with h1 | h1
              · rcases hcl y h1 p hp hpi with h4 | h4
                · exact .inl (List.mem_append_left _ h4)
                · rcases List.mem_append.1 h4 with h4 | h4
                  · exact .inr (List.mem_append_left _ h4)
                  · exact .inl (List.mem_append_right _ h4)
              · rw [List.mem_singleton.1 h1, hpar] at hp
                exact .inr (List.mem_append_right _ hp)
            · show (L.length - (aput m x 1).length) * 3 + (xs ++ ps).length < (L.length - m.length) * 3 + (xs ++ [x]).length
              rw [hml, List.length_append, List.length_append, List.length_singleton]; omega
        · exact absurd hx1 (alook_none.1 l2)
    · have hz : stack = [] := by
        rw [ho.len] at hz
        exact List.length_eq_zero_iff.1 (by omega)
      subst hz
      refine hk _ _ m (Nat.le_refl _) hm (fun y => ⟨fun hy => (hkeys y hy).2, ?_⟩) hone (hu.mono fun b hb => hb)
      rintro ⟨s1, hs1, hup⟩
      have hup' : ∀ a b, Up L a b → a ∈ m.map (·.1) → b ∈ m.map (·.1) := by
        intro a b hab
        induction hab with
        | refl _ => exact id
        | step h1 h2 h3 ih =>
          intro h4
          rcases hcl _ h4 _ h2 h3.left with h5 | h5
          · exact ih h5
          · cases h5
      rcases hstart s1 hs1 hup.left with h5 | h5
      · exact hup' _ _ hup h5
      · cases h5
end Go.Proofs
