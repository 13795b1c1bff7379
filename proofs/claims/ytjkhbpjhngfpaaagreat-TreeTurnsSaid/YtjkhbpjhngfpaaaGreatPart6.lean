/- A part of the proof that the named laws of this program answer true, whatever the input. -/
import Derived.Test.YtjkhbpjhngfpaaaGreatPart5
import Derived.Test.YtjkhbpjhngfpaaaGreatPart4
namespace Go.Proofs
open Go Go.Lift
abbrev encP (x : Pr) : List Value := [.agg #[.string x.1, .string x.2]]
theorem appendSeqP_ok {h : Heap} {fv : Value} {N : Nat} {S : List Pr → Prop} {Q : Nat → Prop} (hg : Gives PG fv encP N S Q h) (hN : N ≤ 100000000) {K : SliceV → Heap → Prop}
    (hk : ∀ s' h' xs, S xs → OwnS prF 2 t_pair_Pair (fun b => h.size ≤ b) h' s' xs → Upd No h h' → K s' h') : HC PG f_slices_AppendSeq_A_pair_Pair_pair_Pair [.slice none 0 0, fv] [.c .slice] K h := by
  refine H_slices_AppendSeq_A_pair_Pair_pair_Pair ⟨none, 0, 0⟩ fv ?_
  unfold F_slices_AppendSeq_A_pair_Pair_pair_Pair
  have k0 := Upd.hnew No h [.slice none 0 0] t_A_pair_Pair
  have b0 := hnew_get h [.slice none 0 0] t_A_pair_Pair
  have hsz : (hnew h [.slice none 0 0] t_A_pair_Pair).size = h.size + 1 := hnew_size ..
  have hg1 := hg.upd k0 fun _ _ => id
  refine at_intro ?_
  generalize hnew h [.slice none 0 0] t_A_pair_Pair = h1 at hg1 k0 b0 hsz
  refine ⟨fun lo hlo hround => ?_⟩
  obtain ⟨f, first, cap, rfl, hrun⟩ := hg1.run
  refine ⟨f, first, cap, rfl, ?_⟩
  have k1 : Upd No h1 ((h1.push (.deferred (some []))).push (lo .ready none)) := (Upd.push No _ _).tr (Upd.push No _ _)
  have l2 : ((h1.push (.deferred (some []))).push (lo .ready none))[h1.size + 1]? = some (lo .ready none) := by
    have := push_get (h1.push (.deferred (some []))) (lo .ready none)
    rwa [Array.size_push] at this
  have l1 : ((h1.push (.deferred (some []))).push (lo .ready none))[h1.size]? = some (.deferred (some [])) := (Upd.push No _ _).get0 (push_get h1 _)
  refine hrun (.func (.yield (h1.size + 1)) #[] #[]) (fun pre A h' => (∀ b, A b → b < h'.size ∧ h.size ≤ b) ∧ A h.size ∧ A h1.size ∧ A (h1.size + 1) ∧ h'[h1.size]? = some (.deferred (some [])) ∧ h'[h1.size + 1]? = some (lo .ready none) ∧
      ∃ s : SliceV, h'[h.size]? = some (.cells #[sv s] t_A_pair_Pair (0, 0)) ∧ OwnS prF 2 t_pair_Pair (fun b => A b ∧ h1.size + 1 < b) h' s pre ∧ pre.length ≤ N)
    (fun b => b = h.size ∨ b = h1.size ∨ b = h1.size + 1) No _ _ ⟨fun _ _ _ hj b hb => (hj.1 b hb).1, fun pre A h' h'' B hj hu hB => ?_, fun pre A h' x K' hj hlen hK => ?_⟩ ?_ k1 (fun _ _ => id) (fun b hb hq => ?_) ?_
  · obtain ⟨h1', h2, h3, h4, h5, h6, s, h7, h8, h9⟩ := hj
    exact ⟨fun b hb => ⟨Nat.lt_of_lt_of_le (h1' b hb).1 hu.size, (h1' b hb).2⟩, h2, h3, h4, hu.get h5 (hB _ h3), hu.get h6 (hB _ h4), s, hu.get h7 (hB _ h2), h8.upd hu fun b hb => hB b hb.1, h9⟩
  · obtain ⟨hA, hA1, hA2, hA3, hd, hl, s, hs, ho, hpl⟩ := hj
    refine hround x h' K' hl ?_
    refine newPr (p := x) fun hp bp kp => ?_
    have zp := get_lt bp
    have hl := kp.get0 hl
    have hs := kp.get0 hs
    have hd := kp.get0 hd
    have hop := ho.upd kp fun _ _ h => h
    have sp := kp.size
    refine ⟨hl, ?_⟩
    have kb : Upd (· = h1.size + 1) hp (hp.setIfInBounds (h1.size + 1) (lo .busy none)) := Upd.set _ _ rfl
    have lb := set_get (o := lo .busy none) hl
    have sb := kb.size
    refine at_intro ?_
    generalize hp.setIfInBounds (h1.size + 1) (lo .busy none) = h2 at kb lb sb
    have hlt1 := (hA _ hA1).1
    have hlt3 := (hA _ hA3).1
    have bp2 := kb.get bp (by omega)
    have hs2 := kb.get hs (by omega)
    refine ⟨s, by rw [newA_eq, hcell_blk hs2]; rfl, _, vc bp2 0, _, vc bp2 1, at_intro ?_⟩
    refine append1p (p := x) (M := fun b => ((A b ∧ b < h'.size) ∨ h2.size ≤ b) ∧ h1.size + 1 < b) ((hop.upd kb fun b hb => by omega).more fun b hb => ⟨.inl ⟨hb.1, (hA b hb.1).1⟩, hb.2⟩) (fun b hb => ⟨.inr hb, by have := get_lt lb; omega⟩) (by omega) fun s' h3 ho3 hu3 => ?_
    have hs3 : h3[h.size]? = some (.cells #[sv s] t_A_pair_Pair (0, 0)) := hu3.get hs2 (by omega)
    refine ⟨by rw [newA_eq]; exact wr_blk hs3 (by simp), ?_⟩
    have k4 : Upd (· = h.size) h3 (hset h3 (newA h) (.slice s'.a s'.len s'.cap)) := Upd.hset _ _ rfl
    have hs4 : (hset h3 (newA h) (.slice s'.a s'.len s'.cap))[h.size]? = some (.cells #[sv s'] t_A_pair_Pair (0, 0)) := by
      rw [newA_eq, hset_blk hs3, set_get hs3]; rfl
    refine at_intro ?_
    generalize hset h3 (newA h) (.slice s'.a s'.len s'.cap) = h4 at k4 hs4
    have hl4 : h4[h1.size + 1]? = some (lo .busy none) := k4.get (hu3.get lb (by omega)) (by omega)
    refine ⟨hl4, ?_⟩
    have k5 : Upd (· = h1.size + 1) h4 (h4.setIfInBounds (h1.size + 1) (lo .ready none)) := Upd.set _ _ rfl
    have hl5 := set_get (o := lo .ready none) hl4
    have hall : Upd A h' h4 := ((kp.wide.tr (kb.mono (M' := A) fun b hb => .inl (hb ▸ hA3))).trans hu3 fun b hb => hb.1.imp (fun h => h.1) fun h => by omega).trans k4 fun b hb => .inl (hb ▸ hA1)
    have z3 := hu3.size
    have z4 := k4.size
    have z5 := k5.size
    refine hK _ (fun b => ((A b ∧ b < h'.size) ∨ h2.size ≤ b) ∧ b < h4.size) ⟨fun b hb => ⟨Nat.lt_of_lt_of_le hb.2 z5, hb.1.elim (fun h => (hA b h.1).2) fun h => by omega⟩, ⟨.inl ⟨hA1, hlt1⟩, by omega⟩, ⟨.inl ⟨hA2, (hA _ hA2).1⟩, by have := (hA _ hA2).1; omega⟩, ⟨.inl ⟨hA3, hlt3⟩, by omega⟩,
      k5.get (k4.get (hu3.get (kb.get hd (by omega)) (by omega)) (by omega)) (by omega), hl5, s', k5.get hs4 (by omega), ?_, by simp; omega⟩ (hall.trans k5 fun b hb => .inl (hb ▸ hA3)) fun b hb => hb.1.imp (fun h => h.1) fun h => by omega
    exact (((ho3.upd k4 fun b hb => by omega).within).more fun b hb => ⟨⟨hb.1.1, hb.2⟩, hb.1.2⟩).upd k5 fun b hb => by omega
  · refine ⟨fun b hb => ?_, .inl rfl, .inr (.inl rfl), .inr (.inr rfl), l1, l2, ⟨none, 0, 0⟩, k1.get0 b0, OwnS.nil prF_ne, Nat.zero_le _⟩
    have := get_lt l2
    rcases hb with rfl | rfl | rfl <;> omega
  · have := hg.lt b hq
    rcases hb with rfl | rfl | rfl <;> omega
  · rintro xs A' h' hS ⟨hA, hA1, hA2, hA3, hd, hl, s, hs, ho, hpl⟩ hu hA'
    refine ⟨.ready, none, by decide, hl, ?_⟩
    have k5 : Upd (· = h1.size + 1) h' (h'.setIfInBounds (h1.size + 1) (lo .exhausted none)) := Upd.set _ _ rfl
    show ∃ v : SliceV, hcell (h'.setIfInBounds (h1.size + 1) (lo .exhausted none)) (newA h) = some (.slice v.a v.len v.cap) ∧ _
    have hd5 := k5.get hd (show ¬ h1.size = h1.size + 1 by omega)
    have hs5 := k5.get hs (show ¬ h.size = h1.size + 1 by omega)
    have ho5 := ho.upd k5 fun b hb => by omega
    generalize h'.setIfInBounds (h1.size + 1) (lo .exhausted none) = h5 at k5 hd5 hs5 ho5
    refine ⟨s, by rw [newA_eq, hcell_blk hs5]; rfl, hd5, ?_⟩
    have k6 : Upd (· = h1.size) h5 (h5.setIfInBounds h1.size (.deferred none)) := Upd.set _ _ rfl
    refine hk s _ xs hS ((ho5.upd k6 fun b hb => by omega).more fun b hb => (hA b hb.1).2) ?_
    refine (((k0.tr k1).trans hu fun b hb => ?_).trans k5 fun b hb => .inr (by omega)).trans k6 fun b hb => .inr (by omega)
    rcases hb with rfl | rfl | rfl <;> (right; omega)
theorem collectP_ok {h : Heap} {fv : Value} {N : Nat} {S : List Pr → Prop} {Q : Nat → Prop} (hg : Gives PG fv encP N S Q h) (hN : N ≤ 100000000) {K : SliceV → Heap → Prop}
    (hk : ∀ s' h' xs, S xs → OwnS prF 2 t_pair_Pair (fun b => h.size ≤ b) h' s' xs → Upd No h h' → K s' h') : HC PG f_slices_Collect_pair_Pair [fv] [.c .slice] K h := by
  refine H_slices_Collect_pair_Pair fv ?_
  unfold F_slices_Collect_pair_Pair
  exact appendSeqP_ok hg hN hk
/-- A new cursor over a tree. -/
theorem spanNew_ok {W : Nat → Prop} {h : Heap} {b : Nat} {w : Option ByteArray} {F : Fo} (io : It.Ok W h ⟨b, ⟨#[]⟩, false, ⟨#[]⟩, w, F⟩) (hW : ∀ y, h.size ≤ y → W y) {K : Option Addr → Heap → Prop}
    (hk : ∀ h' cb, h.size ≤ cb → cb < h'.size → Cur W h' cb (fun y => h.size ≤ y ∧ y ≠ cb) [⟨b, ⟨#[]⟩, false, ⟨#[]⟩, w, F⟩] → Upd No h h' → K (some ⟨cb, 0, none⟩) h') : HC PG f_span_New [.pointer (some ⟨b, 0, none⟩), .agg #[.string ⟨#[]⟩, .string ⟨#[]⟩, .bool true], .bool false] [.c .ptr] K h := by
  refine H_span_New (some ⟨b, 0, none⟩) (⟨#[]⟩, ⟨#[]⟩, true) false ?_
  unfold F_span_New
  refine at_new fun h1 b1 k1 => ⟨_, vc b1 0, _, vc b1 1, true, vc b1 2, at_new fun h2 b2 k2 => condP_true.2 ⟨_, rfl, ⟨none, 0, 0⟩, vc b2 0, at_new fun h3 b3 k3 => ?_⟩⟩
  have s1 := k1.size
  have s2 := k2.size
  have z2 := get_lt b2
  have z3 := get_lt b3
  have o3 : OwnS wkF 3 t_span_work (fun _ => True) h3 ⟨some (newA h2), 1, 1⟩ [(some ⟨b, 0, none⟩, ⟨#[]⟩, false)] := ⟨rfl, wkF_ne, Nat.le_refl _, .inr ⟨h2.size, [], rfl, trivial, b3, rfl⟩⟩
  refine ⟨_, (o3.sl (W := No) fun _ _ _ h => h).srow, ?_⟩
  refine AppP.own (M := fun y => h3.size ≤ y) (ys := [(some ⟨b, 0, none⟩, ⟨#[]⟩, false)]) (OwnS.nil (f := wkF) wkF_ne) rfl rfl rfl rfl (by omega) (by simp) (Nat.le_refl _) fun s4 h4 ho4 hu4 => ?_
  have c4 := hu4.get (k3.get0 b2) (by omega)
  refine ⟨_, rfl, ?_⟩
  refine vset (i := 0) (c' := curC s4) c4 (show 0 < 5 by decide) rfl fun h5 c5 hu5 => ?_
  have hu : Upd No h h5 := (((k1.tr k2).tr k3).trans hu4 fun y hy => .inr (by omega)).own hu5 s1
  have s5 := hu4.size
  have s6 := hu5.size
  refine hk h5 h1.size s1 (by omega) ⟨⟨s4, c5, ?_⟩, fun i hi => ?_⟩ hu
  · exact (ho4.upd hu5 fun y hy e => by have e : y = h1.size := e; omega).more fun y hy => ⟨by omega, by omega⟩
  · rw [List.mem_singleton.1 hi]
    exact io.updM hu fun _ h => h.elim
theorem toU_app (l m : List Pr) : toU (l ++ m) = toU l ++ toU m := by unfold toU; rw [List.map_append]
/-- Each: an iterator over the pairs of a tree. -/
theorem spanEach_ok {W : Nat → Prop} {h : Heap} {b : Nat} {l : List Pr} (t : RadAt W h b l) (hr : Rises l) (hf : Fit l) (hn : l.length ≤ 60000) {K : Value → Heap → Prop}
    (hk : ∀ fv h', Gives PG fv encP (2 * l.length) (fun xs => xs = l) (fun y => y < h'.size) h' → Upd No h h' → K fv h') : HC PG f_span_Each [.pointer (some ⟨b, 0, none⟩), .agg #[.string ⟨#[]⟩, .string ⟨#[]⟩, .bool true], .bool false] [.c .raw] K h := by
  refine H_span_Each (some ⟨b, 0, none⟩) (⟨#[]⟩, ⟨#[]⟩, true) false ?_
  unfold F_span_Each
  refine at_new fun h1 b1 k1 => at_new fun h2 b2 k2 => at_new fun h3 b3 k3 => ?_
  have k03 := (k1.tr k2).tr k3
  have c1 := k3.get0 (k2.get0 b1)
  have c2 := k3.get0 b2
  have z1 := get_lt c1
  have z2 := get_lt c2
  have z3 := get_lt b3
  refine hk _ h3 ?_ k03
  obtain ⟨w, F, r1, r2, r3⟩ := (((t.upd0 k03).less (W' := fun y => h3.size ≤ y) fun y hy => .inr hy)).ex
  have hprs := rad_prs r2 hr r3
  have hcnt := cntF_le r2
  have hlenU := congrArg List.length hprs
  unfold prsR toU at hlenU
  rw [List.length_append, List.length_map] at hlenU
  refine ⟨fun y hy => hy, f_span_Each_1, #[], _, rfl, fun y J A M h4 K' ht hj hu hq ha hk' => ?_⟩
  refine HE_span_Each_1 y (newA h) (newA h1) (newA h2) ?_
  unfold F_span_Each_1
  have d1 := hu.get c1 (hq _ z1)
  have d2 := hu.get c2 (hq _ z2)
  have d3 := hu.get b3 (hq _ z3)
  have s4 := hu.size
  have io : It.Ok (fun y => h3.size ≤ y) h4 ⟨b, ⟨#[]⟩, false, ⟨#[]⟩, w, F⟩ := ⟨r1.updM hu fun y hy => .inl (by
    rcases Nat.lt_or_ge y h3.size with hl | hl
    · exact absurd hy (hq y hl)
    · exact hl), r2, by simp [It.key], fun p hp => by
      rw [hprs] at hp
      obtain ⟨q, hq', e⟩ := List.mem_map.1 hp
      have := (hf q hq').1
      rw [← e]
      simpa [It.key] using this⟩
  refine ⟨_, (by have := vc d1 0; rw [adr_mk, Nat.add_zero] at this; exact this), _, vc d2 0, _, vc d2 1, true, vc d2 2, false, (by have := vc d3 0; rw [adr_mk, Nat.add_zero] at this; exact this), ?_⟩
  refine spanNew_ok io (fun y hy => Nat.le_trans s4 hy) fun h5 cb hcb hcb5 cur k5 => ?_
  have hAlt := ht.lt _ _ _ hj
  have hA3 : ∀ y, A y → h3.size ≤ y := fun y hy => by
    rcases Nat.lt_or_ge y h3.size with hl | hl
    · exact absurd hl (ha y hy)
    · exact hl
  have s5 := k5.size
  have hcost0 : costP [⟨b, ⟨#[]⟩, false, ⟨#[]⟩, w, F⟩] ≤ 100000000 := by
    have : costP [⟨b, ⟨#[]⟩, false, ⟨#[]⟩, w, F⟩] = 2 + 2 * cntF F := by simp [costP, It.cost]
    rw [this]; omega
  have hrem0 : remP [⟨b, ⟨#[]⟩, false, ⟨#[]⟩, w, F⟩] = toU l := by
    rw [← hprs]
    simp [remP, It.prs, It.key]
  refine LoopP.ghost (fun (g : List Pr × List It × (Nat → Prop)) (_ : Unit) h' => Cur (fun y => h3.size ≤ y) h' cb (fun y => h4.size ≤ y ∧ y ≠ cb ∧ ¬ g.2.2 y) g.2.1 ∧ J g.1 g.2.2 h' ∧ Upd A h4 h' ∧ (∀ y, g.2.2 y → (A y ∨ h4.size ≤ y) ∧ y ≠ cb) ∧ toU g.1 ++ remP g.2.1 = toU l ∧ costP g.2.1 ≤ 100000000 ∧ h5.size ≤ h'.size) (fun g => (remP g.2.1).length) ([], [⟨b, ⟨#[]⟩, false, ⟨#[]⟩, w, F⟩], A)
    ⟨cur.sub fun y hy hlt => ⟨hy.1, hy.2, fun hx => by have := hAlt y hx; omega⟩, ht.keep _ _ _ _ No hj k5 (fun _ _ h => h), k5.wide, fun y hy => ⟨.inl hy, by have := hAlt y hy; omega⟩, by rw [hrem0]; rfl, hcost0, Nat.le_refl _⟩ ?_
  rintro I ⟨pre, items, A1⟩ ⟨⟩ h' ⟨cu, hj', hu', hA1, hrem, hco, hsz⟩ hI
  simp only at cu hj' hA1 hrem hco
  have hlt' := ht.lt _ _ _ hj'
  have hA1W : ∀ y, A1 y → h3.size ≤ y := fun y hy => (hA1 y hy).1.elim (hA3 y) fun h => by omega
  refine next_ok cu (fun y hy => ⟨by omega, by omega, fun hx => by have := hlt' y hx; omega⟩) (fun y hy => Nat.le_trans s4 hy.1) (Nat.le_trans s4 hcb) (fun hx => hx.2.1 rfl) hco (fun h6 hr0 hu6 => ?_) fun h6 items' k v R hr1 hr2 hc6 cu6 hu6 => ?_
  · have hd : ∀ y, A1 y → ¬ ((h4.size ≤ y ∧ y ≠ cb ∧ ¬ A1 y) ∨ y = cb) := fun y hy hx => hx.elim (fun h => h.2.2 hy) (hA1 y hy).2
    have hj6 := ht.keep _ _ _ _ _ hj' hu6 hd
    refine newPr fun h7 b7 k7 => ?_
    refine Join.intro (fun t h8 => t = true ∧ h8 = h7) (fun R hR => condP_true.2 (hR _ _ ⟨rfl, rfl⟩)) ?_
    rintro t h8 ⟨rfl, rfl⟩
    refine condP_true.2 (hk' pre A1 h8 ?_ (ht.keep _ _ _ _ No hj6 k7 (fun _ _ h => h)) ?_ fun y hy => (hA1 y hy).1)
    · rw [hr0, List.append_nil] at hrem
      exact toU_inj hrem
    · exact (hu'.trans hu6 fun y hy => .inr (by rcases hy with hy | hy; exact hy.1; omega)).tr k7.wide
  · have hd : ∀ y, A1 y → ¬ ((h4.size ≤ y ∧ y ≠ cb ∧ ¬ A1 y) ∨ y = cb) := fun y hy hx => hx.elim (fun h => h.2.2 hy) (hA1 y hy).2
    have hj6 := ht.keep _ _ _ _ _ hj' hu6 hd
    refine newPr (p := (⟨k.toArray⟩, v)) fun h7 b7 k7 => ?_
    have hj7 := ht.keep _ _ _ _ No hj6 k7 (fun _ _ h => h)
    have cu7 := cu6.upd k7 (fun _ h => h.elim) (fun _ _ _ h => h) fun h => h
    have hu47 : Upd A h4 h7 := (hu'.trans hu6 fun y hy => .inr (by rcases hy with hy | hy; exact hy.1; omega)).tr k7.wide
    have s6 := hu6.size
    have s7 := k7.size
    refine Join.intro (fun t h8 => t = false ∧ ∃ A3, J (pre ++ [(⟨k.toArray⟩, v)]) A3 h8 ∧ Upd A1 h7 h8 ∧ ∀ y, A3 y → A1 y ∨ h7.size ≤ y) (fun R' hR => ?_) ?_
    · refine condP_false.2 ⟨_, vc b7 0, _, vc b7 1, ?_⟩
      refine ht.step pre A1 h7 (⟨k.toArray⟩, v) _ hj7 ?_ fun h8 A3 hj8 hu8 hA8 => hR _ _ ⟨rfl, A3, hj8, hu8, hA8⟩
      have := congrArg List.length hrem
      rw [hr1] at this
      simp only [toU, List.length_append, List.length_map, List.length_cons] at this
      omega
    · rintro t h8 ⟨rfl, A3, hj8, hu8, hA8⟩
      refine condP_false.2 (hI (pre ++ [(⟨k.toArray⟩, v)], items', A3) () h8 ⟨?_, hj8, ?_, fun y hy => ?_, ?_, by simp only; omega, by have := hu8.size; omega⟩ ?_)
      · have c7 : Cur (fun y => h3.size ≤ y) h7 cb (fun y => (h4.size ≤ y ∧ y ≠ cb ∧ ¬ A1 y) ∧ y < h7.size) items' := cu7.sub fun y hy hlt => ⟨hy, hlt⟩
        exact (c7.upd hu8 (fun y hy => .inl (hA1W y hy)) (fun y hy _ hx => hy.1.2.2 hx) (fun hx => (hA1 _ hx).2 rfl)).sub fun y hy _ => ⟨hy.1.1, hy.1.2.1, fun hx => by
          rcases hA8 y hx with h | h
          · exact hy.1.2.2 h
          · have := hy.2; omega⟩
      · exact hu47.trans hu8 fun y hy => (hA1 y hy).1
      · rcases hA8 y hy with h | h
        · exact hA1 y h
        · exact ⟨.inr (by omega), by omega⟩
      · simp only
        rw [toU_app, List.append_assoc, hr2, ← hrem, hr1]
        rfl
      · simp only
        rw [hr1, hr2]; simp
theorem spanPairs_ok {W : Nat → Prop} {h : Heap} {b : Nat} {l : List Pr} (t : RadAt W h b l) (hr : Rises l) (hf : Fit l) (hn : l.length ≤ 60000) {K : SliceV → Heap → Prop}
    (hk : ∀ s' h', OwnS prF 2 t_pair_Pair (fun y => h.size ≤ y) h' s' l → Upd No h h' → K s' h') : HC PG f_span_Pairs [.pointer (some ⟨b, 0, none⟩), .agg #[.string ⟨#[]⟩, .string ⟨#[]⟩, .bool true]] [.c .slice] K h := by
  refine H_span_Pairs (some ⟨b, 0, none⟩) (⟨#[]⟩, ⟨#[]⟩, true) ?_
  unfold F_span_Pairs
  refine at_new fun h1 b1 k1 => ⟨_, vc b1 0, _, vc b1 1, true, vc b1 2, ?_⟩
  refine spanEach_ok (t.upd0 k1) hr hf hn fun fv h2 hg k2 => ?_
  refine collectP_ok hg (by omega) fun s3 h3 xs e ho k3 => ?_
  subst e
  have s12 := (k1.tr k2).size
  exact hk s3 h3 (ho.more fun y hy => by omega) ((k1.tr k2).tr k3)
theorem tPairsR_ok {W : Nat → Prop} {x : Hs} {h : Heap} {t : Tr} {l : List Pr} (i : TreeIs W h 1 x t l) (hr : Rises l) (hf : Fit l) (hn : l.length ≤ 60000) {K : SliceV → Heap → Prop}
    (hk : ∀ s' h', OwnS prF 2 t_pair_Pair (fun y => h.size ≤ y) h' s' l → Upd No h h' → K s' h') : HC PG f_tree_Tree_Pairs [trV t] [.c .slice] K h := by
  refine H_tree_Tree_Pairs t ?_
  unfold F_tree_Tree_Pairs
  rcases i with ⟨e, _⟩ | ⟨_, b, rfl, t⟩
  · cases e
  refine at_new fun h1 b1 k1 => ⟨_, vc b1 0, condP_true.2 ⟨_, vc b1 5, ?_⟩⟩
  refine H_span_All ?_
  unfold F_span_All
  refine at_new fun h2 b2 k2 => ?_
  refine setAll (c := [.string (⟨#[]⟩ : ByteArray), .string (⟨#[]⟩ : ByteArray), .bool false]) (vs := [.string (⟨#[]⟩ : ByteArray), .string (⟨#[]⟩ : ByteArray), .bool true]) b2 rfl fun h3 b3 hu3 => ?_
  have k3 : Upd No h1 h3 := k2.own hu3 (Nat.le_refl _)
  have k03 := k1.tr k3
  refine ⟨_, vc b3 0, _, vc b3 1, true, vc b3 2, vc (k3.get0 b1) 5, ?_⟩
  refine spanPairs_ok (t.upd0 k03) hr hf hn fun s4 h4 ho k4 => hk s4 h4 (ho.more fun y hy => ?_) (k03.tr k4)
  have := k03.size
  omega
end Go.Proofs
namespace Go.Proofs
open Go Go.Lift
theorem prsF_len : ∀ F : Fo, (prsF F).length = (F.toL.map fun n => (prsR n.2.1 n.2.2).length).sum
  | .nil => rfl
  | .cons lab w kids rest => by
    rw [prsF_cons, Fo.toL_cons, List.map_cons, List.sum_cons, ← prsF_len rest, List.length_append, List.length_map]
    rfl
def LenN (n : Bn) : Prop := ∀ {W : Nat → Prop} {h : Heap} {b : Nat} {sl : ByteArray}, RxN W h b sl n.2.1 n.2.2 → (prsR n.2.1 n.2.2).length ≤ 1000000000 → ∀ {K : Int → Heap → Prop}, (∀ h', Upd No h h' → K (((prsR n.2.1 n.2.2).length : Nat) : Int) h') → HC PG f_radix_Len [.pointer (some ⟨b, 0, none⟩)] [.c (.int .i64)] K h
theorem lenN_of {lab : List UInt8} {w : Option ByteArray} {F : Fo} (hn : F.toL.length ≤ 256) (ih : ∀ n ∈ F.toL, LenN n) : LenN (lab, w, F) := by
  intro W h b sl r hl K hk
  simp only at r hl hk
  refine H_radix_Len (some ⟨b, 0, none⟩) ?_
  unfold F_radix_Len
  have hpl : (prsR w F).length = (w.map fun v => (([] : List UInt8), v)).toList.length + (F.toL.map fun n => (prsR n.2.1 n.2.2).length).sum := by
    rw [← prsF_len, ← List.length_append]; rfl
  refine Join.intro (fun t h' => t = (((w.map fun v => (([] : List UInt8), v)).toList.length : Nat) : Int) ∧ h' = h) (fun R hR => ?_) ?_
  · refine rxValue_ok r fun v _ => ?_
    cases w with
    | none => exact condP_false.2 (hR _ _ ⟨rfl, rfl⟩)
    | some u => exact condP_true.2 (hR _ _ ⟨rfl, rfl⟩)
  · rintro t h' ⟨rfl, rfl⟩
    generalize (w.map fun v => (([] : List UInt8), v)).toList.length = c0 at hpl
    refine rxKids_ok r hn fun s1 h1 ks ho1 hL1 k1 => ?_
    have hs1 : Sl rxF 1 No h1 s1 ks := ho1.sl fun _ _ _ h => h
    have hlen := hs1.len
    rw [hL1.1] at hlen
    refine LoopP.ghost (fun (i : Nat) (t : Int × Int) h2 => t.1 = ((c0 + ((F.toL.take i).map fun n => (prsR n.2.1 n.2.2).length).sum : Nat) : Int) ∧ t.2 = (i : Int) ∧ i ≤ F.toL.length ∧ Upd No h1 h2) (fun i => F.toL.length - i) 0 ⟨by simp, rfl, Nat.zero_le _, Upd.refl _ _⟩ ?_
    rintro I i ⟨ta, ti⟩ h2 ⟨e1, e2, hi, hu⟩ hI
    simp only at e1 e2
    subst e1 e2
    have hle : ∀ i, ((F.toL.take i).map fun n => (prsR n.2.1 n.2.2).length).sum ≤ (F.toL.map fun n => (prsR n.2.1 n.2.2).length).sum := fun i => by
      conv => rhs; rw [← List.take_append_drop i F.toL, List.map_append, List.sum_append]
      omega
    refine condP_dec (fun hlt => ?_) fun hge => ?_
    · have hlt : i < F.toL.length := by have : (i : Int) < (s1.len : Int) := hlt; omega
      obtain ⟨kb, ksl, hki, _, hkn⟩ := (hL1.upd0 hu).at hlt
      obtain ⟨a, ha, _, hv⟩ := (hs1.upd hu fun _ h => h.elim).at0 hki
      refine ⟨⟨by simp only; omega, by simp only; omega⟩, a, ha, some ⟨kb, 0, none⟩, hv, ?_⟩
      have hst : ((F.toL.take (i + 1)).map fun n => (prsR n.2.1 n.2.2).length).sum = ((F.toL.take i).map fun n => (prsR n.2.1 n.2.2).length).sum + (prsR F.toL[i].2.1 F.toL[i].2.2).length := by
        rw [List.take_succ_eq_append_getElem hlt, List.map_append, List.sum_append]; simp
      have h1 := hle (i + 1)
      refine ih _ (List.getElem_mem hlt) hkn (by omega) fun h3 hu3 => ?_
      rw [wrap_succ hlt (by omega)]
      have e : IntKind.wrap .i64 (((c0 + ((F.toL.take i).map fun n => (prsR n.2.1 n.2.2).length).sum : Nat) : Int) + ((prsR F.toL[i].2.1 F.toL[i].2.2).length : Int)) = ((c0 + ((F.toL.take (i + 1)).map fun n => (prsR n.2.1 n.2.2).length).sum : Nat) : Int) := by
        rw [w64 (by omega)]; omega
      rw [e]
      exact hI (i + 1) _ _ ⟨rfl, rfl, hlt, hu.tr hu3⟩ (by omega)
    · have hil : i = F.toL.length := by have : ¬ (i : Int) < (s1.len : Int) := hge; omega
      subst hil
      rw [List.take_length, ← hpl]
      exact hk h2 (k1.tr hu)
theorem lenN_all : ∀ {F : Fo}, CanF F → ∀ n ∈ F.toL, LenN n
  | .nil, _, n, hn => by simp [Fo.toL] at hn
  | .cons lab w kids rest, h, n, hn => by
    rcases List.mem_cons.1 hn with rfl | hn
    · exact lenN_of (can_len h.2.2.1) (lenN_all h.2.2.1)
    · exact lenN_all h.2.2.2.2 n hn
theorem tLenR_ok {W : Nat → Prop} {x : Hs} {h : Heap} {t : Tr} {l : List Pr} (i : TreeIs W h 1 x t l) (hr : Rises l) (hn : l.length ≤ 60000) {K : Int → Heap → Prop} (hk : ∀ h', Upd No h h' → K (l.length : Int) h') : HC PG f_tree_Tree_Len [trV t] [.c (.int .i64)] K h := by
  refine H_tree_Tree_Len t ?_
  unfold F_tree_Tree_Len
  rcases i with ⟨e, _⟩ | ⟨_, b, rfl, t⟩
  · cases e
  refine at_new fun h1 b1 k1 => ⟨_, vc b1 0, condP_true.2 ⟨_, vc b1 5, ?_⟩⟩
  obtain ⟨w, F, r1, r2, r3⟩ := (t.upd0 k1).ex
  have hp := rad_prs r2 hr r3
  have hpl := congrArg List.length hp
  unfold toU at hpl
  rw [List.length_map] at hpl
  refine lenN_of (lab := []) (can_len r2) (lenN_all r2) r1 (by simp only; omega) fun h2 k2 => ?_
  simp only
  rw [hpl]
  exact hk h2 (k1.tr k2)
theorem tKind_ok {t : Tr} {h : Heap} {K : Int → Heap → Prop} (hk : ∀ h', Upd No h h' → K t.1 h') : HC PG f_tree_Tree_Kind [trV t] [.c (.int .i64)] K h := by
  refine H_tree_Tree_Kind t ?_
  unfold F_tree_Tree_Kind
  exact at_new fun h1 b1 k1 => ⟨_, vc b1 0, hk h1 k1⟩
theorem awake14_ok {h : Heap} {K : Bool → Heap → Prop} (hk : ∀ h', Upd No h h' → K true h') : HC PG f_l14_awake [] [.c .bool] K h := by
  refine H_l14_awake ?_
  unfold F_l14_awake
  have hx0 : Hs := ⟨0, 0, 0⟩
  refine tNew_ok (W := fun y => y < h.size) (x := ⟨0, 0, 0⟩) (fun _ h => h) (.inr rfl) fun h2 t i2 k2 => ?_
  refine at_new fun h3 b3 k3 => ?_
  refine setAll (c := trL tr0) (vs := trL t) b3 rfl fun h4 b4 hu4 => ?_
  have k24 : Upd No h2 h4 := k3.own hu4 (Nat.le_refl _)
  have k04 := k2.tr k24
  have s2 := k2.size
  have s4 := k24.size
  have z4 := get_lt b4
  refine ⟨_, vc b4 0, _, vc b4 1, _, vc b4 2, _, vc b4 3, _, vc b4 4, _, vc b4 5, ?_⟩
  refine tWith_ok (W := fun y => y < h.size) (i2.upd0 k24) (fun y hy => by omega) List.Pairwise.nil (Nat.zero_le _) (⟨#[97]⟩, ⟨#[49]⟩) (by decide) (by decide) fun h12 u i12 _ k12 => ?_
  refine at_new fun h13 b13 k13 => ?_
  refine setAll (c := trL tr0) (vs := trL u) b13 rfl fun h14 b14 hu14 => ?_
  have k1214 : Upd No h12 h14 := k13.own hu14 (Nat.le_refl _)
  have z14 := get_lt b14
  refine ⟨_, vc b14 0, _, vc b14 1, _, vc b14 2, _, vc b14 3, _, vc b14 4, _, vc b14 5, ?_⟩
  have hri : Rises (insR ((⟨#[97]⟩ : ByteArray), (⟨#[49]⟩ : ByteArray)) []) := List.pairwise_singleton ..
  refine tPairsR_ok (i12.upd0 k1214) hri (fun p hp => by have := List.mem_singleton.1 hp; subst this; exact ⟨by decide, by decide⟩) (by decide) fun s22 h22 ho22 k22 => ?_
  have hlen := ho22.len
  have hs22 := ho22.sl (W := No) fun _ _ _ h => h
  obtain ⟨a, ha, _, hv⟩ := hs22.at (i := 0) (x := ((⟨#[97]⟩ : ByteArray), (⟨#[49]⟩ : ByteArray))) rfl
  have e1 : ((s22.len : Int) == (1 : Int)) = true := by rw [hlen]; rfl
  refine condP_true.2 (condP_true.2 ?_)
  rw [e1]
  refine condP_true.2 ⟨⟨by omega, by rw [hlen]; decide⟩, a, ha, ⟨#[97]⟩, hv 0 _ rfl, ?_⟩
  rw [beq_self_eq_true]
  have c22 := k22.get0 (k1214.get0 (k12.get0 b4))
  refine condP_true.2 ⟨_, vc c22 0, _, vc c22 1, _, vc c22 2, _, vc c22 3, _, vc c22 4, _, vc c22 5, ?_⟩
  have k422 := (k12.tr k1214).tr k22
  refine tLenR_ok ((i2.upd0 k24).upd0 k422) List.Pairwise.nil (by decide) fun h32 k32 => condP_true.2 ?_
  have c32 := k32.get0 (k22.get0 b14)
  refine ⟨_, vc c32 0, _, vc c32 1, _, vc c32 2, _, vc c32 3, _, vc c32 4, _, vc c32 5, tKind_ok fun h40 k40 => ?_⟩
  have eu : u.1 = 1 := by
    rcases i12 with ⟨e, _⟩ | ⟨_, b, rfl, _⟩
    · cases e
    · rfl
  rw [eu]
  exact hk h40 (((k04.tr k422).tr k32).tr k40)
end Go.Proofs
namespace Go.Proofs
open Go Go.Lift
theorem Sl.det {α : Type} {f : α → List Value} {sz : Nat} {W W' : Nat → Prop} {h : Heap} {s : SliceV} {xs ys : List α} (hi : ∀ x y, f x = f y → x = y) (a : Sl f sz W h s xs) (b : Sl f sz W' h s ys) : xs = ys := by
  apply List.ext_getElem
  · rw [← a.len, ← b.len]
  · intro i h1 h2
    refine hi _ _ (List.ext_getElem? fun j => ?_)
    obtain ⟨p, hp, _, hv⟩ := a.at (List.getElem?_eq_getElem h1)
    obtain ⟨q, hq, _, hw⟩ := b.at (List.getElem?_eq_getElem h2)
    rw [hp] at hq; cases hq
    have l1 := (a.ne xs[i]).1
    have l2 := (b.ne ys[i]).1
    by_cases hj : j < sz
    · have e1 := hv j _ (List.getElem?_eq_getElem (by omega))
      have e2 := hw j _ (List.getElem?_eq_getElem (by omega))
      rw [e1] at e2
      rw [List.getElem?_eq_getElem (by omega), List.getElem?_eq_getElem (by omega)]
      exact e2
    · rw [List.getElem?_eq_none (by omega), List.getElem?_eq_none (by omega)]
theorem prF_inj (x y : Pr) (h : prF x = prF y) : x = y := by
  simp only [prF, List.cons.injEq, Value.string.injEq, and_true] at h
  exact Prod.ext h.1 h.2
theorem ndF_inj (x y : Option Addr) (h : ndF x = ndF y) : x = y := by
  simpa [ndF] using h
theorem rxF_inj (x y : Option Addr) (h : rxF x = rxF y) : x = y := by
  simpa [rxF] using h
theorem nodeC_inj {d d' n n' : Nat} {sp sk sp' sk' : SliceV} {bu bu' : Bool} {ow ow' : Option Addr} (h : nodeC d n sp sk bu ow = nodeC d' n' sp' sk' bu' ow') : d = d' ∧ n = n' ∧ sp = sp' ∧ sk = sk' := by
  simp only [nodeC, Array.mk.injEq, List.cons.injEq, Value.int.injEq, true_and, sv, Value.slice.injEq, Value.bool.injEq, Value.pointer.injEq, and_true] at h
  obtain ⟨h1, h2, ⟨h3, h4, h5⟩, ⟨h6, h7, h8⟩, _⟩ := h
  refine ⟨by omega, by omega, ?_, ?_⟩
  · cases sp; cases sp'; simp only at h3 h4 h5; subst h3 h4 h5; rfl
  · cases sk; cases sk'; simp only at h6 h7 h8; subst h6 h7 h8; rfl
/-- A trie is of one list alone. -/
theorem trie_det {W W' : Nat → Prop} {x : Hs} {h : Heap} : ∀ {m b : Nat} {l l' : List Pr}, TrieAt W x h m b l → TrieAt W' x h m b l' → Rises l → Rises l' → l = l'
  | 0, b, l, l', t, t', _, _ => by
    obtain ⟨sp, sk, ow, hb, hs, _⟩ := t.ex
    obtain ⟨sp', sk', ow', hb', hs', _⟩ := t'.ex
    rw [hb] at hb'
    simp only [Option.some.injEq, Obj.cells.injEq, and_true] at hb'
    obtain ⟨_, _, rfl, _⟩ := nodeC_inj hb'
    exact Sl.det prF_inj hs hs'
  | m + 1, b, l, l', ⟨s, nd, hc⟩, ⟨s', nd', hc'⟩, hr, hr' => by
    obtain ⟨d, n, sp, sk, ow, hb, bits, hs, hk, _⟩ := nd.ex
    obtain ⟨d', n', sp', sk', ow', hb', bits', hs', hk', _⟩ := nd'.ex
    rw [hb] at hb'
    simp only [Option.some.injEq, Obj.cells.injEq, and_true] at hb'
    obtain ⟨rfl, rfl, rfl, rfl⟩ := nodeC_inj hb'
    have e1 := fm_inj 32 (fun c hc => by rw [← bits.dp c hc, bits'.dp c hc]) (Sl.det prF_inj hs hs')
    have e2 := fm_inj 32 (fun c hc => by rw [← bits.nk c hc, bits'.nk c hc]) (Sl.det ndF_inj hk hk')
    refine part_ext (x := x) (lev := 12 - m) hr hr' fun c hlt => ?_
    have t1 := hc c hlt
    have t2 := hc' c hlt
    rw [← e1 c hlt, ← e2 c hlt] at t2
    rcases t1 with ⟨h1, h2, h3⟩ | ⟨p, h1, h2, h3⟩ | ⟨h1, h2, kb, h3, h4⟩ <;> rcases t2 with ⟨g1, g2, g3⟩ | ⟨q, g1, g2, g3⟩ | ⟨g1, g2, kb', g3, g4⟩ <;> simp_all
    exact trie_det h4 g4 (rises_part hr) (rises_part hr')
theorem rxC_inj {sl sl' v v' : ByteArray} {b b' : Bool} {s s' : SliceV} {ow ow' : Option Addr} (h : rxC sl b v s ow = rxC sl' b' v' s' ow') : sl = sl' ∧ b = b' ∧ v = v' ∧ s = s' := by
  simp only [rxC, Array.mk.injEq, List.cons.injEq, Value.string.injEq, sv, Value.slice.injEq, Value.bool.injEq, Value.pointer.injEq, and_true] at h
  obtain ⟨h1, h2, h3, ⟨h6, h7, h8⟩, _⟩ := h
  refine ⟨h1, h2, h3, ?_⟩
  cases s; cases s'; simp only at h6 h7 h8; subst h6 h7 h8; rfl
theorem opt_det {w w' : Option ByteArray} {v : ByteArray} (h : w.isSome = w'.isSome) (h1 : ∀ u, w = some u → v = u) (h2 : ∀ u, w' = some u → v = u) : w = w' := by
  cases w <;> cases w' <;> simp_all
theorem rx_det {W W' : Nat → Prop} {h : Heap} : ∀ {F F' : Fo} {ks : List (Option Addr)}, RxF W h F ks → RxF W' h F' ks → F = F'
  | .nil, .nil, _, _, _ => rfl
  | .nil, .cons .., ks, h1, h2 => by
    obtain ⟨b, sl, val, s, ow, ks1, ks', e0, _⟩ := h2
    have h1 : ks = [] := h1
    rw [h1] at e0; cases e0
  | .cons .., .nil, ks, h1, h2 => by
    obtain ⟨b, sl, val, s, ow, ks1, ks', e0, _⟩ := h1
    have h2 : ks = [] := h2
    rw [h2] at e0; cases e0
  | .cons lab w kids rest, .cons lab' w' kids' rest', ks, ⟨b, sl, val, s, ow, ks1, ks', e0, e1, e2, e3, e4, e5, e6, e7⟩, ⟨b', sl', val', s', ow', ks1', ks'', f0, f1, f2, f3, f4, f5, f6, f7⟩ => by
    rw [e0] at f0
    simp only [List.cons.injEq, Option.some.injEq, Addr.mk.injEq, and_true] at f0
    obtain ⟨rfl, rfl⟩ := f0
    rw [e2] at f2
    simp only [Option.some.injEq, Obj.cells.injEq, and_true] at f2
    obtain ⟨rfl, g2, rfl, rfl⟩ := rxC_inj f2
    have := Sl.det rxF_inj e4 f4
    subst this
    rw [rx_det e6 f6, rx_det e7 f7, ← e1, ← f1, opt_det g2 e3 f3]
theorem rad_det {W W' : Nat → Prop} {h : Heap} {b : Nat} {l l' : List Pr} (t : RadAt W h b l) (t' : RadAt W' h b l') (hr : Rises l) (hr' : Rises l') : l = l' := by
  obtain ⟨w, F, ⟨val, s, ow, ks, e2, e3, e4, e5, e6⟩, c, he⟩ := t.ex
  obtain ⟨w', F', ⟨val', s', ow', ks', f2, f3, f4, f5, f6⟩, c', he'⟩ := t'.ex
  rw [e2] at f2
  simp only [Option.some.injEq, Obj.cells.injEq, and_true] at f2
  obtain ⟨_, g2, rfl, rfl⟩ := rxC_inj f2
  have := Sl.det rxF_inj e4 f4
  subst this
  have eF := rx_det e6 f6
  have ew := opt_det g2 e3 f3
  exact toU_inj (by rw [← rad_prs c hr he, ← rad_prs c' hr' he', eF, ew])
theorem tree_det {W W' : Nat → Prop} {h : Heap} {kind kind' : Int} {x x' : Hs} {t : Tr} {l l' : List Pr} (i : TreeIs W h kind x t l) (i' : TreeIs W' h kind' x' t l') (hr : Rises l) (hr' : Rises l') : l = l' := by
  rcases i with ⟨rfl, b, rfl, t⟩ | ⟨rfl, b, rfl, t⟩ <;> rcases i' with ⟨rfl, b', e, t'⟩ | ⟨rfl, b', e, t'⟩
  · simp only [Prod.mk.injEq, Option.some.injEq, Addr.mk.injEq, and_true, true_and] at e
    obtain ⟨h1, h2, h3, rfl⟩ := e
    have hx : x = x' := by cases x; cases x'; simp only at h1 h2 h3; subst h1 h2 h3; rfl
    subst hx
    exact trie_det t t' hr hr'
  · cases e
  · cases e
  · simp only [Prod.mk.injEq, Option.some.injEq, Addr.mk.injEq, and_true, true_and] at e
    subst e
    exact rad_det t t' hr hr'
theorem like_same {W W' : Nat → Prop} {h h' : Heap} {kind : Int} {x : Hs} {t u : Tr} {l l' : List Pr} (i : TreeIs W h kind x t l) (i' : TreeIs W' h' kind x u l') : likeB t u = true := by
  rcases i with ⟨rfl, b, rfl, _⟩ | ⟨rfl, b, rfl, _⟩ <;> rcases i' with ⟨e, b', rfl, _⟩ | ⟨e, b', rfl, _⟩
  · simp [likeB]
  · cases e
  · cases e
  · simp [likeB]
theorem likeB_self (t : Tr) : likeB t t = true := by simp [likeB]
theorem kind2 {k : Int} (h0 : 0 ≤ k) (h1 : k ≤ 255) : IntKind.wrap .i64 (Int.tmod k 2) = 0 ∨ IntKind.wrap .i64 (Int.tmod k 2) = 1 := by
  have : Int.tmod k 2 = k % 2 := Int.tmod_eq_emod_of_nonneg h0
  rw [this, w64 (by omega)]; omega
abbrev hsL (x : Hs) : List Value := [.int .u64 x.k0, .int .u64 x.k1, .int .u64 x.mask]
set_option maxHeartbeats 2000000 in
theorem treeSame_ok {h : Heap} {k o : Int} {x y : Hs} {s s' : SliceV} {l m : List Pr} {same : Bool} (hs : Sl prF 2 No h s l) (hs' : Sl prF 2 No h s' m) (hl : l.length ≤ 9223372036854775807) (hm : m.length ≤ 9223372036854775807) (hk0 : 0 ≤ k) (hk1 : k ≤ 255) (ho0 : 0 ≤ o) (ho1 : o ≤ 255) :
    HC PG f_l14_TreeSame [.int .u8 k, .int .u8 o, .agg #[.int .u64 x.k0, .int .u64 x.k1, .int .u64 x.mask], .agg #[.int .u64 y.k0, .int .u64 y.k1, .int .u64 y.mask], .slice s.a s.len s.cap, .slice s'.a s'.len s'.cap, .bool same] [.c .bool] (fun b h' => b = true ∧ Upd No h h') h := by
  refine H_l14_TreeSame k o (x.k0, x.k1, x.mask) (y.k0, y.k1, y.mask) s s' same ?_
  unfold F_l14_TreeSame
  have hkk := kind2 hk0 hk1
  have hoo := kind2 ho0 ho1
  generalize IntKind.wrap .i64 (Int.tmod k 2) = kk at hkk
  generalize IntKind.wrap .i64 (Int.tmod o 2) = oo at hoo
  refine at_new fun h1 b1 k1 => at_new fun h2 b2 k2 => awake14_ok fun h4 k4 => condP_false.2 ?_
  have z1 := get_lt b1
  have z2 := get_lt b2
  have s1 := k1.size
  have s4 := k4.size
  have k04 := (k1.tr k2).tr k4
  have c1 := k4.get0 (k2.get0 b1)
  have c2 := k4.get0 b2
  refine Join.intro (fun _ h' => Upd No h h' ∧ h'[h.size]? = some (.cells (hsL x).toArray t_sip_Hasher (0, 0)) ∧ ∃ g : Hs, h'[h1.size]? = some (.cells (hsL g).toArray t_sip_Hasher (0, 0))) (fun R hR => ?_) ?_
  · cases same
    · exact condP_false.2 (hR _ _ ⟨k04, c1, y, c2⟩)
    · refine condP_true.2 ⟨_, vc c1 0, _, vc c1 1, _, vc c1 2, ?_⟩
      exact setAll (c := hsL y) (vs := hsL x) c2 rfl fun h5 b5 hu5 => hR _ _ ⟨k04.own hu5 s1, hu5.oth c1 (by omega), x, b5⟩
  · rintro _ h5 ⟨k05, d1, g, d2⟩
    refine ⟨by decide, _, vc d1 0, _, vc d1 1, _, vc d1 2, ?_⟩
    refine made_ok (W := No) (x := x) (hs.upd k05 fun _ h => h.elim) (fun _ h => h.elim) hkk hl fun h16 a ra ia ja k16 => ?_
    refine at_new fun h17 b17 k17 => at_new fun h18 b18 k18 => ?_
    have z17 := get_lt b17
    have z18 := get_lt b18
    refine setAll (c := trL tr0) (vs := trL a) (k18.get0 b17) rfl fun h19 b19 hu19 => ?_
    refine setAll (c := rtL rt0) (vs := rtL ra) (hu19.oth b18 (by omega)) rfl fun h20 b20 hu20 => ?_
    have k1620 : Upd No h16 h20 := ((k17.tr k18).own hu19 (Nat.le_refl _)).own hu20 (by omega)
    have va := hu20.oth b19 (by omega)
    have k020 := (k05.tr k16).tr k1620
    have d2' := (k16.tr k1620).get0 d2
    have d1' := (k16.tr k1620).get0 d1
    have ia := ia.upd0 k1620
    have ja := ja.upd0 k1620
    refine ⟨by decide, _, vc d2' 0, _, vc d2' 1, _, vc d2' 2, ?_⟩
    refine made_ok (W := No) (x := g) (hs'.upd k020 fun _ h => h.elim) (fun _ h => h.elim) hoo hm fun h25 b rb ib jb k25 => ?_
    refine at_new fun h26 b26 k26 => at_new fun h27 b27 k27 => ?_
    have z26 := get_lt b26
    have z27 := get_lt b27
    refine setAll (c := trL tr0) (vs := trL b) (k27.get0 b26) rfl fun h28 b28 hu28 => ?_
    refine setAll (c := rtL rt0) (vs := rtL rb) (hu28.oth b27 (by omega)) rfl fun h29 b29 hu29 => ?_
    have k2529 : Upd No h25 h29 := ((k26.tr k27).own hu28 (Nat.le_refl _)).own hu29 (by omega)
    have vb := hu29.oth b28 (by omega)
    have k2029 := k25.tr k2529
    have va := k2029.get0 va
    have vra := k2029.get0 b20
    have ia := ia.upd0 k2029
    have ja := ja.upd0 k2029
    have ib := ib.upd0 k2529
    have jb := jb.upd0 k2529
    have d1'' := k2029.get0 d1'
    have k029 := k020.tr k2029
    refine ⟨by decide, _, vc d1'' 0, _, vc d1'' 1, _, vc d1'' 2, ?_⟩
    refine made_ok (W := No) (x := x) (hs.upd k029 fun _ h => h.elim) (fun _ h => h.elim) hkk hl fun h34 c rc ic jc k34 => ?_
    refine at_new fun h35 b35 k35 => at_new fun h36 b36 k36 => ?_
    have z35 := get_lt b35
    have z36 := get_lt b36
    refine setAll (c := trL tr0) (vs := trL c) (k36.get0 b35) rfl fun h37 b37 hu37 => ?_
    refine setAll (c := rtL rt0) (vs := rtL rc) (hu37.oth b36 (by omega)) rfl fun h38 b38 hu38 => ?_
    have k3438 : Upd No h34 h38 := ((k35.tr k36).own hu37 (Nat.le_refl _)).own hu38 (by omega)
    have vvc := hu38.oth b37 (by omega)
    have k2938 := k34.tr k3438
    have va := k2938.get0 va
    have vra := k2938.get0 vra
    have vb := k2938.get0 vb
    have vrb := k2938.get0 b29
    have ia := ia.upd0 k2938
    have ja := ja.upd0 k2938
    have ib := ib.upd0 k2938
    have jb := jb.upd0 k2938
    have ic := ic.upd0 k3438
    have k038 := k029.tr k2938
    have fl := few_made l
    have fm := few_made m
    have fll := fl.len
    have fml := fm.len
    clear b17 b18 b19 b20 b26 b27 b28 b29 b35 b36 b37 b38 d1 d1' d1'' d2 d2' c1 c2 hs hs' k16 k17 k18 k25 k26 k27 k34 k35 k36 hu19 hu20 hu28 hu29 hu37 hu38 jc
    generalize madeL l = L at *
    generalize madeL m = M at *
    have hlk := like_eq ia ib ja jb
    refine ⟨_, vc va 0, _, vc va 1, _, vc va 2, _, vc va 3, _, vc va 4, _, vc va 5, _, vc vb 0, _, vc vb 1, _, vc vb 2, _, vc vb 3, _, vc vb 4, _, vc vb 5, _, vc vra 0, _, vc vra 1, _, vc vra 2, _, vc vra 3, ra.2.2.2.2, vc vra 4, _, vc vrb 0, _, vc vrb 1, _, vc vrb 2, _, vc vrb 3, rb.2.2.2.2, vc vrb 4, ?_⟩
    refine tLike_ok fun h62 k62 => ?_
    have va := k62.get0 va
    have vb := k62.get0 vb
    have vra := k62.get0 vra
    have vrb := k62.get0 vrb
    have vvc := k62.get0 vvc
    refine ⟨⟨vc vrb 0, vc vrb 1, vc vrb 2, vc vrb 3, vc vrb 4⟩, ⟨vc vra 0, vc vra 1, vc vra 2, vc vra 3, vc vra 4⟩, ?_⟩
    refine rLike_ok fun h64 k64 => ?_
    have va := k64.get0 va
    have vb := k64.get0 vb
    have vra := k64.get0 vra
    have vrb := k64.get0 vrb
    have vvc := k64.get0 vvc
    have k3864 := k62.tr k64
    rw [hlk, beq_self_eq_true]
    refine condP_true.2 ⟨_, vc va 0, _, vc va 1, _, vc va 2, _, vc va 3, _, vc va 4, _, vc va 5, _, vc vb 0, _, vc vb 1, _, vc vb 2, _, vc vb 3, _, vc vb 4, _, vc vb 5, _, vc vra 0, _, vc vra 1, _, vc vra 2, _, vc vra 3, ra.2.2.2.2, vc vra 4, _, vc vrb 0, _, vc vrb 1, _, vc vrb 2, _, vc vrb 3, rb.2.2.2.2, vc vrb 4, ?_⟩
    refine tSame_ok (ia.upd0 k3864) (ib.upd0 k3864) fl.up fl.fits (by omega) fm.up fm.fits (by omega) fun h88 k88 => ?_
    have va := k88.get0 va
    have vb := k88.get0 vb
    have vra := k88.get0 vra
    have vrb := k88.get0 vrb
    have vvc := k88.get0 vvc
    refine ⟨⟨vc vrb 0, vc vrb 1, vc vrb 2, vc vrb 3, vc vrb 4⟩, ⟨vc vra 0, vc vra 1, vc vra 2, vc vra 3, vc vra 4⟩, ?_⟩
    have k3888 := k3864.tr k88
    refine rtSame_ok (ja.upd0 k3888) (jb.upd0 k3888) (by omega) fun h90 k90 => ?_
    rw [hlk, beq_self_eq_true]
    have va := k90.get0 va
    have vb := k90.get0 vb
    have vvc := k90.get0 vvc
    have k3890 := k3888.tr k90
    refine condP_true.2 ⟨_, vc va 0, _, vc va 1, _, vc va 2, _, vc va 3, _, vc va 4, _, vc va 5, _, vc vvc 0, _, vc vvc 1, _, vc vvc 2, _, vc vvc 3, _, vc vvc 4, _, vc vvc 5, ?_⟩
    refine tSame_ok (ia.upd0 k3890) (ic.upd0 k3890) fl.up fl.fits (by omega) fl.up fl.fits (by omega) fun h104 k104 => ?_
    rw [like_same ia ic, decide_eq_true rfl]
    have va := k104.get0 va
    have vb := k104.get0 vb
    have vvc := k104.get0 vvc
    refine condP_true.2 ⟨_, vc va 0, _, vc va 1, _, vc va 2, _, vc va 3, _, vc va 4, _, vc va 5, _, vc vvc 0, _, vc vvc 1, _, vc vvc 2, _, vc vvc 3, _, vc vvc 4, _, vc vvc 5, ?_⟩
    refine tLike_ok fun h118 k118 => ?_
    rw [like_same ia ic]
    have va := k118.get0 va
    have vb := k118.get0 vb
    refine condP_true.2 ⟨_, vc va 0, _, vc va 1, _, vc va 2, _, vc va 3, _, vc va 4, _, vc va 5, _, vc va 0, _, vc va 1, _, vc va 2, _, vc va 3, _, vc va 4, _, vc va 5, ?_⟩
    have k38118 := (k3890.tr k104).tr k118
    refine tOne_ok (ia.upd0 k38118) (ia.upd0 k38118) fun h132 k132 => ?_
    rw [decide_eq_true rfl]
    have va := k132.get0 va
    have vb := k132.get0 vb
    refine condP_true.2 ⟨_, vc va 0, _, vc va 1, _, vc va 2, _, vc va 3, _, vc va 4, _, vc va 5, _, vc vb 0, _, vc vb 1, _, vc vb 2, _, vc vb 3, _, vc vb 4, _, vc vb 5, ?_⟩
    have k38132 := k38118.tr k132
    refine tOne_ok (ia.upd0 k38132) (ib.upd0 k38132) fun h146 k146 => ?_
    have k38146 := k38132.tr k146
    by_cases hab : a = b
    · rw [decide_eq_true hab]
      have va := k146.get0 va
      have vb := k146.get0 vb
      refine condP_false.2 ⟨_, vc va 0, _, vc va 1, _, vc va 2, _, vc va 3, _, vc va 4, _, vc va 5, _, vc vb 0, _, vc vb 1, _, vc vb 2, _, vc vb 3, _, vc vb 4, _, vc vb 5, ?_⟩
      refine tSame_ok (ia.upd0 k38146) (ib.upd0 k38146) fl.up fl.fits (by omega) fm.up fm.fits (by omega) fun h160 k160 => ⟨?_, (k038.tr k38146).tr k160⟩
      subst hab
      rw [likeB_self, decide_eq_true (tree_det ia ib fl.up fm.up)]; rfl
    · rw [decide_eq_false hab]
      exact condP_true.2 ⟨rfl, k038.tr k38146⟩
end Go.Proofs
namespace Go.Proofs
open Go Go.Lift
theorem rFind_ok {W : Nat → Prop} {h : Heap} {s : SliceV} {l : List Pr} (hs : Sl prF 2 W h s l) (hr : Rises l) (hf : Fit l) (hn : l.length ≤ 1000000) (k : ByteArray) {K : Int × Bool → Heap → Prop}
    (hk : ∀ i : Nat, (there l k = true → i < l.length) → K ((i : Int), there l k) h) : HC PG f_r03_Find [.slice s.a s.len s.cap, .string k] [.c (.int .i64), .c .bool] K h := by
  refine H_r03_Find s k ?_
  unfold F_r03_Find
  have hlen := hs.len
  refine LoopP.ghost (fun (i : Nat) (t : Int) h' => t = (i : Int) ∧ i ≤ l.length ∧ h' = h ∧ ∀ j (hj : j < l.length), j < i → kl l[j].1 k) (fun i => l.length - i) 0 ⟨rfl, Nat.zero_le _, rfl, fun j hj h => by omega⟩ ?_
  rintro I i t h' ⟨rfl, hi, rfl, hlo⟩ hI
  refine Join.intro (fun t h2 => h2 = h' ∧ (t = true ↔ ∃ hi : i < l.length, kl l[i].1 k)) (fun R hR => ?_) ?_
  · refine condP_dec (fun hlt => ?_) fun hge => hR _ _ ⟨rfl, ⟨fun h => (by cases h), fun ⟨hi, _⟩ => by omega⟩⟩
    have hlt : i < l.length := by omega
    obtain ⟨a, ha, _, hv⟩ := hs.at (List.getElem?_eq_getElem hlt)
    have hf1 := (hf _ (List.getElem_mem hlt)).1
    refine ⟨⟨by omega, by omega⟩, a, ha, l[i].1, hv 0 _ rfl, rLess_ok (by omega) (hR _ _ ⟨rfl, ?_⟩)⟩
    rw [decide_eq_true_iff]
    exact ⟨fun h => ⟨hlt, h⟩, fun ⟨_, h⟩ => h⟩
  · rintro t h2 ⟨rfl, ht⟩
    cases t with
    | true =>
      obtain ⟨hlt, hk1⟩ := ht.1 rfl
      refine condP_true.2 ?_
      rw [wrap_succB hlt (by omega)]
      refine hI (i + 1) _ _ ⟨rfl, hlt, rfl, fun j hj hji => ?_⟩ (by omega)
      rcases Nat.lt_or_ge j i with h | h
      · exact hlo j hj h
      · have : j = i := by omega
        subst this; exact hk1
    | false =>
      refine condP_false.2 (condP_dec (fun hlt => ?_) fun hge => ?_)
      · have hlt : i < l.length := by omega
        have hnk : ¬ kl l[i].1 k := fun h => by have := ht.2 ⟨hlt, h⟩; cases this
        obtain ⟨a, ha, _, hv⟩ := hs.at (List.getElem?_eq_getElem hlt)
        refine ⟨⟨by omega, by omega⟩, a, ha, l[i].1, hv 0 _ rfl, ?_⟩
        rw [beq_list]
        have e : decide (l[i].1 = k) = there l k := by
          by_cases e : l[i].1 = k
          · rw [decide_eq_true e]
            exact (List.any_eq_true.2 ⟨_, List.getElem_mem hlt, decide_eq_true e⟩).symm
          · rw [decide_eq_false e]
            refine (no_there fun q hq e2 => ?_).symm
            obtain ⟨j, hj, rfl⟩ := List.getElem_of_mem hq
            have hgt := kl_tri hnk e
            rcases Nat.lt_trichotomy j i with h | h | h
            · have := hlo j hj h; rw [e2] at this; exact kl_irrefl _ this
            · subst h; exact e e2
            · have := List.pairwise_iff_getElem.1 hr i j hlt hj h
              rw [e2] at this
              exact kl_irrefl _ (kl_trans hgt this)
        rw [e]
        exact hk i fun _ => hlt
      · have e : there l k = false := no_there fun q hq e2 => by
          obtain ⟨j, hj, rfl⟩ := List.getElem_of_mem hq
          have := hlo j hj (by omega)
          rw [e2] at this; exact kl_irrefl _ this
        have := hk i fun h => by rw [e] at h; cases h
        rw [e] at this; exact this
theorem rGet_ok {W : Nat → Prop} {h : Heap} {s : SliceV} {l : List Pr} (hs : Sl prF 2 W h s l) (hr : Rises l) (hf : Fit l) (hn : l.length ≤ 1000000) (k : ByteArray) {K : ByteArray × Bool → Heap → Prop}
    (hk : ∀ v, K (v, there l k) h) : HC PG f_r03_Get [.slice s.a s.len s.cap, .string k] [.c .str, .c .bool] K h := by
  refine H_r03_Get s k ?_
  unfold F_r03_Get
  have hlen := hs.len
  refine rFind_ok hs hr hf hn k fun i hi => ?_
  cases ht : there l k with
  | false => rw [ht] at hk; exact condP_true.2 (hk _)
  | true =>
    rw [ht] at hk
    have hlt := hi ht
    obtain ⟨a, ha, _, hv⟩ := hs.at (List.getElem?_eq_getElem hlt)
    refine condP_false.2 ⟨⟨by simp only; omega, by simp only; omega⟩, a, ha, l[i].2, hv 1 _ rfl, hk _⟩
theorem ins_comm {p q : Pr} {l : List Pr} (hr : Rises l) (hne : p.1 ≠ q.1) : insR q (insR p l) = insR p (insR q l) := by
  refine rises_ext (rises_ins q (rises_ins p hr)) (rises_ins p (rises_ins q hr)) fun r => ?_
  rw [mem_ins_iff (rises_ins p hr), mem_ins_iff hr, mem_ins_iff (rises_ins q hr), mem_ins_iff hr]
  constructor
  · rintro (rfl | ⟨rfl | ⟨h, h1⟩, h2⟩)
    · exact .inr ⟨.inl rfl, fun e => hne e.symm⟩
    · exact .inl rfl
    · exact .inr ⟨.inr ⟨h, h2⟩, h1⟩
  · rintro (rfl | ⟨rfl | ⟨h, h1⟩, h2⟩)
    · exact .inr ⟨.inl rfl, hne⟩
    · exact .inl rfl
    · exact .inr ⟨.inr ⟨h, h2⟩, h1⟩
theorem del_ins {p : Pr} {l : List Pr} (hr : Rises l) (ht : there l p.1 = false) : delR p.1 (insR p l) = l := by
  refine rises_ext (rises_del (rises_ins p hr)) hr fun r => ?_
  rw [mem_del, mem_ins_iff hr]
  constructor
  · rintro ⟨rfl | ⟨h, _⟩, h2⟩
    · exact absurd rfl h2
    · exact h
  · intro h
    have := there_no ht r h
    exact ⟨.inr ⟨h, this⟩, this⟩
theorem mem_ins_self {p : Pr} {l : List Pr} (hr : Rises l) : p ∈ insR p l := (mem_ins_iff hr).2 (.inl rfl)
theorem newTr {h : Heap} {t : Tr} {k : Heap → Prop} (hk : ∀ h', h'[h.size]? = some (.cells (trL t).toArray t_tree_Tree (0, 0)) → Upd No h h' → k h') :
    At (hnew h (trL tr0) t_tree_Tree) (fun h1 => WrS h1 (some (newA h)) 0 (trL t) ∧ At (hsetL h1 (newA h) 0 (trL t)) k) :=
  at_new fun h1 b1 k1 => setAll (c := trL tr0) (vs := trL t) b1 rfl fun h2 b2 hu2 => hk h2 b2 (k1.own hu2 (Nat.le_refl _))
end Go.Proofs
namespace Go.Proofs
open Go Go.Lift
theorem beq_not {a b : ByteArray} : (!(a.toList == b.toList)) = decide (a ≠ b) := by rw [beq_list, decide_not]
theorem few_ins {n : Nat} {L : List Pr} (f : Few n L) (p : Pr) : Few (n + 1) (insR (cutP p) L) := f.ins (cutP p) (cut30_size _) (cut30_size _)
set_option maxRecDepth 100000 in
set_option maxHeartbeats 1000000 in
theorem treeTurns_ok {h : Heap} {k : Int} {x : Hs} {s : SliceV} {l : List Pr} {p q : Pr} (hs : Sl prF 2 No h s l) (hl : l.length ≤ 9223372036854775807) (hk0 : 0 ≤ k) (hk1 : k ≤ 255) :
    HC PG f_l14_TreeTurns [.int .u8 k, .agg #[.int .u64 x.k0, .int .u64 x.k1, .int .u64 x.mask], .slice s.a s.len s.cap, .agg #[.string p.1, .string p.2], .agg #[.string q.1, .string q.2]] [.c .bool] (fun b h' => b = true ∧ Upd No h h') h := by
  refine H_l14_TreeTurns k (x.k0, x.k1, x.mask) s p q ?_
  unfold F_l14_TreeTurns
  have hkk := kind2 hk0 hk1
  generalize IntKind.wrap .i64 (Int.tmod k 2) = kk at hkk
  refine at_new fun h1 b1 k1 => at_new fun h2 b2 k2 => at_new fun h3 b3 k3 => awake14_ok fun h5 k5 => condP_false.2 ?_
  have z1 := get_lt b1
  have z2 := get_lt b2
  have z3 := get_lt b3
  have s1 := k1.size
  have s2 := k2.size
  have s3 := k3.size
  have s5 := k5.size
  have k03 := (k1.tr k2).tr k3
  have k05 := k03.tr k5
  have c1 := k5.get0 (k3.get0 (k2.get0 b1))
  have c2 := k5.get0 (k3.get0 b2)
  have c3 := k5.get0 b3
  have hP1 : Pro No h h3 h1.size := .inr ⟨s1, by omega⟩
  have hP2 : Pro No h h3 h2.size := .inr ⟨by omega, by omega⟩
  have hPW : ∀ y, Pro No h h3 y → y < h5.size := fun y hy => Nat.lt_of_lt_of_le (Pro.lt (fun _ h => h.elim) k03 y hy) s5
  refine ⟨by decide, _, vc c1 0, _, vc c1 1, _, vc c1 2, ?_⟩
  refine made_ok (W := Pro No h h3) (x := x) ((hs.less (W' := Pro No h h3) Pro.hm).upd k05 fun _ h => h.elim) hPW hkk hl fun h10 t r it jr k10 => ?_
  have k010 := k05.tr k10
  have s10 := k10.size
  refine at_new fun h11 b11 k11 => at_new fun h12 b12 k12 => ?_
  have z11 := get_lt b11
  have z12 := get_lt b12
  refine setAll (c := trL tr0) (vs := trL t) (k12.get0 b11) rfl fun h13 b13 hu13 => ?_
  refine setAll (c := rtL rt0) (vs := rtL r) (hu13.oth b12 (by omega)) rfl fun h14 b14 hu14 => ?_
  have k1014 : Upd No h10 h14 := ((k11.tr k12).own hu13 (Nat.le_refl _)).own hu14 (by omega)
  have vt := hu14.oth b13 (by omega)
  have k014 := k010.tr k1014
  have k514 := k10.tr k1014
  have d2 : h14[h1.size]? = some (.cells [Value.string p.1, .string p.2].toArray t_pair_Pair (0, 0)) := k514.get0 c2
  have d3 : h14[h2.size]? = some (.cells [Value.string q.1, .string q.2].toArray t_pair_Pair (0, 0)) := k514.get0 c3
  have it := it.upd0 k1014
  have jr := jr.upd0 k1014
  have s14 := k1014.size
  have n1 : h1.size ≠ h10.size := by omega
  have n2 : h2.size ≠ h10.size := by omega
  have m1 : h1.size ≠ h11.size := by omega
  have m2 : h2.size ≠ h11.size := by omega
  have hq1 : h1.size ≠ h2.size := by omega
  clear b11 b12 b13 hu13 hu14 k11 k12 c1 c2 c3 b1 b2 b3
  refine ⟨_, vc d2 0, _, vc d2 1, long_ok ⟨vc d2 1, long_ok ?_⟩⟩
  refine setAll (c := [.string p.1, .string p.2]) (vs := [.string (cutP p).1, .string (cutP p).2]) d2 rfl fun h21 b21 hu21 => ?_
  have e3 := hu21.oth d3 (Ne.symm hq1)
  refine ⟨_, vc e3 0, _, vc e3 1, long_ok ⟨vc e3 1, long_ok ?_⟩⟩
  refine setAll (c := [.string q.1, .string q.2]) (vs := [.string (cutP q).1, .string (cutP q).2]) e3 rfl fun h28 q28 hu28 => ?_
  have p28 := hu28.oth b21 hq1
  have t28 := hu28.oth (hu21.oth vt (Ne.symm n1)) (Ne.symm n2)
  have r28 := hu28.oth (hu21.oth b14 (Ne.symm m1)) (Ne.symm m2)
  have k028 := (k014.own hu21 s1).own hu28 (by omega)
  have it : TreeIs No h28 kk x t (madeL l) := ((it.updM hu21 fun y hy => .inl (by have hy : y = h1.size := hy; rw [hy]; exact hP1)).updM hu28 fun y hy => .inl (by have hy : y = h2.size := hy; rw [hy]; exact hP2)).less fun _ h => h.elim
  have jr : RefIs No h28 kk x r (madeL l) := ((jr.updM hu21 fun y hy => .inl (by have hy : y = h1.size := hy; rw [hy]; exact hP1)).updM hu28 fun y hy => .inl (by have hy : y = h2.size := hy; rw [hy]; exact hP2)).less fun _ h => h.elim
  have fl := few_made l
  have fp := few_ins fl p
  have fq := few_ins fl q
  have fpq := few_ins fp q
  have fqp := few_ins fq p
  have fpp := few_ins fp p
  have l0 := fl.len
  have l1 := fp.len
  have l2 := fq.len
  have l3 := fpq.len
  have l4 := fqp.len
  have l5 := fpp.len
  have cp1 := cut30_size p.1
  have cp2 := cut30_size p.2
  have cq1 := cut30_size q.1
  have cq2 := cut30_size q.2
  have a1 : (cutP p).1.size ≤ 256 := by unfold cutP; simp only; omega
  have a2 : (cutP p).2.size ≤ 4096 := by unfold cutP; simp only; omega
  have a3 : (cutP q).1.size ≤ 256 := by unfold cutP; simp only; omega
  have a4 : (cutP q).2.size ≤ 4096 := by unfold cutP; simp only; omega
  clear cp1 cp2 cq1 cq2 d2 d3 e3 b14 b21 vt hu21 hu28 hs n1 n2 m1 m2 hPW hP1 hP2 k10 k1014 k514 k5 k3 k2 k1 k010 k014 k03 k05
  generalize madeL l = L at *
  generalize cutP p = P at *
  generalize cutP q = Q at *
  have hR := fl.up
  -- a
  refine ⟨_, vc t28 0, _, vc t28 1, _, vc t28 2, _, vc t28 3, _, vc t28 4, _, vc t28 5, _, vc p28 0, _, vc p28 1, ?_⟩
  refine tWith_ok it (fun _ h => h.elim) hR (by omega) P a1 a2 fun h38 a ia _ k38 => ?_
  refine newTr (t := a) fun h40 va g40 => ?_
  have k2840 := k38.tr g40
  have ia := ia.upd0 g40
  have vt := k2840.get0 t28
  have vr := k2840.get0 r28
  have vp := k2840.get0 p28
  have vq := k2840.get0 q28
  have it := it.upd0 k2840
  have jr := jr.upd0 k2840
  -- b
  refine ⟨_, vc va 0, _, vc va 1, _, vc va 2, _, vc va 3, _, vc va 4, _, vc va 5, _, vc vq 0, _, vc vq 1, ?_⟩
  refine tWith_ok ia (fun _ h => h.elim) fp.up (by omega) Q a3 a4 fun h50 b ib _ k50 => ?_
  refine newTr (t := b) fun h52 vb g52 => ?_
  have k4052 := k50.tr g52
  have ib := ib.upd0 g52
  have vt := k4052.get0 vt
  have vr := k4052.get0 vr
  have vp := k4052.get0 vp
  have vq := k4052.get0 vq
  have va := k4052.get0 va
  have it := it.upd0 k4052
  have jr := jr.upd0 k4052
  have ia := ia.upd0 k4052
  -- c
  refine ⟨_, vc vt 0, _, vc vt 1, _, vc vt 2, _, vc vt 3, _, vc vt 4, _, vc vt 5, _, vc vq 0, _, vc vq 1, ?_⟩
  refine tWith_ok it (fun _ h => h.elim) hR (by omega) Q a3 a4 fun h62 c ic _ k62 => ?_
  refine newTr (t := c) fun h64 vc' g64 => ?_
  have k5264 := k62.tr g64
  have ic := ic.upd0 g64
  have vt := k5264.get0 vt
  have vr := k5264.get0 vr
  have vp := k5264.get0 vp
  have va := k5264.get0 va
  have vb := k5264.get0 vb
  have vq := k5264.get0 vq
  have it := it.upd0 k5264
  have jr := jr.upd0 k5264
  have ia := ia.upd0 k5264
  have ib := ib.upd0 k5264
  -- d
  refine ⟨_, vc vc' 0, _, vc vc' 1, _, vc vc' 2, _, vc vc' 3, _, vc vc' 4, _, vc vc' 5, _, vc vp 0, _, vc vp 1, ?_⟩
  refine tWith_ok ic (fun _ h => h.elim) fq.up (by omega) P a1 a2 fun h74 d id' _ k74 => ?_
  refine newTr (t := d) fun h76 vd g76 => ?_
  have k6476 := k74.tr g76
  have id' := id'.upd0 g76
  have vt := k6476.get0 vt
  have vr := k6476.get0 vr
  have vp := k6476.get0 vp
  have va := k6476.get0 va
  have vb := k6476.get0 vb
  have vq := k6476.get0 vq
  have it := it.upd0 k6476
  have jr := jr.upd0 k6476
  have ia := ia.upd0 k6476
  have ib := ib.upd0 k6476
  -- e
  refine ⟨_, vc va 0, _, vc va 1, _, vc va 2, _, vc va 3, _, vc va 4, _, vc va 5, _, vc vp 0, _, vc vp 1, ?_⟩
  refine tWith_ok ia (fun _ h => h.elim) fp.up (by omega) P a1 a2 fun h86 e ie hsame k86 => ?_
  have hea := hsame (mem_ins_self hR)
  refine newTr (t := e) fun h88 ve g88 => ?_
  have k7688 := k86.tr g88
  have ie := ie.upd0 g88
  have vt := k7688.get0 vt
  have vr := k7688.get0 vr
  have vp := k7688.get0 vp
  have va := k7688.get0 va
  have vb := k7688.get0 vb
  have vd := k7688.get0 vd
  have vq := k7688.get0 vq
  have it := it.upd0 k7688
  have jr := jr.upd0 k7688
  have ia := ia.upd0 k7688
  have ib := ib.upd0 k7688
  have id' := id'.upd0 k7688
  have k088 := (((k028.tr k2840).tr k4052).tr k5264).tr (k6476.tr k7688)
  clear vc' ic k2840 k4052 k5264 k6476 k7688 k38 k50 k62 k74 k86 g40 g52 g64 g76 g88 t28 r28 p28 q28 k028
  refine Join.intro (fun tt h' => tt = false ∧ Upd No h88 h') (fun R hJ => ?_) ?_
  · refine ⟨_, vc vp 0, _, vc vq 0, ?_⟩
    rw [beq_not]
    have one : ∀ {h' : Heap}, Upd No h88 h' → ∃ v106 : Int, hcell h' (adr (newA h38) 0) = some (.int .i64 v106) ∧
        ∃ v107 : Int, hcell h' (adr (newA h38) 1) = some (.int .u64 v107) ∧
        ∃ v108 : Int, hcell h' (adr (newA h38) 2) = some (.int .u64 v108) ∧
        ∃ v109 : Int, hcell h' (adr (newA h38) 3) = some (.int .u64 v109) ∧
        ∃ v110 : Option Addr, hcell h' (adr (newA h38) 4) = some (.pointer v110) ∧
        ∃ v111 : Option Addr, hcell h' (adr (newA h38) 5) = some (.pointer v111) ∧
        ∃ v112 : Int, hcell h' (adr (newA h86) 0) = some (.int .i64 v112) ∧
        ∃ v113 : Int, hcell h' (adr (newA h86) 1) = some (.int .u64 v113) ∧
        ∃ v114 : Int, hcell h' (adr (newA h86) 2) = some (.int .u64 v114) ∧
        ∃ v115 : Int, hcell h' (adr (newA h86) 3) = some (.int .u64 v115) ∧
        ∃ v116 : Option Addr, hcell h' (adr (newA h86) 4) = some (.pointer v116) ∧
        ∃ v117 : Option Addr, hcell h' (adr (newA h86) 5) = some (.pointer v117) ∧
        HC PG f_tree_One [.agg #[.int .i64 v106, .int .u64 v107, .int .u64 v108, .int .u64 v109, .pointer v110, .pointer v111], .agg #[.int .i64 v112, .int .u64 v113, .int .u64 v114, .int .u64 v115, .pointer v116, .pointer v117]] [.c .bool] (fun (e118 : Bool) h119 => R (!e118) h119) h' := fun {h'} k' => by
      have va := k'.get0 va
      have ve := k'.get0 ve
      refine ⟨_, vc va 0, _, vc va 1, _, vc va 2, _, vc va 3, _, vc va 4, _, vc va 5, _, vc ve 0, _, vc ve 1, _, vc ve 2, _, vc ve 3, _, vc ve 4, _, vc ve 5, ?_⟩
      refine tOne_ok (ia.upd0 k') (ie.upd0 k') fun h2 k2 => ?_
      rw [decide_eq_true hea.symm]
      exact hJ _ _ ⟨rfl, k'.tr k2⟩
    refine condP_dec (fun hne => ?_) fun _ => one (Upd.refl _ _)
    refine ⟨_, vc vb 0, _, vc vb 1, _, vc vb 2, _, vc vb 3, _, vc vb 4, _, vc vb 5, _, vc vd 0, _, vc vd 1, _, vc vd 2, _, vc vd 3, _, vc vd 4, _, vc vd 5, ?_⟩
    refine tSame_ok ib id' fpq.up fpq.fits (by omega) fqp.up fqp.fits (by omega) fun h105 k105 => ?_
    rw [like_same ib id', decide_eq_true (ins_comm hR hne)]
    exact condP_false.2 (one k105)
  · rintro _ h135 ⟨rfl, k135⟩
    have vt := k135.get0 vt
    have vr := k135.get0 vr
    have vp := k135.get0 vp
    have va := k135.get0 va
    obtain ⟨rs, rfl, hrs⟩ := jr.upd0 k135
    refine condP_false.2 ⟨rs, vc vr 4, _, vc vp 0, ?_⟩
    refine rGet_ok hrs hR fl.fits (by omega) P.1 fun v => ?_
    rcases hno : there L P.1 with _ | _
    case true => exact condP_true.2 ⟨rfl, k088.tr k135⟩
    refine condP_false.2 ?_
    have hth : there (insR P L) P.1 = true := List.any_eq_true.2 ⟨P, mem_ins_self hR, decide_eq_true rfl⟩
    refine ⟨_, vc va 0, _, vc va 1, _, vc va 2, _, vc va 3, _, vc va 4, _, vc va 5, _, vc vp 0, ?_⟩
    refine tWithout_ok (ia.upd0 k135) (fun _ h => h.elim) fp.up fp.fits (by omega) P.1 a1 fun h148 f jf _ k148 => ?_
    rw [hth, del_ins hR hno] at *
    refine newTr (t := f) fun h150 vf g150 => ?_
    have k135150 := k148.tr g150
    have vt := k135150.get0 vt
    refine condP_true.2 ⟨_, vc vf 0, _, vc vf 1, _, vc vf 2, _, vc vf 3, _, vc vf 4, _, vc vf 5, _, vc vt 0, _, vc vt 1, _, vc vt 2, _, vc vt 3, _, vc vt 4, _, vc vt 5, ?_⟩
    have jf := jf.upd0 g150
    have it := it.upd0 (k135.tr k135150)
    refine tSame_ok jf it hR fl.fits (by omega) hR fl.fits (by omega) fun h164 k164 => ⟨?_, ((k088.tr k135).tr k135150).tr k164⟩
    rw [like_same jf it, decide_eq_true rfl]; rfl
end Go.Proofs
