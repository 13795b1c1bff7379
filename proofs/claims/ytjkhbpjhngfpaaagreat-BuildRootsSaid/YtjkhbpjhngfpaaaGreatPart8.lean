/- A part of the proof that the named laws of this program answer true, whatever the input. -/
import Derived.Test.YtjkhbpjhngfpaaaGreatPart7
namespace Go.Proofs
open Go Go.Lift
theorem Cur.upd {W C M : Nat → Prop} {h h' : Heap} {cb : Nat} {items : List It} (c : Cur W h cb C items) (k : Upd M h h') (hW : ∀ b, M b → W b ∨ h.size ≤ b) (hCm : ∀ b, C b → b < h.size → ¬ M b) (hcb : ¬ M cb) : Cur W h' cb C items := by
  obtain ⟨s, h1, h2⟩ := c.ex
  exact ⟨⟨s, k.get h1 hcb, (h2.within.upd k fun b hb => hCm b hb.1 hb.2).more fun b hb => hb.1⟩, fun i hi => (c.ok i hi).updM k hW⟩
theorem Cur.sub {W C C' : Nat → Prop} {h : Heap} {cb : Nat} {items : List It} (c : Cur W h cb C items) (hs : ∀ b, C b → b < h.size → C' b) : Cur W h cb C' items := by
  obtain ⟨s, h1, h2⟩ := c.ex
  exact ⟨⟨s, h1, h2.within.more fun b hb => hs b hb.1 hb.2⟩, c.ok⟩
set_option maxHeartbeats 1000000 in
theorem next_ok {W C : Nat → Prop} {h : Heap} {cb : Nat} {items : List It} (cur : Cur W h cb C items) (hC : ∀ b, h.size ≤ b → C b) (hCW : ∀ b, C b → W b) (hcbW : W cb) (hcb : ¬ C cb) (hcost : costP items ≤ 100000000) {K : (ByteArray × ByteArray) × Bool → Heap → Prop}
    (hn : ∀ h', remP items = [] → Upd (fun b => C b ∨ b = cb) h h' → K (((⟨#[]⟩ : ByteArray), (⟨#[]⟩ : ByteArray)), false) h')
    (hs : ∀ h' items' k v R, remP items = (k, v) :: R → remP items' = R → costP items' ≤ costP items → Cur W h' cb C items' → Upd (fun b => C b ∨ b = cb) h h' → K ((⟨k.toArray⟩, v), true) h') :
    HC PG f_span_Cursor_Next [.pointer (some ⟨cb, 0, none⟩)] [.agg [.str, .str], .c .bool] K h := by
  refine H_span_Cursor_Next (some ⟨cb, 0, none⟩) ?_
  unfold F_span_Cursor_Next
  refine at_new fun h1 b1 k1 => condP_false.2 ?_
  have z1 := get_lt b1
  obtain ⟨s0, hc0, _⟩ := cur.ex
  have zc := get_lt hc0
  have s1 := k1.size
  have hC1 : ∀ b, h1.size ≤ b → C b ∧ b ≠ h.size := fun b hb => ⟨hC b (by omega), by omega⟩
  have cur1 : Cur W h1 cb (fun b => C b ∧ b ≠ h.size) items := (cur.sub fun b hb hlt => (⟨hb, by omega⟩ : C b ∧ b ≠ h.size)).upd k1 (fun _ h => h.elim) (fun _ _ _ h => h) fun h => h
  refine LoopP.ghost (fun (its : List It) (_ : Unit) h' => Cur W h' cb (fun b => C b ∧ b ≠ h.size) its ∧ remP its = remP items ∧ costP its ≤ costP items ∧ h'[h.size]? = some (.cells zPrL.toArray t_pair_Pair (0, 0)) ∧ Upd (fun b => C b ∨ b = cb) h h' ∧ h1.size ≤ h'.size) costP items ⟨cur1, rfl, Nat.le_refl _, b1, k1.wide, Nat.le_refl _⟩ ?_
  rintro I its ⟨⟩ h' ⟨cu, hrem, hco, bz, hu, hsz⟩ hI
  obtain ⟨s, hcell, hst⟩ := cu.ex
  have hlen := hst.len
  rw [List.length_map] at hlen
  refine ⟨_, rfl, s, vc hcell 0, ?_⟩
  refine condP_dec (fun hpos => ?_) fun hnp => ?_
  · have hpos : 0 < its.length := by omega
    obtain ⟨its', i, rfl⟩ : ∃ its' i, its = its' ++ [i] := ⟨its.dropLast, its.getLast (by intro e; rw [e] at hpos; simp at hpos), (List.dropLast_concat_getLast _).symm⟩
    rw [List.map_append] at hst
    rw [List.length_append, List.length_singleton] at hlen
    have hil := len_cost (its' ++ [i])
    rw [List.length_append, List.length_singleton] at hil
    have eidx : IntKind.wrap .i64 ((s.len : Int) - 1) = ((its'.length : Nat) : Int) := by rw [w64 (by omega)]; omega
    have sl := hst.sl (W := No) fun _ _ _ h => h
    obtain ⟨a, ha, _, hv⟩ := sl.at (i := its'.length) (x := i.raw) (by rw [List.getElem?_append_right (by rw [List.length_map]; omega), List.length_map, Nat.sub_self]; rfl)
    have hio := cu.ok i (List.mem_append_right _ (List.mem_singleton.2 rfl))
    refine ⟨_, rfl, s, vc hcell 0, _, rfl, s, vc hcell 0, ?_⟩
    rw [eidx]
    refine ⟨⟨by omega, by omega⟩, a, ha, some ⟨i.b, 0, none⟩, hv 0 _ rfl, i.ah, hv 1 _ rfl, i.own, hv 2 _ rfl, ?_⟩
    refine at_new fun h2 b2 k2 => ?_
    have sl2 := sl.upd k2 fun _ h => h.elim
    obtain ⟨a', ha', _, hv2⟩ := sl2.at (i := its'.length) (x := i.raw) (by rw [List.getElem?_append_right (by rw [List.length_map]; omega), List.length_map, Nat.sub_self]; rfl)
    rw [ha] at ha'; cases ha'
    have c2 := k2.get0 hcell
    refine ⟨⟨hv2 0 _ rfl, hv2 1 _ rfl, hv2 2 _ rfl⟩, vc c2 0, vc c2 0, ?_⟩
    refine setAll (c := [.pointer none, .string (⟨#[]⟩ : ByteArray), .bool false]) (vs := [.pointer (some ⟨i.b, 0, none⟩), .string i.ah, .bool i.own]) b2 rfl fun h3 b3 hu3 => ?_
    have k3 : Upd No h' h3 := k2.own hu3 (Nat.le_refl _)
    have c3 := k3.get0 hcell
    have zcb := get_lt hcell
    have z3 := get_lt b3
    have s3 := k3.size
    refine ⟨_, rfl, s, vc c3 0, _, rfl, s, vc c3 0, ?_⟩
    rw [eidx]
    have hcap := hst.cap
    refine ⟨⟨by omega, by omega⟩, ?_⟩
    simp only [Bd]
    refine ⟨_, rfl, ?_⟩
    refine vset (i := 0) (c' := curC ⟨subAddr s.a 0 s.cap 3, its'.length, s.cap⟩) c3 (show 0 < 5 by decide) rfl fun h4 c4 hu4 => ?_
    have b4 := hu4.oth b3 (by omega)
    have bz4 := hu4.oth (k3.get0 bz) (by omega)
    have hpop := OwnS.pop hst
    have hst4 := ((hpop.upd k3 fun _ _ h => h).upd hu4 fun b hb e => hcb (by have e : b = cb := e; rw [← e]; exact hb.1))
    rw [List.length_map] at hst4
    have huW : ∀ {j}, It.Ok W h' j → It.Ok W h4 j := fun oj => (oj.updM k3 fun _ h => h.elim).updM hu4 fun b hb => .inl (by have hb : b = cb := hb; rw [hb]; exact hcbW)
    have cu4 : Cur W h4 cb (fun b => C b ∧ b ≠ h.size) its' := ⟨⟨_, c4, hst4⟩, fun j hj => huW (cu.ok j (List.mem_append_left _ hj))⟩
    have hio4 := huW hio
    have hu04 : Upd (fun b => C b ∨ b = cb) h h4 := (hu.tr k3.wide).trans hu4 fun b hb => .inl (.inr hb)
    have s4 := hu4.size
    have hcs : costP (its' ++ [i]) = costP its' + i.cost := by rw [costP_app]; rfl
    have hrs := remP_snoc its' i
    have hic : 1 ≤ i.cost := by unfold It.cost; split <;> omega
    refine ⟨i.own, vc b4 2, ?_⟩
    cases how : i.own with
    | false =>
      refine condP_true.2 ⟨_, vc b4 0, i.ah, vc b4 1, i.own, vc b4 2, ?_⟩
      refine push_ok cu4 hio4 how (fun b hb => hC1 b (by omega)) (fun b hb => hCW b hb.1) hcbW (fun hx => hcb hx.1) (by omega) fun h5 kids cu5 hr5 hc5 hu5 => ?_
      have hu5' : Upd (fun b => C b ∨ b = cb) h4 h5 := hu5.mono fun b hb => .inl (hb.imp (fun h => h.1) id)
      refine hI (its' ++ kids) () h5 ⟨cu5, ?_, ?_, hu5.get bz4 (fun hx => by rcases hx with hx | hx; exact hx.2 rfl; omega), hu04.tr hu5', by have := hu5.size; omega⟩ ?_
      · rw [remP_app, hr5, ← hrem, hrs]
      · rw [costP_app]; omega
      · rw [costP_app]; omega
    | true =>
      refine condP_false.2 ⟨i.ah, vc b4 1, _, vc b4 0, ?_⟩
      refine rxLabel_ok hio4.1 ⟨vc b4 1, ?_, ?_⟩
      · have := hio.2.2.1
        unfold It.key at this
        rw [List.length_append] at this
        have e1 : i.ah.data.toList.length = i.ah.size := by simp
        have e2 : i.sl.data.toList.length = i.sl.size := by simp
        omega
      refine ⟨_, vc b4 0, rxValue_ok hio4.1 fun v hvw => ?_⟩
      have hpr : i.prs = (i.w.map fun v => (i.key, v)).toList := by unfold It.prs; rw [how]; rfl
      have ekey : (⟨i.key.toArray⟩ : ByteArray) = i.ah ++ i.sl := by rw [← bytes_list, ByteArray.data_append, Array.toList_append]; rfl
      refine Join.intro (fun t h5 => t = i.w.isSome ∧ Upd No h4 h5) (fun R hR => ?_) ?_
      · cases hw : i.w with
        | none => exact condP_false.2 (hR _ _ ⟨by rw [hw]; rfl, Upd.refl _ _⟩)
        | some u => exact condP_true.2 ⟨_, rfl, _, vc2 c4 1 0, _, vc2 c4 1 1, true, vc2 c4 1 2, has_span_ok fun h5 k5 => hR _ _ ⟨by rw [hw]; rfl, k5⟩⟩
      · rintro t h5 ⟨rfl, k5⟩
        have cu5 : Cur W h5 cb (fun b => C b ∧ b ≠ h.size) its' := cu4.upd k5 (fun _ h => h.elim) (fun _ _ _ h => h) fun h => h
        have bz5 := k5.get0 bz4
        have hu05 := hu04.tr (k5.wide (M := fun b => C b ∨ b = cb))
        have s5 := k5.size
        cases hw : i.w with
        | none =>
          refine condP_false.2 (hI its' () h5 ⟨cu5, ?_, by omega, bz5, hu05, by omega⟩ (by omega))
          rw [← hrem, hrs, hpr, hw]; rfl
        | some u =>
          have hvu := hvw u hw
          subst hvu
          refine condP_true.2 ?_
          refine setAll (c := zPrL) (vs := [.string (i.ah ++ i.sl), .string v]) bz5 rfl fun h6 b6 hu6 => ?_
          refine ⟨_, vc b6 0, _, vc b6 1, ?_⟩
          rw [← ekey]
          refine hs h6 its' i.key v (remP its') (by rw [← hrem, hrs, hpr, hw]; rfl) rfl (by omega) ?_ (hu05.trans hu6 fun b hb => .inr (Nat.le_of_eq (Eq.symm hb)))
          exact (cu5.upd hu6 (fun b hb => .inl (hCW b (hC b (Nat.le_of_eq (Eq.symm hb))))) (fun b hb _ e => hb.2 e) (by show ¬ cb = h.size; omega)).sub fun b hb _ => hb.1
  · have h0 : its = [] := List.length_eq_zero_iff.1 (by omega)
    subst h0
    refine setAll (c := zPrL) (vs := zPrL) bz rfl fun h6 b6 hu6 => ?_
    refine ⟨_, vc b6 0, _, vc b6 1, hn h6 hrem.symm (hu.trans hu6 fun b hb => .inr (Nat.le_of_eq (Eq.symm hb)))⟩
end Go.Proofs
namespace Go.Proofs
open Go Go.Lift
abbrev encP (x : Pr) : List Value := [.agg #[.string x.1, .string x.2]]
theorem appendSeqP_ok {h : Heap} {fv : Value} {N : Nat} {S : List Pr → Prop} {Q : Nat → Prop} (hg : Gives PG fv encP N S Q h) (hN : N ≤ 100000000) {K : SliceV → Heap → Prop}
    (hk : ∀ s' h' xs, S xs → OwnS prF 2 t_pair_Pair (fun b => h.size ≤ b) h' s' xs → Upd No h h' → K s' h') : HC PG f_slices_AppendSeq_A_pair_Pair_pair_Pair [.slice none 0 0, fv] [.c .slice] K h := by
  refine H_slices_AppendSeq_A_pair_Pair_pair_Pair ⟨none, 0, 0⟩ fv ?_
  unfold F_slices_AppendSeq_A_pair_Pair_pair_Pair
  have k0 := Upd.hnew No h [.slice none 0 0] t_A_pair_Pair
  have b0 := hnew_get h [.slice none 0 0] t_A_pair_Pair
  have hsz : (hnew h [.slice none 0 0] t_A_pair_Pair).size = h.size + 1 := hnew_size ..
  have hg1 := hg.upd k0 fun _ _ => id
  refine at_intro ?_
  generalize hnew h [.slice none 0 0] t_A_pair_Pair = h1 at hg1 k0 b0 hsz
  refine ⟨fun lo hlo hround => ?_⟩
  obtain ⟨f, first, cap, rfl, hrun⟩ := hg1.run
  refine ⟨f, first, cap, rfl, ?_⟩
  have k1 : Upd No h1 ((h1.push (.deferred (some []))).push (lo .ready none)) := (Upd.push No _ _).tr (Upd.push No _ _)
  have l2 : ((h1.push (.deferred (some []))).push (lo .ready none))[h1.size + 1]? = some (lo .ready none) := by
    have := push_get (h1.push (.deferred (some []))) (lo .ready none)
    rwa [Array.size_push] at this
  have l1 : ((h1.push (.deferred (some []))).push (lo .ready none))[h1.size]? = some (.deferred (some [])) := (Upd.push No _ _).get0 (push_get h1 _)
  refine hrun (.func (.yield (h1.size + 1)) #[] #[]) (fun pre A h' => (∀ b, A b → b < h'.size ∧ h.size ≤ b) ∧ A h.size ∧ A h1.size ∧ A (h1.size + 1) ∧ h'[h1.size]? = some (.deferred (some [])) ∧ h'[h1.size + 1]? = some (lo .ready none) ∧
      ∃ s : SliceV, h'[h.size]? = some (.cells #[sv s] t_A_pair_Pair (0, 0)) ∧ OwnS prF 2 t_pair_Pair (fun b => A b ∧ h1.size + 1 < b) h' s pre ∧ pre.length ≤ N)
    (fun b => b = h.size ∨ b = h1.size ∨ b = h1.size + 1) No _ _ ⟨fun _ _ _ hj b hb => (hj.1 b hb).1, fun pre A h' h'' B hj hu hB => ?_, fun pre A h' x K' hj hlen hK => ?_⟩ ?_ k1 (fun _ _ => id) (fun b hb hq => ?_) ?_
  · obtain ⟨h1', h2, h3, h4, h5, h6, s, h7, h8, h9⟩ := hj
    exact ⟨fun b hb => ⟨Nat.lt_of_lt_of_le (h1' b hb).1 hu.size, (h1' b hb).2⟩, h2, h3, h4, hu.get h5 (hB _ h3), hu.get h6 (hB _ h4), s, hu.get h7 (hB _ h2), h8.upd hu fun b hb => hB b hb.1, h9⟩
  · obtain ⟨hA, hA1, hA2, hA3, hd, hl, s, hs, ho, hpl⟩ := hj
    refine hround x h' K' hl ?_
    refine newPr (p := x) fun hp bp kp => ?_
    have zp := get_lt bp
    have hl := kp.get0 hl
    have hs := kp.get0 hs
    have hd := kp.get0 hd
    have hop := ho.upd kp fun _ _ h => h
    have sp := kp.size
    refine ⟨hl, ?_⟩
    have kb : Upd (· = h1.size + 1) hp (hp.setIfInBounds (h1.size + 1) (lo .busy none)) := Upd.set _ _ rfl
    have lb := set_get (o := lo .busy none) hl
    have sb := kb.size
    refine at_intro ?_
    generalize hp.setIfInBounds (h1.size + 1) (lo .busy none) = h2 at kb lb sb
    have hlt1 := (hA _ hA1).1
    have hlt3 := (hA _ hA3).1
    have bp2 := kb.get bp (by omega)
    have hs2 := kb.get hs (by omega)
    refine ⟨s, by rw [newA_eq, hcell_blk hs2]; rfl, _, vc bp2 0, _, vc bp2 1, at_intro ?_⟩
    refine append1p (p := x) (M := fun b => ((A b ∧ b < h'.size) ∨ h2.size ≤ b) ∧ h1.size + 1 < b) ((hop.upd kb fun b hb => by omega).more fun b hb => ⟨.inl ⟨hb.1, (hA b hb.1).1⟩, hb.2⟩) (fun b hb => ⟨.inr hb, by have := get_lt lb; omega⟩) (by omega) fun s' h3 ho3 hu3 => ?_
    have hs3 : h3[h.size]? = some (.cells #[sv s] t_A_pair_Pair (0, 0)) := hu3.get hs2 (by omega)
    refine ⟨by rw [newA_eq]; exact wr_blk hs3 (by simp), ?_⟩
    have k4 : Upd (· = h.size) h3 (hset h3 (newA h) (.slice s'.a s'.len s'.cap)) := Upd.hset _ _ rfl
    have hs4 : (hset h3 (newA h) (.slice s'.a s'.len s'.cap))[h.size]? = some (.cells #[sv s'] t_A_pair_Pair (0, 0)) := by
      rw [newA_eq, hset_blk hs3, set_get hs3]; rfl
    refine at_intro ?_
    generalize hset h3 (newA h) (.slice s'.a s'.len s'.cap) = h4 at k4 hs4
    have hl4 : h4[h1.size + 1]? = some (lo .busy none) := k4.get (hu3.get lb (by omega)) (by omega)
    refine ⟨hl4, ?_⟩
    have k5 : Upd (· = h1.size + 1) h4 (h4.setIfInBounds (h1.size + 1) (lo .ready none)) := Upd.set _ _ rfl
    have hl5 := set_get (o := lo .ready none) hl4
    have hall : Upd A h' h4 := ((kp.wide.tr (kb.mono (M' := A) fun b hb => .inl (hb ▸ hA3))).trans hu3 fun b hb => hb.1.imp (fun h => h.1) fun h => by omega).trans k4 fun b hb => .inl (hb ▸ hA1)
    have z3 := hu3.size
    have z4 := k4.size
    have z5 := k5.size
    refine hK _ (fun b => ((A b ∧ b < h'.size) ∨ h2.size ≤ b) ∧ b < h4.size) ⟨fun b hb => ⟨Nat.lt_of_lt_of_le hb.2 z5, hb.1.elim (fun h => (hA b h.1).2) fun h => by omega⟩, ⟨.inl ⟨hA1, hlt1⟩, by omega⟩, ⟨.inl ⟨hA2, (hA _ hA2).1⟩, by have := (hA _ hA2).1; omega⟩, ⟨.inl ⟨hA3, hlt3⟩, by omega⟩,
      k5.get (k4.get (hu3.get (kb.get hd (by omega)) (by omega)) (by omega)) (by omega), hl5, s', k5.get hs4 (by omega), ?_, by simp; omega⟩ (hall.trans k5 fun b hb => .inl (hb ▸ hA3)) fun b hb => hb.1.imp (fun h => h.1) fun h => by omega
    exact (((ho3.upd k4 fun b hb => by omega).within).more fun b hb => ⟨⟨hb.1.1, hb.2⟩, hb.1.2⟩).upd k5 fun b hb => by omega
  · refine ⟨fun b hb => ?_, .inl rfl, .inr (.inl rfl), .inr (.inr rfl), l1, l2, ⟨none, 0, 0⟩, k1.get0 b0, OwnS.nil prF_ne, Nat.zero_le _⟩
    have := get_lt l2
    rcases hb with rfl | rfl | rfl <;> omega
  · have := hg.lt b hq
    rcases hb with rfl | rfl | rfl <;> omega
  · rintro xs A' h' hS ⟨hA, hA1, hA2, hA3, hd, hl, s, hs, ho, hpl⟩ hu hA'
    refine ⟨.ready, none, by decide, hl, ?_⟩
    have k5 : Upd (· = h1.size + 1) h' (h'.setIfInBounds (h1.size + 1) (lo .exhausted none)) := Upd.set _ _ rfl
    show ∃ v : SliceV, hcell (h'.setIfInBounds (h1.size + 1) (lo .exhausted none)) (newA h) = some (.slice v.a v.len v.cap) ∧ _
    have hd5 := k5.get hd (show ¬ h1.size = h1.size + 1 by omega)
    have hs5 := k5.get hs (show ¬ h.size = h1.size + 1 by omega)
    have ho5 := ho.upd k5 fun b hb => by omega
    generalize h'.setIfInBounds (h1.size + 1) (lo .exhausted none) = h5 at k5 hd5 hs5 ho5
    refine ⟨s, by rw [newA_eq, hcell_blk hs5]; rfl, hd5, ?_⟩
    have k6 : Upd (· = h1.size) h5 (h5.setIfInBounds h1.size (.deferred none)) := Upd.set _ _ rfl
    refine hk s _ xs hS ((ho5.upd k6 fun b hb => by omega).more fun b hb => (hA b hb.1).2) ?_
    refine (((k0.tr k1).trans hu fun b hb => ?_).trans k5 fun b hb => .inr (by omega)).trans k6 fun b hb => .inr (by omega)
    rcases hb with rfl | rfl | rfl <;> (right; omega)
theorem collectP_ok {h : Heap} {fv : Value} {N : Nat} {S : List Pr → Prop} {Q : Nat → Prop} (hg : Gives PG fv encP N S Q h) (hN : N ≤ 100000000) {K : SliceV → Heap → Prop}
    (hk : ∀ s' h' xs, S xs → OwnS prF 2 t_pair_Pair (fun b => h.size ≤ b) h' s' xs → Upd No h h' → K s' h') : HC PG f_slices_Collect_pair_Pair [fv] [.c .slice] K h := by
  refine H_slices_Collect_pair_Pair fv ?_
  unfold F_slices_Collect_pair_Pair
  exact appendSeqP_ok hg hN hk
/-- A new cursor over a tree. -/
theorem spanNew_ok {W : Nat → Prop} {h : Heap} {b : Nat} {w : Option ByteArray} {F : Fo} (io : It.Ok W h ⟨b, ⟨#[]⟩, false, ⟨#[]⟩, w, F⟩) (hW : ∀ y, h.size ≤ y → W y) {K : Option Addr → Heap → Prop}
    (hk : ∀ h' cb, h.size ≤ cb → cb < h'.size → Cur W h' cb (fun y => h.size ≤ y ∧ y ≠ cb) [⟨b, ⟨#[]⟩, false, ⟨#[]⟩, w, F⟩] → Upd No h h' → K (some ⟨cb, 0, none⟩) h') : HC PG f_span_New [.pointer (some ⟨b, 0, none⟩), .agg #[.string ⟨#[]⟩, .string ⟨#[]⟩, .bool true], .bool false] [.c .ptr] K h := by
  refine H_span_New (some ⟨b, 0, none⟩) (⟨#[]⟩, ⟨#[]⟩, true) false ?_
  unfold F_span_New
  refine at_new fun h1 b1 k1 => ⟨_, vc b1 0, _, vc b1 1, true, vc b1 2, at_new fun h2 b2 k2 => condP_true.2 ⟨_, rfl, ⟨none, 0, 0⟩, vc b2 0, at_new fun h3 b3 k3 => ?_⟩⟩
  have s1 := k1.size
  have s2 := k2.size
  have z2 := get_lt b2
  have z3 := get_lt b3
  have o3 : OwnS wkF 3 t_span_work (fun _ => True) h3 ⟨some (newA h2), 1, 1⟩ [(some ⟨b, 0, none⟩, ⟨#[]⟩, false)] := ⟨rfl, wkF_ne, Nat.le_refl _, .inr ⟨h2.size, [], rfl, trivial, b3, rfl⟩⟩
  refine ⟨_, (o3.sl (W := No) fun _ _ _ h => h).srow, ?_⟩
  refine AppP.own (M := fun y => h3.size ≤ y) (ys := [(some ⟨b, 0, none⟩, ⟨#[]⟩, false)]) (OwnS.nil (f := wkF) wkF_ne) rfl rfl rfl rfl (by omega) (by simp) (Nat.le_refl _) fun s4 h4 ho4 hu4 => ?_
  have c4 := hu4.get (k3.get0 b2) (by omega)
  refine ⟨_, rfl, ?_⟩
  refine vset (i := 0) (c' := curC s4) c4 (show 0 < 5 by decide) rfl fun h5 c5 hu5 => ?_
  have hu : Upd No h h5 := (((k1.tr k2).tr k3).trans hu4 fun y hy => .inr (by omega)).own hu5 s1
  have s5 := hu4.size
  have s6 := hu5.size
  refine hk h5 h1.size s1 (by omega) ⟨⟨s4, c5, ?_⟩, fun i hi => ?_⟩ hu
  · exact (ho4.upd hu5 fun y hy e => by have e : y = h1.size := e; omega).more fun y hy => ⟨by omega, by omega⟩
  · rw [List.mem_singleton.1 hi]
    exact io.updM hu fun _ h => h.elim
theorem toU_app (l m : List Pr) : toU (l ++ m) = toU l ++ toU m := by unfold toU; rw [List.map_append]
/-- Each: an iterator over the pairs of a tree. -/
theorem spanEach_ok {W : Nat → Prop} {h : Heap} {b : Nat} {l : List Pr} (t : RadAt W h b l) (hr : Rises l) (hf : Fit l) (hn : l.length ≤ 60000) {K : Value → Heap → Prop}
    (hk : ∀ fv h', Gives PG fv encP (2 * l.length) (fun xs => xs = l) (fun y => y < h'.size) h' → Upd No h h' → K fv h') : HC PG f_span_Each [.pointer (some ⟨b, 0, none⟩), .agg #[.string ⟨#[]⟩, .string ⟨#[]⟩, .bool true], .bool false] [.c .raw] K h := by
  refine H_span_Each (some ⟨b, 0, none⟩) (⟨#[]⟩, ⟨#[]⟩, true) false ?_
  unfold F_span_Each
  refine at_new fun h1 b1 k1 => at_new fun h2 b2 k2 => at_new fun h3 b3 k3 => ?_
  have k03 := (k1.tr k2).tr k3
  have c1 := k3.get0 (k2.get0 b1)
  have c2 := k3.get0 b2
  have z1 := get_lt c1
  have z2 := get_lt c2
  have z3 := get_lt b3
  refine hk _ h3 ?_ k03
  obtain ⟨w, F, r1, r2, r3⟩ := (((t.upd0 k03).less (W' := fun y => h3.size ≤ y) fun y hy => .inr hy)).ex
  have hprs := rad_prs r2 hr r3
  have hcnt := cntF_le r2
  have hlenU := congrArg List.length hprs
  unfold prsR toU at hlenU
  rw [List.length_append, List.length_map] at hlenU
  refine ⟨fun y hy => hy, f_span_Each_1, #[], _, rfl, fun y J A M h4 K' ht hj hu hq ha hk' => ?_⟩
  refine HE_span_Each_1 y (newA h) (newA h1) (newA h2) ?_
  unfold F_span_Each_1
  have d1 := hu.get c1 (hq _ z1)
  have d2 := hu.get c2 (hq _ z2)
  have d3 := hu.get b3 (hq _ z3)
  have s4 := hu.size
  have io : It.Ok (fun y => h3.size ≤ y) h4 ⟨b, ⟨#[]⟩, false, ⟨#[]⟩, w, F⟩ := ⟨r1.updM hu fun y hy => .inl (by
    rcases Nat.lt_or_ge y h3.size with hl | hl
    · exact absurd hy (hq y hl)
    · exact hl), r2, by simp [It.key], fun p hp => by
      rw [hprs] at hp
      obtain ⟨q, hq', e⟩ := List.mem_map.1 hp
      have := (hf q hq').1
      rw [← e]
      simpa [It.key] using this⟩
  refine ⟨_, (by have := vc d1 0; rw [adr_mk, Nat.add_zero] at this; exact this), _, vc d2 0, _, vc d2 1, true, vc d2 2, false, (by have := vc d3 0; rw [adr_mk, Nat.add_zero] at this; exact this), ?_⟩
  refine spanNew_ok io (fun y hy => Nat.le_trans s4 hy) fun h5 cb hcb hcb5 cur k5 => ?_
  have hAlt := ht.lt _ _ _ hj
  have hA3 : ∀ y, A y → h3.size ≤ y := fun y hy => by
    rcases Nat.lt_or_ge y h3.size with hl | hl
    · exact absurd hl (ha y hy)
    · exact hl
  have s5 := k5.size
  have hcost0 : costP [⟨b, ⟨#[]⟩, false, ⟨#[]⟩, w, F⟩] ≤ 100000000 := by
    have : costP [⟨b, ⟨#[]⟩, false, ⟨#[]⟩, w, F⟩] = 2 + 2 * cntF F := by simp [costP, It.cost]
    rw [this]; omega
  have hrem0 : remP [⟨b, ⟨#[]⟩, false, ⟨#[]⟩, w, F⟩] = toU l := by
    rw [← hprs]
    simp [remP, It.prs, It.key]
  refine LoopP.ghost (fun (g : List Pr × List It × (Nat → Prop)) (_ : Unit) h' => Cur (fun y => h3.size ≤ y) h' cb (fun y => h4.size ≤ y ∧ y ≠ cb ∧ ¬ g.2.2 y) g.2.1 ∧ J g.1 g.2.2 h' ∧ Upd A h4 h' ∧ (∀ y, g.2.2 y → (A y ∨ h4.size ≤ y) ∧ y ≠ cb) ∧ toU g.1 ++ remP g.2.1 = toU l ∧ costP g.2.1 ≤ 100000000 ∧ h5.size ≤ h'.size) (fun g => (remP g.2.1).length) ([], [⟨b, ⟨#[]⟩, false, ⟨#[]⟩, w, F⟩], A)
    ⟨cur.sub fun y hy hlt => ⟨hy.1, hy.2, fun hx => by have := hAlt y hx; omega⟩, ht.keep _ _ _ _ No hj k5 (fun _ _ h => h), k5.wide, fun y hy => ⟨.inl hy, by have := hAlt y hy; omega⟩, by rw [hrem0]; rfl, hcost0, Nat.le_refl _⟩ ?_
  rintro I ⟨pre, items, A1⟩ ⟨⟩ h' ⟨cu, hj', hu', hA1, hrem, hco, hsz⟩ hI
  simp only at cu hj' hA1 hrem hco
  have hlt' := ht.lt _ _ _ hj'
  have hA1W : ∀ y, A1 y → h3.size ≤ y := fun y hy => (hA1 y hy).1.elim (hA3 y) fun h => by omega
  refine next_ok cu (fun y hy => ⟨by omega, by omega, fun hx => by have := hlt' y hx; omega⟩) (fun y hy => Nat.le_trans s4 hy.1) (Nat.le_trans s4 hcb) (fun hx => hx.2.1 rfl) hco (fun h6 hr0 hu6 => ?_) fun h6 items' k v R hr1 hr2 hc6 cu6 hu6 => ?_
  · have hd : ∀ y, A1 y → ¬ ((h4.size ≤ y ∧ y ≠ cb ∧ ¬ A1 y) ∨ y = cb) := fun y hy hx => hx.elim (fun h => h.2.2 hy) (hA1 y hy).2
    have hj6 := ht.keep _ _ _ _ _ hj' hu6 hd
    refine newPr fun h7 b7 k7 => ?_
    refine Join.intro (fun t h8 => t = true ∧ h8 = h7) (fun R hR => condP_true.2 (hR _ _ ⟨rfl, rfl⟩)) ?_
    rintro t h8 ⟨rfl, rfl⟩
    refine condP_true.2 (hk' pre A1 h8 ?_ (ht.keep _ _ _ _ No hj6 k7 (fun _ _ h => h)) ?_ fun y hy => (hA1 y hy).1)
    · rw [hr0, List.append_nil] at hrem
      exact toU_inj hrem
    · exact (hu'.trans hu6 fun y hy => .inr (by rcases hy with hy | hy; exact hy.1; omega)).tr k7.wide
  · have hd : ∀ y, A1 y → ¬ ((h4.size ≤ y ∧ y ≠ cb ∧ ¬ A1 y) ∨ y = cb) := fun y hy hx => hx.elim (fun h => h.2.2 hy) (hA1 y hy).2
    have hj6 := ht.keep _ _ _ _ _ hj' hu6 hd
    refine newPr (p := (⟨k.toArray⟩, v)) fun h7 b7 k7 => ?_
    have hj7 := ht.keep _ _ _ _ No hj6 k7 (fun _ _ h => h)
    have cu7 := cu6.upd k7 (fun _ h => h.elim) (fun _ _ _ h => h) fun h => h
    have hu47 : Upd A h4 h7 := (hu'.trans hu6 fun y hy => .inr (by rcases hy with hy | hy; exact hy.1; omega)).tr k7.wide
    have s6 := hu6.size
    have s7 := k7.size
    refine Join.intro (fun t h8 => t = false ∧ ∃ A3, J (pre ++ [(⟨k.toArray⟩, v)]) A3 h8 ∧ Upd A1 h7 h8 ∧ ∀ y, A3 y → A1 y ∨ h7.size ≤ y) (fun R' hR => ?_) ?_
    · refine condP_false.2 ⟨_, vc b7 0, _, vc b7 1, ?_⟩
      refine ht.step pre A1 h7 (⟨k.toArray⟩, v) _ hj7 ?_ fun h8 A3 hj8 hu8 hA8 => hR _ _ ⟨rfl, A3, hj8, hu8, hA8⟩
      have := congrArg List.length hrem
      rw [hr1] at this
      simp only [toU, List.length_append, List.length_map, List.length_cons] at this
      omega
    · rintro t h8 ⟨rfl, A3, hj8, hu8, hA8⟩
      refine condP_false.2 (hI (pre ++ [(⟨k.toArray⟩, v)], items', A3) () h8 ⟨?_, hj8, ?_, fun y hy => ?_, ?_, by simp only; omega, by have := hu8.size; omega⟩ ?_)
      · have c7 : Cur (fun y => h3.size ≤ y) h7 cb (fun y => (h4.size ≤ y ∧ y ≠ cb ∧ ¬ A1 y) ∧ y < h7.size) items' := cu7.sub fun y hy hlt => ⟨hy, hlt⟩
        exact (c7.upd hu8 (fun y hy => .inl (hA1W y hy)) (fun y hy _ hx => hy.1.2.2 hx) (fun hx => (hA1 _ hx).2 rfl)).sub fun y hy _ => ⟨hy.1.1, hy.1.2.1, fun hx => by
          rcases hA8 y hx with h | h
          · exact hy.1.2.2 h
          · have := hy.2; omega⟩
      · exact hu47.trans hu8 fun y hy => (hA1 y hy).1
      · rcases hA8 y hy with h | h
        · exact hA1 y h
        · exact ⟨.inr (by omega), by omega⟩
      · simp only
        rw [toU_app, List.append_assoc, hr2, ← hrem, hr1]
        rfl
      · simp only
        rw [hr1, hr2]; simp
theorem spanPairs_ok {W : Nat → Prop} {h : Heap} {b : Nat} {l : List Pr} (t : RadAt W h b l) (hr : Rises l) (hf : Fit l) (hn : l.length ≤ 60000) {K : SliceV → Heap → Prop}
    (hk : ∀ s' h', OwnS prF 2 t_pair_Pair (fun y => h.size ≤ y) h' s' l → Upd No h h' → K s' h') : HC PG f_span_Pairs [.pointer (some ⟨b, 0, none⟩), .agg #[.string ⟨#[]⟩, .string ⟨#[]⟩, .bool true]] [.c .slice] K h := by
  refine H_span_Pairs (some ⟨b, 0, none⟩) (⟨#[]⟩, ⟨#[]⟩, true) ?_
  unfold F_span_Pairs
  refine at_new fun h1 b1 k1 => ⟨_, vc b1 0, _, vc b1 1, true, vc b1 2, ?_⟩
  refine spanEach_ok (t.upd0 k1) hr hf hn fun fv h2 hg k2 => ?_
  refine collectP_ok hg (by omega) fun s3 h3 xs e ho k3 => ?_
  subst e
  have s12 := (k1.tr k2).size
  exact hk s3 h3 (ho.more fun y hy => by omega) ((k1.tr k2).tr k3)
theorem tPairsR_ok {W : Nat → Prop} {x : Hs} {h : Heap} {t : Tr} {l : List Pr} (i : TreeIs W h 1 x t l) (hr : Rises l) (hf : Fit l) (hn : l.length ≤ 60000) {K : SliceV → Heap → Prop}
    (hk : ∀ s' h', OwnS prF 2 t_pair_Pair (fun y => h.size ≤ y) h' s' l → Upd No h h' → K s' h') : HC PG f_tree_Tree_Pairs [trV t] [.c .slice] K h := by
  refine H_tree_Tree_Pairs t ?_
  unfold F_tree_Tree_Pairs
  rcases i with ⟨e, _⟩ | ⟨_, b, rfl, t⟩
  · cases e
  refine at_new fun h1 b1 k1 => ⟨_, vc b1 0, condP_true.2 ⟨_, vc b1 5, ?_⟩⟩
  refine H_span_All ?_
  unfold F_span_All
  refine at_new fun h2 b2 k2 => ?_
  refine setAll (c := [.string (⟨#[]⟩ : ByteArray), .string (⟨#[]⟩ : ByteArray), .bool false]) (vs := [.string (⟨#[]⟩ : ByteArray), .string (⟨#[]⟩ : ByteArray), .bool true]) b2 rfl fun h3 b3 hu3 => ?_
  have k3 : Upd No h1 h3 := k2.own hu3 (Nat.le_refl _)
  have k03 := k1.tr k3
  refine ⟨_, vc b3 0, _, vc b3 1, true, vc b3 2, vc (k3.get0 b1) 5, ?_⟩
  refine spanPairs_ok (t.upd0 k03) hr hf hn fun s4 h4 ho k4 => hk s4 h4 (ho.more fun y hy => ?_) (k03.tr k4)
  have := k03.size
  omega
end Go.Proofs
namespace Go.Proofs
open Go Go.Lift
abbrev bA : ByteArray := ⟨#[97]⟩
abbrev bB : ByteArray := ⟨#[98]⟩
theorem bab : kl bA bB := by rw [kl_data]; decide
theorem bba : ¬ kl bB bA := by rw [kl_data]; decide
theorem bne' : bB ≠ bA := fun h => by
  have := bab
  rw [h] at this; exact kl_irrefl _ this
theorem awake_srt : srtL [(bB, ⟨#[49]⟩), (bA, ⟨#[50]⟩), (bB, ⟨#[51]⟩)] = [(bA, ⟨#[50]⟩), (bB, ⟨#[51]⟩)] := by
  unfold srtL
  rw [List.foldl_cons, List.foldl_cons, List.foldl_cons, List.foldl_nil]
  have e1 : insR (bB, ⟨#[49]⟩) [] = [(bB, ⟨#[49]⟩)] := rfl
  rw [e1, insR_cons, if_neg bba, if_neg bne', insR_cons, if_pos bab, insR_cons, if_neg (kl_irrefl _), if_pos rfl]
theorem awake15_ok {h : Heap} {K : Bool → Heap → Prop} (hk : ∀ h', Upd No h h' → K true h') : HC PG f_l15_awake [] [.c .bool] K h := by
  refine H_l15_awake ?_
  unfold F_l15_awake
  refine at_new fun h1 b1 k1 => ?_
  have hs : Sl prF 2 No h1 ⟨some (newA h), 3, 3⟩ [(bB, ⟨#[49]⟩), (bA, ⟨#[50]⟩), (bB, ⟨#[51]⟩)] := ⟨rfl, prF_ne, fun _ => ⟨_, rfl, fun h => h.elim, row_blk b1 fun i v hv => by simpa using hv⟩⟩
  refine buildTree_ok (W := No) (x := ⟨0, 0, 0⟩) hs (fun _ h => h.elim) (by simp) (fun p hp => ?_) (.inr rfl) fun h3 t i3 k3 => ?_
  · rcases List.mem_cons.1 hp with rfl | hp
    · exact ⟨by decide, by decide⟩
    rcases List.mem_cons.1 hp with rfl | hp
    · exact ⟨by decide, by decide⟩
    rw [List.mem_singleton.1 hp]
    exact ⟨by decide, by decide⟩
  rw [awake_srt] at i3
  refine newTr' (t := t) fun h5 b5 k5 => ?_
  refine ⟨_, vc b5 0, _, vc b5 1, _, vc b5 2, _, vc b5 3, _, vc b5 4, _, vc b5 5, ?_⟩
  have hri : Rises [(bA, (⟨#[50]⟩ : ByteArray)), (bB, ⟨#[51]⟩)] := List.pairwise_cons.2 ⟨fun p hp => by rw [List.mem_singleton.1 hp]; exact bab, List.pairwise_singleton ..⟩
  refine tPairsR_ok (i3.upd0 k5) hri (fun p hp => ?_) (by decide) fun s13 h13 ho13 k13 => ?_
  · rcases List.mem_cons.1 hp with rfl | hp
    · exact ⟨by decide, by decide⟩
    rw [List.mem_singleton.1 hp]
    exact ⟨by decide, by decide⟩
  have hlen := ho13.len
  have hs13 := ho13.sl (W := No) fun _ _ _ h => h
  obtain ⟨a, ha, _, hv⟩ := hs13.at (i := 0) (x := (bA, (⟨#[50]⟩ : ByteArray))) rfl
  obtain ⟨a', ha', _, hv'⟩ := hs13.at (i := 1) (x := (bB, (⟨#[51]⟩ : ByteArray))) rfl
  rw [ha] at ha'; cases ha'
  have e1 : ((s13.len : Int) == (2 : Int)) = true := by rw [hlen]; rfl
  refine condP_true.2 ?_
  rw [e1]
  refine condP_true.2 ⟨⟨by omega, by rw [hlen]; decide⟩, a, ha, bA, hv 0 _ rfl, ⟨#[50]⟩, hv 1 _ rfl, ?_⟩
  rw [beq_self_eq_true, beq_self_eq_true]
  refine condP_true.2 ⟨⟨by omega, by rw [hlen]; decide⟩, a, ha, ⟨#[51]⟩, hv' 1 _ rfl, ?_⟩
  rw [beq_self_eq_true]
  exact hk h13 (((k1.tr k3).tr k5).tr k13)
theorem srt_fit {l : List Pr} (h : ∀ p ∈ l, p.1.size ≤ 40 ∧ p.2.size ≤ 40) : Fit (srtL l) := fun p hp => by
  have := h p (srt_sub hp); omega
set_option maxRecDepth 100000 in
theorem buildRoots_ok {h : Heap} {x : Hs} {s : SliceV} {l : List Pr} (hs : Sl prF 2 No h s l) (hl : l.length ≤ 9223372036854775807) :
    HC PG f_l15_BuildRoots [.agg #[.int .u64 x.k0, .int .u64 x.k1, .int .u64 x.mask], .slice s.a s.len s.cap] [.c .bool] (fun b h' => b = true ∧ Upd No h h') h := by
  refine H_l15_BuildRoots (x.k0, x.k1, x.mask) s ?_
  unfold F_l15_BuildRoots
  refine at_new fun h1 b1 k1 => awake15_ok fun h3 k3 => condP_false.2 ?_
  have k03 := k1.tr k3
  refine few15_ok (hs.upd k03 fun _ h => h.elim) hl fun e h5 ho5 k5 => ?_
  have k05 := k03.tr k5
  have c5 := k5.get0 (k3.get0 b1)
  have hse : Sl prF 2 No h5 e (fewL l) := ho5.sl fun _ _ _ h => h
  obtain ⟨f1, f2⟩ := fewL_ok l
  have hfit := srt_fit f2
  have hr := srt_rises (fewL l)
  have hsl := srt_len (fewL l)
  generalize fewL l = L at *
  have hB : ∀ p ∈ L, p.1.size ≤ 256 ∧ p.2.size ≤ 4096 := fun p hp => by have := f2 p hp; omega
  refine ⟨_, vc c5 0, _, vc c5 1, _, vc c5 2, ?_⟩
  refine buildTree_ok (W := No) (x := x) hse (fun _ h => h.elim) (by omega) hB (.inl rfl) fun h10 a ia k10 => ?_
  refine newTr' (t := a) fun h12 va g12 => ?_
  have k512 := k10.tr g12
  have ia := ia.upd0 g12
  have c12 := k512.get0 c5
  refine ⟨_, vc c12 0, _, vc c12 1, _, vc c12 2, ?_⟩
  refine buildTree_ok (W := No) (x := x) (hse.upd k512 fun _ h => h.elim) (fun _ h => h.elim) (by omega) hB (.inr rfl) fun h17 b ib k17 => ?_
  refine newTr' (t := b) fun h19 vb g19 => ?_
  have k1219 := k17.tr g19
  have ib := ib.upd0 g19
  have ia := ia.upd0 k1219
  have va := k1219.get0 va
  have c19 := k1219.get0 c12
  have k519 := k512.tr k1219
  refine ⟨_, vc c19 0, _, vc c19 1, _, vc c19 2, _, vc c19 0, _, vc c19 1, _, vc c19 2, _, vc va 0, _, vc va 1, _, vc va 2, _, vc va 3, _, vc va 4, _, vc va 5, ?_⟩
  refine champB_ok (z := x) (W := No) (hse.upd k519 fun _ h => h.elim) (fun _ h => h.elim) (by omega) fun h33 rb t33 k33 => ?_
  have va33 := k33.get0 va
  have c33 := k33.get0 c19
  refine ⟨⟨vc va33 0, vc va33 1, vc va33 2, vc va33 3, vc va33 4, vc va33 5⟩, ⟨vc c33 0, vc c33 1, vc c33 2⟩, ?_⟩
  refine tOfChamp_ok (x := x) (W := No) (.inr ⟨rb, rfl, t33⟩) (fun _ h => h.elim) fun h35 c ic k35 => ?_
  have va35 := k35.get0 va33
  have k1935 := k33.tr k35
  refine ⟨⟨vc va35 0, vc va35 1, vc va35 2, vc va35 3, vc va35 4, vc va35 5⟩, ?_⟩
  refine tSame_ok ic (ia.upd0 k1935) hr hfit (by omega) hr hfit (by omega) fun h37 k37 => ?_
  rw [like_same ic ia, decide_eq_true rfl]
  have k1937 := k1935.tr k37
  have vb37 := k1937.get0 vb
  refine condP_true.2 ⟨_, vc vb37 0, _, vc vb37 1, _, vc vb37 2, _, vc vb37 3, _, vc vb37 4, _, vc vb37 5, ?_⟩
  refine radixB_ok (W := No) (hse.upd (k519.tr k1937) fun _ h => h.elim) (fun _ h => h.elim) (by omega) (fun p hp => by have := f2 p hp; omega) fun h45 rr t45 k45 => ?_
  have vb45 := k45.get0 vb37
  refine ⟨⟨vc vb45 0, vc vb45 1, vc vb45 2, vc vb45 3, vc vb45 4, vc vb45 5⟩, ?_⟩
  refine tOfRadix_ok (x := x) (W := No) (.inr ⟨rr, rfl, t45⟩) (fun _ h => h.elim) fun h47 d id' k47 => ?_
  have vb47 := k47.get0 vb45
  refine ⟨⟨vc vb47 0, vc vb47 1, vc vb47 2, vc vb47 3, vc vb47 4, vc vb47 5⟩, ?_⟩
  have k1947 := (k1937.tr k45).tr k47
  refine tSame_ok id' (ib.upd0 k1947) hr hfit (by omega) hr hfit (by omega) fun h49 k49 => ⟨?_, ((k05.tr k519).tr k1947).tr k49⟩
  rw [like_same id' ib, decide_eq_true rfl]; rfl
end Go.Proofs
