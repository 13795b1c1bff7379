/- A part of the proof that the named laws of this program answer true, whatever the input. -/
import Derived.Test.YtjkhbpjhngfpaaaGreatPart4
namespace Go.Proofs
open Go Go.Lift
theorem rxLabel_ok {W : Nat → Prop} {h : Heap} {b : Nat} {sl : ByteArray} {w : Option ByteArray} {F : Fo} (r : RxN W h b sl w F) {K : ByteArray → Heap → Prop} (hk : K sl h) : HC PG f_radix_Node_Label [.pointer (some ⟨b, 0, none⟩)] [.c .str] K h := by
  refine H_radix_Node_Label _ ?_
  unfold F_radix_Node_Label
  obtain ⟨val, s, ow, ks, hb, _⟩ := r
  exact condP_false.2 ⟨_, rfl, sl, rcell (i := 0) hb, hk⟩
theorem rxValue_ok {W : Nat → Prop} {h : Heap} {b : Nat} {sl : ByteArray} {w : Option ByteArray} {F : Fo} (r : RxN W h b sl w F) {K : ByteArray × Bool → Heap → Prop} (hk : ∀ v, (∀ u, w = some u → v = u) → K (v, w.isSome) h) : HC PG f_radix_Node_Value [.pointer (some ⟨b, 0, none⟩)] [.c .str, .c .bool] K h := by
  refine H_radix_Node_Value _ ?_
  unfold F_radix_Node_Value
  obtain ⟨val, s, ow, ks, hb, hv, _⟩ := r
  exact condP_false.2 ⟨_, rfl, val, rcell (i := 2) hb, _, rfl, w.isSome, rcell (i := 1) hb, hk val hv⟩
theorem rxKids_ok {W : Nat → Prop} {h : Heap} {b : Nat} {sl : ByteArray} {w : Option ByteArray} {F : Fo} (r : RxN W h b sl w F) (hn : F.toL.length ≤ 256) {K : SliceV → Heap → Prop} (hk : ∀ s' h' ks, OwnS rxF 1 t_P_radix_Node (fun y => h.size ≤ y) h' s' ks → RxL W h' ks F.toL → Upd No h h' → K s' h') : HC PG f_radix_Node_Kids [.pointer (some ⟨b, 0, none⟩)] [.c .slice] K h := by
  refine H_radix_Node_Kids _ ?_
  unfold F_radix_Node_Kids
  obtain ⟨val, s, ow, ks, hb, hv, hs, _, hF⟩ := r
  have hL := rxF_iff.1 hF
  refine condP_false.2 ⟨_, rfl, s, rcell (i := 3) hb, ?_⟩
  refine clone_rxF hs (by rw [hL.1]; omega) fun s' h' ho hu => hk s' h' ks ho (hL.upd0 hu) hu
theorem less_nil (x : List UInt8) : Op.bytesLess x [] = false := by cases x <;> rfl
theorem nil_list : (⟨#[]⟩ : ByteArray).toList = [] := by rw [ByteArray.toList_eq]
theorem past_ok {k : ByteArray} {h : Heap} {K : Bool → Heap → Prop} (hk : ∀ h', Upd No h h' → K false h') : HC PG f_span_Span_past [.agg #[.string ⟨#[]⟩, .string ⟨#[]⟩, .bool true], .string k] [.c .bool] K h := by
  refine H_span_Span_past (⟨#[]⟩, ⟨#[]⟩, true) k ?_
  unfold F_span_Span_past
  refine at_new fun h1 b1 k1 => ?_
  refine Join.intro (fun t h' => t = false ∧ h' = h1) (fun R hR => ⟨true, vc b1 2, condP_false.2 (hR _ _ ⟨rfl, rfl⟩)⟩) ?_
  rintro t h' ⟨rfl, rfl⟩
  refine condP_false.2 ⟨_, vc b1 0, ?_⟩
  rw [nil_list, less_nil]
  exact condP_false.2 (hk h' k1)
theorem has_span_ok {k : ByteArray} {h : Heap} {K : Bool → Heap → Prop} (hk : ∀ h', Upd No h h' → K true h') : HC PG f_span_Span_Has [.agg #[.string ⟨#[]⟩, .string ⟨#[]⟩, .bool true], .string k] [.c .bool] K h := by
  refine H_span_Span_Has (⟨#[]⟩, ⟨#[]⟩, true) k ?_
  unfold F_span_Span_Has
  refine at_new fun h1 b1 k1 => ⟨_, vc b1 0, ?_⟩
  rw [nil_list, less_nil]
  exact condP_true.2 ⟨true, vc b1 2, condP_true.2 (hk h1 k1)⟩
def It.Ok (W : Nat → Prop) (h : Heap) (i : It) : Prop := RxN W h i.b i.sl i.w i.F ∧ CanF i.F ∧ i.key.length ≤ 10000 ∧ ∀ p ∈ prsR i.w i.F, i.key.length + p.1.length ≤ 10000
theorem It.Ok.updM {W M : Nat → Prop} {h h' : Heap} (k : Upd M h h') (hm : ∀ b, M b → W b ∨ h.size ≤ b) {i : It} (o : It.Ok W h i) : It.Ok W h' i := ⟨o.1.updM k hm, o.2⟩
/-- Items of kids. -/
theorem kidsIts {W : Nat → Prop} {h : Heap} (ah : ByteArray) : ∀ {ks : List (Option Addr)} {L : List Bn}, RxL W h ks L → ∃ its : List It, its.map It.raw = ks.map (fun k => (k, ah, false)) ∧ its.map (fun i => (i.sl.data.toList, i.w, i.F)) = L ∧ ∀ i ∈ its, i.ah = ah ∧ i.own = false ∧ RxN W h i.b i.sl i.w i.F
  | [], [], _ => ⟨[], rfl, rfl, by simp⟩
  | [], _ :: _, r => absurd r.1 (by simp)
  | _ :: _, [], r => absurd r.1 (by simp)
  | k :: ks, n :: L, r => by
    obtain ⟨its, h1, h2, h3⟩ := kidsIts ah (ks := ks) (L := L) ⟨by simpa using r.1, fun p hp => r.2 p (by rw [List.zip_cons_cons]; exact List.mem_cons_of_mem _ hp)⟩
    obtain ⟨b, sl, e1, e2, e3⟩ := r.2 (k, n) (by rw [List.zip_cons_cons]; exact List.mem_cons_self ..)
    simp only at e1 e2 e3
    refine ⟨⟨b, ah, false, sl, n.2.1, n.2.2⟩ :: its, ?_, ?_, ?_⟩
    · rw [List.map_cons, List.map_cons, h1, e1]; rfl
    · rw [List.map_cons, h2]; simp only [e2]
    · intro i hi
      rcases List.mem_cons.1 hi with rfl | hi
      · exact ⟨rfl, rfl, e3⟩
      · exact h3 i hi
theorem prsF_cons (lab : List UInt8) (w : Option ByteArray) (kids rest : Fo) : prsF (.cons lab w kids rest) = ((w.map fun v => (([] : List UInt8), v)).toList ++ prsF kids).map (fun p => (lab ++ p.1, p.2)) ++ prsF rest := rfl
theorem cntF_cons (lab : List UInt8) (w : Option ByteArray) (kids rest : Fo) : cntF (.cons lab w kids rest) = 1 + cntF kids + cntF rest := rfl
theorem prsF_its {ah : ByteArray} {key : List UInt8} (hk : ah.data.toList = key) : ∀ {F : Fo} {its : List It}, its.map (fun i => (i.sl.data.toList, i.w, i.F)) = F.toL → (∀ i ∈ its, i.ah = ah ∧ i.own = false) → its.flatMap It.prs = (prsF F).map fun p => (key ++ p.1, p.2)
  | .nil, its, h, _ => by
    have : its = [] := by simpa [Fo.toL] using h
    rw [this]; rfl
  | .cons lab w kids rest, [], h, _ => by simp [Fo.toL] at h
  | .cons lab w kids rest, i :: its, h, ha => by
    rw [Fo.toL_cons, List.map_cons, List.cons.injEq] at h
    obtain ⟨h1, h2⟩ := h
    simp only [Prod.mk.injEq] at h1
    obtain ⟨e1, e2, e3⟩ := h1
    rw [List.flatMap_cons, prsF_its hk h2 fun j hj => ha j (List.mem_cons_of_mem _ hj)]
    obtain ⟨a1, a2⟩ := ha i (List.mem_cons_self ..)
    rw [prsF_cons, List.map_append, List.map_map]
    congr 1
    unfold It.prs It.key prsR
    rw [a2, a1, hk, e1, e2, e3]
    simp only [Bool.false_eq_true, if_false, List.append_assoc, List.map_append, Function.comp_def]
theorem cost_its : ∀ {F : Fo} {its : List It}, its.map (fun i => (i.sl.data.toList, i.w, i.F)) = F.toL → (∀ i ∈ its, i.own = false) → costP its = 2 * cntF F
  | .nil, its, h, _ => by
    have : its = [] := by simpa [Fo.toL] using h
    rw [this]; rfl
  | .cons lab w kids rest, [], h, _ => by simp [Fo.toL] at h
  | .cons lab w kids rest, i :: its, h, ha => by
    rw [Fo.toL_cons, List.map_cons, List.cons.injEq] at h
    obtain ⟨h1, h2⟩ := h
    simp only [Prod.mk.injEq] at h1
    have e := cost_its h2 fun j hj => ha j (List.mem_cons_of_mem _ hj)
    unfold costP at e ⊢
    rw [List.map_cons, List.sum_cons, e]
    rw [cntF_cons]
    unfold It.cost
    rw [ha i (List.mem_cons_self ..), h1.2.2]
    simp only [Bool.false_eq_true, if_false]
    omega
theorem len_cost : ∀ l : List It, l.length ≤ costP l
  | [] => Nat.le_refl _
  | i :: l => by
    have := len_cost l
    unfold costP at this ⊢
    rw [List.map_cons, List.sum_cons, List.length_cons]
    have : 1 ≤ i.cost := by unfold It.cost; split <;> omega
    omega
abbrev curC (s : SliceV) : Array Value := #[sv s, .string (⟨#[]⟩ : ByteArray), .string (⟨#[]⟩ : ByteArray), .bool true, .bool false]
/-- A cursor over all keys. -/
structure Cur (W : Nat → Prop) (h : Heap) (cb : Nat) (C : Nat → Prop) (items : List It) : Prop where
  ex : ∃ s, h[cb]? = some (.cells (curC s) t_span_Cursor (0, 0)) ∧ OwnS wkF 3 t_span_work C h s (items.map It.raw)
  ok : ∀ i ∈ items, It.Ok W h i
theorem kid_ok {W : Nat → Prop} {h h' : Heap} {i : It} (io : It.Ok W h i) (ho : i.own = false) {its : List It} (e : its.map (fun i => (i.sl.data.toList, i.w, i.F)) = i.F.toL) {ah : ByteArray} (ha : ah.data.toList = i.key) (hi : ∀ j ∈ its, j.ah = ah ∧ j.own = false ∧ RxN W h' j.b j.sl j.w j.F) : ∀ j ∈ its, It.Ok W h' j := by
  intro j hj
  obtain ⟨a1, a2, a3⟩ := hi j hj
  have hm : (j.sl.data.toList, j.w, j.F) ∈ i.F.toL := by rw [← e]; exact List.mem_map.2 ⟨j, hj, rfl⟩
  have hcn := (canF_iff.1 io.2.1).2 _ hm
  have hall : ∀ p ∈ prsR j.w j.F, j.key.length + p.1.length ≤ 10000 := fun p hp => by
    have hin : InF i.F (j.sl.data.toList ++ p.1) p.2 := inF_iff.2 ⟨_, hm, p.1, rfl, mem_prsR.1 (show (p.1, p.2) ∈ _ from hp)⟩
    have := io.2.2.2 (j.sl.data.toList ++ p.1, p.2) (mem_prsR.2 (.inr hin))
    unfold It.key at this ⊢
    rw [a1, ha]
    unfold It.key
    simp only [List.length_append] at this ⊢
    omega
  obtain ⟨r, v, hr⟩ := inF_some io.2.1 _ hm
  have := hall (r, v) (mem_prsR.2 hr)
  exact ⟨a3, hcn.2.2, by simp only at this; omega, hall⟩
set_option maxHeartbeats 1000000 in
theorem push_ok {W C : Nat → Prop} {h : Heap} {cb : Nat} {items : List It} {i : It} (cur : Cur W h cb C items) (io : It.Ok W h i) (ho : i.own = false) (hC : ∀ b, h.size ≤ b → C b) (hCW : ∀ b, C b → W b) (hcbW : W cb) (hcb : ¬ C cb) (hcost : costP items + i.cost ≤ 100000000) {K : Unit → Heap → Prop}
    (hk : ∀ h' kids, Cur W h' cb C (items ++ kids) → remP kids = i.prs → costP kids < i.cost → Upd (fun b => C b ∨ b = cb) h h' → K () h') : HC PG f_span_Cursor_push [.pointer (some ⟨cb, 0, none⟩), .agg #[.pointer (some ⟨i.b, 0, none⟩), .string i.ah, .bool i.own]] [] K h := by
  refine H_span_Cursor_push (some ⟨cb, 0, none⟩) i.raw ?_
  unfold F_span_Cursor_push
  obtain ⟨s, hcell, hst⟩ := cur.ex
  refine at_new fun h1 b1 k1 => ?_
  have zc := get_lt hcell
  have s1 := k1.size
  refine ⟨i.ah, vc b1 1, _, vc b1 0, ?_⟩
  have io1 := io.updM (k1.wide (M := C)) fun b hb => .inl (hCW b hb)
  refine rxLabel_ok io1.1 ⟨vc b1 1, ?_, ?_⟩
  · have := io.2.2.1
    unfold It.key at this
    rw [List.length_append] at this
    have e1 : i.ah.data.toList.length = i.ah.size := by simp
    have e2 : i.sl.data.toList.length = i.sl.size := by simp
    omega
  have c1 := k1.get0 hcell
  refine ⟨_, rfl, _, vc2 c1 1 0, _, vc2 c1 1 1, true, vc2 c1 1 2, ?_⟩
  refine past_ok fun h2 k2 => condP_false.2 ⟨_, vc (k2.get0 b1) 0, i.ah, vc (k2.get0 b1) 1, ?_⟩
  have k02 := k1.tr k2
  refine at_new fun h3 b3 k3 => ⟨_, vc (k3.get0 (k2.get0 b1)) 0, ?_⟩
  have k03 := k02.tr k3
  have z3 := get_lt b3
  have s2 := k02.size
  have io3 := io.updM (k03.wide (M := C)) fun b hb => .inl (hCW b hb)
  have hn := can_len io.2.1
  refine rxKids_ok io3.1 hn fun s4 h4 ks ho4 hL4 k4 => ?_
  have k04 := k03.tr k4
  have hs4 : Sl rxF 1 (fun b => h2.size ≤ b ∧ b < h3.size ∨ h4.size ≤ b) h4 s4 ks := ho4.sl fun b hb hlt hx => by rcases hx with hx | hx <;> omega
  have hlk : ks.length ≤ 256 := by rw [hL4.1]; exact hn
  have hlen4 := hs4.len
  have s34 := k4.size
  let own : It := ⟨i.b, i.ah, true, i.sl, i.w, i.F⟩
  have o3 : OwnS wkF 3 t_span_work (fun b => h2.size ≤ b ∧ b < h3.size ∨ h4.size ≤ b) h4 ⟨some (newA h2), 1, 1⟩ [own.raw] := ⟨rfl, wkF_ne, Nat.le_refl _, .inr ⟨h2.size, [], rfl, .inl ⟨Nat.le_refl _, z3⟩, k4.get0 b3, rfl⟩⟩
  have eah : (i.ah ++ i.sl).data.toList = i.key := by unfold It.key; rw [ByteArray.data_append, Array.toList_append]
  obtain ⟨its, e1, e2, e3⟩ := kidsIts (i.ah ++ i.sl) hL4
  have hst4 := (hst.within.upd k04 fun _ _ h => h)
  have c4 := k04.get0 hcell
  have hM : ∀ b, h4.size ≤ b → (h2.size ≤ b ∧ b < h3.size ∨ h4.size ≤ b) := fun b hb => .inr hb
  refine LoopP.ghost (fun (n : Nat) (t : SliceV × Int) h' => t.2 = (n : Int) ∧ n ≤ ks.length ∧ OwnS wkF 3 t_span_work (fun b => h2.size ≤ b ∧ b < h3.size ∨ h4.size ≤ b) h' t.1 (own.raw :: (ks.take n).map fun k => (k, i.ah ++ i.sl, false)) ∧ Upd (fun b => h2.size ≤ b ∧ b < h3.size ∨ h4.size ≤ b) h4 h') (fun n => ks.length - n) 0 ⟨rfl, Nat.zero_le _, by simpa using o3, Upd.refl _ _⟩ ?_
  rintro I n ⟨so, ti⟩ h' ⟨et, hnk, hso, hu⟩ hI
  simp only at et hso
  subst et
  have hsz := hu.size
  refine condP_dec (fun hlt => ?_) fun hge => ?_
  · have hlt : n < ks.length := by have : (n : Int) < (s4.len : Int) := hlt; omega
    obtain ⟨a, ha, _, hv⟩ := (hs4.upd hu fun b hb => .inl hb).at0 (List.getElem?_eq_getElem hlt)
    refine Join.intro (fun t h2' => OwnS wkF 3 t_span_work (fun b => h2.size ≤ b ∧ b < h3.size ∨ h4.size ≤ b) h2' t (own.raw :: (ks.take (n + 1)).map fun k => (k, i.ah ++ i.sl, false)) ∧ Upd (fun b => h2.size ≤ b ∧ b < h3.size ∨ h4.size ≤ b) h4 h2') (fun R hR => ⟨⟨by simp only; omega, by simp only; omega⟩, a, ha, ks[n], hv, at_new fun h5 b5 k5 => ?_⟩) ?_
    · have o5 : OwnS wkF 3 t_span_work (fun _ => True) h5 ⟨some (newA h'), 1, 1⟩ [(ks[n], i.ah ++ i.sl, false)] := ⟨rfl, wkF_ne, Nat.le_refl _, .inr ⟨h'.size, [], rfl, trivial, b5, rfl⟩⟩
      refine ⟨_, (o5.sl (W := No) fun _ _ _ h => h).srow, ?_⟩
      have s5 := k5.size
      refine AppP.own (ys := [(ks[n], i.ah ++ i.sl, false)]) (hso.upd k5 fun _ _ h => h) rfl rfl rfl rfl (by omega) (by rw [List.length_cons, List.length_map, List.length_take, List.length_singleton]; omega) (.inr (by omega)) fun s6 h6 ho6 hu6 => hR _ _ ⟨?_, (hu.tr k5.wide).tr hu6⟩
      rw [List.take_succ_eq_append_getElem hlt, List.map_append]
      exact ho6
    · rintro t h2' ⟨ho2, hu2⟩
      rw [wrap_succ hlt (by omega)]
      exact hI (n + 1) _ _ ⟨rfl, hlt, ho2, hu2⟩ (by omega)
  · have hnl : n = ks.length := by have : ¬ (n : Int) < (s4.len : Int) := hge; omega
    subst hnl
    rw [List.take_length, ← e1] at hso
    have hsub : ∀ b, (h2.size ≤ b ∧ b < h3.size ∨ h4.size ≤ b) → h.size ≤ b := fun b hb => by rcases hb with hb | hb <;> omega
    have hlits : its.length = ks.length := by have := congrArg List.length e1; simpa using this
    refine Join.intro (fun _ h2' => OwnS wkF 3 t_span_work (fun b => h2.size ≤ b ∧ b < h3.size ∨ h4.size ≤ b) h2' so (own.raw :: its.map It.raw).reverse ∧ Upd (fun b => h2.size ≤ b ∧ b < h3.size ∨ h4.size ≤ b) h4 h2') (fun R hR => ?_) ?_
    · have c5 := hu.get c4 (fun hb => by have := hsub _ hb; omega)
      refine ⟨_, rfl, false, vc c5 4, condP_true.2 ?_⟩
      exact reverse_ok hso (by rw [List.length_cons, List.length_map]; omega) fun h6 ho6 hu6 => hR _ _ ⟨ho6, hu.tr hu6⟩
    · rintro _ h6 ⟨ho6, hu6⟩
      have c6 := hu6.get c4 (fun hb => by have := hsub _ hb; omega)
      have hst6 := hst4.upd hu6 fun b hb hx => by have := hsub _ hx; omega
      refine ⟨_, rfl, s, vc c6 0, ?_⟩
      have s6 := hu6.size
      refine ⟨_, (ho6.sl (W := No) fun _ _ _ h => h).srow, ?_⟩
      have hrl := ho6.len
      have hil := len_cost items
      have hmap : (own.raw :: its.map It.raw).reverse = (its.reverse ++ [own]).map It.raw := by rw [List.reverse_cons, List.map_append, List.map_reverse]; rfl
      refine AppP.own (M := C) (ys := (own.raw :: its.map It.raw).reverse) (hst6.more fun b hb => hb.1) hrl rfl (one_wkF _) rfl (by omega) (by rw [List.length_reverse, List.length_cons, List.length_map, List.length_map]; omega) (hC _ (by omega)) fun s7 h7 ho7 hu7 => ?_
      have c7 := hu7.get c6 hcb
      refine ⟨_, rfl, ?_⟩
      refine vset (i := 0) (c' := curC s7) c7 (show 0 < 5 by decide) rfl fun h8 c8 hu8 => ?_
      have ho8 := ho7.upd hu8 fun b hb e => hcb (by have e : b = cb := e; rw [← e]; exact hb)
      rw [hmap, ← List.map_append] at ho8
      have huC : Upd (fun b => C b ∨ b = cb) h h8 := (((k04.wide (M := C)).trans hu6 fun b hb => .inr (hsub b hb)).tr hu7).mono (fun b hb => .inl (.inl hb)) |>.trans hu8 fun b hb => .inl (.inr hb)
      have hupd : ∀ {j : It}, It.Ok W h4 j → It.Ok W h8 j := fun oj => ((oj.updM hu6 fun b hb => .inl (hCW b (hC b (hsub b hb)))).updM hu7 fun b hb => .inl (hCW b hb)).updM hu8 fun b hb => .inl (by have hb : b = cb := hb; rw [hb]; exact hcbW)
      refine hk h8 (its.reverse ++ [own]) ⟨⟨s7, c8, ho8⟩, fun j hj => ?_⟩ ?_ ?_ huC
      · rcases List.mem_append.1 hj with hj | hj
        · exact (cur.ok j hj).updM huC fun b hb => .inl (hb.elim (hCW b) fun e => e ▸ hcbW)
        · rcases List.mem_append.1 hj with hj | hj
          · exact hupd (kid_ok io ho e2 eah e3 j (List.mem_reverse.1 hj))
          · rw [List.mem_singleton.1 hj]
            exact It.Ok.updM (i := own) huC (fun b hb => .inl (hb.elim (hCW b) fun e => e ▸ hcbW)) ⟨io.1, io.2⟩
      · rw [remP_snoc]
        unfold remP
        rw [List.reverse_reverse, prsF_its eah e2 fun j hj => ⟨(e3 j hj).1, (e3 j hj).2.1⟩]
        show (i.w.map fun v => (own.key, v)).toList ++ _ = It.prs i
        have hke : own.key = i.key := rfl
        unfold It.prs prsR
        rw [ho, hke]
        simp only [Bool.false_eq_true, if_false, List.map_append]
        congr 1
        cases i.w with
        | none => rfl
        | some v => simp
      · rw [costP_app]
        have hc1 : costP its.reverse = costP its := by unfold costP; rw [List.map_reverse, List.sum_reverse]
        rw [hc1, cost_its e2 fun j hj => (e3 j hj).2.1]
        have : costP [own] = 1 := rfl
        rw [this]
        unfold It.cost
        rw [ho]
        simp only [Bool.false_eq_true, if_false]
        omega
end Go.Proofs
namespace Go.Proofs
open Go Go.Lift
theorem Cur.upd {W C M : Nat → Prop} {h h' : Heap} {cb : Nat} {items : List It} (c : Cur W h cb C items) (k : Upd M h h') (hW : ∀ b, M b → W b ∨ h.size ≤ b) (hCm : ∀ b, C b → b < h.size → ¬ M b) (hcb : ¬ M cb) : Cur W h' cb C items := by
  obtain ⟨s, h1, h2⟩ := c.ex
  exact ⟨⟨s, k.get h1 hcb, (h2.within.upd k fun b hb => hCm b hb.1 hb.2).more fun b hb => hb.1⟩, fun i hi => (c.ok i hi).updM k hW⟩
theorem Cur.sub {W C C' : Nat → Prop} {h : Heap} {cb : Nat} {items : List It} (c : Cur W h cb C items) (hs : ∀ b, C b → b < h.size → C' b) : Cur W h cb C' items := by
  obtain ⟨s, h1, h2⟩ := c.ex
  exact ⟨⟨s, h1, h2.within.more fun b hb => hs b hb.1 hb.2⟩, c.ok⟩
set_option maxHeartbeats 1000000 in
theorem next_ok {W C : Nat → Prop} {h : Heap} {cb : Nat} {items : List It} (cur : Cur W h cb C items) (hC : ∀ b, h.size ≤ b → C b) (hCW : ∀ b, C b → W b) (hcbW : W cb) (hcb : ¬ C cb) (hcost : costP items ≤ 100000000) {K : (ByteArray × ByteArray) × Bool → Heap → Prop}
    (hn : ∀ h', remP items = [] → Upd (fun b => C b ∨ b = cb) h h' → K (((⟨#[]⟩ : ByteArray), (⟨#[]⟩ : ByteArray)), false) h')
    (hs : ∀ h' items' k v R, remP items = (k, v) :: R → remP items' = R → costP items' ≤ costP items → Cur W h' cb C items' → Upd (fun b => C b ∨ b = cb) h h' → K ((⟨k.toArray⟩, v), true) h') :
    HC PG f_span_Cursor_Next [.pointer (some ⟨cb, 0, none⟩)] [.agg [.str, .str], .c .bool] K h := by
  refine H_span_Cursor_Next (some ⟨cb, 0, none⟩) ?_
  unfold F_span_Cursor_Next
  refine at_new fun h1 b1 k1 => condP_false.2 ?_
  have z1 := get_lt b1
  obtain ⟨s0, hc0, _⟩ := cur.ex
  have zc := get_lt hc0
  have s1 := k1.size
  have hC1 : ∀ b, h1.size ≤ b → C b ∧ b ≠ h.size := fun b hb => ⟨hC b (by omega), by omega⟩
  have cur1 : Cur W h1 cb (fun b => C b ∧ b ≠ h.size) items := (cur.sub fun b hb hlt => (⟨hb, by omega⟩ : C b ∧ b ≠ h.size)).upd k1 (fun _ h => h.elim) (fun _ _ _ h => h) fun h => h
  refine LoopP.ghost (fun (its : List It) (_ : Unit) h' => Cur W h' cb (fun b => C b ∧ b ≠ h.size) its ∧ remP its = remP items ∧ costP its ≤ costP items ∧ h'[h.size]? = some (.cells zPrL.toArray t_pair_Pair (0, 0)) ∧ Upd (fun b => C b ∨ b = cb) h h' ∧ h1.size ≤ h'.size) costP items ⟨cur1, rfl, Nat.le_refl _, b1, k1.wide, Nat.le_refl _⟩ ?_
  rintro I its ⟨⟩ h' ⟨cu, hrem, hco, bz, hu, hsz⟩ hI
  obtain ⟨s, hcell, hst⟩ := cu.ex
  have hlen := hst.len
  rw [List.length_map] at hlen
  refine ⟨_, rfl, s, vc hcell 0, ?_⟩
  refine condP_dec (fun hpos => ?_) fun hnp => ?_
  · have hpos : 0 < its.length := by omega
    obtain ⟨its', i, rfl⟩ : ∃ its' i, its = its' ++ [i] := ⟨its.dropLast, its.getLast (by intro e; rw [e] at hpos; simp at hpos), (List.dropLast_concat_getLast _).symm⟩
    rw [List.map_append] at hst
    rw [List.length_append, List.length_singleton] at hlen
    have hil := len_cost (its' ++ [i])
    rw [List.length_append, List.length_singleton] at hil
    have eidx : IntKind.wrap .i64 ((s.len : Int) - 1) = ((its'.length : Nat) : Int) := by rw [w64 (by omega)]; omega
    have sl := hst.sl (W := No) fun _ _ _ h => h
    obtain ⟨a, ha, _, hv⟩ := sl.at (i := its'.length) (x := i.raw) (by rw [List.getElem?_append_right (by rw [List.length_map]; omega), List.length_map, Nat.sub_self]; rfl)
    have hio := cu.ok i (List.mem_append_right _ (List.mem_singleton.2 rfl))
    refine ⟨_, rfl, s, vc hcell 0, _, rfl, s, vc hcell 0, ?_⟩
    rw [eidx]
    refine ⟨⟨by omega, by omega⟩, a, ha, some ⟨i.b, 0, none⟩, hv 0 _ rfl, i.ah, hv 1 _ rfl, i.own, hv 2 _ rfl, ?_⟩
    refine at_new fun h2 b2 k2 => ?_
    have sl2 := sl.upd k2 fun _ h => h.elim
    obtain ⟨a', ha', _, hv2⟩ := sl2.at (i := its'.length) (x := i.raw) (by rw [List.getElem?_append_right (by rw [List.length_map]; omega), List.length_map, Nat.sub_self]; rfl)
    rw [ha] at ha'; cases ha'
    have c2 := k2.get0 hcell
    refine ⟨⟨hv2 0 _ rfl, hv2 1 _ rfl, hv2 2 _ rfl⟩, vc c2 0, vc c2 0, ?_⟩
    refine setAll (c := [.pointer none, .string (⟨#[]⟩ : ByteArray), .bool false]) (vs := [.pointer (some ⟨i.b, 0, none⟩), .string i.ah, .bool i.own]) b2 rfl fun h3 b3 hu3 => ?_
    have k3 : Upd No h' h3 := k2.own hu3 (Nat.le_refl _)
    have c3 := k3.get0 hcell
    have zcb := get_lt hcell
    have z3 := get_lt b3
    have s3 := k3.size
    refine ⟨_, rfl, s, vc c3 0, _, rfl, s, vc c3 0, ?_⟩
    rw [eidx]
    have hcap := hst.cap
    refine ⟨⟨by omega, by omega⟩, ?_⟩
    simp only [Bd]
    refine ⟨_, rfl, ?_⟩
    refine vset (i := 0) (c' := curC ⟨subAddr s.a 0 s.cap 3, its'.length, s.cap⟩) c3 (show 0 < 5 by decide) rfl fun h4 c4 hu4 => ?_
    have b4 := hu4.oth b3 (by omega)
    have bz4 := hu4.oth (k3.get0 bz) (by omega)
    have hpop := OwnS.pop hst
    have hst4 := ((hpop.upd k3 fun _ _ h => h).upd hu4 fun b hb e => hcb (by have e : b = cb := e; rw [← e]; exact hb.1))
    rw [List.length_map] at hst4
    have huW : ∀ {j}, It.Ok W h' j → It.Ok W h4 j := fun oj => (oj.updM k3 fun _ h => h.elim).updM hu4 fun b hb => .inl (by have hb : b = cb := hb; rw [hb]; exact hcbW)
    have cu4 : Cur W h4 cb (fun b => C b ∧ b ≠ h.size) its' := ⟨⟨_, c4, hst4⟩, fun j hj => huW (cu.ok j (List.mem_append_left _ hj))⟩
    have hio4 := huW hio
    have hu04 : Upd (fun b => C b ∨ b = cb) h h4 := (hu.tr k3.wide).trans hu4 fun b hb => .inl (.inr hb)
    have s4 := hu4.size
    have hcs : costP (its' ++ [i]) = costP its' + i.cost := by rw [costP_app]; rfl
    have hrs := remP_snoc its' i
    have hic : 1 ≤ i.cost := by unfold It.cost; split <;> omega
    refine ⟨i.own, vc b4 2, ?_⟩
    cases how : i.own with
    | false =>
      refine condP_true.2 ⟨_, vc b4 0, i.ah, vc b4 1, i.own, vc b4 2, ?_⟩
      refine push_ok cu4 hio4 how (fun b hb => hC1 b (by omega)) (fun b hb => hCW b hb.1) hcbW (fun hx => hcb hx.1) (by omega) fun h5 kids cu5 hr5 hc5 hu5 => ?_
      have hu5' : Upd (fun b => C b ∨ b = cb) h4 h5 := hu5.mono fun b hb => .inl (hb.imp (fun h => h.1) id)
      refine hI (its' ++ kids) () h5 ⟨cu5, ?_, ?_, hu5.get bz4 (fun hx => by rcases hx with hx | hx; exact hx.2 rfl; omega), hu04.tr hu5', by have := hu5.size; omega⟩ ?_
      · rw [remP_app, hr5, ← hrem, hrs]
      · rw [costP_app]; omega
      · rw [costP_app]; omega
    | true =>
      refine condP_false.2 ⟨i.ah, vc b4 1, _, vc b4 0, ?_⟩
      refine rxLabel_ok hio4.1 ⟨vc b4 1, ?_, ?_⟩
      · have := hio.2.2.1
        unfold It.key at this
        rw [List.length_append] at this
        have e1 : i.ah.data.toList.length = i.ah.size := by simp
        have e2 : i.sl.data.toList.length = i.sl.size := by simp
        omega
      refine ⟨_, vc b4 0, rxValue_ok hio4.1 fun v hvw => ?_⟩
      have hpr : i.prs = (i.w.map fun v => (i.key, v)).toList := by unfold It.prs; rw [how]; rfl
      have ekey : (⟨i.key.toArray⟩ : ByteArray) = i.ah ++ i.sl := by rw [← bytes_list, ByteArray.data_append, Array.toList_append]; rfl
      refine Join.intro (fun t h5 => t = i.w.isSome ∧ Upd No h4 h5) (fun R hR => ?_) ?_
      · cases hw : i.w with
        | none => exact condP_false.2 (hR _ _ ⟨by rw [hw]; rfl, Upd.refl _ _⟩)
        | some u => exact condP_true.2 ⟨_, rfl, _, vc2 c4 1 0, _, vc2 c4 1 1, true, vc2 c4 1 2, has_span_ok fun h5 k5 => hR _ _ ⟨by rw [hw]; rfl, k5⟩⟩
      · rintro t h5 ⟨rfl, k5⟩
        have cu5 : Cur W h5 cb (fun b => C b ∧ b ≠ h.size) its' := cu4.upd k5 (fun _ h => h.elim) (fun _ _ _ h => h) fun h => h
        have bz5 := k5.get0 bz4
        have hu05 := hu04.tr (k5.wide (M := fun b => C b ∨ b = cb))
        have s5 := k5.size
        cases hw : i.w with
        | none =>
          refine condP_false.2 (hI its' () h5 ⟨cu5, ?_, by omega, bz5, hu05, by omega⟩ (by omega))
          rw [← hrem, hrs, hpr, hw]; rfl
        | some u =>
          have hvu := hvw u hw
          subst hvu
          refine condP_true.2 ?_
          refine setAll (c := zPrL) (vs := [.string (i.ah ++ i.sl), .string v]) bz5 rfl fun h6 b6 hu6 => ?_
          refine ⟨_, vc b6 0, _, vc b6 1, ?_⟩
          rw [← ekey]
          refine hs h6 its' i.key v (remP its') (by rw [← hrem, hrs, hpr, hw]; rfl) rfl (by omega) ?_ (hu05.trans hu6 fun b hb => .inr (Nat.le_of_eq (Eq.symm hb)))
          exact (cu5.upd hu6 (fun b hb => .inl (hCW b (hC b (Nat.le_of_eq (Eq.symm hb))))) (fun b hb _ e => hb.2 e) (by show ¬ cb = h.size; omega)).sub fun b hb _ => hb.1
  · have h0 : its = [] := List.length_eq_zero_iff.1 (by omega)
    subst h0
    refine setAll (c := zPrL) (vs := zPrL) bz rfl fun h6 b6 hu6 => ?_
    refine ⟨_, vc b6 0, _, vc b6 1, hn h6 hrem.symm (hu.trans hu6 fun b hb => .inr (Nat.le_of_eq (Eq.symm hb)))⟩
end Go.Proofs
namespace Go.Proofs
open Go Go.Lift
abbrev encP (x : Pr) : List Value := [.agg #[.string x.1, .string x.2]]
theorem appendSeqP_ok {h : Heap} {fv : Value} {N : Nat} {S : List Pr → Prop} {Q : Nat → Prop} (hg : Gives PG fv encP N S Q h) (hN : N ≤ 100000000) {K : SliceV → Heap → Prop}
    (hk : ∀ s' h' xs, S xs → OwnS prF 2 t_pair_Pair (fun b => h.size ≤ b) h' s' xs → Upd No h h' → K s' h') : HC PG f_slices_AppendSeq_A_pair_Pair_pair_Pair [.slice none 0 0, fv] [.c .slice] K h := by
  refine H_slices_AppendSeq_A_pair_Pair_pair_Pair ⟨none, 0, 0⟩ fv ?_
  unfold F_slices_AppendSeq_A_pair_Pair_pair_Pair
  have k0 := Upd.hnew No h [.slice none 0 0] t_A_pair_Pair
  have b0 := hnew_get h [.slice none 0 0] t_A_pair_Pair
  have hsz : (hnew h [.slice none 0 0] t_A_pair_Pair).size = h.size + 1 := hnew_size ..
  have hg1 := hg.upd k0 fun _ _ => id
  refine at_intro ?_
  generalize hnew h [.slice none 0 0] t_A_pair_Pair = h1 at hg1 k0 b0 hsz
  refine ⟨fun lo hlo hround => ?_⟩
  obtain ⟨f, first, cap, rfl, hrun⟩ := hg1.run
  refine ⟨f, first, cap, rfl, ?_⟩
  have k1 : Upd No h1 ((h1.push (.deferred (some []))).push (lo .ready none)) := (Upd.push No _ _).tr (Upd.push No _ _)
  have l2 : ((h1.push (.deferred (some []))).push (lo .ready none))[h1.size + 1]? = some (lo .ready none) := by
    have := push_get (h1.push (.deferred (some []))) (lo .ready none)
    rwa [Array.size_push] at this
  have l1 : ((h1.push (.deferred (some []))).push (lo .ready none))[h1.size]? = some (.deferred (some [])) := (Upd.push No _ _).get0 (push_get h1 _)
  refine hrun (.func (.yield (h1.size + 1)) #[] #[]) (fun pre A h' => (∀ b, A b → b < h'.size ∧ h.size ≤ b) ∧ A h.size ∧ A h1.size ∧ A (h1.size + 1) ∧ h'[h1.size]? = some (.deferred (some [])) ∧ h'[h1.size + 1]? = some (lo .ready none) ∧
      ∃ s : SliceV, h'[h.size]? = some (.cells #[sv s] t_A_pair_Pair (0, 0)) ∧ OwnS prF 2 t_pair_Pair (fun b => A b ∧ h1.size + 1 < b) h' s pre ∧ pre.length ≤ N)
    (fun b => b = h.size ∨ b = h1.size ∨ b = h1.size + 1) No _ _ ⟨fun _ _ _ hj b hb => (hj.1 b hb).1, fun pre A h' h'' B hj hu hB => ?_, fun pre A h' x K' hj hlen hK => ?_⟩ ?_ k1 (fun _ _ => id) (fun b hb hq => ?_) ?_
  · obtain ⟨h1', h2, h3, h4, h5, h6, s, h7, h8, h9⟩ := hj
    exact ⟨fun b hb => ⟨Nat.lt_of_lt_of_le (h1' b hb).1 hu.size, (h1' b hb).2⟩, h2, h3, h4, hu.get h5 (hB _ h3), hu.get h6 (hB _ h4), s, hu.get h7 (hB _ h2), h8.upd hu fun b hb => hB b hb.1, h9⟩
  · obtain ⟨hA, hA1, hA2, hA3, hd, hl, s, hs, ho, hpl⟩ := hj
    refine hround x h' K' hl ?_
    refine newPr (p := x) fun hp bp kp => ?_
    have zp := get_lt bp
    have hl := kp.get0 hl
    have hs := kp.get0 hs
    have hd := kp.get0 hd
    have hop := ho.upd kp fun _ _ h => h
    have sp := kp.size
    refine ⟨hl, ?_⟩
    have kb : Upd (· = h1.size + 1) hp (hp.setIfInBounds (h1.size + 1) (lo .busy none)) := Upd.set _ _ rfl
    have lb := set_get (o := lo .busy none) hl
    have sb := kb.size
    refine at_intro ?_
    generalize hp.setIfInBounds (h1.size + 1) (lo .busy none) = h2 at kb lb sb
    have hlt1 := (hA _ hA1).1
    have hlt3 := (hA _ hA3).1
    have bp2 := kb.get bp (by omega)
    have hs2 := kb.get hs (by omega)
    refine ⟨s, by rw [newA_eq, hcell_blk hs2]; rfl, _, vc bp2 0, _, vc bp2 1, at_intro ?_⟩
    refine append1p (p := x) (M := fun b => ((A b ∧ b < h'.size) ∨ h2.size ≤ b) ∧ h1.size + 1 < b) ((hop.upd kb fun b hb => by omega).more fun b hb => ⟨.inl ⟨hb.1, (hA b hb.1).1⟩, hb.2⟩) (fun b hb => ⟨.inr hb, by have := get_lt lb; omega⟩) (by omega) fun s' h3 ho3 hu3 => ?_
    have hs3 : h3[h.size]? = some (.cells #[sv s] t_A_pair_Pair (0, 0)) := hu3.get hs2 (by omega)
    refine ⟨by rw [newA_eq]; exact wr_blk hs3 (by simp), ?_⟩
    have k4 : Upd (· = h.size) h3 (hset h3 (newA h) (.slice s'.a s'.len s'.cap)) := Upd.hset _ _ rfl
    have hs4 : (hset h3 (newA h) (.slice s'.a s'.len s'.cap))[h.size]? = some (.cells #[sv s'] t_A_pair_Pair (0, 0)) := by
      rw [newA_eq, hset_blk hs3, set_get hs3]; rfl
    refine at_intro ?_
    generalize hset h3 (newA h) (.slice s'.a s'.len s'.cap) = h4 at k4 hs4
    have hl4 : h4[h1.size + 1]? = some (lo .busy none) := k4.get (hu3.get lb (by omega)) (by omega)
    refine ⟨hl4, ?_⟩
    have k5 : Upd (· = h1.size + 1) h4 (h4.setIfInBounds (h1.size + 1) (lo .ready none)) := Upd.set _ _ rfl
    have hl5 := set_get (o := lo .ready none) hl4
    have hall : Upd A h' h4 := ((kp.wide.tr (kb.mono (M' := A) fun b hb => .inl (hb ▸ hA3))).trans hu3 fun b hb => hb.1.imp (fun h => h.1) fun h => by omega).trans k4 fun b hb => .inl (hb ▸ hA1)
    have z3 := hu3.size
    have z4 := k4.size
    have z5 := k5.size
    refine hK _ (fun b => ((A b ∧ b < h'.size) ∨ h2.size ≤ b) ∧ b < h4.size) ⟨fun b hb => ⟨Nat.lt_of_lt_of_le hb.2 z5, hb.1.elim (fun h => (hA b h.1).2) fun h => by omega⟩, ⟨.inl ⟨hA1, hlt1⟩, by omega⟩, ⟨.inl ⟨hA2, (hA _ hA2).1⟩, by have := (hA _ hA2).1; omega⟩, ⟨.inl ⟨hA3, hlt3⟩, by omega⟩,
      k5.get (k4.get (hu3.get (kb.get hd (by omega)) (by omega)) (by omega)) (by omega), hl5, s', k5.get hs4 (by omega), ?_, by simp; omega⟩ (hall.trans k5 fun b hb => .inl (hb ▸ hA3)) fun b hb => hb.1.imp (fun h => h.1) fun h => by omega
    exact (((ho3.upd k4 fun b hb => by omega).within).more fun b hb => ⟨⟨hb.1.1, hb.2⟩, hb.1.2⟩).upd k5 fun b hb => by omega
  · refine ⟨fun b hb => ?_, .inl rfl, .inr (.inl rfl), .inr (.inr rfl), l1, l2, ⟨none, 0, 0⟩, k1.get0 b0, OwnS.nil prF_ne, Nat.zero_le _⟩
    have := get_lt l2
    rcases hb with rfl | rfl | rfl <;> omega
  · have := hg.lt b hq
    rcases hb with rfl | rfl | rfl <;> omega
  · rintro xs A' h' hS ⟨hA, hA1, hA2, hA3, hd, hl, s, hs, ho, hpl⟩ hu hA'
    refine ⟨.ready, none, by decide, hl, ?_⟩
    have k5 : Upd (· = h1.size + 1) h' (h'.setIfInBounds (h1.size + 1) (lo .exhausted none)) := Upd.set _ _ rfl
    show ∃ v : SliceV, hcell (h'.setIfInBounds (h1.size + 1) (lo .exhausted none)) (newA h) = some (.slice v.a v.len v.cap) ∧ _
    have hd5 := k5.get hd (show ¬ h1.size = h1.size + 1 by omega)
    have hs5 := k5.get hs (show ¬ h.size = h1.size + 1 by omega)
    have ho5 := ho.upd k5 fun b hb => by omega
    generalize h'.setIfInBounds (h1.size + 1) (lo .exhausted none) = h5 at k5 hd5 hs5 ho5
    refine ⟨s, by rw [newA_eq, hcell_blk hs5]; rfl, hd5, ?_⟩
    have k6 : Upd (· = h1.size) h5 (h5.setIfInBounds h1.size (.deferred none)) := Upd.set _ _ rfl
    refine hk s _ xs hS ((ho5.upd k6 fun b hb => by omega).more fun b hb => (hA b hb.1).2) ?_
    refine (((k0.tr k1).trans hu fun b hb => ?_).trans k5 fun b hb => .inr (by omega)).trans k6 fun b hb => .inr (by omega)
    rcases hb with rfl | rfl | rfl <;> (right; omega)
theorem collectP_ok {h : Heap} {fv : Value} {N : Nat} {S : List Pr → Prop} {Q : Nat → Prop} (hg : Gives PG fv encP N S Q h) (hN : N ≤ 100000000) {K : SliceV → Heap → Prop}
    (hk : ∀ s' h' xs, S xs → OwnS prF 2 t_pair_Pair (fun b => h.size ≤ b) h' s' xs → Upd No h h' → K s' h') : HC PG f_slices_Collect_pair_Pair [fv] [.c .slice] K h := by
  refine H_slices_Collect_pair_Pair fv ?_
  unfold F_slices_Collect_pair_Pair
  exact appendSeqP_ok hg hN hk
/-- A new cursor over a tree. -/
theorem spanNew_ok {W : Nat → Prop} {h : Heap} {b : Nat} {w : Option ByteArray} {F : Fo} (io : It.Ok W h ⟨b, ⟨#[]⟩, false, ⟨#[]⟩, w, F⟩) (hW : ∀ y, h.size ≤ y → W y) {K : Option Addr → Heap → Prop}
    (hk : ∀ h' cb, h.size ≤ cb → cb < h'.size → Cur W h' cb (fun y => h.size ≤ y ∧ y ≠ cb) [⟨b, ⟨#[]⟩, false, ⟨#[]⟩, w, F⟩] → Upd No h h' → K (some ⟨cb, 0, none⟩) h') : HC PG f_span_New [.pointer (some ⟨b, 0, none⟩), .agg #[.string ⟨#[]⟩, .string ⟨#[]⟩, .bool true], .bool false] [.c .ptr] K h := by
  refine H_span_New (some ⟨b, 0, none⟩) (⟨#[]⟩, ⟨#[]⟩, true) false ?_
  unfold F_span_New
  refine at_new fun h1 b1 k1 => ⟨_, vc b1 0, _, vc b1 1, true, vc b1 2, at_new fun h2 b2 k2 => condP_true.2 ⟨_, rfl, ⟨none, 0, 0⟩, vc b2 0, at_new fun h3 b3 k3 => ?_⟩⟩
  have s1 := k1.size
  have s2 := k2.size
  have z2 := get_lt b2
  have z3 := get_lt b3
  have o3 : OwnS wkF 3 t_span_work (fun _ => True) h3 ⟨some (newA h2), 1, 1⟩ [(some ⟨b, 0, none⟩, ⟨#[]⟩, false)] := ⟨rfl, wkF_ne, Nat.le_refl _, .inr ⟨h2.size, [], rfl, trivial, b3, rfl⟩⟩
  refine ⟨_, (o3.sl (W := No) fun _ _ _ h => h).srow, ?_⟩
  refine AppP.own (M := fun y => h3.size ≤ y) (ys := [(some ⟨b, 0, none⟩, ⟨#[]⟩, false)]) (OwnS.nil (f := wkF) wkF_ne) rfl rfl rfl rfl (by omega) (by simp) (Nat.le_refl _) fun s4 h4 ho4 hu4 => ?_
  have c4 := hu4.get (k3.get0 b2) (by omega)
  refine ⟨_, rfl, ?_⟩
  refine vset (i := 0) (c' := curC s4) c4 (show 0 < 5 by decide) rfl fun h5 c5 hu5 => ?_
  have hu : Upd No h h5 := (((k1.tr k2).tr k3).trans hu4 fun y hy => .inr (by omega)).own hu5 s1
  have s5 := hu4.size
  have s6 := hu5.size
  refine hk h5 h1.size s1 (by omega) ⟨⟨s4, c5, ?_⟩, fun i hi => ?_⟩ hu
  · exact (ho4.upd hu5 fun y hy e => by have e : y = h1.size := e; omega).more fun y hy => ⟨by omega, by omega⟩
  · rw [List.mem_singleton.1 hi]
    exact io.updM hu fun _ h => h.elim
theorem toU_app (l m : List Pr) : toU (l ++ m) = toU l ++ toU m := by unfold toU; rw [List.map_append]
/-- Each: an iterator over the pairs of a tree. -/
theorem spanEach_ok {W : Nat → Prop} {h : Heap} {b : Nat} {l : List Pr} (t : RadAt W h b l) (hr : Rises l) (hf : Fit l) (hn : l.length ≤ 60000) {K : Value → Heap → Prop}
    (hk : ∀ fv h', Gives PG fv encP (2 * l.length) (fun xs => xs = l) (fun y => y < h'.size) h' → Upd No h h' → K fv h') : HC PG f_span_Each [.pointer (some ⟨b, 0, none⟩), .agg #[.string ⟨#[]⟩, .string ⟨#[]⟩, .bool true], .bool false] [.c .raw] K h := by
  refine H_span_Each (some ⟨b, 0, none⟩) (⟨#[]⟩, ⟨#[]⟩, true) false ?_
  unfold F_span_Each
  refine at_new fun h1 b1 k1 => at_new fun h2 b2 k2 => at_new fun h3 b3 k3 => ?_
  have k03 := (k1.tr k2).tr k3
  have c1 := k3.get0 (k2.get0 b1)
  have c2 := k3.get0 b2
  have z1 := get_lt c1
  have z2 := get_lt c2
  have z3 := get_lt b3
  refine hk _ h3 ?_ k03
  obtain ⟨w, F, r1, r2, r3⟩ := (((t.upd0 k03).less (W' := fun y => h3.size ≤ y) fun y hy => .inr hy)).ex
  have hprs := rad_prs r2 hr r3
  have hcnt := cntF_le r2
  have hlenU := congrArg List.length hprs
  unfold prsR toU at hlenU
  rw [List.length_append, List.length_map] at hlenU
  refine ⟨fun y hy => hy, f_span_Each_1, #[], _, rfl, fun y J A M h4 K' ht hj hu hq ha hk' => ?_⟩
  refine HE_span_Each_1 y (newA h) (newA h1) (newA h2) ?_
  unfold F_span_Each_1
  have d1 := hu.get c1 (hq _ z1)
  have d2 := hu.get c2 (hq _ z2)
  have d3 := hu.get b3 (hq _ z3)
  have s4 := hu.size
  have io : It.Ok (fun y => h3.size ≤ y) h4 ⟨b, ⟨#[]⟩, false, ⟨#[]⟩, w, F⟩ := ⟨r1.updM hu fun y hy => .inl (by
    rcases Nat.lt_or_ge y h3.size with hl | hl
    · exact absurd hy (hq y hl)
    · exact hl), r2, by simp [It.key], fun p hp => by
      rw [hprs] at hp
      obtain ⟨q, hq', e⟩ := List.mem_map.1 hp
      have := (hf q hq').1
      rw [← e]
      simpa [It.key] using this⟩
  refine ⟨_, (by have := vc d1 0; rw [adr_mk, Nat.add_zero] at this; exact this), _, vc d2 0, _, vc d2 1, true, vc d2 2, false, (by have := vc d3 0; rw [adr_mk, Nat.add_zero] at this; exact this), ?_⟩
  refine spanNew_ok io (fun y hy => Nat.le_trans s4 hy) fun h5 cb hcb hcb5 cur k5 => ?_
  have hAlt := ht.lt _ _ _ hj
  have hA3 : ∀ y, A y → h3.size ≤ y := fun y hy => by
    rcases Nat.lt_or_ge y h3.size with hl | hl
    · exact absurd hl (ha y hy)
    · exact hl
  have s5 := k5.size
  have hcost0 : costP [⟨b, ⟨#[]⟩, false, ⟨#[]⟩, w, F⟩] ≤ 100000000 := by
    have : costP [⟨b, ⟨#[]⟩, false, ⟨#[]⟩, w, F⟩] = 2 + 2 * cntF F := by simp [costP, It.cost]
    rw [this]; omega
  have hrem0 : remP [⟨b, ⟨#[]⟩, false, ⟨#[]⟩, w, F⟩] = toU l := by
    rw [← hprs]
    simp [remP, It.prs, It.key]
  refine LoopP.ghost (fun (g : List Pr × List It × (Nat → Prop)) (_ : Unit) h' => Cur (fun y => h3.size ≤ y) h' cb (fun y => h4.size ≤ y ∧ y ≠ cb ∧ ¬ g.2.2 y) g.2.1 ∧ J g.1 g.2.2 h' ∧ Upd A h4 h' ∧ (∀ y, g.2.2 y → (A y ∨ h4.size ≤ y) ∧ y ≠ cb) ∧ toU g.1 ++ remP g.2.1 = toU l ∧ costP g.2.1 ≤ 100000000 ∧ h5.size ≤ h'.size) (fun g => (remP g.2.1).length) ([], [⟨b, ⟨#[]⟩, false, ⟨#[]⟩, w, F⟩], A)
    ⟨cur.sub fun y hy hlt => ⟨hy.1, hy.2, fun hx => by have := hAlt y hx; omega⟩, ht.keep _ _ _ _ No hj k5 (fun _ _ h => h), k5.wide, fun y hy => ⟨.inl hy, by have := hAlt y hy; omega⟩, by rw [hrem0]; rfl, hcost0, Nat.le_refl _⟩ ?_
  rintro I ⟨pre, items, A1⟩ ⟨⟩ h' ⟨cu, hj', hu', hA1, hrem, hco, hsz⟩ hI
  simp only at cu hj' hA1 hrem hco
  have hlt' := ht.lt _ _ _ hj'
  have hA1W : ∀ y, A1 y → h3.size ≤ y := fun y hy => (hA1 y hy).1.elim (hA3 y) fun h => by omega
  refine next_ok cu (fun y hy => ⟨by omega, by omega, fun hx => by have := hlt' y hx; omega⟩) (fun y hy => Nat.le_trans s4 hy.1) (Nat.le_trans s4 hcb) (fun hx => hx.2.1 rfl) hco (fun h6 hr0 hu6 => ?_) fun h6 items' k v R hr1 hr2 hc6 cu6 hu6 => ?_
  · have hd : ∀ y, A1 y → ¬ ((h4.size ≤ y ∧ y ≠ cb ∧ ¬ A1 y) ∨ y = cb) := fun y hy hx => hx.elim (fun h => h.2.2 hy) (hA1 y hy).2
    have hj6 := ht.keep _ _ _ _ _ hj' hu6 hd
    refine newPr fun h7 b7 k7 => ?_
    refine Join.intro (fun t h8 => t = true ∧ h8 = h7) (fun R hR => condP_true.2 (hR _ _ ⟨rfl, rfl⟩)) ?_
    rintro t h8 ⟨rfl, rfl⟩
    refine condP_true.2 (hk' pre A1 h8 ?_ (ht.keep _ _ _ _ No hj6 k7 (fun _ _ h => h)) ?_ fun y hy => (hA1 y hy).1)
    · rw [hr0, List.append_nil] at hrem
      exact toU_inj hrem
    · exact (hu'.trans hu6 fun y hy => .inr (by rcases hy with hy | hy; exact hy.1; omega)).tr k7.wide
  · have hd : ∀ y, A1 y → ¬ ((h4.size ≤ y ∧ y ≠ cb ∧ ¬ A1 y) ∨ y = cb) := fun y hy hx => hx.elim (fun h => h.2.2 hy) (hA1 y hy).2
    have hj6 := ht.keep _ _ _ _ _ hj' hu6 hd
    refine newPr (p := (⟨k.toArray⟩, v)) fun h7 b7 k7 => ?_
    have hj7 := ht.keep _ _ _ _ No hj6 k7 (fun _ _ h => h)
    have cu7 := cu6.upd k7 (fun _ h => h.elim) (fun _ _ _ h => h) fun h => h
    have hu47 : Upd A h4 h7 := (hu'.trans hu6 fun y hy => .inr (by rcases hy with hy | hy; exact hy.1; omega)).tr k7.wide
    have s6 := hu6.size
    have s7 := k7.size
    refine Join.intro (fun t h8 => t = false ∧ ∃ A3, J (pre ++ [(⟨k.toArray⟩, v)]) A3 h8 ∧ Upd A1 h7 h8 ∧ ∀ y, A3 y → A1 y ∨ h7.size ≤ y) (fun R' hR => ?_) ?_
    · refine condP_false.2 ⟨_, vc b7 0, _, vc b7 1, ?_⟩
      refine ht.step pre A1 h7 (⟨k.toArray⟩, v) _ hj7 ?_ fun h8 A3 hj8 hu8 hA8 => hR _ _ ⟨rfl, A3, hj8, hu8, hA8⟩
      have := congrArg List.length hrem
      rw [hr1] at this
      simp only [toU, List.length_append, List.length_map, List.length_cons] at this
      omega
    · rintro t h8 ⟨rfl, A3, hj8, hu8, hA8⟩
      refine condP_false.2 (hI (pre ++ [(⟨k.toArray⟩, v)], items', A3) () h8 ⟨?_, hj8, ?_, fun y hy => ?_, ?_, by simp only; omega, by have := hu8.size; omega⟩ ?_)
      · have c7 : Cur (fun y => h3.size ≤ y) h7 cb (fun y => (h4.size ≤ y ∧ y ≠ cb ∧ ¬ A1 y) ∧ y < h7.size) items' := cu7.sub fun y hy hlt => ⟨hy, hlt⟩
        exact (c7.upd hu8 (fun y hy => .inl (hA1W y hy)) (fun y hy _ hx => hy.1.2.2 hx) (fun hx => (hA1 _ hx).2 rfl)).sub fun y hy _ => ⟨hy.1.1, hy.1.2.1, fun hx => by
          rcases hA8 y hx with h | h
          · exact hy.1.2.2 h
          · have := hy.2; omega⟩
      · exact hu47.trans hu8 fun y hy => (hA1 y hy).1
      · rcases hA8 y hy with h | h
        · exact hA1 y h
        · exact ⟨.inr (by omega), by omega⟩
      · simp only
        rw [toU_app, List.append_assoc, hr2, ← hrem, hr1]
        rfl
      · simp only
        rw [hr1, hr2]; simp
theorem spanPairs_ok {W : Nat → Prop} {h : Heap} {b : Nat} {l : List Pr} (t : RadAt W h b l) (hr : Rises l) (hf : Fit l) (hn : l.length ≤ 60000) {K : SliceV → Heap → Prop}
    (hk : ∀ s' h', OwnS prF 2 t_pair_Pair (fun y => h.size ≤ y) h' s' l → Upd No h h' → K s' h') : HC PG f_span_Pairs [.pointer (some ⟨b, 0, none⟩), .agg #[.string ⟨#[]⟩, .string ⟨#[]⟩, .bool true]] [.c .slice] K h := by
  refine H_span_Pairs (some ⟨b, 0, none⟩) (⟨#[]⟩, ⟨#[]⟩, true) ?_
  unfold F_span_Pairs
  refine at_new fun h1 b1 k1 => ⟨_, vc b1 0, _, vc b1 1, true, vc b1 2, ?_⟩
  refine spanEach_ok (t.upd0 k1) hr hf hn fun fv h2 hg k2 => ?_
  refine collectP_ok hg (by omega) fun s3 h3 xs e ho k3 => ?_
  subst e
  have s12 := (k1.tr k2).size
  exact hk s3 h3 (ho.more fun y hy => by omega) ((k1.tr k2).tr k3)
theorem tPairsR_ok {W : Nat → Prop} {x : Hs} {h : Heap} {t : Tr} {l : List Pr} (i : TreeIs W h 1 x t l) (hr : Rises l) (hf : Fit l) (hn : l.length ≤ 60000) {K : SliceV → Heap → Prop}
    (hk : ∀ s' h', OwnS prF 2 t_pair_Pair (fun y => h.size ≤ y) h' s' l → Upd No h h' → K s' h') : HC PG f_tree_Tree_Pairs [trV t] [.c .slice] K h := by
  refine H_tree_Tree_Pairs t ?_
  unfold F_tree_Tree_Pairs
  rcases i with ⟨e, _⟩ | ⟨_, b, rfl, t⟩
  · cases e
  refine at_new fun h1 b1 k1 => ⟨_, vc b1 0, condP_true.2 ⟨_, vc b1 5, ?_⟩⟩
  refine H_span_All ?_
  unfold F_span_All
  refine at_new fun h2 b2 k2 => ?_
  refine setAll (c := [.string (⟨#[]⟩ : ByteArray), .string (⟨#[]⟩ : ByteArray), .bool false]) (vs := [.string (⟨#[]⟩ : ByteArray), .string (⟨#[]⟩ : ByteArray), .bool true]) b2 rfl fun h3 b3 hu3 => ?_
  have k3 : Upd No h1 h3 := k2.own hu3 (Nat.le_refl _)
  have k03 := k1.tr k3
  refine ⟨_, vc b3 0, _, vc b3 1, true, vc b3 2, vc (k3.get0 b1) 5, ?_⟩
  refine spanPairs_ok (t.upd0 k03) hr hf hn fun s4 h4 ho k4 => hk s4 h4 (ho.more fun y hy => ?_) (k03.tr k4)
  have := k03.size
  omega
end Go.Proofs
namespace Go.Proofs
open Go Go.Lift
theorem prsF_len : ∀ F : Fo, (prsF F).length = (F.toL.map fun n => (prsR n.2.1 n.2.2).length).sum
  | .nil => rfl
  | .cons lab w kids rest => by
    rw [prsF_cons, Fo.toL_cons, List.map_cons, List.sum_cons, ← prsF_len rest, List.length_append, List.length_map]
    rfl
def LenN (n : Bn) : Prop := ∀ {W : Nat → Prop} {h : Heap} {b : Nat} {sl : ByteArray}, RxN W h b sl n.2.1 n.2.2 → (prsR n.2.1 n.2.2).length ≤ 1000000000 → ∀ {K : Int → Heap → Prop}, (∀ h', Upd No h h' → K (((prsR n.2.1 n.2.2).length : Nat) : Int) h') → HC PG f_radix_Len [.pointer (some ⟨b, 0, none⟩)] [.c (.int .i64)] K h
theorem lenN_of {lab : List UInt8} {w : Option ByteArray} {F : Fo} (hn : F.toL.length ≤ 256) (ih : ∀ n ∈ F.toL, LenN n) : LenN (lab, w, F) := by
  intro W h b sl r hl K hk
  simp only at r hl hk
  refine H_radix_Len (some ⟨b, 0, none⟩) ?_
  unfold F_radix_Len
  have hpl : (prsR w F).length = (w.map fun v => (([] : List UInt8), v)).toList.length + (F.toL.map fun n => (prsR n.2.1 n.2.2).length).sum := by
    rw [← prsF_len, ← List.length_append]; rfl
  refine Join.intro (fun t h' => t = (((w.map fun v => (([] : List UInt8), v)).toList.length : Nat) : Int) ∧ h' = h) (fun R hR => ?_) ?_
  · refine rxValue_ok r fun v _ => ?_
    cases w with
    | none => exact condP_false.2 (hR _ _ ⟨rfl, rfl⟩)
    | some u => exact condP_true.2 (hR _ _ ⟨rfl, rfl⟩)
  · rintro t h' ⟨rfl, rfl⟩
    generalize (w.map fun v => (([] : List UInt8), v)).toList.length = c0 at hpl
    refine rxKids_ok r hn fun s1 h1 ks ho1 hL1 k1 => ?_
    have hs1 : Sl rxF 1 No h1 s1 ks := ho1.sl fun _ _ _ h => h
    have hlen := hs1.len
    rw [hL1.1] at hlen
    refine LoopP.ghost (fun (i : Nat) (t : Int × Int) h2 => t.1 = ((c0 + ((F.toL.take i).map fun n => (prsR n.2.1 n.2.2).length).sum : Nat) : Int) ∧ t.2 = (i : Int) ∧ i ≤ F.toL.length ∧ Upd No h1 h2) (fun i => F.toL.length - i) 0 ⟨by simp, rfl, Nat.zero_le _, Upd.refl _ _⟩ ?_
    rintro I i ⟨ta, ti⟩ h2 ⟨e1, e2, hi, hu⟩ hI
    simp only at e1 e2
    subst e1 e2
    have hle : ∀ i, ((F.toL.take i).map fun n => (prsR n.2.1 n.2.2).length).sum ≤ (F.toL.map fun n => (prsR n.2.1 n.2.2).length).sum := fun i => by
      conv => rhs; rw [← List.take_append_drop i F.toL, List.map_append, List.sum_append]
      omega
    refine condP_dec (fun hlt => ?_) fun hge => ?_
    · have hlt : i < F.toL.length := by have : (i : Int) < (s1.len : Int) := hlt; omega
      obtain ⟨kb, ksl, hki, _, hkn⟩ := (hL1.upd0 hu).at hlt
      obtain ⟨a, ha, _, hv⟩ := (hs1.upd hu fun _ h => h.elim).at0 hki
      refine ⟨⟨by simp only; omega, by simp only; omega⟩, a, ha, some ⟨kb, 0, none⟩, hv, ?_⟩
      have hst : ((F.toL.take (i + 1)).map fun n => (prsR n.2.1 n.2.2).length).sum = ((F.toL.take i).map fun n => (prsR n.2.1 n.2.2).length).sum + (prsR F.toL[i].2.1 F.toL[i].2.2).length := by
        rw [List.take_succ_eq_append_getElem hlt, List.map_append, List.sum_append]; simp
      have h1 := hle (i + 1)
      refine ih _ (List.getElem_mem hlt) hkn (by omega) fun h3 hu3 => ?_
      rw [wrap_succ hlt (by omega)]
      have e : IntKind.wrap .i64 (((c0 + ((F.toL.take i).map fun n => (prsR n.2.1 n.2.2).length).sum : Nat) : Int) + ((prsR F.toL[i].2.1 F.toL[i].2.2).length : Int)) = ((c0 + ((F.toL.take (i + 1)).map fun n => (prsR n.2.1 n.2.2).length).sum : Nat) : Int) := by
        rw [w64 (by omega)]; omega
      rw [e]
      exact hI (i + 1) _ _ ⟨rfl, rfl, hlt, hu.tr hu3⟩ (by omega)
    · have hil : i = F.toL.length := by have : ¬ (i : Int) < (s1.len : Int) := hge; omega
      subst hil
      rw [List.take_length, ← hpl]
      exact hk h2 (k1.tr hu)
theorem lenN_all : ∀ {F : Fo}, CanF F → ∀ n ∈ F.toL, LenN n
  | .nil, _, n, hn => by simp [Fo.toL] at hn
  | .cons lab w kids rest, h, n, hn => by
    rcases List.mem_cons.1 hn with rfl | hn
    · exact lenN_of (can_len h.2.2.1) (lenN_all h.2.2.1)
    · exact lenN_all h.2.2.2.2 n hn
theorem tLenR_ok {W : Nat → Prop} {x : Hs} {h : Heap} {t : Tr} {l : List Pr} (i : TreeIs W h 1 x t l) (hr : Rises l) (hn : l.length ≤ 60000) {K : Int → Heap → Prop} (hk : ∀ h', Upd No h h' → K (l.length : Int) h') : HC PG f_tree_Tree_Len [trV t] [.c (.int .i64)] K h := by
  refine H_tree_Tree_Len t ?_
  unfold F_tree_Tree_Len
  rcases i with ⟨e, _⟩ | ⟨_, b, rfl, t⟩
  · cases e
  refine at_new fun h1 b1 k1 => ⟨_, vc b1 0, condP_true.2 ⟨_, vc b1 5, ?_⟩⟩
  obtain ⟨w, F, r1, r2, r3⟩ := (t.upd0 k1).ex
  have hp := rad_prs r2 hr r3
  have hpl := congrArg List.length hp
  unfold toU at hpl
  rw [List.length_map] at hpl
  refine lenN_of (lab := []) (can_len r2) (lenN_all r2) r1 (by simp only; omega) fun h2 k2 => ?_
  simp only
  rw [hpl]
  exact hk h2 (k1.tr k2)
theorem tKind_ok {t : Tr} {h : Heap} {K : Int → Heap → Prop} (hk : ∀ h', Upd No h h' → K t.1 h') : HC PG f_tree_Tree_Kind [trV t] [.c (.int .i64)] K h := by
  refine H_tree_Tree_Kind t ?_
  unfold F_tree_Tree_Kind
  exact at_new fun h1 b1 k1 => ⟨_, vc b1 0, hk h1 k1⟩
theorem awake14_ok {h : Heap} {K : Bool → Heap → Prop} (hk : ∀ h', Upd No h h' → K true h') : HC PG f_l14_awake [] [.c .bool] K h := by
  refine H_l14_awake ?_
  unfold F_l14_awake
  have hx0 : Hs := ⟨0, 0, 0⟩
  refine tNew_ok (W := fun y => y < h.size) (x := ⟨0, 0, 0⟩) (fun _ h => h) (.inr rfl) fun h2 t i2 k2 => ?_
  refine at_new fun h3 b3 k3 => ?_
  refine setAll (c := trL tr0) (vs := trL t) b3 rfl fun h4 b4 hu4 => ?_
  have k24 : Upd No h2 h4 := k3.own hu4 (Nat.le_refl _)
  have k04 := k2.tr k24
  have s2 := k2.size
  have s4 := k24.size
  have z4 := get_lt b4
  refine ⟨_, vc b4 0, _, vc b4 1, _, vc b4 2, _, vc b4 3, _, vc b4 4, _, vc b4 5, ?_⟩
  refine tWith_ok (W := fun y => y < h.size) (i2.upd0 k24) (fun y hy => by omega) List.Pairwise.nil (Nat.zero_le _) (⟨#[97]⟩, ⟨#[49]⟩) (by decide) (by decide) fun h12 u i12 _ k12 => ?_
  refine at_new fun h13 b13 k13 => ?_
  refine setAll (c := trL tr0) (vs := trL u) b13 rfl fun h14 b14 hu14 => ?_
  have k1214 : Upd No h12 h14 := k13.own hu14 (Nat.le_refl _)
  have z14 := get_lt b14
  refine ⟨_, vc b14 0, _, vc b14 1, _, vc b14 2, _, vc b14 3, _, vc b14 4, _, vc b14 5, ?_⟩
  have hri : Rises (insR ((⟨#[97]⟩ : ByteArray), (⟨#[49]⟩ : ByteArray)) []) := List.pairwise_singleton ..
  refine tPairsR_ok (i12.upd0 k1214) hri (fun p hp => by have := List.mem_singleton.1 hp; subst this; exact ⟨by decide, by decide⟩) (by decide) fun s22 h22 ho22 k22 => ?_
  have hlen := ho22.len
  have hs22 := ho22.sl (W := No) fun _ _ _ h => h
  obtain ⟨a, ha, _, hv⟩ := hs22.at (i := 0) (x := ((⟨#[97]⟩ : ByteArray), (⟨#[49]⟩ : ByteArray))) rfl
  have e1 : ((s22.len : Int) == (1 : Int)) = true := by rw [hlen]; rfl
  refine condP_true.2 (condP_true.2 ?_)
  rw [e1]
  refine condP_true.2 ⟨⟨by omega, by rw [hlen]; decide⟩, a, ha, ⟨#[97]⟩, hv 0 _ rfl, ?_⟩
  rw [beq_self_eq_true]
  have c22 := k22.get0 (k1214.get0 (k12.get0 b4))
  refine condP_true.2 ⟨_, vc c22 0, _, vc c22 1, _, vc c22 2, _, vc c22 3, _, vc c22 4, _, vc c22 5, ?_⟩
  have k422 := (k12.tr k1214).tr k22
  refine tLenR_ok ((i2.upd0 k24).upd0 k422) List.Pairwise.nil (by decide) fun h32 k32 => condP_true.2 ?_
  have c32 := k32.get0 (k22.get0 b14)
  refine ⟨_, vc c32 0, _, vc c32 1, _, vc c32 2, _, vc c32 3, _, vc c32 4, _, vc c32 5, tKind_ok fun h40 k40 => ?_⟩
  have eu : u.1 = 1 := by
    rcases i12 with ⟨e, _⟩ | ⟨_, b, rfl, _⟩
    · cases e
    · rfl
  rw [eu]
  exact hk h40 (((k04.tr k422).tr k32).tr k40)
end Go.Proofs
namespace Go.Proofs
open Go Go.Lift
theorem Sl.det {α : Type} {f : α → List Value} {sz : Nat} {W W' : Nat → Prop} {h : Heap} {s : SliceV} {xs ys : List α} (hi : ∀ x y, f x = f y → x = y) (a : Sl f sz W h s xs) (b : Sl f sz W' h s ys) : xs = ys := by
  apply List.ext_getElem
  · rw [← a.len, ← b.len]
  · intro i h1 h2
    refine hi _ _ (List.ext_getElem? fun j => ?_)
    obtain ⟨p, hp, _, hv⟩ := a.at (List.getElem?_eq_getElem h1)
    obtain ⟨q, hq, _, hw⟩ := b.at (List.getElem?_eq_getElem h2)
    rw [hp] at hq; cases hq
    have l1 := (a.ne xs[i]).1
    have l2 := (b.ne ys[i]).1
    by_cases hj : j < sz
    · have e1 := hv j _ (List.getElem?_eq_getElem (by omega))
      have e2 := hw j _ (List.getElem?_eq_getElem (by omega))
      rw [e1] at e2
      rw [List.getElem?_eq_getElem (by omega), List.getElem?_eq_getElem (by omega)]
      exact e2
    · rw [List.getElem?_eq_none (by omega), List.getElem?_eq_none (by omega)]
theorem prF_inj (x y : Pr) (h : prF x = prF y) : x = y := by
  simp only [prF, List.cons.injEq, Value.string.injEq, and_true] at h
  exact Prod.ext h.1 h.2
theorem ndF_inj (x y : Option Addr) (h : ndF x = ndF y) : x = y := by
  simpa [ndF] using h
theorem rxF_inj (x y : Option Addr) (h : rxF x = rxF y) : x = y := by
  simpa [rxF] using h
theorem nodeC_inj {d d' n n' : Nat} {sp sk sp' sk' : SliceV} {bu bu' : Bool} {ow ow' : Option Addr} (h : nodeC d n sp sk bu ow = nodeC d' n' sp' sk' bu' ow') : d = d' ∧ n = n' ∧ sp = sp' ∧ sk = sk' := by
  simp only [nodeC, Array.mk.injEq, List.cons.injEq, Value.int.injEq, true_and, sv, Value.slice.injEq, Value.bool.injEq, Value.pointer.injEq, and_true] at h
  obtain ⟨h1, h2, ⟨h3, h4, h5⟩, ⟨h6, h7, h8⟩, _⟩ := h
  refine ⟨by omega, by omega, ?_, ?_⟩
  · cases sp; cases sp'; simp only at h3 h4 h5; subst h3 h4 h5; rfl
  · cases sk; cases sk'; simp only at h6 h7 h8; subst h6 h7 h8; rfl
/-- A trie is of one list alone. -/
theorem trie_det {W W' : Nat → Prop} {x : Hs} {h : Heap} : ∀ {m b : Nat} {l l' : List Pr}, TrieAt W x h m b l → TrieAt W' x h m b l' → Rises l → Rises l' → l = l'
  | 0, b, l, l', t, t', _, _ => by
    obtain ⟨sp, sk, ow, hb, hs, _⟩ := t.ex
    obtain ⟨sp', sk', ow', hb', hs', _⟩ := t'.ex
    rw [hb] at hb'
    simp only [Option.some.injEq, Obj.cells.injEq, and_true] at hb'
    obtain ⟨_, _, rfl, _⟩ := nodeC_inj hb'
    exact Sl.det prF_inj hs hs'
  | m + 1, b, l, l', ⟨s, nd, hc⟩, ⟨s', nd', hc'⟩, hr, hr' => by
    obtain ⟨d, n, sp, sk, ow, hb, bits, hs, hk, _⟩ := nd.ex
    obtain ⟨d', n', sp', sk', ow', hb', bits', hs', hk', _⟩ := nd'.ex
    rw [hb] at hb'
    simp only [Option.some.injEq, Obj.cells.injEq, and_true] at hb'
    obtain ⟨rfl, rfl, rfl, rfl⟩ := nodeC_inj hb'
    have e1 := fm_inj 32 (fun c hc => by rw [← bits.dp c hc, bits'.dp c hc]) (Sl.det prF_inj hs hs')
    have e2 := fm_inj 32 (fun c hc => by rw [← bits.nk c hc, bits'.nk c hc]) (Sl.det ndF_inj hk hk')
    refine part_ext (x := x) (lev := 12 - m) hr hr' fun c hlt => ?_
    have t1 := hc c hlt
    have t2 := hc' c hlt
    rw [← e1 c hlt, ← e2 c hlt] at t2
    rcases t1 with ⟨h1, h2, h3⟩ | ⟨p, h1, h2, h3⟩ | ⟨h1, h2, kb, h3, h4⟩ <;> rcases t2 with ⟨g1, g2, g3⟩ | ⟨q, g1, g2, g3⟩ | ⟨g1, g2, kb', g3, g4⟩ <;> simp_all
    exact trie_det h4 g4 (rises_part hr) (rises_part hr')
theorem rxC_inj {sl sl' v v' : ByteArray} {b b' : Bool} {s s' : SliceV} {ow ow' : Option Addr} (h : rxC sl b v s ow = rxC sl' b' v' s' ow') : sl = sl' ∧ b = b' ∧ v = v' ∧ s = s' := by
  simp only [rxC, Array.mk.injEq, List.cons.injEq, Value.string.injEq, sv, Value.slice.injEq, Value.bool.injEq, Value.pointer.injEq, and_true] at h
  obtain ⟨h1, h2, h3, ⟨h6, h7, h8⟩, _⟩ := h
  refine ⟨h1, h2, h3, ?_⟩
  cases s; cases s'; simp only at h6 h7 h8; subst h6 h7 h8; rfl
theorem opt_det {w w' : Option ByteArray} {v : ByteArray} (h : w.isSome = w'.isSome) (h1 : ∀ u, w = some u → v = u) (h2 : ∀ u, w' = some u → v = u) : w = w' := by
  cases w <;> cases w' <;> simp_all
theorem rx_det {W W' : Nat → Prop} {h : Heap} : ∀ {F F' : Fo} {ks : List (Option Addr)}, RxF W h F ks → RxF W' h F' ks → F = F'
  | .nil, .nil, _, _, _ => rfl
  | .nil, .cons .., ks, h1, h2 => by
    obtain ⟨b, sl, val, s, ow, ks1, ks', e0, _⟩ := h2
    have h1 : ks = [] := h1
    rw [h1] at e0; cases e0
  | .cons .., .nil, ks, h1, h2 => by
    obtain ⟨b, sl, val, s, ow, ks1, ks', e0, _⟩ := h1
    have h2 : ks = [] := h2
    rw [h2] at e0; cases e0
  | .cons lab w kids rest, .cons lab' w' kids' rest', ks, ⟨b, sl, val, s, ow, ks1, ks', e0, e1, e2, e3, e4, e5, e6, e7⟩, ⟨b', sl', val', s', ow', ks1', ks'', f0, f1, f2, f3, f4, f5, f6, f7⟩ => by
    rw [e0] at f0
    simp only [List.cons.injEq, Option.some.injEq, Addr.mk.injEq, and_true] at f0
    obtain ⟨rfl, rfl⟩ := f0
    rw [e2] at f2
    simp only [Option.some.injEq, Obj.cells.injEq, and_true] at f2
    obtain ⟨rfl, g2, rfl, rfl⟩ := rxC_inj f2
    have := Sl.det rxF_inj e4 f4
    subst this
    rw [rx_det e6 f6, rx_det e7 f7, ← e1, ← f1, opt_det g2 e3 f3]
theorem rad_det {W W' : Nat → Prop} {h : Heap} {b : Nat} {l l' : List Pr} (t : RadAt W h b l) (t' : RadAt W' h b l') (hr : Rises l) (hr' : Rises l') : l = l' := by
  obtain ⟨w, F, ⟨val, s, ow, ks, e2, e3, e4, e5, e6⟩, c, he⟩ := t.ex
  obtain ⟨w', F', ⟨val', s', ow', ks', f2, f3, f4, f5, f6⟩, c', he'⟩ := t'.ex
  rw [e2] at f2
  simp only [Option.some.injEq, Obj.cells.injEq, and_true] at f2
  obtain ⟨_, g2, rfl, rfl⟩ := rxC_inj f2
  have := Sl.det rxF_inj e4 f4
  subst this
  have eF := rx_det e6 f6
  have ew := opt_det g2 e3 f3
  exact toU_inj (by rw [← rad_prs c hr he, ← rad_prs c' hr' he', eF, ew])
theorem tree_det {W W' : Nat → Prop} {h : Heap} {kind kind' : Int} {x x' : Hs} {t : Tr} {l l' : List Pr} (i : TreeIs W h kind x t l) (i' : TreeIs W' h kind' x' t l') (hr : Rises l) (hr' : Rises l') : l = l' := by
  rcases i with ⟨rfl, b, rfl, t⟩ | ⟨rfl, b, rfl, t⟩ <;> rcases i' with ⟨rfl, b', e, t'⟩ | ⟨rfl, b', e, t'⟩
  · simp only [Prod.mk.injEq, Option.some.injEq, Addr.mk.injEq, and_true, true_and] at e
    obtain ⟨h1, h2, h3, rfl⟩ := e
    have hx : x = x' := by cases x; cases x'; simp only at h1 h2 h3; subst h1 h2 h3; rfl
    subst hx
    exact trie_det t t' hr hr'
  · cases e
  · cases e
  · simp only [Prod.mk.injEq, Option.some.injEq, Addr.mk.injEq, and_true, true_and] at e
    subst e
    exact rad_det t t' hr hr'
theorem like_same {W W' : Nat → Prop} {h h' : Heap} {kind : Int} {x : Hs} {t u : Tr} {l l' : List Pr} (i : TreeIs W h kind x t l) (i' : TreeIs W' h' kind x u l') : likeB t u = true := by
  rcases i with ⟨rfl, b, rfl, _⟩ | ⟨rfl, b, rfl, _⟩ <;> rcases i' with ⟨e, b', rfl, _⟩ | ⟨e, b', rfl, _⟩
  · simp [likeB]
  · cases e
  · cases e
  · simp [likeB]
theorem likeB_self (t : Tr) : likeB t t = true := by simp [likeB]
theorem kind2 {k : Int} (h0 : 0 ≤ k) (h1 : k ≤ 255) : IntKind.wrap .i64 (Int.tmod k 2) = 0 ∨ IntKind.wrap .i64 (Int.tmod k 2) = 1 := by
  have : Int.tmod k 2 = k % 2 := Int.tmod_eq_emod_of_nonneg h0
  rw [this, w64 (by omega)]; omega
abbrev hsL (x : Hs) : List Value := [.int .u64 x.k0, .int .u64 x.k1, .int .u64 x.mask]
set_option maxHeartbeats 2000000 in
theorem treeSame_ok {h : Heap} {k o : Int} {x y : Hs} {s s' : SliceV} {l m : List Pr} {same : Bool} (hs : Sl prF 2 No h s l) (hs' : Sl prF 2 No h s' m) (hl : l.length ≤ 9223372036854775807) (hm : m.length ≤ 9223372036854775807) (hk0 : 0 ≤ k) (hk1 : k ≤ 255) (ho0 : 0 ≤ o) (ho1 : o ≤ 255) :
    HC PG f_l14_TreeSame [.int .u8 k, .int .u8 o, .agg #[.int .u64 x.k0, .int .u64 x.k1, .int .u64 x.mask], .agg #[.int .u64 y.k0, .int .u64 y.k1, .int .u64 y.mask], .slice s.a s.len s.cap, .slice s'.a s'.len s'.cap, .bool same] [.c .bool] (fun b h' => b = true ∧ Upd No h h') h := by
  refine H_l14_TreeSame k o (x.k0, x.k1, x.mask) (y.k0, y.k1, y.mask) s s' same ?_
  unfold F_l14_TreeSame
  have hkk := kind2 hk0 hk1
  have hoo := kind2 ho0 ho1
  generalize IntKind.wrap .i64 (Int.tmod k 2) = kk at hkk
  generalize IntKind.wrap .i64 (Int.tmod o 2) = oo at hoo
  refine at_new fun h1 b1 k1 => at_new fun h2 b2 k2 => awake14_ok fun h4 k4 => condP_false.2 ?_
  have z1 := get_lt b1
  have z2 := get_lt b2
  have s1 := k1.size
  have s4 := k4.size
  have k04 := (k1.tr k2).tr k4
  have c1 := k4.get0 (k2.get0 b1)
  have c2 := k4.get0 b2
  refine Join.intro (fun _ h' => Upd No h h' ∧ h'[h.size]? = some (.cells (hsL x).toArray t_sip_Hasher (0, 0)) ∧ ∃ g : Hs, h'[h1.size]? = some (.cells (hsL g).toArray t_sip_Hasher (0, 0))) (fun R hR => ?_) ?_
  · cases same
    · exact condP_false.2 (hR _ _ ⟨k04, c1, y, c2⟩)
    · refine condP_true.2 ⟨_, vc c1 0, _, vc c1 1, _, vc c1 2, ?_⟩
      exact setAll (c := hsL y) (vs := hsL x) c2 rfl fun h5 b5 hu5 => hR _ _ ⟨k04.own hu5 s1, hu5.oth c1 (by omega), x, b5⟩
  · rintro _ h5 ⟨k05, d1, g, d2⟩
    refine ⟨by decide, _, vc d1 0, _, vc d1 1, _, vc d1 2, ?_⟩
    refine made_ok (W := No) (x := x) (hs.upd k05 fun _ h => h.elim) (fun _ h => h.elim) hkk hl fun h16 a ra ia ja k16 => ?_
    refine at_new fun h17 b17 k17 => at_new fun h18 b18 k18 => ?_
    have z17 := get_lt b17
    have z18 := get_lt b18
    refine setAll (c := trL tr0) (vs := trL a) (k18.get0 b17) rfl fun h19 b19 hu19 => ?_
    refine setAll (c := rtL rt0) (vs := rtL ra) (hu19.oth b18 (by omega)) rfl fun h20 b20 hu20 => ?_
    have k1620 : Upd No h16 h20 := ((k17.tr k18).own hu19 (Nat.le_refl _)).own hu20 (by omega)
    have va := hu20.oth b19 (by omega)
    have k020 := (k05.tr k16).tr k1620
    have d2' := (k16.tr k1620).get0 d2
    have d1' := (k16.tr k1620).get0 d1
    have ia := ia.upd0 k1620
    have ja := ja.upd0 k1620
    refine ⟨by decide, _, vc d2' 0, _, vc d2' 1, _, vc d2' 2, ?_⟩
    refine made_ok (W := No) (x := g) (hs'.upd k020 fun _ h => h.elim) (fun _ h => h.elim) hoo hm fun h25 b rb ib jb k25 => ?_
    refine at_new fun h26 b26 k26 => at_new fun h27 b27 k27 => ?_
    have z26 := get_lt b26
    have z27 := get_lt b27
    refine setAll (c := trL tr0) (vs := trL b) (k27.get0 b26) rfl fun h28 b28 hu28 => ?_
    refine setAll (c := rtL rt0) (vs := rtL rb) (hu28.oth b27 (by omega)) rfl fun h29 b29 hu29 => ?_
    have k2529 : Upd No h25 h29 := ((k26.tr k27).own hu28 (Nat.le_refl _)).own hu29 (by omega)
    have vb := hu29.oth b28 (by omega)
    have k2029 := k25.tr k2529
    have va := k2029.get0 va
    have vra := k2029.get0 b20
    have ia := ia.upd0 k2029
    have ja := ja.upd0 k2029
    have ib := ib.upd0 k2529
    have jb := jb.upd0 k2529
    have d1'' := k2029.get0 d1'
    have k029 := k020.tr k2029
    refine ⟨by decide, _, vc d1'' 0, _, vc d1'' 1, _, vc d1'' 2, ?_⟩
    refine made_ok (W := No) (x := x) (hs.upd k029 fun _ h => h.elim) (fun _ h => h.elim) hkk hl fun h34 c rc ic jc k34 => ?_
    refine at_new fun h35 b35 k35 => at_new fun h36 b36 k36 => ?_
    have z35 := get_lt b35
    have z36 := get_lt b36
    refine setAll (c := trL tr0) (vs := trL c) (k36.get0 b35) rfl fun h37 b37 hu37 => ?_
    refine setAll (c := rtL rt0) (vs := rtL rc) (hu37.oth b36 (by omega)) rfl fun h38 b38 hu38 => ?_
    have k3438 : Upd No h34 h38 := ((k35.tr k36).own hu37 (Nat.le_refl _)).own hu38 (by omega)
    have vvc := hu38.oth b37 (by omega)
    have k2938 := k34.tr k3438
    have va := k2938.get0 va
    have vra := k2938.get0 vra
    have vb := k2938.get0 vb
    have vrb := k2938.get0 b29
    have ia := ia.upd0 k2938
    have ja := ja.upd0 k2938
    have ib := ib.upd0 k2938
    have jb := jb.upd0 k2938
    have ic := ic.upd0 k3438
    have k038 := k029.tr k2938
    have fl := few_made l
    have fm := few_made m
    have fll := fl.len
    have fml := fm.len
    clear b17 b18 b19 b20 b26 b27 b28 b29 b35 b36 b37 b38 d1 d1' d1'' d2 d2' c1 c2 hs hs' k16 k17 k18 k25 k26 k27 k34 k35 k36 hu19 hu20 hu28 hu29 hu37 hu38 jc
    generalize madeL l = L at *
    generalize madeL m = M at *
    have hlk := like_eq ia ib ja jb
    refine ⟨_, vc va 0, _, vc va 1, _, vc va 2, _, vc va 3, _, vc va 4, _, vc va 5, _, vc vb 0, _, vc vb 1, _, vc vb 2, _, vc vb 3, _, vc vb 4, _, vc vb 5, _, vc vra 0, _, vc vra 1, _, vc vra 2, _, vc vra 3, ra.2.2.2.2, vc vra 4, _, vc vrb 0, _, vc vrb 1, _, vc vrb 2, _, vc vrb 3, rb.2.2.2.2, vc vrb 4, ?_⟩
    refine tLike_ok fun h62 k62 => ?_
    have va := k62.get0 va
    have vb := k62.get0 vb
    have vra := k62.get0 vra
    have vrb := k62.get0 vrb
    have vvc := k62.get0 vvc
    refine ⟨⟨vc vrb 0, vc vrb 1, vc vrb 2, vc vrb 3, vc vrb 4⟩, ⟨vc vra 0, vc vra 1, vc vra 2, vc vra 3, vc vra 4⟩, ?_⟩
    refine rLike_ok fun h64 k64 => ?_
    have va := k64.get0 va
    have vb := k64.get0 vb
    have vra := k64.get0 vra
    have vrb := k64.get0 vrb
    have vvc := k64.get0 vvc
    have k3864 := k62.tr k64
    rw [hlk, beq_self_eq_true]
    refine condP_true.2 ⟨_, vc va 0, _, vc va 1, _, vc va 2, _, vc va 3, _, vc va 4, _, vc va 5, _, vc vb 0, _, vc vb 1, _, vc vb 2, _, vc vb 3, _, vc vb 4, _, vc vb 5, _, vc vra 0, _, vc vra 1, _, vc vra 2, _, vc vra 3, ra.2.2.2.2, vc vra 4, _, vc vrb 0, _, vc vrb 1, _, vc vrb 2, _, vc vrb 3, rb.2.2.2.2, vc vrb 4, ?_⟩
    refine tSame_ok (ia.upd0 k3864) (ib.upd0 k3864) fl.up fl.fits (by omega) fm.up fm.fits (by omega) fun h88 k88 => ?_
    have va := k88.get0 va
    have vb := k88.get0 vb
    have vra := k88.get0 vra
    have vrb := k88.get0 vrb
    have vvc := k88.get0 vvc
    refine ⟨⟨vc vrb 0, vc vrb 1, vc vrb 2, vc vrb 3, vc vrb 4⟩, ⟨vc vra 0, vc vra 1, vc vra 2, vc vra 3, vc vra 4⟩, ?_⟩
    have k3888 := k3864.tr k88
    refine rtSame_ok (ja.upd0 k3888) (jb.upd0 k3888) (by omega) fun h90 k90 => ?_
    rw [hlk, beq_self_eq_true]
    have va := k90.get0 va
    have vb := k90.get0 vb
    have vvc := k90.get0 vvc
    have k3890 := k3888.tr k90
    refine condP_true.2 ⟨_, vc va 0, _, vc va 1, _, vc va 2, _, vc va 3, _, vc va 4, _, vc va 5, _, vc vvc 0, _, vc vvc 1, _, vc vvc 2, _, vc vvc 3, _, vc vvc 4, _, vc vvc 5, ?_⟩
    refine tSame_ok (ia.upd0 k3890) (ic.upd0 k3890) fl.up fl.fits (by omega) fl.up fl.fits (by omega) fun h104 k104 => ?_
    rw [like_same ia ic, decide_eq_true rfl]
    have va := k104.get0 va
    have vb := k104.get0 vb
    have vvc := k104.get0 vvc
    refine condP_true.2 ⟨_, vc va 0, _, vc va 1, _, vc va 2, _, vc va 3, _, vc va 4, _, vc va 5, _, vc vvc 0, _, vc vvc 1, _, vc vvc 2, _, vc vvc 3, _, vc vvc 4, _, vc vvc 5, ?_⟩
    refine tLike_ok fun h118 k118 => ?_
    rw [like_same ia ic]
    have va := k118.get0 va
    have vb := k118.get0 vb
    refine condP_true.2 ⟨_, vc va 0, _, vc va 1, _, vc va 2, _, vc va 3, _, vc va 4, _, vc va 5, _, vc va 0, _, vc va 1, _, vc va 2, _, vc va 3, _, vc va 4, _, vc va 5, ?_⟩
    have k38118 := (k3890.tr k104).tr k118
    refine tOne_ok (ia.upd0 k38118) (ia.upd0 k38118) fun h132 k132 => ?_
    rw [decide_eq_true rfl]
    have va := k132.get0 va
    have vb := k132.get0 vb
    refine condP_true.2 ⟨_, vc va 0, _, vc va 1, _, vc va 2, _, vc va 3, _, vc va 4, _, vc va 5, _, vc vb 0, _, vc vb 1, _, vc vb 2, _, vc vb 3, _, vc vb 4, _, vc vb 5, ?_⟩
    have k38132 := k38118.tr k132
    refine tOne_ok (ia.upd0 k38132) (ib.upd0 k38132) fun h146 k146 => ?_
    have k38146 := k38132.tr k146
    by_cases hab : a = b
    · rw [decide_eq_true hab]
      have va := k146.get0 va
      have vb := k146.get0 vb
      refine condP_false.2 ⟨_, vc va 0, _, vc va 1, _, vc va 2, _, vc va 3, _, vc va 4, _, vc va 5, _, vc vb 0, _, vc vb 1, _, vc vb 2, _, vc vb 3, _, vc vb 4, _, vc vb 5, ?_⟩
      refine tSame_ok (ia.upd0 k38146) (ib.upd0 k38146) fl.up fl.fits (by omega) fm.up fm.fits (by omega) fun h160 k160 => ⟨?_, (k038.tr k38146).tr k160⟩
      subst hab
      rw [likeB_self, decide_eq_true (tree_det ia ib fl.up fm.up)]; rfl
    · rw [decide_eq_false hab]
      exact condP_true.2 ⟨rfl, k038.tr k38146⟩
end Go.Proofs
