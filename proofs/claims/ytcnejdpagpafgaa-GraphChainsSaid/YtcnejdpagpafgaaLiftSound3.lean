/-
  Soundness of the operations that may turn the heap.
-/
import Derived.Test.YtcnejdpagpafgaaLiftSound2
import Derived.Laws.Append
namespace Go.Lift
open Go
variable {P : Program}
/-- What an operation may come to: a value, nothing, a call that returns; the streams, the tape as they were. -/
def WOut (P : Program) (s : Sem Next) (K : WK) (w : World) : Prop :=
  (∃ v w', s.run P w = .ok (.value v) w' ∧ Tame w w' ∧ K v w'.heap) ∨
  (∃ w', s.run P w = .ok .skip w' ∧ Tame w w' ∧ K undef w'.heap) ∨
  (∃ f args, s.run P w = .ok (.enter f args) w ∧ Calls P f args w fun e w' => Tame w w' ∧ ∃ v, e = .returned v ∧ K v w'.heap) ∨
  (∃ l fn tmps assign body, s.run P w = .ok (.round l fn tmps assign body) w ∧
    ∀ (c : Frame) (cs : List Frame), ∃ b w', Tame w w' ∧ K (.bool b) w'.heap ∧ Steps P (lone (Frame.round l fn tmps assign body .normal) (c :: cs) w) (lone (c.finish (.bool b)) cs w'))
/-- A value that is worked out, in a heap that it may turn. -/
def Wv (P : Program) (s : Sem Value) (K : WK) (w : World) : Prop := ∃ v w', s.run P w = .ok v w' ∧ Tame w w' ∧ K v w'.heap
theorem Wv.out {s : Sem Value} {K : WK} {w : World} (h : Wv P s K w) : WOut P (do pure (Next.value (← s))) K w := by
  obtain ⟨v, w', hr, ht, hk⟩ := h
  exact .inl ⟨v, w', run_value hr, ht, hk⟩
def Wu (P : Program) (s : Sem Unit) (K : WK) (w : World) : Prop := ∃ w', s.run P w = .ok () w' ∧ Tame w w' ∧ K undef w'.heap
theorem Wu.out {s : Sem Unit} {K : WK} {w : World} (h : Wu P s K w) : WOut P (do s; pure Next.skip) K w := by
  obtain ⟨w', hr, ht, hk⟩ := h
  exact .inr (.inl ⟨w', run_skip hr, ht, hk⟩)
def wHeap (w : World) (h : Heap) : World := { w with heap := h }
theorem wHeap_tame (w : World) (h : Heap) : Tame w (wHeap w h) := ⟨rfl, rfl, rfl⟩
theorem run_newRow (e : TypeId) (cs : Array Value) (w : World) : (newRow e cs).run P w = .ok (newA w.heap) (wHeap w (hnew w.heap cs.toList e)) := by
  simp [newRow, newObj, Sem.run, newA, wHeap, hnew, bind, Sem.bind, pure]
theorem run_newObj (o : Obj) (w : World) : (newObj o).run P w = .ok w.heap.size (wHeap w (w.heap.push o)) := rfl
theorem zcells_some {t : TypeId} {z : List Value} (h : zcells P t = some z) : ∃ v, zeroT P t = some v ∧ v.cells.toList = z := by
  unfold zcells at h
  cases hz : zeroT P t with
  | none => rw [hz] at h; cases h
  | some v => rw [hz] at h; simp only [Option.some.injEq] at h; exact ⟨v, rfl, h⟩
theorem info_of_zero {t : TypeId} {v : Value} (h : zeroT P t = some v) : ∃ i, P.info? t = some i ∧ i.zero = some v := by
  unfold zeroT at h
  cases hi : P.info? t with
  | none => rw [hi] at h; cases h
  | some i => rw [hi] at h; exact ⟨i, rfl, h⟩

/-! ### Cells that are written -/
theorem hcell_hset_ne {h : Heap} {a b : Addr} (v : Value) (hne : a ≠ b) : hcell (hset h a v) b = hcell h b :=
  World.cell?_setCell_other { (default : World) with heap := h } a b v hne
theorem hcell_hset_same {h : Heap} {a : Addr} {u : Value} (v : Value) (hc : hcell h a = some u) : hcell (hset h a v) a = some v :=
  World.cell?_setCell_same { (default : World) with heap := h } a v hc
theorem hfrozen_hset {h : Heap} {a b : Addr} (v : Value) : hfrozen (hset h a v) b = hfrozen h b :=
  World.frozen?_setCell { (default : World) with heap := h } a b v
theorem Wr.hset {h : Heap} {a b : Addr} (v : Value) (hw : Wr h b) : Wr (hset h a v) b := by
  obtain ⟨⟨u, hu⟩, hf⟩ := hw
  refine ⟨?_, by rw [hfrozen_hset]; exact hf⟩
  by_cases e : a = b
  · subst e; exact ⟨v, hcell_hset_same v hu⟩
  · exact ⟨u, by rw [hcell_hset_ne v e]; exact hu⟩
theorem run_store1 {w : World} {a : Addr} {v : Value} (hv : ∀ cs, v ≠ .agg cs) (hv' : ∀ cs, v ≠ .tuple cs) (hw : Wr w.heap a) : (store a v).run P w = .ok () (wHeap w (hset w.heap a v)) := by
  obtain ⟨⟨u, hu⟩, hf⟩ := hw
  have hu' : w.cell? a = some u := hu
  have hf' : w.frozen? a = false := hf
  cases v <;> first | exact absurd rfl (hv _) | exact absurd rfl (hv' _) | (simp only [store, Sem.run, hu', hf']; rfl)
theorem oneCell_cons {v : Value} {vs : List Value} (h : oneCell (v :: vs) = true) : (∀ cs, v ≠ .agg cs) ∧ (∀ cs, v ≠ .tuple cs) ∧ oneCell vs = true := by
  simp only [oneCell, Bool.and_eq_true] at h
  refine ⟨fun cs e => ?_, fun cs e => ?_, h.2⟩ <;> (subst e; exact absurd h.1 (by simp))
theorem run_storeCells {a : Addr} : ∀ (vs : List Value) (i : Nat) (w : World), oneCell vs = true → (∀ j, j < vs.length → Wr w.heap (adr a (i + j))) →
    (storeCells a vs i).run P w = .ok () (wHeap w (hsetL w.heap a i vs))
  | [], i, w, _, _ => rfl
  | v :: vs, i, w, h1, hw => by
    obtain ⟨n1, n2, h1⟩ := oneCell_cons h1
    have h0 := hw 0 (by simp)
    simp only [Nat.add_zero] at h0
    have ha : a.add i = adr a i := (adr_eq a i).symm
    simp only [storeCells, ha, Sem.run_bind, run_store1 n1 n2 h0, Result.andThen_ok]
    rw [run_storeCells vs (i + 1) (wHeap w (hset w.heap (adr a i) v)) h1 fun j hj => ?_]
    · rfl
    · have := hw (j + 1) (by simp only [List.length_cons]; omega)
      rw [show i + 1 + j = i + (j + 1) by omega]
      exact this.hset v
theorem add_add (a : Addr) (m n : Nat) : (a.add m).add n = a.add (m + n) := by
  rw [← adr_eq, ← adr_eq, ← adr_eq, adr_adr]
theorem hsetL_adr {a : Addr} (m : Nat) : ∀ (vs : List Value) (i : Nat) (h : Heap), hsetL h (adr a m) i vs = hsetL h a (m + i) vs
  | [], _, _ => rfl
  | v :: vs, i, h => by
    simp only [hsetL]
    rw [hsetL_adr m vs (i + 1), adr_adr]; rfl
theorem wStore_sound {t : TypeId} {a v : Value} {K : WK} {w : World} (hs : wStore P t a v K w.heap) : Wu P (Instr.storeAt t a v) K w := by
  unfold wStore at hs
  split at hs
  · rename_i a
    cases hb : (Nat.beq v.cells.toList.length (sizeT P t) && oneCell v.cells.toList) with
    | false => rw [hb] at hs; exact hs.elim
    | true =>
      rw [hb] at hs
      simp only [Bool.and_eq_true] at hb
      have hl := Nat.eq_of_beq_eq_true hb.1
      obtain ⟨hs, hz⟩ := okT_sound hs
      have hl' : v.cells.size = sizeT P t := by simpa using hl
      have go : (∀ j, j < v.cells.toList.length → Wr w.heap (adr a (0 + j))) → (Instr.storeAt t (.pointer (some a)) v).run P w = .ok () (wHeap w (hsetL w.heap a 0 v.cells.toList)) := by
        intro hw
        have := run_storeCells (P := P) v.cells.toList 0 w hb.2 hw
        simp [Instr.storeAt, Instr.sureAddr, storeVar, hz, hl', this]
      split at hs
      · rename_i u hu
        obtain ⟨hw, hk⟩ := hs
        refine ⟨_, go (fun j hj => ?_), wHeap_tame _ _, ?_⟩
        · rw [hu] at hj; simp only [List.length_cons, List.length_nil] at hj
          obtain rfl : j = 0 := by omega
          exact hw
        · rw [hu]; exact hk
      · obtain ⟨hw, hk⟩ := hs
        refine ⟨_, go (fun j hj => ?_), wHeap_tame _ _, hk⟩
        rcases hw with e | ⟨b, hb', hw⟩
        · rw [e] at hj; cases hj
        · cases hb'; exact hw j hj
  · exact hs.elim

/-! ### Blocks of several cells -/
theorem cut_take {A B : List Value} {x : Value} {m : Nat} (h : A.length = m) : (A ++ x :: B).take (m + 1) = A ++ [x] := by
  subst h; rw [List.take_append, List.take_of_length_le (by omega), show A.length + 1 - A.length = 1 by omega]; rfl
theorem cut_drop {A B : List Value} {x : Value} {m n : Nat} (h : A.length = m) : (A ++ x :: B).drop (m + 1 + n) = B.drop n := by
  subst h; rw [List.drop_append, List.drop_eq_nil_of_le (by omega), show A.length + 1 + n - A.length = n + 1 by omega]; rfl
theorem fold_put (off : Nat) : ∀ (xs : List Value) (k : Nat) (arr : Array Value), off + k + xs.length ≤ arr.size →
    (xs.zipIdx k).foldl (fun cs (c, j) => cs.setIfInBounds (off + j) c) arr = (putAt arr.toList (off + k) xs).toArray
  | [], k, arr, _ => by simp [putAt]
  | x :: xs, k, arr, h => by
    simp only [List.length_cons] at h
    simp only [List.zipIdx_cons, List.foldl_cons]
    rw [fold_put off xs (k + 1) _ (by simp; omega)]
    have hm : off + k < arr.toList.length := by simp; omega
    have hs : arr.toList.set (off + k) x = arr.toList.take (off + k) ++ x :: arr.toList.drop (off + k + 1) := by
      rw [List.set_eq_take_append_cons_drop, if_pos hm]
    have hl : (arr.toList.take (off + k)).length = off + k := by simp; omega
    congr 1
    unfold putAt
    rw [Array.toList_setIfInBounds, hs, ← Nat.add_assoc, cut_take hl, cut_drop hl]
    simp only [List.append_assoc, List.cons_append, List.nil_append, List.length_cons, List.drop_drop]
    rw [show off + k + 1 + xs.length = off + k + (xs.length + 1) by omega]
theorem fillL_sound {place : Nat → Option (Nat × Nat)} : ∀ (parts : List (Nat × Value)) (cs cs' : List Value), fillL place cs parts = some cs' → Instr.fill place cs.toArray parts = some cs'.toArray
  | [], cs, cs', h => by simp only [fillL, Option.some.injEq] at h; subst h; rfl
  | (i, v) :: rest, cs, cs', h => by
    simp only [fillL] at h
    cases hp : place i with
    | none => rw [hp] at h; cases h
    | some os =>
      obtain ⟨off, size⟩ := os
      rw [hp] at h
      simp only at h
      cases hb : (Nat.beq v.cells.toList.length size && Nat.ble (off + v.cells.toList.length) cs.length) with
      | false => rw [hb] at h; cases h
      | true =>
        rw [hb] at h
        simp only [Bool.and_eq_true] at hb
        have h1 := Nat.eq_of_beq_eq_true hb.1
        have h2 := Nat.le_of_ble_eq_true hb.2
        have ih := fillL_sound rest _ _ h
        have h3 : v.cells.size = size := by simpa using h1
        have h4 : off + v.cells.size ≤ cs.length := by simpa using h2
        have hf : Array.foldl (fun cs x => cs.setIfInBounds (off + x.2) x.1) cs.toArray v.cells.zipIdx = (putAt cs off v.cells.toList).toArray := by
          have := fold_put off v.cells.toList 0 cs.toArray (by simpa using h4)
          simp only [Nat.add_zero] at this
          rw [← this, ← Array.foldl_toList]
          congr 1
          simp [Array.toList_zipIdx]
        simp only [Instr.fill, hp]
        rw [if_neg (by simp [h3]; omega)]
        simp only [hf]
        exact ih
theorem partVals_sound {N : Nat} {r : Regs} {a : Act} (h : Agree N r a) : ∀ {ps : List (Nat × Operand)} {vs : List (Nat × Value)}, partVals r ps = some vs → ps.map (fun p => (p.1, a.eval p.2)) = vs
  | [], vs, hv => by simp [partVals] at hv; subst hv; rfl
  | (i, o) :: ps, vs, hv => by
    simp only [partVals] at hv
    cases ho : reval r o with
    | none => simp [ho] at hv
    | some v => cases hos : partVals r ps with
      | none => simp [ho, hos] at hv
      | some us => simp [ho, hos] at hv; subst hv; simp [reval_sound h ho, partVals_sound h hos]

theorem zeroCells_toList (z : Array Value) (n : Nat) : (Builtin.zeroCells z n).toList = zrow n z.toList := by
  have key : ∀ n, (List.range (n * z.size)).map (fun i => z[i % z.size]!) = (List.replicate n z.toList).flatten := by
    intro n
    induction n with
    | zero => simp
    | succ n ih =>
      rw [Nat.succ_mul, List.range_add, List.map_append, ih, List.replicate_succ', List.flatten_append]
      congr 1
      simp only [List.map_map, List.flatten_cons, List.flatten_nil, List.append_nil]
      apply List.ext_getElem
      · simp
      · intro i h1 h2
        simp only [List.length_map, List.length_range] at h1
        simp [Nat.mod_eq_of_lt h1, h1, Nat.add_mod]
  simpa [Builtin.zeroCells, zrow] using key n

theorem hasInfo_run {t : TypeId} (h : hasInfo P t = true) (w : World) : (sizeOf t).run P w = .ok (sizeT P t) w := by
  unfold hasInfo at h
  cases hi : P.info? t with
  | none => rw [hi] at h; cases h
  | some i => simp [sizeOf, run_typeInfo hi, sizeT, hi]
theorem places_run (w : World) : ∀ l : List Field, allInfo P l = true → (l.mapM fun f : Field => ((do pure (f.offset, ← sizeOf f.type)) : Sem (Nat × Nat))).run P w = .ok (l.map fun f : Field => (f.offset, sizeT P f.type)) w
  | [], _ => rfl
  | f :: l, h => by
    simp only [allInfo] at h
    cases hf : hasInfo P f.type with
    | false => rw [hf] at h; cases h
    | true =>
      rw [hf] at h
      rw [List.mapM_cons]
      simp only [Sem.run_bind, hasInfo_run hf, Result.andThen_ok, Sem.run_pure, places_run w l h, List.map_cons]
theorem buildL_sound {t : TypeId} {ps : Array (Nat × Value)} {cs : List Value} (hb : buildL P t ps.toList = some cs) (w : World) :
    (Instr.build t ps).run P w = .ok (.agg cs.toArray) w := by
  unfold buildL at hb
  split at hb
  · rename_i fs z hu hz
    obtain ⟨v, hz, hv⟩ := zcells_some hz
    cases ha : allInfo P fs.toList with
    | false => rw [ha] at hb; cases hb
    | true =>
      rw [ha] at hb
      have hfs : (fs.mapM fun f : Field => ((do pure (f.offset, ← sizeOf f.type)) : Sem (Nat × Nat))).run P w = .ok (fs.map fun f : Field => (f.offset, sizeT P f.type)) w := by
        rw [Array.mapM_eq_mapM_toList]
        simp only [Sem.run_map, places_run w fs.toList ha, Result.andThen_ok]
        congr 1
        apply Array.ext'; simp
      have hf := fillL_sound _ _ _ hb
      have hplace : (fun i : Nat => (fs.map fun f : Field => (f.offset, sizeT P f.type))[i]?) = placeS P fs.toList := by
        funext i
        unfold placeS
        rw [Array.getElem?_map, Array.getElem?_toList]
        cases fs[i]? <;> rfl
      have hv' : v.cells = z.toArray := by rw [← hv]
      rw [cond_true] at hb
      rw [← hplace] at hf
      simp only [Instr.build, Sem.run_bind, zeroValue_run hz, Result.andThen_ok, run_underlying hu, hfs, hv', hf, Sem.run_pure]
  · rename_i n e z hu hz
    obtain ⟨v, hz, hv⟩ := zcells_some hz
    cases ha : hasInfo P e with
    | false => rw [ha] at hb; cases hb
    | true =>
      rw [ha] at hb
      have hf := fillL_sound _ _ _ hb
      have hv' : v.cells = z.toArray := by rw [← hv]
      simp only [Instr.build, Sem.run_bind, zeroValue_run hz, Result.andThen_ok, run_underlying hu, hasInfo_run ha, hv', hf, Sem.run_pure]
  · cases hb
theorem elemT_sound {t e : TypeId} (h : elemT P t = some e) : P.underlying t = some (.slice e) := by
  unfold elemT at h
  split at h
  · rename_i e' hu; simp only [Option.some.injEq] at h; subst h; exact hu
  · cases h
/-- A row of zero values. -/
theorem zeroRow {z : Value} {n : Nat} : ((Array.range (n * z.cells.size)).map (z.cells[· % z.cells.size]!)) = (zrow n z.cells.toList).toArray := by
  have := zeroCells_toList z.cells n
  unfold Builtin.zeroCells at this
  apply Array.ext'
  rw [this]
theorem buildSlice_sound {t e : TypeId} {n : Nat} {ps : Array (Nat × Value)} {z cs : List Value} (ht : elemT P t = some e) (hz : zcells P e = some z) (hn : n * sizeT P e ≤ 16777216) (hl : z.length = sizeT P e)
    (hb : fillL (fun i => some (i * sizeT P e, sizeT P e)) (zrow n z) ps.toList = some cs) (w : World) :
    (Instr.buildSlice t n ps).run P w = .ok (.slice (some (newA w.heap)) n n) (wHeap w (hnew w.heap cs e)) := by
  obtain ⟨v, hv, hvc⟩ := zcells_some hz
  obtain ⟨i, hi, hiz⟩ := info_of_zero hv
  have hs : (sizeOf e).run P w = .ok (sizeT P e) w := by simp [sizeOf, run_typeInfo hi, sizeT, hi]
  have hvs : v.cells.size = sizeT P e := by rw [← hl, ← hvc]; simp
  have hf := fillL_sound _ _ _ hb
  have hrow : ((Array.range (n * sizeT P e)).map (fun i => (if n * sizeT P e = 0 then #[] else v.cells)[i % (if n * sizeT P e = 0 then #[] else v.cells).size]!)) = (zrow n z).toArray := by
    by_cases h0 : n * sizeT P e = 0
    · have : (zrow n z).length = 0 := by simp [zrow, hl, h0]
      rw [List.length_eq_zero_iff.1 this]
      simp [h0]
    · simp only [if_neg h0]
      rw [← hvs, zeroRow, hvc]
  have hn' : ¬ (n * sizeT P e > 2 ^ 24) := by omega
  simp only [Instr.buildSlice, Sem.run_bind, run_underlying (elemT_sound ht), Result.andThen_ok, hs, if_neg hn']
  by_cases h0 : n * sizeT P e = 0
  · simp only [if_pos h0] at hrow
    simp only [if_pos h0, Sem.run_bind, Sem.run_pure, Result.andThen_ok, hrow, hf, run_newRow]
  · simp only [if_neg h0] at hrow
    simp only [if_neg h0, Sem.run_bind, Sem.run_pure, Result.andThen_ok, zeroValue_run hv, hrow, hf, run_newRow]

/-! ### Rows that are read, appended, copied -/
theorem row_cells {h : Heap} {a : Addr} {vs : List Value} (hr : Row h a vs) : ∀ j v, vs[j]? = some v → hcell h (a.add j) = some v := fun j v hv => by
  rw [← adr_eq]; exact hr j v hv
theorem run_first {size n cap len : Nat} {b : Option Addr} {vs : List Value} {w : World} (hs : SRow w.heap b (n * size) vs) : (Builtin.firstCells size n (.slice b len cap)).run P w = .ok vs.toArray w := by
  obtain ⟨hl, hr⟩ := hs
  cases b with
  | none =>
    rcases hr with rfl | ⟨_, h, _⟩
    · simp [Builtin.firstCells]
    · cases h
  | some b =>
    refine run_firstCells_some w size n b len cap vs hl fun j v hv => ?_
    rcases hr with rfl | ⟨_, h, hr⟩
    · cases hv
    · cases h; exact row_cells hr j v hv
theorem storeS {a : Addr} {m : Nat} {xs : List Value} {w : World} (h1 : oneCell xs = true) (hw : WrS w.heap (some a) m xs) :
    (storeCells (a.add m) xs).run P w = .ok () (wHeap w (hsetL w.heap a m xs)) := by
  rcases hw with rfl | ⟨b, hb, hw⟩
  · rfl
  · cases hb
    have := run_storeCells (P := P) (a := adr a m) xs 0 w h1 fun j hj => by rw [adr_adr, Nat.zero_add]; exact hw j hj
    rw [← adr_eq, this, hsetL_adr, Nat.add_zero]
set_option maxHeartbeats 1000000 in
theorem appK_sound {t e u ty : TypeId} {b : Option Addr} {sl sc xl : Nat} {xs : List Value} {x : Value} {K : WK} {w : World} (ht : elemT P t = some e) (hu' : (∃ e', P.underlying u = some (.slice e')) ∨ P.underlying u = some .string)
    (hlen : ∀ w, (Builtin.lenOf x).run P w = .ok xl w) (hx : ∀ w' : World, w'.heap = w.heap → (Builtin.firstCells (sizeT P e) xl x).run P w' = .ok xs.toArray w')
    (hi : ∃ i, P.info? e = some i)
    (h : appK P e b sl sc xl xs K w.heap) : Wv P (Builtin.append_ #[t, u] ty #[.slice b sl sc, x]) K w := by
  obtain ⟨i, hi⟩ := hi
  have hsz : sizeT P e = i.size := by simp [sizeT, hi]
  have hby : bytesT P e = i.bytes := by simp [bytesT, hi]
  by_cases hc : sl + xl ≤ sc
  · obtain ⟨hw, h1, hk⟩ := h.1 hc
    refine ⟨_, _, ?_, wHeap_tame w (hsetS w.heap b (sl * sizeT P e) xs), hk⟩
    cases b with
    | none =>
      have hxs := hx w rfl
      rw [hsz] at hxs
      rcases hu' with ⟨e', hd⟩ | hd <;> (simp [Builtin.append_, run_underlying (elemT_sound ht), run_underlying hd, sizeOf, run_typeInfo hi, hlen, hc, hxs]; rfl)
    | some a =>
      have hst := storeS (P := P) h1 hw
      have hxs := hx w rfl
      rw [hsz] at hst hxs
      rcases hu' with ⟨e', hd⟩ | hd <;> (simp [Builtin.append_, run_underlying (elemT_sound ht), run_underlying hd, sizeOf, run_typeInfo hi, hlen, hc, hxs, hst, hsetS, hsz])
  · obtain ⟨old, z, ho, hz, hb0, h48, hk⟩ := h.2 (by omega)
    obtain ⟨v, hv, hvc⟩ := zcells_some hz
    obtain ⟨i', hi', hiz⟩ := info_of_zero hv
    rw [hi] at hi'; cases hi'
    rw [hby] at hb0 h48
    have hb0' : ¬ i.bytes = 0 := by omega
    have h48' : ¬ (281474976710656 < Builtin.nextslicecap (sl + xl) sc * i.bytes) := by omega
    have hxs := hx w.drew rfl
    have hol : (Builtin.firstCells (sizeT P e) sl (.slice b sl sc)).run P w.drew = .ok old.toArray w.drew := run_first ho
    rw [hsz] at hxs hol
    have hge : sl + xl ≤ (Question.appendCap (sl + xl) sc e).cut (w.tape w.drawn (.appendCap (sl + xl) sc e)) := Nat.le_add_right _ _
    refine ⟨_, wHeap w.drew (hnew w.heap (old ++ xs ++ zrow ((Question.appendCap (sl + xl) sc e).cut (w.tape w.drawn (.appendCap (sl + xl) sc e)) - (sl + xl)) z) e), ?_, ⟨rfl, rfl, rfl⟩, hk _ hge⟩
    have hzc : (Builtin.zeroCells v.cells ((Question.appendCap (sl + xl) sc e).cut (w.tape w.drawn (.appendCap (sl + xl) sc e)) - (sl + xl))) = (zrow ((Question.appendCap (sl + xl) sc e).cut (w.tape w.drawn (.appendCap (sl + xl) sc e)) - (sl + xl)) z).toArray := by
      apply Array.ext'; rw [zeroCells_toList, hvc]
    rcases hu' with ⟨e', hd⟩ | hd <;> (simp [Builtin.append_, run_underlying (elemT_sound ht), run_underlying hd, sizeOf, run_typeInfo hi, hlen, hc, hb0', h48', Question.forced, hxs, hol, zeroValue_run hv, run_newRow, hzc, newA]; rfl)

theorem isSome_hasInfo {t : TypeId} {K : Prop} (h : okT P t K) : ∃ i, P.info? t = some i := by
  unfold okT at h
  cases hi : P.info? t with
  | none => rw [hi] at h; exact h.elim
  | some i => exact ⟨i, rfl⟩
theorem hasInfo_size {t : TypeId} (h : sizeT P t ≠ 0) : ∃ i, P.info? t = some i := by
  cases hi : P.info? t with
  | none => exact absurd (by simp [sizeT, hi]) h
  | some i => exact ⟨i, rfl⟩
theorem bytes_first {size n : Nat} {x : ByteArray} {w : World} : (Builtin.firstCells size n (.string x)).run P w = .ok ((byteVals x).take n).toArray w := by
  simp only [Builtin.firstCells, Sem.run_pure]
  congr 1
  apply Array.ext'
  simp [byteVals, ByteArray.data_extract, List.extract_eq_take_drop, ← List.map_take]
theorem wAppend_sound {t u ty : TypeId} {s x : Value} {K : WK} {w : World} (hu' : (∃ e', P.underlying u = some (.slice e')) ∨ P.underlying u = some .string) (h : wAppend P t s x K w.heap) :
    Wv P (Builtin.append_ #[t, u] ty #[s, x]) K w := by
  unfold wAppend at h
  split at h
  · rename_i e b sl sc a xl xc ht
    have hi := isSome_hasInfo h
    obtain ⟨⟨xs, hxs, hk⟩, hz⟩ := okT_sound h
    exact appK_sound ht hu' (fun w => rfl) (fun w' hw => run_first (by rw [hw]; exact hxs)) hi hk
  · rename_i e b sl sc x ht
    cases hb : Nat.beq (sizeT P e) 1 with
    | false => rw [hb] at h; exact h.elim
    | true =>
      rw [hb] at h
      have h1 := Nat.eq_of_beq_eq_true hb
      have hl : (byteVals x).length = x.size := by simp [byteVals]
      refine appK_sound ht hu' (fun w => rfl) (fun w' _ => ?_) (hasInfo_size (by omega)) h
      rw [bytes_first, List.take_of_length_le (by omega)]
  · exact h.elim
theorem oneCell_take : ∀ (xs : List Value) (n : Nat), oneCell xs = true → oneCell (xs.take n) = true
  | [], n, _ => by simp [oneCell]
  | x :: xs, 0, _ => by simp [oneCell]
  | x :: xs, n + 1, h => by
    simp only [oneCell, Bool.and_eq_true, List.take_succ_cons] at h ⊢
    exact ⟨h.1, oneCell_take xs n h.2⟩
theorem oneCell_bytes (x : ByteArray) : oneCell (byteVals x) = true := by
  have : ∀ l : List UInt8, oneCell (l.map fun b => .int .u8 (b.toNat : Int)) = true := by
    intro l
    induction l with
    | nil => rfl
    | cons b l ih => simp [oneCell, ih]
  exact this _
theorem copyS {b : Option Addr} {xs : List Value} {w : World} (h1 : oneCell xs = true) (hw : WrS w.heap b 0 xs) {β : Type} (k : Sem β) :
    ((match b with | some a => (storeCells a xs >>= fun _ => k) | none => k)).run P w = k.run P (wHeap w (hsetS w.heap b 0 xs)) := by
  cases b with
  | none => rfl
  | some a =>
    have := storeS (P := P) (m := 0) h1 hw
    simp only [Addr.add, if_pos] at this
    simp [this, hsetS]
theorem wCopy_sound {t u ty : TypeId} {d s : Value} {K : WK} {w : World} (h : wCopy P t d s K w.heap) : Wv P (Builtin.copy_ #[t, u] ty #[d, s]) K w := by
  unfold wCopy at h
  split at h
  · rename_i e b dl dc a sl sc ht
    obtain ⟨⟨xs, hxs, hw, h1, hk⟩, hz⟩ := okT_sound h
    refine ⟨_, _, ?_, wHeap_tame w (hsetS w.heap b 0 xs), hk⟩
    have hf := run_first (P := P) (len := sl) (cap := sc) hxs
    cases b with
    | none => simp [Builtin.copy_, run_underlying (elemT_sound ht), Builtin.lenOf, hz, hf, goInt]; rfl
    | some c =>
      have hst := storeS (P := P) (m := 0) h1 hw
      simp only [Addr.add, if_pos] at hst
      simp [Builtin.copy_, run_underlying (elemT_sound ht), Builtin.lenOf, hz, hf, goInt, hst, hsetS]
  · rename_i e b dl dc x ht
    cases hb : Nat.beq (sizeT P e) 1 with
    | false => rw [hb] at h; exact h.elim
    | true =>
      rw [hb] at h
      have h1 := Nat.eq_of_beq_eq_true hb
      obtain ⟨i, hi⟩ := hasInfo_size (P := P) (t := e) (by omega)
      have hz : (sizeOf e).run P w = .ok (sizeT P e) w := by simp [sizeOf, run_typeInfo hi, sizeT, hi]
      obtain ⟨hw, hk⟩ := h
      have hl : (byteVals x).length = x.size := by simp [byteVals]
      have he : (byteVals x).take (Nat.min x.size dl) = (byteVals x).take dl := by
        by_cases hx : x.size ≤ dl
        · rw [show Nat.min x.size dl = x.size from Nat.min_eq_left hx, List.take_of_length_le (by omega), List.take_of_length_le (by omega)]
        · rw [show Nat.min x.size dl = dl from Nat.min_eq_right (by omega)]
      have hf : (Builtin.firstCells (sizeT P e) (Nat.min x.size dl) (.string x)).run P w = .ok ((byteVals x).take dl).toArray w := by
        rw [bytes_first, he]
      refine ⟨_, _, ?_, wHeap_tame w (hsetS w.heap b 0 ((byteVals x).take dl)), hk⟩
      cases b with
      | none => simp [Builtin.copy_, run_underlying (elemT_sound ht), Builtin.lenOf, hz, hf, goInt]; rfl
      | some c =>
        have hst := storeS (P := P) (m := 0) (oneCell_take _ dl (oneCell_bytes x)) hw
        simp only [Addr.add, if_pos] at hst
        simp [Builtin.copy_, run_underlying (elemT_sound ht), Builtin.lenOf, hz, hf, goInt, hst, hsetS]
  · exact h.elim

/-! ### Maps that are written -/
theorem putE_eq (k v : Value) (clock : Nat) : ∀ (es : List MapEntry), (match es.findIdx? (fun e => sameKey k e.key) with
    | some i => (es.modify i (fun e => { e with key := k, val := v }), clock)
    | none => (es ++ [{ key := k, val := v, born := clock }], clock + 1)) = putE k v clock es
  | [] => rfl
  | e :: es => by
    have ih := putE_eq k v clock es
    simp only [putE, List.findIdx?_cons]
    cases hk : sameKey k e.key with
    | true => simp [List.modify]
    | false =>
      simp only [Bool.false_eq_true, if_false]
      rw [← ih]
      cases hf : es.findIdx? (fun e => sameKey k e.key) with
      | none => simp
      | some i => simp [List.modify]
theorem findNow_idx {d : TypeDesc} {c : CK} (hd : KeyDesc d c) (x : c.den) : ∀ (es : List MapEntry) (i : Nat), keysOf c es →
    Instr.findNow d (c.enc x) es i = some (match es.findIdx? (fun e => sameKey (c.enc x) e.key) with
      | some j => (es[j]?).map fun e => (i + j, e.val)
      | none => none)
  | [], i, _ => rfl
  | e :: es, i, h => by
    obtain ⟨y, hy⟩ := h e (by simp)
    have hs := sameNow_key hd x y
    rw [← hy] at hs
    have ih := findNow_idx hd x es (i + 1) fun e' he' => h e' (by simp [he'])
    simp only [Instr.findNow, List.findIdx?_cons, hs]
    cases hb : sameKey (c.enc x) e.key with
    | true => simp
    | false =>
      simp only [Bool.false_eq_true, if_false]
      rw [ih]
      cases hf : es.findIdx? (fun e => sameKey (c.enc x) e.key) with
      | none => simp
      | some j => simp [Nat.add_assoc, Nat.add_comm 1 j]
theorem bytes_eq_of_beq {a b : ByteArray} (h : (a == b) = true) : a = b := by
  cases a with | mk a => cases b with | mk b =>
  have h : (a == b) = true := h
  rw [eq_of_beq h]
theorem bytes_beq_self (a : ByteArray) : (a == a) = true := by
  cases a with | mk a =>
  exact beq_self_eq_true a
theorem sameBits_key {d : TypeDesc} {c : CK} (hd : KeyDesc d c) (x y : c.den) (h : sameKey (c.enc x) (c.enc y) = true) : Instr.sameBits 10000 (c.enc y) (c.enc x) = true := by
  rcases hd with ⟨i, rfl, rfl⟩ | ⟨rfl, rfl⟩ | ⟨rfl, rfl⟩
  · have h : x = y := eq_of_beq (α := Int) h
    subst h
    have : ∀ n : Int, (i == i && n == n) = true := fun n => by simp
    exact this x
  · have h : x = y := bytes_eq_of_beq h
    subst h
    exact bytes_beq_self x
  · have h : x = y := eq_of_beq (α := Bool) h
    subst h
    exact beq_self_eq_true (α := Bool) x
theorem run_setObj {w : World} {r : Nat} {es : Array MapEntry} {clock : Nat} {o : Obj} (h : w.heap[r]? = some (.map es clock)) : (setObj r o).run P w = .ok () (wHeap w (w.heap.setIfInBounds r o)) := by
  simp only [setObj, Sem.run, h]; rfl
theorem mapPut_run {t k e : TypeId} {d : TypeDesc} {c : CK} (hu : P.underlying t = some (.map k e)) (hk : P.underlying k = some d) (hd : KeyDesc d c) {r : Nat} {x : c.den} {v : Value} {w : World} (hm : IsMap c w.heap r) :
    (Instr.mapUpdate t (.map (some r)) (c.enc x) v).run P w = .ok () (wHeap w (mput w.heap r (c.enc x) v)) := by
  obtain ⟨es, clock, hb, hks⟩ := hm
  obtain ⟨q, h1, h2, h3⟩ := findKey_ok (P := P) hd hk x hks w
  rw [findNow_idx hd x es.toList 0 hks] at h2
  have hput := putE_eq (c.enc x) v clock es.toList
  have hmp : mput w.heap r (c.enc x) v = w.heap.setIfInBounds r (.map (putE (c.enc x) v clock es.toList).1.toArray (putE (c.enc x) v clock es.toList).2) := by
    simp only [mput, hb]
  rw [hmp, ← hput]
  simp only [Instr.mapUpdate, Sem.run_bind, run_underlying hu, Result.andThen_ok, run_getMap hb, checkKey10000 hd hk, h1]
  cases hf : es.toList.findIdx? (fun e => sameKey (c.enc x) e.key) with
  | none =>
    rw [hf] at h2
    simp only [Option.some.injEq] at h2
    subst h2
    simp only [run_setObj hb]
    congr 4
    apply Array.ext'; simp
  | some i =>
    rw [hf] at h2
    simp only [Option.some.injEq] at h2
    obtain ⟨hi, hp, _⟩ := List.findIdx?_eq_some_iff_getElem.1 hf
    have he : es.toList[i]? = some es.toList[i] := List.getElem?_eq_getElem hi
    rw [he] at h2
    simp only [Option.map_some, Nat.zero_add] at h2
    subst h2
    have he' : es[i]? = some es.toList[i] := by rw [← Array.getElem?_toList]; exact he
    obtain ⟨y, hy⟩ := hks es.toList[i] (List.getElem_mem hi)
    have hsb : Instr.sameBits 10000 (es.toList[i]).key (c.enc x) = true := by
      rw [hy] at hp ⊢; exact sameBits_key hd x y hp
    simp only [he', Option.map_some, Option.getD_some, Instr.keyThatStays, hsb, if_true, Sem.run_bind, Sem.run_pure, Result.andThen_ok, run_setObj hb]
    congr 4
    apply Array.ext'; simp
theorem wMapPut_sound {t : TypeId} {m k v : Value} {K : WK} {w : World} (h : wMapPut P t m k v K w.heap) : Wu P (Instr.mapUpdate t m k v) K w := by
  unfold wMapPut at h
  split at h
  · rename_i c e m hc
    obtain ⟨kt, d, hu, hk, hd⟩ := keyCK_sound hc
    obtain ⟨kx, rfl, r, rfl, hm, hK⟩ := CK.dec_sound h
    exact ⟨_, mapPut_run hu hk hd hm, wHeap_tame _ _, hK⟩
  · exact h.elim
theorem dropE_eq (k : Value) : ∀ (es : List MapEntry), (match es.findIdx? (fun e => sameKey k e.key) with
    | some i => es.eraseIdx i
    | none => es) = dropE k es
  | [] => rfl
  | e :: es => by
    have ih := dropE_eq k es
    simp only [dropE, List.findIdx?_cons]
    cases hk : sameKey k e.key with
    | true => simp
    | false =>
      simp only [Bool.false_eq_true, if_false]
      rw [← ih]
      cases hf : es.findIdx? (fun e => sameKey k e.key) <;> simp
theorem mapDrop_run {t k e ty : TypeId} {ts : Array TypeId} {d : TypeDesc} {c : CK} (ht : ts[0]? = some t) (hu : P.underlying t = some (.map k e)) (hk : P.underlying k = some d) (hd : KeyDesc d c) {r : Nat} {x : c.den} {w : World} (hm : IsMap c w.heap r) :
    (Builtin.delete_ ts ty #[.map (some r), c.enc x]).run P w = .ok (.tuple #[]) (wHeap w (mdrop w.heap r (c.enc x))) := by
  obtain ⟨es, clock, hb, hks⟩ := hm
  obtain ⟨q, h1, h2, h3⟩ := findKey_ok (P := P) hd hk x hks w
  rw [findNow_idx hd x es.toList 0 hks] at h2
  have hdrop := dropE_eq (c.enc x) es.toList
  have hmp : mdrop w.heap r (c.enc x) = w.heap.setIfInBounds r (.map (dropE (c.enc x) es.toList).toArray clock) := by
    simp only [mdrop, hb]
  rw [hmp, ← hdrop]
  simp only [Builtin.delete_, ht, List.getElem?_toArray, List.getElem?_cons_zero, List.getElem?_cons_succ, Sem.run_bind, run_underlying hu, Result.andThen_ok, run_getMap hb, checkKey10000 hd hk, h1]
  cases hf : es.toList.findIdx? (fun e => sameKey (c.enc x) e.key) with
  | none =>
    rw [hf] at h2
    simp only [Option.some.injEq] at h2
    subst h2
    simp [run_setObj hb]
  | some i =>
    rw [hf] at h2
    simp only [Option.some.injEq] at h2
    obtain ⟨hi, hp, _⟩ := List.findIdx?_eq_some_iff_getElem.1 hf
    have he : es.toList[i]? = some es.toList[i] := List.getElem?_eq_getElem hi
    rw [he] at h2
    simp only [Option.map_some, Nat.zero_add] at h2
    subst h2
    have hi' : i < es.size := by simpa using hi
    have herase : es.eraseIdxIfInBounds i = (es.toList.eraseIdx i).toArray := by
      apply Array.ext'
      simp [Array.eraseIdxIfInBounds, hi']
    simp [run_setObj hb, herase]
theorem wMapDrop_sound {t ty : TypeId} {ts : Array TypeId} {m k : Value} {K : WK} {w : World} (ht : ts[0]? = some t) (h : wMapDrop P t m k K w.heap) : Wv P (Builtin.delete_ ts ty #[m, k]) K w := by
  unfold wMapDrop at h
  split at h
  · rename_i c e m hc
    obtain ⟨kt, d, hu, hk, hd⟩ := keyCK_sound hc
    obtain ⟨kx, rfl, h⟩ := CK.dec_sound h
    rcases h with ⟨rfl, hK⟩ | ⟨r, rfl, hm, hK⟩
    · refine ⟨_, w, ?_, Tame.refl w, hK⟩
      simp [Builtin.delete_, ht, run_underlying hu, checkKey10000 hd hk]
    · exact ⟨_, _, mapDrop_run ht hu hk hd hm, wHeap_tame _ _, hK⟩
  · exact h.elim

theorem range_run {t k e : TypeId} (hu : P.underlying t = some (.map k e)) {m : Option Nat} {clock : Nat} {w : World} (hm : m = none ∧ clock = 0 ∨ ∃ r es, m = some r ∧ w.heap[r]? = some (.map es clock)) :
    (Instr.range t (.map m)).run P w = .ok (.pointer (some (newA w.heap))) (wHeap w (w.heap.push (.mapIter m clock #[] clock))) := by
  rcases hm with ⟨rfl, rfl⟩ | ⟨r, es, rfl, hb⟩
  · simp only [Instr.range, Sem.run_bind, run_underlying hu, Result.andThen_ok, Sem.run_pure, run_newObj, newA]
  · simp only [Instr.range, Sem.run_bind, run_underlying hu, Result.andThen_ok, Sem.run_pure, run_getMap hb, run_newObj, newA]
theorem run_getIter {w : World} {i : Nat} {m : Option Nat} {since : Nat} {seen : Array Nat} {last : Nat} (h : w.heap[i]? = some (.mapIter m since seen last)) : (getObj i).run P w = .ok (.mapIter m since seen last) w := by
  simp only [getObj, Sem.run, h]
theorem run_setIter {w : World} {i : Nat} {m : Option Nat} {since : Nat} {seen : Array Nat} {last : Nat} {o : Obj} (h : w.heap[i]? = some (.mapIter m since seen last)) : (setObj i o).run P w = .ok () (wHeap w (w.heap.setIfInBounds i o)) := by
  simp only [setObj, Sem.run, h]; rfl
theorem choose_mapNext (n : Nat) (hn : 0 < n) (w : World) : ∃ k w', k < n ∧ (choose (.mapNext n)).run P w = .ok k w' ∧ Tame w w' ∧ w'.heap = w.heap := by
  unfold choose
  simp only [Sem.run]
  by_cases h : (Question.mapNext n).forced = true
  · exact ⟨0, w, hn, by rw [if_pos h], Tame.refl w, rfl⟩
  · refine ⟨(Question.mapNext n).cut (w.tape w.drawn (.mapNext n)), { w with drawn := w.drawn + 1 }, Nat.mod_lt _ hn, by rw [if_neg h], ⟨rfl, rfl, rfl⟩, rfl⟩
theorem wNext_sound {it : Value} {t : TypeId} {K : WK} {w : World} (h : wNext it K w.heap) : Wv P (Instr.next it false t) K w := by
  unfold wNext at h
  split at h
  · rename_i a
    obtain ⟨h0, m, since, seen, last, hi, h⟩ := h
    obtain ⟨b, off, spot⟩ := a
    simp only at h0 hi h
    subst h0
    rcases h with ⟨rfl, hK⟩ | ⟨r, es, clock, rfl, hb, hnon, hend, hgo⟩
    · exact ⟨_, w, by simp only [Instr.next, Sem.run_bind, run_getIter hi, Result.andThen_ok, Sem.run_pure], Tame.refl w, hK⟩
    · have hguard : (!seen.isEmpty && !es.isEmpty && es.all (fun e => decide (e.born ≥ last))) = false := by
        rcases hnon with h | h | h <;> simp [h]
      obtain ⟨left, hleft⟩ : ∃ left, left = es.filter fun e => !seen.contains e.born := ⟨_, rfl⟩
      obtain ⟨old, hold⟩ : ∃ old, old = left.filter (·.born < since) := ⟨_, rfl⟩
      obtain ⟨new, hnew⟩ : ∃ new, new = left.filter (·.born ≥ since) := ⟨_, rfl⟩
      obtain ⟨cand, hcand⟩ : ∃ cand : Array (Option MapEntry), cand = (if old.isEmpty then #[none] else #[]) ++ (old ++ new).map some := ⟨_, rfl⟩
      have hpos : 0 < cand.size := by
        rw [hcand]
        by_cases ho : old.isEmpty = true
        · simp [ho]; omega
        · have : old.size ≠ 0 := by simpa using ho
          simp [ho]; omega
      obtain ⟨k, w1, hk, hrun, ht, hh⟩ := choose_mapNext (P := P) cand.size hpos w
      obtain ⟨c, hc⟩ : ∃ c, cand[k]? = some c := ⟨cand[k], Array.getElem?_eq_getElem hk⟩
      have hi1 : w1.heap[b]? = some (.mapIter (some r) since seen last) := by rw [hh]; exact hi
      have hguard' : (!seen.isEmpty && !es.isEmpty && es.all fun x => decide (x.born ≥ last)) = false := hguard
      cases c with
      | none =>
        refine ⟨.tuple #[.bool false], w1, ?_, ht, ?_⟩
        · simp only [Instr.next, Sem.run_bind, run_getIter hi, Result.andThen_ok, Sem.run_pure, run_getMap hb, hguard', Bool.false_eq_true, if_false, ← hleft, ← hold, ← hnew, ← hcand, hrun, hc]
        · rw [hh]
          have hold0 : old.isEmpty = true := by
            have hm : none ∈ cand := Array.mem_of_getElem? hc
            rw [hcand] at hm
            by_cases ho : old.isEmpty = true
            · exact ho
            · simp [ho] at hm
          refine hend fun e he hlt => ?_
          cases hs : seen.contains e.born with
          | true => rfl
          | false =>
            have hmem : e ∈ old := by
              rw [hold, hleft]
              simp only [Array.mem_filter]
              exact ⟨⟨by simpa using he, by rw [hs]; rfl⟩, by simpa using hlt⟩
            rw [Array.isEmpty_iff] at hold0
            rw [hold0] at hmem
            simp at hmem
      | some e =>
        have hmem : e ∈ es ∧ seen.contains e.born = false := by
          have hm : some e ∈ cand := Array.mem_of_getElem? hc
          have hm2 : e ∈ left := by
            rw [hcand] at hm
            rw [Array.mem_append] at hm
            rcases hm with hm | hm
            · split at hm <;> simp at hm
            · simp only [Array.mem_map, Option.some.injEq, exists_eq_right, Array.mem_append] at hm
              rcases hm with hm | hm
              · rw [hold] at hm; exact (Array.mem_filter.1 hm).1
              · rw [hnew] at hm; exact (Array.mem_filter.1 hm).1
          rw [hleft] at hm2
          have := Array.mem_filter.1 hm2
          exact ⟨this.1, by simpa using this.2⟩
        refine ⟨.tuple #[.bool true, e.key, e.val], wHeap w1 (w1.heap.setIfInBounds b (.mapIter (some r) since (seen.push e.born) clock)), ?_, ht.trans (wHeap_tame _ _), ?_⟩
        · simp only [Instr.next, Sem.run_bind, run_getIter hi, Result.andThen_ok, Sem.run_pure, run_getMap hb, hguard', Bool.false_eq_true, if_false, ← hleft, ← hold, ← hnew, ← hcand, hrun, hc, run_setIter hi1]
        · rw [hh]
          exact hgo e (by simpa using hmem.1) hmem.2
  · exact h.elim

theorem wrap64_id {n : Int} (h0 : 0 ≤ n) (h1 : n ≤ 9223372036854775807) : IntKind.i64.wrap n = n := IntWalk.i64_in n ⟨by omega, h1⟩
theorem makeSlice_run {t e : TypeId} {z : List Value} {k k' : IntKind} {l c : Int} {w : World} (ht : elemT P t = some e) (hz : zcells P e = some z) (hzl : z.length = sizeT P e) (h0 : 0 ≤ l) (h1 : l ≤ c) (h2 : c ≤ 9223372036854775807) (h3 : bytesT P e * c ≤ 2 ^ 48) :
    (Instr.makeSlice t (.int k l) (.int k' c)).run P w = .ok (.slice (some (newA w.heap)) l.toNat c.toNat) (wHeap w (hnew w.heap (zrow c.toNat z) e)) := by
  obtain ⟨v, hv, hvc⟩ := zcells_some hz
  obtain ⟨i, hi, hiz⟩ := info_of_zero hv
  have hsz : sizeT P e = i.size := by simp [sizeT, hi]
  have hby : bytesT P e = i.bytes := by simp [bytesT, hi]
  have hvs : v.cells.size = i.size := by rw [← hsz, ← hzl, ← hvc]; simp
  have hl := wrap64_id h0 (by omega)
  have hc := wrap64_id (show 0 ≤ c by omega) h2
  rw [hby] at h3
  have c1 : ¬ (c < 0) := by omega
  have c2 : ¬ (281474976710656 < (i.bytes : Int) * c) := by omega
  have c3 : ¬ (l < 0) := by omega
  have c4 : ¬ (c < l) := by omega
  by_cases hz0 : c.toNat * i.size = 0
  · have hz1 : (zrow c.toNat z).length = 0 := by simp [zrow, hzl, hsz, hz0]
    rw [List.length_eq_zero_iff.1 hz1]
    simp [Instr.makeSlice, run_underlying (elemT_sound ht), asInt, asIntOf, run_typeInfo hi, hl, hc, c1, c2, c3, c4, sizeOf, hz0, run_newRow]
  · have hrow : ((Array.range (c.toNat * i.size)).map (fun j => v.cells[j % v.cells.size]!)) = (zrow c.toNat z).toArray := by
      rw [← hvs, zeroRow, hvc]
    have key : (newRow e ((Array.range (c.toNat * i.size)).map (fun j => v.cells[j % v.cells.size]!))).run P w = .ok (newA w.heap) (wHeap w (hnew w.heap (zrow c.toNat z) e)) := by
      rw [hrow, run_newRow]
    simp [Instr.makeSlice, run_underlying (elemT_sound ht), asInt, asIntOf, run_typeInfo hi, hl, hc, c1, c2, c3, c4, sizeOf, hz0, zeroValue_run hv]
    rw [key]; rfl
theorem Agree.args {N : Nat} {r : Regs} {a : Act} (h : Agree N r a) {os : Array Operand} {vs : List Value} (hv : revals r os.toList = some vs) : os.map a.eval = vs.toArray := by
  rw [← revals_sound h hv]; apply Array.ext'; simp
theorem HC.out {f : FuncId} {args : List Value} {ks : List Kind} {K : WK} {w : World} (h : HC P f args ks (fun x h' => K (retV ks (encs ks x)) h') w.heap) : WOut P (callFunc f args.toArray) K w := by
  rcases h.run w rfl with ⟨h1, h2⟩ | ⟨v, w', h1, ht, x, rfl, hk⟩
  · refine .inr (.inr (.inl ⟨f, args.toArray, h1, h2.mono ?_⟩))
    rintro e w' ⟨ht, x, rfl, hk⟩
    exact ⟨ht, _, rfl, hk⟩
  · exact .inl ⟨_, w', h1, ht, hk⟩
/-- **An operation that may turn the heap.** -/
theorem wOp_sound {o : Oper} {r : Regs} {K : WK} {w : World} {N : Nat} {a : Act} (ha : Agree N r a) (hq : wOp P o r K w.heap) : WOut P (execOp a.eval o) K w := by
  have ev : ∀ {x : Operand} {v : Value}, reval r x = some v → a.eval x = v := fun h => reval_sound ha h
  obtain ⟨dst, op, type, pos, after, guard⟩ := o
  cases op with
  | alloc t =>
    simp only [wOp] at hq
    split at hq
    · rename_i z hz
      obtain ⟨v, hv, hvc⟩ := zcells_some hz
      have he : (Instr.alloc t true (.tuple #[])).run P w = .ok (.pointer (some (newA w.heap))) (wHeap w (hnew w.heap z t)) := by
        simp [Instr.alloc, zeroValue_run hv, newVar, run_newRow, hvc]
      exact Wv.out ⟨_, _, he, wHeap_tame _ _, hq⟩
    · exact hq.elim
  | box t x =>
    simp only [wOp] at hq
    split at hq
    · rename_i v hv
      have he : (Instr.box t v).run P w = .ok (.pointer (some (newA w.heap))) (wHeap w (hnew w.heap v.cells.toList t)) := by
        simp [Instr.box, newVar, run_newRow]
      simp only [execOp, ev hv]
      exact Wv.out ⟨_, _, he, wHeap_tame _ _, hq⟩
    · exact hq.elim
  | build t ps =>
    simp only [wOp] at hq
    split at hq
    · rename_i vs hvs
      split at hq
      · rename_i cs hcs
        have hp : (ps.map fun x => (x.1, a.eval x.2)) = vs.toArray := by
          rw [← partVals_sound ha hvs]; apply Array.ext'; simp
        have he := buildL_sound (ps := vs.toArray) (by simpa using hcs) w
        simp only [execOp]
        rw [show (ps.map fun (i, x) => (i, a.eval x)) = vs.toArray from hp]
        exact Wv.out ⟨_, w, he, Tame.refl w, hq⟩
      · exact hq.elim
    · exact hq.elim
  | buildSlice t n ps =>
    simp only [wOp] at hq
    split at hq
    · rename_i e vs ht hvs
      split at hq
      · rename_i z hz
        cases hb : (Nat.ble (n * sizeT P e) 16777216 && Nat.beq z.length (sizeT P e)) with
        | false => rw [hb] at hq; exact hq.elim
        | true =>
          rw [hb] at hq
          simp only [Bool.and_eq_true] at hb
          simp only [cond_true] at hq
          split at hq
          · rename_i cs hcs
            have hp : (ps.map fun x => (x.1, a.eval x.2)) = vs.toArray := by
              rw [← partVals_sound ha hvs]; apply Array.ext'; simp
            have he := buildSlice_sound (ps := vs.toArray) ht hz (Nat.le_of_ble_eq_true hb.1) (Nat.eq_of_beq_eq_true hb.2) (by simpa using hcs) w
            simp only [execOp]
            rw [show (ps.map fun (i, x) => (i, a.eval x)) = vs.toArray from hp]
            exact Wv.out ⟨_, _, he, wHeap_tame _ _, hq⟩
          · exact hq.elim
      · exact hq.elim
    · exact hq.elim
  | store t x y =>
    simp only [wOp] at hq
    split at hq
    · rename_i b v hb hv
      simp only [execOp, ev hb, ev hv]
      exact Wu.out (wStore_sound hq)
    · exact hq.elim
  | mapUpdate t m k x =>
    simp only [wOp] at hq
    split at hq
    · rename_i mv kv xv hm hk hx
      simp only [execOp, ev hm, ev hk, ev hx]
      exact Wu.out (wMapPut_sound hq)
    · exact hq.elim
  | insert t m k x =>
    simp only [wOp] at hq
    split at hq
    · rename_i mv kv xv hm hk hx
      simp only [execOp, ev hm, ev hk, ev hx]
      exact Wu.out (wMapPut_sound hq)
    · exact hq.elim
  | makeMap t n =>
    simp only [wOp] at hq
    cases n with
    | none => exact Wv.out ⟨_, wHeap w (w.heap.push (.map #[] 0)), by simp [Instr.makeMap]; rfl, wHeap_tame _ _, hq⟩
    | some n =>
      simp only at hq
      split at hq
      · rename_i k i hn ht
        exact Wv.out ⟨_, wHeap w (w.heap.push (.map #[] 0)), by simp [Instr.makeMap, ev hn, run_underlying ht, asInt, asIntOf]; rfl, wHeap_tame _ _, hq⟩
      · exact hq.elim
  | makeSlice t l c =>
    simp only [wOp] at hq
    split at hq
    · rename_i e k l' k' c' ht hl hc
      split at hq
      · rename_i z hz
        cases hb : Nat.beq z.length (sizeT P e) with
        | false => rw [hb] at hq; exact hq.elim
        | true =>
          rw [hb] at hq
          obtain ⟨⟨h0, h1, h2, h3⟩, hq⟩ := hq
          simp only [execOp, ev hl, ev hc]
          exact Wv.out ⟨_, _, makeSlice_run ht hz (Nat.eq_of_beq_eq_true hb) h0 h1 h2 h3, wHeap_tame _ _, hq⟩
      · exact hq.elim
    · exact hq.elim
  | range t x =>
    simp only [wOp] at hq
    split at hq
    · rename_i k e m hu hx
      obtain ⟨clock, hm, hq⟩ := hq
      simp only [execOp, ev hx]
      exact Wv.out ⟨_, _, range_run hu hm, wHeap_tame _ _, hq⟩
    · exact hq.elim
  | next it isS =>
    cases isS with
    | true => simp only [wOp] at hq
    | false =>
      simp only [wOp] at hq
      split at hq
      · rename_i v hv
        simp only [execOp, ev hv]
        exact Wv.out (wNext_sound hq)
      · exact hq.elim
  | call c =>
    simp only [wOp] at hq
    have eb : ∀ {b : Builtin} {vs : List Value}, c.callee = .builtin b → revals r c.args.toList = some vs → ∃ cs : Array Bool, ∀ w, (execOp a.eval ⟨dst, .call c, type, pos, after, guard⟩).run P w =
        (builtin b c.argTypes type cs vs.toArray).run P w := by
      intro b vs hc hvs
      refine ⟨c.args.map fun | .const _ => true | _ => false, fun w => ?_⟩
      simp [execOp, resolve, hc, ha.args hvs, invoke]
      rfl
    have wo : ∀ {s s' : Sem Next}, (∀ w, s.run P w = s'.run P w) → WOut P s' K w → WOut P s K w := by
      intro s s' he h
      unfold WOut at h ⊢
      simp only [he]
      exact h
    split at hq
    · rename_i s x hc hvs
      split at hq
      · rename_i t u hat
        obtain ⟨cs, er⟩ := eb hc hvs
        refine wo er ?_
        have hat' : c.argTypes = #[t, u] := by apply Array.ext'; rw [hat]
        simp only [builtin, hat']
        split at hq
        · rename_i e' hu; exact Wv.out (wAppend_sound (.inl ⟨e', hu⟩) hq)
        · rename_i hu; exact Wv.out (wAppend_sound (.inr hu) hq)
        · exact hq.elim
      · exact hq.elim
    · rename_i s x hc hvs
      split at hq
      · rename_i t u hat
        obtain ⟨cs, er⟩ := eb hc hvs
        refine wo er ?_
        have hat' : c.argTypes = #[t, u] := by apply Array.ext'; rw [hat]
        simp only [builtin, hat']
        exact Wv.out (wCopy_sound hq)
      · exact hq.elim
    · rename_i m k hc hvs
      split at hq
      · rename_i t u hat
        obtain ⟨cs, er⟩ := eb hc hvs
        refine wo er ?_
        simp only [builtin]
        exact Wv.out (wMapDrop_sound (by rw [← Array.getElem?_toList, hat]; rfl) hq)
      · exact hq.elim
    · rename_i f args hc hvs
      unfold wCall at hq
      split at hq
      · exact hq.elim
      · rename_i ks hks
        split at hq
        · rename_i f
          refine wo (s' := callFunc f args.toArray) (fun w => ?_) hq.out
          simp [execOp, resolve, hc, ha.args hvs, Act.eval, Deferred.ofValue, invoke]
        · rename_i f hf
          split at hq
          · rename_i fv hfv
            rcases hq.run with ⟨g, first, cap, rfl, hh⟩ | ⟨l, rfl, hh⟩
            rotate_left
            · obtain ⟨fn, tmps, assign, body, h1, h2⟩ := hh.run w rfl
              refine .inr (.inr (.inr ⟨l, fn, tmps, assign, body, ?_, fun c cs => ?_⟩))
              · rw [← h1]
                simp [execOp, resolve, hc, ha.args hvs, ev hfv, Deferred.ofValue, invoke]
              · obtain ⟨b, w', ht, hk, hs⟩ := h2 c cs
                refine ⟨b, w', ht, ?_, hs⟩
                obtain ⟨t, e, hk⟩ := decs_sound hk
                have hl : ks.length = 1 := by rw [← encs_length ks t, ← e]; rfl
                match ks, hl, t, e, hk with
                | [k], _, t, e, hk => rw [← e] at hk; exact hk
            refine wo (s' := callFunc g (first.toList ++ args ++ cap.toList).toArray) (fun w => ?_) hh.out
            have e : first ++ args.toArray ++ cap = (first.toList ++ args ++ cap.toList).toArray := by apply Array.ext'; simp
            rw [← e]
            simp [execOp, resolve, hc, ha.args hvs, ev hfv, Deferred.ofValue, invoke]
          · exact hq.elim
    · exact hq.elim
  | _ => simp only [wOp] at hq
end Go.Lift
