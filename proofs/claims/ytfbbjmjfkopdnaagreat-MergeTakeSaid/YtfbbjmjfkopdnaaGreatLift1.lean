/- A part of the proof that the named laws of this program answer true, whatever the input. -/
import Derived.Test.YtfbbjmjfkopdnaaGreatLift0
import Derived.Laws.Append
import Derived.Laws.Cover3
import Derived.Laws.StructEq
import Derived.Laws.BytesString
/-
  Soundness of the operations that only read or reckon: what rOp asks makes the model's operation yield that value, in every heap that holds what it hangs on.
-/
namespace Go.Lift
open Go
def SOk (S : Option (Heap → Prop)) (h : Heap) : Prop := match S with | none => True | some f => f h
def Yv (P : Program) (s : Sem Value) (K : RK) (h : Heap) : Prop := ∃ v S, K v S ∧ SOk S h ∧ ∀ w : World, SOk S w.heap → s.run P w = .ok v w
theorem Yv.of_pure {P : Program} {s : Sem Value} {K : RK} {h : Heap} {v : Value} (hk : K v none) (hr : ∀ w : World, s.run P w = .ok v w) : Yv P s K h :=
  ⟨v, none, hk, trivial, fun w _ => hr w⟩
variable {P : Program}
theorem fieldOff_sound {t : TypeId} {f : Nat} {u : TypeId} {off : Nat} (h : fieldOff P t f = some (u, off)) :
    ∃ fs g, P.underlying t = some (.struct fs) ∧ fs[f]? = some g ∧ g.type = u ∧ g.offset = off := by
  unfold fieldOff at h
  split at h
  · rename_i fs hu
    split at h
    · rename_i g hg
      simp only [Option.some.injEq, Prod.mk.injEq] at h
      exact ⟨fs, g, hu, by simpa using hg, h.1, h.2⟩
    · cases h
  · cases h
theorem sizeOf_run {t : TypeId} (h : Nat.beq (sizeT P t) 0 = false) (w : World) : (sizeOf t).run P w = .ok (sizeT P t) w := by
  unfold sizeT at h ⊢
  cases hi : P.info? t with
  | none => rw [hi] at h; cases h
  | some i => simp [sizeOf, run_typeInfo hi]
theorem fieldAddr_sound {t : TypeId} {f : Nat} {u : TypeId} {off : Nat} {a : Addr} {K : RK} {h : Heap} (hf : fieldOff P t f = some (u, off))
    (hk : bif Nat.beq (sizeT P u) 0 then False else K (.pointer (some (adr a off))) none) : Yv P (Instr.fieldAt t (.pointer (some a)) f) K h := by
  obtain ⟨fs, g, hu, hg, rfl, rfl⟩ := fieldOff_sound hf
  cases hz : Nat.beq (sizeT P g.type) 0 with
  | true => rw [hz] at hk; exact hk.elim
  | false =>
    rw [hz] at hk
    refine .of_pure hk fun w => ?_
    have hne : sizeT P g.type ≠ 0 := fun e => by rw [e] at hz; cases hz
    simp only [Instr.fieldAt, Sem.run_bind, run_underlying hu, Result.andThen_ok, hg, Instr.sureAddr, Sem.run_pure, fieldPlace, sizeOf_run hz]
    simp [hne, adr_eq]
theorem aggT_sound {t : TypeId} {i : TypeInfo} (_ : P.info? t = some i) (hu : ∃ d, P.underlying t = some d) (w : World) : (isAgg t).run P w = .ok (aggT P t) w := by
  obtain ⟨d, hd⟩ := hu
  simp only [isAgg, Sem.run_bind, run_underlying hd, Result.andThen_ok]
  unfold aggT; rw [hd]
  cases d <;> rfl
theorem shiftV_sound {op : BinOp} {k k' : IntKind} {a b : Int} {K : RK} {h : Heap} (hs : op = .shl ∨ op = .shr) (hv : shiftV op k a b K) : Yv P (Op.shift op k a k' b) K h := by
  rcases hs with rfl | rfl
  · obtain ⟨h0, hk⟩ := hv
    refine .of_pure hk fun w => ?_
    simp [Op.shift, Int.not_lt.2 h0]
  · obtain ⟨h0, hk⟩ := hv
    refine .of_pure hk fun w => ?_
    simp [Op.shift, Int.not_lt.2 h0]
theorem intV_sound {op : BinOp} {k : IntKind} {a b : Int} {K : RK} {h : Heap} (hv : intV op k a b K) (hs : op ≠ .shl ∧ op ≠ .shr) : Yv P (binOp op 0 (.int k a) (.int k b)) K h := by
  cases op <;> simp only [intV] at hv
  case quo => obtain ⟨h0, hk⟩ := hv; exact .of_pure hk fun w => by simp [binOp, Op.intDiv, h0]
  case rem => obtain ⟨h0, hk⟩ := hv; exact .of_pure hk fun w => by simp [binOp, Op.intDiv, h0]
  all_goals exact .of_pure hv fun w => by simp [binOp, Op.intArith, Op.intBits, Op.intCmp]
theorem binOp_int_type (op : BinOp) (t : TypeId) (k k' : IntKind) (a b : Int) : binOp op t (.int k a) (.int k' b) = binOp op 0 (.int k a) (.int k' b) := by
  cases op <;> rfl
theorem strV_sound {op : BinOp} {t : TypeId} {a b : ByteArray} {K : RK} {h : Heap} (hv : strV op a b K) : Yv P (binOp op t (.string a) (.string b)) K h := by
  cases op <;> simp only [strV] at hv
  case add =>
    obtain ⟨h0, hk⟩ := hv
    refine .of_pure hk fun w => ?_
    have : ¬ (((a.size + b.size : Nat) : Int) > IntKind.i64.max) := by
      have : IntKind.i64.max = 9223372036854775807 := by decide
      omega
    simp only [binOp, Op.stringOp, if_neg this, Sem.run_pure]
  all_goals exact .of_pure hv fun w => by simp [binOp, Op.stringOp]
theorem equal_of_in {t : TypeId} {x y : Value} {b : Bool} {w : World} (h : ∀ d, (Op.equalIn (d + 1) t x y).run P w = .ok b w) : (Op.equal t x y).run P w = .ok b w := h 9999
theorem equal_ptr_none {t : TypeId} {e : TypeId} (hu : P.underlying t = some (.pointer e)) (a : Option Addr) (w : World) : (Op.equal t (.pointer a) (.pointer none)).run P w = .ok a.isNone w := by
  refine equal_of_in fun d => ?_
  simp only [Op.equalIn, Sem.run_bind, run_underlying hu, Result.andThen_ok]
  cases a <;> rfl
theorem eqGuard_ok (op : BinOp) (t : TypeId) (x y : Operand) (a b : Value) (h : ∀ c d, a = .agg c → b = .agg d → False) (hi : a = .nilIface → b = .nilIface → False) (w : World) :
    (eqGuard op t x y a b).run P w = .ok () w := by
  cases op
  case eql => cases a <;> cases b <;> first | rfl | exact (hi rfl rfl).elim | exact (h _ _ rfl rfl).elim
  case neq => cases a <;> cases b <;> first | rfl | exact (hi rfl rfl).elim | exact (h _ _ rfl rfl).elim
  all_goals rfl
theorem binOp_eql (t : TypeId) (x y : Value) (hx : ∀ k a, x ≠ .int k a) (hs : ∀ s, x ≠ .string s) (hf : ∀ k a, x ≠ .float k a) (hc : ∀ k a b, x ≠ .complex k a b) : binOp .eql t x y = (do pure (.bool (← Op.equal t x y))) := by
  cases x <;> first | rfl | exact absurd rfl (hx _ _) | exact absurd rfl (hs _) | exact absurd rfl (hf _ _) | exact absurd rfl (hc _ _ _)
theorem binOp_neq (t : TypeId) (x y : Value) (hx : ∀ k a, x ≠ .int k a) (hs : ∀ s, x ≠ .string s) (hf : ∀ k a, x ≠ .float k a) (hc : ∀ k a b, x ≠ .complex k a b) : binOp .neq t x y = (do pure (.bool (!(← Op.equal t x y)))) := by
  cases x <;> first | rfl | exact absurd rfl (hx _ _) | exact absurd rfl (hs _) | exact absurd rfl (hf _ _) | exact absurd rfl (hc _ _ _)
theorem eq_of_equal {t : TypeId} {neg : Bool} {x y : Value} {b : Bool} {w : World} (he : (Op.equal t x y).run P w = .ok b w)
    (hx : ∀ k a, x ≠ .int k a) (hs : ∀ s, x ≠ .string s) (hf : ∀ k a, x ≠ .float k a) (hc : ∀ k a b, x ≠ .complex k a b) :
    (binOp (bif neg then .neq else .eql) t x y).run P w = .ok (.bool (bif neg then !b else b)) w := by
  cases neg
  · simp only [cond_false, binOp_eql t x y hx hs hf hc, Sem.run_bind, he, Result.andThen_ok, Sem.run_pure]
  · simp only [cond_true, binOp_neq t x y hx hs hf hc, Sem.run_bind, he, Result.andThen_ok, Sem.run_pure]
theorem nilV_sound {t : TypeId} {neg : Bool} {x y : Value} {K : RK} {h : Heap} (hv : nilV P t neg x y K) :
    (∀ c d, x = .agg c → y = .agg d → False) ∧ (x = .nilIface → y = .nilIface → False) ∧ Yv P (binOp (bif neg then .neq else .eql) t x y) K h := by
  unfold nilV at hv
  split at hv
  · rename_i e a hu
    refine ⟨nofun, nofun, .of_pure hv fun w => ?_⟩
    exact eq_of_equal (equal_ptr_none hu a w) nofun nofun nofun nofun
  · rename_i k e a hu
    refine ⟨nofun, nofun, .of_pure hv fun w => ?_⟩
    refine eq_of_equal ?_ nofun nofun nofun nofun
    refine equal_of_in fun d => ?_
    simp only [Op.equalIn, Sem.run_bind, run_underlying hu, Result.andThen_ok]
    cases a <;> rfl
  · rename_i e a _ _ _ _ hu
    refine ⟨nofun, nofun, .of_pure hv fun w => ?_⟩
    refine eq_of_equal ?_ nofun nofun nofun nofun
    refine equal_of_in fun d => ?_
    simp only [Op.equalIn, Sem.run_bind, run_underlying hu, Result.andThen_ok]
    cases a <;> rfl
  · exact hv.elim
theorem sameAddr_plain {w : World} {a b : Addr} (ha : plainPtr w.heap a) (hb : plainPtr w.heap b) : (sameAddr a b).run P w = .ok (a == b) w := by
  obtain ⟨ca, ea, ha, sa⟩ := ha
  obtain ⟨cb, eb, hb, sb⟩ := hb
  by_cases hbl : a.block = b.block
  · simp [sameAddr, hbl]
  · have hne : (a == b) = false := by
      rw [beq_eq_false_iff_ne]; intro e; exact hbl (by rw [e])
    have s1 : w.shape? a.block = some (ea, ca.size) := by simp [World.shape?, ha]
    have s2 : w.shape? b.block = some (eb, cb.size) := by simp [World.shape?, hb]
    have f1 : ∀ n, w.frozen? ({ block := a.block, off := n } : Addr) = false := fun n => by simp [World.frozen?, ha]
    have f2 : ∀ n, w.frozen? ({ block := b.block, off := n } : Addr) = false := fun n => by simp [World.frozen?, hb]
    have g1 : w.frozen? a = false := by simp [World.frozen?, ha]
    have g2 : w.frozen? b = false := by simp [World.frozen?, hb]
    obtain ⟨m, hm⟩ : ∃ m, ca.size = m + 1 := ⟨ca.size - 1, by omega⟩
    obtain ⟨n, hn⟩ : ∃ n, cb.size = n + 1 := ⟨cb.size - 1, by omega⟩
    simp [sameAddr, hbl, noView, viewAt, mayBeOne, stringish, s1, s2, f1, f2, g1, g2, hm, hn, hne]
theorem eqV_sound {t : TypeId} {neg : Bool} {x y : Value} {K : RK} {h : Heap} (hv : eqV P t neg x y K h) :
    (∀ c d, x = .agg c → y = .agg d → False) ∧ (x = .nilIface → y = .nilIface → False) ∧ Yv P (binOp (bif neg then .neq else .eql) t x y) K h := by
  unfold eqV at hv
  split at hv
  · rename_i a b hu
    refine ⟨nofun, nofun, .of_pure hv fun w => ?_⟩
    refine eq_of_equal ?_ nofun nofun nofun nofun
    refine equal_of_in fun d => ?_
    simp only [Op.equalIn, Sem.run_bind, run_underlying hu, Result.andThen_ok, Sem.run_pure]
  · rename_i e a b hu
    obtain ⟨hz, hp, hk⟩ := hv
    refine ⟨nofun, nofun, _, _, hk, hp, fun w hw => ?_⟩
    refine eq_of_equal ?_ nofun nofun nofun nofun
    have hz' : Nat.beq (sizeT P e) 0 = false := by
      cases hb : Nat.beq (sizeT P e) 0 with
      | false => rfl
      | true => rw [hb] at hz; exact hz.elim
    have hne : sizeT P e ≠ 0 := fun e => by rw [e] at hz'; cases hz'
    refine equal_of_in fun d => ?_
    simp only [Op.equalIn, Sem.run_bind, run_underlying hu, Result.andThen_ok]
    cases a with
    | none => cases b <;> rfl
    | some a => cases b with
      | none => rfl
      | some b =>
        obtain ⟨h1, h2⟩ := hw a b rfl rfl
        simp only [Sem.run_bind, sizeOf_run hz', Result.andThen_ok, ne_eq, hne, not_false_eq_true, if_true, sameAddr_plain h1 h2]
        rfl
  · exact hv.elim
theorem rBin_sound {op : BinOp} {t : TypeId} {x y : Value} {K : RK} {h : Heap} (hv : rBin P op t x y K h) :
    (∀ c d, x = .agg c → y = .agg d → False) ∧ (x = .nilIface → y = .nilIface → False) ∧ Yv P (binOp op t x y) K h := by
  unfold rBin at hv
  split at hv
  · rename_i k a k' b
    refine ⟨nofun, nofun, ?_⟩
    rw [binOp_int_type]
    split at hv
    · exact shiftV_sound (k' := k') (.inl rfl) hv
    · exact shiftV_sound (k' := k') (.inr rfl) hv
    · rename_i h1 h2
      cases hk : ikEq k' k with
      | false => rw [hk] at hv; exact hv.elim
      | true => rw [hk] at hv; have := ikEq_iff hk; subst this; exact intV_sound hv ⟨h1, h2⟩
  · exact ⟨nofun, nofun, strV_sound hv⟩
  · split at hv
    · exact eqV_sound (neg := false) hv
    · exact eqV_sound (neg := true) hv
    · exact hv.elim
theorem part_agg {u : TypeId} {cs : List Value} {off : Nat} (hu : ((P.underlying u).isSome && (P.info? u).isSome) = true) {w : World} (ha : aggT P u = true) :
    (part u cs.toArray off).run P w = .ok (.agg ((cs.drop off).take (sizeT P u)).toArray) w := by
  simp only [Bool.and_eq_true, Option.isSome_iff_exists] at hu
  obtain ⟨hu, i, hi⟩ := hu
  have hs : (sizeOf u).run P w = .ok (sizeT P u) w := by simp [sizeOf, run_typeInfo hi, sizeT, hi]
  simp only [part, Sem.run_bind, aggT_sound hi hu, Result.andThen_ok, ha, if_true, hs, Sem.run_pure]
  congr 2
  apply Array.ext'
  simp [List.extract_eq_take_drop]
theorem part_cell {u : TypeId} {cs : List Value} {off : Nat} (hu : ((P.underlying u).isSome && (P.info? u).isSome) = true) {w : World} (ha : aggT P u = false) {v : Value} (hc : cs[off]? = some v) :
    (part u cs.toArray off).run P w = .ok v w := by
  simp only [Bool.and_eq_true, Option.isSome_iff_exists] at hu
  obtain ⟨hu, i, hi⟩ := hu
  have hc' : cs.toArray[off]? = some v := by simpa using hc
  simp only [part, Sem.run_bind, aggT_sound hi hu, Result.andThen_ok, ha, Bool.false_eq_true, if_false, hc', Sem.run_pure]
theorem plainL_app {h : Heap} : ∀ {l m : List (Option Addr × Option Addr)}, plainL h (l ++ m) → plainL h l ∧ plainL h m
  | [], _, h => ⟨trivial, h⟩
  | (_, _) :: _, _, h => ⟨⟨h.1, (plainL_app h.2).1⟩, (plainL_app h.2).2⟩
theorem eqOne_sound {t : TypeId} {x y : Value} {b : Bool} {l : List (Option Addr × Option Addr)} (he : eqOne P t x y = some (b, l)) {w : World} (hp : plainL w.heap l) (d : Nat) :
    (Op.equalIn (d + 1) t x y).run P w = .ok b w := by
  unfold eqOne at he
  split at he
  · rename_i k0 k a k' c hu
    cases hk : ikEq k' k with
    | false => rw [hk] at he; cases he
    | true =>
      rw [hk] at he
      have := ikEq_iff hk
      subst this
      cases he
      exact run_equalIn_int w d t _ _ _ _ hu
  · rename_i a c hu
    cases he
    exact run_equalIn_bool w d t _ _ hu
  · rename_i a c hu
    cases he
    exact run_equalIn_string w d t _ _ hu
  · rename_i e a c hu
    cases hz : Nat.beq (sizeT P e) 0 with
    | true => rw [hz] at he; cases he
    | false =>
      rw [hz] at he
      cases he
      have hne : sizeT P e ≠ 0 := fun e => by rw [e] at hz; cases hz
      simp only [Op.equalIn, Sem.run_bind, run_underlying hu, Result.andThen_ok]
      cases a with
      | none => cases c <;> rfl
      | some a => cases c with
        | none => rfl
        | some c =>
          obtain ⟨h1, h2⟩ := hp.1 a c rfl rfl
          simp only [Sem.run_bind, sizeOf_run hz, Result.andThen_ok, ne_eq, hne, not_false_eq_true, if_true, sameAddr_plain h1 h2]
          rfl
  · cases he
theorem eqFs_sound {rec : TypeId → List Value → List Value → Option (Bool × List (Option Addr × Option Addr))} {d : Nat} {xs ys : List Value} {w : World}
    (hr : ∀ t us vs b l, rec t us vs = some (b, l) → plainL w.heap l → (Op.equalIn (d + 1) t (.agg us.toArray) (.agg vs.toArray)).run P w = .ok b w) :
    ∀ (fs : List Field) (b : Bool) (l : List (Option Addr × Option Addr)), eqFs P rec xs ys fs = some (b, l) → plainL w.heap l → (Op.eqFields (d + 1) xs.toArray ys.toArray fs).run P w = .ok b w
  | [], b, l, he, _ => by cases he; rfl
  | f :: fs, b, l, he, hp => by
    unfold eqFs at he
    split at he
    · cases he
    · rename_i hn
      cases hi : ((P.underlying f.type).isSome && (P.info? f.type).isSome) with
      | false => rw [hi] at he; cases he
      | true =>
        rw [hi] at he
        simp only [cond_true] at he
        split at he
        · rename_i b1 l1 c m e1 e2
          cases he
          obtain ⟨p1, p2⟩ := plainL_app hp
          have rest := eqFs_sound hr fs c m e2 p2
          have h1 : ∃ u v, (part f.type xs.toArray f.offset).run P w = .ok u w ∧ (part f.type ys.toArray f.offset).run P w = .ok v w ∧ (Op.equalIn (d + 1) f.type u v).run P w = .ok b1 w := by
            cases ha : aggT P f.type with
            | true =>
              rw [ha] at e1
              exact ⟨_, _, part_agg hi ha, part_agg hi ha, hr _ _ _ _ _ e1 p1⟩
            | false =>
              rw [ha] at e1
              simp only [cond_false] at e1
              split at e1
              · rename_i x y hx hy
                exact ⟨x, y, part_cell hi ha hx, part_cell hi ha hy, eqOne_sound e1 p1 d⟩
              · cases e1
          obtain ⟨u, v, r1, r2, r3⟩ := h1
          simp only [Op.eqFields, ne_eq, hn, not_false_eq_true, if_true, Sem.run_bind, r1, r2, r3, Result.andThen_ok]
          cases b1
          · rfl
          · exact rest
        · cases he
theorem eqLs_sound {w : World} : ∀ (m : Nat) (t : TypeId) (xs ys : List Value) (b : Bool) (l : List (Option Addr × Option Addr)), eqLs P m t xs ys = some (b, l) → plainL w.heap l →
    ∀ d, (Op.equalIn (d + m + 1) t (.agg xs.toArray) (.agg ys.toArray)).run P w = .ok b w
  | 0, _, _, _, _, _, he, _, _ => by cases he
  | m + 1, t, xs, ys, b, l, he, hp, d => by
    unfold eqLs at he
    split at he
    · rename_i fs hu
      cases hs : P.stoodInHeld t with
      | true => rw [hs] at he; cases he
      | false =>
        rw [hs] at he
        have hf : P.fieldsOf t = fs := by simp [Program.fieldsOf, hu]
        rw [run_equalIn_struct w _ t _ _ (by rw [hf]; exact hu) hs, hf]
        exact eqFs_sound (d := d + m) (fun t us vs b l h1 h2 => eqLs_sound m t us vs b l h1 h2 d) fs.toList b l he hp
    · cases he
theorem eqK_sound {neg b : Bool} {K : RK} {h : Heap} {l : List (Option Addr × Option Addr)} (hk : eqK neg b K h l) : ∃ S, K (.bool (bif neg then !b else b)) S ∧ SOk S h ∧ ∀ h', SOk S h' → plainL h' l := by
  cases l with
  | nil => exact ⟨none, hk, trivial, fun _ _ => trivial⟩
  | cons p l => exact ⟨_, hk.2, hk.1, fun _ h => h⟩
theorem rAgg_sound {op : BinOp} {t : TypeId} {xs ys : Array Value} {x y : Operand} {K : RK} {h : Heap} (hq : rAgg P op t xs.toList ys.toList K h) :
    ∃ v S, K v S ∧ SOk S h ∧ ∀ w : World, SOk S w.heap → (do eqGuard op t x y (.agg xs) (.agg ys); binOp op t (.agg xs) (.agg ys) : Sem Value).run P w = .ok v w := by
  unfold rAgg at hq
  cases hg : P.eqGuardType P.depth t with
  | true => rw [hg] at hq; exact hq.elim
  | false =>
    rw [hg] at hq
    simp only [cond_false] at hq
    split at hq
    · split at hq
      · rename_i b l he
        obtain ⟨S, h1, h2, h3⟩ := eqK_sound hq
        refine ⟨_, S, h1, h2, fun w hw => ?_⟩
        have := eqLs_sound 10 t _ _ b l he (h3 _ hw) 9989
        simp only [Array.toArray_toList] at this
        simp only [Sem.run_bind, run_eqGuard_agg w _ t x y _ _ hg, Result.andThen_ok, run_eql_struct, this]
        rfl
      · exact hq.elim
    · split at hq
      · rename_i b l he
        obtain ⟨S, h1, h2, h3⟩ := eqK_sound hq
        refine ⟨_, S, h1, h2, fun w hw => ?_⟩
        have := eqLs_sound 10 t _ _ b l he (h3 _ hw) 9989
        simp only [Array.toArray_toList] at this
        simp only [Sem.run_bind, run_eqGuard_agg w _ t x y _ _ hg, Result.andThen_ok, run_neq_struct, this]
        rfl
      · exact hq.elim
    · exact hq.elim
theorem rUn_sound {op : UnOp} {x : Value} {K : RK} {h : Heap} (hv : rUn op x K) : Yv P (Op.unary op x) K h := by
  unfold rUn at hv
  split at hv
  · exact .of_pure hv fun w => rfl
  · exact .of_pure hv fun w => rfl
  · exact .of_pure hv fun w => rfl
  · exact hv.elim
theorem bytes_fold : ∀ (l : List UInt8) (s : ByteArray), (l.map fun b => ((b.toNat : Nat) : Int)).foldl (fun r n => r.push (UInt8.ofNat n.toNat)) s = ⟨s.data ++ l.toArray⟩
  | [], s => by simp
  | b :: l, s => by
    simp only [List.map_cons, List.foldl_cons]
    rw [bytes_fold l]
    congr 1
    have : UInt8.ofNat ((b.toNat : Nat) : Int).toNat = b := by simp
    rw [this]
    apply Array.ext'
    simp [ByteArray.push]
theorem isU8_sound {e : TypeId} (h : isU8 P e = true) : P.underlying e = some (.int .u8) := by
  unfold isU8 at h
  split at h
  · assumption
  · cases h
theorem row_load {w : World} {a : Addr} {vs : List Value} (hr : Row w.heap a vs) : (loadCells a vs.length).run P w = .ok vs.toArray w := by
  have := run_firstCells_some (P := P) w 1 vs.length a 0 0 vs (by simp) fun j v hv => by rw [← adr_eq]; exact hr j v hv
  simpa [Builtin.firstCells] using this
theorem rConv_sound {src dst : TypeId} {x : Value} {K : RK} {h : Heap} (hv : rConv P src dst x K h) : Yv P (convert src dst x) K h := by
  unfold rConv at hv
  split at hv
  · rename_i k k' k'' n h1 h2
    exact .of_pure hv fun w => by simp only [convert, Sem.run_bind, run_underlying h1, run_underlying h2, Result.andThen_ok]; rfl
  · rename_i s h1 h2
    exact .of_pure hv fun w => by simp only [convert, Sem.run_bind, run_underlying h1, run_underlying h2, Result.andThen_ok]; rfl
  · rename_i e a n c h1 h2
    cases hu : isU8 P e with
    | false => rw [hu] at hv; exact hv.elim
    | true =>
      rw [hu] at hv
      obtain ⟨s, hs, hk⟩ := hv
      refine ⟨_, _, hk, hs, fun w hw => ?_⟩
      rw [run_convert_bytes_string w src dst e a n c h1 (isU8_sound hu) h2]
      obtain ⟨hl, hw⟩ := hw
      rcases hw with h0 | ⟨b, rfl, hr⟩
      · have hs0 : s = ByteArray.empty := by
          have : s.data.toList = [] := by simpa [byteVals] using h0
          cases s with
          | mk d => simp at this; subst this; rfl
        cases a with
        | none => rw [hs0]; rfl
        | some b =>
          have hn : n = 0 := by rw [← hl, h0]; rfl
          subst hn
          have := row_load (P := P) (w := w) (a := b) (vs := []) fun i v hv => by simp at hv
          rw [run_bytesToString w b 0 c [] (by simpa using this), hs0]
          rfl
      · have := row_load (P := P) hr
        rw [hl] at this
        rw [run_bytesToString w b n c (s.data.toList.map fun b => ((b.toNat : Nat) : Int)) (by rw [this, List.map_map]; rfl), bytes_fold]
        cases s; simp [ByteArray.empty, ByteArray.emptyWithCapacity]
        try rfl
  · exact hv.elim
theorem part_sound {u : TypeId} {cs : Array Value} {off : Nat} {K : RK} {h : Heap} (hu : ∃ d, P.underlying u = some d) (hi : ∃ i, P.info? u = some i)
    (hv : bif aggT P u then K (.agg ((cs.toList.drop off).take (sizeT P u)).toArray) none else (match cs.toList[off]? with | some v => K v none | none => False)) : Yv P (part u cs off) K h := by
  obtain ⟨i, hi⟩ := hi
  cases ha : aggT P u with
  | true =>
    rw [ha] at hv
    refine .of_pure hv fun w => ?_
    have hs : (sizeOf u).run P w = .ok (sizeT P u) w := by simp [sizeOf, run_typeInfo hi, sizeT, hi]
    simp only [part, Sem.run_bind, aggT_sound hi hu, Result.andThen_ok, ha, if_true, hs, Sem.run_pure]
    congr 2
    apply Array.ext'
    simp [List.extract_eq_take_drop]
  | false =>
    rw [ha] at hv
    simp only [cond_false] at hv
    cases hc : cs.toList[off]? with
    | none => rw [hc] at hv; exact hv.elim
    | some v =>
      rw [hc] at hv
      refine .of_pure hv fun w => ?_
      have hc' : cs[off]? = some v := by simpa using hc
      simp only [part, Sem.run_bind, aggT_sound hi hu, Result.andThen_ok, ha, Bool.false_eq_true, if_false, hc', Sem.run_pure]
def BndIs (P : Program) (v : Option Value) (d y n : Nat) : Prop :=
  match v with
  | some x => ∀ c w, (Instr.sliceBound x y c).run P w = .ok n w
  | none => n = d
theorem bnd_sound {v : Option Value} {d y : Nat} {K : Nat → Prop} (hv : bnd v d y K) : ∃ n, K n ∧ BndIs P v d y n := by
  unfold bnd at hv
  split at hv
  · exact ⟨d, hv, rfl⟩
  · rename_i k i
    obtain ⟨⟨h0, h1⟩, hk⟩ := hv
    refine ⟨i.toNat, hk, fun c w => ?_⟩
    simp [Instr.sliceBound, asIntOf, h0, h1]
  · exact hv.elim
theorem sliceBounds_none {isS : Bool} {len cap n l : Nat} {lo hi : Option Value} (hn : BndIs P hi len cap n) (hl : BndIs P lo 0 n l) (w : World) :
    (Instr.sliceBounds isS len cap lo hi none).run P w = .ok (l, n, cap) w := by
  cases hi with
  | none =>
    cases lo with
    | none => simp only [BndIs] at hn hl; subst hn; subst hl; simp [Instr.sliceBounds]
    | some lo => simp only [BndIs] at hn hl; subst hn; simp [Instr.sliceBounds, hl]
  | some hi =>
    cases lo with
    | none => simp only [BndIs] at hn hl; subst hl; simp [Instr.sliceBounds, hn]
    | some lo => simp only [BndIs] at hn hl; simp [Instr.sliceBounds, hn, hl]
theorem sliceBounds_some {isS : Bool} {len cap n l m : Nat} {lo : Option Value} {hi mx : Value} (hm : BndIs P (some mx) 0 cap m) (hn : BndIs P (some hi) 0 m n) (hl : BndIs P lo 0 n l) (w : World) :
    (Instr.sliceBounds isS len cap lo (some hi) (some mx)).run P w = .ok (l, n, m) w := by
  cases lo with
  | none => simp only [BndIs] at hm hn hl; subst hl; simp [Instr.sliceBounds, hm, hn]
  | some lo => simp only [BndIs] at hm hn hl; simp [Instr.sliceBounds, hm, hn, hl]
theorem subAddr_eq (a : Option Addr) (l m size : Nat) : (if m = l then a else a.map (·.add (l * size))) = subAddr a l m size := by
  unfold subAddr; split
  · rfl
  · congr 1; funext x; rw [adr_eq]
theorem okT_sound {t : TypeId} {K : Prop} (h : okT P t K) : K ∧ ∀ w, (sizeOf t).run P w = .ok (sizeT P t) w := by
  unfold okT at h
  cases hi : P.info? t with
  | none => rw [hi] at h; exact h.elim
  | some i => rw [hi] at h; exact ⟨h, fun w => by simp [sizeOf, run_typeInfo hi, sizeT, hi]⟩
theorem rField_sound {t : TypeId} {x : Value} {f : Nat} {K : RK} {h : Heap} (hv : rField P t x f K) : Yv P (Instr.field t x f) K h := by
  unfold rField at hv
  split at hv
  · rename_i u off cs hf
    obtain ⟨fs, g, hu, hg, rfl, rfl⟩ := fieldOff_sound hf
    cases hb : ((P.underlying g.type).isSome && (P.info? g.type).isSome) with
    | false => rw [hb] at hv; exact hv.elim
    | true =>
      rw [hb] at hv
      simp only [Bool.and_eq_true, Option.isSome_iff_exists] at hb
      obtain ⟨v, S, hk, hS, hr⟩ := part_sound (cs := cs) (off := g.offset) (h := h) hb.1 hb.2 hv
      refine ⟨v, S, hk, hS, fun w hw => ?_⟩
      have := hr w hw
      simp only [Instr.field, Sem.run_bind, run_underlying hu, Result.andThen_ok, hg, asAgg, Sem.run_pure, this]
  · exact hv.elim
theorem rIndexAddr_sound {t : TypeId} {x i : Value} {K : RK} {h : Heap} (hv : rIndexAddr P t x i K) : Yv P (Instr.indexAt t x i) K h := by
  unfold rIndexAddr at hv
  split at hv
  · rename_i n e a k i hu
    obtain ⟨⟨⟨h0, h1⟩, hk⟩, hz⟩ := okT_sound hv
    refine .of_pure hk fun w => ?_
    simp [Instr.indexAt, asIntOf, run_underlying hu, Instr.sureAddr, h0, h1, hz, adr_eq]
  · rename_i e b len cap k i hu
    obtain ⟨⟨⟨h0, h1⟩, a, rfl, hk⟩, hz⟩ := okT_sound hv
    refine .of_pure hk fun w => ?_
    simp [Instr.indexAt, asIntOf, run_underlying hu, h0, h1, hz, adr_eq]
  · exact hv.elim
theorem rIndex_sound {t : TypeId} {x i : Value} {K : RK} {h : Heap} (hv : rIndex P t x i K) : Yv P (Instr.index t x i) K h := by
  unfold rIndex at hv
  split at hv
  · rename_i s k i hu
    obtain ⟨b, h0, hb, hk⟩ := hv
    refine .of_pure hk fun w => ?_
    simp [Instr.index, asIntOf, run_underlying hu, h0, hb]
  · exact hv.elim
theorem rSlice_sound {t : TypeId} {x : Value} {lo hi mx : Option Value} {K : RK} {h : Heap} (hv : rSlice P t x lo hi mx K) : Yv P (Instr.sliceAt t x lo hi mx) K h := by
  unfold rSlice at hv
  split at hv
  · rename_i s hu
    cases mx with
    | some _ => exact hv.elim
    | none =>
      obtain ⟨n, hv, hn⟩ := bnd_sound (P := P) hv
      obtain ⟨l, hv, hl⟩ := bnd_sound (P := P) hv
      refine .of_pure hv fun w => ?_
      simp [Instr.sliceAt, Instr.slice, run_underlying hu, sliceBounds_none hn hl]
  · rename_i e a len cap hu
    obtain ⟨hv, hz⟩ := okT_sound hv
    cases mx with
    | none =>
      obtain ⟨n, hv, hn⟩ := bnd_sound (P := P) hv
      obtain ⟨l, hv, hl⟩ := bnd_sound (P := P) hv
      refine .of_pure hv fun w => ?_
      simp [Instr.sliceAt, Instr.slice, run_underlying hu, sliceBounds_none hn hl, hz, subAddr_eq]
    | some m =>
      cases hi with
      | none => exact hv.elim
      | some hi =>
        obtain ⟨m', hv, hm⟩ := bnd_sound (P := P) hv
        obtain ⟨n, hv, hn⟩ := bnd_sound (P := P) hv
        obtain ⟨l, hv, hl⟩ := bnd_sound (P := P) hv
        refine .of_pure hv fun w => ?_
        simp [Instr.sliceAt, Instr.slice, run_underlying hu, sliceBounds_some hm hn hl, hz, subAddr_eq]
  · rename_i n e a hu
    obtain ⟨hv, hz⟩ := okT_sound hv
    cases mx with
    | some _ => exact hv.elim
    | none =>
      obtain ⟨m, hv, hn⟩ := bnd_sound (P := P) hv
      obtain ⟨l, hv, hl⟩ := bnd_sound (P := P) hv
      refine .of_pure hv fun w => ?_
      have ha : (some (if n = l then a else a.add (l * sizeT P e))) = subAddr (some a) l n (sizeT P e) := by
        rw [← subAddr_eq]; split <;> rfl
      simp [Instr.sliceAt, run_underlying hu, Instr.sureAddr, sliceBounds_none hn hl, hz, ha]
  · exact hv.elim
def KeyDesc (d : TypeDesc) (c : CK) : Prop := (∃ i, d = .int i ∧ c = .int i) ∨ (d = .string ∧ c = .str) ∨ (d = .bool ∧ c = .bool)
theorem keyCK_sound {t : TypeId} {c : CK} {e : TypeId} (h : keyCK P t = some (c, e)) : ∃ k d, P.underlying t = some (.map k e) ∧ P.underlying k = some d ∧ KeyDesc d c := by
  unfold keyCK at h
  split at h
  · rename_i k e' hu
    split at h
    · rename_i i hk
      simp only [Option.some.injEq, Prod.mk.injEq] at h
      obtain ⟨rfl, rfl⟩ := h
      exact ⟨k, _, hu, hk, .inl ⟨i, rfl, rfl⟩⟩
    · rename_i hk
      simp only [Option.some.injEq, Prod.mk.injEq] at h
      obtain ⟨rfl, rfl⟩ := h
      exact ⟨k, _, hu, hk, .inr (.inl ⟨rfl, rfl⟩)⟩
    · rename_i hk
      simp only [Option.some.injEq, Prod.mk.injEq] at h
      obtain ⟨rfl, rfl⟩ := h
      exact ⟨k, _, hu, hk, .inr (.inr ⟨rfl, rfl⟩)⟩
    · cases h
  · cases h
theorem sameNow_key {d : TypeDesc} {c : CK} (hd : KeyDesc d c) (x y : c.den) : Instr.sameNow d (c.enc x) (c.enc y) = some (sameKey (c.enc x) (c.enc y)) := by
  rcases hd with ⟨i, rfl, rfl⟩ | ⟨rfl, rfl⟩ | ⟨rfl, rfl⟩
  · simp [Instr.sameNow, CK.enc, sameKey]
  · simp [Instr.sameNow, CK.enc, sameKey]
  · simp [Instr.sameNow, CK.enc, sameKey]
theorem findNow_key {d : TypeDesc} {c : CK} (hd : KeyDesc d c) (x : c.den) : ∀ (es : List MapEntry) (i : Nat), keysOf c es →
    ∃ r, Instr.findNow d (c.enc x) es i = some r ∧ r.map (·.2) = findE (c.enc x) es
  | [], i, _ => ⟨none, rfl, rfl⟩
  | e :: es, i, h => by
    obtain ⟨y, hy⟩ := h e (by simp)
    have hs := sameNow_key hd x y
    rw [← hy] at hs
    simp only [Instr.findNow, findE]
    cases hb : sameKey (c.enc x) e.key with
    | true => rw [hs, hb]; exact ⟨some (i, e.val), rfl, rfl⟩
    | false => rw [hs, hb]; exact findNow_key hd x es (i + 1) fun e' he' => h e' (by simp [he'])
theorem checkKey_ok {empty : Bool} {k : TypeId} {d : TypeDesc} {c : CK} (hd : KeyDesc d c) (hu : P.underlying k = some d) (v : Value) (n : Nat) (w : World) : (Instr.checkKey empty (n + 1) k v).run P w = .ok () w := by
  unfold Instr.checkKey
  simp only [Sem.run_bind, run_underlying hu, Result.andThen_ok]
  rcases hd with ⟨i, rfl, rfl⟩ | ⟨rfl, rfl⟩ | ⟨rfl, rfl⟩ <;> rfl
theorem findKey_ok {k : TypeId} {d : TypeDesc} {c : CK} (hd : KeyDesc d c) (hu : P.underlying k = some d) (x : c.den) {es : List MapEntry} (h : keysOf c es) (w : World) :
    ∃ r, (Instr.findKey k (c.enc x) es).run P w = .ok r w ∧ Instr.findNow d (c.enc x) es 0 = some r ∧ r.map (·.2) = findE (c.enc x) es := by
  obtain ⟨r, hr, hm⟩ := findNow_key hd x es 0 h
  refine ⟨r, ?_, hr, hm⟩
  simp only [Instr.findKey, Sem.run_bind, run_underlying hu, Result.andThen_ok, hr, Sem.run_pure]
theorem run_getMap {w : World} {r : Nat} {es : Array MapEntry} {clock : Nat} (h : w.heap[r]? = some (.map es clock)) : (getObj r).run P w = .ok (.map es clock) w := by
  simp only [getObj, Sem.run, h]
theorem checkKey10000 {empty : Bool} {k : TypeId} {d : TypeDesc} {c : CK} (hd : KeyDesc d c) (hu : P.underlying k = some d) (v : Value) (w : World) : (Instr.checkKey empty 10000 k v).run P w = .ok () w :=
  checkKey_ok hd hu v 9999 w
theorem lookup_run {t : TypeId} {c : CK} {e k : TypeId} {d : TypeDesc} (hu : P.underlying t = some (.map k e)) (hk : P.underlying k = some d) (hd : KeyDesc d c) {m : Option Nat} {x : c.den} {z v : Value} {b ok : Bool} {w : World}
    (hz : (zeroValue e).run P w = .ok z w) (hm : MapGet c z w.heap m (c.enc x) v b) :
    (Instr.lookup t (.map m) (c.enc x) ok).run P w = .ok (bif ok then .tuple #[v, .bool b] else v) w := by
  cases m with
  | none =>
    obtain ⟨rfl, rfl⟩ := hm
    simp only [Instr.lookup, Sem.run_bind, run_underlying hu, Result.andThen_ok, Sem.run_pure, checkKey10000 hd hk]
    obtain ⟨r, h1, h2, h3⟩ := findKey_ok (P := P) hd hk x (es := []) (fun _ h => by cases h) w
    simp only [Instr.findNow, Option.some.injEq] at h2
    subst h2
    simp [h1, hz]
  | some r =>
    obtain ⟨es, clock, hb, hks, hv⟩ := hm
    simp only [Instr.lookup, Sem.run_bind, run_underlying hu, Result.andThen_ok, run_getMap hb, Sem.run_pure, checkKey10000 hd hk]
    obtain ⟨r, h1, h2, h3⟩ := findKey_ok (P := P) hd hk x hks w
    simp only [h1, Result.andThen_ok]
    cases r with
    | none =>
      simp only [Option.map_none] at h3
      rw [← h3] at hv
      obtain ⟨rfl, rfl⟩ := hv
      simp [hz]
    | some r =>
      simp only [Option.map_some] at h3
      rw [← h3] at hv
      obtain ⟨rfl, rfl⟩ := hv
      cases ok <;> rfl
theorem zeroValue_run {e : TypeId} {z : Value} (h : zeroT P e = some z) (w : World) : (zeroValue e).run P w = .ok z w := by
  unfold zeroT at h
  cases hi : P.info? e with
  | none => rw [hi] at h; cases h
  | some i => rw [hi] at h; simp only at h; simp [zeroValue, run_typeInfo hi, h]
theorem rLookup_sound {t : TypeId} {x k : Value} {ok : Bool} {K : RK} {h : Heap} (hv : rLookup P t x k ok K h) : Yv P (Instr.lookup t x k ok) K h := by
  unfold rLookup at hv
  split at hv
  · rename_i c e m hc
    obtain ⟨kt, d, hu, hk, hd⟩ := keyCK_sound hc
    obtain ⟨kx, rfl, hv⟩ := CK.dec_sound hv
    split at hv
    · rename_i ek z hek hz
      obtain ⟨y, b, hm, hK⟩ := hv
      exact ⟨_, _, hK, hm, fun w hw => lookup_run hu hk hd (zeroValue_run hz w) hw⟩
    · exact hv.elim
  · exact hv.elim
theorem rLen_sound {t : TypeId} {x : Value} {ats : Array TypeId} {ty : TypeId} {K : RK} {h : Heap} (hat : ats[0]? = some t) (hv : rLen P t x K h) : Yv P (Builtin.len_ ats ty #[x]) K h := by
  unfold rLen at hv
  split at hv
  · rename_i s hu
    exact .of_pure hv fun w => by simp [Builtin.len_, hat, run_underlying hu, goInt]
  · rename_i n e _ hu
    exact .of_pure hv fun w => by simp [Builtin.len_, hat, run_underlying hu, goInt]
  · rename_i e b n c hu
    exact .of_pure hv fun w => by simp [Builtin.len_, hat, run_underlying hu, goInt]
  · rename_i k e m hu
    obtain ⟨n, hm, hk⟩ := hv
    refine ⟨_, _, hk, hm, fun w hw => ?_⟩
    cases m with
    | none =>
      have : n = 0 := hw
      subst this
      simp [Builtin.len_, hat, run_underlying hu, goInt]
    | some r =>
      obtain ⟨es, clock, hb, rfl⟩ := hw
      simp [Builtin.len_, hat, run_underlying hu, goInt, run_getMap hb]
  · exact hv.elim
theorem rCap_sound {t : TypeId} {x : Value} {ats : Array TypeId} {ty : TypeId} {K : RK} {h : Heap} (hat : ats[0]? = some t) (hv : rCap P t x K) : Yv P (Builtin.cap_ ats ty #[x]) K h := by
  unfold rCap at hv
  split at hv
  · rename_i e b n c hu
    exact .of_pure hv fun w => by simp [Builtin.cap_, hat, run_underlying hu, goInt]
  · exact hv.elim
theorem minInt_sound {mx : Bool} {k : IntKind} : ∀ {vs : List Value} {a : Int} {f : Value → Prop}, minInt mx k a vs f → ∃ v, f v ∧ ∀ w, (vs.foldlM (bif mx then Builtin.max2 else Builtin.min2) (Value.int k a) : Sem Value).run P w = .ok v w
  | [], a, f, h => ⟨_, h, fun w => by simp⟩
  | .int k' b :: vs, a, f, h => by
    simp only [minInt] at h
    cases hk : ikEq k' k with
    | false => rw [hk] at h; exact h.elim
    | true =>
      rw [hk] at h
      have := ikEq_iff hk
      subst this
      obtain ⟨v, hf, hr⟩ := minInt_sound h
      refine ⟨v, hf, fun w => ?_⟩
      rw [← hr w]
      cases mx <;> simp [List.foldlM_cons, Builtin.max2, Builtin.min2]
theorem minFold_sound {mx : Bool} {vs : List Value} {f : Value → Prop} {ats : Array TypeId} {ty : TypeId} (h : minFold mx vs f) : ∃ v, f v ∧ ∀ w, (bif mx then Builtin.max_ ats ty vs.toArray else Builtin.min_ ats ty vs.toArray).run P w = .ok v w := by
  unfold minFold at h
  split at h
  · obtain ⟨v, hf, hr⟩ := minInt_sound (P := P) h
    refine ⟨v, hf, fun w => ?_⟩
    have := hr w
    cases mx <;> simpa [Builtin.max_, Builtin.min_] using this
  · exact h.elim
theorem entry_run {a : Addr} {e : MapEntry} {w : World} (h0 : a.off = 0) (h : IterAt w.heap a.block e) : (Instr.entry (.pointer (some a))).run P w = .ok (.tuple #[e.key, e.val]) w := by
  obtain ⟨m, since, seen, last, stamp, es, hi, hb, hm, hf⟩ := h
  obtain ⟨b, off, spot⟩ := a
  simp only at h0 hi
  subst h0
  have g1 : (getObj b).run P w = .ok (.mapIter (some m) since seen last) w := by simp only [getObj, Sem.run, hi]
  simp [Instr.entry, g1, hb, run_getMap hm, hf]
def DVok : DV → Value → Prop
  | .t, v => v = .bool true
  | .f, v => v = .bool false
  | .u, v => v = undef
  | .x, _ => True
def DecOk (d : Dec) (r : Regs) : Prop := ∀ t, dlook d t = .x ∨ ∃ v, rlook r t = some v ∧ DVok (dlook d t) v
theorem DecOk.at {d : Dec} {r : Regs} (h : DecOk d r) {t : Nat} {v : Value} (hv : rlook r t = some v) : DVok (dlook d t) v := by
  rcases h t with e | ⟨u, hu, hk⟩
  · rw [e]; trivial
  · rw [hv] at hu; cases hu; exact hk
theorem dOpnd_ok {d : Dec} {r : Regs} (hd : DecOk d r) {o : Operand} {v : Value} (h : reval r o = some v) : DVok (dOpnd d o) v := by
  cases o with
  | tmp t => exact hd.at h
  | const c =>
    simp [reval] at h; subst h
    cases c with
    | bool b => cases b <;> exact rfl
    | _ => trivial
  | global g => trivial
  | func f => trivial
theorem notIface_ok {t : TypeId} (h : notIface P t = true) : ∃ d, P.underlying t = some d ∧ ∀ m, d ≠ .interface m := by
  unfold notIface at h
  split at h
  · cases h
  · rename_i d hd; exact ⟨_, hd, fun m e => by subst e; simp_all⟩
  · cases h
theorem makeInterface_run {t : TypeId} {v : Value} (h : notIface P t = true) (w : World) : (Instr.makeInterface t v).run P w = .ok (.iface t v) w := by
  obtain ⟨d, hd, hn⟩ := notIface_ok h
  simp only [Instr.makeInterface, Sem.run_bind, run_underlying hd, Result.andThen_ok]
  cases d <;> first | exact absurd rfl (hn _) | rfl
theorem typeAssert_run {t u : TypeId} {v : Value} (h : notIface P t = true) (w : World) : (Instr.typeAssert (.iface t v) u t false).run P w = .ok v w := by
  obtain ⟨d, hd, hn⟩ := notIface_ok h
  simp only [Instr.typeAssert, Sem.run_bind, run_underlying hd, Result.andThen_ok]
  cases d <;> first | exact absurd rfl (hn _) | (simp [Sem.run_pure])
theorem zcells_some {t : TypeId} {z : List Value} (h : zcells P t = some z) : ∃ v, zeroT P t = some v ∧ v.cells.toList = z := by
  unfold zcells at h
  cases hz : zeroT P t with
  | none => rw [hz] at h; cases h
  | some v => rw [hz] at h; simp only [Option.some.injEq] at h; exact ⟨v, rfl, h⟩
theorem info_of_zero {t : TypeId} {v : Value} (h : zeroT P t = some v) : ∃ i, P.info? t = some i ∧ i.zero = some v := by
  unfold zeroT at h
  cases hi : P.info? t with
  | none => rw [hi] at h; cases h
  | some i => rw [hi] at h; exact ⟨i, rfl, h⟩
theorem cut_take {A B : List Value} {x : Value} {m : Nat} (h : A.length = m) : (A ++ x :: B).take (m + 1) = A ++ [x] := by
  subst h; rw [List.take_append, List.take_of_length_le (by omega), show A.length + 1 - A.length = 1 by omega]; rfl
theorem cut_drop {A B : List Value} {x : Value} {m n : Nat} (h : A.length = m) : (A ++ x :: B).drop (m + 1 + n) = B.drop n := by
  subst h; rw [List.drop_append, List.drop_eq_nil_of_le (by omega), show A.length + 1 + n - A.length = n + 1 by omega]; rfl
theorem fold_put (off : Nat) : ∀ (xs : List Value) (k : Nat) (arr : Array Value), off + k + xs.length ≤ arr.size →
    (xs.zipIdx k).foldl (fun cs (c, j) => cs.setIfInBounds (off + j) c) arr = (putAt arr.toList (off + k) xs).toArray
  | [], k, arr, _ => by simp [putAt]
  | x :: xs, k, arr, h => by
    simp only [List.length_cons] at h
    simp only [List.zipIdx_cons, List.foldl_cons]
    rw [fold_put off xs (k + 1) _ (by simp; omega)]
    have hm : off + k < arr.toList.length := by simp; omega
    have hs : arr.toList.set (off + k) x = arr.toList.take (off + k) ++ x :: arr.toList.drop (off + k + 1) := by
      rw [List.set_eq_take_append_cons_drop, if_pos hm]
    have hl : (arr.toList.take (off + k)).length = off + k := by simp; omega
    congr 1
    unfold putAt
    rw [Array.toList_setIfInBounds, hs, ← Nat.add_assoc, cut_take hl, cut_drop hl]
    simp only [List.append_assoc, List.cons_append, List.nil_append, List.length_cons, List.drop_drop]
    rw [show off + k + 1 + xs.length = off + k + (xs.length + 1) by omega]
theorem fillL_sound {place : Nat → Option (Nat × Nat)} : ∀ (parts : List (Nat × Value)) (cs cs' : List Value), fillL place cs parts = some cs' → Instr.fill place cs.toArray parts = some cs'.toArray
  | [], cs, cs', h => by simp only [fillL, Option.some.injEq] at h; subst h; rfl
  | (i, v) :: rest, cs, cs', h => by
    simp only [fillL] at h
    cases hp : place i with
    | none => rw [hp] at h; cases h
    | some os =>
      obtain ⟨off, size⟩ := os
      rw [hp] at h
      simp only at h
      cases hb : (Nat.beq v.cells.toList.length size && Nat.ble (off + v.cells.toList.length) cs.length) with
      | false => rw [hb] at h; cases h
      | true =>
        rw [hb] at h
        simp only [Bool.and_eq_true] at hb
        have h1 := Nat.eq_of_beq_eq_true hb.1
        have h2 := Nat.le_of_ble_eq_true hb.2
        have ih := fillL_sound rest _ _ h
        have h3 : v.cells.size = size := by simpa using h1
        have h4 : off + v.cells.size ≤ cs.length := by simpa using h2
        have hf : Array.foldl (fun cs x => cs.setIfInBounds (off + x.2) x.1) cs.toArray v.cells.zipIdx = (putAt cs off v.cells.toList).toArray := by
          have := fold_put off v.cells.toList 0 cs.toArray (by simpa using h4)
          simp only [Nat.add_zero] at this
          rw [← this, ← Array.foldl_toList]
          congr 1
          simp [Array.toList_zipIdx]
        simp only [Instr.fill, hp]
        rw [if_neg (by simp [h3]; omega)]
        simp only [hf]
        exact ih
theorem partVals_sound {N : Nat} {r : Regs} {a : Act} (h : Agree N r a) : ∀ {ps : List (Nat × Operand)} {vs : List (Nat × Value)}, partVals r ps = some vs → ps.map (fun p => (p.1, a.eval p.2)) = vs
  | [], vs, hv => by simp [partVals] at hv; subst hv; rfl
  | (i, o) :: ps, vs, hv => by
    simp only [partVals] at hv
    cases ho : reval r o with
    | none => simp [ho] at hv
    | some v => cases hos : partVals r ps with
      | none => simp [ho, hos] at hv
      | some us => simp [ho, hos] at hv; subst hv; simp [reval_sound h ho, partVals_sound h hos]
theorem hasInfo_run {t : TypeId} (h : hasInfo P t = true) (w : World) : (sizeOf t).run P w = .ok (sizeT P t) w := by
  unfold hasInfo at h
  cases hi : P.info? t with
  | none => rw [hi] at h; cases h
  | some i => simp [sizeOf, run_typeInfo hi, sizeT, hi]
theorem places_run (w : World) : ∀ l : List Field, allInfo P l = true → (l.mapM fun f : Field => ((do pure (f.offset, ← sizeOf f.type)) : Sem (Nat × Nat))).run P w = .ok (l.map fun f : Field => (f.offset, sizeT P f.type)) w
  | [], _ => rfl
  | f :: l, h => by
    simp only [allInfo] at h
    cases hf : hasInfo P f.type with
    | false => rw [hf] at h; cases h
    | true =>
      rw [hf] at h
      rw [List.mapM_cons]
      simp only [Sem.run_bind, hasInfo_run hf, Result.andThen_ok, Sem.run_pure, places_run w l h, List.map_cons]
theorem buildL_sound {t : TypeId} {ps : Array (Nat × Value)} {cs : List Value} (hb : buildL P t ps.toList = some cs) (w : World) :
    (Instr.build t ps).run P w = .ok (.agg cs.toArray) w := by
  unfold buildL at hb
  split at hb
  · rename_i fs z hu hz
    obtain ⟨v, hz, hv⟩ := zcells_some hz
    cases ha : allInfo P fs.toList with
    | false => rw [ha] at hb; cases hb
    | true =>
      rw [ha] at hb
      have hfs : (fs.mapM fun f : Field => ((do pure (f.offset, ← sizeOf f.type)) : Sem (Nat × Nat))).run P w = .ok (fs.map fun f : Field => (f.offset, sizeT P f.type)) w := by
        rw [Array.mapM_eq_mapM_toList]
        simp only [Sem.run_map, places_run w fs.toList ha, Result.andThen_ok]
        congr 1
        apply Array.ext'; simp
      have hf := fillL_sound _ _ _ hb
      have hplace : (fun i : Nat => (fs.map fun f : Field => (f.offset, sizeT P f.type))[i]?) = placeS P fs.toList := by
        funext i
        unfold placeS
        rw [Array.getElem?_map, Array.getElem?_toList]
        cases fs[i]? <;> rfl
      have hv' : v.cells = z.toArray := by rw [← hv]
      rw [cond_true] at hb
      rw [← hplace] at hf
      simp only [Instr.build, Sem.run_bind, zeroValue_run hz, Result.andThen_ok, run_underlying hu, hfs, hv', hf, Sem.run_pure]
  · rename_i n e z hu hz
    obtain ⟨v, hz, hv⟩ := zcells_some hz
    cases ha : hasInfo P e with
    | false => rw [ha] at hb; cases hb
    | true =>
      rw [ha] at hb
      have hf := fillL_sound _ _ _ hb
      have hv' : v.cells = z.toArray := by rw [← hv]
      simp only [Instr.build, Sem.run_bind, zeroValue_run hz, Result.andThen_ok, run_underlying hu, hasInfo_run ha, hv', hf, Sem.run_pure]
  · cases hb
theorem rOp_sound {ek : Option (Kind × Kind)} {o : Oper} {r : Regs} {K : RK} {h : Heap} {N : Nat} {a : Act} (ha : Agree N r a) (hq : rOp P ek o.op r K h) (d : Dec) (hd : DecOk d r) :
    ∃ v S, K v S ∧ SOk S h ∧ DVok (dOf d o.op) v ∧ ∀ w : World, SOk S w.heap → (execOp a.eval o).run P w = .ok (.value v) w := by
  have ev : ∀ {x : Operand} {v : Value}, reval r x = some v → a.eval x = v := fun h => reval_sound ha h
  have fin : ∀ {s : Sem Value}, Yv P s K h → dOf d o.op = .x → (∀ w, (execOp a.eval o).run P w = (do pure (Next.value (← s)) : Sem Next).run P w) →
      ∃ v S, K v S ∧ SOk S h ∧ DVok (dOf d o.op) v ∧ ∀ w : World, SOk S w.heap → (execOp a.eval o).run P w = .ok (.value v) w := by
    rintro s ⟨v, S, hk, hS, hr⟩ hx he
    exact ⟨v, S, hk, hS, by rw [hx]; trivial, fun w hw => by rw [he w]; exact run_value (hr w hw)⟩
  obtain ⟨dst, op, type, pos, after, guard⟩ := o
  simp only at hq fin ⊢
  cases op with
  | move x =>
    simp only [rOp] at hq
    split at hq
    · rename_i v hv
      exact ⟨v, none, hq, trivial, dOpnd_ok hd hv, fun w _ => by simp [execOp, ev hv]⟩
    · exact hq.elim
  | assign x =>
    simp only [rOp] at hq
    split at hq
    · rename_i v hv
      exact ⟨v, none, hq, trivial, dOpnd_ok hd hv, fun w _ => by simp [execOp, ev hv]⟩
    · exact hq.elim
  | pick c x y =>
    simp only [rOp] at hq
    split at hq
    · rename_i vc va vb hc hx hy
      unfold rPick at hq
      split at hq
      · rename_i cb
        have hco := dOpnd_ok hd hc
        have hxo := dOpnd_ok hd hx
        have hyo := dOpnd_ok hd hy
        have he : ∀ w, (execOp a.eval ⟨dst, .pick c x y, type, pos, after, guard⟩).run P w = .ok (.value (if cb then va else vb)) w := fun w => by
          simp [execOp, ev hc, ev hx, ev hy, asBool]
        have hdv : DVok (dOf d (.pick c x y)) (if cb then va else vb) := by
          simp only [dOf]
          cases hcd : dOpnd d c with
          | t => rw [hcd] at hco; have : cb = true := by simpa [DVok] using hco
                 subst this; exact hxo
          | f => rw [hcd] at hco; have : cb = false := by simpa [DVok] using hco
                 subst this; exact hyo
          | u => trivial
          | x => trivial
        split at hq
        · rename_i bx by'
          have e1 : (if cb = true then Value.bool bx else Value.bool by') = .bool (bif cb then bx else by') := by cases cb <;> rfl
          rw [e1] at hdv
          exact ⟨_, none, hq, trivial, hdv, fun w _ => by rw [he w, e1]⟩
        · cases cb
          · exact ⟨_, none, hq, trivial, hdv, fun w _ => he w⟩
          · exact ⟨_, none, hq, trivial, hdv, fun w _ => he w⟩
      · exact hq.elim
    · exact hq.elim
  | load t x =>
    simp only [rOp] at hq
    split at hq
    · rename_i v hv
      obtain ⟨u, S, hk, hS, hr⟩ := rLoad_sound hq
      exact fin ⟨u, some S, hk, hS, hr⟩ rfl fun w => by simp only [execOp, ev hv]
    · exact hq.elim
  | nilCheck x =>
    simp only [rOp] at hq
    split at hq
    · rename_i p hv
      obtain ⟨b, rfl, hk⟩ := hq
      exact ⟨_, none, hk, trivial, trivial, fun w _ => by simp [execOp, ev hv]⟩
    · exact hq.elim
  | binOp op t x y yt =>
    simp only [rOp] at hq
    split at hq
    · rename_i v u hv hu
      obtain ⟨v', S, hk, hS, hr⟩ := rAgg_sound (x := x) (y := y) hq
      refine ⟨v', S, hk, hS, trivial, fun w hw => ?_⟩
      simp only [execOp, ev hv, ev hu]
      exact run_value (hr w hw)
    · rename_i v u hna hv hu
      have go : (∀ c d, v = .agg c → u = .agg d → False) ∧ (v = .nilIface → u = .nilIface → False) ∧ Yv P (binOp op t v u) K h := by
        split at hq
        · exact nilV_sound (neg := false) hq
        · exact nilV_sound (neg := true) hq
        · exact rBin_sound hq
      obtain ⟨h1, h2, v', S, hk, hS, hr⟩ := go
      refine ⟨v', S, hk, hS, trivial, fun w hw => ?_⟩
      simp only [execOp, ev hv, ev hu]
      simp [eqGuard_ok op t x y v u h1 h2 w, hr w hw]
    · exact hq.elim
  | unOp op t x =>
    simp only [rOp] at hq
    split at hq
    · rename_i v hv
      obtain ⟨u, S, hk, hS, hr⟩ := rUn_sound (P := P) (h := h) hq
      refine ⟨u, S, hk, hS, ?_, fun w hw => by simp only [execOp, ev hv]; exact run_value (hr w hw)⟩
      have hvo := dOpnd_ok hd hv
      cases op <;> try trivial
      simp only [dOf]
      have hrun := hr { (default : World) with heap := h } hS
      cases hx : dOpnd d x with
      | t => rw [hx] at hvo; have : v = .bool true := hvo
             subst this; simp [Op.unary] at hrun; exact hrun.symm
      | f => rw [hx] at hvo; have : v = .bool false := hvo
             subst this; simp [Op.unary] at hrun; exact hrun.symm
      | u => trivial
      | x => trivial
    · exact hq.elim
  | convert s t x =>
    simp only [rOp] at hq
    split at hq
    · rename_i v hv
      exact fin (rConv_sound hq) rfl fun w => by simp only [execOp, ev hv]
    · exact hq.elim
  | extract x i =>
    simp only [rOp] at hq
    split at hq
    · rename_i vs hv
      split at hq
      · rename_i u hu
        have hu' : vs[i]? = some u := by simpa using hu
        exact ⟨u, none, hq, trivial, trivial, fun w _ => by simp [execOp, ev hv, Instr.extract, hu']⟩
      · exact hq.elim
    · exact hq.elim
  | fieldAddr t x f =>
    simp only [rOp] at hq
    split at hq
    · rename_i b u off hv hf
      exact fin (fieldAddr_sound hf hq) rfl fun w => by simp only [execOp, ev hv]
    · exact hq.elim
  | field t x f =>
    simp only [rOp] at hq
    split at hq
    · rename_i v hv
      exact fin (rField_sound hq) rfl fun w => by simp only [execOp, ev hv]
    · exact hq.elim
  | indexAddr t x i =>
    simp only [rOp] at hq
    split at hq
    · rename_i v u hv hu
      exact fin (rIndexAddr_sound hq) rfl fun w => by simp only [execOp, ev hv, ev hu]
    · exact hq.elim
  | index t x i =>
    simp only [rOp] at hq
    split at hq
    · rename_i v u hv hu
      exact fin (rIndex_sound hq) rfl fun w => by simp only [execOp, ev hv, ev hu]
    · exact hq.elim
  | slice t x lo hi mx =>
    simp only [rOp] at hq
    split at hq
    · rename_i v l h' m hv hl hh hm
      have ov : ∀ {x : Option Operand} {v : Option Value}, ovals r x = some v → x.map a.eval = v := by
        intro x v hx
        cases x with
        | none => simp [ovals] at hx; subst hx; rfl
        | some x =>
          simp only [ovals] at hx
          cases he : reval r x with
          | none => simp [he] at hx
          | some u => simp [he] at hx; subst hx; simp [ev he]
      exact fin (rSlice_sound hq) rfl fun w => by simp only [execOp, ev hv, ov hl, ov hh, ov hm]
    · exact hq.elim
  | lookup t x k ok =>
    simp only [rOp] at hq
    split at hq
    · rename_i v u hv hu
      exact fin (rLookup_sound hq) rfl fun w => by simp only [execOp, ev hv, ev hu]
    · exact hq.elim
  | makeInterface t x =>
    simp only [rOp] at hq
    split at hq
    · rename_i v hv
      cases hb : notIface P t with
      | false => rw [hb] at hq; exact hq.elim
      | true =>
        rw [hb, cond_true] at hq
        exact ⟨_, none, hq, trivial, trivial, fun w _ => by simp only [execOp, ev hv]; exact run_value (makeInterface_run hb w)⟩
    · exact hq.elim
  | typeAssert x u t ok =>
    simp only [rOp] at hq
    split at hq
    · rename_i v hv
      cases ok with
      | true => exact hq.elim
      | false =>
        rw [cond_false] at hq
        unfold rAssert at hq
        cases hb : notIface P t with
        | false => rw [hb] at hq; exact hq.elim
        | true =>
          rw [hb, cond_true] at hq
          split at hq
          · obtain ⟨y, rfl, hk⟩ := hq
            exact ⟨_, none, hk, trivial, trivial, fun w _ => by simp only [execOp, ev hv]; exact run_value (typeAssert_run hb w)⟩
          · exact hq.elim
    · exact hq.elim
  | makeFunc fn first cap =>
    simp only [rOp] at hq
    split at hq
    · rename_i vs us hv hu
      have e1 := revals_sound ha hv
      have e2 := revals_sound ha hu
      refine ⟨_, none, hq, trivial, trivial, fun w _ => ?_⟩
      have f1 : first.map a.eval = vs.toArray := by rw [← e1]; apply Array.ext'; simp
      have f2 : cap.map a.eval = us.toArray := by rw [← e2]; apply Array.ext'; simp
      simp [execOp, Instr.makeFunc, f1, f2]
    · exact hq.elim
  | entry it =>
    simp only [rOp] at hq
    split at hq
    · rename_i b kk vk hv
      obtain ⟨h0, e, x, y, hi, hk, hy, hK⟩ := hq
      refine ⟨_, _, hK, hi, trivial, fun w hw => ?_⟩
      simp only [execOp, ev hv]
      refine run_value ?_
      rw [entry_run h0 hw, hk, hy]
    · exact hq.elim
  | call c =>
    simp only [rOp] at hq
    have er : ∀ {b : Builtin} {vs : List Value}, c.callee = .builtin b → revals r c.args.toList = some vs → ∃ cs : Array Bool, ∀ w, (execOp a.eval ⟨dst, .call c, type, pos, after, guard⟩).run P w =
        (builtin b c.argTypes type cs vs.toArray).run P w := by
      intro b vs hc hvs
      have e1 := revals_sound ha hvs
      have f1 : c.args.map a.eval = vs.toArray := by rw [← e1]; apply Array.ext'; simp
      refine ⟨c.args.map fun | .const _ => true | _ => false, fun w => ?_⟩
      simp [execOp, resolve, hc, f1, invoke]
      rfl
    split at hq
    · rename_i v t hc hvs hat
      obtain ⟨cs, er⟩ := er hc hvs
      obtain ⟨u, S, hk, hS, hr⟩ := rLen_sound (ats := c.argTypes) (ty := type) (by rw [← Array.getElem?_toList, hat]; rfl) hq
      exact ⟨u, S, hk, hS, trivial, fun w hw => by rw [er w]; simp only [builtin]; exact run_value (hr w hw)⟩
    · rename_i v t hc hvs hat
      obtain ⟨cs, er⟩ := er hc hvs
      obtain ⟨u, S, hk, hS, hr⟩ := rCap_sound (h := h) (ats := c.argTypes) (ty := type) (by rw [← Array.getElem?_toList, hat]; rfl) hq
      exact ⟨u, S, hk, hS, trivial, fun w hw => by rw [er w]; simp only [builtin]; exact run_value (hr w hw)⟩
    · rename_i vs hc hvs
      obtain ⟨cs, er⟩ := er hc hvs
      obtain ⟨u, hk, hr⟩ := minFold_sound (P := P) (ats := c.argTypes) (ty := type) hq
      exact ⟨u, none, hk, trivial, trivial, fun w _ => by rw [er w]; simp only [builtin]; exact run_value (hr w)⟩
    · rename_i vs hc hvs
      obtain ⟨cs, er⟩ := er hc hvs
      obtain ⟨u, hk, hr⟩ := minFold_sound (P := P) (ats := c.argTypes) (ty := type) hq
      exact ⟨u, none, hk, trivial, trivial, fun w _ => by rw [er w]; simp only [builtin]; exact run_value (hr w)⟩
    · exact hq.elim
  | build t ps =>
    simp only [rOp] at hq
    split at hq
    · rename_i vs hvs
      split at hq
      · rename_i cs hcs
        refine ⟨_, none, hq, trivial, trivial, fun w _ => ?_⟩
        have hp : (ps.map fun x => (x.1, a.eval x.2)) = vs.toArray := by
          rw [← partVals_sound ha hvs]; apply Array.ext'; simp
        have he := buildL_sound (ps := vs.toArray) (by simpa using hcs) w
        simp only [execOp]
        rw [show (ps.map fun (i, x) => (i, a.eval x)) = vs.toArray from hp]
        exact run_value he
      · exact hq.elim
    · exact hq.elim
  | _ => simp only [rOp] at hq
end Go.Lift
/-
  Soundness of the operations that may turn the heap.
-/
namespace Go.Lift
open Go
variable {P : Program}
def WOut (P : Program) (s : Sem Next) (K : WK) (w : World) : Prop :=
  (∃ v w', s.run P w = .ok (.value v) w' ∧ Tame w w' ∧ K v w'.heap) ∨
  (∃ w', s.run P w = .ok .skip w' ∧ Tame w w' ∧ K undef w'.heap) ∨
  (∃ f args, s.run P w = .ok (.enter f args) w ∧ Calls P f args w fun e w' => Tame w w' ∧ ∃ v, e = .returned v ∧ K v w'.heap) ∨
  (∃ l fn tmps assign body, s.run P w = .ok (.round l fn tmps assign body) w ∧
    ∀ (c : Frame) (cs : List Frame), ∃ b w', Tame w w' ∧ K (.bool b) w'.heap ∧ Steps P (lone (Frame.round l fn tmps assign body .normal) (c :: cs) w) (lone (c.finish (.bool b)) cs w'))
def Wv (P : Program) (s : Sem Value) (K : WK) (w : World) : Prop := ∃ v w', s.run P w = .ok v w' ∧ Tame w w' ∧ K v w'.heap
theorem Wv.out {s : Sem Value} {K : WK} {w : World} (h : Wv P s K w) : WOut P (do pure (Next.value (← s))) K w := by
  obtain ⟨v, w', hr, ht, hk⟩ := h
  exact .inl ⟨v, w', run_value hr, ht, hk⟩
def Wu (P : Program) (s : Sem Unit) (K : WK) (w : World) : Prop := ∃ w', s.run P w = .ok () w' ∧ Tame w w' ∧ K undef w'.heap
theorem Wu.out {s : Sem Unit} {K : WK} {w : World} (h : Wu P s K w) : WOut P (do s; pure Next.skip) K w := by
  obtain ⟨w', hr, ht, hk⟩ := h
  exact .inr (.inl ⟨w', run_skip hr, ht, hk⟩)
def wHeap (w : World) (h : Heap) : World := { w with heap := h }
theorem wHeap_tame (w : World) (h : Heap) : Tame w (wHeap w h) := ⟨rfl, rfl, rfl⟩
theorem run_newRow (e : TypeId) (cs : Array Value) (w : World) : (newRow e cs).run P w = .ok (newA w.heap) (wHeap w (hnew w.heap cs.toList e)) := by
  simp [newRow, newObj, Sem.run, newA, wHeap, hnew, bind, Sem.bind, pure]
theorem run_newObj (o : Obj) (w : World) : (newObj o).run P w = .ok w.heap.size (wHeap w (w.heap.push o)) := rfl
theorem hcell_hset_ne {h : Heap} {a b : Addr} (v : Value) (hne : a ≠ b) : hcell (hset h a v) b = hcell h b :=
  World.cell?_setCell_other { (default : World) with heap := h } a b v hne
theorem hcell_hset_same {h : Heap} {a : Addr} {u : Value} (v : Value) (hc : hcell h a = some u) : hcell (hset h a v) a = some v :=
  World.cell?_setCell_same { (default : World) with heap := h } a v hc
theorem hfrozen_hset {h : Heap} {a b : Addr} (v : Value) : hfrozen (hset h a v) b = hfrozen h b :=
  World.frozen?_setCell { (default : World) with heap := h } a b v
theorem Wr.hset {h : Heap} {a b : Addr} (v : Value) (hw : Wr h b) : Wr (hset h a v) b := by
  obtain ⟨⟨u, hu⟩, hf⟩ := hw
  refine ⟨?_, by rw [hfrozen_hset]; exact hf⟩
  by_cases e : a = b
  · subst e; exact ⟨v, hcell_hset_same v hu⟩
  · exact ⟨u, by rw [hcell_hset_ne v e]; exact hu⟩
theorem run_store1 {w : World} {a : Addr} {v : Value} (hv : ∀ cs, v ≠ .agg cs) (hv' : ∀ cs, v ≠ .tuple cs) (hw : Wr w.heap a) : (store a v).run P w = .ok () (wHeap w (hset w.heap a v)) := by
  obtain ⟨⟨u, hu⟩, hf⟩ := hw
  have hu' : w.cell? a = some u := hu
  have hf' : w.frozen? a = false := hf
  cases v <;> first | exact absurd rfl (hv _) | exact absurd rfl (hv' _) | (simp only [store, Sem.run, hu', hf']; rfl)
theorem oneCell_cons {v : Value} {vs : List Value} (h : oneCell (v :: vs) = true) : (∀ cs, v ≠ .agg cs) ∧ (∀ cs, v ≠ .tuple cs) ∧ oneCell vs = true := by
  simp only [oneCell, Bool.and_eq_true] at h
  refine ⟨fun cs e => ?_, fun cs e => ?_, h.2⟩ <;> (subst e; exact absurd h.1 (by simp))
theorem run_storeCells {a : Addr} : ∀ (vs : List Value) (i : Nat) (w : World), oneCell vs = true → (∀ j, j < vs.length → Wr w.heap (adr a (i + j))) →
    (storeCells a vs i).run P w = .ok () (wHeap w (hsetL w.heap a i vs))
  | [], i, w, _, _ => rfl
  | v :: vs, i, w, h1, hw => by
    obtain ⟨n1, n2, h1⟩ := oneCell_cons h1
    have h0 := hw 0 (by simp)
    simp only [Nat.add_zero] at h0
    have ha : a.add i = adr a i := (adr_eq a i).symm
    simp only [storeCells, ha, Sem.run_bind, run_store1 n1 n2 h0, Result.andThen_ok]
    rw [run_storeCells vs (i + 1) (wHeap w (hset w.heap (adr a i) v)) h1 fun j hj => ?_]
    · rfl
    · have := hw (j + 1) (by simp only [List.length_cons]; omega)
      rw [show i + 1 + j = i + (j + 1) by omega]
      exact this.hset v
theorem hsetL_adr {a : Addr} (m : Nat) : ∀ (vs : List Value) (i : Nat) (h : Heap), hsetL h (adr a m) i vs = hsetL h a (m + i) vs
  | [], _, _ => rfl
  | v :: vs, i, h => by
    simp only [hsetL]
    rw [hsetL_adr m vs (i + 1), adr_adr]; rfl
theorem wStore_sound {t : TypeId} {a v : Value} {K : WK} {w : World} (hs : wStore P t a v K w.heap) : Wu P (Instr.storeAt t a v) K w := by
  unfold wStore at hs
  split at hs
  · rename_i a
    cases hb : (Nat.beq v.cells.toList.length (sizeT P t) && oneCell v.cells.toList) with
    | false => rw [hb] at hs; exact hs.elim
    | true =>
      rw [hb] at hs
      simp only [Bool.and_eq_true] at hb
      have hl := Nat.eq_of_beq_eq_true hb.1
      obtain ⟨hs, hz⟩ := okT_sound hs
      have hl' : v.cells.size = sizeT P t := by simpa using hl
      have go : (∀ j, j < v.cells.toList.length → Wr w.heap (adr a (0 + j))) → (Instr.storeAt t (.pointer (some a)) v).run P w = .ok () (wHeap w (hsetL w.heap a 0 v.cells.toList)) := by
        intro hw
        have := run_storeCells (P := P) v.cells.toList 0 w hb.2 hw
        simp [Instr.storeAt, Instr.sureAddr, storeVar, hz, hl', this]
      split at hs
      · rename_i u hu
        obtain ⟨hw, hk⟩ := hs
        refine ⟨_, go (fun j hj => ?_), wHeap_tame _ _, ?_⟩
        · rw [hu] at hj; simp only [List.length_cons, List.length_nil] at hj
          obtain rfl : j = 0 := by omega
          exact hw
        · rw [hu]; exact hk
      · obtain ⟨hw, hk⟩ := hs
        refine ⟨_, go (fun j hj => ?_), wHeap_tame _ _, hk⟩
        rcases hw with e | ⟨b, hb', hw⟩
        · rw [e] at hj; cases hj
        · cases hb'; exact hw j hj
  · exact hs.elim
theorem zeroCells_toList (z : Array Value) (n : Nat) : (Builtin.zeroCells z n).toList = zrow n z.toList := by
  have key : ∀ n, (List.range (n * z.size)).map (fun i => z[i % z.size]!) = (List.replicate n z.toList).flatten := by
    intro n
    induction n with
    | zero => simp
    | succ n ih =>
      rw [Nat.succ_mul, List.range_add, List.map_append, ih, List.replicate_succ', List.flatten_append]
      congr 1
      simp only [List.map_map, List.flatten_cons, List.flatten_nil, List.append_nil]
      apply List.ext_getElem
      · simp
      · intro i h1 h2
        simp only [List.length_map, List.length_range] at h1
        simp [Nat.mod_eq_of_lt h1, h1, Nat.add_mod]
  simpa [Builtin.zeroCells, zrow] using key n
theorem elemT_sound {t e : TypeId} (h : elemT P t = some e) : P.underlying t = some (.slice e) := by
  unfold elemT at h
  split at h
  · rename_i e' hu; simp only [Option.some.injEq] at h; subst h; exact hu
  · cases h
theorem zeroRow {z : Value} {n : Nat} : ((Array.range (n * z.cells.size)).map (z.cells[· % z.cells.size]!)) = (zrow n z.cells.toList).toArray := by
  have := zeroCells_toList z.cells n
  unfold Builtin.zeroCells at this
  apply Array.ext'
  rw [this]
theorem buildSlice_sound {t e : TypeId} {n : Nat} {ps : Array (Nat × Value)} {z cs : List Value} (ht : elemT P t = some e) (hz : zcells P e = some z) (hn : n * sizeT P e ≤ 16777216) (hl : z.length = sizeT P e)
    (hb : fillL (fun i => some (i * sizeT P e, sizeT P e)) (zrow n z) ps.toList = some cs) (w : World) :
    (Instr.buildSlice t n ps).run P w = .ok (.slice (some (newA w.heap)) n n) (wHeap w (hnew w.heap cs e)) := by
  obtain ⟨v, hv, hvc⟩ := zcells_some hz
  obtain ⟨i, hi, hiz⟩ := info_of_zero hv
  have hs : (sizeOf e).run P w = .ok (sizeT P e) w := by simp [sizeOf, run_typeInfo hi, sizeT, hi]
  have hvs : v.cells.size = sizeT P e := by rw [← hl, ← hvc]; simp
  have hf := fillL_sound _ _ _ hb
  have hrow : ((Array.range (n * sizeT P e)).map (fun i => (if n * sizeT P e = 0 then #[] else v.cells)[i % (if n * sizeT P e = 0 then #[] else v.cells).size]!)) = (zrow n z).toArray := by
    by_cases h0 : n * sizeT P e = 0
    · have : (zrow n z).length = 0 := by simp [zrow, hl, h0]
      rw [List.length_eq_zero_iff.1 this]
      simp [h0]
    · simp only [if_neg h0]
      rw [← hvs, zeroRow, hvc]
  have hn' : ¬ (n * sizeT P e > 2 ^ 24) := by omega
  simp only [Instr.buildSlice, Sem.run_bind, run_underlying (elemT_sound ht), Result.andThen_ok, hs, if_neg hn']
  by_cases h0 : n * sizeT P e = 0
  · simp only [if_pos h0] at hrow
    simp only [if_pos h0, Sem.run_bind, Sem.run_pure, Result.andThen_ok, hrow, hf, run_newRow]
  · simp only [if_neg h0] at hrow
    simp only [if_neg h0, Sem.run_bind, Sem.run_pure, Result.andThen_ok, zeroValue_run hv, hrow, hf, run_newRow]
theorem row_cells {h : Heap} {a : Addr} {vs : List Value} (hr : Row h a vs) : ∀ j v, vs[j]? = some v → hcell h (a.add j) = some v := fun j v hv => by
  rw [← adr_eq]; exact hr j v hv
theorem run_first {size n cap len : Nat} {b : Option Addr} {vs : List Value} {w : World} (hs : SRow w.heap b (n * size) vs) : (Builtin.firstCells size n (.slice b len cap)).run P w = .ok vs.toArray w := by
  obtain ⟨hl, hr⟩ := hs
  cases b with
  | none =>
    rcases hr with rfl | ⟨_, h, _⟩
    · simp [Builtin.firstCells]
    · cases h
  | some b =>
    refine run_firstCells_some w size n b len cap vs hl fun j v hv => ?_
    rcases hr with rfl | ⟨_, h, hr⟩
    · cases hv
    · cases h; exact row_cells hr j v hv
theorem storeS {a : Addr} {m : Nat} {xs : List Value} {w : World} (h1 : oneCell xs = true) (hw : WrS w.heap (some a) m xs) :
    (storeCells (a.add m) xs).run P w = .ok () (wHeap w (hsetL w.heap a m xs)) := by
  rcases hw with rfl | ⟨b, hb, hw⟩
  · rfl
  · cases hb
    have := run_storeCells (P := P) (a := adr a m) xs 0 w h1 fun j hj => by rw [adr_adr, Nat.zero_add]; exact hw j hj
    rw [← adr_eq, this, hsetL_adr, Nat.add_zero]
set_option maxHeartbeats 1000000 in
theorem appK_sound {t e u ty : TypeId} {b : Option Addr} {sl sc xl : Nat} {xs : List Value} {x : Value} {K : WK} {w : World} (ht : elemT P t = some e) (hu' : (∃ e', P.underlying u = some (.slice e')) ∨ P.underlying u = some .string)
    (hlen : ∀ w, (Builtin.lenOf x).run P w = .ok xl w) (hx : ∀ w' : World, w'.heap = w.heap → (Builtin.firstCells (sizeT P e) xl x).run P w' = .ok xs.toArray w')
    (hi : ∃ i, P.info? e = some i)
    (h : appK P e b sl sc xl xs K w.heap) : Wv P (Builtin.append_ #[t, u] ty #[.slice b sl sc, x]) K w := by
  obtain ⟨i, hi⟩ := hi
  have hsz : sizeT P e = i.size := by simp [sizeT, hi]
  have hby : bytesT P e = i.bytes := by simp [bytesT, hi]
  by_cases hc : sl + xl ≤ sc
  · obtain ⟨hw, h1, hk⟩ := h.1 hc
    refine ⟨_, _, ?_, wHeap_tame w (hsetS w.heap b (sl * sizeT P e) xs), hk⟩
    cases b with
    | none =>
      have hxs := hx w rfl
      rw [hsz] at hxs
      rcases hu' with ⟨e', hd⟩ | hd <;> (simp [Builtin.append_, run_underlying (elemT_sound ht), run_underlying hd, sizeOf, run_typeInfo hi, hlen, hc, hxs]; rfl)
    | some a =>
      have hst := storeS (P := P) h1 hw
      have hxs := hx w rfl
      rw [hsz] at hst hxs
      rcases hu' with ⟨e', hd⟩ | hd <;> (simp [Builtin.append_, run_underlying (elemT_sound ht), run_underlying hd, sizeOf, run_typeInfo hi, hlen, hc, hxs, hst, hsetS, hsz])
  · obtain ⟨old, z, ho, hz, hb0, h48, hk⟩ := h.2 (by omega)
    obtain ⟨v, hv, hvc⟩ := zcells_some hz
    obtain ⟨i', hi', hiz⟩ := info_of_zero hv
    rw [hi] at hi'; cases hi'
    rw [hby] at hb0 h48
    have hb0' : ¬ i.bytes = 0 := by omega
    have h48' : ¬ (281474976710656 < Builtin.nextslicecap (sl + xl) sc * i.bytes) := by omega
    have hxs := hx w.drew rfl
    have hol : (Builtin.firstCells (sizeT P e) sl (.slice b sl sc)).run P w.drew = .ok old.toArray w.drew := run_first ho
    rw [hsz] at hxs hol
    have hge : sl + xl ≤ (Question.appendCap (sl + xl) sc e).cut (w.tape w.drawn (.appendCap (sl + xl) sc e)) := Nat.le_add_right _ _
    refine ⟨_, wHeap w.drew (hnew w.heap (old ++ xs ++ zrow ((Question.appendCap (sl + xl) sc e).cut (w.tape w.drawn (.appendCap (sl + xl) sc e)) - (sl + xl)) z) e), ?_, ⟨rfl, rfl, rfl⟩, hk _ hge⟩
    have hzc : (Builtin.zeroCells v.cells ((Question.appendCap (sl + xl) sc e).cut (w.tape w.drawn (.appendCap (sl + xl) sc e)) - (sl + xl))) = (zrow ((Question.appendCap (sl + xl) sc e).cut (w.tape w.drawn (.appendCap (sl + xl) sc e)) - (sl + xl)) z).toArray := by
      apply Array.ext'; rw [zeroCells_toList, hvc]
    rcases hu' with ⟨e', hd⟩ | hd <;> (simp [Builtin.append_, run_underlying (elemT_sound ht), run_underlying hd, sizeOf, run_typeInfo hi, hlen, hc, hb0', h48', Question.forced, hxs, hol, zeroValue_run hv, run_newRow, hzc, newA]; rfl)
theorem isSome_hasInfo {t : TypeId} {K : Prop} (h : okT P t K) : ∃ i, P.info? t = some i := by
  unfold okT at h
  cases hi : P.info? t with
  | none => rw [hi] at h; exact h.elim
  | some i => exact ⟨i, rfl⟩
theorem hasInfo_size {t : TypeId} (h : sizeT P t ≠ 0) : ∃ i, P.info? t = some i := by
  cases hi : P.info? t with
  | none => exact absurd (by simp [sizeT, hi]) h
  | some i => exact ⟨i, rfl⟩
theorem bytes_first {size n : Nat} {x : ByteArray} {w : World} : (Builtin.firstCells size n (.string x)).run P w = .ok ((byteVals x).take n).toArray w := by
  simp only [Builtin.firstCells, Sem.run_pure]
  congr 1
  apply Array.ext'
  simp [byteVals, ByteArray.data_extract, List.extract_eq_take_drop, ← List.map_take]
theorem wAppend_sound {t u ty : TypeId} {s x : Value} {K : WK} {w : World} (hu' : (∃ e', P.underlying u = some (.slice e')) ∨ P.underlying u = some .string) (h : wAppend P t s x K w.heap) :
    Wv P (Builtin.append_ #[t, u] ty #[s, x]) K w := by
  unfold wAppend at h
  split at h
  · rename_i e b sl sc a xl xc ht
    have hi := isSome_hasInfo h
    obtain ⟨⟨xs, hxs, hk⟩, hz⟩ := okT_sound h
    exact appK_sound ht hu' (fun w => rfl) (fun w' hw => run_first (by rw [hw]; exact hxs)) hi hk
  · rename_i e b sl sc x ht
    cases hb : Nat.beq (sizeT P e) 1 with
    | false => rw [hb] at h; exact h.elim
    | true =>
      rw [hb] at h
      have h1 := Nat.eq_of_beq_eq_true hb
      have hl : (byteVals x).length = x.size := by simp [byteVals]
      refine appK_sound ht hu' (fun w => rfl) (fun w' _ => ?_) (hasInfo_size (by omega)) h
      rw [bytes_first, List.take_of_length_le (by omega)]
  · exact h.elim
theorem wrap64_id {n : Int} (h0 : 0 ≤ n) (h1 : n ≤ 9223372036854775807) : IntKind.i64.wrap n = n := IntWalk.i64_in n ⟨by omega, h1⟩
theorem appZ_sound {t e u ty : TypeId} {b : Option Addr} {sl sc : Nat} {k0 k : IntKind} {l : Int} {z : List Value} {K : WK} {w : World} (ht : elemT P t = some e) (hu : P.underlying u = some (.int k0))
    (hz : zcells P e = some z) (hzl : z.length = sizeT P e) (h0 : 0 ≤ l) (h1 : l * bytesT P e ≤ 2 ^ 48) (h2 : l ≤ 9223372036854775807) (h3 : ((sl + l.toNat : Nat) : Int) ≤ 9223372036854775807)
    (h : appK P e b sl sc l.toNat (zrow l.toNat z) K w.heap) : Wv P (Builtin.append_ #[t, u] ty #[.slice b sl sc, .int k l]) K w := by
  obtain ⟨v, hv, hvc⟩ := zcells_some hz
  obtain ⟨i, hi, hiz⟩ := info_of_zero hv
  have hsz : sizeT P e = i.size := by simp [sizeT, hi]
  have hby : bytesT P e = i.bytes := by simp [bytesT, hi]
  have hw : IntKind.wrap .i64 l = l := wrap64_id h0 h2
  have hl0 : ¬ l < 0 := by omega
  rw [hby] at h1
  have h1' : ¬ (281474976710656 : Int) < l * i.bytes := by omega
  have hai : ∀ w' : World, (asInt (.int k l)).run P w' = .ok l w' := fun w' => rfl
  have hzn : (Builtin.zeroCells v.cells l.toNat) = (zrow l.toNat z).toArray := by apply Array.ext'; rw [zeroCells_toList, hvc]
  have hz0 : l.toNat * i.size = 0 → zrow l.toNat z = [] := fun h0' => by
    have hlen : (zrow l.toNat z).length = l.toNat * i.size := by rw [← hsz, ← hzl]; unfold zrow; simp
    exact List.length_eq_zero_iff.1 (by rw [hlen, h0'])
  by_cases hc : sl + l.toNat ≤ sc
  · obtain ⟨hw', h1, hk⟩ := h.1 hc
    refine ⟨_, _, ?_, wHeap_tame w (hsetS w.heap b (sl * sizeT P e) (zrow l.toNat z)), hk⟩
    cases b with
    | none =>
      by_cases hs : l.toNat * i.size = 0
      · simp [Builtin.append_, run_underlying (elemT_sound ht), run_underlying hu, sizeOf, run_typeInfo hi, hai, hw, hl0, h1', hc, hs]; rfl
      · simp [Builtin.append_, run_underlying (elemT_sound ht), run_underlying hu, sizeOf, run_typeInfo hi, hai, hw, hl0, h1', hc, hs, zeroValue_run hv]; rfl
    | some a =>
      have hst := storeS (P := P) h1 hw'
      rw [hsz] at hst
      by_cases hs : l.toNat * i.size = 0
      · rw [hz0 hs] at hst
        simp [Builtin.append_, run_underlying (elemT_sound ht), run_underlying hu, sizeOf, run_typeInfo hi, hai, hw, hl0, h1', hc, hst, hsetS, hsz, hs, hz0 hs]
      · simp [Builtin.append_, run_underlying (elemT_sound ht), run_underlying hu, sizeOf, run_typeInfo hi, hai, hw, hl0, h1', hc, hst, hsetS, hsz, hs, zeroValue_run hv, hzn]
  · obtain ⟨old, z', ho, hz', hb0, h48, hk⟩ := h.2 (by omega)
    rw [hz] at hz'; cases hz'
    rw [hby] at hb0 h48
    have hb0' : ¬ i.bytes = 0 := by omega
    have h48' : ¬ (281474976710656 < Builtin.nextslicecap (sl + l.toNat) sc * i.bytes) := by omega
    have h3' : ¬ (9223372036854775807 : Int) < ((sl : Int) + (l.toNat : Int)) := by omega
    have h3'' : ¬ (9223372036854775807 : Int) < ((sl : Int) + max l 0) := by omega
    have hol : (Builtin.firstCells (sizeT P e) sl (.slice b sl sc)).run P w.drew = .ok old.toArray w.drew := run_first ho
    rw [hsz] at hol
    have hge : sl + l.toNat ≤ (Question.appendCap (sl + l.toNat) sc e).cut (w.tape w.drawn (.appendCap (sl + l.toNat) sc e)) := Nat.le_add_right _ _
    refine ⟨_, wHeap w.drew (hnew w.heap (old ++ zrow l.toNat z ++ zrow ((Question.appendCap (sl + l.toNat) sc e).cut (w.tape w.drawn (.appendCap (sl + l.toNat) sc e)) - (sl + l.toNat)) z) e), ?_, ⟨rfl, rfl, rfl⟩, hk _ hge⟩
    have hzc : (Builtin.zeroCells v.cells ((Question.appendCap (sl + l.toNat) sc e).cut (w.tape w.drawn (.appendCap (sl + l.toNat) sc e)) - (sl + l.toNat))) = (zrow ((Question.appendCap (sl + l.toNat) sc e).cut (w.tape w.drawn (.appendCap (sl + l.toNat) sc e)) - (sl + l.toNat)) z).toArray := by
      apply Array.ext'; rw [zeroCells_toList, hvc]
    by_cases hs : l.toNat * i.size = 0
    · rw [hz0 hs] at hk ⊢
      simp [Builtin.append_, run_underlying (elemT_sound ht), run_underlying hu, sizeOf, run_typeInfo hi, hai, hw, hl0, h1', hc, h3', h3'', h48', Question.forced, hol, zeroValue_run hv, run_newRow, hzc, newA, hs]; rfl
    · simp [Builtin.append_, run_underlying (elemT_sound ht), run_underlying hu, sizeOf, run_typeInfo hi, hai, hw, hl0, h1', hc, h3', h3'', h48', Question.forced, hol, zeroValue_run hv, run_newRow, hzc, newA, hs, hzn]; rfl
theorem wAppendZ_sound {t u ty : TypeId} {k0 : IntKind} {s x : Value} {K : WK} {w : World} (hu : P.underlying u = some (.int k0)) (h : wAppendZ P t s x K w.heap) :
    Wv P (Builtin.append_ #[t, u] ty #[s, x]) K w := by
  unfold wAppendZ at h
  split at h
  · rename_i e b sl sc k l ht
    split at h
    · rename_i z hz
      cases hb : Nat.beq z.length (sizeT P e) with
      | false => rw [hb] at h; exact h.elim
      | true =>
        rw [hb] at h
        obtain ⟨⟨h0, h1, h2, h3⟩, hk⟩ := h
        exact appZ_sound ht hu hz (Nat.eq_of_beq_eq_true hb) h0 h1 h2 h3 hk
    · exact h.elim
  · exact h.elim
theorem oneCell_join : ∀ {a b : List Value}, oneCell a = true → oneCell b = true → oneCell (a ++ b) = true
  | [], _, _, h => h
  | v :: a, b, h, k => by
    simp only [oneCell, List.cons_append, Bool.and_eq_true] at h ⊢
    exact ⟨h.1, oneCell_join h.2 k⟩
theorem oneCell_zrow {z : List Value} (h : oneCell z = true) : ∀ n, oneCell (zrow n z) = true
  | 0 => rfl
  | n + 1 => by
    have : zrow (n + 1) z = z ++ zrow n z := by simp [zrow, List.replicate_succ]
    rw [this]
    exact oneCell_join h (oneCell_zrow h n)
theorem wClear_sound {t ty : TypeId} {x : Value} {K : WK} {w : World} (h : wClear P t x K w.heap) : Wv P (Builtin.clear_ #[t] ty #[x]) K w := by
  unfold wClear at h
  split at h
  · rename_i e a n c ht
    split at h
    · rename_i z hz
      obtain ⟨v, hv, hvc⟩ := zcells_some hz
      cases ho : oneCell z with
      | false => rw [ho] at h; exact h.elim
      | true =>
        rw [ho] at h
        obtain ⟨hw, hk⟩ := h
        refine ⟨_, _, ?_, wHeap_tame w (hsetS w.heap a 0 (zrow n z)), hk⟩
        cases a with
        | none => simp [Builtin.clear_, run_underlying (elemT_sound ht)]; rfl
        | some a =>
          cases n with
          | zero => simp [Builtin.clear_, run_underlying (elemT_sound ht)]; rfl
          | succ n =>
            have hst := storeS (P := P) (oneCell_zrow ho (n + 1)) hw
            rw [← adr_eq, adr_zero] at hst
            have hzc : (Builtin.zeroCells v.cells (n + 1)).toList = zrow (n + 1) z := by rw [zeroCells_toList, hvc]
            simp [Builtin.clear_, run_underlying (elemT_sound ht), zeroValue_run hv, hzc, hst, hsetS]
    · exact h.elim
  · exact h.elim
theorem oneCell_take : ∀ (xs : List Value) (n : Nat), oneCell xs = true → oneCell (xs.take n) = true
  | [], n, _ => by simp [oneCell]
  | x :: xs, 0, _ => by simp [oneCell]
  | x :: xs, n + 1, h => by
    simp only [oneCell, Bool.and_eq_true, List.take_succ_cons] at h ⊢
    exact ⟨h.1, oneCell_take xs n h.2⟩
theorem oneCell_bytes (x : ByteArray) : oneCell (byteVals x) = true := by
  have : ∀ l : List UInt8, oneCell (l.map fun b => .int .u8 (b.toNat : Int)) = true := by
    intro l
    induction l with
    | nil => rfl
    | cons b l ih => simp [oneCell, ih]
  exact this _
theorem wCopy_sound {t u ty : TypeId} {d s : Value} {K : WK} {w : World} (h : wCopy P t d s K w.heap) : Wv P (Builtin.copy_ #[t, u] ty #[d, s]) K w := by
  unfold wCopy at h
  split at h
  · rename_i e b dl dc a sl sc ht
    obtain ⟨⟨xs, hxs, hw, h1, hk⟩, hz⟩ := okT_sound h
    refine ⟨_, _, ?_, wHeap_tame w (hsetS w.heap b 0 xs), hk⟩
    have hf := run_first (P := P) (len := sl) (cap := sc) hxs
    cases b with
    | none => simp [Builtin.copy_, run_underlying (elemT_sound ht), Builtin.lenOf, hz, hf, goInt]; rfl
    | some c =>
      have hst := storeS (P := P) (m := 0) h1 hw
      simp only [Addr.add, if_pos] at hst
      simp [Builtin.copy_, run_underlying (elemT_sound ht), Builtin.lenOf, hz, hf, goInt, hst, hsetS]
  · rename_i e b dl dc x ht
    cases hb : Nat.beq (sizeT P e) 1 with
    | false => rw [hb] at h; exact h.elim
    | true =>
      rw [hb] at h
      have h1 := Nat.eq_of_beq_eq_true hb
      obtain ⟨i, hi⟩ := hasInfo_size (P := P) (t := e) (by omega)
      have hz : (sizeOf e).run P w = .ok (sizeT P e) w := by simp [sizeOf, run_typeInfo hi, sizeT, hi]
      obtain ⟨hw, hk⟩ := h
      have hl : (byteVals x).length = x.size := by simp [byteVals]
      have he : (byteVals x).take (Nat.min x.size dl) = (byteVals x).take dl := by
        by_cases hx : x.size ≤ dl
        · rw [show Nat.min x.size dl = x.size from Nat.min_eq_left hx, List.take_of_length_le (by omega), List.take_of_length_le (by omega)]
        · rw [show Nat.min x.size dl = dl from Nat.min_eq_right (by omega)]
      have hf : (Builtin.firstCells (sizeT P e) (Nat.min x.size dl) (.string x)).run P w = .ok ((byteVals x).take dl).toArray w := by
        rw [bytes_first, he]
      refine ⟨_, _, ?_, wHeap_tame w (hsetS w.heap b 0 ((byteVals x).take dl)), hk⟩
      cases b with
      | none => simp [Builtin.copy_, run_underlying (elemT_sound ht), Builtin.lenOf, hz, hf, goInt]; rfl
      | some c =>
        have hst := storeS (P := P) (m := 0) (oneCell_take _ dl (oneCell_bytes x)) hw
        simp only [Addr.add, if_pos] at hst
        simp [Builtin.copy_, run_underlying (elemT_sound ht), Builtin.lenOf, hz, hf, goInt, hst, hsetS]
  · exact h.elim
theorem putE_eq (k v : Value) (clock : Nat) : ∀ (es : List MapEntry), (match es.findIdx? (fun e => sameKey k e.key) with
    | some i => (es.modify i (fun e => { e with key := k, val := v }), clock)
    | none => (es ++ [{ key := k, val := v, born := clock }], clock + 1)) = putE k v clock es
  | [] => rfl
  | e :: es => by
    have ih := putE_eq k v clock es
    simp only [putE, List.findIdx?_cons]
    cases hk : sameKey k e.key with
    | true => simp [List.modify]
    | false =>
      simp only [Bool.false_eq_true, if_false]
      rw [← ih]
      cases hf : es.findIdx? (fun e => sameKey k e.key) with
      | none => simp
      | some i => simp [List.modify]
theorem findNow_idx {d : TypeDesc} {c : CK} (hd : KeyDesc d c) (x : c.den) : ∀ (es : List MapEntry) (i : Nat), keysOf c es →
    Instr.findNow d (c.enc x) es i = some (match es.findIdx? (fun e => sameKey (c.enc x) e.key) with
      | some j => (es[j]?).map fun e => (i + j, e.val)
      | none => none)
  | [], i, _ => rfl
  | e :: es, i, h => by
    obtain ⟨y, hy⟩ := h e (by simp)
    have hs := sameNow_key hd x y
    rw [← hy] at hs
    have ih := findNow_idx hd x es (i + 1) fun e' he' => h e' (by simp [he'])
    simp only [Instr.findNow, List.findIdx?_cons, hs]
    cases hb : sameKey (c.enc x) e.key with
    | true => simp
    | false =>
      simp only [Bool.false_eq_true, if_false]
      rw [ih]
      cases hf : es.findIdx? (fun e => sameKey (c.enc x) e.key) with
      | none => simp
      | some j => simp [Nat.add_assoc, Nat.add_comm 1 j]
theorem bytes_eq_of_beq {a b : ByteArray} (h : (a == b) = true) : a = b := by
  cases a with | mk a => cases b with | mk b =>
  have h : (a == b) = true := h
  rw [eq_of_beq h]
theorem bytes_beq_self (a : ByteArray) : (a == a) = true := by
  cases a with | mk a =>
  exact beq_self_eq_true a
theorem sameBits_key {d : TypeDesc} {c : CK} (hd : KeyDesc d c) (x y : c.den) (h : sameKey (c.enc x) (c.enc y) = true) : Instr.sameBits 10000 (c.enc y) (c.enc x) = true := by
  rcases hd with ⟨i, rfl, rfl⟩ | ⟨rfl, rfl⟩ | ⟨rfl, rfl⟩
  · have h : x = y := eq_of_beq (α := Int) h
    subst h
    have : ∀ n : Int, (i == i && n == n) = true := fun n => by simp
    exact this x
  · have h : x = y := bytes_eq_of_beq h
    subst h
    exact bytes_beq_self x
  · have h : x = y := eq_of_beq (α := Bool) h
    subst h
    exact beq_self_eq_true (α := Bool) x
theorem run_setObj {w : World} {r : Nat} {es : Array MapEntry} {clock : Nat} {o : Obj} (h : w.heap[r]? = some (.map es clock)) : (setObj r o).run P w = .ok () (wHeap w (w.heap.setIfInBounds r o)) := by
  simp only [setObj, Sem.run, h]; rfl
theorem mapPut_run {t k e : TypeId} {d : TypeDesc} {c : CK} (hu : P.underlying t = some (.map k e)) (hk : P.underlying k = some d) (hd : KeyDesc d c) {r : Nat} {x : c.den} {v : Value} {w : World} (hm : IsMap c w.heap r) :
    (Instr.mapUpdate t (.map (some r)) (c.enc x) v).run P w = .ok () (wHeap w (mput w.heap r (c.enc x) v)) := by
  obtain ⟨es, clock, hb, hks⟩ := hm
  obtain ⟨q, h1, h2, h3⟩ := findKey_ok (P := P) hd hk x hks w
  rw [findNow_idx hd x es.toList 0 hks] at h2
  have hput := putE_eq (c.enc x) v clock es.toList
  have hmp : mput w.heap r (c.enc x) v = w.heap.setIfInBounds r (.map (putE (c.enc x) v clock es.toList).1.toArray (putE (c.enc x) v clock es.toList).2) := by
    simp only [mput, hb]
  rw [hmp, ← hput]
  simp only [Instr.mapUpdate, Sem.run_bind, run_underlying hu, Result.andThen_ok, run_getMap hb, checkKey10000 hd hk, h1]
  cases hf : es.toList.findIdx? (fun e => sameKey (c.enc x) e.key) with
  | none =>
    rw [hf] at h2
    simp only [Option.some.injEq] at h2
    subst h2
    simp only [run_setObj hb]
    congr 4
    apply Array.ext'; simp
  | some i =>
    rw [hf] at h2
    simp only [Option.some.injEq] at h2
    obtain ⟨hi, hp, _⟩ := List.findIdx?_eq_some_iff_getElem.1 hf
    have he : es.toList[i]? = some es.toList[i] := List.getElem?_eq_getElem hi
    rw [he] at h2
    simp only [Option.map_some, Nat.zero_add] at h2
    subst h2
    have he' : es[i]? = some es.toList[i] := by rw [← Array.getElem?_toList]; exact he
    obtain ⟨y, hy⟩ := hks es.toList[i] (List.getElem_mem hi)
    have hsb : Instr.sameBits 10000 (es.toList[i]).key (c.enc x) = true := by
      rw [hy] at hp ⊢; exact sameBits_key hd x y hp
    simp only [he', Option.map_some, Option.getD_some, Instr.keyThatStays, hsb, if_true, Sem.run_bind, Sem.run_pure, Result.andThen_ok, run_setObj hb]
    congr 4
    apply Array.ext'; simp
theorem wMapPut_sound {t : TypeId} {m k v : Value} {K : WK} {w : World} (h : wMapPut P t m k v K w.heap) : Wu P (Instr.mapUpdate t m k v) K w := by
  unfold wMapPut at h
  split at h
  · rename_i c e m hc
    obtain ⟨kt, d, hu, hk, hd⟩ := keyCK_sound hc
    obtain ⟨kx, rfl, r, rfl, hm, hK⟩ := CK.dec_sound h
    exact ⟨_, mapPut_run hu hk hd hm, wHeap_tame _ _, hK⟩
  · exact h.elim
theorem dropE_eq (k : Value) : ∀ (es : List MapEntry), (match es.findIdx? (fun e => sameKey k e.key) with
    | some i => es.eraseIdx i
    | none => es) = dropE k es
  | [] => rfl
  | e :: es => by
    have ih := dropE_eq k es
    simp only [dropE, List.findIdx?_cons]
    cases hk : sameKey k e.key with
    | true => simp
    | false =>
      simp only [Bool.false_eq_true, if_false]
      rw [← ih]
      cases hf : es.findIdx? (fun e => sameKey k e.key) <;> simp
theorem mapDrop_run {t k e ty : TypeId} {ts : Array TypeId} {d : TypeDesc} {c : CK} (ht : ts[0]? = some t) (hu : P.underlying t = some (.map k e)) (hk : P.underlying k = some d) (hd : KeyDesc d c) {r : Nat} {x : c.den} {w : World} (hm : IsMap c w.heap r) :
    (Builtin.delete_ ts ty #[.map (some r), c.enc x]).run P w = .ok (.tuple #[]) (wHeap w (mdrop w.heap r (c.enc x))) := by
  obtain ⟨es, clock, hb, hks⟩ := hm
  obtain ⟨q, h1, h2, h3⟩ := findKey_ok (P := P) hd hk x hks w
  rw [findNow_idx hd x es.toList 0 hks] at h2
  have hdrop := dropE_eq (c.enc x) es.toList
  have hmp : mdrop w.heap r (c.enc x) = w.heap.setIfInBounds r (.map (dropE (c.enc x) es.toList).toArray clock) := by
    simp only [mdrop, hb]
  rw [hmp, ← hdrop]
  simp only [Builtin.delete_, ht, List.getElem?_toArray, List.getElem?_cons_zero, List.getElem?_cons_succ, Sem.run_bind, run_underlying hu, Result.andThen_ok, run_getMap hb, checkKey10000 hd hk, h1]
  cases hf : es.toList.findIdx? (fun e => sameKey (c.enc x) e.key) with
  | none =>
    rw [hf] at h2
    simp only [Option.some.injEq] at h2
    subst h2
    simp [run_setObj hb]
  | some i =>
    rw [hf] at h2
    simp only [Option.some.injEq] at h2
    obtain ⟨hi, hp, _⟩ := List.findIdx?_eq_some_iff_getElem.1 hf
    have he : es.toList[i]? = some es.toList[i] := List.getElem?_eq_getElem hi
    rw [he] at h2
    simp only [Option.map_some, Nat.zero_add] at h2
    subst h2
    have hi' : i < es.size := by simpa using hi
    have herase : es.eraseIdxIfInBounds i = (es.toList.eraseIdx i).toArray := by
      apply Array.ext'
      simp [Array.eraseIdxIfInBounds, hi']
    simp [run_setObj hb, herase]
theorem wMapDrop_sound {t ty : TypeId} {ts : Array TypeId} {m k : Value} {K : WK} {w : World} (ht : ts[0]? = some t) (h : wMapDrop P t m k K w.heap) : Wv P (Builtin.delete_ ts ty #[m, k]) K w := by
  unfold wMapDrop at h
  split at h
  · rename_i c e m hc
    obtain ⟨kt, d, hu, hk, hd⟩ := keyCK_sound hc
    obtain ⟨kx, rfl, h⟩ := CK.dec_sound h
    rcases h with ⟨rfl, hK⟩ | ⟨r, rfl, hm, hK⟩
    · refine ⟨_, w, ?_, Tame.refl w, hK⟩
      simp [Builtin.delete_, ht, run_underlying hu, checkKey10000 hd hk]
    · exact ⟨_, _, mapDrop_run ht hu hk hd hm, wHeap_tame _ _, hK⟩
  · exact h.elim
theorem range_run {t k e : TypeId} (hu : P.underlying t = some (.map k e)) {m : Option Nat} {clock : Nat} {w : World} (hm : m = none ∧ clock = 0 ∨ ∃ r es, m = some r ∧ w.heap[r]? = some (.map es clock)) :
    (Instr.range t (.map m)).run P w = .ok (.pointer (some (newA w.heap))) (wHeap w (w.heap.push (.mapIter m clock #[] clock))) := by
  rcases hm with ⟨rfl, rfl⟩ | ⟨r, es, rfl, hb⟩
  · simp only [Instr.range, Sem.run_bind, run_underlying hu, Result.andThen_ok, Sem.run_pure, run_newObj, newA]
  · simp only [Instr.range, Sem.run_bind, run_underlying hu, Result.andThen_ok, Sem.run_pure, run_getMap hb, run_newObj, newA]
theorem run_getIter {w : World} {i : Nat} {m : Option Nat} {since : Nat} {seen : Array Nat} {last : Nat} (h : w.heap[i]? = some (.mapIter m since seen last)) : (getObj i).run P w = .ok (.mapIter m since seen last) w := by
  simp only [getObj, Sem.run, h]
theorem run_setIter {w : World} {i : Nat} {m : Option Nat} {since : Nat} {seen : Array Nat} {last : Nat} {o : Obj} (h : w.heap[i]? = some (.mapIter m since seen last)) : (setObj i o).run P w = .ok () (wHeap w (w.heap.setIfInBounds i o)) := by
  simp only [setObj, Sem.run, h]; rfl
theorem choose_mapNext (n : Nat) (hn : 0 < n) (w : World) : ∃ k w', k < n ∧ (choose (.mapNext n)).run P w = .ok k w' ∧ Tame w w' ∧ w'.heap = w.heap := by
  unfold choose
  simp only [Sem.run]
  by_cases h : (Question.mapNext n).forced = true
  · exact ⟨0, w, hn, by rw [if_pos h], Tame.refl w, rfl⟩
  · refine ⟨(Question.mapNext n).cut (w.tape w.drawn (.mapNext n)), { w with drawn := w.drawn + 1 }, Nat.mod_lt _ hn, by rw [if_neg h], ⟨rfl, rfl, rfl⟩, rfl⟩
theorem wNext_sound {it : Value} {t : TypeId} {K : WK} {w : World} (h : wNext it K w.heap) : Wv P (Instr.next it false t) K w := by
  unfold wNext at h
  split at h
  · rename_i a
    obtain ⟨h0, m, since, seen, last, hi, h⟩ := h
    obtain ⟨b, off, spot⟩ := a
    simp only at h0 hi h
    subst h0
    rcases h with ⟨rfl, hK⟩ | ⟨r, es, clock, rfl, hb, hnon, hend, hgo⟩
    · exact ⟨_, w, by simp only [Instr.next, Sem.run_bind, run_getIter hi, Result.andThen_ok, Sem.run_pure], Tame.refl w, hK⟩
    · have hguard : (!seen.isEmpty && !es.isEmpty && es.all (fun e => decide (e.born ≥ last))) = false := by
        rcases hnon with h | h | h <;> simp [h]
      obtain ⟨left, hleft⟩ : ∃ left, left = es.filter fun e => !seen.contains e.born := ⟨_, rfl⟩
      obtain ⟨old, hold⟩ : ∃ old, old = left.filter (·.born < since) := ⟨_, rfl⟩
      obtain ⟨new, hnew⟩ : ∃ new, new = left.filter (·.born ≥ since) := ⟨_, rfl⟩
      obtain ⟨cand, hcand⟩ : ∃ cand : Array (Option MapEntry), cand = (if old.isEmpty then #[none] else #[]) ++ (old ++ new).map some := ⟨_, rfl⟩
      have hpos : 0 < cand.size := by
        rw [hcand]
        by_cases ho : old.isEmpty = true
        · simp [ho]; omega
        · have : old.size ≠ 0 := by simpa using ho
          simp [ho]; omega
      obtain ⟨k, w1, hk, hrun, ht, hh⟩ := choose_mapNext (P := P) cand.size hpos w
      obtain ⟨c, hc⟩ : ∃ c, cand[k]? = some c := ⟨cand[k], Array.getElem?_eq_getElem hk⟩
      have hi1 : w1.heap[b]? = some (.mapIter (some r) since seen last) := by rw [hh]; exact hi
      have hguard' : (!seen.isEmpty && !es.isEmpty && es.all fun x => decide (x.born ≥ last)) = false := hguard
      cases c with
      | none =>
        refine ⟨.tuple #[.bool false], w1, ?_, ht, ?_⟩
        · simp only [Instr.next, Sem.run_bind, run_getIter hi, Result.andThen_ok, Sem.run_pure, run_getMap hb, hguard', Bool.false_eq_true, if_false, ← hleft, ← hold, ← hnew, ← hcand, hrun, hc]
        · rw [hh]
          have hold0 : old.isEmpty = true := by
            have hm : none ∈ cand := Array.mem_of_getElem? hc
            rw [hcand] at hm
            by_cases ho : old.isEmpty = true
            · exact ho
            · simp [ho] at hm
          refine hend fun e he hlt => ?_
          cases hs : seen.contains e.born with
          | true => rfl
          | false =>
            have hmem : e ∈ old := by
              rw [hold, hleft]
              simp only [Array.mem_filter]
              exact ⟨⟨by simpa using he, by rw [hs]; rfl⟩, by simpa using hlt⟩
            rw [Array.isEmpty_iff] at hold0
            rw [hold0] at hmem
            simp at hmem
      | some e =>
        have hmem : e ∈ es ∧ seen.contains e.born = false := by
          have hm : some e ∈ cand := Array.mem_of_getElem? hc
          have hm2 : e ∈ left := by
            rw [hcand] at hm
            rw [Array.mem_append] at hm
            rcases hm with hm | hm
            · split at hm <;> simp at hm
            · simp only [Array.mem_map, Option.some.injEq, exists_eq_right, Array.mem_append] at hm
              rcases hm with hm | hm
              · rw [hold] at hm; exact (Array.mem_filter.1 hm).1
              · rw [hnew] at hm; exact (Array.mem_filter.1 hm).1
          rw [hleft] at hm2
          have := Array.mem_filter.1 hm2
          exact ⟨this.1, by simpa using this.2⟩
        refine ⟨.tuple #[.bool true, e.key, e.val], wHeap w1 (w1.heap.setIfInBounds b (.mapIter (some r) since (seen.push e.born) clock)), ?_, ht.trans (wHeap_tame _ _), ?_⟩
        · simp only [Instr.next, Sem.run_bind, run_getIter hi, Result.andThen_ok, Sem.run_pure, run_getMap hb, hguard', Bool.false_eq_true, if_false, ← hleft, ← hold, ← hnew, ← hcand, hrun, hc, run_setIter hi1]
        · rw [hh]
          exact hgo e (by simpa using hmem.1) hmem.2
  · exact h.elim
theorem makeSlice_run {t e : TypeId} {z : List Value} {k k' : IntKind} {l c : Int} {w : World} (ht : elemT P t = some e) (hz : zcells P e = some z) (hzl : z.length = sizeT P e) (h0 : 0 ≤ l) (h1 : l ≤ c) (h2 : c ≤ 9223372036854775807) (h3 : bytesT P e * c ≤ 2 ^ 48) :
    (Instr.makeSlice t (.int k l) (.int k' c)).run P w = .ok (.slice (some (newA w.heap)) l.toNat c.toNat) (wHeap w (hnew w.heap (zrow c.toNat z) e)) := by
  obtain ⟨v, hv, hvc⟩ := zcells_some hz
  obtain ⟨i, hi, hiz⟩ := info_of_zero hv
  have hsz : sizeT P e = i.size := by simp [sizeT, hi]
  have hby : bytesT P e = i.bytes := by simp [bytesT, hi]
  have hvs : v.cells.size = i.size := by rw [← hsz, ← hzl, ← hvc]; simp
  have hl := wrap64_id h0 (by omega)
  have hc := wrap64_id (show 0 ≤ c by omega) h2
  rw [hby] at h3
  have c1 : ¬ (c < 0) := by omega
  have c2 : ¬ (281474976710656 < (i.bytes : Int) * c) := by omega
  have c3 : ¬ (l < 0) := by omega
  have c4 : ¬ (c < l) := by omega
  by_cases hz0 : c.toNat * i.size = 0
  · have hz1 : (zrow c.toNat z).length = 0 := by simp [zrow, hzl, hsz, hz0]
    rw [List.length_eq_zero_iff.1 hz1]
    simp [Instr.makeSlice, run_underlying (elemT_sound ht), asInt, asIntOf, run_typeInfo hi, hl, hc, c1, c2, c3, c4, sizeOf, hz0, run_newRow]
  · have hrow : ((Array.range (c.toNat * i.size)).map (fun j => v.cells[j % v.cells.size]!)) = (zrow c.toNat z).toArray := by
      rw [← hvs, zeroRow, hvc]
    have key : (newRow e ((Array.range (c.toNat * i.size)).map (fun j => v.cells[j % v.cells.size]!))).run P w = .ok (newA w.heap) (wHeap w (hnew w.heap (zrow c.toNat z) e)) := by
      rw [hrow, run_newRow]
    simp [Instr.makeSlice, run_underlying (elemT_sound ht), asInt, asIntOf, run_typeInfo hi, hl, hc, c1, c2, c3, c4, sizeOf, hz0, zeroValue_run hv]
    rw [key]; rfl
theorem Agree.args {N : Nat} {r : Regs} {a : Act} (h : Agree N r a) {os : Array Operand} {vs : List Value} (hv : revals r os.toList = some vs) : os.map a.eval = vs.toArray := by
  rw [← revals_sound h hv]; apply Array.ext'; simp
theorem HC.out {f : FuncId} {args : List Value} {ks : List Kind} {K : WK} {w : World} (h : HC P f args ks (fun x h' => K (retV ks (encs ks x)) h') w.heap) : WOut P (callFunc f args.toArray) K w := by
  rcases h.run w rfl with ⟨h1, h2⟩ | ⟨v, w', h1, ht, x, rfl, hk⟩
  · refine .inr (.inr (.inl ⟨f, args.toArray, h1, h2.mono ?_⟩))
    rintro e w' ⟨ht, x, rfl, hk⟩
    exact ⟨ht, _, rfl, hk⟩
  · exact .inl ⟨_, w', h1, ht, hk⟩
theorem wOp_sound {o : Oper} {r : Regs} {K : WK} {w : World} {N : Nat} {a : Act} (ha : Agree N r a) (hq : wOp P o r K w.heap) : WOut P (execOp a.eval o) K w := by
  have ev : ∀ {x : Operand} {v : Value}, reval r x = some v → a.eval x = v := fun h => reval_sound ha h
  obtain ⟨dst, op, type, pos, after, guard⟩ := o
  cases op with
  | alloc t =>
    simp only [wOp] at hq
    split at hq
    · rename_i z hz
      obtain ⟨v, hv, hvc⟩ := zcells_some hz
      have he : (Instr.alloc t true (.tuple #[])).run P w = .ok (.pointer (some (newA w.heap))) (wHeap w (hnew w.heap z t)) := by
        simp [Instr.alloc, zeroValue_run hv, newVar, run_newRow, hvc]
      exact Wv.out ⟨_, _, he, wHeap_tame _ _, hq⟩
    · exact hq.elim
  | box t x =>
    simp only [wOp] at hq
    split at hq
    · rename_i v hv
      have he : (Instr.box t v).run P w = .ok (.pointer (some (newA w.heap))) (wHeap w (hnew w.heap v.cells.toList t)) := by
        simp [Instr.box, newVar, run_newRow]
      simp only [execOp, ev hv]
      exact Wv.out ⟨_, _, he, wHeap_tame _ _, hq⟩
    · exact hq.elim
  | build t ps =>
    simp only [wOp] at hq
    split at hq
    · rename_i vs hvs
      split at hq
      · rename_i cs hcs
        have hp : (ps.map fun x => (x.1, a.eval x.2)) = vs.toArray := by
          rw [← partVals_sound ha hvs]; apply Array.ext'; simp
        have he := buildL_sound (ps := vs.toArray) (by simpa using hcs) w
        simp only [execOp]
        rw [show (ps.map fun (i, x) => (i, a.eval x)) = vs.toArray from hp]
        exact Wv.out ⟨_, w, he, Tame.refl w, hq⟩
      · exact hq.elim
    · exact hq.elim
  | buildSlice t n ps =>
    simp only [wOp] at hq
    split at hq
    · rename_i e vs ht hvs
      split at hq
      · rename_i z hz
        cases hb : (Nat.ble (n * sizeT P e) 16777216 && Nat.beq z.length (sizeT P e)) with
        | false => rw [hb] at hq; exact hq.elim
        | true =>
          rw [hb] at hq
          simp only [Bool.and_eq_true] at hb
          simp only [cond_true] at hq
          split at hq
          · rename_i cs hcs
            have hp : (ps.map fun x => (x.1, a.eval x.2)) = vs.toArray := by
              rw [← partVals_sound ha hvs]; apply Array.ext'; simp
            have he := buildSlice_sound (ps := vs.toArray) ht hz (Nat.le_of_ble_eq_true hb.1) (Nat.eq_of_beq_eq_true hb.2) (by simpa using hcs) w
            simp only [execOp]
            rw [show (ps.map fun (i, x) => (i, a.eval x)) = vs.toArray from hp]
            exact Wv.out ⟨_, _, he, wHeap_tame _ _, hq⟩
          · exact hq.elim
      · exact hq.elim
    · exact hq.elim
  | store t x y =>
    simp only [wOp] at hq
    split at hq
    · rename_i b v hb hv
      simp only [execOp, ev hb, ev hv]
      exact Wu.out (wStore_sound hq)
    · exact hq.elim
  | mapUpdate t m k x =>
    simp only [wOp] at hq
    split at hq
    · rename_i mv kv xv hm hk hx
      simp only [execOp, ev hm, ev hk, ev hx]
      exact Wu.out (wMapPut_sound hq)
    · exact hq.elim
  | insert t m k x =>
    simp only [wOp] at hq
    split at hq
    · rename_i mv kv xv hm hk hx
      simp only [execOp, ev hm, ev hk, ev hx]
      exact Wu.out (wMapPut_sound hq)
    · exact hq.elim
  | makeMap t n =>
    simp only [wOp] at hq
    cases n with
    | none => exact Wv.out ⟨_, wHeap w (w.heap.push (.map #[] 0)), by simp [Instr.makeMap]; rfl, wHeap_tame _ _, hq⟩
    | some n =>
      simp only at hq
      split at hq
      · rename_i k i hn ht
        exact Wv.out ⟨_, wHeap w (w.heap.push (.map #[] 0)), by simp [Instr.makeMap, ev hn, run_underlying ht, asInt, asIntOf]; rfl, wHeap_tame _ _, hq⟩
      · exact hq.elim
  | makeSlice t l c =>
    simp only [wOp] at hq
    split at hq
    · rename_i e k l' k' c' ht hl hc
      split at hq
      · rename_i z hz
        cases hb : Nat.beq z.length (sizeT P e) with
        | false => rw [hb] at hq; exact hq.elim
        | true =>
          rw [hb] at hq
          obtain ⟨⟨h0, h1, h2, h3⟩, hq⟩ := hq
          simp only [execOp, ev hl, ev hc]
          exact Wv.out ⟨_, _, makeSlice_run ht hz (Nat.eq_of_beq_eq_true hb) h0 h1 h2 h3, wHeap_tame _ _, hq⟩
      · exact hq.elim
    · exact hq.elim
  | range t x =>
    simp only [wOp] at hq
    split at hq
    · rename_i k e m hu hx
      obtain ⟨clock, hm, hq⟩ := hq
      simp only [execOp, ev hx]
      exact Wv.out ⟨_, _, range_run hu hm, wHeap_tame _ _, hq⟩
    · exact hq.elim
  | next it isS =>
    cases isS with
    | true => simp only [wOp] at hq
    | false =>
      simp only [wOp] at hq
      split at hq
      · rename_i v hv
        simp only [execOp, ev hv]
        exact Wv.out (wNext_sound hq)
      · exact hq.elim
  | call c =>
    simp only [wOp] at hq
    have eb : ∀ {b : Builtin} {vs : List Value}, c.callee = .builtin b → revals r c.args.toList = some vs → ∃ cs : Array Bool, ∀ w, (execOp a.eval ⟨dst, .call c, type, pos, after, guard⟩).run P w =
        (builtin b c.argTypes type cs vs.toArray).run P w := by
      intro b vs hc hvs
      refine ⟨c.args.map fun | .const _ => true | _ => false, fun w => ?_⟩
      simp [execOp, resolve, hc, ha.args hvs, invoke]
      rfl
    have wo : ∀ {s s' : Sem Next}, (∀ w, s.run P w = s'.run P w) → WOut P s' K w → WOut P s K w := by
      intro s s' he h
      unfold WOut at h ⊢
      simp only [he]
      exact h
    split at hq
    · rename_i s x hc hvs
      split at hq
      · rename_i t u hat
        obtain ⟨cs, er⟩ := eb hc hvs
        refine wo er ?_
        have hat' : c.argTypes = #[t, u] := by apply Array.ext'; rw [hat]
        simp only [builtin, hat']
        split at hq
        · rename_i e' hu; exact Wv.out (wAppend_sound (.inl ⟨e', hu⟩) hq)
        · rename_i hu; exact Wv.out (wAppend_sound (.inr hu) hq)
        · rename_i k0 hu; exact Wv.out (wAppendZ_sound hu hq)
        · exact hq.elim
      · exact hq.elim
    · rename_i x hc hvs
      split at hq
      · rename_i t hat
        obtain ⟨cs, er⟩ := eb hc hvs
        refine wo er ?_
        have hat' : c.argTypes = #[t] := by apply Array.ext'; rw [hat]
        simp only [builtin, hat']
        exact Wv.out (wClear_sound hq)
      · exact hq.elim
    · rename_i s x hc hvs
      split at hq
      · rename_i t u hat
        obtain ⟨cs, er⟩ := eb hc hvs
        refine wo er ?_
        have hat' : c.argTypes = #[t, u] := by apply Array.ext'; rw [hat]
        simp only [builtin, hat']
        exact Wv.out (wCopy_sound hq)
      · exact hq.elim
    · rename_i m k hc hvs
      split at hq
      · rename_i t u hat
        obtain ⟨cs, er⟩ := eb hc hvs
        refine wo er ?_
        simp only [builtin]
        exact Wv.out (wMapDrop_sound (by rw [← Array.getElem?_toList, hat]; rfl) hq)
      · exact hq.elim
    · rename_i f args hc hvs
      unfold wCall at hq
      split at hq
      · exact hq.elim
      · rename_i ks hks
        split at hq
        · rename_i f
          refine wo (s' := callFunc f args.toArray) (fun w => ?_) hq.out
          simp [execOp, resolve, hc, ha.args hvs, Act.eval, Deferred.ofValue, invoke]
        · rename_i f hf
          split at hq
          · rename_i fv hfv
            rcases hq.run with ⟨g, first, cap, rfl, hh⟩ | ⟨l, rfl, hh⟩
            rotate_left
            · obtain ⟨fn, tmps, assign, body, h1, h2⟩ := hh.run w rfl
              refine .inr (.inr (.inr ⟨l, fn, tmps, assign, body, ?_, fun c cs => ?_⟩))
              · rw [← h1]
                simp [execOp, resolve, hc, ha.args hvs, ev hfv, Deferred.ofValue, invoke]
              · obtain ⟨b, w', ht, hk, hs⟩ := h2 c cs
                refine ⟨b, w', ht, ?_, hs⟩
                obtain ⟨t, e, hk⟩ := decs_sound hk
                have hl : ks.length = 1 := by rw [← encs_length ks t, ← e]; rfl
                match ks, hl, t, e, hk with
                | [k], _, t, e, hk => rw [← e] at hk; exact hk
            refine wo (s' := callFunc g (first.toList ++ args ++ cap.toList).toArray) (fun w => ?_) hh.out
            have e : first ++ args.toArray ++ cap = (first.toList ++ args ++ cap.toList).toArray := by apply Array.ext'; simp
            rw [← e]
            simp [execOp, resolve, hc, ha.args hvs, ev hfv, Deferred.ofValue, invoke]
          · exact hq.elim
    · exact hq.elim
  | _ => simp only [wOp] at hq
end Go.Lift
/-
  Soundness of a region's operations in the order of its text, and in whatever order.
-/
namespace Go.Lift
open Go
variable {P : Program} {ro : Option Nat} {n : Nat}
def FW (ro : Option Nat) : Fence := { fn := fun _ => True, depth := none, alive := false, round := ro }
theorem fenced_FW (m : Machine) : m.fenced P (FW ro) := by
  intro g _
  exact ⟨fun h => by simp [FW] at h, .inl trivial, fun _ _ => trivial, fun d h => by simp [FW] at h⟩
theorem stepsIn_FW {m m' : Machine} (h : Steps P m m') : StepsIn (Machine.fenced P (FW ro)) P m m' := (StepsIn.of_steps h).mono fun m _ => fenced_FW m
theorem callsIn_FW {k : Nat} {f : FuncId} {args : Array Value} {w : World} {R : Ending → World → Prop} (h : Calls P f args w R) : CallsIn (FW ro) k P f args w R := by
  refine ⟨trivial, fun cs _ => ?_⟩
  obtain ⟨e, w', fr, hR, hc, hfn, hl⟩ := h cs
  refine ⟨e, w', fr, hR, ?_, hfn, hl⟩
  cases e with
  | returned v => exact stepsIn_FW hc
  | panicked c => exact stepsIn_FW hc
  | outgrown => exact hc
theorem wpIn_of_out {o : Oper} {a : Act} {w : World} {K : WK} {next : Act → World → Prop} {Q : Exit → Act → World → Prop} (hd : ∀ c, o.op ≠ .defer c) (h : WOut P (execOp a.eval o) K w)
    (hk : ∀ v w', Tame w w' → K v w'.heap → next (a.put o.dst v) w') : o.wpIn (FW ro) n P a w next Q := by
  refine ⟨fun _ _ => trivial, ?_⟩
  rw [Oper.semAt_eq _ _ _ hd]
  rcases h with ⟨v, w', hr, ht, hK⟩ | ⟨w', hr, ht, hK⟩ | ⟨f, args, hr, hc⟩ | ⟨l, fn, tmps, assign, body, hr, hc⟩
  · rw [hr]; exact hk v w' ht hK
  · rw [hr]; exact hk undef w' ht hK
  · rw [hr]
    refine ⟨fun h => by simp [FW] at h, callsIn_FW (hc.mono ?_)⟩
    rintro e w' ⟨ht, v, rfl, hK⟩
    exact hk v w' ht hK
  · rw [hr]
    refine ⟨fun h => by simp [FW] at h, trivial, fun c cs _ => ?_⟩
    obtain ⟨b, w', ht, hK, hs⟩ := hc c cs
    exact ⟨.returned (.bool b), w', hk _ w' ht hK, stepsIn_FW hs⟩
theorem dstK_ok {N : Nat} {o : Oper} {v : Value} {r : Regs} {K : Regs → Prop} {a : Act} {d : Dec} {dv : DV} (h : dstK N o v r K) (ha : Agree N r a) (hd : DecOk d r) (hv : DVok dv v) :
    ∃ r', K r' ∧ Agree N r' (a.put o.dst v) ∧ DecOk (dPut d o dv) r' := by
  unfold dstK at h
  unfold dPut
  cases ho : o.dst with
  | none => rw [ho] at h; exact ⟨r, h, ha, hd⟩
  | some t =>
    rw [ho] at h
    simp only at h
    cases hb : Nat.blt t N with
    | false => rw [hb] at h; exact h.elim
    | true =>
      rw [hb] at h
      have hlt : t < N := by simpa using hb
      refine ⟨_, h, ha.put t v hlt, fun s => ?_⟩
      by_cases e : t = s
      · subst e
        have : dlook ((t, dv) :: d) t = dv := by simp [dlook]
        rw [this]
        exact .inr ⟨v, rlook_cons_eq t v r, hv⟩
      · have h1 : dlook ((t, dv) :: d) s = dlook d s := by
          have : Nat.beq t s = false := Bool.eq_false_iff.2 fun e' => e (Nat.eq_of_beq_eq_true e')
          show (bif Nat.beq t s then dv else dlook d s) = _
          rw [this]; rfl
        rw [h1, rlook_cons_ne v r e]
        exact hd s
theorem rOp_nodefer {ek : Option (Kind × Kind)} {o : Op} {r : Regs} {K : RK} {h : Heap} (hq : rOp P ek o r K h) : ∀ c, o ≠ .defer c := by
  intro c e; subst e; exact hq
theorem wOp_nodefer {o : Oper} {r : Regs} {K : WK} {h : Heap} (hq : wOp P o r K h) : ∀ c, o.op ≠ .defer c := by
  intro c e
  unfold wOp at hq
  rw [e] at hq
  exact hq
theorem dOf_x {d : Dec} {o : Op} (h : Quiet o = false) : dOf d o = .x := by
  cases o <;> first | rfl | (simp [Quiet] at h)
theorem sOp_sound {N : Nat} {ek : Option (Kind × Kind)} {o : Oper} {r : Regs} {K : Regs → Heap → Prop} {a : Act} {w : World} {d : Dec} {next : Act → World → Prop} {Q : Exit → Act → World → Prop}
    (hs : sOp P N ek o r K w.heap) (ha : Agree N r a) (hd : DecOk d r)
    (hk : ∀ v w' r', Tame w w' → K r' w'.heap → Agree N r' (a.put o.dst v) → DecOk (dPut d o (dOf d o.op)) r' → next (a.put o.dst v) w') : o.wpIn (FW ro) n P a w next Q := by
  unfold sOp at hs
  cases hq : Quiet o.op with
  | true =>
    rw [hq, cond_true] at hs
    obtain ⟨v, S, hK, hS, hdv, hr⟩ := rOp_sound ha hs d hd
    refine wpIn_of_out (K := fun u h' => u = v ∧ h' = w.heap) (rOp_nodefer hs) (.inl ⟨v, w, hr w hS, Tame.refl w, rfl, rfl⟩) ?_
    rintro u w' ht ⟨rfl, hh⟩
    obtain ⟨r', hr', ha', hd'⟩ := dstK_ok hK ha hd hdv
    exact hk u w' r' ht (by rw [hh]; exact hr') ha' hd'
  | false =>
    rw [hq, cond_false] at hs
    refine wpIn_of_out (wOp_nodefer hs) (wOp_sound ha hs) ?_
    intro v w' ht hK
    obtain ⟨r', hr', ha', hd'⟩ := dstK_ok hK ha hd (dv := dOf d o.op) (by rw [dOf_x hq]; trivial)
    exact hk v w' r' ht hr' ha' hd'
theorem getD_bool {t : Array Value} {i : Nat} {b : Bool} (h : t.getD i undef = .bool b) : t[i]? = some (.bool b) := by
  rw [Array.getD_eq_getD_getElem?] at h
  cases hc : t[i]? with
  | none => rw [hc] at h; simp [undef] at h
  | some v => rw [hc] at h; simp at h; rw [h]
theorem getD_undef {t : Array Value} {i : Nat} (h : t.getD i undef = undef) : t[i]? = none ∨ t[i]? = some undef := by
  rw [Array.getD_eq_getD_getElem?] at h
  cases hc : t[i]? with
  | none => exact .inl rfl
  | some v => rw [hc] at h; simp at h; rw [h]; exact .inr rfl
theorem wantedL_sound {N : Nat} {ops : Array Oper} {d : Dec} {o : Oper} {b : Bool} {r : Regs} {a : Act} (h : wantedL ops.toList d o = some b) (ha : Agree N r a) (hd : DecOk d r) :
    Region.wanted o (yielded ops a.tmps) = b := by
  unfold wantedL at h
  unfold Region.wanted
  cases hg : o.guard with
  | none => rw [hg] at h; simp only [Option.some.injEq] at h; exact h
  | some g =>
    obtain ⟨j, want⟩ := g
    rw [hg] at h
    simp only [Array.getElem?_toList] at h
    simp only
    cases hj : ops[j]? with
    | none => rw [hj] at h; cases h
    | some oj =>
      rw [hj] at h
      simp only at h
      cases ht : oj.dst with
      | none => rw [ht] at h; cases h
      | some t =>
        rw [ht] at h
        simp only at h
        have hy : yielded ops a.tmps j = (match a.tmps[t]? with | some (.bool b) => some b | _ => none) := by
          unfold yielded; simp [hj, ht]
          rfl
        rw [hy]
        rcases hd t with hx | ⟨v, hv, hk⟩
        · rw [hx] at h; cases h
        · have hav := ha.look t v hv
          cases hdl : dlook d t with
          | x => rw [hdl] at h; cases h
          | t =>
            rw [hdl] at h hk; simp only [Option.some.injEq] at h; subst h
            have : v = .bool true := hk
            subst this
            rw [getD_bool hav]; cases want <;> rfl
          | f =>
            rw [hdl] at h hk; simp only [Option.some.injEq] at h; subst h
            have : v = .bool false := hk
            subst this
            rw [getD_bool hav]; cases want <;> rfl
          | u =>
            rw [hdl] at h hk; simp only [Option.some.injEq] at h; subst h
            have : v = undef := hk
            subst this
            rcases getD_undef hav with e | e <;> rw [e] <;> cases want <;> rfl
structure Fr (W : Nat → Prop) (a0 : Act) (w0 : World) (a : Act) (w : World) : Prop where
  tame : Tame w0 w
  defers : a.defers = a0.defers
  same : ∀ t, ¬ W t → a.tmps.getD t undef = a0.tmps.getD t undef
theorem Fr.refl (W : Nat → Prop) (a : Act) (w : World) : Fr W a w a w := ⟨Tame.refl w, rfl, fun _ _ => rfl⟩
theorem Fr.put {W : Nat → Prop} {a0 a : Act} {w0 w w' : World} (h : Fr W a0 w0 a w) {o : Oper} (hW : ∀ d, o.dst = some d → W d) (v : Value) (ht : Tame w w') : Fr W a0 w0 (a.put o.dst v) w' := by
  refine ⟨h.tame.trans ht, ?_, fun t hn => ?_⟩
  · cases ho : o.dst <;> simp [Act.put, h.defers]
  · cases ho : o.dst with
    | none => exact h.same t hn
    | some d =>
      have hne : d ≠ t := fun e => hn (e ▸ hW d ho)
      rw [← h.same t hn]
      simp [Act.put, Array.getElem?_setIfInBounds_ne hne]
theorem Fr.trans {W : Nat → Prop} {a0 a1 a2 : Act} {w0 w1 w2 : World} (h : Fr W a0 w0 a1 w1) (k : Fr W a1 w1 a2 w2) : Fr W a0 w0 a2 w2 :=
  ⟨h.tame.trans k.tame, k.defers.trans h.defers, fun t ht => (k.same t ht).trans (h.same t ht)⟩
theorem Fr.mono {W W' : Nat → Prop} {a0 a : Act} {w0 w : World} (h : Fr W a0 w0 a w) (hW : ∀ t, W t → W' t) : Fr W' a0 w0 a w :=
  ⟨h.tame, h.defers, fun t ht => h.same t fun e => ht (hW t e)⟩
theorem DecOk.known {d : Dec} {r : Regs} (h : DecOk d r) {t : Nat} {dv : DV} {v : Value} (hv : DVok dv v) : DecOk ((t, dv) :: d) ((t, v) :: r) := fun s => by
  by_cases e : t = s
  · subst e
    have : dlook ((t, dv) :: d) t = dv := by simp [dlook]
    rw [this]
    exact .inr ⟨v, rlook_cons_eq t v r, hv⟩
  · have h1 : dlook ((t, dv) :: d) s = dlook d s := by
      have : Nat.beq t s = false := Bool.eq_false_iff.2 fun e' => e (Nat.eq_of_beq_eq_true e')
      show (bif Nat.beq t s then dv else dlook d s) = _
      rw [this]; rfl
    rw [h1, rlook_cons_ne v r e]
    exact h s
theorem wpOp_known {N : Nat} {ek : Option (Kind × Kind)} {ops : Array Oper} {o : Oper} {i : Nat} {d : Dec} {r : Regs} {a : Act} {w : World} {b : Bool} {K : Dec → Regs → Heap → Prop} {next : Act → World → Prop} {Q : Exit → Act → World → Prop}
    (hi : ops[i]? = some o) (hw : wantedL ops.toList d o = some b) (ha : Agree N r a) (hd : DecOk d r)
    (hs : match b with
      | true => sOp P N ek o r (K (dPut d o (dOf d o.op))) w.heap
      | false => dstK N o undef r fun r' => K (dPut d o .u) r' w.heap)
    (hk : ∀ v w' d' r', Tame w w' → K d' r' w'.heap → Agree N r' (a.put o.dst v) → DecOk d' r' → next (a.put o.dst v) w') :
    wpOpIn (FW ro) n P ops Q i next a w := by
  unfold wpOpIn
  rw [hi]
  simp only [wantedL_sound hw ha hd]
  cases b with
  | true => exact sOp_sound hs ha hd fun v w' r' ht hK ha' hd' => hk v w' _ r' ht hK ha' hd'
  | false =>
    obtain ⟨r', hr', ha', hd'⟩ := dstK_ok (dv := .u) hs ha hd rfl
    exact ⟨fun _ _ => trivial, hk undef w _ r' (Tame.refl w) hr' ha' hd'⟩
theorem sOps_cons {N : Nat} {ek : Option (Kind × Kind)} {ops : List Oper} {o : Oper} {os : List Oper} {d : Dec} {K : Regs → Heap → Prop} {r : Regs} {h : Heap} : sOps P N ek ops (o :: os) d K r h =
    (match wantedL ops d o with
    | some true => sOp P N ek o r (fun r' h' => sOps P N ek ops os (dPut d o (dOf d o.op)) K r' h') h
    | some false => dstK N o undef r fun r' => sOps P N ek ops os (dPut d o .u) K r' h
    | none => match guardReg ops o with
      | none => False
      | some t => match rlook r t with
        | some (.bool b) => CondP b
            (sStep P N ek ops o ((t, .t) :: d) ((t, .bool true) :: r) h fun d' r' h' => sOps P N ek ops os d' K r' h')
            (sStep P N ek ops o ((t, .f) :: d) ((t, .bool false) :: r) h fun d' r' h' => sOps P N ek ops os d' K r' h')
        | _ => False) := rfl
theorem wpOp_step {N : Nat} {ek : Option (Kind × Kind)} {ops : Array Oper} {o : Oper} {i : Nat} {d : Dec} {r : Regs} {a : Act} {w : World} {K : Dec → Regs → Heap → Prop} {next : Act → World → Prop} {Q : Exit → Act → World → Prop}
    (hi : ops[i]? = some o) (ha : Agree N r a) (hd : DecOk d r) (hs : sStep P N ek ops.toList o d r w.heap K)
    (hk : ∀ v w' d' r', Tame w w' → K d' r' w'.heap → Agree N r' (a.put o.dst v) → DecOk d' r' → next (a.put o.dst v) w') :
    wpOpIn (FW ro) n P ops Q i next a w := by
  unfold sStep at hs
  cases hw : wantedL ops.toList d o with
  | none => rw [hw] at hs; exact hs.elim
  | some b => rw [hw] at hs; exact wpOp_known (ek := ek) hi hw ha hd (by cases b <;> exact hs) hk
theorem sOps_sound {N : Nat} {ek : Option (Kind × Kind)} {ops : Array Oper} {W : Nat → Prop} (hW : ∀ o ∈ ops.toList, ∀ d, o.dst = some d → W d) {a0 : Act} {w0 : World} {K : Regs → Heap → Prop} {Q : Exit → Act → World → Prop}
    (hQ : ∀ r a w, Agree N r a → Fr W a0 w0 a w → K r w.heap → Q .normal a w) :
    ∀ (l : List Oper) (i : Nat), ops.toList.drop i = l → ∀ (d : Dec) (r : Regs) (a : Act) (w : World), sOps P N ek ops.toList l d K r w.heap → Agree N r a → DecOk d r → Fr W a0 w0 a w →
      wpOpsIn (FW ro) n P ops Q (List.range' i l.length) a w
  | [], i, _, d, r, a, w, hs, ha, hd, hf => hQ r a w ha hf hs
  | o :: os, i, hdr, d, r, a, w, hs, ha, hd, hf => by
    have hi : ops[i]? = some o := by
      rw [← Array.getElem?_toList]
      have : (ops.toList.drop i)[0]? = some o := by rw [hdr]; rfl
      simpa using this
    have hmem : o ∈ ops.toList := List.mem_of_getElem? (by rw [Array.getElem?_toList]; exact hi)
    have hdr' : ops.toList.drop (i + 1) = os := by rw [← List.tail_drop, hdr]; rfl
    rw [List.length_cons, List.range'_succ, wpOpsIn_cons]
    rw [sOps_cons] at hs
    have go : ∀ v w' d' r', Tame w w' → sOps P N ek ops.toList os d' K r' w'.heap → Agree N r' (a.put o.dst v) → DecOk d' r' → wpOpsIn (FW ro) n P ops Q (List.range' (i + 1) os.length) (a.put o.dst v) w' :=
      fun v w' d' r' ht hK ha' hd' => sOps_sound hW hQ os (i + 1) hdr' d' r' _ w' hK ha' hd' (hf.put (hW o hmem) v ht)
    cases hw : wantedL ops.toList d o with
    | some b =>
      rw [hw] at hs
      exact wpOp_known (ek := ek) (K := fun d' r' h' => sOps P N ek ops.toList os d' K r' h') hi hw ha hd (by cases b <;> exact hs) go
    | none =>
      rw [hw] at hs
      simp only at hs
      split at hs
      · exact hs.elim
      · rename_i t ht
        split at hs
        · rename_i b hb
          cases b with
          | true => exact wpOp_step hi (ha.known hb) (hd.known (dv := .t) rfl) (hs.yes rfl) go
          | false => exact wpOp_step hi (ha.known hb) (hd.known (dv := .f) rfl) (hs.no rfl) go
        · exact hs.elim
end Go.Lift
