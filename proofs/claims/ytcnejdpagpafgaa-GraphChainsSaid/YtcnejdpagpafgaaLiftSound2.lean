/-
  Soundness of the operations that only read or reckon: what rOp asks makes the model's operation yield that value, in every heap that holds what it hangs on.
-/
import Derived.Test.YtcnejdpagpafgaaLiftSound1
import Derived.Laws.Cover3
namespace Go.Lift
open Go
def SOk (S : Option (Heap → Prop)) (h : Heap) : Prop := match S with | none => True | some f => f h
/-- The value v, in every heap in which S holds. -/
def Yv (P : Program) (s : Sem Value) (K : RK) (h : Heap) : Prop := ∃ v S, K v S ∧ SOk S h ∧ ∀ w : World, SOk S w.heap → s.run P w = .ok v w
theorem Yv.of_pure {P : Program} {s : Sem Value} {K : RK} {h : Heap} {v : Value} (hk : K v none) (hr : ∀ w : World, s.run P w = .ok v w) : Yv P s K h :=
  ⟨v, none, hk, trivial, fun w _ => hr w⟩
variable {P : Program}

theorem fieldOff_sound {t : TypeId} {f : Nat} {u : TypeId} {off : Nat} (h : fieldOff P t f = some (u, off)) :
    ∃ fs g, P.underlying t = some (.struct fs) ∧ fs[f]? = some g ∧ g.type = u ∧ g.offset = off := by
  unfold fieldOff at h
  split at h
  · rename_i fs hu
    split at h
    · rename_i g hg
      simp only [Option.some.injEq, Prod.mk.injEq] at h
      exact ⟨fs, g, hu, by simpa using hg, h.1, h.2⟩
    · cases h
  · cases h
theorem sizeOf_run {t : TypeId} (h : Nat.beq (sizeT P t) 0 = false) (w : World) : (sizeOf t).run P w = .ok (sizeT P t) w := by
  unfold sizeT at h ⊢
  cases hi : P.info? t with
  | none => rw [hi] at h; cases h
  | some i => simp [sizeOf, run_typeInfo hi]
theorem fieldAddr_sound {t : TypeId} {f : Nat} {u : TypeId} {off : Nat} {a : Addr} {K : RK} {h : Heap} (hf : fieldOff P t f = some (u, off))
    (hk : bif Nat.beq (sizeT P u) 0 then False else K (.pointer (some (adr a off))) none) : Yv P (Instr.fieldAt t (.pointer (some a)) f) K h := by
  obtain ⟨fs, g, hu, hg, rfl, rfl⟩ := fieldOff_sound hf
  cases hz : Nat.beq (sizeT P g.type) 0 with
  | true => rw [hz] at hk; exact hk.elim
  | false =>
    rw [hz] at hk
    refine .of_pure hk fun w => ?_
    have hne : sizeT P g.type ≠ 0 := fun e => by rw [e] at hz; cases hz
    simp only [Instr.fieldAt, Sem.run_bind, run_underlying hu, Result.andThen_ok, hg, Instr.sureAddr, Sem.run_pure, fieldPlace, sizeOf_run hz]
    simp [hne, adr_eq]
theorem aggT_sound {t : TypeId} {i : TypeInfo} (_ : P.info? t = some i) (hu : ∃ d, P.underlying t = some d) (w : World) : (isAgg t).run P w = .ok (aggT P t) w := by
  obtain ⟨d, hd⟩ := hu
  simp only [isAgg, Sem.run_bind, run_underlying hd, Result.andThen_ok]
  unfold aggT; rw [hd]
  cases d <;> rfl

/-! ### Comparisons, arithmetic -/
theorem shiftV_sound {op : BinOp} {k k' : IntKind} {a b : Int} {K : RK} {h : Heap} (hs : op = .shl ∨ op = .shr) (hv : shiftV op k a b K) : Yv P (Op.shift op k a k' b) K h := by
  rcases hs with rfl | rfl
  · obtain ⟨h0, hk⟩ := hv
    refine .of_pure hk fun w => ?_
    simp [Op.shift, Int.not_lt.2 h0]
  · obtain ⟨h0, hk⟩ := hv
    refine .of_pure hk fun w => ?_
    simp [Op.shift, Int.not_lt.2 h0]
theorem intV_sound {op : BinOp} {k : IntKind} {a b : Int} {K : RK} {h : Heap} (hv : intV op k a b K) (hs : op ≠ .shl ∧ op ≠ .shr) : Yv P (binOp op 0 (.int k a) (.int k b)) K h := by
  cases op <;> simp only [intV] at hv
  case quo => obtain ⟨h0, hk⟩ := hv; exact .of_pure hk fun w => by simp [binOp, Op.intDiv, h0]
  case rem => obtain ⟨h0, hk⟩ := hv; exact .of_pure hk fun w => by simp [binOp, Op.intDiv, h0]
  all_goals exact .of_pure hv fun w => by simp [binOp, Op.intArith, Op.intBits, Op.intCmp]
theorem binOp_int_type (op : BinOp) (t : TypeId) (k k' : IntKind) (a b : Int) : binOp op t (.int k a) (.int k' b) = binOp op 0 (.int k a) (.int k' b) := by
  cases op <;> rfl
theorem strV_sound {op : BinOp} {t : TypeId} {a b : ByteArray} {K : RK} {h : Heap} (hv : strV op a b K) : Yv P (binOp op t (.string a) (.string b)) K h := by
  cases op <;> simp only [strV] at hv
  case add =>
    obtain ⟨h0, hk⟩ := hv
    refine .of_pure hk fun w => ?_
    have : ¬ (((a.size + b.size : Nat) : Int) > IntKind.i64.max) := by
      have : IntKind.i64.max = 9223372036854775807 := by decide
      omega
    simp only [binOp, Op.stringOp, if_neg this, Sem.run_pure]
  all_goals exact .of_pure hv fun w => by simp [binOp, Op.stringOp]
theorem equal_of_in {t : TypeId} {x y : Value} {b : Bool} {w : World} (h : ∀ d, (Op.equalIn (d + 1) t x y).run P w = .ok b w) : (Op.equal t x y).run P w = .ok b w := h 9999
theorem equal_ptr_none {t : TypeId} {e : TypeId} (hu : P.underlying t = some (.pointer e)) (a : Option Addr) (w : World) : (Op.equal t (.pointer a) (.pointer none)).run P w = .ok a.isNone w := by
  refine equal_of_in fun d => ?_
  simp only [Op.equalIn, Sem.run_bind, run_underlying hu, Result.andThen_ok]
  cases a <;> rfl
theorem eqGuard_ok (op : BinOp) (t : TypeId) (x y : Operand) (a b : Value) (h : ∀ c d, a = .agg c → b = .agg d → False) (hi : a = .nilIface → b = .nilIface → False) (w : World) :
    (eqGuard op t x y a b).run P w = .ok () w := by
  cases op
  case eql => cases a <;> cases b <;> first | rfl | exact (hi rfl rfl).elim | exact (h _ _ rfl rfl).elim
  case neq => cases a <;> cases b <;> first | rfl | exact (hi rfl rfl).elim | exact (h _ _ rfl rfl).elim
  all_goals rfl
theorem binOp_eql (t : TypeId) (x y : Value) (hx : ∀ k a, x ≠ .int k a) (hs : ∀ s, x ≠ .string s) (hf : ∀ k a, x ≠ .float k a) (hc : ∀ k a b, x ≠ .complex k a b) : binOp .eql t x y = (do pure (.bool (← Op.equal t x y))) := by
  cases x <;> first | rfl | exact absurd rfl (hx _ _) | exact absurd rfl (hs _) | exact absurd rfl (hf _ _) | exact absurd rfl (hc _ _ _)
theorem binOp_neq (t : TypeId) (x y : Value) (hx : ∀ k a, x ≠ .int k a) (hs : ∀ s, x ≠ .string s) (hf : ∀ k a, x ≠ .float k a) (hc : ∀ k a b, x ≠ .complex k a b) : binOp .neq t x y = (do pure (.bool (!(← Op.equal t x y)))) := by
  cases x <;> first | rfl | exact absurd rfl (hx _ _) | exact absurd rfl (hs _) | exact absurd rfl (hf _ _) | exact absurd rfl (hc _ _ _)
theorem eq_of_equal {t : TypeId} {neg : Bool} {x y : Value} {b : Bool} {w : World} (he : (Op.equal t x y).run P w = .ok b w)
    (hx : ∀ k a, x ≠ .int k a) (hs : ∀ s, x ≠ .string s) (hf : ∀ k a, x ≠ .float k a) (hc : ∀ k a b, x ≠ .complex k a b) :
    (binOp (bif neg then .neq else .eql) t x y).run P w = .ok (.bool (bif neg then !b else b)) w := by
  cases neg
  · simp only [cond_false, binOp_eql t x y hx hs hf hc, Sem.run_bind, he, Result.andThen_ok, Sem.run_pure]
  · simp only [cond_true, binOp_neq t x y hx hs hf hc, Sem.run_bind, he, Result.andThen_ok, Sem.run_pure]
theorem nilV_sound {t : TypeId} {neg : Bool} {x y : Value} {K : RK} {h : Heap} (hv : nilV P t neg x y K) :
    (∀ c d, x = .agg c → y = .agg d → False) ∧ (x = .nilIface → y = .nilIface → False) ∧ Yv P (binOp (bif neg then .neq else .eql) t x y) K h := by
  unfold nilV at hv
  split at hv
  · rename_i e a hu
    refine ⟨nofun, nofun, .of_pure hv fun w => ?_⟩
    exact eq_of_equal (equal_ptr_none hu a w) nofun nofun nofun nofun
  · rename_i k e a hu
    refine ⟨nofun, nofun, .of_pure hv fun w => ?_⟩
    refine eq_of_equal ?_ nofun nofun nofun nofun
    refine equal_of_in fun d => ?_
    simp only [Op.equalIn, Sem.run_bind, run_underlying hu, Result.andThen_ok]
    cases a <;> rfl
  · rename_i e a _ _ _ _ hu
    refine ⟨nofun, nofun, .of_pure hv fun w => ?_⟩
    refine eq_of_equal ?_ nofun nofun nofun nofun
    refine equal_of_in fun d => ?_
    simp only [Op.equalIn, Sem.run_bind, run_underlying hu, Result.andThen_ok]
    cases a <;> rfl
  · exact hv.elim
/-- A block of variables that is there is no view, no number; where none is frozen two pointers into two of them are unlike. -/
theorem sameAddr_plain {w : World} {a b : Addr} (ha : plainPtr w.heap a) (hb : plainPtr w.heap b) : (sameAddr a b).run P w = .ok (a == b) w := by
  obtain ⟨ca, ea, ha, sa⟩ := ha
  obtain ⟨cb, eb, hb, sb⟩ := hb
  by_cases hbl : a.block = b.block
  · simp [sameAddr, hbl]
  · have hne : (a == b) = false := by
      rw [beq_eq_false_iff_ne]; intro e; exact hbl (by rw [e])
    have s1 : w.shape? a.block = some (ea, ca.size) := by simp [World.shape?, ha]
    have s2 : w.shape? b.block = some (eb, cb.size) := by simp [World.shape?, hb]
    have f1 : ∀ n, w.frozen? ({ block := a.block, off := n } : Addr) = false := fun n => by simp [World.frozen?, ha]
    have f2 : ∀ n, w.frozen? ({ block := b.block, off := n } : Addr) = false := fun n => by simp [World.frozen?, hb]
    have g1 : w.frozen? a = false := by simp [World.frozen?, ha]
    have g2 : w.frozen? b = false := by simp [World.frozen?, hb]
    obtain ⟨m, hm⟩ : ∃ m, ca.size = m + 1 := ⟨ca.size - 1, by omega⟩
    obtain ⟨n, hn⟩ : ∃ n, cb.size = n + 1 := ⟨cb.size - 1, by omega⟩
    simp [sameAddr, hbl, noView, viewAt, mayBeOne, stringish, s1, s2, f1, f2, g1, g2, hm, hn, hne]
theorem eqV_sound {t : TypeId} {neg : Bool} {x y : Value} {K : RK} {h : Heap} (hv : eqV P t neg x y K h) :
    (∀ c d, x = .agg c → y = .agg d → False) ∧ (x = .nilIface → y = .nilIface → False) ∧ Yv P (binOp (bif neg then .neq else .eql) t x y) K h := by
  unfold eqV at hv
  split at hv
  · rename_i a b hu
    refine ⟨nofun, nofun, .of_pure hv fun w => ?_⟩
    refine eq_of_equal ?_ nofun nofun nofun nofun
    refine equal_of_in fun d => ?_
    simp only [Op.equalIn, Sem.run_bind, run_underlying hu, Result.andThen_ok, Sem.run_pure]
  · rename_i e a b hu
    obtain ⟨hz, hp, hk⟩ := hv
    refine ⟨nofun, nofun, _, _, hk, hp, fun w hw => ?_⟩
    refine eq_of_equal ?_ nofun nofun nofun nofun
    have hz' : Nat.beq (sizeT P e) 0 = false := by
      cases hb : Nat.beq (sizeT P e) 0 with
      | false => rfl
      | true => rw [hb] at hz; exact hz.elim
    have hne : sizeT P e ≠ 0 := fun e => by rw [e] at hz'; cases hz'
    refine equal_of_in fun d => ?_
    simp only [Op.equalIn, Sem.run_bind, run_underlying hu, Result.andThen_ok]
    cases a with
    | none => cases b <;> rfl
    | some a => cases b with
      | none => rfl
      | some b =>
        obtain ⟨h1, h2⟩ := hw a b rfl rfl
        simp only [Sem.run_bind, sizeOf_run hz', Result.andThen_ok, ne_eq, hne, not_false_eq_true, if_true, sameAddr_plain h1 h2]
        rfl
  · exact hv.elim
theorem rBin_sound {op : BinOp} {t : TypeId} {x y : Value} {K : RK} {h : Heap} (hv : rBin P op t x y K h) :
    (∀ c d, x = .agg c → y = .agg d → False) ∧ (x = .nilIface → y = .nilIface → False) ∧ Yv P (binOp op t x y) K h := by
  unfold rBin at hv
  split at hv
  · rename_i k a k' b
    refine ⟨nofun, nofun, ?_⟩
    rw [binOp_int_type]
    split at hv
    · exact shiftV_sound (k' := k') (.inl rfl) hv
    · exact shiftV_sound (k' := k') (.inr rfl) hv
    · rename_i h1 h2
      cases hk : ikEq k' k with
      | false => rw [hk] at hv; exact hv.elim
      | true => rw [hk] at hv; have := ikEq_iff hk; subst this; exact intV_sound hv ⟨h1, h2⟩
  · exact ⟨nofun, nofun, strV_sound hv⟩
  · split at hv
    · exact eqV_sound (neg := false) hv
    · exact eqV_sound (neg := true) hv
    · exact hv.elim

theorem rUn_sound {op : UnOp} {x : Value} {K : RK} {h : Heap} (hv : rUn op x K) : Yv P (Op.unary op x) K h := by
  unfold rUn at hv
  split at hv
  · exact .of_pure hv fun w => rfl
  · exact .of_pure hv fun w => rfl
  · exact .of_pure hv fun w => rfl
  · exact hv.elim
theorem rConv_sound {src dst : TypeId} {x : Value} {K : RK} {h : Heap} (hv : rConv P src dst x K) : Yv P (convert src dst x) K h := by
  unfold rConv at hv
  split at hv
  · rename_i k k' k'' n h1 h2
    exact .of_pure hv fun w => by simp only [convert, Sem.run_bind, run_underlying h1, run_underlying h2, Result.andThen_ok]; rfl
  · rename_i s h1 h2
    exact .of_pure hv fun w => by simp only [convert, Sem.run_bind, run_underlying h1, run_underlying h2, Result.andThen_ok]; rfl
  · exact hv.elim
theorem part_sound {u : TypeId} {cs : Array Value} {off : Nat} {K : RK} {h : Heap} (hu : ∃ d, P.underlying u = some d) (hi : ∃ i, P.info? u = some i)
    (hv : bif aggT P u then K (.agg ((cs.toList.drop off).take (sizeT P u)).toArray) none else (match cs.toList[off]? with | some v => K v none | none => False)) : Yv P (part u cs off) K h := by
  obtain ⟨i, hi⟩ := hi
  cases ha : aggT P u with
  | true =>
    rw [ha] at hv
    refine .of_pure hv fun w => ?_
    have hs : (sizeOf u).run P w = .ok (sizeT P u) w := by simp [sizeOf, run_typeInfo hi, sizeT, hi]
    simp only [part, Sem.run_bind, aggT_sound hi hu, Result.andThen_ok, ha, if_true, hs, Sem.run_pure]
    congr 2
    apply Array.ext'
    simp [List.extract_eq_take_drop]
  | false =>
    rw [ha] at hv
    simp only [cond_false] at hv
    cases hc : cs.toList[off]? with
    | none => rw [hc] at hv; exact hv.elim
    | some v =>
      rw [hc] at hv
      refine .of_pure hv fun w => ?_
      have hc' : cs[off]? = some v := by simpa using hc
      simp only [part, Sem.run_bind, aggT_sound hi hu, Result.andThen_ok, ha, Bool.false_eq_true, if_false, hc', Sem.run_pure]
def BndIs (P : Program) (v : Option Value) (d y n : Nat) : Prop :=
  match v with
  | some x => ∀ c w, (Instr.sliceBound x y c).run P w = .ok n w
  | none => n = d
theorem bnd_sound {v : Option Value} {d y : Nat} {K : Nat → Prop} (hv : bnd v d y K) : ∃ n, K n ∧ BndIs P v d y n := by
  unfold bnd at hv
  split at hv
  · exact ⟨d, hv, rfl⟩
  · rename_i k i
    obtain ⟨⟨h0, h1⟩, hk⟩ := hv
    refine ⟨i.toNat, hk, fun c w => ?_⟩
    simp [Instr.sliceBound, asIntOf, h0, h1]
  · exact hv.elim

theorem sliceBounds_none {isS : Bool} {len cap n l : Nat} {lo hi : Option Value} (hn : BndIs P hi len cap n) (hl : BndIs P lo 0 n l) (w : World) :
    (Instr.sliceBounds isS len cap lo hi none).run P w = .ok (l, n, cap) w := by
  cases hi with
  | none =>
    cases lo with
    | none => simp only [BndIs] at hn hl; subst hn; subst hl; simp [Instr.sliceBounds]
    | some lo => simp only [BndIs] at hn hl; subst hn; simp [Instr.sliceBounds, hl]
  | some hi =>
    cases lo with
    | none => simp only [BndIs] at hn hl; subst hl; simp [Instr.sliceBounds, hn]
    | some lo => simp only [BndIs] at hn hl; simp [Instr.sliceBounds, hn, hl]
theorem sliceBounds_some {isS : Bool} {len cap n l m : Nat} {lo : Option Value} {hi mx : Value} (hm : BndIs P (some mx) 0 cap m) (hn : BndIs P (some hi) 0 m n) (hl : BndIs P lo 0 n l) (w : World) :
    (Instr.sliceBounds isS len cap lo (some hi) (some mx)).run P w = .ok (l, n, m) w := by
  cases lo with
  | none => simp only [BndIs] at hm hn hl; subst hl; simp [Instr.sliceBounds, hm, hn]
  | some lo => simp only [BndIs] at hm hn hl; simp [Instr.sliceBounds, hm, hn, hl]
theorem subAddr_eq (a : Option Addr) (l m size : Nat) : (if m = l then a else a.map (·.add (l * size))) = subAddr a l m size := by
  unfold subAddr; split
  · rfl
  · congr 1; funext x; rw [adr_eq]
theorem okT_sound {t : TypeId} {K : Prop} (h : okT P t K) : K ∧ ∀ w, (sizeOf t).run P w = .ok (sizeT P t) w := by
  unfold okT at h
  cases hi : P.info? t with
  | none => rw [hi] at h; exact h.elim
  | some i => rw [hi] at h; exact ⟨h, fun w => by simp [sizeOf, run_typeInfo hi, sizeT, hi]⟩
theorem rField_sound {t : TypeId} {x : Value} {f : Nat} {K : RK} {h : Heap} (hv : rField P t x f K) : Yv P (Instr.field t x f) K h := by
  unfold rField at hv
  split at hv
  · rename_i u off cs hf
    obtain ⟨fs, g, hu, hg, rfl, rfl⟩ := fieldOff_sound hf
    cases hb : ((P.underlying g.type).isSome && (P.info? g.type).isSome) with
    | false => rw [hb] at hv; exact hv.elim
    | true =>
      rw [hb] at hv
      simp only [Bool.and_eq_true, Option.isSome_iff_exists] at hb
      obtain ⟨v, S, hk, hS, hr⟩ := part_sound (cs := cs) (off := g.offset) (h := h) hb.1 hb.2 hv
      refine ⟨v, S, hk, hS, fun w hw => ?_⟩
      have := hr w hw
      simp only [Instr.field, Sem.run_bind, run_underlying hu, Result.andThen_ok, hg, asAgg, Sem.run_pure, this]
  · exact hv.elim
theorem rIndexAddr_sound {t : TypeId} {x i : Value} {K : RK} {h : Heap} (hv : rIndexAddr P t x i K) : Yv P (Instr.indexAt t x i) K h := by
  unfold rIndexAddr at hv
  split at hv
  · rename_i n e a k i hu
    obtain ⟨⟨⟨h0, h1⟩, hk⟩, hz⟩ := okT_sound hv
    refine .of_pure hk fun w => ?_
    simp [Instr.indexAt, asIntOf, run_underlying hu, Instr.sureAddr, h0, h1, hz, adr_eq]
  · rename_i e b len cap k i hu
    obtain ⟨⟨⟨h0, h1⟩, a, rfl, hk⟩, hz⟩ := okT_sound hv
    refine .of_pure hk fun w => ?_
    simp [Instr.indexAt, asIntOf, run_underlying hu, h0, h1, hz, adr_eq]
  · exact hv.elim
theorem rIndex_sound {t : TypeId} {x i : Value} {K : RK} {h : Heap} (hv : rIndex P t x i K) : Yv P (Instr.index t x i) K h := by
  unfold rIndex at hv
  split at hv
  · rename_i s k i hu
    obtain ⟨b, h0, hb, hk⟩ := hv
    refine .of_pure hk fun w => ?_
    simp [Instr.index, asIntOf, run_underlying hu, h0, hb]
  · exact hv.elim
theorem rSlice_sound {t : TypeId} {x : Value} {lo hi mx : Option Value} {K : RK} {h : Heap} (hv : rSlice P t x lo hi mx K) : Yv P (Instr.sliceAt t x lo hi mx) K h := by
  unfold rSlice at hv
  split at hv
  · rename_i s hu
    cases mx with
    | some _ => exact hv.elim
    | none =>
      obtain ⟨n, hv, hn⟩ := bnd_sound (P := P) hv
      obtain ⟨l, hv, hl⟩ := bnd_sound (P := P) hv
      refine .of_pure hv fun w => ?_
      simp [Instr.sliceAt, Instr.slice, run_underlying hu, sliceBounds_none hn hl]
  · rename_i e a len cap hu
    obtain ⟨hv, hz⟩ := okT_sound hv
    cases mx with
    | none =>
      obtain ⟨n, hv, hn⟩ := bnd_sound (P := P) hv
      obtain ⟨l, hv, hl⟩ := bnd_sound (P := P) hv
      refine .of_pure hv fun w => ?_
      simp [Instr.sliceAt, Instr.slice, run_underlying hu, sliceBounds_none hn hl, hz, subAddr_eq]
    | some m =>
      cases hi with
      | none => exact hv.elim
      | some hi =>
        obtain ⟨m', hv, hm⟩ := bnd_sound (P := P) hv
        obtain ⟨n, hv, hn⟩ := bnd_sound (P := P) hv
        obtain ⟨l, hv, hl⟩ := bnd_sound (P := P) hv
        refine .of_pure hv fun w => ?_
        simp [Instr.sliceAt, Instr.slice, run_underlying hu, sliceBounds_some hm hn hl, hz, subAddr_eq]
  · rename_i n e a hu
    obtain ⟨hv, hz⟩ := okT_sound hv
    cases mx with
    | some _ => exact hv.elim
    | none =>
      obtain ⟨m, hv, hn⟩ := bnd_sound (P := P) hv
      obtain ⟨l, hv, hl⟩ := bnd_sound (P := P) hv
      refine .of_pure hv fun w => ?_
      have ha : (some (if n = l then a else a.add (l * sizeT P e))) = subAddr (some a) l n (sizeT P e) := by
        rw [← subAddr_eq]; split <;> rfl
      simp [Instr.sliceAt, run_underlying hu, Instr.sureAddr, sliceBounds_none hn hl, hz, ha]
  · exact hv.elim

/-! ### Maps -/
/-- The kinds that a key may be of, and the type's description. -/
def KeyDesc (d : TypeDesc) (c : CK) : Prop := (∃ i, d = .int i ∧ c = .int i) ∨ (d = .string ∧ c = .str) ∨ (d = .bool ∧ c = .bool)
theorem keyCK_sound {t : TypeId} {c : CK} {e : TypeId} (h : keyCK P t = some (c, e)) : ∃ k d, P.underlying t = some (.map k e) ∧ P.underlying k = some d ∧ KeyDesc d c := by
  unfold keyCK at h
  split at h
  · rename_i k e' hu
    split at h
    · rename_i i hk
      simp only [Option.some.injEq, Prod.mk.injEq] at h
      obtain ⟨rfl, rfl⟩ := h
      exact ⟨k, _, hu, hk, .inl ⟨i, rfl, rfl⟩⟩
    · rename_i hk
      simp only [Option.some.injEq, Prod.mk.injEq] at h
      obtain ⟨rfl, rfl⟩ := h
      exact ⟨k, _, hu, hk, .inr (.inl ⟨rfl, rfl⟩)⟩
    · rename_i hk
      simp only [Option.some.injEq, Prod.mk.injEq] at h
      obtain ⟨rfl, rfl⟩ := h
      exact ⟨k, _, hu, hk, .inr (.inr ⟨rfl, rfl⟩)⟩
    · cases h
  · cases h
theorem sameNow_key {d : TypeDesc} {c : CK} (hd : KeyDesc d c) (x y : c.den) : Instr.sameNow d (c.enc x) (c.enc y) = some (sameKey (c.enc x) (c.enc y)) := by
  rcases hd with ⟨i, rfl, rfl⟩ | ⟨rfl, rfl⟩ | ⟨rfl, rfl⟩
  · simp [Instr.sameNow, CK.enc, sameKey]
  · simp [Instr.sameNow, CK.enc, sameKey]
  · simp [Instr.sameNow, CK.enc, sameKey]
theorem findNow_key {d : TypeDesc} {c : CK} (hd : KeyDesc d c) (x : c.den) : ∀ (es : List MapEntry) (i : Nat), keysOf c es →
    ∃ r, Instr.findNow d (c.enc x) es i = some r ∧ r.map (·.2) = findE (c.enc x) es
  | [], i, _ => ⟨none, rfl, rfl⟩
  | e :: es, i, h => by
    obtain ⟨y, hy⟩ := h e (by simp)
    have hs := sameNow_key hd x y
    rw [← hy] at hs
    simp only [Instr.findNow, findE]
    cases hb : sameKey (c.enc x) e.key with
    | true => rw [hs, hb]; exact ⟨some (i, e.val), rfl, rfl⟩
    | false => rw [hs, hb]; exact findNow_key hd x es (i + 1) fun e' he' => h e' (by simp [he'])
theorem checkKey_ok {empty : Bool} {k : TypeId} {d : TypeDesc} {c : CK} (hd : KeyDesc d c) (hu : P.underlying k = some d) (v : Value) (n : Nat) (w : World) : (Instr.checkKey empty (n + 1) k v).run P w = .ok () w := by
  unfold Instr.checkKey
  simp only [Sem.run_bind, run_underlying hu, Result.andThen_ok]
  rcases hd with ⟨i, rfl, rfl⟩ | ⟨rfl, rfl⟩ | ⟨rfl, rfl⟩ <;> rfl
theorem findKey_ok {k : TypeId} {d : TypeDesc} {c : CK} (hd : KeyDesc d c) (hu : P.underlying k = some d) (x : c.den) {es : List MapEntry} (h : keysOf c es) (w : World) :
    ∃ r, (Instr.findKey k (c.enc x) es).run P w = .ok r w ∧ Instr.findNow d (c.enc x) es 0 = some r ∧ r.map (·.2) = findE (c.enc x) es := by
  obtain ⟨r, hr, hm⟩ := findNow_key hd x es 0 h
  refine ⟨r, ?_, hr, hm⟩
  simp only [Instr.findKey, Sem.run_bind, run_underlying hu, Result.andThen_ok, hr, Sem.run_pure]
theorem run_getMap {w : World} {r : Nat} {es : Array MapEntry} {clock : Nat} (h : w.heap[r]? = some (.map es clock)) : (getObj r).run P w = .ok (.map es clock) w := by
  simp only [getObj, Sem.run, h]
theorem checkKey10000 {empty : Bool} {k : TypeId} {d : TypeDesc} {c : CK} (hd : KeyDesc d c) (hu : P.underlying k = some d) (v : Value) (w : World) : (Instr.checkKey empty 10000 k v).run P w = .ok () w :=
  checkKey_ok hd hu v 9999 w
theorem lookup_run {t : TypeId} {c : CK} {e k : TypeId} {d : TypeDesc} (hu : P.underlying t = some (.map k e)) (hk : P.underlying k = some d) (hd : KeyDesc d c) {m : Option Nat} {x : c.den} {z v : Value} {b ok : Bool} {w : World}
    (hz : (zeroValue e).run P w = .ok z w) (hm : MapGet c z w.heap m (c.enc x) v b) :
    (Instr.lookup t (.map m) (c.enc x) ok).run P w = .ok (bif ok then .tuple #[v, .bool b] else v) w := by
  cases m with
  | none =>
    obtain ⟨rfl, rfl⟩ := hm
    simp only [Instr.lookup, Sem.run_bind, run_underlying hu, Result.andThen_ok, Sem.run_pure, checkKey10000 hd hk]
    obtain ⟨r, h1, h2, h3⟩ := findKey_ok (P := P) hd hk x (es := []) (fun _ h => by cases h) w
    simp only [Instr.findNow, Option.some.injEq] at h2
    subst h2
    simp [h1, hz]
  | some r =>
    obtain ⟨es, clock, hb, hks, hv⟩ := hm
    simp only [Instr.lookup, Sem.run_bind, run_underlying hu, Result.andThen_ok, run_getMap hb, Sem.run_pure, checkKey10000 hd hk]
    obtain ⟨r, h1, h2, h3⟩ := findKey_ok (P := P) hd hk x hks w
    simp only [h1, Result.andThen_ok]
    cases r with
    | none =>
      simp only [Option.map_none] at h3
      rw [← h3] at hv
      obtain ⟨rfl, rfl⟩ := hv
      simp [hz]
    | some r =>
      simp only [Option.map_some] at h3
      rw [← h3] at hv
      obtain ⟨rfl, rfl⟩ := hv
      cases ok <;> rfl
theorem zeroValue_run {e : TypeId} {z : Value} (h : zeroT P e = some z) (w : World) : (zeroValue e).run P w = .ok z w := by
  unfold zeroT at h
  cases hi : P.info? e with
  | none => rw [hi] at h; cases h
  | some i => rw [hi] at h; simp only at h; simp [zeroValue, run_typeInfo hi, h]
theorem rLookup_sound {t : TypeId} {x k : Value} {ok : Bool} {K : RK} {h : Heap} (hv : rLookup P t x k ok K h) : Yv P (Instr.lookup t x k ok) K h := by
  unfold rLookup at hv
  split at hv
  · rename_i c e m hc
    obtain ⟨kt, d, hu, hk, hd⟩ := keyCK_sound hc
    obtain ⟨kx, rfl, hv⟩ := CK.dec_sound hv
    split at hv
    · rename_i ek z hek hz
      obtain ⟨y, b, hm, hK⟩ := hv
      exact ⟨_, _, hK, hm, fun w hw => lookup_run hu hk hd (zeroValue_run hz w) hw⟩
    · exact hv.elim
  · exact hv.elim
theorem rLen_sound {t : TypeId} {x : Value} {ats : Array TypeId} {ty : TypeId} {K : RK} {h : Heap} (hat : ats[0]? = some t) (hv : rLen P t x K h) : Yv P (Builtin.len_ ats ty #[x]) K h := by
  unfold rLen at hv
  split at hv
  · rename_i s hu
    exact .of_pure hv fun w => by simp [Builtin.len_, hat, run_underlying hu, goInt]
  · rename_i n e _ hu
    exact .of_pure hv fun w => by simp [Builtin.len_, hat, run_underlying hu, goInt]
  · rename_i e b n c hu
    exact .of_pure hv fun w => by simp [Builtin.len_, hat, run_underlying hu, goInt]
  · rename_i k e m hu
    obtain ⟨n, hm, hk⟩ := hv
    refine ⟨_, _, hk, hm, fun w hw => ?_⟩
    cases m with
    | none =>
      have : n = 0 := hw
      subst this
      simp [Builtin.len_, hat, run_underlying hu, goInt]
    | some r =>
      obtain ⟨es, clock, hb, rfl⟩ := hw
      simp [Builtin.len_, hat, run_underlying hu, goInt, run_getMap hb]
  · exact hv.elim
theorem rCap_sound {t : TypeId} {x : Value} {ats : Array TypeId} {ty : TypeId} {K : RK} {h : Heap} (hat : ats[0]? = some t) (hv : rCap P t x K) : Yv P (Builtin.cap_ ats ty #[x]) K h := by
  unfold rCap at hv
  split at hv
  · rename_i e b n c hu
    exact .of_pure hv fun w => by simp [Builtin.cap_, hat, run_underlying hu, goInt]
  · exact hv.elim
theorem minInt_sound {mx : Bool} {k : IntKind} : ∀ {vs : List Value} {a : Int} {f : Value → Prop}, minInt mx k a vs f → ∃ v, f v ∧ ∀ w, (vs.foldlM (bif mx then Builtin.max2 else Builtin.min2) (Value.int k a) : Sem Value).run P w = .ok v w
  | [], a, f, h => ⟨_, h, fun w => by simp⟩
  | .int k' b :: vs, a, f, h => by
    simp only [minInt] at h
    cases hk : ikEq k' k with
    | false => rw [hk] at h; exact h.elim
    | true =>
      rw [hk] at h
      have := ikEq_iff hk
      subst this
      obtain ⟨v, hf, hr⟩ := minInt_sound h
      refine ⟨v, hf, fun w => ?_⟩
      rw [← hr w]
      cases mx <;> simp [List.foldlM_cons, Builtin.max2, Builtin.min2]
theorem minFold_sound {mx : Bool} {vs : List Value} {f : Value → Prop} {ats : Array TypeId} {ty : TypeId} (h : minFold mx vs f) : ∃ v, f v ∧ ∀ w, (bif mx then Builtin.max_ ats ty vs.toArray else Builtin.min_ ats ty vs.toArray).run P w = .ok v w := by
  unfold minFold at h
  split at h
  · obtain ⟨v, hf, hr⟩ := minInt_sound (P := P) h
    refine ⟨v, hf, fun w => ?_⟩
    have := hr w
    cases mx <;> simpa [Builtin.max_, Builtin.min_] using this
  · exact h.elim

theorem entry_run {a : Addr} {e : MapEntry} {w : World} (h0 : a.off = 0) (h : IterAt w.heap a.block e) : (Instr.entry (.pointer (some a))).run P w = .ok (.tuple #[e.key, e.val]) w := by
  obtain ⟨m, since, seen, last, stamp, es, hi, hb, hm, hf⟩ := h
  obtain ⟨b, off, spot⟩ := a
  simp only at h0 hi
  subst h0
  have g1 : (getObj b).run P w = .ok (.mapIter (some m) since seen last) w := by simp only [getObj, Sem.run, hi]
  simp [Instr.entry, g1, hb, run_getMap hm, hf]
def DVok : DV → Value → Prop
  | .t, v => v = .bool true
  | .f, v => v = .bool false
  | .u, v => v = undef
  | .x, _ => True
/-- What is known of the registers is so. -/
def DecOk (d : Dec) (r : Regs) : Prop := ∀ t, dlook d t = .x ∨ ∃ v, rlook r t = some v ∧ DVok (dlook d t) v
theorem DecOk.at {d : Dec} {r : Regs} (h : DecOk d r) {t : Nat} {v : Value} (hv : rlook r t = some v) : DVok (dlook d t) v := by
  rcases h t with e | ⟨u, hu, hk⟩
  · rw [e]; trivial
  · rw [hv] at hu; cases hu; exact hk
theorem dOpnd_ok {d : Dec} {r : Regs} (hd : DecOk d r) {o : Operand} {v : Value} (h : reval r o = some v) : DVok (dOpnd d o) v := by
  cases o with
  | tmp t => exact hd.at h
  | const c =>
    simp [reval] at h; subst h
    cases c with
    | bool b => cases b <;> exact rfl
    | _ => trivial
  | global g => trivial
  | func f => trivial
/-- **An operation that reads, or only reckons**: what rOp asks makes the model's operation hand back that value, wherever what it hangs on holds. -/
theorem notIface_ok {t : TypeId} (h : notIface P t = true) : ∃ d, P.underlying t = some d ∧ ∀ m, d ≠ .interface m := by
  unfold notIface at h
  split at h
  · cases h
  · rename_i d hd; exact ⟨_, hd, fun m e => by subst e; simp_all⟩
  · cases h
theorem makeInterface_run {t : TypeId} {v : Value} (h : notIface P t = true) (w : World) : (Instr.makeInterface t v).run P w = .ok (.iface t v) w := by
  obtain ⟨d, hd, hn⟩ := notIface_ok h
  simp only [Instr.makeInterface, Sem.run_bind, run_underlying hd, Result.andThen_ok]
  cases d <;> first | exact absurd rfl (hn _) | rfl
theorem typeAssert_run {t u : TypeId} {v : Value} (h : notIface P t = true) (w : World) : (Instr.typeAssert (.iface t v) u t false).run P w = .ok v w := by
  obtain ⟨d, hd, hn⟩ := notIface_ok h
  simp only [Instr.typeAssert, Sem.run_bind, run_underlying hd, Result.andThen_ok]
  cases d <;> first | exact absurd rfl (hn _) | (simp [Sem.run_pure])
theorem rOp_sound {ek : Option (Kind × Kind)} {o : Oper} {r : Regs} {K : RK} {h : Heap} {N : Nat} {a : Act} (ha : Agree N r a) (hq : rOp P ek o.op r K h) (d : Dec) (hd : DecOk d r) :
    ∃ v S, K v S ∧ SOk S h ∧ DVok (dOf d o.op) v ∧ ∀ w : World, SOk S w.heap → (execOp a.eval o).run P w = .ok (.value v) w := by
  have ev : ∀ {x : Operand} {v : Value}, reval r x = some v → a.eval x = v := fun h => reval_sound ha h
  have fin : ∀ {s : Sem Value}, Yv P s K h → dOf d o.op = .x → (∀ w, (execOp a.eval o).run P w = (do pure (Next.value (← s)) : Sem Next).run P w) →
      ∃ v S, K v S ∧ SOk S h ∧ DVok (dOf d o.op) v ∧ ∀ w : World, SOk S w.heap → (execOp a.eval o).run P w = .ok (.value v) w := by
    rintro s ⟨v, S, hk, hS, hr⟩ hx he
    exact ⟨v, S, hk, hS, by rw [hx]; trivial, fun w hw => by rw [he w]; exact run_value (hr w hw)⟩
  obtain ⟨dst, op, type, pos, after, guard⟩ := o
  simp only at hq fin ⊢
  cases op with
  | move x =>
    simp only [rOp] at hq
    split at hq
    · rename_i v hv
      exact ⟨v, none, hq, trivial, dOpnd_ok hd hv, fun w _ => by simp [execOp, ev hv]⟩
    · exact hq.elim
  | assign x =>
    simp only [rOp] at hq
    split at hq
    · rename_i v hv
      exact ⟨v, none, hq, trivial, dOpnd_ok hd hv, fun w _ => by simp [execOp, ev hv]⟩
    · exact hq.elim
  | pick c x y =>
    simp only [rOp] at hq
    split at hq
    · rename_i vc va vb hc hx hy
      unfold rPick at hq
      split at hq
      · rename_i cb
        have hco := dOpnd_ok hd hc
        have hxo := dOpnd_ok hd hx
        have hyo := dOpnd_ok hd hy
        have he : ∀ w, (execOp a.eval ⟨dst, .pick c x y, type, pos, after, guard⟩).run P w = .ok (.value (if cb then va else vb)) w := fun w => by
          simp [execOp, ev hc, ev hx, ev hy, asBool]
        have hdv : DVok (dOf d (.pick c x y)) (if cb then va else vb) := by
          simp only [dOf]
          cases hcd : dOpnd d c with
          | t => rw [hcd] at hco; have : cb = true := by simpa [DVok] using hco
                 subst this; exact hxo
          | f => rw [hcd] at hco; have : cb = false := by simpa [DVok] using hco
                 subst this; exact hyo
          | u => trivial
          | x => trivial
        split at hq
        · rename_i bx by'
          have e1 : (if cb = true then Value.bool bx else Value.bool by') = .bool (bif cb then bx else by') := by cases cb <;> rfl
          rw [e1] at hdv
          exact ⟨_, none, hq, trivial, hdv, fun w _ => by rw [he w, e1]⟩
        · cases cb
          · exact ⟨_, none, hq, trivial, hdv, fun w _ => he w⟩
          · exact ⟨_, none, hq, trivial, hdv, fun w _ => he w⟩
      · exact hq.elim
    · exact hq.elim
  | load t x =>
    simp only [rOp] at hq
    split at hq
    · rename_i v hv
      obtain ⟨u, S, hk, hS, hr⟩ := rLoad_sound hq
      exact fin ⟨u, some S, hk, hS, hr⟩ rfl fun w => by simp only [execOp, ev hv]
    · exact hq.elim
  | nilCheck x =>
    simp only [rOp] at hq
    split at hq
    · rename_i p hv
      obtain ⟨b, rfl, hk⟩ := hq
      exact ⟨_, none, hk, trivial, trivial, fun w _ => by simp [execOp, ev hv]⟩
    · exact hq.elim
  | binOp op t x y yt =>
    simp only [rOp] at hq
    split at hq
    · rename_i v u hv hu
      have go : (∀ c d, v = .agg c → u = .agg d → False) ∧ (v = .nilIface → u = .nilIface → False) ∧ Yv P (binOp op t v u) K h := by
        split at hq
        · exact nilV_sound (neg := false) hq
        · exact nilV_sound (neg := true) hq
        · exact rBin_sound hq
      obtain ⟨h1, h2, v', S, hk, hS, hr⟩ := go
      refine ⟨v', S, hk, hS, trivial, fun w hw => ?_⟩
      simp only [execOp, ev hv, ev hu]
      simp [eqGuard_ok op t x y v u h1 h2 w, hr w hw]
    · exact hq.elim
  | unOp op t x =>
    simp only [rOp] at hq
    split at hq
    · rename_i v hv
      obtain ⟨u, S, hk, hS, hr⟩ := rUn_sound (P := P) (h := h) hq
      refine ⟨u, S, hk, hS, ?_, fun w hw => by simp only [execOp, ev hv]; exact run_value (hr w hw)⟩
      have hvo := dOpnd_ok hd hv
      cases op <;> try trivial
      simp only [dOf]
      have hrun := hr { (default : World) with heap := h } hS
      cases hx : dOpnd d x with
      | t => rw [hx] at hvo; have : v = .bool true := hvo
             subst this; simp [Op.unary] at hrun; exact hrun.symm
      | f => rw [hx] at hvo; have : v = .bool false := hvo
             subst this; simp [Op.unary] at hrun; exact hrun.symm
      | u => trivial
      | x => trivial
    · exact hq.elim
  | convert s t x =>
    simp only [rOp] at hq
    split at hq
    · rename_i v hv
      exact fin (rConv_sound hq) rfl fun w => by simp only [execOp, ev hv]
    · exact hq.elim
  | extract x i =>
    simp only [rOp] at hq
    split at hq
    · rename_i vs hv
      split at hq
      · rename_i u hu
        have hu' : vs[i]? = some u := by simpa using hu
        exact ⟨u, none, hq, trivial, trivial, fun w _ => by simp [execOp, ev hv, Instr.extract, hu']⟩
      · exact hq.elim
    · exact hq.elim
  | fieldAddr t x f =>
    simp only [rOp] at hq
    split at hq
    · rename_i b u off hv hf
      exact fin (fieldAddr_sound hf hq) rfl fun w => by simp only [execOp, ev hv]
    · exact hq.elim
  | field t x f =>
    simp only [rOp] at hq
    split at hq
    · rename_i v hv
      exact fin (rField_sound hq) rfl fun w => by simp only [execOp, ev hv]
    · exact hq.elim
  | indexAddr t x i =>
    simp only [rOp] at hq
    split at hq
    · rename_i v u hv hu
      exact fin (rIndexAddr_sound hq) rfl fun w => by simp only [execOp, ev hv, ev hu]
    · exact hq.elim
  | index t x i =>
    simp only [rOp] at hq
    split at hq
    · rename_i v u hv hu
      exact fin (rIndex_sound hq) rfl fun w => by simp only [execOp, ev hv, ev hu]
    · exact hq.elim
  | slice t x lo hi mx =>
    simp only [rOp] at hq
    split at hq
    · rename_i v l h' m hv hl hh hm
      have ov : ∀ {x : Option Operand} {v : Option Value}, ovals r x = some v → x.map a.eval = v := by
        intro x v hx
        cases x with
        | none => simp [ovals] at hx; subst hx; rfl
        | some x =>
          simp only [ovals] at hx
          cases he : reval r x with
          | none => simp [he] at hx
          | some u => simp [he] at hx; subst hx; simp [ev he]
      exact fin (rSlice_sound hq) rfl fun w => by simp only [execOp, ev hv, ov hl, ov hh, ov hm]
    · exact hq.elim
  | lookup t x k ok =>
    simp only [rOp] at hq
    split at hq
    · rename_i v u hv hu
      exact fin (rLookup_sound hq) rfl fun w => by simp only [execOp, ev hv, ev hu]
    · exact hq.elim
  | makeInterface t x =>
    simp only [rOp] at hq
    split at hq
    · rename_i v hv
      cases hb : notIface P t with
      | false => rw [hb] at hq; exact hq.elim
      | true =>
        rw [hb, cond_true] at hq
        exact ⟨_, none, hq, trivial, trivial, fun w _ => by simp only [execOp, ev hv]; exact run_value (makeInterface_run hb w)⟩
    · exact hq.elim
  | typeAssert x u t ok =>
    simp only [rOp] at hq
    split at hq
    · rename_i v hv
      cases ok with
      | true => exact hq.elim
      | false =>
        rw [cond_false] at hq
        unfold rAssert at hq
        cases hb : notIface P t with
        | false => rw [hb] at hq; exact hq.elim
        | true =>
          rw [hb, cond_true] at hq
          split at hq
          · obtain ⟨y, rfl, hk⟩ := hq
            exact ⟨_, none, hk, trivial, trivial, fun w _ => by simp only [execOp, ev hv]; exact run_value (typeAssert_run hb w)⟩
          · exact hq.elim
    · exact hq.elim
  | makeFunc fn first cap =>
    simp only [rOp] at hq
    split at hq
    · rename_i vs us hv hu
      have e1 := revals_sound ha hv
      have e2 := revals_sound ha hu
      refine ⟨_, none, hq, trivial, trivial, fun w _ => ?_⟩
      have f1 : first.map a.eval = vs.toArray := by rw [← e1]; apply Array.ext'; simp
      have f2 : cap.map a.eval = us.toArray := by rw [← e2]; apply Array.ext'; simp
      simp [execOp, Instr.makeFunc, f1, f2]
    · exact hq.elim
  | entry it =>
    simp only [rOp] at hq
    split at hq
    · rename_i b kk vk hv
      obtain ⟨h0, e, x, y, hi, hk, hy, hK⟩ := hq
      refine ⟨_, _, hK, hi, trivial, fun w hw => ?_⟩
      simp only [execOp, ev hv]
      refine run_value ?_
      rw [entry_run h0 hw, hk, hy]
    · exact hq.elim
  | call c =>
    simp only [rOp] at hq
    have er : ∀ {b : Builtin} {vs : List Value}, c.callee = .builtin b → revals r c.args.toList = some vs → ∃ cs : Array Bool, ∀ w, (execOp a.eval ⟨dst, .call c, type, pos, after, guard⟩).run P w =
        (builtin b c.argTypes type cs vs.toArray).run P w := by
      intro b vs hc hvs
      have e1 := revals_sound ha hvs
      have f1 : c.args.map a.eval = vs.toArray := by rw [← e1]; apply Array.ext'; simp
      refine ⟨c.args.map fun | .const _ => true | _ => false, fun w => ?_⟩
      simp [execOp, resolve, hc, f1, invoke]
      rfl
    split at hq
    · rename_i v t hc hvs hat
      obtain ⟨cs, er⟩ := er hc hvs
      obtain ⟨u, S, hk, hS, hr⟩ := rLen_sound (ats := c.argTypes) (ty := type) (by rw [← Array.getElem?_toList, hat]; rfl) hq
      exact ⟨u, S, hk, hS, trivial, fun w hw => by rw [er w]; simp only [builtin]; exact run_value (hr w hw)⟩
    · rename_i v t hc hvs hat
      obtain ⟨cs, er⟩ := er hc hvs
      obtain ⟨u, S, hk, hS, hr⟩ := rCap_sound (h := h) (ats := c.argTypes) (ty := type) (by rw [← Array.getElem?_toList, hat]; rfl) hq
      exact ⟨u, S, hk, hS, trivial, fun w hw => by rw [er w]; simp only [builtin]; exact run_value (hr w hw)⟩
    · rename_i vs hc hvs
      obtain ⟨cs, er⟩ := er hc hvs
      obtain ⟨u, hk, hr⟩ := minFold_sound (P := P) (ats := c.argTypes) (ty := type) hq
      exact ⟨u, none, hk, trivial, trivial, fun w _ => by rw [er w]; simp only [builtin]; exact run_value (hr w)⟩
    · rename_i vs hc hvs
      obtain ⟨cs, er⟩ := er hc hvs
      obtain ⟨u, hk, hr⟩ := minFold_sound (P := P) (ats := c.argTypes) (ty := type) hq
      exact ⟨u, none, hk, trivial, trivial, fun w _ => by rw [er w]; simp only [builtin]; exact run_value (hr w)⟩
    · exact hq.elim
  | _ => simp only [rOp] at hq
end Go.Lift
