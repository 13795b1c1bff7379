/- A part of the proof that the named laws of this program answer true, whatever the input. -/
import Derived.Test.YtcnejdpagpafgaaRows
import Derived.Test.YtcnejdpagpafgaaGraphS17
import Derived.Test.YtcnejdpagpafgaaLiftLaw
namespace Go.Proofs.Ytcnejdpagpafgaa
open Go Go.Lift Go.Proofs Go.ChangeShapes Go.WideShapes Go.ChangeAt Go.RowKit
theorem Try.own : ownKnob Try.prog.godebug = none := by kernel_rfl
theorem Try.laidOut : laidOutB Try.prog = true := by kernel_rfl
theorem u_u8 : Try.prog.underlying t_u8 = some (.int .u8) := by kernel_rfl
theorem u_u32 : Try.prog.underlying t_u32 = some (.int .u32) := by kernel_rfl
theorem u_bool : Try.prog.underlying t_bool = some .bool := by kernel_rfl
theorem u_Au32 : Try.prog.underlying t_A_u32 = some (.slice t_u32) := by kernel_rfl
theorem u_acts : Try.prog.underlying t_A_l20_Act = some (.slice t_l20_Act) := by kernel_rfl
theorem u_act : ∃ f0 f1 f2 f3 : Field, Try.prog.underlying t_l20_Act = some (.struct #[f0, f1, f2, f3]) ∧ (f0.type = t_u8 ∧ f0.offset = 0) ∧ (f1.type = t_u32 ∧ f1.offset = 1) ∧ (f2.type = t_A_u32 ∧ f2.offset = 2) ∧ f3.type = t_bool ∧ f3.offset = 3 :=
  ⟨_, _, _, _, (by kernel_rfl : Try.prog.underlying t_l20_Act = some (.struct #[{ name := "Do", pkgPath := "", type := t_u8, tag := "", embedded := false, offset := 0, byteOffset := 0 }, { name := "ID", pkgPath := "", type := t_u32, tag := "", embedded := false, offset := 1, byteOffset := 4 }, { name := "P", pkgPath := "", type := t_A_u32, tag := "", embedded := false, offset := 2, byteOffset := 8 }, { name := "Near", pkgPath := "", type := t_bool, tag := "", embedded := false, offset := 3, byteOffset := 32 }])), ⟨rfl, rfl⟩, ⟨rfl, rfl⟩, ⟨rfl, rfl⟩, rfl, rfl⟩
theorem c_u8 : Try.prog.cellsOf t_u8 = 1 := by kernel_rfl
theorem c_u32 : Try.prog.cellsOf t_u32 = 1 := by kernel_rfl
theorem c_bool : Try.prog.cellsOf t_bool = 1 := by kernel_rfl
theorem c_Au32 : Try.prog.cellsOf t_A_u32 = 1 := by kernel_rfl
theorem c_act : Try.prog.cellsOf t_l20_Act = 4 := by kernel_rfl
section
variable {H : Type} {enc : TypeId × Value → H} {w : World} {sp : Nat → Bool} {held : Bool}
theorem nn_of_wf {k : IntKind} {n : Int} (h : (Lit.int k n).wf = true) (hk : k.signed = false) : 0 ≤ n := by
  simp only [Lit.wf, Bool.and_eq_true, decide_eq_true_iff] at h
  have : k.min = 0 := by simp [IntKind.min, hk]
  omega
/-- Numbers that came in. -/
theorem open_nums {fuel : Nat} {cs : List Value} {x : DataW H × List MemPlace} (h : DataW.trod enc Try.prog w 0 sp held fuel t_A_u32 cs = some x) :
    ∃ (s : SliceV) (xs : List Int), cs = [.slice s.a s.len s.cap] ∧ s.len ≤ s.cap ∧ Nums No w.heap s xs ∧ ∀ p ∈ xs, 0 ≤ p := by
  obtain ⟨s, xs, h1, h2, _, h3, h4⟩ := trod_sl u_Au32 h u32 c_u32 u32_ne (fun p => 0 ≤ p) fun fuel cells y hl hy => by
    obtain ⟨n, rfl, _, hw⟩ := DataW.trod_int u_u32 hy
    exact ⟨n, rfl, nn_of_wf hw rfl⟩
  exact ⟨s, xs, h1, h2, h3, h4⟩
set_option maxRecDepth 100000 in
theorem open_acts {fuel : Nat} {cs : List Value} {x : DataW H × List MemPlace} (h : DataW.trod enc Try.prog w 0 sp held fuel t_A_l20_Act cs = some x) :
    ∃ (s : SliceV) (acts : List Act4), cs = [.slice s.a s.len s.cap] ∧ ActsAt w.heap s acts := by
  obtain ⟨s, xs, h1, h2, hm, h3, h4⟩ := trod_sl u_acts h actf c_act actf_ne (fun a => ActAt No w.heap a) fun fuel cells y hl hy => by
    obtain ⟨f0, f1, f2, f3, hu, ⟨t0, o0⟩, ⟨t1, o1⟩, ⟨t2, o2⟩, t3, o3⟩ := u_act
    obtain ⟨xs, n, rfl, _, _, hxs, hf⟩ := DataW.trod_struct hu hy
    have hxs : xs.length = 4 := hxs
    match cells, hl with
    | [v0, v1, v2, v3], _ =>
    have g0 := hf 0 f0 rfl
    have g1 := hf 1 f1 rfl
    have g2 := hf 2 f2 rfl
    have g3 := hf 3 f3 rfl
    rw [t0, o0, c_u8, List.getElem?_eq_getElem (by omega)] at g0
    rw [t1, o1, c_u32, List.getElem?_eq_getElem (by omega)] at g1
    rw [t2, o2, c_Au32, List.getElem?_eq_getElem (by omega)] at g2
    rw [t3, o3, c_bool, List.getElem?_eq_getElem (by omega)] at g3
    obtain ⟨n0, e0, _, w0⟩ := DataW.trod_int u_u8 g0
    obtain ⟨n1, e1, _, w1⟩ := DataW.trod_int u_u32 g1
    obtain ⟨s2, ps, e2, hc2, hn2, hp2⟩ := open_nums g2
    obtain ⟨b3, e3, _⟩ := DataW.trod_bool u_bool g3
    simp only [List.drop_zero, List.take_succ_cons, List.take_zero, List.drop_succ_cons, List.cons.injEq, and_true] at e0 e1 e2 e3
    subst e0 e1 e2 e3
    exact ⟨(n0, n1, s2, b3), rfl, nn_of_wf w0 rfl, nn_of_wf w1 rfl, ⟨ps, hn2, hp2⟩, hc2⟩
  have := h3.len
  simp only [maxLen] at hm
  exact ⟨s, xs, h1, h3, h4, by omega⟩
end
theorem wf_bounds {k : IntKind} {n : Int} (h : (Lit.int k n).wf = true) : k.min ≤ n ∧ n ≤ k.max := by
  simpa only [Lit.wf, Bool.and_eq_true, decide_eq_true_iff] using h
section
variable {H : Type} {enc : TypeId × Value → H} {w : World} {sp : Nat → Bool} {held : Bool} {P : Program}
set_option maxRecDepth 100000 in
theorem arg_acts {b0 : Nat} {v : Value} {d : DataW H} {p : List MemPlace} (hval : Value.okWide Try.prog w .any b0 t_A_l20_Act v) (h : DataW.Trod enc Try.prog w 0 sp held t_A_l20_Act v d p) :
    ∃ (s : SliceV) (acts : List Act4), v = .slice s.a s.len s.cap ∧ ActsAt w.heap s acts := by
  obtain ⟨a, l, c, rfl⟩ := okWide_slice u_acts hval
  obtain ⟨fuel, hf⟩ := h
  obtain ⟨s, acts, e, ha⟩ := open_acts hf
  simp only [Value.cells, List.cons.injEq, and_true] at e
  exact ⟨s, acts, e, ha⟩
set_option maxRecDepth 100000 in
theorem arg_nums {b0 : Nat} {v : Value} {d : DataW H} {p : List MemPlace} (hval : Value.okWide Try.prog w .any b0 t_A_u32 v) (h : DataW.Trod enc Try.prog w 0 sp held t_A_u32 v d p) :
    ∃ (s : SliceV) (xs : List Int), v = .slice s.a s.len s.cap ∧ s.len ≤ s.cap ∧ Nums No w.heap s xs ∧ ∀ p ∈ xs, 0 ≤ p := by
  obtain ⟨a, l, c, rfl⟩ := okWide_slice u_Au32 hval
  obtain ⟨fuel, hf⟩ := h
  obtain ⟨s, acts, e, ha⟩ := open_nums hf
  simp only [Value.cells, List.cons.injEq, and_true] at e
  exact ⟨s, acts, e, ha⟩
set_option maxRecDepth 100000 in
theorem arg_u32 {b0 : Nat} {v : Value} {d : DataW H} {p : List MemPlace} (hval : Value.okWide Try.prog w .any b0 t_u32 v) (h : DataW.Trod enc Try.prog w 0 sp held t_u32 v d p) :
    ∃ n : Int, v = .int .u32 n ∧ 0 ≤ n ∧ n ≤ 4294967295 := by
  obtain ⟨n, e, _, _, hw⟩ := open_int u_u32 hval h
  exact ⟨n, e, wf_bounds hw⟩
set_option maxRecDepth 100000 in
theorem arg_u8 {b0 : Nat} {v : Value} {d : DataW H} {p : List MemPlace} (hval : Value.okWide Try.prog w .any b0 t_u8 v) (h : DataW.Trod enc Try.prog w 0 sp held t_u8 v d p) :
    ∃ n : Int, v = .int .u8 n ∧ 0 ≤ n ∧ n ≤ 255 := by
  obtain ⟨n, e, _, _, hw⟩ := open_int u_u8 hval h
  exact ⟨n, e, wf_bounds hw⟩
end
end Go.Proofs.Ytcnejdpagpafgaa
