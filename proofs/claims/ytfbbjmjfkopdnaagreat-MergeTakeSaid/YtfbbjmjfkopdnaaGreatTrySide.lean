/- A part of the proof that the named laws of this program answer true, whatever the input. -/
import Derived.Test.YtfbbjmjfkopdnaaGreatTryTree
import Derived.Test.YtfbbjmjfkopdnaaGreatPart8
namespace Go.Proofs.YtfbbjmjfkopdnaaGreat
open Go Go.Lift Go.Proofs Go.ChangeShapes Go.WideShapes Go.ChangeAt Go.RowKit
theorem u_sd : ∃ f0 f1 : Field, Tryz.prog.underlying t_merge_Side = some (.struct #[f0, f1]) ∧ (f0.type = t_str ∧ f0.offset = 0) ∧ f1.type = t_bool ∧ f1.offset = 1 :=
  ⟨_, _, (by kernel_rfl : Tryz.prog.underlying t_merge_Side = some (.struct #[{ name := "Value", pkgPath := "", type := t_str, tag := "", embedded := false, offset := 0, byteOffset := 0 }, { name := "Is", pkgPath := "", type := t_bool, tag := "", embedded := false, offset := 1, byteOffset := 16 }])), ⟨rfl, rfl⟩, rfl, rfl⟩
theorem u_int : Tryz.prog.underlying t_int = some (.int .i64) := by kernel_rfl
theorem c_sd : Tryz.prog.cellsOf t_merge_Side = 2 := by kernel_rfl
theorem c_bool2 : Tryz.prog.cellsOf t_bool = 1 := by kernel_rfl
section
variable {H : Type} {enc : TypeId × Value → H} {w : World} {sp : Nat → Bool} {held : Bool}
set_option maxRecDepth 100000 in
theorem open_sd {fuel : Nat} {cells : List Value} {y : DataW H × List MemPlace} (hl : cells.length = 2) (hy : DataW.trod enc Tryz.prog w 0 sp held fuel t_merge_Side cells = some y) : ∃ s : Sd, cells = sdF s := by
  obtain ⟨f0, f1, hu, ⟨t0, o0⟩, t1, o1⟩ := u_sd
  obtain ⟨xs, n, rfl, _, _, hxs, hf⟩ := DataW.trod_struct hu hy
  have hxs : xs.length = 2 := hxs
  match cells, hl with
  | [v0, v1], _ =>
  have g0 := hf 0 f0 rfl
  have g1 := hf 1 f1 rfl
  rw [t0, o0, c_str, List.getElem?_eq_getElem (by omega)] at g0
  rw [t1, o1, c_bool2, List.getElem?_eq_getElem (by omega)] at g1
  obtain ⟨s0, e0, _⟩ := DataW.trod_string u_str g0
  obtain ⟨s1, e1, _⟩ := DataW.trod_bool u_bool g1
  simp only [List.drop_zero, List.take_succ_cons, List.take_zero, List.drop_succ_cons, List.cons.injEq, and_true] at e0 e1
  subst e0 e1
  exact ⟨(s0, s1), rfl⟩
set_option maxRecDepth 100000 in
theorem arg_sd {b0 : Nat} {v : Value} {d : DataW H} {p : List MemPlace} (hval : Value.okWide Tryz.prog w .any b0 t_merge_Side v) (h : DataW.Trod enc Tryz.prog w 0 sp held t_merge_Side v d p) :
    ∃ q : Sd, v = .agg #[.string q.1, .bool q.2] := by
  obtain ⟨f0, f1, hu, _⟩ := u_sd
  obtain ⟨cs, rfl, hcs⟩ := okWide_struct hu hval
  rw [c_sd] at hcs
  obtain ⟨fuel, hf⟩ := h
  obtain ⟨q, e⟩ := open_sd (by simpa [Value.cells] using hcs) hf
  simp only [Value.cells] at e
  refine ⟨q, ?_⟩
  congr 1
  exact Array.toList_inj.1 e
set_option maxRecDepth 100000 in
theorem arg_int {b0 : Nat} {v : Value} {d : DataW H} {p : List MemPlace} (hval : Value.okWide Tryz.prog w .any b0 t_int v) (h : DataW.Trod enc Tryz.prog w 0 sp held t_int v d p) :
    ∃ n : Int, v = .int .i64 n := by
  obtain ⟨n, e, _⟩ := open_int u_int hval h
  exact ⟨n, e⟩
end
end Go.Proofs.YtfbbjmjfkopdnaaGreat
