/- A part of the proof that the named laws of this program answer true, whatever the input. -/
import Derived.Test.YtfbbjmjfkopdnaaGreatTryTree
import Derived.Test.YtfbbjmjfkopdnaaGreatPart5
namespace Go.Proofs.YtfbbjmjfkopdnaaGreat
open Go Go.Lift Go.Proofs Go.ChangeShapes Go.WideShapes Go.ChangeAt Go.RowKit
theorem u_chs : Tryz.prog.underlying t_A_diff_Change = some (.slice t_diff_Change) := by kernel_rfl
theorem u_ch : ∃ f0 f1 f2 f3 f4 : Field, Tryz.prog.underlying t_diff_Change = some (.struct #[f0, f1, f2, f3, f4]) ∧ (f0.type = t_str ∧ f0.offset = 0) ∧ (f1.type = t_str ∧ f1.offset = 1) ∧ (f2.type = t_str ∧ f2.offset = 2) ∧ (f3.type = t_bool ∧ f3.offset = 3) ∧ f4.type = t_bool ∧ f4.offset = 4 :=
  ⟨_, _, _, _, _, (by kernel_rfl : Tryz.prog.underlying t_diff_Change = some (.struct #[{ name := "Key", pkgPath := "", type := t_str, tag := "", embedded := false, offset := 0, byteOffset := 0 }, { name := "Old", pkgPath := "", type := t_str, tag := "", embedded := false, offset := 1, byteOffset := 16 }, { name := "New", pkgPath := "", type := t_str, tag := "", embedded := false, offset := 2, byteOffset := 32 }, { name := "Was", pkgPath := "", type := t_bool, tag := "", embedded := false, offset := 3, byteOffset := 48 }, { name := "Is", pkgPath := "", type := t_bool, tag := "", embedded := false, offset := 4, byteOffset := 49 }])), ⟨rfl, rfl⟩, ⟨rfl, rfl⟩, ⟨rfl, rfl⟩, ⟨rfl, rfl⟩, rfl, rfl⟩
theorem c_bool : Tryz.prog.cellsOf t_bool = 1 := by kernel_rfl
theorem c_ch : Tryz.prog.cellsOf t_diff_Change = 5 := by kernel_rfl
section
variable {H : Type} {enc : TypeId × Value → H} {w : World} {sp : Nat → Bool} {held : Bool}
set_option maxRecDepth 100000 in
theorem open_ch {fuel : Nat} {cells : List Value} {y : DataW H × List MemPlace} (hl : cells.length = 5) (hy : DataW.trod enc Tryz.prog w 0 sp held fuel t_diff_Change cells = some y) : ∃ c : Ch, cells = chF c := by
  obtain ⟨f0, f1, f2, f3, f4, hu, ⟨t0, o0⟩, ⟨t1, o1⟩, ⟨t2, o2⟩, ⟨t3, o3⟩, t4, o4⟩ := u_ch
  obtain ⟨xs, n, rfl, _, _, hxs, hf⟩ := DataW.trod_struct hu hy
  have hxs : xs.length = 5 := hxs
  match cells, hl with
  | [v0, v1, v2, v3, v4], _ =>
  have g0 := hf 0 f0 rfl
  have g1 := hf 1 f1 rfl
  have g2 := hf 2 f2 rfl
  have g3 := hf 3 f3 rfl
  have g4 := hf 4 f4 rfl
  rw [t0, o0, c_str, List.getElem?_eq_getElem (by omega)] at g0
  rw [t1, o1, c_str, List.getElem?_eq_getElem (by omega)] at g1
  rw [t2, o2, c_str, List.getElem?_eq_getElem (by omega)] at g2
  rw [t3, o3, c_bool, List.getElem?_eq_getElem (by omega)] at g3
  rw [t4, o4, c_bool, List.getElem?_eq_getElem (by omega)] at g4
  obtain ⟨s0, e0, _⟩ := DataW.trod_string u_str g0
  obtain ⟨s1, e1, _⟩ := DataW.trod_string u_str g1
  obtain ⟨s2, e2, _⟩ := DataW.trod_string u_str g2
  obtain ⟨s3, e3, _⟩ := DataW.trod_bool u_bool g3
  obtain ⟨s4, e4, _⟩ := DataW.trod_bool u_bool g4
  simp only [List.drop_zero, List.take_succ_cons, List.take_zero, List.drop_succ_cons, List.cons.injEq, and_true] at e0 e1 e2 e3 e4
  subst e0 e1 e2 e3 e4
  exact ⟨(s0, s1, s2, s3, s4), rfl⟩
set_option maxRecDepth 100000 in
theorem arg_chs {b0 : Nat} {v : Value} {d : DataW H} {p : List MemPlace} (hval : Value.okWide Tryz.prog w .any b0 t_A_diff_Change v) (h : DataW.Trod enc Tryz.prog w 0 sp held t_A_diff_Change v d p) :
    ∃ (s : SliceV) (l : List Ch), v = .slice s.a s.len s.cap ∧ Sl chF 5 No w.heap s l ∧ l.length ≤ 9223372036854775807 := by
  obtain ⟨a, ln, c, rfl⟩ := okWide_slice u_chs hval
  obtain ⟨fuel, hf⟩ := h
  obtain ⟨s, xs, h1, h2, hm, h3, _⟩ := trod_sl u_chs hf chF c_ch chF_ne (fun _ => True) fun fuel cells y hl hy => by
    obtain ⟨p, e⟩ := open_ch hl hy
    exact ⟨p, e, trivial⟩
  simp only [Value.cells, List.cons.injEq, and_true] at h1
  have := h3.len
  simp only [maxLen] at hm
  exact ⟨s, xs, h1, h3, by omega⟩
end
end Go.Proofs.YtfbbjmjfkopdnaaGreat
