/- A part of the proof that the named laws of this program answer true, whatever the input. -/
import Derived.Test.YtfbbjmjfkopdnaaGreatRows
import Derived.Test.YtfbbjmjfkopdnaaGreatPart0
namespace Go.Proofs.YtfbbjmjfkopdnaaGreat
open Go Go.Lift Go.Proofs Go.ChangeShapes Go.WideShapes Go.ChangeAt Go.RowKit
theorem Tryz.own : ownKnob Tryz.prog.godebug = none := by kernel_rfl
theorem Tryz.laidOut : laidOutB Tryz.prog = true := by kernel_rfl
theorem u_u8 : Tryz.prog.underlying t_u8 = some (.int .u8) := by kernel_rfl
theorem u_u64 : Tryz.prog.underlying t_u64 = some (.int .u64) := by kernel_rfl
theorem u_str : Tryz.prog.underlying t_str = some .string := by kernel_rfl
theorem u_bool : Tryz.prog.underlying t_bool = some .bool := by kernel_rfl
theorem u_prs : Tryz.prog.underlying t_A_pair_Pair = some (.slice t_pair_Pair) := by kernel_rfl
theorem u_pr : ∃ f0 f1 : Field, Tryz.prog.underlying t_pair_Pair = some (.struct #[f0, f1]) ∧ (f0.type = t_str ∧ f0.offset = 0) ∧ f1.type = t_str ∧ f1.offset = 1 :=
  ⟨_, _, (by kernel_rfl : Tryz.prog.underlying t_pair_Pair = some (.struct #[{ name := "Key", pkgPath := "", type := t_str, tag := "", embedded := false, offset := 0, byteOffset := 0 }, { name := "Value", pkgPath := "", type := t_str, tag := "", embedded := false, offset := 1, byteOffset := 16 }])), ⟨rfl, rfl⟩, rfl, rfl⟩
theorem u_key : ∃ f0 f1 : Field, Tryz.prog.underlying t_sip_Key = some (.struct #[f0, f1]) ∧ (f0.type = t_u64 ∧ f0.offset = 0) ∧ f1.type = t_u64 ∧ f1.offset = 1 :=
  ⟨_, _, (by kernel_rfl : Tryz.prog.underlying t_sip_Key = some (.struct #[{ name := "K0", pkgPath := "", type := t_u64, tag := "", embedded := false, offset := 0, byteOffset := 0 }, { name := "K1", pkgPath := "", type := t_u64, tag := "", embedded := false, offset := 1, byteOffset := 8 }])), ⟨rfl, rfl⟩, rfl, rfl⟩
theorem u_hs : ∃ f0 f1 : Field, Tryz.prog.underlying t_sip_Hasher = some (.struct #[f0, f1]) ∧ (f0.type = t_sip_Key ∧ f0.offset = 0) ∧ f1.type = t_u64 ∧ f1.offset = 2 :=
  ⟨_, _, (by kernel_rfl : Tryz.prog.underlying t_sip_Hasher = some (.struct #[{ name := "Key", pkgPath := "", type := t_sip_Key, tag := "", embedded := false, offset := 0, byteOffset := 0 }, { name := "Mask", pkgPath := "", type := t_u64, tag := "", embedded := false, offset := 2, byteOffset := 16 }])), ⟨rfl, rfl⟩, rfl, rfl⟩
theorem c_u64 : Tryz.prog.cellsOf t_u64 = 1 := by kernel_rfl
theorem c_str : Tryz.prog.cellsOf t_str = 1 := by kernel_rfl
theorem c_pr : Tryz.prog.cellsOf t_pair_Pair = 2 := by kernel_rfl
theorem c_key : Tryz.prog.cellsOf t_sip_Key = 2 := by kernel_rfl
theorem c_hs : Tryz.prog.cellsOf t_sip_Hasher = 3 := by kernel_rfl
theorem wf_bounds {k : IntKind} {n : Int} (h : (Lit.int k n).wf = true) : k.min ≤ n ∧ n ≤ k.max := by
  simpa only [Lit.wf, Bool.and_eq_true, decide_eq_true_iff] using h
section
variable {H : Type} {enc : TypeId × Value → H} {w : World} {sp : Nat → Bool} {held : Bool}
set_option maxRecDepth 100000 in
theorem open_pr {fuel : Nat} {cells : List Value} {y : DataW H × List MemPlace} (hl : cells.length = 2) (hy : DataW.trod enc Tryz.prog w 0 sp held fuel t_pair_Pair cells = some y) : ∃ p : Pr, cells = prF p := by
  obtain ⟨f0, f1, hu, ⟨t0, o0⟩, t1, o1⟩ := u_pr
  obtain ⟨xs, n, rfl, _, _, hxs, hf⟩ := DataW.trod_struct hu hy
  have hxs : xs.length = 2 := hxs
  match cells, hl with
  | [v0, v1], _ =>
  have g0 := hf 0 f0 rfl
  have g1 := hf 1 f1 rfl
  rw [t0, o0, c_str, List.getElem?_eq_getElem (by omega)] at g0
  rw [t1, o1, c_str, List.getElem?_eq_getElem (by omega)] at g1
  obtain ⟨s0, e0, _⟩ := DataW.trod_string u_str g0
  obtain ⟨s1, e1, _⟩ := DataW.trod_string u_str g1
  simp only [List.drop_zero, List.take_succ_cons, List.take_zero, List.drop_succ_cons, List.cons.injEq, and_true] at e0 e1
  subst e0 e1
  exact ⟨(s0, s1), rfl⟩
set_option maxRecDepth 100000 in
theorem arg_pairs {b0 : Nat} {v : Value} {d : DataW H} {p : List MemPlace} (hval : Value.okWide Tryz.prog w .any b0 t_A_pair_Pair v) (h : DataW.Trod enc Tryz.prog w 0 sp held t_A_pair_Pair v d p) :
    ∃ (s : SliceV) (l : List Pr), v = .slice s.a s.len s.cap ∧ Sl prF 2 No w.heap s l ∧ l.length ≤ 9223372036854775807 ∧ s.len ≤ s.cap := by
  obtain ⟨a, ln, c, rfl⟩ := okWide_slice u_prs hval
  obtain ⟨fuel, hf⟩ := h
  obtain ⟨s, xs, h1, h2, hm, h3, _⟩ := trod_sl u_prs hf prF c_pr prF_ne (fun _ => True) fun fuel cells y hl hy => by
    obtain ⟨p, e⟩ := open_pr hl hy
    exact ⟨p, e, trivial⟩
  simp only [Value.cells, List.cons.injEq, and_true] at h1
  have := h3.len
  simp only [maxLen] at hm
  exact ⟨s, xs, h1, h3, by omega, h2⟩
set_option maxRecDepth 100000 in
theorem arg_hs {b0 : Nat} {v : Value} {d : DataW H} {p : List MemPlace} (hval : Value.okWide Tryz.prog w .any b0 t_sip_Hasher v) (h : DataW.Trod enc Tryz.prog w 0 sp held t_sip_Hasher v d p) :
    ∃ x : Hs, v = .agg #[.int .u64 x.k0, .int .u64 x.k1, .int .u64 x.mask] := by
  obtain ⟨f0, f1, hu, ⟨t0, o0⟩, t1, o1⟩ := u_hs
  obtain ⟨cs, rfl, hcs⟩ := okWide_struct hu hval
  rw [c_hs] at hcs
  obtain ⟨fuel, hf⟩ := h
  obtain ⟨xs, n, rfl, _, _, hxs, hf⟩ := DataW.trod_struct hu hf
  have hxs : xs.length = 2 := hxs
  obtain ⟨l, rfl⟩ : ∃ l : List Value, cs = l.toArray := ⟨cs.toList, rfl⟩
  match l, hcs with
  | [v0, v1, v2], _ =>
  have g0 := hf 0 f0 rfl
  have g1 := hf 1 f1 rfl
  rw [t0, o0, c_key, List.getElem?_eq_getElem (by omega)] at g0
  rw [t1, o1, c_u64, List.getElem?_eq_getElem (by omega)] at g1
  simp only [Value.cells, List.drop_zero, List.take_succ_cons, List.take_zero, List.drop_succ_cons] at g0 g1
  obtain ⟨q0, q1, hu2, ⟨r0, p0⟩, r1, p1⟩ := u_key
  obtain ⟨ys, n2, rfl, _, _, hys, hg⟩ := DataW.trod_struct hu2 g0
  have hys : ys.length = 2 := hys
  have k0 := hg 0 q0 rfl
  have k1 := hg 1 q1 rfl
  rw [r0, p0, c_u64, List.getElem?_eq_getElem (by omega)] at k0
  rw [r1, p1, c_u64, List.getElem?_eq_getElem (by omega)] at k1
  obtain ⟨n0, e0, _⟩ := DataW.trod_int u_u64 k0
  obtain ⟨n1, e1, _⟩ := DataW.trod_int u_u64 k1
  obtain ⟨n2, e2, _⟩ := DataW.trod_int u_u64 g1
  simp only [List.drop_zero, List.take_succ_cons, List.take_zero, List.drop_succ_cons, List.cons.injEq, and_true] at e0 e1 e2
  subst e0 e1 e2
  exact ⟨⟨n0, n1, n2⟩, rfl⟩
set_option maxRecDepth 100000 in
theorem arg_u8 {b0 : Nat} {v : Value} {d : DataW H} {p : List MemPlace} (hval : Value.okWide Tryz.prog w .any b0 t_u8 v) (h : DataW.Trod enc Tryz.prog w 0 sp held t_u8 v d p) :
    ∃ n : Int, v = .int .u8 n ∧ 0 ≤ n ∧ n ≤ 255 := by
  obtain ⟨n, e, _, _, hw⟩ := open_int u_u8 hval h
  exact ⟨n, e, wf_bounds hw⟩
set_option maxRecDepth 100000 in
theorem arg_bool {b0 : Nat} {v : Value} {d : DataW H} {p : List MemPlace} (hval : Value.okWide Tryz.prog w .any b0 t_bool v) (_ : DataW.Trod enc Tryz.prog w 0 sp held t_bool v d p) : ∃ b : Bool, v = .bool b := okWide_bool u_bool hval
end
end Go.Proofs.YtfbbjmjfkopdnaaGreat
