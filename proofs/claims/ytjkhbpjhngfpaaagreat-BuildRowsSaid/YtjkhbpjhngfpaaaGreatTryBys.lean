/- A part of the proof that the named laws of this program answer true, whatever the input. -/
import Derived.Test.YtjkhbpjhngfpaaaGreatTryTree
import Derived.Test.YtjkhbpjhngfpaaaGreatPart2
namespace Go.Proofs.YtjkhbpjhngfpaaaGreat
open Go Go.Lift Go.Proofs Go.ChangeShapes Go.WideShapes Go.ChangeAt Go.RowKit
section
variable {H : Type} {enc : TypeId × Value → H} {w : World} {sp : Nat → Bool} {held : Bool}
set_option maxRecDepth 100000 in
theorem arg_bys {b0 : Nat} {v : Value} {d : DataW H} {p : List MemPlace} (hval : Value.okWide Tryz.prog w .any b0 t_A_u8 v) (h : DataW.Trod enc Tryz.prog w 0 sp held t_A_u8 v d p) :
    ∃ (s : SliceV) (l : List UInt8), v = .slice s.a s.len s.cap ∧ Sl byF 1 No w.heap s l := by
  obtain ⟨a, ln, c, rfl⟩ := okWide_slice u_bys hval
  obtain ⟨fuel, hf⟩ := h
  obtain ⟨s, xs, h1, h2, hm, h3, _⟩ := trod_sl u_bys hf byF c_u8 byF_ne (fun _ => True) fun fuel cells y hl hy => by
    match cells, hl with
    | [v0], _ =>
    obtain ⟨n, e, _, hb⟩ := DataW.trod_int u_u8 hy
    have e : v0 = .int .u8 n := by simpa using e
    subst e
    have hb : IntKind.min .u8 ≤ n ∧ n ≤ IntKind.max .u8 := wf_bounds hb
    have h0 : (0 : Int) ≤ n := hb.1
    have h1 : n ≤ (255 : Int) := hb.2
    refine ⟨UInt8.ofNat n.toNat, ?_, trivial⟩
    have : (UInt8.ofNat n.toNat).toNat = n.toNat := by
      rw [UInt8.toNat_ofNat']
      omega
    show [Value.int .u8 n] = [Value.int .u8 ((UInt8.ofNat n.toNat).toNat : Int)]
    rw [this, Int.toNat_of_nonneg h0]
  simp only [Value.cells, List.cons.injEq, and_true] at h1
  exact ⟨s, xs, h1, h3⟩
end
end Go.Proofs.YtjkhbpjhngfpaaaGreat
