/- A part of the proof that the named laws of this program answer true, whatever the input. -/
import Derived.Test.YtjkhbpjhngfpaaaGreatTreeF
set_option maxRecDepth 100000
set_option linter.unusedVariables false
namespace Go.Proofs
open Go.Lift
def F_math_bits_OnesCount32 (x0 : Int) (K : (Int) → Heap → Prop) (h0 : Heap) : Prop :=
 ((0 : Int) ≤ (24 : Int) ∧
 ∃ b1, (0 : Int) ≤ (Int.fdiv x0 (2 ^ (min (24 : Int).toNat (IntKind.bits .u32)))) ∧ (⟨#[0, 1, 1, 2, 1, 2, 2, 3, 1, 2, 2, 3, 2, 3, 3, 4, 1, 2, 2, 3, 2, 3, 3, 4, 2, 3, 3, 4, 3, 4, 4, 5, 1, 2, 2, 3, 2, 3, 3, 4, 2, 3, 3, 4, 3, 4, 4, 5, 2, 3, 3, 4, 3, 4, 4, 5, 3, 4, 4, 5, 4, 5, 5, 6, 1, 2, 2, 3, 2, 3, 3, 4, 2, 3, 3, 4, 3, 4, 4, 5, 2, 3, 3, 4, 3, 4, 4, 5, 3, 4, 4, 5, 4, 5, 5, 6, 2, 3, 3, 4, 3, 4, 4, 5, 3, 4, 4, 5, 4, 5, 5, 6, 3, 4, 4, 5, 4, 5, 5, 6, 4, 5, 5, 6, 5, 6, 6, 7, 1, 2, 2, 3, 2, 3, 3, 4, 2, 3, 3, 4, 3, 4, 4, 5, 2, 3, 3, 4, 3, 4, 4, 5, 3, 4, 4, 5, 4, 5, 5, 6, 2, 3, 3, 4, 3, 4, 4, 5, 3, 4, 4, 5, 4, 5, 5, 6, 3, 4, 4, 5, 4, 5, 5, 6, 4, 5, 5, 6, 5, 6, 6, 7, 2, 3, 3, 4, 3, 4, 4, 5, 3, 4, 4, 5, 4, 5, 5, 6, 3, 4, 4, 5, 4, 5, 5, 6, 4, 5, 5, 6, 5, 6, 6, 7, 3, 4, 4, 5, 4, 5, 5, 6, 4, 5, 5, 6, 5, 6, 6, 7, 4, 5, 5, 6, 5, 6, 6, 7, 5, 6, 6, 7, 6, 7, 7, 8]⟩ : ByteArray)[(Int.fdiv x0 (2 ^ (min (24 : Int).toNat (IntKind.bits .u32)))).toNat]? = some b1 ∧
 ((0 : Int) ≤ (16 : Int) ∧
 Bd (IntKind.wrap .u32 (BitVec.ofInt (IntKind.bits .u32) (Int.fdiv x0 (2 ^ (min (16 : Int).toNat (IntKind.bits .u32)))) &&& BitVec.ofInt (IntKind.bits .u32) 255).toNat : Int) (fun n2 =>
 ∃ b3, (0 : Int) ≤ n2 ∧ (⟨#[0, 1, 1, 2, 1, 2, 2, 3, 1, 2, 2, 3, 2, 3, 3, 4, 1, 2, 2, 3, 2, 3, 3, 4, 2, 3, 3, 4, 3, 4, 4, 5, 1, 2, 2, 3, 2, 3, 3, 4, 2, 3, 3, 4, 3, 4, 4, 5, 2, 3, 3, 4, 3, 4, 4, 5, 3, 4, 4, 5, 4, 5, 5, 6, 1, 2, 2, 3, 2, 3, 3, 4, 2, 3, 3, 4, 3, 4, 4, 5, 2, 3, 3, 4, 3, 4, 4, 5, 3, 4, 4, 5, 4, 5, 5, 6, 2, 3, 3, 4, 3, 4, 4, 5, 3, 4, 4, 5, 4, 5, 5, 6, 3, 4, 4, 5, 4, 5, 5, 6, 4, 5, 5, 6, 5, 6, 6, 7, 1, 2, 2, 3, 2, 3, 3, 4, 2, 3, 3, 4, 3, 4, 4, 5, 2, 3, 3, 4, 3, 4, 4, 5, 3, 4, 4, 5, 4, 5, 5, 6, 2, 3, 3, 4, 3, 4, 4, 5, 3, 4, 4, 5, 4, 5, 5, 6, 3, 4, 4, 5, 4, 5, 5, 6, 4, 5, 5, 6, 5, 6, 6, 7, 2, 3, 3, 4, 3, 4, 4, 5, 3, 4, 4, 5, 4, 5, 5, 6, 3, 4, 4, 5, 4, 5, 5, 6, 4, 5, 5, 6, 5, 6, 6, 7, 3, 4, 4, 5, 4, 5, 5, 6, 4, 5, 5, 6, 5, 6, 6, 7, 4, 5, 5, 6, 5, 6, 6, 7, 5, 6, 6, 7, 6, 7, 7, 8]⟩ : ByteArray)[n2.toNat]? = some b3 ∧
 ((0 : Int) ≤ (8 : Int) ∧
 Bd (IntKind.wrap .u32 (BitVec.ofInt (IntKind.bits .u32) (Int.fdiv x0 (2 ^ (min (8 : Int).toNat (IntKind.bits .u32)))) &&& BitVec.ofInt (IntKind.bits .u32) 255).toNat : Int) (fun n4 =>
 ∃ b5, (0 : Int) ≤ n4 ∧ (⟨#[0, 1, 1, 2, 1, 2, 2, 3, 1, 2, 2, 3, 2, 3, 3, 4, 1, 2, 2, 3, 2, 3, 3, 4, 2, 3, 3, 4, 3, 4, 4, 5, 1, 2, 2, 3, 2, 3, 3, 4, 2, 3, 3, 4, 3, 4, 4, 5, 2, 3, 3, 4, 3, 4, 4, 5, 3, 4, 4, 5, 4, 5, 5, 6, 1, 2, 2, 3, 2, 3, 3, 4, 2, 3, 3, 4, 3, 4, 4, 5, 2, 3, 3, 4, 3, 4, 4, 5, 3, 4, 4, 5, 4, 5, 5, 6, 2, 3, 3, 4, 3, 4, 4, 5, 3, 4, 4, 5, 4, 5, 5, 6, 3, 4, 4, 5, 4, 5, 5, 6, 4, 5, 5, 6, 5, 6, 6, 7, 1, 2, 2, 3, 2, 3, 3, 4, 2, 3, 3, 4, 3, 4, 4, 5, 2, 3, 3, 4, 3, 4, 4, 5, 3, 4, 4, 5, 4, 5, 5, 6, 2, 3, 3, 4, 3, 4, 4, 5, 3, 4, 4, 5, 4, 5, 5, 6, 3, 4, 4, 5, 4, 5, 5, 6, 4, 5, 5, 6, 5, 6, 6, 7, 2, 3, 3, 4, 3, 4, 4, 5, 3, 4, 4, 5, 4, 5, 5, 6, 3, 4, 4, 5, 4, 5, 5, 6, 4, 5, 5, 6, 5, 6, 6, 7, 3, 4, 4, 5, 4, 5, 5, 6, 4, 5, 5, 6, 5, 6, 6, 7, 4, 5, 5, 6, 5, 6, 6, 7, 5, 6, 6, 7, 6, 7, 7, 8]⟩ : ByteArray)[n4.toNat]? = some b5 ∧
 Bd (IntKind.wrap .u8 ((IntKind.wrap .u8 ((b1.toNat : Int) + (b3.toNat : Int))) + (b5.toNat : Int)) : Int) (fun n6 =>
 Bd (IntKind.wrap .u32 (BitVec.ofInt (IntKind.bits .u32) x0 &&& BitVec.ofInt (IntKind.bits .u32) 255).toNat : Int) (fun n7 =>
 ∃ b8, (0 : Int) ≤ n7 ∧ (⟨#[0, 1, 1, 2, 1, 2, 2, 3, 1, 2, 2, 3, 2, 3, 3, 4, 1, 2, 2, 3, 2, 3, 3, 4, 2, 3, 3, 4, 3, 4, 4, 5, 1, 2, 2, 3, 2, 3, 3, 4, 2, 3, 3, 4, 3, 4, 4, 5, 2, 3, 3, 4, 3, 4, 4, 5, 3, 4, 4, 5, 4, 5, 5, 6, 1, 2, 2, 3, 2, 3, 3, 4, 2, 3, 3, 4, 3, 4, 4, 5, 2, 3, 3, 4, 3, 4, 4, 5, 3, 4, 4, 5, 4, 5, 5, 6, 2, 3, 3, 4, 3, 4, 4, 5, 3, 4, 4, 5, 4, 5, 5, 6, 3, 4, 4, 5, 4, 5, 5, 6, 4, 5, 5, 6, 5, 6, 6, 7, 1, 2, 2, 3, 2, 3, 3, 4, 2, 3, 3, 4, 3, 4, 4, 5, 2, 3, 3, 4, 3, 4, 4, 5, 3, 4, 4, 5, 4, 5, 5, 6, 2, 3, 3, 4, 3, 4, 4, 5, 3, 4, 4, 5, 4, 5, 5, 6, 3, 4, 4, 5, 4, 5, 5, 6, 4, 5, 5, 6, 5, 6, 6, 7, 2, 3, 3, 4, 3, 4, 4, 5, 3, 4, 4, 5, 4, 5, 5, 6, 3, 4, 4, 5, 4, 5, 5, 6, 4, 5, 5, 6, 5, 6, 6, 7, 3, 4, 4, 5, 4, 5, 5, 6, 4, 5, 5, 6, 5, 6, 6, 7, 4, 5, 5, 6, 5, 6, 6, 7, 5, 6, 6, 7, 6, 7, 7, 8]⟩ : ByteArray)[n7.toNat]? = some b8 ∧
 K (IntKind.wrap .i64 (IntKind.wrap .u8 (n6 + (b8.toNat : Int)))) h0)))))))
def A_math_bits_OnesCount32 : Ann := .node (.reg [0] (.nil)) (.node (.reg [2] (.draw [.mk 0 524287 1 8, .mk 1 524286 8 16, .mk 2 524285 16 32, .mk 0 524287 1 64, .mk 8 524279 64 128, .mk 16 524271 128 256, .mk 32 524255 256 512, .mk 68 524219 544 1024, .mk 0 524287 1 2048, .mk 256 524031 2048 4096, .mk 512 523775 4096 8192, .mk 1024 523263 8192 16384, .mk 2176 522111 17408 32768, .mk 0 524287 1 65536, .mk 8192 516095 65536 131072, .mk 16384 507903 131072 262144, .mk 36864 487423 294912 524288, .mk 65536 458751 524288 1048576, .mk 262143 393215 1048576 4] (.take 0 (.take 1 (.take 2 (.take 3 (.take 4 (.take 5 (.take 6 (.take 7 (.take 8 (.take 9 (.take 10 (.take 11 (.take 12 (.take 13 (.take 14 (.take 15 (.take 16 (.take 17 (.take 18 (.done)))))))))))))))))))))) (.nil))
theorem H_math_bits_OnesCount32 (x0 : Int) {K : Tup [.c (.int .i64)] → Heap → Prop} {h0 : Heap} (h : F_math_bits_OnesCount32 x0 K h0) : HC PG f_math_bits_OnesCount32 [.int .u32 x0] [.c (.int .i64)] K h0 := HC.intro (an := A_math_bits_OnesCount32) (c := Tryz.f182.body.getD .skip) Tryz.mixed Tryz.func182 rfl Tryz.call182 (Nat.le_of_ble_eq_true rfl) (cst (by kernel_rfl) h)
def F_slices_swapRangeCmpFunc_pair_Pair (x0 : SliceV) (x1 : Int) (x2 : Int) (x3 : Int) (x4 : Value) (K : (Unit) → Heap → Prop) (h0 : Heap) : Prop :=
 LoopP (fun I1 (t2 : Int) h3 =>
 CondP (decide (t2 < x3)) (
 (((0 : Int) ≤ (IntKind.wrap .i64 (x2 + t2)) ∧ (IntKind.wrap .i64 (x2 + t2)) < ((x0.len : Nat) : Int)) ∧ ∃ a4, x0.a = some a4 ∧
 ∃ v5, hcell h3 (adr (adr a4 ((IntKind.wrap .i64 (x2 + t2)).toNat * 2)) 0) = some (.string v5) ∧
 ∃ v6, hcell h3 (adr (adr a4 ((IntKind.wrap .i64 (x2 + t2)).toNat * 2)) 1) = some (.string v6) ∧
 (((0 : Int) ≤ (IntKind.wrap .i64 (x1 + t2)) ∧ (IntKind.wrap .i64 (x1 + t2)) < ((x0.len : Nat) : Int)) ∧ ∃ a7, x0.a = some a7 ∧
 ∃ v8, hcell h3 (adr (adr a7 ((IntKind.wrap .i64 (x1 + t2)).toNat * 2)) 0) = some (.string v8) ∧
 ∃ v9, hcell h3 (adr (adr a7 ((IntKind.wrap .i64 (x1 + t2)).toNat * 2)) 1) = some (.string v9) ∧
 (((0 : Int) ≤ (IntKind.wrap .i64 (x1 + t2)) ∧ (IntKind.wrap .i64 (x1 + t2)) < ((x0.len : Nat) : Int)) ∧ ∃ a10, x0.a = some a10 ∧
 (WrS h3 (some (adr a10 ((IntKind.wrap .i64 (x1 + t2)).toNat * 2))) 0 [.string v5, .string v6] ∧
 At (hsetL h3 (adr a10 ((IntKind.wrap .i64 (x1 + t2)).toNat * 2)) 0 [.string v5, .string v6]) (fun h11 =>
 (((0 : Int) ≤ (IntKind.wrap .i64 (x2 + t2)) ∧ (IntKind.wrap .i64 (x2 + t2)) < ((x0.len : Nat) : Int)) ∧ ∃ a12, x0.a = some a12 ∧
 (WrS h11 (some (adr a12 ((IntKind.wrap .i64 (x2 + t2)).toNat * 2))) 0 [.string v8, .string v9] ∧
 At (hsetL h11 (adr a12 ((IntKind.wrap .i64 (x2 + t2)).toNat * 2)) 0 [.string v8, .string v9]) (fun h13 =>
 I1 (IntKind.wrap .i64 (t2 + 1)) h13))))))))) (
 K () h3)) 0 h0
def A_slices_swapRangeCmpFunc_pair_Pair : Ann := .node (.reg [0, 1, 2, 3, 10] (.nil)) (.loop [0, 1, 2, 3] [(10, .c (.int .i64))] (.node (.node (.reg [0, 1, 2, 3, 10, 13] (.nil)) (.nil)) (.node (.reg [0, 1, 2, 3, 10] (.draw [.mk 0 16777215 1 65536, .mk 0 16777215 2 131072, .mk 0 16777215 1024 262144, .mk 6 16777209 393216 524288, .mk 0 16777215 1 1048576, .mk 0 16777215 4 2097152, .mk 0 16777215 1024 4194304, .mk 96 16777119 6291456 8388608, .mk 0 16777215 1 16777216, .mk 0 16777215 4 33554432, .mk 0 16777215 1024 67108864, .mk 1536 16775679 100663296 134217728, .mk 2304 16774911 150994944 268435456, .mk 4096 16773119 268435456 536870912, .mk 0 16777215 1 1073741824, .mk 0 16777215 2 2147483648, .mk 0 16777215 1024 4294967296, .mk 98304 16678911 6442450944 8589934592, .mk 147456 16629759 9663676416 17179869184, .mk 262144 16515071 17179869184 34359738368, .mk 540431 16777206 589824 68719476736, .mk 1589007 15720447 69256347648 0, .mk 4194303 16777071 9437184 137438953472, .mk 8388607 12058623 171798691840 0] (.take 0 (.take 1 (.take 2 (.take 3 (.take 4 (.take 5 (.take 6 (.take 7 (.take 8 (.take 9 (.take 10 (.take 11 (.take 12 (.take 13 (.take 14 (.take 15 (.take 16 (.take 17 (.take 18 (.take 19 (.take 20 (.all (.last 21 (.take 22 (.all (.last 23 (.done))))))))))))))))))))))))))))) (.reg [0, 1, 2, 3, 10] (.nil)))))
theorem H_slices_swapRangeCmpFunc_pair_Pair (x0 : SliceV) (x1 : Int) (x2 : Int) (x3 : Int) (x4 : Value) {K : Tup [] → Heap → Prop} {h0 : Heap} (h : F_slices_swapRangeCmpFunc_pair_Pair x0 x1 x2 x3 x4 K h0) : HC PG f_slices_swapRangeCmpFunc_pair_Pair [.slice x0.a x0.len x0.cap, .int .i64 x1, .int .i64 x2, .int .i64 x3, x4] [] K h0 := HC.intro (an := A_slices_swapRangeCmpFunc_pair_Pair) (c := Tryz.f185.body.getD .skip) Tryz.mixed Tryz.func185 rfl Tryz.call185 (Nat.le_of_ble_eq_true rfl) (cst (by kernel_rfl) h)
def F_span_Span_past (x0 : ByteArray × ByteArray × Bool) (x1 : ByteArray) (K : (Bool) → Heap → Prop) (h0 : Heap) : Prop :=
 At (hnew h0 [.string x0.1, .string x0.2.1, .bool x0.2.2] t_span_Span) (fun h1 =>
 Join (fun (t5 : Bool) h6 =>
 CondP t5 (
 K true h6) (
 ∃ v7, hcell h6 (adr (newA h0) 0) = some (.string v7) ∧
 CondP (Op.bytesLess x1.toList v7.toList) (
 ∃ v8, hcell h6 (adr (newA h0) 0) = some (.string v8) ∧
 HC PG f_twig_Begins [.string v8, .string x1] [.c .bool] (fun (e9 : Bool) h10 =>
 K (!e9) h10) h6) (
 K false h6))) (fun J2 =>
 ∃ v3, hcell h1 (adr (newA h0) 2) = some (.bool v3) ∧
 CondP (!v3) (
 ∃ v4, hcell h1 (adr (newA h0) 1) = some (.string v4) ∧
 J2 (!(Op.bytesLess x1.toList v4.toList)) h1) (
 J2 false h1)))
def A_span_Span_past : Ann := .node (.reg [1, 2] (.nil)) (.node (.join [1, 2] [(13, .c .bool)] (.reg [1, 2, 13] (.nil)) (.node (.node (.reg [4] (.nil)) (.nil)) (.nil))) (.node (.reg [4] (.nil)) (.nil)))
theorem H_span_Span_past (x0 : ByteArray × ByteArray × Bool) (x1 : ByteArray) {K : Tup [.c .bool] → Heap → Prop} {h0 : Heap} (h : F_span_Span_past x0 x1 K h0) : HC PG f_span_Span_past [.agg #[.string x0.1, .string x0.2.1, .bool x0.2.2], .string x1] [.c .bool] K h0 := HC.intro (an := A_span_Span_past) (c := Tryz.f186.body.getD .skip) Tryz.mixed Tryz.func186 rfl Tryz.call186 (Nat.le_of_ble_eq_true rfl) (cst (by kernel_rfl) h)
def F_slices_Reverse_A_span_work_span_work (x0 : SliceV) (K : (Unit) → Heap → Prop) (h0 : Heap) : Prop :=
 LoopP (fun I1 (t2 : Int × Int) h3 =>
 CondP (decide (t2.1 < t2.2)) (
 (((0 : Int) ≤ t2.2 ∧ t2.2 < ((x0.len : Nat) : Int)) ∧ ∃ a4, x0.a = some a4 ∧
 ∃ v5, hcell h3 (adr (adr a4 (t2.2.toNat * 3)) 0) = some (.pointer v5) ∧
 ∃ v6, hcell h3 (adr (adr a4 (t2.2.toNat * 3)) 1) = some (.string v6) ∧
 ∃ v7, hcell h3 (adr (adr a4 (t2.2.toNat * 3)) 2) = some (.bool v7) ∧
 (((0 : Int) ≤ t2.1 ∧ t2.1 < ((x0.len : Nat) : Int)) ∧ ∃ a8, x0.a = some a8 ∧
 ∃ v9, hcell h3 (adr (adr a8 (t2.1.toNat * 3)) 0) = some (.pointer v9) ∧
 ∃ v10, hcell h3 (adr (adr a8 (t2.1.toNat * 3)) 1) = some (.string v10) ∧
 ∃ v11, hcell h3 (adr (adr a8 (t2.1.toNat * 3)) 2) = some (.bool v11) ∧
 (((0 : Int) ≤ t2.1 ∧ t2.1 < ((x0.len : Nat) : Int)) ∧ ∃ a12, x0.a = some a12 ∧
 (WrS h3 (some (adr a12 (t2.1.toNat * 3))) 0 [.pointer v5, .string v6, .bool v7] ∧
 At (hsetL h3 (adr a12 (t2.1.toNat * 3)) 0 [.pointer v5, .string v6, .bool v7]) (fun h13 =>
 (((0 : Int) ≤ t2.2 ∧ t2.2 < ((x0.len : Nat) : Int)) ∧ ∃ a14, x0.a = some a14 ∧
 (WrS h13 (some (adr a14 (t2.2.toNat * 3))) 0 [.pointer v9, .string v10, .bool v11] ∧
 At (hsetL h13 (adr a14 (t2.2.toNat * 3)) 0 [.pointer v9, .string v10, .bool v11]) (fun h15 =>
 I1 (IntKind.wrap .i64 (t2.1 + 1), IntKind.wrap .i64 (t2.2 - 1)) h15))))))))) (
 K () h3)) (0, IntKind.wrap .i64 ((x0.len : Int) - 1)) h0
def A_slices_Reverse_A_span_work_span_work : Ann := .node (.reg [0, 2, 3] (.nil)) (.loop [0] [(2, .c (.int .i64)), (3, .c (.int .i64))] (.node (.node (.reg [0, 2, 3, 9] (.nil)) (.nil)) (.node (.reg [0, 2, 3] (.draw [.mk 0 65535 1 16384, .mk 0 65535 4 32768, .mk 0 65535 1 65536, .mk 0 65535 8 131072, .mk 0 65535 1 262144, .mk 0 65535 8 524288, .mk 48 65487 786432 1048576, .mk 64 65471 1048576 2097152, .mk 0 65535 1 4194304, .mk 0 65535 4 8388608, .mk 768 64767 12582912 16777216, .mk 1024 64511 16777216 33554432, .mk 2291 65532 49152 67108864, .mk 6387 61311 69206016 0, .mk 16383 65523 196608 134217728, .mk 32767 47103 167772160 0] (.take 0 (.take 1 (.take 2 (.take 3 (.take 4 (.take 5 (.take 6 (.take 7 (.take 8 (.take 9 (.take 10 (.take 11 (.take 12 (.all (.last 13 (.take 14 (.all (.last 15 (.done))))))))))))))))))))) (.reg [0, 2, 3] (.nil)))))
theorem H_slices_Reverse_A_span_work_span_work (x0 : SliceV) {K : Tup [] → Heap → Prop} {h0 : Heap} (h : F_slices_Reverse_A_span_work_span_work x0 K h0) : HC PG f_slices_Reverse_A_span_work_span_work [.slice x0.a x0.len x0.cap] [] K h0 := HC.intro (an := A_slices_Reverse_A_span_work_span_work) (c := Tryz.f187.body.getD .skip) Tryz.mixed Tryz.func187 rfl Tryz.call187 (Nat.le_of_ble_eq_true rfl) (cst (by kernel_rfl) h)
def F_slices_swapRangeCmpFunc_build_hashed (x0 : SliceV) (x1 : Int) (x2 : Int) (x3 : Int) (x4 : Value) (K : (Unit) → Heap → Prop) (h0 : Heap) : Prop :=
 LoopP (fun I1 (t2 : Int) h3 =>
 CondP (decide (t2 < x3)) (
 (((0 : Int) ≤ (IntKind.wrap .i64 (x2 + t2)) ∧ (IntKind.wrap .i64 (x2 + t2)) < ((x0.len : Nat) : Int)) ∧ ∃ a4, x0.a = some a4 ∧
 ∃ v5, hcell h3 (adr (adr a4 ((IntKind.wrap .i64 (x2 + t2)).toNat * 3)) 0) = some (.string v5) ∧
 ∃ v6, hcell h3 (adr (adr a4 ((IntKind.wrap .i64 (x2 + t2)).toNat * 3)) 1) = some (.string v6) ∧
 ∃ v7, hcell h3 (adr (adr a4 ((IntKind.wrap .i64 (x2 + t2)).toNat * 3)) 2) = some (.int .u64 v7) ∧
 (((0 : Int) ≤ (IntKind.wrap .i64 (x1 + t2)) ∧ (IntKind.wrap .i64 (x1 + t2)) < ((x0.len : Nat) : Int)) ∧ ∃ a8, x0.a = some a8 ∧
 ∃ v9, hcell h3 (adr (adr a8 ((IntKind.wrap .i64 (x1 + t2)).toNat * 3)) 0) = some (.string v9) ∧
 ∃ v10, hcell h3 (adr (adr a8 ((IntKind.wrap .i64 (x1 + t2)).toNat * 3)) 1) = some (.string v10) ∧
 ∃ v11, hcell h3 (adr (adr a8 ((IntKind.wrap .i64 (x1 + t2)).toNat * 3)) 2) = some (.int .u64 v11) ∧
 (((0 : Int) ≤ (IntKind.wrap .i64 (x1 + t2)) ∧ (IntKind.wrap .i64 (x1 + t2)) < ((x0.len : Nat) : Int)) ∧ ∃ a12, x0.a = some a12 ∧
 (WrS h3 (some (adr a12 ((IntKind.wrap .i64 (x1 + t2)).toNat * 3))) 0 [.string v5, .string v6, .int .u64 v7] ∧
 At (hsetL h3 (adr a12 ((IntKind.wrap .i64 (x1 + t2)).toNat * 3)) 0 [.string v5, .string v6, .int .u64 v7]) (fun h13 =>
 (((0 : Int) ≤ (IntKind.wrap .i64 (x2 + t2)) ∧ (IntKind.wrap .i64 (x2 + t2)) < ((x0.len : Nat) : Int)) ∧ ∃ a14, x0.a = some a14 ∧
 (WrS h13 (some (adr a14 ((IntKind.wrap .i64 (x2 + t2)).toNat * 3))) 0 [.string v9, .string v10, .int .u64 v11] ∧
 At (hsetL h13 (adr a14 ((IntKind.wrap .i64 (x2 + t2)).toNat * 3)) 0 [.string v9, .string v10, .int .u64 v11]) (fun h15 =>
 I1 (IntKind.wrap .i64 (t2 + 1)) h15))))))))) (
 K () h3)) 0 h0
def A_slices_swapRangeCmpFunc_build_hashed : Ann := .node (.reg [0, 1, 2, 3, 10] (.nil)) (.loop [0, 1, 2, 3] [(10, .c (.int .i64))] (.node (.node (.reg [0, 1, 2, 3, 10, 13] (.nil)) (.nil)) (.node (.reg [0, 1, 2, 3, 10] (.draw [.mk 0 16777215 1 65536, .mk 0 16777215 2 131072, .mk 0 16777215 1024 262144, .mk 6 16777209 393216 524288, .mk 0 16777215 1 1048576, .mk 0 16777215 4 2097152, .mk 0 16777215 1024 4194304, .mk 96 16777119 6291456 8388608, .mk 0 16777215 1 16777216, .mk 0 16777215 4 33554432, .mk 0 16777215 1024 67108864, .mk 1536 16775679 100663296 134217728, .mk 2304 16774911 150994944 268435456, .mk 4096 16773119 268435456 536870912, .mk 0 16777215 1 1073741824, .mk 0 16777215 2 2147483648, .mk 0 16777215 1024 4294967296, .mk 98304 16678911 6442450944 8589934592, .mk 147456 16629759 9663676416 17179869184, .mk 262144 16515071 17179869184 34359738368, .mk 540431 16777206 589824 68719476736, .mk 1589007 15720447 69256347648 0, .mk 4194303 16777071 9437184 137438953472, .mk 8388607 12058623 171798691840 0] (.take 0 (.take 1 (.take 2 (.take 3 (.take 4 (.take 5 (.take 6 (.take 7 (.take 8 (.take 9 (.take 10 (.take 11 (.take 12 (.take 13 (.take 14 (.take 15 (.take 16 (.take 17 (.take 18 (.take 19 (.take 20 (.all (.last 21 (.take 22 (.all (.last 23 (.done))))))))))))))))))))))))))))) (.reg [0, 1, 2, 3, 10] (.nil)))))
theorem H_slices_swapRangeCmpFunc_build_hashed (x0 : SliceV) (x1 : Int) (x2 : Int) (x3 : Int) (x4 : Value) {K : Tup [] → Heap → Prop} {h0 : Heap} (h : F_slices_swapRangeCmpFunc_build_hashed x0 x1 x2 x3 x4 K h0) : HC PG f_slices_swapRangeCmpFunc_build_hashed [.slice x0.a x0.len x0.cap, .int .i64 x1, .int .i64 x2, .int .i64 x3, x4] [] K h0 := HC.intro (an := A_slices_swapRangeCmpFunc_build_hashed) (c := Tryz.f190.body.getD .skip) Tryz.mixed Tryz.func190 rfl Tryz.call190 (Nat.le_of_ble_eq_true rfl) (cst (by kernel_rfl) h)
end Go.Proofs
