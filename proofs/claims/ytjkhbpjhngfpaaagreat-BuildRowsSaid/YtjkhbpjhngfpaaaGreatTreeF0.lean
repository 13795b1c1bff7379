/- A part of the proof that the named laws of this program answer true, whatever the input. -/
import Derived.Test.YtjkhbpjhngfpaaaGreatTreeF
set_option maxRecDepth 100000
set_option linter.unusedVariables false
namespace Go.Proofs
open Go.Lift
def F_l15_BuildRoots (x0 : Int × Int × Int) (x1 : SliceV) (K : (Bool) → Heap → Prop) (h0 : Heap) : Prop :=
 At (hnew h0 [.int .u64 x0.1, .int .u64 x0.2.1, .int .u64 x0.2.2] t_sip_Hasher) (fun h1 =>
 HC PG f_l15_awake [] [.c .bool] (fun (e2 : Bool) h3 =>
 CondP (!e2) (
 K false h3) (
 HC PG f_l15_few [.slice x1.a x1.len x1.cap, .int .u8 255, .int .u16 0, .int .u16 0] [.c .slice] (fun (e4 : SliceV) h5 =>
 ∃ v6, hcell h5 (adr (newA h0) 0) = some (.int .u64 v6) ∧
 ∃ v7, hcell h5 (adr (newA h0) 1) = some (.int .u64 v7) ∧
 ∃ v8, hcell h5 (adr (newA h0) 2) = some (.int .u64 v8) ∧
 HC PG f_build_Tree [.int .i64 0, .agg #[.int .u64 v6, .int .u64 v7, .int .u64 v8], .slice e4.a e4.len e4.cap] [.agg [.int .i64, .int .u64, .int .u64, .int .u64, .ptr, .ptr], .c (.int .i64)] (fun (e9 : (Int × Int × Int × Int × (Option Addr) × (Option Addr)) × Int) h10 =>
 At (hnew h10 [.int .i64 0, .int .u64 0, .int .u64 0, .int .u64 0, .pointer none, .pointer none] t_tree_Tree) (fun h11 =>
 (WrS h11 (some (newA h10)) 0 [.int .i64 e9.1.1, .int .u64 e9.1.2.1, .int .u64 e9.1.2.2.1, .int .u64 e9.1.2.2.2.1, .pointer e9.1.2.2.2.2.1, .pointer e9.1.2.2.2.2.2] ∧
 At (hsetL h11 (newA h10) 0 [.int .i64 e9.1.1, .int .u64 e9.1.2.1, .int .u64 e9.1.2.2.1, .int .u64 e9.1.2.2.2.1, .pointer e9.1.2.2.2.2.1, .pointer e9.1.2.2.2.2.2]) (fun h12 =>
 ∃ v13, hcell h12 (adr (newA h0) 0) = some (.int .u64 v13) ∧
 ∃ v14, hcell h12 (adr (newA h0) 1) = some (.int .u64 v14) ∧
 ∃ v15, hcell h12 (adr (newA h0) 2) = some (.int .u64 v15) ∧
 HC PG f_build_Tree [.int .i64 1, .agg #[.int .u64 v13, .int .u64 v14, .int .u64 v15], .slice e4.a e4.len e4.cap] [.agg [.int .i64, .int .u64, .int .u64, .int .u64, .ptr, .ptr], .c (.int .i64)] (fun (e16 : (Int × Int × Int × Int × (Option Addr) × (Option Addr)) × Int) h17 =>
 At (hnew h17 [.int .i64 0, .int .u64 0, .int .u64 0, .int .u64 0, .pointer none, .pointer none] t_tree_Tree) (fun h18 =>
 (WrS h18 (some (newA h17)) 0 [.int .i64 e16.1.1, .int .u64 e16.1.2.1, .int .u64 e16.1.2.2.1, .int .u64 e16.1.2.2.2.1, .pointer e16.1.2.2.2.2.1, .pointer e16.1.2.2.2.2.2] ∧
 At (hsetL h18 (newA h17) 0 [.int .i64 e16.1.1, .int .u64 e16.1.2.1, .int .u64 e16.1.2.2.1, .int .u64 e16.1.2.2.2.1, .pointer e16.1.2.2.2.2.1, .pointer e16.1.2.2.2.2.2]) (fun h19 =>
 ∃ v20, hcell h19 (adr (newA h0) 0) = some (.int .u64 v20) ∧
 ∃ v21, hcell h19 (adr (newA h0) 1) = some (.int .u64 v21) ∧
 ∃ v22, hcell h19 (adr (newA h0) 2) = some (.int .u64 v22) ∧
 ∃ v23, hcell h19 (adr (newA h0) 0) = some (.int .u64 v23) ∧
 ∃ v24, hcell h19 (adr (newA h0) 1) = some (.int .u64 v24) ∧
 ∃ v25, hcell h19 (adr (newA h0) 2) = some (.int .u64 v25) ∧
 ∃ v26, hcell h19 (adr (newA h10) 0) = some (.int .i64 v26) ∧
 ∃ v27, hcell h19 (adr (newA h10) 1) = some (.int .u64 v27) ∧
 ∃ v28, hcell h19 (adr (newA h10) 2) = some (.int .u64 v28) ∧
 ∃ v29, hcell h19 (adr (newA h10) 3) = some (.int .u64 v29) ∧
 ∃ v30, hcell h19 (adr (newA h10) 4) = some (.pointer v30) ∧
 ∃ v31, hcell h19 (adr (newA h10) 5) = some (.pointer v31) ∧
 HC PG f_build_Champ [.agg #[.int .u64 v23, .int .u64 v24, .int .u64 v25], .slice e4.a e4.len e4.cap] [.c .ptr] (fun (e32 : Option Addr) h33 =>
 ((hcell h33 (adr (newA h10) 0) = some (.int .i64 v26) ∧ hcell h33 (adr (newA h10) 1) = some (.int .u64 v27) ∧ hcell h33 (adr (newA h10) 2) = some (.int .u64 v28) ∧ hcell h33 (adr (newA h10) 3) = some (.int .u64 v29) ∧ hcell h33 (adr (newA h10) 4) = some (.pointer v30) ∧ hcell h33 (adr (newA h10) 5) = some (.pointer v31)) ∧
 ((hcell h33 (adr (newA h0) 0) = some (.int .u64 v20) ∧ hcell h33 (adr (newA h0) 1) = some (.int .u64 v21) ∧ hcell h33 (adr (newA h0) 2) = some (.int .u64 v22)) ∧
 HC PG f_tree_OfChamp [.agg #[.int .u64 v20, .int .u64 v21, .int .u64 v22], .pointer e32] [.agg [.int .i64, .int .u64, .int .u64, .int .u64, .ptr, .ptr]] (fun (e34 : Int × Int × Int × Int × (Option Addr) × (Option Addr)) h35 =>
 ((hcell h35 (adr (newA h10) 0) = some (.int .i64 v26) ∧ hcell h35 (adr (newA h10) 1) = some (.int .u64 v27) ∧ hcell h35 (adr (newA h10) 2) = some (.int .u64 v28) ∧ hcell h35 (adr (newA h10) 3) = some (.int .u64 v29) ∧ hcell h35 (adr (newA h10) 4) = some (.pointer v30) ∧ hcell h35 (adr (newA h10) 5) = some (.pointer v31)) ∧
 HC PG f_tree_Same [.agg #[.int .i64 e34.1, .int .u64 e34.2.1, .int .u64 e34.2.2.1, .int .u64 e34.2.2.2.1, .pointer e34.2.2.2.2.1, .pointer e34.2.2.2.2.2], .agg #[.int .i64 v26, .int .u64 v27, .int .u64 v28, .int .u64 v29, .pointer v30, .pointer v31]] [.c .bool] (fun (e36 : Bool) h37 =>
 CondP e36 (
 ∃ v38, hcell h37 (adr (newA h17) 0) = some (.int .i64 v38) ∧
 ∃ v39, hcell h37 (adr (newA h17) 1) = some (.int .u64 v39) ∧
 ∃ v40, hcell h37 (adr (newA h17) 2) = some (.int .u64 v40) ∧
 ∃ v41, hcell h37 (adr (newA h17) 3) = some (.int .u64 v41) ∧
 ∃ v42, hcell h37 (adr (newA h17) 4) = some (.pointer v42) ∧
 ∃ v43, hcell h37 (adr (newA h17) 5) = some (.pointer v43) ∧
 HC PG f_build_Radix [.slice e4.a e4.len e4.cap] [.c .ptr] (fun (e44 : Option Addr) h45 =>
 ((hcell h45 (adr (newA h17) 0) = some (.int .i64 v38) ∧ hcell h45 (adr (newA h17) 1) = some (.int .u64 v39) ∧ hcell h45 (adr (newA h17) 2) = some (.int .u64 v40) ∧ hcell h45 (adr (newA h17) 3) = some (.int .u64 v41) ∧ hcell h45 (adr (newA h17) 4) = some (.pointer v42) ∧ hcell h45 (adr (newA h17) 5) = some (.pointer v43)) ∧
 HC PG f_tree_OfRadix [.pointer e44] [.agg [.int .i64, .int .u64, .int .u64, .int .u64, .ptr, .ptr]] (fun (e46 : Int × Int × Int × Int × (Option Addr) × (Option Addr)) h47 =>
 ((hcell h47 (adr (newA h17) 0) = some (.int .i64 v38) ∧ hcell h47 (adr (newA h17) 1) = some (.int .u64 v39) ∧ hcell h47 (adr (newA h17) 2) = some (.int .u64 v40) ∧ hcell h47 (adr (newA h17) 3) = some (.int .u64 v41) ∧ hcell h47 (adr (newA h17) 4) = some (.pointer v42) ∧ hcell h47 (adr (newA h17) 5) = some (.pointer v43)) ∧
 HC PG f_tree_Same [.agg #[.int .i64 e46.1, .int .u64 e46.2.1, .int .u64 e46.2.2.1, .int .u64 e46.2.2.2.1, .pointer e46.2.2.2.2.1, .pointer e46.2.2.2.2.2], .agg #[.int .i64 v38, .int .u64 v39, .int .u64 v40, .int .u64 v41, .pointer v42, .pointer v43]] [.c .bool] (fun (e48 : Bool) h49 =>
 K e48 h49) h47)) h45)) h37) (
 K false h37)) h35)) h33))) h19)))) h12)))) h5) h3)) h1)
def A_l15_BuildRoots : Ann := .node (.reg [1, 2] (.nil)) (.node (.node (.reg [1, 2, 10] (.nil)) (.node (.node (.reg [4] (.nil)) (.nil)) (.nil))) (.node (.reg [1, 2] (.nil)) (.node (.reg [1, 2, 5] (.nil)) (.node (.reg [1, 2, 5, 7] (.nil)) (.node (.reg [4] (.draw [.mk 0 32767 4 33554432, .mk 0 32767 4 67108864, .mk 0 32767 2 134217728, .mk 6 32761 201326592 268435456, .mk 9 32758 301989888 536870912, .mk 0 32767 32 1073741824, .mk 48 32719 1610612736 2147483648, .mk 64 32703 2147483648 4294967296, .mk 128 32639 4294967298 8589934592, .mk 384 32383 12884901888 17179869184, .mk 640 32127 21474836480 34359738368, .mk 128 32639 4294967424 68719476736, .mk 3200 29567 107374182400 137438953472, .mk 4224 28543 141733920768 274877906944, .mk 16383 24575 274877906944 16] (.take 0 (.take 1 (.take 2 (.take 5 (.all (.last 3 (.all (.last 4 (.all (.last 6 (.take 7 (.split 32 (.take 8 (.take 11 (.all (.last 9 (.all (.last 10 (.all (.last 12 (.take 13 (.take 14 (.done))))))))))) (.take 8 (.take 9 (.take 10 (.take 11 (.take 12 (.take 13 (.take 14 (.done)))))))))))))))))))))) (.nil))))))
theorem H_l15_BuildRoots (x0 : Int × Int × Int) (x1 : SliceV) {K : Tup [.c .bool] → Heap → Prop} {h0 : Heap} (h : F_l15_BuildRoots x0 x1 K h0) : HC PG f_l15_BuildRoots [.agg #[.int .u64 x0.1, .int .u64 x0.2.1, .int .u64 x0.2.2], .slice x1.a x1.len x1.cap] [.c .bool] K h0 := HC.intro (an := A_l15_BuildRoots) (c := Tryz.f3.body.getD .skip) Tryz.mixed Tryz.func3 rfl Tryz.call3 (Nat.le_of_ble_eq_true rfl) (cst (by kernel_rfl) h)
def F_l15_BuildRows (x0 : Int) (x1 : Int × Int × Int) (x2 : SliceV) (x3 : SliceV) (K : (Bool) → Heap → Prop) (h0 : Heap) : Prop :=
 At (hnew h0 [.int .u64 x1.1, .int .u64 x1.2.1, .int .u64 x1.2.2] t_sip_Hasher) (fun h1 =>
 HC PG f_l15_awake [] [.c .bool] (fun (e2 : Bool) h3 =>
 CondP (!e2) (
 K false h3) (
 HC PG f_l15_few [.slice x2.a x2.len x2.cap, .int .u8 255, .int .u16 0, .int .u16 0] [.c .slice] (fun (e4 : SliceV) h5 =>
 HC PG f_pair_Sorted [.slice e4.a e4.len e4.cap] [.c .slice] (fun (e6 : SliceV) h7 =>
 Join (fun (t13 : SliceV) h14 =>
 LoopP (fun I15 (t16 : Int) h17 =>
 CondP (decide (t16 < (t13.len : Int))) (
 Join (fun (t32 : Unit) h33 =>
 I15 (IntKind.wrap .i64 (t16 + 1)) h33) (fun J18 =>
 CondP (decide (t16 < (x3.len : Int))) (
 (((0 : Int) ≤ t16 ∧ t16 < ((x3.len : Nat) : Int)) ∧ ∃ a19, x3.a = some a19 ∧
 ∃ v20, hcell h17 (adr a19 (t16.toNat * 1)) = some (.int .u8 v20) ∧
 ((IntKind.wrap .i64 ((t13.len : Int) - t16)) ≠ 0 ∧
 Bd (Int.tmod (IntKind.wrap .i64 v20) (IntKind.wrap .i64 ((t13.len : Int) - t16)) : Int) (fun n21 =>
 (((0 : Int) ≤ (IntKind.wrap .i64 (t16 + n21)) ∧ (IntKind.wrap .i64 (t16 + n21)) < ((t13.len : Nat) : Int)) ∧ ∃ a22, t13.a = some a22 ∧
 ∃ v23, hcell h17 (adr (adr a22 ((IntKind.wrap .i64 (t16 + n21)).toNat * 2)) 0) = some (.string v23) ∧
 ∃ v24, hcell h17 (adr (adr a22 ((IntKind.wrap .i64 (t16 + n21)).toNat * 2)) 1) = some (.string v24) ∧
 (((0 : Int) ≤ t16 ∧ t16 < ((t13.len : Nat) : Int)) ∧ ∃ a25, t13.a = some a25 ∧
 ∃ v26, hcell h17 (adr (adr a25 (t16.toNat * 2)) 0) = some (.string v26) ∧
 ∃ v27, hcell h17 (adr (adr a25 (t16.toNat * 2)) 1) = some (.string v27) ∧
 (((0 : Int) ≤ t16 ∧ t16 < ((t13.len : Nat) : Int)) ∧ ∃ a28, t13.a = some a28 ∧
 (WrS h17 (some (adr a28 (t16.toNat * 2))) 0 [.string v23, .string v24] ∧
 At (hsetL h17 (adr a28 (t16.toNat * 2)) 0 [.string v23, .string v24]) (fun h29 =>
 (((0 : Int) ≤ (IntKind.wrap .i64 (t16 + n21)) ∧ (IntKind.wrap .i64 (t16 + n21)) < ((t13.len : Nat) : Int)) ∧ ∃ a30, t13.a = some a30 ∧
 (WrS h29 (some (adr a30 ((IntKind.wrap .i64 (t16 + n21)).toNat * 2))) 0 [.string v26, .string v27] ∧
 At (hsetL h29 (adr a30 ((IntKind.wrap .i64 (t16 + n21)).toNat * 2)) 0 [.string v26, .string v27]) (fun h31 =>
 J18 () h31)))))))))))) (
 J18 () h17))) (
 ((2 : Int) ≠ 0 ∧
 ∃ v34, hcell h17 (adr (newA h0) 0) = some (.int .u64 v34) ∧
 ∃ v35, hcell h17 (adr (newA h0) 1) = some (.int .u64 v35) ∧
 ∃ v36, hcell h17 (adr (newA h0) 2) = some (.int .u64 v36) ∧
 HC PG f_build_Tree [.int .i64 (IntKind.wrap .i64 (Int.tmod x0 2)), .agg #[.int .u64 v34, .int .u64 v35, .int .u64 v36], .slice e4.a e4.len e4.cap] [.agg [.int .i64, .int .u64, .int .u64, .int .u64, .ptr, .ptr], .c (.int .i64)] (fun (e37 : (Int × Int × Int × Int × (Option Addr) × (Option Addr)) × Int) h38 =>
 At (hnew h38 [.int .i64 0, .int .u64 0, .int .u64 0, .int .u64 0, .pointer none, .pointer none] t_tree_Tree) (fun h39 =>
 (WrS h39 (some (newA h38)) 0 [.int .i64 e37.1.1, .int .u64 e37.1.2.1, .int .u64 e37.1.2.2.1, .int .u64 e37.1.2.2.2.1, .pointer e37.1.2.2.2.2.1, .pointer e37.1.2.2.2.2.2] ∧
 At (hsetL h39 (newA h38) 0 [.int .i64 e37.1.1, .int .u64 e37.1.2.1, .int .u64 e37.1.2.2.1, .int .u64 e37.1.2.2.2.1, .pointer e37.1.2.2.2.2.1, .pointer e37.1.2.2.2.2.2]) (fun h40 =>
 ((2 : Int) ≠ 0 ∧
 ∃ v41, hcell h40 (adr (newA h0) 0) = some (.int .u64 v41) ∧
 ∃ v42, hcell h40 (adr (newA h0) 1) = some (.int .u64 v42) ∧
 ∃ v43, hcell h40 (adr (newA h0) 2) = some (.int .u64 v43) ∧
 HC PG f_build_Tree [.int .i64 (IntKind.wrap .i64 (Int.tmod x0 2)), .agg #[.int .u64 v41, .int .u64 v42, .int .u64 v43], .slice t13.a t13.len t13.cap] [.agg [.int .i64, .int .u64, .int .u64, .int .u64, .ptr, .ptr], .c (.int .i64)] (fun (e44 : (Int × Int × Int × Int × (Option Addr) × (Option Addr)) × Int) h45 =>
 At (hnew h45 [.int .i64 0, .int .u64 0, .int .u64 0, .int .u64 0, .pointer none, .pointer none] t_tree_Tree) (fun h46 =>
 (WrS h46 (some (newA h45)) 0 [.int .i64 e44.1.1, .int .u64 e44.1.2.1, .int .u64 e44.1.2.2.1, .int .u64 e44.1.2.2.2.1, .pointer e44.1.2.2.2.2.1, .pointer e44.1.2.2.2.2.2] ∧
 At (hsetL h46 (newA h45) 0 [.int .i64 e44.1.1, .int .u64 e44.1.2.1, .int .u64 e44.1.2.2.1, .int .u64 e44.1.2.2.2.1, .pointer e44.1.2.2.2.2.1, .pointer e44.1.2.2.2.2.2]) (fun h47 =>
 LoopP (fun I48 (t49 : SliceV × Int) h50 =>
 CondP (decide (t49.2 < (e6.len : Int))) (
 Join (fun (t62 : SliceV) h63 =>
 I48 (t62, IntKind.wrap .i64 (t49.2 + 1)) h63) (fun J51 =>
 (((0 : Int) ≤ t49.2 ∧ t49.2 < ((e6.len : Nat) : Int)) ∧ ∃ a52, e6.a = some a52 ∧
 ∃ v53, hcell h50 (adr (adr a52 (t49.2.toNat * 2)) 0) = some (.string v53) ∧
 ∃ v54, hcell h50 (adr (adr a52 (t49.2.toNat * 2)) 1) = some (.string v54) ∧
 At (hnew h50 [.string (⟨#[]⟩ : ByteArray), .string (⟨#[]⟩ : ByteArray)] t_pair_Pair) (fun h55 =>
 (WrS h55 (some (newA h50)) 0 [.string v53, .string v54] ∧
 At (hsetL h55 (newA h50) 0 [.string v53, .string v54]) (fun h56 =>
 ∃ v57, hcell h56 (adr (newA h50) 0) = some (.string v57) ∧
 At (hnew h56 [.string v57, .string (⟨#[111, 108, 100]⟩ : ByteArray)] t_pair_Pair) (fun h58 =>
 ∃ xs59, SRow h58 (some (newA h56)) (1 * 2) xs59 ∧
 AppP (some [.string (⟨#[]⟩ : ByteArray), .string (⟨#[]⟩ : ByteArray)]) 2 32 t_pair_Pair t49.1.a t49.1.len t49.1.cap 1 xs59 h58 (fun s60 h61 =>
 J51 s60 h61)))))))) (
 ((2 : Int) ≠ 0 ∧
 ∃ v108, hcell h50 (adr (newA h0) 0) = some (.int .u64 v108) ∧
 ∃ v109, hcell h50 (adr (newA h0) 1) = some (.int .u64 v109) ∧
 ∃ v110, hcell h50 (adr (newA h0) 2) = some (.int .u64 v110) ∧
 ((∃ xs111, SRow h50 t13.a (t13.len * 2) xs111 ∧
 AppP (some [.string (⟨#[]⟩ : ByteArray), .string (⟨#[]⟩ : ByteArray)]) 2 32 t_pair_Pair t49.1.a t49.1.len t49.1.cap t13.len xs111 h50 (fun s112 h113 =>
 ((hcell h113 (adr (newA h0) 0) = some (.int .u64 v108) ∧ hcell h113 (adr (newA h0) 1) = some (.int .u64 v109) ∧ hcell h113 (adr (newA h0) 2) = some (.int .u64 v110)) ∧
 ((HC PG f_build_Tree [.int .i64 (IntKind.wrap .i64 (Int.tmod x0 2)), .agg #[.int .u64 v108, .int .u64 v109, .int .u64 v110], .slice s112.a s112.len s112.cap] [.agg [.int .i64, .int .u64, .int .u64, .int .u64, .ptr, .ptr], .c (.int .i64)] (fun (e114 : (Int × Int × Int × Int × (Option Addr) × (Option Addr)) × Int) h115 =>
 At (hnew h115 [.int .i64 0, .int .u64 0, .int .u64 0, .int .u64 0, .pointer none, .pointer none] t_tree_Tree) (fun h116 =>
 (WrS h116 (some (newA h115)) 0 [.int .i64 e114.1.1, .int .u64 e114.1.2.1, .int .u64 e114.1.2.2.1, .int .u64 e114.1.2.2.2.1, .pointer e114.1.2.2.2.2.1, .pointer e114.1.2.2.2.2.2] ∧
 At (hsetL h116 (newA h115) 0 [.int .i64 e114.1.1, .int .u64 e114.1.2.1, .int .u64 e114.1.2.2.1, .int .u64 e114.1.2.2.2.1, .pointer e114.1.2.2.2.2.1, .pointer e114.1.2.2.2.2.2]) (fun h117 =>
 CondP (e37.2 == (0 : Int)) (
 CondP (e44.2 == (0 : Int)) (
 CondP (e114.2 == (0 : Int)) (
 ∃ v118, hcell h117 (adr (newA h38) 0) = some (.int .i64 v118) ∧
 ∃ v119, hcell h117 (adr (newA h38) 1) = some (.int .u64 v119) ∧
 ∃ v120, hcell h117 (adr (newA h38) 2) = some (.int .u64 v120) ∧
 ∃ v121, hcell h117 (adr (newA h38) 3) = some (.int .u64 v121) ∧
 ∃ v122, hcell h117 (adr (newA h38) 4) = some (.pointer v122) ∧
 ∃ v123, hcell h117 (adr (newA h38) 5) = some (.pointer v123) ∧
 ∃ v124, hcell h117 (adr (newA h45) 0) = some (.int .i64 v124) ∧
 ∃ v125, hcell h117 (adr (newA h45) 1) = some (.int .u64 v125) ∧
 ∃ v126, hcell h117 (adr (newA h45) 2) = some (.int .u64 v126) ∧
 ∃ v127, hcell h117 (adr (newA h45) 3) = some (.int .u64 v127) ∧
 ∃ v128, hcell h117 (adr (newA h45) 4) = some (.pointer v128) ∧
 ∃ v129, hcell h117 (adr (newA h45) 5) = some (.pointer v129) ∧
 HC PG f_tree_Same [.agg #[.int .i64 v118, .int .u64 v119, .int .u64 v120, .int .u64 v121, .pointer v122, .pointer v123], .agg #[.int .i64 v124, .int .u64 v125, .int .u64 v126, .int .u64 v127, .pointer v128, .pointer v129]] [.c .bool] (fun (e130 : Bool) h131 =>
 CondP e130 (
 ∃ v132, hcell h131 (adr (newA h38) 0) = some (.int .i64 v132) ∧
 ∃ v133, hcell h131 (adr (newA h38) 1) = some (.int .u64 v133) ∧
 ∃ v134, hcell h131 (adr (newA h38) 2) = some (.int .u64 v134) ∧
 ∃ v135, hcell h131 (adr (newA h38) 3) = some (.int .u64 v135) ∧
 ∃ v136, hcell h131 (adr (newA h38) 4) = some (.pointer v136) ∧
 ∃ v137, hcell h131 (adr (newA h38) 5) = some (.pointer v137) ∧
 ∃ v138, hcell h131 (adr (newA h115) 0) = some (.int .i64 v138) ∧
 ∃ v139, hcell h131 (adr (newA h115) 1) = some (.int .u64 v139) ∧
 ∃ v140, hcell h131 (adr (newA h115) 2) = some (.int .u64 v140) ∧
 ∃ v141, hcell h131 (adr (newA h115) 3) = some (.int .u64 v141) ∧
 ∃ v142, hcell h131 (adr (newA h115) 4) = some (.pointer v142) ∧
 ∃ v143, hcell h131 (adr (newA h115) 5) = some (.pointer v143) ∧
 HC PG f_tree_Same [.agg #[.int .i64 v132, .int .u64 v133, .int .u64 v134, .int .u64 v135, .pointer v136, .pointer v137], .agg #[.int .i64 v138, .int .u64 v139, .int .u64 v140, .int .u64 v141, .pointer v142, .pointer v143]] [.c .bool] (fun (e144 : Bool) h145 =>
 CondP e144 (
 ∃ v146, hcell h145 (adr (newA h38) 0) = some (.int .i64 v146) ∧
 ∃ v147, hcell h145 (adr (newA h38) 1) = some (.int .u64 v147) ∧
 ∃ v148, hcell h145 (adr (newA h38) 2) = some (.int .u64 v148) ∧
 ∃ v149, hcell h145 (adr (newA h38) 3) = some (.int .u64 v149) ∧
 ∃ v150, hcell h145 (adr (newA h38) 4) = some (.pointer v150) ∧
 ∃ v151, hcell h145 (adr (newA h38) 5) = some (.pointer v151) ∧
 HC PG f_tree_Tree_Pairs [.agg #[.int .i64 v146, .int .u64 v147, .int .u64 v148, .int .u64 v149, .pointer v150, .pointer v151]] [.c .slice] (fun (e152 : SliceV) h153 =>
 HC PG f_pair_Same [.slice e152.a e152.len e152.cap, .slice e6.a e6.len e6.cap] [.c .bool] (fun (e154 : Bool) h155 =>
 K e154 h155) h153) h145) (
 K false h145)) h131) (
 K false h131)) h117) (
 K false h117)) (
 K false h117)) (
 K false h117))))) h113) ∧
 At (hnew h113 [.int .i64 0, .int .u64 0, .int .u64 0, .int .u64 0, .pointer none, .pointer none] t_tree_Tree) (fun h156 =>
 ((hcell h156 (adr (newA h0) 0) = some (.int .u64 v108) ∧ hcell h156 (adr (newA h0) 1) = some (.int .u64 v109) ∧ hcell h156 (adr (newA h0) 2) = some (.int .u64 v110)) ∧
 HC PG f_build_Tree [.int .i64 (IntKind.wrap .i64 (Int.tmod x0 2)), .agg #[.int .u64 v108, .int .u64 v109, .int .u64 v110], .slice s112.a s112.len s112.cap] [.agg [.int .i64, .int .u64, .int .u64, .int .u64, .ptr, .ptr], .c (.int .i64)] (fun (e157 : (Int × Int × Int × Int × (Option Addr) × (Option Addr)) × Int) h158 =>
 (WrS h158 (some (newA h113)) 0 [.int .i64 e157.1.1, .int .u64 e157.1.2.1, .int .u64 e157.1.2.2.1, .int .u64 e157.1.2.2.2.1, .pointer e157.1.2.2.2.2.1, .pointer e157.1.2.2.2.2.2] ∧
 At (hsetL h158 (newA h113) 0 [.int .i64 e157.1.1, .int .u64 e157.1.2.1, .int .u64 e157.1.2.2.1, .int .u64 e157.1.2.2.2.1, .pointer e157.1.2.2.2.2.1, .pointer e157.1.2.2.2.2.2]) (fun h159 =>
 CondP (e37.2 == (0 : Int)) (
 CondP (e44.2 == (0 : Int)) (
 CondP (e157.2 == (0 : Int)) (
 ∃ v160, hcell h159 (adr (newA h38) 0) = some (.int .i64 v160) ∧
 ∃ v161, hcell h159 (adr (newA h38) 1) = some (.int .u64 v161) ∧
 ∃ v162, hcell h159 (adr (newA h38) 2) = some (.int .u64 v162) ∧
 ∃ v163, hcell h159 (adr (newA h38) 3) = some (.int .u64 v163) ∧
 ∃ v164, hcell h159 (adr (newA h38) 4) = some (.pointer v164) ∧
 ∃ v165, hcell h159 (adr (newA h38) 5) = some (.pointer v165) ∧
 ∃ v166, hcell h159 (adr (newA h45) 0) = some (.int .i64 v166) ∧
 ∃ v167, hcell h159 (adr (newA h45) 1) = some (.int .u64 v167) ∧
 ∃ v168, hcell h159 (adr (newA h45) 2) = some (.int .u64 v168) ∧
 ∃ v169, hcell h159 (adr (newA h45) 3) = some (.int .u64 v169) ∧
 ∃ v170, hcell h159 (adr (newA h45) 4) = some (.pointer v170) ∧
 ∃ v171, hcell h159 (adr (newA h45) 5) = some (.pointer v171) ∧
 HC PG f_tree_Same [.agg #[.int .i64 v160, .int .u64 v161, .int .u64 v162, .int .u64 v163, .pointer v164, .pointer v165], .agg #[.int .i64 v166, .int .u64 v167, .int .u64 v168, .int .u64 v169, .pointer v170, .pointer v171]] [.c .bool] (fun (e172 : Bool) h173 =>
 CondP e172 (
 ∃ v174, hcell h173 (adr (newA h38) 0) = some (.int .i64 v174) ∧
 ∃ v175, hcell h173 (adr (newA h38) 1) = some (.int .u64 v175) ∧
 ∃ v176, hcell h173 (adr (newA h38) 2) = some (.int .u64 v176) ∧
 ∃ v177, hcell h173 (adr (newA h38) 3) = some (.int .u64 v177) ∧
 ∃ v178, hcell h173 (adr (newA h38) 4) = some (.pointer v178) ∧
 ∃ v179, hcell h173 (adr (newA h38) 5) = some (.pointer v179) ∧
 ∃ v180, hcell h173 (adr (newA h113) 0) = some (.int .i64 v180) ∧
 ∃ v181, hcell h173 (adr (newA h113) 1) = some (.int .u64 v181) ∧
 ∃ v182, hcell h173 (adr (newA h113) 2) = some (.int .u64 v182) ∧
 ∃ v183, hcell h173 (adr (newA h113) 3) = some (.int .u64 v183) ∧
 ∃ v184, hcell h173 (adr (newA h113) 4) = some (.pointer v184) ∧
 ∃ v185, hcell h173 (adr (newA h113) 5) = some (.pointer v185) ∧
 HC PG f_tree_Same [.agg #[.int .i64 v174, .int .u64 v175, .int .u64 v176, .int .u64 v177, .pointer v178, .pointer v179], .agg #[.int .i64 v180, .int .u64 v181, .int .u64 v182, .int .u64 v183, .pointer v184, .pointer v185]] [.c .bool] (fun (e186 : Bool) h187 =>
 CondP e186 (
 ∃ v188, hcell h187 (adr (newA h38) 0) = some (.int .i64 v188) ∧
 ∃ v189, hcell h187 (adr (newA h38) 1) = some (.int .u64 v189) ∧
 ∃ v190, hcell h187 (adr (newA h38) 2) = some (.int .u64 v190) ∧
 ∃ v191, hcell h187 (adr (newA h38) 3) = some (.int .u64 v191) ∧
 ∃ v192, hcell h187 (adr (newA h38) 4) = some (.pointer v192) ∧
 ∃ v193, hcell h187 (adr (newA h38) 5) = some (.pointer v193) ∧
 HC PG f_tree_Tree_Pairs [.agg #[.int .i64 v188, .int .u64 v189, .int .u64 v190, .int .u64 v191, .pointer v192, .pointer v193]] [.c .slice] (fun (e194 : SliceV) h195 =>
 HC PG f_pair_Same [.slice e194.a e194.len e194.cap, .slice e6.a e6.len e6.cap] [.c .bool] (fun (e196 : Bool) h197 =>
 K e196 h197) h195) h187) (
 K false h187)) h173) (
 K false h173)) h159) (
 K false h159)) (
 K false h159)) (
 K false h159)))) h156)))))) ∧
 At (hnew h50 [.int .i64 0, .int .u64 0, .int .u64 0, .int .u64 0, .pointer none, .pointer none] t_tree_Tree) (fun h198 =>
 ((hcell h198 (adr (newA h0) 0) = some (.int .u64 v108) ∧ hcell h198 (adr (newA h0) 1) = some (.int .u64 v109) ∧ hcell h198 (adr (newA h0) 2) = some (.int .u64 v110)) ∧
 ∃ xs199, SRow h198 t13.a (t13.len * 2) xs199 ∧
 AppP (some [.string (⟨#[]⟩ : ByteArray), .string (⟨#[]⟩ : ByteArray)]) 2 32 t_pair_Pair t49.1.a t49.1.len t49.1.cap t13.len xs199 h198 (fun s200 h201 =>
 ((hcell h201 (adr (newA h0) 0) = some (.int .u64 v108) ∧ hcell h201 (adr (newA h0) 1) = some (.int .u64 v109) ∧ hcell h201 (adr (newA h0) 2) = some (.int .u64 v110)) ∧
 HC PG f_build_Tree [.int .i64 (IntKind.wrap .i64 (Int.tmod x0 2)), .agg #[.int .u64 v108, .int .u64 v109, .int .u64 v110], .slice s200.a s200.len s200.cap] [.agg [.int .i64, .int .u64, .int .u64, .int .u64, .ptr, .ptr], .c (.int .i64)] (fun (e202 : (Int × Int × Int × Int × (Option Addr) × (Option Addr)) × Int) h203 =>
 (WrS h203 (some (newA h50)) 0 [.int .i64 e202.1.1, .int .u64 e202.1.2.1, .int .u64 e202.1.2.2.1, .int .u64 e202.1.2.2.2.1, .pointer e202.1.2.2.2.2.1, .pointer e202.1.2.2.2.2.2] ∧
 At (hsetL h203 (newA h50) 0 [.int .i64 e202.1.1, .int .u64 e202.1.2.1, .int .u64 e202.1.2.2.1, .int .u64 e202.1.2.2.2.1, .pointer e202.1.2.2.2.2.1, .pointer e202.1.2.2.2.2.2]) (fun h204 =>
 CondP (e37.2 == (0 : Int)) (
 CondP (e44.2 == (0 : Int)) (
 CondP (e202.2 == (0 : Int)) (
 ∃ v205, hcell h204 (adr (newA h38) 0) = some (.int .i64 v205) ∧
 ∃ v206, hcell h204 (adr (newA h38) 1) = some (.int .u64 v206) ∧
 ∃ v207, hcell h204 (adr (newA h38) 2) = some (.int .u64 v207) ∧
 ∃ v208, hcell h204 (adr (newA h38) 3) = some (.int .u64 v208) ∧
 ∃ v209, hcell h204 (adr (newA h38) 4) = some (.pointer v209) ∧
 ∃ v210, hcell h204 (adr (newA h38) 5) = some (.pointer v210) ∧
 ∃ v211, hcell h204 (adr (newA h45) 0) = some (.int .i64 v211) ∧
 ∃ v212, hcell h204 (adr (newA h45) 1) = some (.int .u64 v212) ∧
 ∃ v213, hcell h204 (adr (newA h45) 2) = some (.int .u64 v213) ∧
 ∃ v214, hcell h204 (adr (newA h45) 3) = some (.int .u64 v214) ∧
 ∃ v215, hcell h204 (adr (newA h45) 4) = some (.pointer v215) ∧
 ∃ v216, hcell h204 (adr (newA h45) 5) = some (.pointer v216) ∧
 HC PG f_tree_Same [.agg #[.int .i64 v205, .int .u64 v206, .int .u64 v207, .int .u64 v208, .pointer v209, .pointer v210], .agg #[.int .i64 v211, .int .u64 v212, .int .u64 v213, .int .u64 v214, .pointer v215, .pointer v216]] [.c .bool] (fun (e217 : Bool) h218 =>
 CondP e217 (
 ∃ v219, hcell h218 (adr (newA h38) 0) = some (.int .i64 v219) ∧
 ∃ v220, hcell h218 (adr (newA h38) 1) = some (.int .u64 v220) ∧
 ∃ v221, hcell h218 (adr (newA h38) 2) = some (.int .u64 v221) ∧
 ∃ v222, hcell h218 (adr (newA h38) 3) = some (.int .u64 v222) ∧
 ∃ v223, hcell h218 (adr (newA h38) 4) = some (.pointer v223) ∧
 ∃ v224, hcell h218 (adr (newA h38) 5) = some (.pointer v224) ∧
 ∃ v225, hcell h218 (adr (newA h50) 0) = some (.int .i64 v225) ∧
 ∃ v226, hcell h218 (adr (newA h50) 1) = some (.int .u64 v226) ∧
 ∃ v227, hcell h218 (adr (newA h50) 2) = some (.int .u64 v227) ∧
 ∃ v228, hcell h218 (adr (newA h50) 3) = some (.int .u64 v228) ∧
 ∃ v229, hcell h218 (adr (newA h50) 4) = some (.pointer v229) ∧
 ∃ v230, hcell h218 (adr (newA h50) 5) = some (.pointer v230) ∧
 HC PG f_tree_Same [.agg #[.int .i64 v219, .int .u64 v220, .int .u64 v221, .int .u64 v222, .pointer v223, .pointer v224], .agg #[.int .i64 v225, .int .u64 v226, .int .u64 v227, .int .u64 v228, .pointer v229, .pointer v230]] [.c .bool] (fun (e231 : Bool) h232 =>
 CondP e231 (
 ∃ v233, hcell h232 (adr (newA h38) 0) = some (.int .i64 v233) ∧
 ∃ v234, hcell h232 (adr (newA h38) 1) = some (.int .u64 v234) ∧
 ∃ v235, hcell h232 (adr (newA h38) 2) = some (.int .u64 v235) ∧
 ∃ v236, hcell h232 (adr (newA h38) 3) = some (.int .u64 v236) ∧
 ∃ v237, hcell h232 (adr (newA h38) 4) = some (.pointer v237) ∧
 ∃ v238, hcell h232 (adr (newA h38) 5) = some (.pointer v238) ∧
 HC PG f_tree_Tree_Pairs [.agg #[.int .i64 v233, .int .u64 v234, .int .u64 v235, .int .u64 v236, .pointer v237, .pointer v238]] [.c .slice] (fun (e239 : SliceV) h240 =>
 HC PG f_pair_Same [.slice e239.a e239.len e239.cap, .slice e6.a e6.len e6.cap] [.c .bool] (fun (e241 : Bool) h242 =>
 K e241 h242) h240) h232) (
 K false h232)) h218) (
 K false h218)) h204) (
 K false h204)) (
 K false h204)) (
 K false h204)))) h201)))))))) (⟨none, 0, 0⟩, 0) h47)))) h40))))) h17))) 0 h14) (fun J8 =>
 At (hnew h7 [] t_pair_Pair) (fun h9 =>
 ∃ xs10, SRow h9 e6.a (e6.len * 2) xs10 ∧
 AppP (some [.string (⟨#[]⟩ : ByteArray), .string (⟨#[]⟩ : ByteArray)]) 2 32 t_pair_Pair (some (newA h7)) 0 0 e6.len xs10 h9 (fun s11 h12 =>
 J8 s11 h12)))) h5) h3)) h1)
def A_l15_BuildRows : Ann := .node (.reg [0, 2, 3, 5] (.nil)) (.node (.node (.reg [0, 2, 3, 5, 23] (.nil)) (.node (.node (.reg [8] (.nil)) (.nil)) (.nil))) (.node (.reg [0, 2, 3, 5] (.nil)) (.node (.reg [0, 2, 3, 5, 9] (.nil)) (.join [0, 2, 3, 5, 9] [(10, .c .slice)] (.reg [0, 2, 3, 5, 9, 10] (.nil)) (.node (.node (.reg [0, 2, 3, 5, 9, 10, 32, 33] (.nil)) (.loop [0, 2, 3, 5, 9, 10, 32] [(33, .c (.int .i64))] (.node (.reg [0, 2, 3, 5, 9, 10, 32, 33, 34] (.nil)) (.node (.nil) (.join [0, 2, 3, 5, 9, 10, 32, 33] [] (.node (.reg [0, 2, 3, 5, 9, 10, 11, 32, 33] (.nil)) (.node (.reg [0, 2, 3, 5, 9, 10, 11, 32, 33, 39] (.nil)) (.node (.node (.reg [0, 2, 3, 5, 9, 10, 11, 12, 32, 33] (.nil)) (.reg [0, 2, 3, 5, 9, 10, 32, 33] (.draw [.mk 0 65535 1024 4503599627370496, .mk 0 65535 2048 9007199254740992, .mk 0 65535 1024 18014398509481984, .mk 0 65535 4096 36028797018963968, .mk 0 65535 1024 72057594037927936, .mk 0 65535 4096 144115188075855872, .mk 48 65487 216172782113783808 288230376151711744, .mk 64 65471 288230376151711744 576460752303423488, .mk 0 65535 1024 1152921504606846976, .mk 0 65535 2048 2305843009213693952, .mk 768 64767 3458764513820540928 4611686018427387904, .mk 1024 64511 4611686018427387904 9223372036854775808, .mk 2291 65532 13510798882111488 18446744073709551616, .mk 6387 61311 19023204826012975104 0, .mk 16383 65523 54043195528445952 36893488147419103232, .mk 32767 47103 46116860184273879040 0] (.take 0 (.take 1 (.take 2 (.take 3 (.take 4 (.take 5 (.take 6 (.take 7 (.take 8 (.take 9 (.take 10 (.take 11 (.take 12 (.all (.last 13 (.take 14 (.all (.last 15 (.done)))))))))))))))))))))) (.nil)))) (.reg [0, 2, 3, 5, 9, 10, 32, 33] (.nil))))))) (.node (.reg [0, 5, 9, 10, 13, 14] (.nil)) (.node (.reg [0, 5, 9, 10, 13, 14, 15, 16] (.nil)) (.node (.reg [0, 5, 9, 10, 13, 14, 15, 16, 17] (.nil)) (.node (.node (.reg [0, 5, 9, 10, 13, 14, 15, 16, 17, 85, 86, 87] (.nil)) (.loop [0, 5, 9, 10, 13, 14, 15, 16, 85, 86] [(17, .c .slice), (87, .c (.int .i64))] (.node (.reg [0, 5, 9, 10, 13, 14, 15, 16, 17, 85, 86, 87, 88] (.nil)) (.node (.nil) (.join [0, 5, 9, 10, 13, 14, 15, 16, 85, 86, 87] [(17, .c .slice)] (.node (.reg [0, 5, 9, 10, 13, 14, 15, 16, 17, 19, 85, 86, 87] (.nil)) (.reg [0, 5, 9, 10, 13, 14, 15, 16, 17, 85, 86, 87] (.nil))) (.reg [0, 5, 9, 10, 13, 14, 15, 16, 17, 85, 86, 87] (.nil))))))) (.node (.reg [9, 13, 14, 15, 16, 20, 21] (.draw [.mk 0 16383 1 633825300114114700748351602688, .mk 1 16382 633825300114114700748351602688 1267650600228229401496703205376, .mk 2 16381 1267650600228229401496703205376 2535301200456458802993406410752, .mk 0 16383 32 5070602400912917605986812821504, .mk 0 16383 131072 10141204801825835211973625643008, .mk 0 16383 1024 20282409603651670423947251286016, .mk 48 16335 30423614405477505635920876929024 40564819207303340847894502572032, .mk 76 16307 48170722808672717256874721804288 81129638414606681695789005144064, .mk 128 16255 81129638414606681695789005144064 316912650057057350374175801344, .mk 256 16127 316912650057057350374175801344 162259276829213363391578010288128, .mk 256 16127 316912650057057350374175801344 324518553658426726783156020576256, .mk 0 16383 0 1048576, .mk 3071 13823 162259276829213363391578011336704 0, .mk 8191 15359 324518553658426726783156020576256 2097152] (.take 0 (.take 1 (.take 2 (.take 3 (.take 4 (.take 5 (.all (.pick 6 (.all (.pick 7 (.take 8 (.take 9 (.take 10 (.all (.last 11 (.all (.last 12 (.take 13 (.done))))))))) (.last 11 (.all (.last 7 (.take 8 (.take 9 (.take 10 (.all (.last 12 (.take 13 (.done)))))))))))) (.last 11 (.all (.last 6 (.all (.last 7 (.take 8 (.take 9 (.take 10 (.all (.last 12 (.take 13 (.done)))))))))))))))))))))) (.node (.reg [8] (.nil)) (.nil))))))))))))
theorem H_l15_BuildRows (x0 : Int) (x1 : Int × Int × Int) (x2 : SliceV) (x3 : SliceV) {K : Tup [.c .bool] → Heap → Prop} {h0 : Heap} (h : F_l15_BuildRows x0 x1 x2 x3 K h0) : HC PG f_l15_BuildRows [.int .u8 x0, .agg #[.int .u64 x1.1, .int .u64 x1.2.1, .int .u64 x1.2.2], .slice x2.a x2.len x2.cap, .slice x3.a x3.len x3.cap] [.c .bool] K h0 := HC.intro (an := A_l15_BuildRows) (c := Tryz.f4.body.getD .skip) Tryz.mixed Tryz.func4 rfl Tryz.call4 (Nat.le_of_ble_eq_true rfl) (cst (by kernel_rfl) h)
def F_l15_awake  (K : (Bool) → Heap → Prop) (h0 : Heap) : Prop :=
 At (hnew h0 [.string (⟨#[98]⟩ : ByteArray), .string (⟨#[49]⟩ : ByteArray), .string (⟨#[97]⟩ : ByteArray), .string (⟨#[50]⟩ : ByteArray), .string (⟨#[98]⟩ : ByteArray), .string (⟨#[51]⟩ : ByteArray)] t_pair_Pair) (fun h1 =>
 HC PG f_build_Tree [.int .i64 1, .agg #[.int .u64 0, .int .u64 0, .int .u64 0], .slice (some (newA h0)) 3 3] [.agg [.int .i64, .int .u64, .int .u64, .int .u64, .ptr, .ptr], .c (.int .i64)] (fun (e2 : (Int × Int × Int × Int × (Option Addr) × (Option Addr)) × Int) h3 =>
 At (hnew h3 [.int .i64 0, .int .u64 0, .int .u64 0, .int .u64 0, .pointer none, .pointer none] t_tree_Tree) (fun h4 =>
 (WrS h4 (some (newA h3)) 0 [.int .i64 e2.1.1, .int .u64 e2.1.2.1, .int .u64 e2.1.2.2.1, .int .u64 e2.1.2.2.2.1, .pointer e2.1.2.2.2.2.1, .pointer e2.1.2.2.2.2.2] ∧
 At (hsetL h4 (newA h3) 0 [.int .i64 e2.1.1, .int .u64 e2.1.2.1, .int .u64 e2.1.2.2.1, .int .u64 e2.1.2.2.2.1, .pointer e2.1.2.2.2.2.1, .pointer e2.1.2.2.2.2.2]) (fun h5 =>
 ∃ v6, hcell h5 (adr (newA h3) 0) = some (.int .i64 v6) ∧
 ∃ v7, hcell h5 (adr (newA h3) 1) = some (.int .u64 v7) ∧
 ∃ v8, hcell h5 (adr (newA h3) 2) = some (.int .u64 v8) ∧
 ∃ v9, hcell h5 (adr (newA h3) 3) = some (.int .u64 v9) ∧
 ∃ v10, hcell h5 (adr (newA h3) 4) = some (.pointer v10) ∧
 ∃ v11, hcell h5 (adr (newA h3) 5) = some (.pointer v11) ∧
 HC PG f_tree_Tree_Pairs [.agg #[.int .i64 v6, .int .u64 v7, .int .u64 v8, .int .u64 v9, .pointer v10, .pointer v11]] [.c .slice] (fun (e12 : SliceV) h13 =>
 CondP (e2.2 == (0 : Int)) (
 CondP ((e12.len : Int) == (2 : Int)) (
 (((0 : Int) ≤ (0 : Int) ∧ (0 : Int) < ((e12.len : Nat) : Int)) ∧ ∃ a14, e12.a = some a14 ∧
 ∃ v15, hcell h13 (adr (adr a14 ((0 : Int).toNat * 2)) 0) = some (.string v15) ∧
 ∃ v16, hcell h13 (adr (adr a14 ((0 : Int).toNat * 2)) 1) = some (.string v16) ∧
 CondP ((v15.toList == (⟨#[97]⟩ : ByteArray).toList) && ((v16.toList == (⟨#[50]⟩ : ByteArray).toList) && true)) (
 (((0 : Int) ≤ (1 : Int) ∧ (1 : Int) < ((e12.len : Nat) : Int)) ∧ ∃ a17, e12.a = some a17 ∧
 ∃ v18, hcell h13 (adr (adr a17 ((1 : Int).toNat * 2)) 1) = some (.string v18) ∧
 K (v18.toList == (⟨#[51]⟩ : ByteArray).toList) h13)) (
 K false h13))) (
 K false h13)) (
 K false h13)) h5)))) h1)
def A_l15_awake : Ann := .node (.reg [] (.nil)) (.node (.reg [1, 2] (.nil)) (.node (.reg [2, 3] (.nil)) (.node (.reg [0] (.nil)) (.nil))))
theorem H_l15_awake  {K : Tup [.c .bool] → Heap → Prop} {h0 : Heap} (h : F_l15_awake  K h0) : HC PG f_l15_awake [] [.c .bool] K h0 := HC.intro (an := A_l15_awake) (c := Tryz.f7.body.getD .skip) Tryz.mixed Tryz.func7 rfl Tryz.call7 (Nat.le_of_ble_eq_true rfl) (cst (by kernel_rfl) h)
def F_l15_few (x0 : SliceV) (x1 : Int) (x2 : Int) (x3 : Int) (K : (SliceV) → Heap → Prop) (h0 : Heap) : Prop :=
 LoopP (fun I1 (t2 : SliceV × Int) h3 =>
 CondP (decide (t2.2 < (x0.len : Int))) (
 Join (fun (t35 : SliceV) h36 =>
 I1 (t35, IntKind.wrap .i64 (t2.2 + 1)) h36) (fun J4 =>
 (((0 : Int) ≤ t2.2 ∧ t2.2 < ((x0.len : Nat) : Int)) ∧ ∃ a5, x0.a = some a5 ∧
 ∃ v6, hcell h3 (adr (adr a5 (t2.2.toNat * 2)) 0) = some (.string v6) ∧
 ∃ v7, hcell h3 (adr (adr a5 (t2.2.toNat * 2)) 1) = some (.string v7) ∧
 At (hnew h3 [.string (⟨#[]⟩ : ByteArray), .string (⟨#[]⟩ : ByteArray)] t_pair_Pair) (fun h8 =>
 (WrS h8 (some (newA h3)) 0 [.string v6, .string v7] ∧
 At (hsetL h8 (newA h3) 0 [.string v6, .string v7]) (fun h9 =>
 CondP (decide (t2.2 ≥ (40 : Int))) (
 K t2.1 h9) (
 ∃ v10, hcell h9 (adr (newA h3) 0) = some (.string v10) ∧
 ∃ v11, hcell h9 (adr (newA h3) 0) = some (.string v11) ∧
 (((0 : Int) ≤ (if 40 < (v11.size : Int) then 40 else (v11.size : Int)) ∧ (if 40 < (v11.size : Int) then 40 else (v11.size : Int)) ≤ ((v10.size : Nat) : Int)) ∧
 Bd (v10.extract 0 ((if 40 < (v11.size : Int) then 40 else (v11.size : Int)).toNat) : ByteArray) (fun s12 =>
 ∃ v13, hcell h9 (adr (newA h3) 1) = some (.string v13) ∧
 ∃ v14, hcell h9 (adr (newA h3) 1) = some (.string v14) ∧
 (((0 : Int) ≤ (if 40 < (v14.size : Int) then 40 else (v14.size : Int)) ∧ (if 40 < (v14.size : Int) then 40 else (v14.size : Int)) ≤ ((v13.size : Nat) : Int)) ∧
 Bd (v13.extract 0 ((if 40 < (v14.size : Int) then 40 else (v14.size : Int)).toNat) : ByteArray) (fun s15 =>
 (Wr h9 (adr (newA h3) 0) ∧
 At (hset h9 (adr (newA h3) 0) (.string s12)) (fun h16 =>
 (Wr h16 (adr (newA h3) 1) ∧
 At (hset h16 (adr (newA h3) 1) (.string s15)) (fun h17 =>
 Join (fun (t27 : Unit) h28 =>
 ∃ v29, hcell h28 (adr (newA h3) 0) = some (.string v29) ∧
 ∃ v30, hcell h28 (adr (newA h3) 1) = some (.string v30) ∧
 At (hnew h28 [.string v29, .string v30] t_pair_Pair) (fun h31 =>
 ∃ xs32, SRow h31 (some (newA h28)) (1 * 2) xs32 ∧
 AppP (some [.string (⟨#[]⟩ : ByteArray), .string (⟨#[]⟩ : ByteArray)]) 2 32 t_pair_Pair t2.1.a t2.1.len t2.1.cap 1 xs32 h31 (fun s33 h34 =>
 J4 s33 h34))) (fun J18 =>
 CondP (t2.2 == (IntKind.wrap .i64 x1)) (
 ∃ v19, hcell h17 (adr (newA h3) 0) = some (.string v19) ∧
 ((300 : Int) ≠ 0 ∧
 (((0 : Int) ≤ (Int.tmod (IntKind.wrap .i64 x2) 300) ∧ (Int.tmod (IntKind.wrap .i64 x2) 300) ≤ (Int.tmod (IntKind.wrap .i64 x2) 300) ∧ (Int.tmod (IntKind.wrap .i64 x2) 300) ≤ 9223372036854775807 ∧ 1 * (Int.tmod (IntKind.wrap .i64 x2) 300) ≤ 2 ^ 48) ∧
 At (hnew h17 (zrow (Int.tmod (IntKind.wrap .i64 x2) 300).toNat [.int .u8 0]) t_u8) (fun h20 =>
 (hcell h20 (adr (newA h3) 0) = some (.string v19) ∧
 ∃ s21, SRow h20 (some (newA h17)) ((Int.tmod (IntKind.wrap .i64 x2) 300).toNat) (byteVals s21) ∧
 (((v19.size + s21.size : Nat) : Int) ≤ 9223372036854775807 ∧
 (Wr h20 (adr (newA h3) 0) ∧
 At (hset h20 (adr (newA h3) 0) (.string (v19 ++ s21))) (fun h22 =>
 ∃ v23, hcell h22 (adr (newA h3) 1) = some (.string v23) ∧
 ((4200 : Int) ≠ 0 ∧
 (((0 : Int) ≤ (Int.tmod (IntKind.wrap .i64 x3) 4200) ∧ (Int.tmod (IntKind.wrap .i64 x3) 4200) ≤ (Int.tmod (IntKind.wrap .i64 x3) 4200) ∧ (Int.tmod (IntKind.wrap .i64 x3) 4200) ≤ 9223372036854775807 ∧ 1 * (Int.tmod (IntKind.wrap .i64 x3) 4200) ≤ 2 ^ 48) ∧
 At (hnew h22 (zrow (Int.tmod (IntKind.wrap .i64 x3) 4200).toNat [.int .u8 0]) t_u8) (fun h24 =>
 (hcell h24 (adr (newA h3) 1) = some (.string v23) ∧
 ∃ s25, SRow h24 (some (newA h22)) ((Int.tmod (IntKind.wrap .i64 x3) 4200).toNat) (byteVals s25) ∧
 (((v23.size + s25.size : Nat) : Int) ≤ 9223372036854775807 ∧
 (Wr h24 (adr (newA h3) 1) ∧
 At (hset h24 (adr (newA h3) 1) (.string (v23 ++ s25))) (fun h26 =>
 J18 () h26))))))))))))))) (
 J18 () h17))))))))))))))))) (
 K t2.1 h3)) (⟨none, 0, 0⟩, 0) h0
def A_l15_few : Ann := .node (.reg [0, 1, 2, 3] (.nil)) (.node (.reg [0, 1, 2, 3, 9] (.nil)) (.node (.node (.reg [1, 2, 3, 9, 12, 13, 14] (.nil)) (.loop [1, 2, 3, 12, 13] [(9, .c .slice), (14, .c (.int .i64))] (.node (.reg [1, 2, 3, 9, 12, 13, 14, 15] (.nil)) (.node (.nil) (.join [1, 2, 3, 12, 13, 14] [(9, .c .slice)] (.node (.reg [1, 2, 3, 9, 10, 11, 12, 13, 14] (.nil)) (.node (.node (.reg [1, 2, 3, 9, 10, 11, 12, 13, 14, 20] (.nil)) (.nil)) (.node (.reg [1, 2, 3, 9, 10, 11, 12, 13, 14] (.draw [.mk 0 262143 2048 2097152, .mk 1 262142 2097152 4194304, .mk 0 262143 2048 8388608, .mk 4 262139 8388608 16777216, .mk 8 262135 16777216 33554432, .mk 16 262127 33554432 67108864, .mk 34 262109 71303168 134217728, .mk 0 262143 2048 268435456, .mk 128 262015 268435456 536870912, .mk 0 262143 2048 1073741824, .mk 512 261631 1073741824 2147483648, .mk 1024 261119 2147483648 4294967296, .mk 2048 260095 4294967296 8589934592, .mk 4352 257791 9126805504 17179869184, .mk 2047 262143 2048 34359738368, .mk 18431 245695 34493956096 0, .mk 65535 262143 2048 68719476736, .mk 131071 188415 85899345920 0] (.take 0 (.take 1 (.take 2 (.take 3 (.take 4 (.take 5 (.take 6 (.take 7 (.take 8 (.take 9 (.take 10 (.take 11 (.take 12 (.take 13 (.take 14 (.all (.last 15 (.take 16 (.all (.last 17 (.done))))))))))))))))))))))) (.join [1, 2, 3, 9, 11, 12, 13, 14] [] (.node (.reg [1, 2, 3, 9, 11, 12, 13, 14, 40] (.nil)) (.node (.node (.reg [1, 2, 3, 9, 11, 12, 13, 14] (.draw [.mk 0 1023 2048 2199023255552, .mk 1 1022 2199023255552 4398046511104, .mk 0 1023 4 8796093022208, .mk 4 1019 8796093022208 17592186044416, .mk 8 1015 17592186044416 35184372088832, .mk 16 1007 35184372088832 70368744177664, .mk 32 991 70368744177664 140737488355328, .mk 66 957 145135534866432 281474976710656, .mk 255 1023 2048 562949953421312, .mk 511 639 844424930131968 0] (.take 0 (.take 1 (.take 2 (.take 3 (.take 4 (.all (.last 5 (.take 6 (.take 7 (.take 8 (.all (.last 9 (.done))))))))))))))) (.reg [1, 2, 3, 9, 11, 12, 13, 14] (.draw [.mk 0 1023 2048 1125899906842624, .mk 1 1022 1125899906842624 2251799813685248, .mk 0 1023 8 4503599627370496, .mk 4 1019 4503599627370496 9007199254740992, .mk 8 1015 9007199254740992 18014398509481984, .mk 16 1007 18014398509481984 36028797018963968, .mk 32 991 36028797018963968 72057594037927936, .mk 66 957 74309393851613184 144115188075855872, .mk 255 1023 2048 288230376151711744, .mk 511 639 432345564227567616 0] (.take 0 (.take 1 (.take 2 (.take 3 (.take 4 (.all (.last 5 (.take 6 (.take 7 (.take 8 (.all (.last 9 (.done)))))))))))))))) (.nil))) (.reg [1, 2, 3, 9, 12, 13, 14] (.nil)))))) (.reg [1, 2, 3, 9, 12, 13, 14] (.nil))))))) (.node (.reg [8] (.nil)) (.nil))))
theorem H_l15_few (x0 : SliceV) (x1 : Int) (x2 : Int) (x3 : Int) {K : Tup [.c .slice] → Heap → Prop} {h0 : Heap} (h : F_l15_few x0 x1 x2 x3 K h0) : HC PG f_l15_few [.slice x0.a x0.len x0.cap, .int .u8 x1, .int .u16 x2, .int .u16 x3] [.c .slice] K h0 := HC.intro (an := A_l15_few) (c := Tryz.f8.body.getD .skip) Tryz.mixed Tryz.func8 rfl Tryz.call8 (Nat.le_of_ble_eq_true rfl) (cst (by kernel_rfl) h)
def F_build_Tree (x0 : Int) (x1 : Int × Int × Int) (x2 : SliceV) (K : ((Int × Int × Int × Int × (Option Addr) × (Option Addr)) × Int) → Heap → Prop) (h0 : Heap) : Prop :=
 At (hnew h0 [.int .u64 x1.1, .int .u64 x1.2.1, .int .u64 x1.2.2] t_sip_Hasher) (fun h1 =>
 At (hnew h1 [.int .i64 0, .int .u64 0, .int .u64 0, .int .u64 0, .pointer none, .pointer none] t_tree_Tree) (fun h2 =>
 ∃ v3, hcell h2 (adr (newA h0) 0) = some (.int .u64 v3) ∧
 ∃ v4, hcell h2 (adr (newA h0) 1) = some (.int .u64 v4) ∧
 ∃ v5, hcell h2 (adr (newA h0) 2) = some (.int .u64 v5) ∧
 HC PG f_tree_New [.int .i64 x0, .agg #[.int .u64 v3, .int .u64 v4, .int .u64 v5]] [.agg [.int .i64, .int .u64, .int .u64, .int .u64, .ptr, .ptr], .c (.int .i64)] (fun (e6 : (Int × Int × Int × Int × (Option Addr) × (Option Addr)) × Int) h7 =>
 At (hnew h7 [.int .i64 0, .int .u64 0, .int .u64 0, .int .u64 0, .pointer none, .pointer none] t_tree_Tree) (fun h8 =>
 (WrS h8 (some (newA h7)) 0 [.int .i64 e6.1.1, .int .u64 e6.1.2.1, .int .u64 e6.1.2.2.1, .int .u64 e6.1.2.2.2.1, .pointer e6.1.2.2.2.2.1, .pointer e6.1.2.2.2.2.2] ∧
 At (hsetL h8 (newA h7) 0 [.int .i64 e6.1.1, .int .u64 e6.1.2.1, .int .u64 e6.1.2.2.1, .int .u64 e6.1.2.2.2.1, .pointer e6.1.2.2.2.2.1, .pointer e6.1.2.2.2.2.2]) (fun h9 =>
 CondP (e6.2 != (0 : Int)) (
 (WrS h9 (some (newA h1)) 0 [.int .i64 0, .int .u64 0, .int .u64 0, .int .u64 0, .pointer none, .pointer none] ∧
 At (hsetL h9 (newA h1) 0 [.int .i64 0, .int .u64 0, .int .u64 0, .int .u64 0, .pointer none, .pointer none]) (fun h10 =>
 ∃ v11, hcell h10 (adr (newA h1) 0) = some (.int .i64 v11) ∧
 ∃ v12, hcell h10 (adr (newA h1) 1) = some (.int .u64 v12) ∧
 ∃ v13, hcell h10 (adr (newA h1) 2) = some (.int .u64 v13) ∧
 ∃ v14, hcell h10 (adr (newA h1) 3) = some (.int .u64 v14) ∧
 ∃ v15, hcell h10 (adr (newA h1) 4) = some (.pointer v15) ∧
 ∃ v16, hcell h10 (adr (newA h1) 5) = some (.pointer v16) ∧
 K ((v11, v12, v13, v14, v15, v16), e6.2) h10))) (
 LoopP (fun I17 (t18 : Int) h19 =>
 CondP (decide (t18 < (x2.len : Int))) (
 (((0 : Int) ≤ t18 ∧ t18 < ((x2.len : Nat) : Int)) ∧ ∃ a20, x2.a = some a20 ∧
 ∃ v21, hcell h19 (adr (adr a20 (t18.toNat * 2)) 0) = some (.string v21) ∧
 ∃ v22, hcell h19 (adr (adr a20 (t18.toNat * 2)) 1) = some (.string v22) ∧
 At (hnew h19 [.string (⟨#[]⟩ : ByteArray), .string (⟨#[]⟩ : ByteArray)] t_pair_Pair) (fun h23 =>
 (WrS h23 (some (newA h19)) 0 [.string v21, .string v22] ∧
 At (hsetL h23 (newA h19) 0 [.string v21, .string v22]) (fun h24 =>
 ∃ v25, hcell h24 (adr (newA h19) 0) = some (.string v25) ∧
 ∃ v26, hcell h24 (adr (newA h19) 1) = some (.string v26) ∧
 HC PG f_pair_Right [.string v25, .string v26] [.c (.int .i64)] (fun (e27 : Int) h28 =>
 CondP (e27 != (0 : Int)) (
 (WrS h28 (some (newA h1)) 0 [.int .i64 0, .int .u64 0, .int .u64 0, .int .u64 0, .pointer none, .pointer none] ∧
 At (hsetL h28 (newA h1) 0 [.int .i64 0, .int .u64 0, .int .u64 0, .int .u64 0, .pointer none, .pointer none]) (fun h29 =>
 ∃ v30, hcell h29 (adr (newA h1) 0) = some (.int .i64 v30) ∧
 ∃ v31, hcell h29 (adr (newA h1) 1) = some (.int .u64 v31) ∧
 ∃ v32, hcell h29 (adr (newA h1) 2) = some (.int .u64 v32) ∧
 ∃ v33, hcell h29 (adr (newA h1) 3) = some (.int .u64 v33) ∧
 ∃ v34, hcell h29 (adr (newA h1) 4) = some (.pointer v34) ∧
 ∃ v35, hcell h29 (adr (newA h1) 5) = some (.pointer v35) ∧
 K ((v30, v31, v32, v33, v34, v35), e27) h29))) (
 I17 (IntKind.wrap .i64 (t18 + 1)) h28)) h24))))) (
 CondP (x0 == (1 : Int)) (
 HC PG f_build_Radix [.slice x2.a x2.len x2.cap] [.c .ptr] (fun (e36 : Option Addr) h37 =>
 HC PG f_tree_OfRadix [.pointer e36] [.agg [.int .i64, .int .u64, .int .u64, .int .u64, .ptr, .ptr]] (fun (e38 : Int × Int × Int × Int × (Option Addr) × (Option Addr)) h39 =>
 (WrS h39 (some (newA h1)) 0 [.int .i64 e38.1, .int .u64 e38.2.1, .int .u64 e38.2.2.1, .int .u64 e38.2.2.2.1, .pointer e38.2.2.2.2.1, .pointer e38.2.2.2.2.2] ∧
 At (hsetL h39 (newA h1) 0 [.int .i64 e38.1, .int .u64 e38.2.1, .int .u64 e38.2.2.1, .int .u64 e38.2.2.2.1, .pointer e38.2.2.2.2.1, .pointer e38.2.2.2.2.2]) (fun h40 =>
 ∃ v41, hcell h40 (adr (newA h1) 0) = some (.int .i64 v41) ∧
 ∃ v42, hcell h40 (adr (newA h1) 1) = some (.int .u64 v42) ∧
 ∃ v43, hcell h40 (adr (newA h1) 2) = some (.int .u64 v43) ∧
 ∃ v44, hcell h40 (adr (newA h1) 3) = some (.int .u64 v44) ∧
 ∃ v45, hcell h40 (adr (newA h1) 4) = some (.pointer v45) ∧
 ∃ v46, hcell h40 (adr (newA h1) 5) = some (.pointer v46) ∧
 K ((v41, v42, v43, v44, v45, v46), 0) h40))) h37) h19) (
 ∃ v47, hcell h19 (adr (newA h0) 0) = some (.int .u64 v47) ∧
 ∃ v48, hcell h19 (adr (newA h0) 1) = some (.int .u64 v48) ∧
 ∃ v49, hcell h19 (adr (newA h0) 2) = some (.int .u64 v49) ∧
 ∃ v50, hcell h19 (adr (newA h0) 0) = some (.int .u64 v50) ∧
 ∃ v51, hcell h19 (adr (newA h0) 1) = some (.int .u64 v51) ∧
 ∃ v52, hcell h19 (adr (newA h0) 2) = some (.int .u64 v52) ∧
 HC PG f_build_Champ [.agg #[.int .u64 v50, .int .u64 v51, .int .u64 v52], .slice x2.a x2.len x2.cap] [.c .ptr] (fun (e53 : Option Addr) h54 =>
 ((hcell h54 (adr (newA h0) 0) = some (.int .u64 v47) ∧ hcell h54 (adr (newA h0) 1) = some (.int .u64 v48) ∧ hcell h54 (adr (newA h0) 2) = some (.int .u64 v49)) ∧
 HC PG f_tree_OfChamp [.agg #[.int .u64 v47, .int .u64 v48, .int .u64 v49], .pointer e53] [.agg [.int .i64, .int .u64, .int .u64, .int .u64, .ptr, .ptr]] (fun (e55 : Int × Int × Int × Int × (Option Addr) × (Option Addr)) h56 =>
 (WrS h56 (some (newA h1)) 0 [.int .i64 e55.1, .int .u64 e55.2.1, .int .u64 e55.2.2.1, .int .u64 e55.2.2.2.1, .pointer e55.2.2.2.2.1, .pointer e55.2.2.2.2.2] ∧
 At (hsetL h56 (newA h1) 0 [.int .i64 e55.1, .int .u64 e55.2.1, .int .u64 e55.2.2.1, .int .u64 e55.2.2.2.1, .pointer e55.2.2.2.2.1, .pointer e55.2.2.2.2.2]) (fun h57 =>
 ∃ v58, hcell h57 (adr (newA h1) 0) = some (.int .i64 v58) ∧
 ∃ v59, hcell h57 (adr (newA h1) 1) = some (.int .u64 v59) ∧
 ∃ v60, hcell h57 (adr (newA h1) 2) = some (.int .u64 v60) ∧
 ∃ v61, hcell h57 (adr (newA h1) 3) = some (.int .u64 v61) ∧
 ∃ v62, hcell h57 (adr (newA h1) 4) = some (.pointer v62) ∧
 ∃ v63, hcell h57 (adr (newA h1) 5) = some (.pointer v63) ∧
 K ((v58, v59, v60, v61, v62, v63), 0) h57))) h54)) h19))) 0 h9))))) h2))
def A_build_Tree : Ann := .node (.reg [0, 2, 4, 6] (.nil)) (.node (.node (.reg [0, 2, 4, 6, 9] (.nil)) (.node (.reg [0, 2, 4, 6, 9, 20] (.nil)) (.node (.node (.reg [6, 7] (.nil)) (.nil)) (.nil)))) (.node (.node (.reg [0, 2, 4, 6, 23, 24, 25] (.nil)) (.loop [0, 2, 4, 6, 23, 24] [(25, .c (.int .i64))] (.node (.reg [0, 2, 4, 6, 23, 24, 25, 26] (.nil)) (.node (.nil) (.node (.node (.reg [0, 2, 4, 6, 11, 23, 24, 25] (.nil)) (.node (.reg [0, 2, 4, 6, 12, 23, 24, 25] (.nil)) (.node (.reg [0, 2, 4, 6, 12, 23, 24, 25, 35] (.nil)) (.node (.node (.reg [6, 7] (.nil)) (.nil)) (.nil))))) (.reg [0, 2, 4, 6, 23, 24, 25] (.nil))))))) (.node (.node (.reg [2, 4, 6, 40] (.nil)) (.node (.node (.reg [6, 7] (.nil)) (.nil)) (.nil))) (.node (.reg [6, 7] (.draw [.mk 0 127 16 17592186044416, .mk 0 127 16 35184372088832, .mk 0 127 4 70368744177664, .mk 6 121 105553116266496 140737488355328, .mk 9 118 158329674399744 281474976710656, .mk 31 111 281474976710720 0, .mk 63 127 0 128] (.take 0 (.take 1 (.take 2 (.all (.last 3 (.all (.last 4 (.all (.last 5 (.take 6 (.done))))))))))))) (.nil)))))
theorem H_build_Tree (x0 : Int) (x1 : Int × Int × Int) (x2 : SliceV) {K : Tup [.agg [.int .i64, .int .u64, .int .u64, .int .u64, .ptr, .ptr], .c (.int .i64)] → Heap → Prop} {h0 : Heap} (h : F_build_Tree x0 x1 x2 K h0) : HC PG f_build_Tree [.int .i64 x0, .agg #[.int .u64 x1.1, .int .u64 x1.2.1, .int .u64 x1.2.2], .slice x2.a x2.len x2.cap] [.agg [.int .i64, .int .u64, .int .u64, .int .u64, .ptr, .ptr], .c (.int .i64)] K h0 := HC.intro (an := A_build_Tree) (c := Tryz.f9.body.getD .skip) Tryz.mixed Tryz.func9 rfl Tryz.call9 (Nat.le_of_ble_eq_true rfl) (cst (by kernel_rfl) h)
def F_tree_Same (x0 : Int × Int × Int × Int × (Option Addr) × (Option Addr)) (x1 : Int × Int × Int × Int × (Option Addr) × (Option Addr)) (K : (Bool) → Heap → Prop) (h0 : Heap) : Prop :=
 At (hnew h0 [.int .i64 x0.1, .int .u64 x0.2.1, .int .u64 x0.2.2.1, .int .u64 x0.2.2.2.1, .pointer x0.2.2.2.2.1, .pointer x0.2.2.2.2.2] t_tree_Tree) (fun h1 =>
 At (hnew h1 [.int .i64 x1.1, .int .u64 x1.2.1, .int .u64 x1.2.2.1, .int .u64 x1.2.2.2.1, .pointer x1.2.2.2.2.1, .pointer x1.2.2.2.2.2] t_tree_Tree) (fun h2 =>
 ∃ v3, hcell h2 (adr (newA h0) 0) = some (.int .i64 v3) ∧
 ∃ v4, hcell h2 (adr (newA h0) 1) = some (.int .u64 v4) ∧
 ∃ v5, hcell h2 (adr (newA h0) 2) = some (.int .u64 v5) ∧
 ∃ v6, hcell h2 (adr (newA h0) 3) = some (.int .u64 v6) ∧
 ∃ v7, hcell h2 (adr (newA h0) 4) = some (.pointer v7) ∧
 ∃ v8, hcell h2 (adr (newA h0) 5) = some (.pointer v8) ∧
 ∃ v9, hcell h2 (adr (newA h1) 0) = some (.int .i64 v9) ∧
 ∃ v10, hcell h2 (adr (newA h1) 1) = some (.int .u64 v10) ∧
 ∃ v11, hcell h2 (adr (newA h1) 2) = some (.int .u64 v11) ∧
 ∃ v12, hcell h2 (adr (newA h1) 3) = some (.int .u64 v12) ∧
 ∃ v13, hcell h2 (adr (newA h1) 4) = some (.pointer v13) ∧
 ∃ v14, hcell h2 (adr (newA h1) 5) = some (.pointer v14) ∧
 HC PG f_tree_Like [.agg #[.int .i64 v3, .int .u64 v4, .int .u64 v5, .int .u64 v6, .pointer v7, .pointer v8], .agg #[.int .i64 v9, .int .u64 v10, .int .u64 v11, .int .u64 v12, .pointer v13, .pointer v14]] [.c .bool] (fun (e15 : Bool) h16 =>
 CondP e15 (
 ∃ v17, hcell h16 (adr (newA h0) 0) = some (.int .i64 v17) ∧
 ∃ v18, hcell h16 (adr (newA h0) 1) = some (.int .u64 v18) ∧
 ∃ v19, hcell h16 (adr (newA h0) 2) = some (.int .u64 v19) ∧
 ∃ v20, hcell h16 (adr (newA h0) 3) = some (.int .u64 v20) ∧
 ∃ v21, hcell h16 (adr (newA h0) 4) = some (.pointer v21) ∧
 ∃ v22, hcell h16 (adr (newA h0) 5) = some (.pointer v22) ∧
 ∃ v23, hcell h16 (adr (newA h1) 0) = some (.int .i64 v23) ∧
 ∃ v24, hcell h16 (adr (newA h1) 1) = some (.int .u64 v24) ∧
 ∃ v25, hcell h16 (adr (newA h1) 2) = some (.int .u64 v25) ∧
 ∃ v26, hcell h16 (adr (newA h1) 3) = some (.int .u64 v26) ∧
 ∃ v27, hcell h16 (adr (newA h1) 4) = some (.pointer v27) ∧
 ∃ v28, hcell h16 (adr (newA h1) 5) = some (.pointer v28) ∧
 HC PG f_tree_Tree_Shape [.agg #[.int .i64 v17, .int .u64 v18, .int .u64 v19, .int .u64 v20, .pointer v21, .pointer v22]] [.c .slice] (fun (e29 : SliceV) h30 =>
 ((hcell h30 (adr (newA h1) 0) = some (.int .i64 v23) ∧ hcell h30 (adr (newA h1) 1) = some (.int .u64 v24) ∧ hcell h30 (adr (newA h1) 2) = some (.int .u64 v25) ∧ hcell h30 (adr (newA h1) 3) = some (.int .u64 v26) ∧ hcell h30 (adr (newA h1) 4) = some (.pointer v27) ∧ hcell h30 (adr (newA h1) 5) = some (.pointer v28)) ∧
 HC PG f_tree_Tree_Shape [.agg #[.int .i64 v23, .int .u64 v24, .int .u64 v25, .int .u64 v26, .pointer v27, .pointer v28]] [.c .slice] (fun (e31 : SliceV) h32 =>
 HC PG f_bytes_Equal [.slice e29.a e29.len e29.cap, .slice e31.a e31.len e31.cap] [.c .bool] (fun (e33 : Bool) h34 =>
 K e33 h34) h32) h30)) h16) (
 K false h16)) h2))
def A_tree_Same : Ann := .node (.reg [2, 3] (.nil)) (.node (.reg [4] (.draw [.mk 0 2047 4 32, .mk 0 2047 8 64, .mk 3 2044 96 128, .mk 4 2043 128 256, .mk 8 2039 260 512, .mk 24 2023 768 1024, .mk 8 2039 264 2048, .mk 104 1975 2304 4096, .mk 168 1879 5376 8192, .mk 264 1783 8448 16384, .mk 1023 1535 16384 16] (.take 0 (.take 1 (.all (.last 2 (.take 3 (.split 8 (.take 4 (.take 6 (.all (.last 5 (.all (.last 7 (.all (.last 8 (.take 9 (.take 10 (.done))))))))))) (.take 4 (.take 5 (.take 6 (.take 7 (.take 8 (.take 9 (.take 10 (.done)))))))))))))))) (.nil))
theorem H_tree_Same (x0 : Int × Int × Int × Int × (Option Addr) × (Option Addr)) (x1 : Int × Int × Int × Int × (Option Addr) × (Option Addr)) {K : Tup [.c .bool] → Heap → Prop} {h0 : Heap} (h : F_tree_Same x0 x1 K h0) : HC PG f_tree_Same [.agg #[.int .i64 x0.1, .int .u64 x0.2.1, .int .u64 x0.2.2.1, .int .u64 x0.2.2.2.1, .pointer x0.2.2.2.2.1, .pointer x0.2.2.2.2.2], .agg #[.int .i64 x1.1, .int .u64 x1.2.1, .int .u64 x1.2.2.1, .int .u64 x1.2.2.2.1, .pointer x1.2.2.2.2.1, .pointer x1.2.2.2.2.2]] [.c .bool] K h0 := HC.intro (an := A_tree_Same) (c := Tryz.f10.body.getD .skip) Tryz.mixed Tryz.func10 rfl Tryz.call10 (Nat.le_of_ble_eq_true rfl) (cst (by kernel_rfl) h)
def F_tree_OfChamp (x0 : Int × Int × Int) (x1 : Option Addr) (K : (Int × Int × Int × Int × (Option Addr) × (Option Addr)) → Heap → Prop) (h0 : Heap) : Prop :=
 At (hnew h0 [.int .u64 x0.1, .int .u64 x0.2.1, .int .u64 x0.2.2] t_sip_Hasher) (fun h1 =>
 At (hnew h1 [.int .i64 0, .int .u64 0, .int .u64 0, .int .u64 0, .pointer none, .pointer none] t_tree_Tree) (fun h2 =>
 Join (fun (t6 : Option Addr) h7 =>
 ∃ v8, hcell h7 (adr (newA h0) 0) = some (.int .u64 v8) ∧
 ∃ v9, hcell h7 (adr (newA h0) 1) = some (.int .u64 v9) ∧
 ∃ v10, hcell h7 (adr (newA h0) 2) = some (.int .u64 v10) ∧
 (WrS h7 (some (newA h1)) 0 [.int .i64 0, .int .u64 v8, .int .u64 v9, .int .u64 v10, .pointer t6, .pointer none] ∧
 At (hsetL h7 (newA h1) 0 [.int .i64 0, .int .u64 v8, .int .u64 v9, .int .u64 v10, .pointer t6, .pointer none]) (fun h11 =>
 ∃ v12, hcell h11 (adr (newA h1) 0) = some (.int .i64 v12) ∧
 ∃ v13, hcell h11 (adr (newA h1) 1) = some (.int .u64 v13) ∧
 ∃ v14, hcell h11 (adr (newA h1) 2) = some (.int .u64 v14) ∧
 ∃ v15, hcell h11 (adr (newA h1) 3) = some (.int .u64 v15) ∧
 ∃ v16, hcell h11 (adr (newA h1) 4) = some (.pointer v16) ∧
 ∃ v17, hcell h11 (adr (newA h1) 5) = some (.pointer v17) ∧
 K (v12, v13, v14, v15, v16, v17) h11))) (fun J3 =>
 CondP x1.isNone (
 HC PG f_champ_Empty [] [.c .ptr] (fun (e4 : Option Addr) h5 =>
 J3 e4 h5) h2) (
 J3 x1 h2))))
def A_tree_OfChamp : Ann := .node (.reg [1, 2, 4] (.nil)) (.join [2, 4] [(1, .c .ptr)] (.node (.reg [1, 2, 4, 6] (.nil)) (.node (.reg [1, 2, 4] (.nil)) (.nil))) (.node (.reg [4] (.nil)) (.nil)))
theorem H_tree_OfChamp (x0 : Int × Int × Int) (x1 : Option Addr) {K : Tup [.agg [.int .i64, .int .u64, .int .u64, .int .u64, .ptr, .ptr]] → Heap → Prop} {h0 : Heap} (h : F_tree_OfChamp x0 x1 K h0) : HC PG f_tree_OfChamp [.agg #[.int .u64 x0.1, .int .u64 x0.2.1, .int .u64 x0.2.2], .pointer x1] [.agg [.int .i64, .int .u64, .int .u64, .int .u64, .ptr, .ptr]] K h0 := HC.intro (an := A_tree_OfChamp) (c := Tryz.f11.body.getD .skip) Tryz.mixed Tryz.func11 rfl Tryz.call11 (Nat.le_of_ble_eq_true rfl) (cst (by kernel_rfl) h)
def F_build_Champ (x0 : Int × Int × Int) (x1 : SliceV) (K : (Option Addr) → Heap → Prop) (h0 : Heap) : Prop :=
 At (hnew h0 [.int .u64 x0.1, .int .u64 x0.2.1, .int .u64 x0.2.2] t_sip_Hasher) (fun h1 =>
 HC PG f_pair_Sorted [.slice x1.a x1.len x1.cap] [.c .slice] (fun (e2 : SliceV) h3 =>
 LoopP (fun I4 (t5 : SliceV × Int) h6 =>
 CondP (decide (t5.2 < (e2.len : Int))) (
 Join (fun (t25 : SliceV) h26 =>
 I4 (t25, IntKind.wrap .i64 (t5.2 + 1)) h26) (fun J7 =>
 (((0 : Int) ≤ t5.2 ∧ t5.2 < ((e2.len : Nat) : Int)) ∧ ∃ a8, e2.a = some a8 ∧
 ∃ v9, hcell h6 (adr (adr a8 (t5.2.toNat * 2)) 0) = some (.string v9) ∧
 ∃ v10, hcell h6 (adr (adr a8 (t5.2.toNat * 2)) 1) = some (.string v10) ∧
 At (hnew h6 [.string (⟨#[]⟩ : ByteArray), .string (⟨#[]⟩ : ByteArray)] t_pair_Pair) (fun h11 =>
 (WrS h11 (some (newA h6)) 0 [.string v9, .string v10] ∧
 At (hsetL h11 (newA h6) 0 [.string v9, .string v10]) (fun h12 =>
 ∃ v13, hcell h12 (adr (newA h6) 0) = some (.string v13) ∧
 ∃ v14, hcell h12 (adr (newA h6) 1) = some (.string v14) ∧
 ∃ v15, hcell h12 (adr (newA h0) 0) = some (.int .u64 v15) ∧
 ∃ v16, hcell h12 (adr (newA h0) 1) = some (.int .u64 v16) ∧
 ∃ v17, hcell h12 (adr (newA h0) 2) = some (.int .u64 v17) ∧
 ∃ v18, hcell h12 (adr (newA h6) 0) = some (.string v18) ∧
 HC PG f_sip_Hasher_Hash [.agg #[.int .u64 v15, .int .u64 v16, .int .u64 v17], .string v18] [.c (.int .u64)] (fun (e19 : Int) h20 =>
 ((hcell h20 (adr (newA h6) 0) = some (.string v13) ∧ hcell h20 (adr (newA h6) 1) = some (.string v14)) ∧
 At (hnew h20 [.string v13, .string v14, .int .u64 e19] t_build_hashed) (fun h21 =>
 ∃ xs22, SRow h21 (some (newA h20)) (1 * 3) xs22 ∧
 AppP (some [.string (⟨#[]⟩ : ByteArray), .string (⟨#[]⟩ : ByteArray), .int .u64 0]) 3 40 t_build_hashed t5.1.a t5.1.len t5.1.cap 1 xs22 h21 (fun s23 h24 =>
 J7 s23 h24)))) h12)))))) (
 HC PG f_build_trie [.slice t5.1.a t5.1.len t5.1.cap, .int .i64 0] [.c .ptr] (fun (e27 : Option Addr) h28 =>
 K e27 h28) h6)) (⟨none, 0, 0⟩, 0) h3) h1)
def A_build_Champ : Ann := .node (.reg [1, 2] (.nil)) (.node (.reg [1, 2, 5] (.nil)) (.node (.node (.reg [2, 5, 9, 10, 11] (.nil)) (.loop [2, 9, 10] [(5, .c .slice), (11, .c (.int .i64))] (.node (.reg [2, 5, 9, 10, 11, 12] (.nil)) (.node (.nil) (.join [2, 9, 10, 11] [(5, .c .slice)] (.node (.reg [2, 5, 7, 9, 10, 11] (.nil)) (.reg [2, 5, 9, 10, 11] (.draw [.mk 0 1023 32 32768, .mk 0 1023 128 65536, .mk 0 1023 4 131072, .mk 0 1023 128 262144, .mk 8 1015 262144 524288, .mk 20 1003 655360 1048576, .mk 34 989 1114112 2097152, .mk 64 959 2097152 4194304, .mk 161 894 4227072 8388608, .mk 511 766 8388608 32] (.take 0 (.take 1 (.take 2 (.take 3 (.take 4 (.all (.last 5 (.all (.last 6 (.all (.last 7 (.all (.last 8 (.take 9 (.done)))))))))))))))))) (.reg [2, 5, 9, 10, 11] (.nil))))))) (.node (.reg [4] (.nil)) (.nil))))
theorem H_build_Champ (x0 : Int × Int × Int) (x1 : SliceV) {K : Tup [.c .ptr] → Heap → Prop} {h0 : Heap} (h : F_build_Champ x0 x1 K h0) : HC PG f_build_Champ [.agg #[.int .u64 x0.1, .int .u64 x0.2.1, .int .u64 x0.2.2], .slice x1.a x1.len x1.cap] [.c .ptr] K h0 := HC.intro (an := A_build_Champ) (c := Tryz.f12.body.getD .skip) Tryz.mixed Tryz.func12 rfl Tryz.call12 (Nat.le_of_ble_eq_true rfl) (cst (by kernel_rfl) h)
def F_tree_OfRadix (x0 : Option Addr) (K : (Int × Int × Int × Int × (Option Addr) × (Option Addr)) → Heap → Prop) (h0 : Heap) : Prop :=
 At (hnew h0 [.int .i64 0, .int .u64 0, .int .u64 0, .int .u64 0, .pointer none, .pointer none] t_tree_Tree) (fun h1 =>
 Join (fun (t5 : Option Addr) h6 =>
 (WrS h6 (some (newA h0)) 0 [.int .i64 1, .int .u64 0, .int .u64 0, .int .u64 0, .pointer none, .pointer t5] ∧
 At (hsetL h6 (newA h0) 0 [.int .i64 1, .int .u64 0, .int .u64 0, .int .u64 0, .pointer none, .pointer t5]) (fun h7 =>
 ∃ v8, hcell h7 (adr (newA h0) 0) = some (.int .i64 v8) ∧
 ∃ v9, hcell h7 (adr (newA h0) 1) = some (.int .u64 v9) ∧
 ∃ v10, hcell h7 (adr (newA h0) 2) = some (.int .u64 v10) ∧
 ∃ v11, hcell h7 (adr (newA h0) 3) = some (.int .u64 v11) ∧
 ∃ v12, hcell h7 (adr (newA h0) 4) = some (.pointer v12) ∧
 ∃ v13, hcell h7 (adr (newA h0) 5) = some (.pointer v13) ∧
 K (v8, v9, v10, v11, v12, v13) h7))) (fun J2 =>
 CondP x0.isNone (
 HC PG f_radix_Empty [] [.c .ptr] (fun (e3 : Option Addr) h4 =>
 J2 e3 h4) h1) (
 J2 x0 h1)))
def A_tree_OfRadix : Ann := .node (.reg [0, 2] (.nil)) (.join [2] [(0, .c .ptr)] (.node (.reg [0, 2, 4] (.nil)) (.node (.reg [0, 2] (.nil)) (.nil))) (.node (.reg [2] (.nil)) (.nil)))
theorem H_tree_OfRadix (x0 : Option Addr) {K : Tup [.agg [.int .i64, .int .u64, .int .u64, .int .u64, .ptr, .ptr]] → Heap → Prop} {h0 : Heap} (h : F_tree_OfRadix x0 K h0) : HC PG f_tree_OfRadix [.pointer x0] [.agg [.int .i64, .int .u64, .int .u64, .int .u64, .ptr, .ptr]] K h0 := HC.intro (an := A_tree_OfRadix) (c := Tryz.f13.body.getD .skip) Tryz.mixed Tryz.func13 rfl Tryz.call13 (Nat.le_of_ble_eq_true rfl) (cst (by kernel_rfl) h)
def F_build_Radix (x0 : SliceV) (K : (Option Addr) → Heap → Prop) (h0 : Heap) : Prop :=
 HC PG f_pair_Sorted [.slice x0.a x0.len x0.cap] [.c .slice] (fun (e1 : SliceV) h2 =>
 Join (fun (t6 : ByteArray × Bool) h7 =>
 Join (fun (t11 : SliceV × ByteArray) h12 =>
 HC PG f_build_kids [.slice t11.1.a t11.1.len t11.1.cap, .int .i64 0] [.c .slice] (fun (e13 : SliceV) h14 =>
 HC PG f_radix_Make [.string (⟨#[]⟩ : ByteArray), .bool t6.2, .string t11.2, .slice e13.a e13.len e13.cap] [.c .ptr] (fun (e15 : Option Addr) h16 =>
 K e15 h16) h14) h12) (fun J8 =>
 CondP t6.2 (
 (((0 : Int) ≤ (0 : Int) ∧ (0 : Int) < ((e1.len : Nat) : Int)) ∧ ∃ a9, e1.a = some a9 ∧
 ∃ v10, hcell h7 (adr (adr a9 ((0 : Int).toNat * 2)) 1) = some (.string v10) ∧
 (((0 : Int) ≤ (1 : Int) ∧ (1 : Int) ≤ ((e1.len : Nat) : Int)) ∧
 J8 (⟨subAddr e1.a ((1 : Int).toNat) e1.cap 2, e1.len - ((1 : Int).toNat), e1.cap - ((1 : Int).toNat)⟩, v10) h7))) (
 J8 (e1, t6.1) h7))) (fun J3 =>
 CondP (decide ((e1.len : Int) > (0 : Int))) (
 (((0 : Int) ≤ (0 : Int) ∧ (0 : Int) < ((e1.len : Nat) : Int)) ∧ ∃ a4, e1.a = some a4 ∧
 ∃ v5, hcell h2 (adr (adr a4 ((0 : Int).toNat * 2)) 0) = some (.string v5) ∧
 J3 ((⟨#[]⟩ : ByteArray), v5.toList == (⟨#[]⟩ : ByteArray).toList) h2)) (
 J3 ((⟨#[]⟩ : ByteArray), false) h2))) h0
def A_build_Radix : Ann := .node (.reg [0] (.nil)) (.node (.reg [0] (.nil)) (.join [0] [(3, .c .str), (4, .c .bool)] (.reg [0, 3, 4] (.draw [.mk 0 4095 1 128, .mk 1 4094 128 256, .mk 2 4093 256 512, .mk 4 4091 512 1024, .mk 8 4087 1025 2048, .mk 24 4071 3072 4096, .mk 40 4055 5120 8192, .mk 72 4023 9216 16384, .mk 136 3959 17408 32768, .mk 264 3831 33792 65536, .mk 8 4095 0 8, .mk 2047 3583 65536 16] (.take 0 (.take 1 (.take 2 (.take 3 (.take 10 (.split 10 (.take 4 (.take 5 (.take 6 (.take 7 (.take 8 (.take 9 (.take 11 (.done)))))))) (.take 4 (.take 5 (.take 6 (.take 7 (.take 8 (.take 9 (.take 11 (.done)))))))))))))))) (.join [4] [(0, .c .slice), (3, .c .str)] (.node (.reg [0, 3, 4, 17] (.nil)) (.node (.reg [0, 3, 4] (.draw [.mk 0 255 1 262144, .mk 1 254 262144 524288, .mk 2 253 524288 1048576, .mk 4 251 1048576 2097152, .mk 0 255 1 4194304, .mk 16 239 4194304 8388608, .mk 15 247 2097152 8, .mk 127 206 8388608 1] (.take 0 (.take 1 (.take 2 (.take 3 (.take 4 (.take 5 (.take 6 (.take 7 (.done))))))))))) (.nil))) (.node (.reg [2] (.nil)) (.nil)))))
theorem H_build_Radix (x0 : SliceV) {K : Tup [.c .ptr] → Heap → Prop} {h0 : Heap} (h : F_build_Radix x0 K h0) : HC PG f_build_Radix [.slice x0.a x0.len x0.cap] [.c .ptr] K h0 := HC.intro (an := A_build_Radix) (c := Tryz.f14.body.getD .skip) Tryz.mixed Tryz.func14 rfl Tryz.call14 (Nat.le_of_ble_eq_true rfl) (cst (by kernel_rfl) h)
def F_pair_Sorted (x0 : SliceV) (K : (SliceV) → Heap → Prop) (h0 : Heap) : Prop :=
 HC PG f_slices_Clone_A_pair_Pair_pair_Pair [.slice x0.a x0.len x0.cap] [.c .slice] (fun (e1 : SliceV) h2 =>
 HC PG f_slices_SortStableFunc_A_pair_Pair_pair_Pair [.slice e1.a e1.len e1.cap, .func (.func f_pair_Sorted_1) #[] #[]] [] (fun (e3 : Unit) h4 =>
 LoopP (fun I5 (t6 : Int × Int) h7 =>
 CondP (decide (t6.2 < (e1.len : Int))) (
 Join (fun (t24 : Int) h25 =>
 I5 (t24, IntKind.wrap .i64 (t6.2 + 1)) h25) (fun J8 =>
 (((0 : Int) ≤ t6.2 ∧ t6.2 < ((e1.len : Nat) : Int)) ∧ ∃ a9, e1.a = some a9 ∧
 ∃ v10, hcell h7 (adr (adr a9 (t6.2.toNat * 2)) 0) = some (.string v10) ∧
 ∃ v11, hcell h7 (adr (adr a9 (t6.2.toNat * 2)) 1) = some (.string v11) ∧
 At (hnew h7 [.string (⟨#[]⟩ : ByteArray), .string (⟨#[]⟩ : ByteArray)] t_pair_Pair) (fun h12 =>
 (WrS h12 (some (newA h7)) 0 [.string v10, .string v11] ∧
 At (hsetL h12 (newA h7) 0 [.string v10, .string v11]) (fun h13 =>
 Join (fun (t18 : Bool) h19 =>
 CondP t18 (
 J8 t6.1 h19) (
 ∃ v20, hcell h19 (adr (newA h7) 0) = some (.string v20) ∧
 ∃ v21, hcell h19 (adr (newA h7) 1) = some (.string v21) ∧
 (((0 : Int) ≤ t6.1 ∧ t6.1 < ((e1.len : Nat) : Int)) ∧ ∃ a22, e1.a = some a22 ∧
 (WrS h19 (some (adr a22 (t6.1.toNat * 2))) 0 [.string v20, .string v21] ∧
 At (hsetL h19 (adr a22 (t6.1.toNat * 2)) 0 [.string v20, .string v21]) (fun h23 =>
 J8 (IntKind.wrap .i64 (t6.1 + 1)) h23))))) (fun J14 =>
 CondP (decide ((IntKind.wrap .i64 (t6.2 + 1)) < (e1.len : Int))) (
 (((0 : Int) ≤ (IntKind.wrap .i64 (t6.2 + 1)) ∧ (IntKind.wrap .i64 (t6.2 + 1)) < ((e1.len : Nat) : Int)) ∧ ∃ a15, e1.a = some a15 ∧
 ∃ v16, hcell h13 (adr (adr a15 ((IntKind.wrap .i64 (t6.2 + 1)).toNat * 2)) 0) = some (.string v16) ∧
 ∃ v17, hcell h13 (adr (newA h7) 0) = some (.string v17) ∧
 J14 (v16.toList == v17.toList) h13)) (
 J14 false h13)))))))) (
 (((0 : Int) ≤ t6.1 ∧ t6.1 ≤ ((e1.cap : Nat) : Int)) ∧
 K ⟨subAddr e1.a 0 e1.cap 2, t6.1.toNat - 0, e1.cap - 0⟩ h7))) (0, 0) h4) h2) h0
def A_pair_Sorted : Ann := .node (.reg [0] (.nil)) (.node (.reg [3] (.nil)) (.node (.reg [3] (.nil)) (.node (.reg [3, 4] (.nil)) (.node (.node (.reg [3, 4, 11, 12, 13] (.nil)) (.loop [3, 11, 12] [(4, .c (.int .i64)), (13, .c (.int .i64))] (.node (.reg [3, 4, 11, 12, 13, 14] (.nil)) (.node (.nil) (.join [3, 11, 12, 13] [(4, .c (.int .i64))] (.node (.reg [3, 4, 5, 6, 11, 12, 13] (.nil)) (.node (.join [3, 4, 6, 11, 12, 13] [(33, .c .bool)] (.reg [3, 4, 6, 11, 12, 13, 33] (.draw [.mk 0 65535 32 262144, .mk 1 65534 262144 524288, .mk 0 65535 8 1048576, .mk 4 65531 1048576 2097152, .mk 10 65525 2621440 4194304, .mk 16 65519 4194304 8388608, .mk 32 65503 8388616 16777216, .mk 32 65503 8388640 33554432, .mk 160 65375 41943040 67108864, .mk 352 65183 92274688 134217728, .mk 544 64991 142606336 268435456, .mk 1056 64479 276824064 536870912, .mk 32 65503 8388672 1073741824, .mk 4128 61407 1082130432 2147483648, .mk 10272 55263 2692743168 4294967296, .mk 16416 49119 4303355904 8589934592] (.take 0 (.take 1 (.take 2 (.take 3 (.take 4 (.take 5 (.split 23 (.take 6 (.take 7 (.take 8 (.take 9 (.take 10 (.take 11 (.take 12 (.take 13 (.take 14 (.take 15 (.done))))))))))) (.take 6 (.take 7 (.take 8 (.take 9 (.take 10 (.take 11 (.take 12 (.take 13 (.take 14 (.take 15 (.done)))))))))))))))))))) (.nil)) (.node (.reg [3, 4, 11, 12, 13] (.nil)) (.reg [3, 4, 11, 12, 13] (.nil))))) (.reg [3, 4, 11, 12, 13] (.nil))))))) (.node (.reg [2] (.nil)) (.nil))))))
theorem H_pair_Sorted (x0 : SliceV) {K : Tup [.c .slice] → Heap → Prop} {h0 : Heap} (h : F_pair_Sorted x0 K h0) : HC PG f_pair_Sorted [.slice x0.a x0.len x0.cap] [.c .slice] K h0 := HC.intro (an := A_pair_Sorted) (c := Tryz.f15.body.getD .skip) Tryz.mixed Tryz.func15 rfl Tryz.call15 (Nat.le_of_ble_eq_true rfl) (cst (by kernel_rfl) h)
def F_pair_Same (x0 : SliceV) (x1 : SliceV) (K : (Bool) → Heap → Prop) (h0 : Heap) : Prop :=
 HC PG f_slices_Equal_A_pair_Pair_pair_Pair [.slice x0.a x0.len x0.cap, .slice x1.a x1.len x1.cap] [.c .bool] (fun (e1 : Bool) h2 =>
 K e1 h2) h0
def A_pair_Same : Ann := .node (.reg [0, 1] (.nil)) (.node (.reg [4] (.nil)) (.nil))
theorem H_pair_Same (x0 : SliceV) (x1 : SliceV) {K : Tup [.c .bool] → Heap → Prop} {h0 : Heap} (h : F_pair_Same x0 x1 K h0) : HC PG f_pair_Same [.slice x0.a x0.len x0.cap, .slice x1.a x1.len x1.cap] [.c .bool] K h0 := HC.intro (an := A_pair_Same) (c := Tryz.f16.body.getD .skip) Tryz.mixed Tryz.func16 rfl Tryz.call16 (Nat.le_of_ble_eq_true rfl) (cst (by kernel_rfl) h)
def F_tree_Tree_Pairs (x0 : Int × Int × Int × Int × (Option Addr) × (Option Addr)) (K : (SliceV) → Heap → Prop) (h0 : Heap) : Prop :=
 At (hnew h0 [.int .i64 x0.1, .int .u64 x0.2.1, .int .u64 x0.2.2.1, .int .u64 x0.2.2.2.1, .pointer x0.2.2.2.2.1, .pointer x0.2.2.2.2.2] t_tree_Tree) (fun h1 =>
 ∃ v2, hcell h1 (adr (newA h0) 0) = some (.int .i64 v2) ∧
 CondP (v2 == (1 : Int)) (
 ∃ v3, hcell h1 (adr (newA h0) 5) = some (.pointer v3) ∧
 HC PG f_span_All [] [.agg [.str, .str, .bool]] (fun (e4 : ByteArray × ByteArray × Bool) h5 =>
 (hcell h5 (adr (newA h0) 5) = some (.pointer v3) ∧
 HC PG f_span_Pairs [.pointer v3, .agg #[.string e4.1, .string e4.2.1, .bool e4.2.2]] [.c .slice] (fun (e6 : SliceV) h7 =>
 K e6 h7) h5)) h1) (
 ∃ v8, hcell h1 (adr (newA h0) 4) = some (.pointer v8) ∧
 HC PG f_walk_Sorted [.pointer v8] [.c .slice] (fun (e9 : SliceV) h10 =>
 K e9 h10) h1))
def A_tree_Tree_Pairs : Ann := .node (.reg [1] (.nil)) (.node (.node (.reg [1, 5] (.nil)) (.node (.node (.reg [2] (.draw [.mk 0 31 2 64, .mk 1 30 64 128, .mk 0 31 0 256, .mk 6 25 384 512, .mk 15 23 512 4] (.take 0 (.take 1 (.all (.last 2 (.all (.last 3 (.take 4 (.done)))))))))) (.nil)) (.nil))) (.node (.reg [2] (.nil)) (.nil)))
theorem H_tree_Tree_Pairs (x0 : Int × Int × Int × Int × (Option Addr) × (Option Addr)) {K : Tup [.c .slice] → Heap → Prop} {h0 : Heap} (h : F_tree_Tree_Pairs x0 K h0) : HC PG f_tree_Tree_Pairs [.agg #[.int .i64 x0.1, .int .u64 x0.2.1, .int .u64 x0.2.2.1, .int .u64 x0.2.2.2.1, .pointer x0.2.2.2.2.1, .pointer x0.2.2.2.2.2]] [.c .slice] K h0 := HC.intro (an := A_tree_Tree_Pairs) (c := Tryz.f17.body.getD .skip) Tryz.mixed Tryz.func17 rfl Tryz.call17 (Nat.le_of_ble_eq_true rfl) (cst (by kernel_rfl) h)
def F_tree_Like (x0 : Int × Int × Int × Int × (Option Addr) × (Option Addr)) (x1 : Int × Int × Int × Int × (Option Addr) × (Option Addr)) (K : (Bool) → Heap → Prop) (h0 : Heap) : Prop :=
 At (hnew h0 [.int .i64 x0.1, .int .u64 x0.2.1, .int .u64 x0.2.2.1, .int .u64 x0.2.2.2.1, .pointer x0.2.2.2.2.1, .pointer x0.2.2.2.2.2] t_tree_Tree) (fun h1 =>
 At (hnew h1 [.int .i64 x1.1, .int .u64 x1.2.1, .int .u64 x1.2.2.1, .int .u64 x1.2.2.2.1, .pointer x1.2.2.2.2.1, .pointer x1.2.2.2.2.2] t_tree_Tree) (fun h2 =>
 ∃ v3, hcell h2 (adr (newA h0) 0) = some (.int .i64 v3) ∧
 ∃ v4, hcell h2 (adr (newA h1) 0) = some (.int .i64 v4) ∧
 CondP (v3 == v4) (
 ∃ v5, hcell h2 (adr (adr (newA h0) 1) 0) = some (.int .u64 v5) ∧
 ∃ v6, hcell h2 (adr (adr (newA h0) 1) 1) = some (.int .u64 v6) ∧
 ∃ v7, hcell h2 (adr (adr (newA h0) 1) 2) = some (.int .u64 v7) ∧
 ∃ v8, hcell h2 (adr (adr (newA h1) 1) 0) = some (.int .u64 v8) ∧
 ∃ v9, hcell h2 (adr (adr (newA h1) 1) 1) = some (.int .u64 v9) ∧
 ∃ v10, hcell h2 (adr (adr (newA h1) 1) 2) = some (.int .u64 v10) ∧
 K ((((v5 == v8) && ((v6 == v9) && true))) && ((v7 == v10) && true)) h2) (
 K false h2)))
def A_tree_Like : Ann := .node (.reg [2, 3] (.nil)) (.node (.reg [4] (.nil)) (.nil))
theorem H_tree_Like (x0 : Int × Int × Int × Int × (Option Addr) × (Option Addr)) (x1 : Int × Int × Int × Int × (Option Addr) × (Option Addr)) {K : Tup [.c .bool] → Heap → Prop} {h0 : Heap} (h : F_tree_Like x0 x1 K h0) : HC PG f_tree_Like [.agg #[.int .i64 x0.1, .int .u64 x0.2.1, .int .u64 x0.2.2.1, .int .u64 x0.2.2.2.1, .pointer x0.2.2.2.2.1, .pointer x0.2.2.2.2.2], .agg #[.int .i64 x1.1, .int .u64 x1.2.1, .int .u64 x1.2.2.1, .int .u64 x1.2.2.2.1, .pointer x1.2.2.2.2.1, .pointer x1.2.2.2.2.2]] [.c .bool] K h0 := HC.intro (an := A_tree_Like) (c := Tryz.f20.body.getD .skip) Tryz.mixed Tryz.func20 rfl Tryz.call20 (Nat.le_of_ble_eq_true rfl) (cst (by kernel_rfl) h)
def F_tree_One (x0 : Int × Int × Int × Int × (Option Addr) × (Option Addr)) (x1 : Int × Int × Int × Int × (Option Addr) × (Option Addr)) (K : (Bool) → Heap → Prop) (h0 : Heap) : Prop :=
 At (hnew h0 [.int .i64 x0.1, .int .u64 x0.2.1, .int .u64 x0.2.2.1, .int .u64 x0.2.2.2.1, .pointer x0.2.2.2.2.1, .pointer x0.2.2.2.2.2] t_tree_Tree) (fun h1 =>
 At (hnew h1 [.int .i64 x1.1, .int .u64 x1.2.1, .int .u64 x1.2.2.1, .int .u64 x1.2.2.2.1, .pointer x1.2.2.2.2.1, .pointer x1.2.2.2.2.2] t_tree_Tree) (fun h2 =>
 ∃ v3, hcell h2 (adr (newA h0) 0) = some (.int .i64 v3) ∧
 ∃ v4, hcell h2 (adr (newA h0) 1) = some (.int .u64 v4) ∧
 ∃ v5, hcell h2 (adr (newA h0) 2) = some (.int .u64 v5) ∧
 ∃ v6, hcell h2 (adr (newA h0) 3) = some (.int .u64 v6) ∧
 ∃ v7, hcell h2 (adr (newA h0) 4) = some (.pointer v7) ∧
 ∃ v8, hcell h2 (adr (newA h0) 5) = some (.pointer v8) ∧
 ∃ v9, hcell h2 (adr (newA h1) 0) = some (.int .i64 v9) ∧
 ∃ v10, hcell h2 (adr (newA h1) 1) = some (.int .u64 v10) ∧
 ∃ v11, hcell h2 (adr (newA h1) 2) = some (.int .u64 v11) ∧
 ∃ v12, hcell h2 (adr (newA h1) 3) = some (.int .u64 v12) ∧
 ∃ v13, hcell h2 (adr (newA h1) 4) = some (.pointer v13) ∧
 ∃ v14, hcell h2 (adr (newA h1) 5) = some (.pointer v14) ∧
 (plainL h2 [(v7, v13), (v8, v14)] ∧
 K ((v3 == v9) && ((((((v4 == v10) && ((v5 == v11) && true))) && ((v6 == v12) && true))) && ((v7 == v13) && ((v8 == v14) && true)))) h2)))
def A_tree_One : Ann := .node (.reg [2, 3] (.nil)) (.node (.reg [4] (.nil)) (.nil))
theorem H_tree_One (x0 : Int × Int × Int × Int × (Option Addr) × (Option Addr)) (x1 : Int × Int × Int × Int × (Option Addr) × (Option Addr)) {K : Tup [.c .bool] → Heap → Prop} {h0 : Heap} (h : F_tree_One x0 x1 K h0) : HC PG f_tree_One [.agg #[.int .i64 x0.1, .int .u64 x0.2.1, .int .u64 x0.2.2.1, .int .u64 x0.2.2.2.1, .pointer x0.2.2.2.2.1, .pointer x0.2.2.2.2.2], .agg #[.int .i64 x1.1, .int .u64 x1.2.1, .int .u64 x1.2.2.1, .int .u64 x1.2.2.2.1, .pointer x1.2.2.2.2.1, .pointer x1.2.2.2.2.2]] [.c .bool] K h0 := HC.intro (an := A_tree_One) (c := Tryz.f23.body.getD .skip) Tryz.mixed Tryz.func23 rfl Tryz.call23 (Nat.le_of_ble_eq_true rfl) (cst (by kernel_rfl) h)
def F_tree_Tree_With (x0 : Int × Int × Int × Int × (Option Addr) × (Option Addr)) (x1 : Option Addr) (x2 : ByteArray × ByteArray) (K : ((Int × Int × Int × Int × (Option Addr) × (Option Addr)) × Int) → Heap → Prop) (h0 : Heap) : Prop :=
 At (hnew h0 [.int .i64 x0.1, .int .u64 x0.2.1, .int .u64 x0.2.2.1, .int .u64 x0.2.2.2.1, .pointer x0.2.2.2.2.1, .pointer x0.2.2.2.2.2] t_tree_Tree) (fun h1 =>
 At (hnew h1 [.string x2.1, .string x2.2] t_pair_Pair) (fun h2 =>
 At (hnew h2 [.int .i64 0, .int .u64 0, .int .u64 0, .int .u64 0, .pointer none, .pointer none] t_tree_Tree) (fun h3 =>
 ∃ v4, hcell h3 (adr (newA h1) 0) = some (.string v4) ∧
 ∃ v5, hcell h3 (adr (newA h1) 1) = some (.string v5) ∧
 HC PG f_pair_Right [.string v4, .string v5] [.c (.int .i64)] (fun (e6 : Int) h7 =>
 CondP (e6 != (0 : Int)) (
 ∃ v8, hcell h7 (adr (newA h0) 0) = some (.int .i64 v8) ∧
 ∃ v9, hcell h7 (adr (newA h0) 1) = some (.int .u64 v9) ∧
 ∃ v10, hcell h7 (adr (newA h0) 2) = some (.int .u64 v10) ∧
 ∃ v11, hcell h7 (adr (newA h0) 3) = some (.int .u64 v11) ∧
 ∃ v12, hcell h7 (adr (newA h0) 4) = some (.pointer v12) ∧
 ∃ v13, hcell h7 (adr (newA h0) 5) = some (.pointer v13) ∧
 (WrS h7 (some (newA h2)) 0 [.int .i64 v8, .int .u64 v9, .int .u64 v10, .int .u64 v11, .pointer v12, .pointer v13] ∧
 At (hsetL h7 (newA h2) 0 [.int .i64 v8, .int .u64 v9, .int .u64 v10, .int .u64 v11, .pointer v12, .pointer v13]) (fun h14 =>
 ∃ v15, hcell h14 (adr (newA h2) 0) = some (.int .i64 v15) ∧
 ∃ v16, hcell h14 (adr (newA h2) 1) = some (.int .u64 v16) ∧
 ∃ v17, hcell h14 (adr (newA h2) 2) = some (.int .u64 v17) ∧
 ∃ v18, hcell h14 (adr (newA h2) 3) = some (.int .u64 v18) ∧
 ∃ v19, hcell h14 (adr (newA h2) 4) = some (.pointer v19) ∧
 ∃ v20, hcell h14 (adr (newA h2) 5) = some (.pointer v20) ∧
 K ((v15, v16, v17, v18, v19, v20), e6) h14))) (
 ∃ v21, hcell h7 (adr (newA h0) 0) = some (.int .i64 v21) ∧
 CondP (v21 == (1 : Int)) (
 ∃ v22, hcell h7 (adr (newA h0) 5) = some (.pointer v22) ∧
 ∃ v23, hcell h7 (adr (newA h1) 0) = some (.string v23) ∧
 ∃ v24, hcell h7 (adr (newA h1) 1) = some (.string v24) ∧
 HC PG f_radix_Put [.pointer x1, .pointer v22, .agg #[.string v23, .string v24]] [.c .ptr, .c .bool] (fun (e25 : (Option Addr) × Bool) h26 =>
 (Wr h26 (adr (newA h0) 5) ∧
 At (hset h26 (adr (newA h0) 5) (.pointer e25.1)) (fun h27 =>
 ∃ v28, hcell h27 (adr (newA h0) 0) = some (.int .i64 v28) ∧
 ∃ v29, hcell h27 (adr (newA h0) 1) = some (.int .u64 v29) ∧
 ∃ v30, hcell h27 (adr (newA h0) 2) = some (.int .u64 v30) ∧
 ∃ v31, hcell h27 (adr (newA h0) 3) = some (.int .u64 v31) ∧
 ∃ v32, hcell h27 (adr (newA h0) 4) = some (.pointer v32) ∧
 ∃ v33, hcell h27 (adr (newA h0) 5) = some (.pointer v33) ∧
 (WrS h27 (some (newA h2)) 0 [.int .i64 v28, .int .u64 v29, .int .u64 v30, .int .u64 v31, .pointer v32, .pointer v33] ∧
 At (hsetL h27 (newA h2) 0 [.int .i64 v28, .int .u64 v29, .int .u64 v30, .int .u64 v31, .pointer v32, .pointer v33]) (fun h34 =>
 ∃ v35, hcell h34 (adr (newA h2) 0) = some (.int .i64 v35) ∧
 ∃ v36, hcell h34 (adr (newA h2) 1) = some (.int .u64 v36) ∧
 ∃ v37, hcell h34 (adr (newA h2) 2) = some (.int .u64 v37) ∧
 ∃ v38, hcell h34 (adr (newA h2) 3) = some (.int .u64 v38) ∧
 ∃ v39, hcell h34 (adr (newA h2) 4) = some (.pointer v39) ∧
 ∃ v40, hcell h34 (adr (newA h2) 5) = some (.pointer v40) ∧
 K ((v35, v36, v37, v38, v39, v40), 0) h34))))) h7) (
 ∃ v41, hcell h7 (adr (adr (newA h0) 1) 0) = some (.int .u64 v41) ∧
 ∃ v42, hcell h7 (adr (adr (newA h0) 1) 1) = some (.int .u64 v42) ∧
 ∃ v43, hcell h7 (adr (adr (newA h0) 1) 2) = some (.int .u64 v43) ∧
 ∃ v44, hcell h7 (adr (newA h0) 4) = some (.pointer v44) ∧
 ∃ v45, hcell h7 (adr (newA h1) 0) = some (.string v45) ∧
 ∃ v46, hcell h7 (adr (newA h1) 1) = some (.string v46) ∧
 HC PG f_champ_Put [.agg #[.int .u64 v41, .int .u64 v42, .int .u64 v43], .pointer x1, .pointer v44, .agg #[.string v45, .string v46]] [.c .ptr, .c .bool] (fun (e47 : (Option Addr) × Bool) h48 =>
 (Wr h48 (adr (newA h0) 4) ∧
 At (hset h48 (adr (newA h0) 4) (.pointer e47.1)) (fun h49 =>
 ∃ v50, hcell h49 (adr (newA h0) 0) = some (.int .i64 v50) ∧
 ∃ v51, hcell h49 (adr (newA h0) 1) = some (.int .u64 v51) ∧
 ∃ v52, hcell h49 (adr (newA h0) 2) = some (.int .u64 v52) ∧
 ∃ v53, hcell h49 (adr (newA h0) 3) = some (.int .u64 v53) ∧
 ∃ v54, hcell h49 (adr (newA h0) 4) = some (.pointer v54) ∧
 ∃ v55, hcell h49 (adr (newA h0) 5) = some (.pointer v55) ∧
 (WrS h49 (some (newA h2)) 0 [.int .i64 v50, .int .u64 v51, .int .u64 v52, .int .u64 v53, .pointer v54, .pointer v55] ∧
 At (hsetL h49 (newA h2) 0 [.int .i64 v50, .int .u64 v51, .int .u64 v52, .int .u64 v53, .pointer v54, .pointer v55]) (fun h56 =>
 ∃ v57, hcell h56 (adr (newA h2) 0) = some (.int .i64 v57) ∧
 ∃ v58, hcell h56 (adr (newA h2) 1) = some (.int .u64 v58) ∧
 ∃ v59, hcell h56 (adr (newA h2) 2) = some (.int .u64 v59) ∧
 ∃ v60, hcell h56 (adr (newA h2) 3) = some (.int .u64 v60) ∧
 ∃ v61, hcell h56 (adr (newA h2) 4) = some (.pointer v61) ∧
 ∃ v62, hcell h56 (adr (newA h2) 5) = some (.pointer v62) ∧
 K ((v57, v58, v59, v60, v61, v62), 0) h56))))) h7))) h3)))
def A_tree_Tree_With : Ann := .node (.reg [1, 3, 5, 6] (.nil)) (.node (.node (.reg [1, 3, 5, 6, 8] (.nil)) (.node (.reg [1, 3, 5, 6, 8, 15] (.nil)) (.node (.node (.reg [6, 7] (.nil)) (.nil)) (.nil)))) (.node (.node (.reg [1, 3, 5, 6, 20] (.nil)) (.node (.node (.reg [3, 6] (.nil)) (.node (.reg [6, 7] (.nil)) (.nil))) (.nil))) (.node (.reg [3, 6] (.nil)) (.node (.reg [6, 7] (.nil)) (.nil)))))
theorem H_tree_Tree_With (x0 : Int × Int × Int × Int × (Option Addr) × (Option Addr)) (x1 : Option Addr) (x2 : ByteArray × ByteArray) {K : Tup [.agg [.int .i64, .int .u64, .int .u64, .int .u64, .ptr, .ptr], .c (.int .i64)] → Heap → Prop} {h0 : Heap} (h : F_tree_Tree_With x0 x1 x2 K h0) : HC PG f_tree_Tree_With [.agg #[.int .i64 x0.1, .int .u64 x0.2.1, .int .u64 x0.2.2.1, .int .u64 x0.2.2.2.1, .pointer x0.2.2.2.2.1, .pointer x0.2.2.2.2.2], .pointer x1, .agg #[.string x2.1, .string x2.2]] [.agg [.int .i64, .int .u64, .int .u64, .int .u64, .ptr, .ptr], .c (.int .i64)] K h0 := HC.intro (an := A_tree_Tree_With) (c := Tryz.f25.body.getD .skip) Tryz.mixed Tryz.func25 rfl Tryz.call25 (Nat.le_of_ble_eq_true rfl) (cst (by kernel_rfl) h)
def F_tree_New (x0 : Int) (x1 : Int × Int × Int) (K : ((Int × Int × Int × Int × (Option Addr) × (Option Addr)) × Int) → Heap → Prop) (h0 : Heap) : Prop :=
 At (hnew h0 [.int .u64 x1.1, .int .u64 x1.2.1, .int .u64 x1.2.2] t_sip_Hasher) (fun h1 =>
 At (hnew h1 [.int .i64 0, .int .u64 0, .int .u64 0, .int .u64 0, .pointer none, .pointer none] t_tree_Tree) (fun h2 =>
 CondP (x0 == (0 : Int)) (
 ∃ v3, hcell h2 (adr (newA h0) 0) = some (.int .u64 v3) ∧
 ∃ v4, hcell h2 (adr (newA h0) 1) = some (.int .u64 v4) ∧
 ∃ v5, hcell h2 (adr (newA h0) 2) = some (.int .u64 v5) ∧
 HC PG f_tree_OfChamp [.agg #[.int .u64 v3, .int .u64 v4, .int .u64 v5], .pointer none] [.agg [.int .i64, .int .u64, .int .u64, .int .u64, .ptr, .ptr]] (fun (e6 : Int × Int × Int × Int × (Option Addr) × (Option Addr)) h7 =>
 (WrS h7 (some (newA h1)) 0 [.int .i64 e6.1, .int .u64 e6.2.1, .int .u64 e6.2.2.1, .int .u64 e6.2.2.2.1, .pointer e6.2.2.2.2.1, .pointer e6.2.2.2.2.2] ∧
 At (hsetL h7 (newA h1) 0 [.int .i64 e6.1, .int .u64 e6.2.1, .int .u64 e6.2.2.1, .int .u64 e6.2.2.2.1, .pointer e6.2.2.2.2.1, .pointer e6.2.2.2.2.2]) (fun h8 =>
 ∃ v9, hcell h8 (adr (newA h1) 0) = some (.int .i64 v9) ∧
 ∃ v10, hcell h8 (adr (newA h1) 1) = some (.int .u64 v10) ∧
 ∃ v11, hcell h8 (adr (newA h1) 2) = some (.int .u64 v11) ∧
 ∃ v12, hcell h8 (adr (newA h1) 3) = some (.int .u64 v12) ∧
 ∃ v13, hcell h8 (adr (newA h1) 4) = some (.pointer v13) ∧
 ∃ v14, hcell h8 (adr (newA h1) 5) = some (.pointer v14) ∧
 K ((v9, v10, v11, v12, v13, v14), 0) h8))) h2) (
 CondP (x0 == (1 : Int)) (
 HC PG f_tree_OfRadix [.pointer none] [.agg [.int .i64, .int .u64, .int .u64, .int .u64, .ptr, .ptr]] (fun (e15 : Int × Int × Int × Int × (Option Addr) × (Option Addr)) h16 =>
 (WrS h16 (some (newA h1)) 0 [.int .i64 e15.1, .int .u64 e15.2.1, .int .u64 e15.2.2.1, .int .u64 e15.2.2.2.1, .pointer e15.2.2.2.2.1, .pointer e15.2.2.2.2.2] ∧
 At (hsetL h16 (newA h1) 0 [.int .i64 e15.1, .int .u64 e15.2.1, .int .u64 e15.2.2.1, .int .u64 e15.2.2.2.1, .pointer e15.2.2.2.2.1, .pointer e15.2.2.2.2.2]) (fun h17 =>
 ∃ v18, hcell h17 (adr (newA h1) 0) = some (.int .i64 v18) ∧
 ∃ v19, hcell h17 (adr (newA h1) 1) = some (.int .u64 v19) ∧
 ∃ v20, hcell h17 (adr (newA h1) 2) = some (.int .u64 v20) ∧
 ∃ v21, hcell h17 (adr (newA h1) 3) = some (.int .u64 v21) ∧
 ∃ v22, hcell h17 (adr (newA h1) 4) = some (.pointer v22) ∧
 ∃ v23, hcell h17 (adr (newA h1) 5) = some (.pointer v23) ∧
 K ((v18, v19, v20, v21, v22, v23), 0) h17))) h2) (
 (WrS h2 (some (newA h1)) 0 [.int .i64 0, .int .u64 0, .int .u64 0, .int .u64 0, .pointer none, .pointer none] ∧
 At (hsetL h2 (newA h1) 0 [.int .i64 0, .int .u64 0, .int .u64 0, .int .u64 0, .pointer none, .pointer none]) (fun h24 =>
 ∃ v25, hcell h24 (adr (newA h1) 0) = some (.int .i64 v25) ∧
 ∃ v26, hcell h24 (adr (newA h1) 1) = some (.int .u64 v26) ∧
 ∃ v27, hcell h24 (adr (newA h1) 2) = some (.int .u64 v27) ∧
 ∃ v28, hcell h24 (adr (newA h1) 3) = some (.int .u64 v28) ∧
 ∃ v29, hcell h24 (adr (newA h1) 4) = some (.pointer v29) ∧
 ∃ v30, hcell h24 (adr (newA h1) 5) = some (.pointer v30) ∧
 K ((v25, v26, v27, v28, v29, v30), 11) h24))))))
def A_tree_New : Ann := .node (.reg [0, 3, 4] (.nil)) (.node (.node (.reg [3, 4, 6] (.nil)) (.node (.reg [3, 4, 6, 7] (.nil)) (.node (.node (.reg [4, 5] (.nil)) (.nil)) (.node (.reg [4, 11] (.nil)) (.node (.node (.reg [4, 5] (.nil)) (.nil)) (.nil)))))) (.node (.reg [4, 5] (.nil)) (.nil)))
theorem H_tree_New (x0 : Int) (x1 : Int × Int × Int) {K : Tup [.agg [.int .i64, .int .u64, .int .u64, .int .u64, .ptr, .ptr], .c (.int .i64)] → Heap → Prop} {h0 : Heap} (h : F_tree_New x0 x1 K h0) : HC PG f_tree_New [.int .i64 x0, .agg #[.int .u64 x1.1, .int .u64 x1.2.1, .int .u64 x1.2.2]] [.agg [.int .i64, .int .u64, .int .u64, .int .u64, .ptr, .ptr], .c (.int .i64)] K h0 := HC.intro (an := A_tree_New) (c := Tryz.f28.body.getD .skip) Tryz.mixed Tryz.func28 rfl Tryz.call28 (Nat.le_of_ble_eq_true rfl) (cst (by kernel_rfl) h)
def F_pair_Right (x0 : ByteArray) (x1 : ByteArray) (K : (Int) → Heap → Prop) (h0 : Heap) : Prop :=
 CondP (decide ((x0.size : Int) > (256 : Int))) (
 K 2 h0) (
 CondP (decide ((x1.size : Int) > (4096 : Int))) (
 K 3 h0) (
 K 0 h0))
def A_pair_Right : Ann := .node (.reg [0, 1] (.nil)) (.node (.node (.reg [1, 5] (.nil)) (.node (.node (.reg [4] (.nil)) (.nil)) (.node (.reg [9] (.nil)) (.node (.node (.reg [4] (.nil)) (.nil)) (.nil))))) (.node (.reg [4] (.nil)) (.nil)))
theorem H_pair_Right (x0 : ByteArray) (x1 : ByteArray) {K : Tup [.c (.int .i64)] → Heap → Prop} {h0 : Heap} (h : F_pair_Right x0 x1 K h0) : HC PG f_pair_Right [.string x0, .string x1] [.c (.int .i64)] K h0 := HC.intro (an := A_pair_Right) (c := Tryz.f29.body.getD .skip) Tryz.mixed Tryz.func29 rfl Tryz.call29 (Nat.le_of_ble_eq_true rfl) (cst (by kernel_rfl) h)
def F_bytes_Equal (x0 : SliceV) (x1 : SliceV) (K : (Bool) → Heap → Prop) (h0 : Heap) : Prop :=
 ∃ s1, SRow h0 x0.a x0.len (byteVals s1) ∧
 ∃ s2, SRow h0 x1.a x1.len (byteVals s2) ∧
 K (s1.toList == s2.toList) h0
def A_bytes_Equal : Ann := .node (.reg [0, 1] (.nil)) (.node (.reg [4] (.nil)) (.nil))
theorem H_bytes_Equal (x0 : SliceV) (x1 : SliceV) {K : Tup [.c .bool] → Heap → Prop} {h0 : Heap} (h : F_bytes_Equal x0 x1 K h0) : HC PG f_bytes_Equal [.slice x0.a x0.len x0.cap, .slice x1.a x1.len x1.cap] [.c .bool] K h0 := HC.intro (an := A_bytes_Equal) (c := Tryz.f30.body.getD .skip) Tryz.mixed Tryz.func30 rfl Tryz.call30 (Nat.le_of_ble_eq_true rfl) (cst (by kernel_rfl) h)
def F_tree_Tree_Shape (x0 : Int × Int × Int × Int × (Option Addr) × (Option Addr)) (K : (SliceV) → Heap → Prop) (h0 : Heap) : Prop :=
 At (hnew h0 [.int .i64 x0.1, .int .u64 x0.2.1, .int .u64 x0.2.2.1, .int .u64 x0.2.2.2.1, .pointer x0.2.2.2.2.1, .pointer x0.2.2.2.2.2] t_tree_Tree) (fun h1 =>
 ∃ v2, hcell h1 (adr (newA h0) 0) = some (.int .i64 v2) ∧
 CondP (v2 == (1 : Int)) (
 At (hnew h1 [.int .u8 1] t_u8) (fun h3 =>
 ∃ v4, hcell h3 (adr (newA h0) 5) = some (.pointer v4) ∧
 HC PG f_radix_Shape [.pointer v4] [.c .slice] (fun (e5 : SliceV) h6 =>
 ∃ xs7, SRow h6 e5.a (e5.len * 1) xs7 ∧
 AppP (some [.int .u8 0]) 1 1 t_u8 (some (newA h1)) 1 1 e5.len xs7 h6 (fun s8 h9 =>
 K s8 h9)) h3)) (
 At (hnew h1 [.int .u8 0] t_u8) (fun h10 =>
 ∃ v11, hcell h10 (adr (newA h0) 0) = some (.int .i64 v11) ∧
 ∃ v12, hcell h10 (adr (newA h0) 1) = some (.int .u64 v12) ∧
 ∃ v13, hcell h10 (adr (newA h0) 2) = some (.int .u64 v13) ∧
 ∃ v14, hcell h10 (adr (newA h0) 3) = some (.int .u64 v14) ∧
 ∃ v15, hcell h10 (adr (newA h0) 4) = some (.pointer v15) ∧
 ∃ v16, hcell h10 (adr (newA h0) 5) = some (.pointer v16) ∧
 HC PG f_tree_Tree_Champ [.agg #[.int .i64 v11, .int .u64 v12, .int .u64 v13, .int .u64 v14, .pointer v15, .pointer v16]] [.c .ptr] (fun (e17 : Option Addr) h18 =>
 HC PG f_shape_Of [.pointer e17] [.c .slice] (fun (e19 : SliceV) h20 =>
 ∃ xs21, SRow h20 e19.a (e19.len * 1) xs21 ∧
 AppP (some [.int .u8 0]) 1 1 t_u8 (some (newA h1)) 1 1 e19.len xs21 h20 (fun s22 h23 =>
 K s22 h23)) h18) h10)))
def A_tree_Tree_Shape : Ann := .node (.reg [1] (.nil)) (.node (.node (.reg [1, 5] (.nil)) (.node (.node (.reg [2] (.nil)) (.nil)) (.nil))) (.node (.reg [2] (.nil)) (.nil)))
theorem H_tree_Tree_Shape (x0 : Int × Int × Int × Int × (Option Addr) × (Option Addr)) {K : Tup [.c .slice] → Heap → Prop} {h0 : Heap} (h : F_tree_Tree_Shape x0 K h0) : HC PG f_tree_Tree_Shape [.agg #[.int .i64 x0.1, .int .u64 x0.2.1, .int .u64 x0.2.2.1, .int .u64 x0.2.2.2.1, .pointer x0.2.2.2.2.1, .pointer x0.2.2.2.2.2]] [.c .slice] K h0 := HC.intro (an := A_tree_Tree_Shape) (c := Tryz.f31.body.getD .skip) Tryz.mixed Tryz.func31 rfl Tryz.call31 (Nat.le_of_ble_eq_true rfl) (cst (by kernel_rfl) h)
def F_champ_Empty  (K : (Option Addr) → Heap → Prop) (h0 : Heap) : Prop :=
 HC PG f_node_Inner [] [.c .ptr] (fun (e1 : Option Addr) h2 =>
 K e1 h2) h0
def A_champ_Empty : Ann := .node (.reg [] (.nil)) (.node (.reg [0] (.nil)) (.nil))
theorem H_champ_Empty  {K : Tup [.c .ptr] → Heap → Prop} {h0 : Heap} (h : F_champ_Empty  K h0) : HC PG f_champ_Empty [] [.c .ptr] K h0 := HC.intro (an := A_champ_Empty) (c := Tryz.f32.body.getD .skip) Tryz.mixed Tryz.func32 rfl Tryz.call32 (Nat.le_of_ble_eq_true rfl) (cst (by kernel_rfl) h)
def F_sip_Hasher_Hash (x0 : Int × Int × Int) (x1 : ByteArray) (K : (Int) → Heap → Prop) (h0 : Heap) : Prop :=
 At (hnew h0 [.int .u64 x0.1, .int .u64 x0.2.1, .int .u64 x0.2.2] t_sip_Hasher) (fun h1 =>
 ∃ v2, hcell h1 (adr (adr (newA h0) 0) 0) = some (.int .u64 v2) ∧
 ∃ v3, hcell h1 (adr (adr (newA h0) 0) 1) = some (.int .u64 v3) ∧
 ∃ v4, hcell h1 (adr (newA h0) 2) = some (.int .u64 v4) ∧
 HC PG f_sip_Sum [.agg #[.int .u64 v2, .int .u64 v3], .string x1] [.c (.int .u64)] (fun (e5 : Int) h6 =>
 (hcell h6 (adr (newA h0) 2) = some (.int .u64 v4) ∧
 Bd (IntKind.wrap .u64 (BitVec.ofInt (IntKind.bits .u64) e5 &&& BitVec.ofInt (IntKind.bits .u64) v4).toNat : Int) (fun n7 =>
 K n7 h6))) h1)
def A_sip_Hasher_Hash : Ann := .node (.reg [1, 2] (.nil)) (.node (.reg [4] (.draw [.mk 0 255 4 32, .mk 1 254 32 64, .mk 0 255 2 128, .mk 6 249 192 256, .mk 0 255 4 512, .mk 16 239 512 1024, .mk 40 215 1280 2048, .mk 127 191 2048 16] (.take 0 (.take 1 (.take 2 (.take 4 (.take 5 (.all (.last 3 (.take 6 (.take 7 (.done)))))))))))) (.nil))
theorem H_sip_Hasher_Hash (x0 : Int × Int × Int) (x1 : ByteArray) {K : Tup [.c (.int .u64)] → Heap → Prop} {h0 : Heap} (h : F_sip_Hasher_Hash x0 x1 K h0) : HC PG f_sip_Hasher_Hash [.agg #[.int .u64 x0.1, .int .u64 x0.2.1, .int .u64 x0.2.2], .string x1] [.c (.int .u64)] K h0 := HC.intro (an := A_sip_Hasher_Hash) (c := Tryz.f33.body.getD .skip) Tryz.mixed Tryz.func33 rfl Tryz.call33 (Nat.le_of_ble_eq_true rfl) (cst (by kernel_rfl) h)
def F_build_trie (x0 : SliceV) (x1 : Int) (K : (Option Addr) → Heap → Prop) (h0 : Heap) : Prop :=
 At (hnew h0 [.int .i64 x1] t_int) (fun h1 =>
 ∃ v2, hcell h1 (newA h0) = some (.int .i64 v2) ∧
 CondP (v2 == (13 : Int)) (
 HC PG f_node_Bucket [] [.c .ptr] (fun (e3 : Option Addr) h4 =>
 LoopP (fun I5 (t6 : (Option Addr) × Int) h7 =>
 CondP (decide (t6.2 < (x0.len : Int))) (
 (((0 : Int) ≤ t6.2 ∧ t6.2 < ((x0.len : Nat) : Int)) ∧ ∃ a8, x0.a = some a8 ∧
 ∃ v9, hcell h7 (adr (adr a8 (t6.2.toNat * 3)) 0) = some (.string v9) ∧
 ∃ v10, hcell h7 (adr (adr a8 (t6.2.toNat * 3)) 1) = some (.string v10) ∧
 ∃ v11, hcell h7 (adr (adr a8 (t6.2.toNat * 3)) 2) = some (.int .u64 v11) ∧
 At (hnew h7 [.string (⟨#[]⟩ : ByteArray), .string (⟨#[]⟩ : ByteArray), .int .u64 0] t_build_hashed) (fun h12 =>
 (WrS h12 (some (newA h7)) 0 [.string v9, .string v10, .int .u64 v11] ∧
 At (hsetL h12 (newA h7) 0 [.string v9, .string v10, .int .u64 v11]) (fun h13 =>
 ∃ v14, hcell h13 (adr (adr (newA h7) 0) 0) = some (.string v14) ∧
 ∃ v15, hcell h13 (adr (adr (newA h7) 0) 1) = some (.string v15) ∧
 HC PG f_node_Node_Put [.pointer t6.1, .pointer none, .agg #[.string v14, .string v15]] [.c .ptr] (fun (e16 : Option Addr) h17 =>
 I5 (e16, IntKind.wrap .i64 (t6.2 + 1)) h17) h13))))) (
 K t6.1 h7)) (e3, 0) h4) h1) (
 At (hnew h1 [Value.nilFunc] t_func_build_hashed_int) (fun h18 =>
 (Wr h18 (newA h1) ∧
 At (hset h18 (newA h1) (.func (.func f_build_trie_1) #[] #[.pointer (some (newA h0))])) (fun h19 =>
 HC PG f_slices_Clone_A_build_hashed_build_hashed [.slice x0.a x0.len x0.cap] [.c .slice] (fun (e20 : SliceV) h21 =>
 HC PG f_slices_SortStableFunc_A_build_hashed_build_hashed [.slice e20.a e20.len e20.cap, .func (.func f_build_trie_2) #[] #[.pointer (some (newA h1))]] [] (fun (e22 : Unit) h23 =>
 HC PG f_node_Inner [] [.c .ptr] (fun (e24 : Option Addr) h25 =>
 LoopP (fun I26 (t27 : SliceV × (Option Addr)) h28 =>
 CondP (decide ((t27.1.len : Int) > (0 : Int))) (
 ∃ v29, hcell h28 (newA h1) = some (v29) ∧
 (((0 : Int) ≤ (0 : Int) ∧ (0 : Int) < ((t27.1.len : Nat) : Int)) ∧ ∃ a30, t27.1.a = some a30 ∧
 ∃ v31, hcell h28 (adr (adr a30 ((0 : Int).toNat * 3)) 0) = some (.string v31) ∧
 ∃ v32, hcell h28 (adr (adr a30 ((0 : Int).toNat * 3)) 1) = some (.string v32) ∧
 ∃ v33, hcell h28 (adr (adr a30 ((0 : Int).toNat * 3)) 2) = some (.int .u64 v33) ∧
 ((HV PG v29 [.agg #[.string v31, .string v32, .int .u64 v33]] [.c (.int .i64)] (fun (e34 : Int) h35 =>
 At (hnew h35 [.int .i64 0] t_int) (fun h36 =>
 (Wr h36 (newA h35) ∧
 At (hset h36 (newA h35) (.int .i64 e34)) (fun h37 =>
 HC PG f_slices_IndexFunc_A_build_hashed_build_hashed [.slice t27.1.a t27.1.len t27.1.cap, .func (.func f_build_trie_3) #[] #[.pointer (some (newA h1)), .pointer (some (newA h35))]] [.c (.int .i64)] (fun (e38 : Int) h39 =>
 Join (fun (t41 : Int) h42 =>
 Join (fun (t56 : Option Addr) h57 =>
 (((0 : Int) ≤ t41 ∧ t41 ≤ ((t27.1.len : Nat) : Int)) ∧
 I26 (⟨subAddr t27.1.a t41.toNat t27.1.cap 3, t27.1.len - t41.toNat, t27.1.cap - t41.toNat⟩, t56) h57)) (fun J43 =>
 CondP (t41 == (1 : Int)) (
 ∃ v44, hcell h42 (newA h35) = some (.int .i64 v44) ∧
 (((0 : Int) ≤ (0 : Int) ∧ (0 : Int) < ((t27.1.len : Nat) : Int)) ∧ ∃ a45, t27.1.a = some a45 ∧
 ∃ v46, hcell h42 (adr (adr (adr a45 ((0 : Int).toNat * 3)) 0) 0) = some (.string v46) ∧
 ∃ v47, hcell h42 (adr (adr (adr a45 ((0 : Int).toNat * 3)) 0) 1) = some (.string v47) ∧
 HC PG f_node_Node_SetPair [.pointer t27.2, .pointer none, .int .i64 v44, .agg #[.string v46, .string v47]] [.c .ptr] (fun (e48 : Option Addr) h49 =>
 J43 e48 h49) h42)) (
 ∃ v50, hcell h42 (newA h35) = some (.int .i64 v50) ∧
 (((0 : Int) ≤ t41 ∧ t41 ≤ ((t27.1.cap : Nat) : Int)) ∧
 ∃ v51, hcell h42 (newA h0) = some (.int .i64 v51) ∧
 HC PG f_build_trie [.slice (subAddr t27.1.a 0 t27.1.cap 3) (t41.toNat - 0) (t27.1.cap - 0), .int .i64 (IntKind.wrap .i64 (v51 + 1))] [.c .ptr] (fun (e52 : Option Addr) h53 =>
 (hcell h53 (newA h0) = some (.int .i64 v51) ∧
 (hcell h53 (newA h35) = some (.int .i64 v50) ∧
 HC PG f_node_Node_SetKid [.pointer t27.2, .pointer none, .int .i64 v50, .pointer e52] [.c .ptr] (fun (e54 : Option Addr) h55 =>
 (hcell h55 (newA h0) = some (.int .i64 v51) ∧
 J43 e54 h55)) h53))) h42)))) (fun J40 =>
 CondP (decide (e38 < (0 : Int))) (
 J40 (t27.1.len : Int) h39) (
 J40 e38 h39))) h37)))) h28) ∧
 At (hnew h28 [.int .i64 0] t_int) (fun h58 =>
 ((hcell h58 (adr (adr a30 ((0 : Int).toNat * 3)) 0) = some (.string v31) ∧ hcell h58 (adr (adr a30 ((0 : Int).toNat * 3)) 1) = some (.string v32) ∧ hcell h58 (adr (adr a30 ((0 : Int).toNat * 3)) 2) = some (.int .u64 v33)) ∧
 (hcell h58 (newA h1) = some (v29) ∧
 HV PG v29 [.agg #[.string v31, .string v32, .int .u64 v33]] [.c (.int .i64)] (fun (e59 : Int) h60 =>
 (Wr h60 (newA h28) ∧
 At (hset h60 (newA h28) (.int .i64 e59)) (fun h61 =>
 HC PG f_slices_IndexFunc_A_build_hashed_build_hashed [.slice t27.1.a t27.1.len t27.1.cap, .func (.func f_build_trie_3) #[] #[.pointer (some (newA h1)), .pointer (some (newA h28))]] [.c (.int .i64)] (fun (e62 : Int) h63 =>
 Join (fun (t65 : Int) h66 =>
 Join (fun (t80 : Option Addr) h81 =>
 (((0 : Int) ≤ t65 ∧ t65 ≤ ((t27.1.len : Nat) : Int)) ∧
 I26 (⟨subAddr t27.1.a t65.toNat t27.1.cap 3, t27.1.len - t65.toNat, t27.1.cap - t65.toNat⟩, t80) h81)) (fun J67 =>
 CondP (t65 == (1 : Int)) (
 ∃ v68, hcell h66 (newA h28) = some (.int .i64 v68) ∧
 (((0 : Int) ≤ (0 : Int) ∧ (0 : Int) < ((t27.1.len : Nat) : Int)) ∧ ∃ a69, t27.1.a = some a69 ∧
 ∃ v70, hcell h66 (adr (adr (adr a69 ((0 : Int).toNat * 3)) 0) 0) = some (.string v70) ∧
 ∃ v71, hcell h66 (adr (adr (adr a69 ((0 : Int).toNat * 3)) 0) 1) = some (.string v71) ∧
 HC PG f_node_Node_SetPair [.pointer t27.2, .pointer none, .int .i64 v68, .agg #[.string v70, .string v71]] [.c .ptr] (fun (e72 : Option Addr) h73 =>
 J67 e72 h73) h66)) (
 ∃ v74, hcell h66 (newA h28) = some (.int .i64 v74) ∧
 (((0 : Int) ≤ t65 ∧ t65 ≤ ((t27.1.cap : Nat) : Int)) ∧
 ∃ v75, hcell h66 (newA h0) = some (.int .i64 v75) ∧
 HC PG f_build_trie [.slice (subAddr t27.1.a 0 t27.1.cap 3) (t65.toNat - 0) (t27.1.cap - 0), .int .i64 (IntKind.wrap .i64 (v75 + 1))] [.c .ptr] (fun (e76 : Option Addr) h77 =>
 (hcell h77 (newA h0) = some (.int .i64 v75) ∧
 (hcell h77 (newA h28) = some (.int .i64 v74) ∧
 HC PG f_node_Node_SetKid [.pointer t27.2, .pointer none, .int .i64 v74, .pointer e76] [.c .ptr] (fun (e78 : Option Addr) h79 =>
 (hcell h79 (newA h0) = some (.int .i64 v75) ∧
 J67 e78 h79)) h77))) h66)))) (fun J64 =>
 CondP (decide (e62 < (0 : Int))) (
 J64 (t27.1.len : Int) h63) (
 J64 e62 h63))) h61))) h58)))))) (
 K t27.2 h28)) (e20, e24) h25) h23) h21) h19)))))
def A_build_trie : Ann := .node (.reg [0, 3] (.nil)) (.node (.node (.reg [0, 3, 13] (.nil)) (.node (.node (.reg [0, 5] (.nil)) (.node (.node (.reg [5, 15, 16, 17] (.nil)) (.loop [15, 16] [(5, .c .ptr), (17, .c (.int .i64))] (.node (.reg [5, 15, 16, 17, 18] (.nil)) (.node (.nil) (.node (.node (.reg [5, 7, 15, 16, 17] (.nil)) (.reg [5, 15, 16, 17] (.nil))) (.reg [5, 15, 16, 17] (.nil))))))) (.node (.reg [4] (.nil)) (.nil)))) (.nil))) (.node (.reg [0, 3, 8] (.nil)) (.node (.reg [0, 3, 8] (.nil)) (.node (.reg [0, 3, 8] (.nil)) (.node (.reg [0, 3, 8, 9] (.nil)) (.node (.loop [3, 8] [(0, .c .slice), (9, .c .ptr)] (.node (.node (.reg [0, 3, 8, 9, 36] (.nil)) (.nil)) (.node (.reg [0, 3, 8, 9, 10] (.draw [.mk 0 127 256 137438953472, .mk 0 127 1 274877906944, .mk 2 125 274877906944 549755813888, .mk 4 123 549755813888 1099511627776, .mk 9 118 1236950581248 2199023255552, .mk 0 127 0 1024, .mk 63 79 2199023256576 0] (.take 0 (.take 1 (.take 2 (.take 3 (.all (.pick 4 (.all (.last 5 (.all (.last 6 (.done))))) (.last 5 (.all (.last 4 (.all (.last 6 (.done)))))))))))))) (.node (.reg [0, 3, 8, 9, 10, 11] (.nil)) (.join [0, 3, 8, 9, 10] [(11, .c (.int .i64))] (.node (.reg [0, 3, 8, 9, 10, 11, 46] (.nil)) (.node (.reg [0, 3, 8, 9, 10, 11] (.nil)) (.nil))) (.join [0, 3, 8, 11] [(9, .c .ptr)] (.node (.reg [0, 3, 8, 9, 10, 11, 50] (.nil)) (.node (.reg [0, 3, 8, 9, 11] (.draw [.mk 0 255 512 2251799813685248, .mk 0 255 1024 4503599627370496, .mk 0 255 1 9007199254740992, .mk 4 251 9007199254740992 18014398509481984, .mk 8 247 18014398509481984 36028797018963968, .mk 16 239 36028797018963968 72057594037927936, .mk 35 220 78812993478983680 144115188075855872, .mk 127 190 144115188075855872 512] (.take 0 (.take 1 (.take 2 (.take 3 (.take 4 (.take 5 (.all (.last 6 (.take 7 (.done)))))))))))) (.reg [0, 3, 8, 9, 11] (.draw [.mk 0 1023 512 288230376151711744, .mk 0 1023 1024 576460752303423488, .mk 0 1023 1 1152921504606846976, .mk 0 1023 2048 2305843009213693952, .mk 12 1011 3458764513820540928 4611686018427387904, .mk 0 1023 8 9223372036854775808, .mk 32 991 9223372036854775808 18446744073709551616, .mk 80 943 23058430092136939520 36893488147419103232, .mk 131 892 37758179275874238464 73786976294838206464, .mk 511 766 73786976294838206464 512] (.take 0 (.take 1 (.take 2 (.take 3 (.take 4 (.take 5 (.take 6 (.all (.last 7 (.all (.last 8 (.take 9 (.done))))))))))))))))) (.reg [0, 3, 8, 9] (.nil)))))))) (.node (.reg [4] (.nil)) (.nil))))))))
theorem H_build_trie (x0 : SliceV) (x1 : Int) {K : Tup [.c .ptr] → Heap → Prop} {h0 : Heap} (h : F_build_trie x0 x1 K h0) : HC PG f_build_trie [.slice x0.a x0.len x0.cap, .int .i64 x1] [.c .ptr] K h0 := HC.intro (an := A_build_trie) (c := Tryz.f34.body.getD .skip) Tryz.mixed Tryz.func34 rfl Tryz.call34 (Nat.le_of_ble_eq_true rfl) (cst (by kernel_rfl) h)
def F_radix_Empty  (K : (Option Addr) → Heap → Prop) (h0 : Heap) : Prop :=
 At (hnew h0 [.string (⟨#[]⟩ : ByteArray), .bool false, .string (⟨#[]⟩ : ByteArray), .slice none 0 0, .pointer none] t_radix_Node) (fun h1 =>
 K (some (newA h0)) h1)
def A_radix_Empty : Ann := .node (.reg [] (.nil)) (.node (.reg [0] (.nil)) (.nil))
theorem H_radix_Empty  {K : Tup [.c .ptr] → Heap → Prop} {h0 : Heap} (h : F_radix_Empty  K h0) : HC PG f_radix_Empty [] [.c .ptr] K h0 := HC.intro (an := A_radix_Empty) (c := Tryz.f35.body.getD .skip) Tryz.mixed Tryz.func35 rfl Tryz.call35 (Nat.le_of_ble_eq_true rfl) (cst (by kernel_rfl) h)
def F_radix_Make (x0 : ByteArray) (x1 : Bool) (x2 : ByteArray) (x3 : SliceV) (K : (Option Addr) → Heap → Prop) (h0 : Heap) : Prop :=
 At (hnew h0 [.string x0, .bool x1, .string (⟨#[]⟩ : ByteArray), .slice none 0 0, .pointer none] t_radix_Node) (fun h1 =>
 Join (fun (t5 : Unit) h6 =>
 LoopP (fun I7 (t8 : Int) h9 =>
 CondP (decide (t8 < (x3.len : Int))) (
 Join (fun (t21 : Unit) h22 =>
 I7 (IntKind.wrap .i64 (t8 + 1)) h22) (fun J10 =>
 (((0 : Int) ≤ t8 ∧ t8 < ((x3.len : Nat) : Int)) ∧ ∃ a11, x3.a = some a11 ∧
 ∃ v12, hcell h9 (adr a11 (t8.toNat * 1)) = some (.pointer v12) ∧
 CondP (!(v12.isNone)) (
 ∃ a13, some (newA h0) = some a13 ∧
 ∃ v14 : SliceV, hcell h9 (adr a13 3) = some (.slice v14.a v14.len v14.cap) ∧
 At (hnew h9 [.pointer v12] t_P_radix_Node) (fun h15 =>
 ∃ xs16, SRow h15 (some (newA h9)) (1 * 1) xs16 ∧
 AppP (some [.pointer none]) 1 8 t_P_radix_Node v14.a v14.len v14.cap 1 xs16 h15 (fun s17 h18 =>
 ∃ a19, some (newA h0) = some a19 ∧
 (Wr h18 (adr a19 3) ∧
 At (hset h18 (adr a19 3) (.slice s17.a s17.len s17.cap)) (fun h20 =>
 J10 () h20))))) (
 J10 () h9)))) (
 K (some (newA h0)) h9)) 0 h6) (fun J2 =>
 CondP x1 (
 ∃ a3, some (newA h0) = some a3 ∧
 (Wr h1 (adr a3 2) ∧
 At (hset h1 (adr a3 2) (.string x2)) (fun h4 =>
 J2 () h4))) (
 J2 () h1)))
def A_radix_Make : Ann := .node (.reg [0, 1, 2, 3] (.nil)) (.node (.reg [1, 2, 3, 9] (.nil)) (.join [3, 9] [] (.node (.reg [2, 3, 9, 16] (.nil)) (.node (.reg [3, 9] (.nil)) (.nil))) (.node (.node (.reg [9, 21, 22, 23] (.nil)) (.loop [9, 21, 22] [(23, .c (.int .i64))] (.node (.reg [9, 21, 22, 23, 24] (.nil)) (.node (.nil) (.join [9, 21, 22, 23] [] (.node (.reg [9, 11, 21, 22, 23] (.nil)) (.node (.reg [9, 11, 21, 22, 23, 28] (.nil)) (.node (.reg [9, 21, 22, 23] (.nil)) (.nil)))) (.reg [9, 21, 22, 23] (.nil))))))) (.node (.reg [8] (.nil)) (.nil)))))
theorem H_radix_Make (x0 : ByteArray) (x1 : Bool) (x2 : ByteArray) (x3 : SliceV) {K : Tup [.c .ptr] → Heap → Prop} {h0 : Heap} (h : F_radix_Make x0 x1 x2 x3 K h0) : HC PG f_radix_Make [.string x0, .bool x1, .string x2, .slice x3.a x3.len x3.cap] [.c .ptr] K h0 := HC.intro (an := A_radix_Make) (c := Tryz.f36.body.getD .skip) Tryz.mixed Tryz.func36 rfl Tryz.call36 (Nat.le_of_ble_eq_true rfl) (cst (by kernel_rfl) h)
def F_build_kids (x0 : SliceV) (x1 : Int) (K : (SliceV) → Heap → Prop) (h0 : Heap) : Prop :=
 At (hnew h0 [.int .i64 x1] t_int) (fun h1 =>
 LoopP (fun I2 (t3 : SliceV × SliceV) h4 =>
 CondP (decide ((t3.1.len : Int) > (0 : Int))) (
 (((0 : Int) ≤ (0 : Int) ∧ (0 : Int) < ((t3.1.len : Nat) : Int)) ∧ ∃ a5, t3.1.a = some a5 ∧
 ∃ v6, hcell h4 (adr (adr a5 ((0 : Int).toNat * 2)) 0) = some (.string v6) ∧
 ∃ v7, hcell h4 (newA h0) = some (.int .i64 v7) ∧
 ∃ b8, (0 : Int) ≤ v7 ∧ v6[v7.toNat]? = some b8 ∧
 At (hnew h4 [.int .u8 0] t_u8) (fun h9 =>
 (hcell h9 (newA h0) = some (.int .i64 v7) ∧
 (hcell h9 (adr (adr a5 ((0 : Int).toNat * 2)) 0) = some (.string v6) ∧
 (Wr h9 (newA h4) ∧
 At (hset h9 (newA h4) (.int .u8 (b8.toNat : Int))) (fun h10 =>
 HC PG f_slices_IndexFunc_A_pair_Pair_pair_Pair [.slice t3.1.a t3.1.len t3.1.cap, .func (.func f_build_kids_1) #[] #[.pointer (some (newA h0)), .pointer (some (newA h4))]] [.c (.int .i64)] (fun (e11 : Int) h12 =>
 Join (fun (t14 : Int) h15 =>
 Join (fun (t24 : SliceV) h25 =>
 (((0 : Int) ≤ t14 ∧ t14 ≤ ((t3.1.len : Nat) : Int)) ∧
 I2 (⟨subAddr t3.1.a t14.toNat t3.1.cap 2, t3.1.len - t14.toNat, t3.1.cap - t14.toNat⟩, t24) h25)) (fun J16 =>
 (((0 : Int) ≤ t14 ∧ t14 ≤ ((t3.1.cap : Nat) : Int)) ∧
 ∃ v17, hcell h15 (newA h0) = some (.int .i64 v17) ∧
 HC PG f_build_branch [.slice (subAddr t3.1.a 0 t3.1.cap 2) (t14.toNat - 0) (t3.1.cap - 0), .int .i64 v17] [.c .ptr] (fun (e18 : Option Addr) h19 =>
 At (hnew h19 [.pointer e18] t_P_radix_Node) (fun h20 =>
 ∃ xs21, SRow h20 (some (newA h19)) (1 * 1) xs21 ∧
 AppP (some [.pointer none]) 1 8 t_P_radix_Node t3.2.a t3.2.len t3.2.cap 1 xs21 h20 (fun s22 h23 =>
 J16 s22 h23))) h15))) (fun J13 =>
 CondP (decide (e11 < (0 : Int))) (
 J13 (t3.1.len : Int) h12) (
 J13 e11 h12))) h10))))))) (
 K t3.2 h4)) (x0, ⟨none, 0, 0⟩) h1)
def A_build_kids : Ann := .node (.reg [0, 3] (.nil)) (.node (.reg [0, 3, 5] (.nil)) (.node (.loop [3] [(0, .c .slice), (5, .c .slice)] (.node (.node (.reg [0, 3, 5, 10] (.nil)) (.nil)) (.node (.reg [0, 3, 5, 6] (.draw [.mk 0 255 1 2048, .mk 1 254 2048 4096, .mk 2 253 4096 8192, .mk 4 251 8192 16384, .mk 0 255 8 32768, .mk 24 231 49152 65536, .mk 0 255 0 64, .mk 127 159 65600 0] (.take 0 (.take 1 (.take 2 (.take 3 (.take 4 (.take 5 (.all (.last 6 (.all (.last 7 (.done))))))))))))) (.node (.reg [0, 3, 5, 7] (.nil)) (.join [0, 3, 5] [(7, .c (.int .i64))] (.node (.reg [0, 3, 5, 7, 21] (.nil)) (.node (.reg [0, 3, 5, 7] (.nil)) (.nil))) (.join [0, 3, 7] [(5, .c .slice)] (.reg [0, 3, 5, 7] (.draw [.mk 0 511 32 16777216, .mk 0 511 1 33554432, .mk 0 511 128 67108864, .mk 6 505 100663296 134217728, .mk 0 511 8 268435456, .mk 24 487 402653184 536870912, .mk 32 479 536870912 1073741824, .mk 97 446 1090519040 2147483648, .mk 255 382 2147483648 32] (.take 0 (.take 1 (.take 2 (.take 3 (.take 4 (.all (.last 5 (.all (.last 6 (.all (.last 7 (.take 8 (.done))))))))))))))) (.reg [0, 3, 5] (.nil)))))))) (.node (.reg [4] (.nil)) (.nil))))
theorem H_build_kids (x0 : SliceV) (x1 : Int) {K : Tup [.c .slice] → Heap → Prop} {h0 : Heap} (h : F_build_kids x0 x1 K h0) : HC PG f_build_kids [.slice x0.a x0.len x0.cap, .int .i64 x1] [.c .slice] K h0 := HC.intro (an := A_build_kids) (c := Tryz.f37.body.getD .skip) Tryz.mixed Tryz.func37 rfl Tryz.call37 (Nat.le_of_ble_eq_true rfl) (cst (by kernel_rfl) h)
def F_slices_Clone_A_pair_Pair_pair_Pair (x0 : SliceV) (K : (SliceV) → Heap → Prop) (h0 : Heap) : Prop :=
 CondP x0.a.isNone (
 K ⟨none, 0, 0⟩ h0) (
 At (hnew h0 [] t_pair_Pair) (fun h1 =>
 ∃ xs2, SRow h1 x0.a (x0.len * 2) xs2 ∧
 AppP (some [.string (⟨#[]⟩ : ByteArray), .string (⟨#[]⟩ : ByteArray)]) 2 32 t_pair_Pair (some (newA h0)) 0 0 x0.len xs2 h1 (fun s3 h4 =>
 K s3 h4)))
def A_slices_Clone_A_pair_Pair_pair_Pair : Ann := .node (.reg [0] (.nil)) (.node (.node (.reg [0, 4] (.nil)) (.node (.node (.reg [2] (.nil)) (.nil)) (.nil))) (.node (.reg [2] (.nil)) (.nil)))
theorem H_slices_Clone_A_pair_Pair_pair_Pair (x0 : SliceV) {K : Tup [.c .slice] → Heap → Prop} {h0 : Heap} (h : F_slices_Clone_A_pair_Pair_pair_Pair x0 K h0) : HC PG f_slices_Clone_A_pair_Pair_pair_Pair [.slice x0.a x0.len x0.cap] [.c .slice] K h0 := HC.intro (an := A_slices_Clone_A_pair_Pair_pair_Pair) (c := Tryz.f38.body.getD .skip) Tryz.mixed Tryz.func38 rfl Tryz.call38 (Nat.le_of_ble_eq_true rfl) (cst (by kernel_rfl) h)
def F_slices_SortStableFunc_A_pair_Pair_pair_Pair (x0 : SliceV) (x1 : Value) (K : (Unit) → Heap → Prop) (h0 : Heap) : Prop :=
 HC PG f_slices_stableCmpFunc_pair_Pair [.slice x0.a x0.len x0.cap, .int .i64 (x0.len : Int), x1] [] (fun (e1 : Unit) h2 =>
 K () h2) h0
def A_slices_SortStableFunc_A_pair_Pair_pair_Pair : Ann := .reg [] (.nil)
theorem H_slices_SortStableFunc_A_pair_Pair_pair_Pair (x0 : SliceV) (x1 : Value) {K : Tup [] → Heap → Prop} {h0 : Heap} (h : F_slices_SortStableFunc_A_pair_Pair_pair_Pair x0 x1 K h0) : HC PG f_slices_SortStableFunc_A_pair_Pair_pair_Pair [.slice x0.a x0.len x0.cap, x1] [] K h0 := HC.intro (an := A_slices_SortStableFunc_A_pair_Pair_pair_Pair) (c := Tryz.f39.body.getD .skip) Tryz.mixed Tryz.func39 rfl Tryz.call39 (Nat.le_of_ble_eq_true rfl) (cst (by kernel_rfl) h)
def F_pair_Sorted_1 (x0 : ByteArray × ByteArray) (x1 : ByteArray × ByteArray) (K : (Int) → Heap → Prop) (h0 : Heap) : Prop :=
 At (hnew h0 [.string x0.1, .string x0.2] t_pair_Pair) (fun h1 =>
 At (hnew h1 [.string x1.1, .string x1.2] t_pair_Pair) (fun h2 =>
 ∃ v3, hcell h2 (adr (newA h0) 0) = some (.string v3) ∧
 ∃ v4, hcell h2 (adr (newA h0) 1) = some (.string v4) ∧
 ∃ v5, hcell h2 (adr (newA h1) 0) = some (.string v5) ∧
 HC PG f_pair_order [.agg #[.string v3, .string v4], .string v5] [.c (.int .i64)] (fun (e6 : Int) h7 =>
 K e6 h7) h2))
def A_pair_Sorted_1 : Ann := .node (.reg [2, 3] (.nil)) (.node (.reg [4] (.nil)) (.nil))
theorem H_pair_Sorted_1 (x0 : ByteArray × ByteArray) (x1 : ByteArray × ByteArray) {K : Tup [.c (.int .i64)] → Heap → Prop} {h0 : Heap} (h : F_pair_Sorted_1 x0 x1 K h0) : HC PG f_pair_Sorted_1 [.agg #[.string x0.1, .string x0.2], .agg #[.string x1.1, .string x1.2]] [.c (.int .i64)] K h0 := HC.intro (an := A_pair_Sorted_1) (c := Tryz.f40.body.getD .skip) Tryz.mixed Tryz.func40 rfl Tryz.call40 (Nat.le_of_ble_eq_true rfl) (cst (by kernel_rfl) h)
def F_pair_order (x0 : ByteArray × ByteArray) (x1 : ByteArray) (K : (Int) → Heap → Prop) (h0 : Heap) : Prop :=
 At (hnew h0 [.string x0.1, .string x0.2] t_pair_Pair) (fun h1 =>
 ∃ v2, hcell h1 (adr (newA h0) 0) = some (.string v2) ∧
 HC PG f_cmp_Compare_str [.string v2, .string x1] [.c (.int .i64)] (fun (e3 : Int) h4 =>
 K e3 h4) h1)
def A_pair_order : Ann := .node (.reg [1, 2] (.nil)) (.node (.reg [4] (.nil)) (.nil))
theorem H_pair_order (x0 : ByteArray × ByteArray) (x1 : ByteArray) {K : Tup [.c (.int .i64)] → Heap → Prop} {h0 : Heap} (h : F_pair_order x0 x1 K h0) : HC PG f_pair_order [.agg #[.string x0.1, .string x0.2], .string x1] [.c (.int .i64)] K h0 := HC.intro (an := A_pair_order) (c := Tryz.f41.body.getD .skip) Tryz.mixed Tryz.func41 rfl Tryz.call41 (Nat.le_of_ble_eq_true rfl) (cst (by kernel_rfl) h)
def F_slices_Equal_A_pair_Pair_pair_Pair (x0 : SliceV) (x1 : SliceV) (K : (Bool) → Heap → Prop) (h0 : Heap) : Prop :=
 CondP ((x0.len : Int) != (x1.len : Int)) (
 K false h0) (
 LoopP (fun I1 (t2 : Int) h3 =>
 CondP (decide (t2 < (x0.len : Int))) (
 (((0 : Int) ≤ t2 ∧ t2 < ((x0.len : Nat) : Int)) ∧ ∃ a4, x0.a = some a4 ∧
 ∃ v5, hcell h3 (adr (adr a4 (t2.toNat * 2)) 0) = some (.string v5) ∧
 ∃ v6, hcell h3 (adr (adr a4 (t2.toNat * 2)) 1) = some (.string v6) ∧
 (((0 : Int) ≤ t2 ∧ t2 < ((x1.len : Nat) : Int)) ∧ ∃ a7, x1.a = some a7 ∧
 ∃ v8, hcell h3 (adr (adr a7 (t2.toNat * 2)) 0) = some (.string v8) ∧
 ∃ v9, hcell h3 (adr (adr a7 (t2.toNat * 2)) 1) = some (.string v9) ∧
 CondP (!(((v5.toList == v8.toList) && ((v6.toList == v9.toList) && true)))) (
 K false h3) (
 I1 (IntKind.wrap .i64 (t2 + 1)) h3)))) (
 K true h3)) 0 h0)
def A_slices_Equal_A_pair_Pair_pair_Pair : Ann := .node (.reg [0, 1] (.nil)) (.node (.node (.reg [0, 1, 10] (.nil)) (.node (.node (.reg [4] (.nil)) (.nil)) (.nil))) (.node (.node (.reg [0, 1, 12, 13] (.nil)) (.loop [0, 1, 12] [(13, .c (.int .i64))] (.node (.reg [0, 1, 12, 13, 14] (.nil)) (.node (.nil) (.node (.node (.reg [0, 1, 5, 12, 13] (.nil)) (.node (.reg [0, 1, 12, 13, 24] (.draw [.mk 0 511 1 65536, .mk 0 511 32 131072, .mk 3 508 196608 262144, .mk 4 507 262144 524288, .mk 0 511 2 1048576, .mk 0 511 32 2097152, .mk 48 463 3145728 4194304, .mk 64 447 4194304 8388608, .mk 136 375 8912896 16777216] (.take 0 (.take 1 (.take 2 (.take 3 (.take 4 (.take 5 (.take 6 (.take 7 (.take 8 (.done)))))))))))) (.node (.node (.reg [4] (.nil)) (.nil)) (.nil)))) (.reg [0, 1, 12, 13] (.nil))))))) (.node (.reg [4] (.nil)) (.nil))))
theorem H_slices_Equal_A_pair_Pair_pair_Pair (x0 : SliceV) (x1 : SliceV) {K : Tup [.c .bool] → Heap → Prop} {h0 : Heap} (h : F_slices_Equal_A_pair_Pair_pair_Pair x0 x1 K h0) : HC PG f_slices_Equal_A_pair_Pair_pair_Pair [.slice x0.a x0.len x0.cap, .slice x1.a x1.len x1.cap] [.c .bool] K h0 := HC.intro (an := A_slices_Equal_A_pair_Pair_pair_Pair) (c := Tryz.f42.body.getD .skip) Tryz.mixed Tryz.func42 rfl Tryz.call42 (Nat.le_of_ble_eq_true rfl) (cst (by kernel_rfl) h)
def F_span_Pairs (x0 : Option Addr) (x1 : ByteArray × ByteArray × Bool) (K : (SliceV) → Heap → Prop) (h0 : Heap) : Prop :=
 At (hnew h0 [.string x1.1, .string x1.2.1, .bool x1.2.2] t_span_Span) (fun h1 =>
 ∃ v2, hcell h1 (adr (newA h0) 0) = some (.string v2) ∧
 ∃ v3, hcell h1 (adr (newA h0) 1) = some (.string v3) ∧
 ∃ v4, hcell h1 (adr (newA h0) 2) = some (.bool v4) ∧
 HC PG f_span_Each [.pointer x0, .agg #[.string v2, .string v3, .bool v4], .bool false] [.c .raw] (fun (e5 : Value) h6 =>
 HC PG f_slices_Collect_pair_Pair [e5] [.c .slice] (fun (e7 : SliceV) h8 =>
 K e7 h8) h6) h1)
def A_span_Pairs : Ann := .node (.reg [0, 3] (.nil)) (.node (.reg [4] (.nil)) (.nil))
theorem H_span_Pairs (x0 : Option Addr) (x1 : ByteArray × ByteArray × Bool) {K : Tup [.c .slice] → Heap → Prop} {h0 : Heap} (h : F_span_Pairs x0 x1 K h0) : HC PG f_span_Pairs [.pointer x0, .agg #[.string x1.1, .string x1.2.1, .bool x1.2.2]] [.c .slice] K h0 := HC.intro (an := A_span_Pairs) (c := Tryz.f43.body.getD .skip) Tryz.mixed Tryz.func43 rfl Tryz.call43 (Nat.le_of_ble_eq_true rfl) (cst (by kernel_rfl) h)
def F_span_All  (K : (ByteArray × ByteArray × Bool) → Heap → Prop) (h0 : Heap) : Prop :=
 At (hnew h0 [.string (⟨#[]⟩ : ByteArray), .string (⟨#[]⟩ : ByteArray), .bool false] t_span_Span) (fun h1 =>
 (WrS h1 (some (newA h0)) 0 [.string (⟨#[]⟩ : ByteArray), .string (⟨#[]⟩ : ByteArray), .bool true] ∧
 At (hsetL h1 (newA h0) 0 [.string (⟨#[]⟩ : ByteArray), .string (⟨#[]⟩ : ByteArray), .bool true]) (fun h2 =>
 ∃ v3, hcell h2 (adr (newA h0) 0) = some (.string v3) ∧
 ∃ v4, hcell h2 (adr (newA h0) 1) = some (.string v4) ∧
 ∃ v5, hcell h2 (adr (newA h0) 2) = some (.bool v5) ∧
 K (v3, v4, v5) h2)))
def A_span_All : Ann := .node (.reg [0] (.nil)) (.node (.reg [0] (.nil)) (.nil))
theorem H_span_All  {K : Tup [.agg [.str, .str, .bool]] → Heap → Prop} {h0 : Heap} (h : F_span_All  K h0) : HC PG f_span_All [] [.agg [.str, .str, .bool]] K h0 := HC.intro (an := A_span_All) (c := Tryz.f44.body.getD .skip) Tryz.mixed Tryz.func44 rfl Tryz.call44 (Nat.le_of_ble_eq_true rfl) (cst (by kernel_rfl) h)
def F_walk_Sorted (x0 : Option Addr) (K : (SliceV) → Heap → Prop) (h0 : Heap) : Prop :=
 HC PG f_walk_All [.pointer x0] [.c .raw] (fun (e1 : Value) h2 =>
 HC PG f_slices_Collect_pair_Pair [e1] [.c .slice] (fun (e3 : SliceV) h4 =>
 HC PG f_pair_Sorted [.slice e3.a e3.len e3.cap] [.c .slice] (fun (e5 : SliceV) h6 =>
 K e5 h6) h4) h2) h0
def A_walk_Sorted : Ann := .node (.reg [0] (.nil)) (.node (.reg [2] (.nil)) (.nil))
theorem H_walk_Sorted (x0 : Option Addr) {K : Tup [.c .slice] → Heap → Prop} {h0 : Heap} (h : F_walk_Sorted x0 K h0) : HC PG f_walk_Sorted [.pointer x0] [.c .slice] K h0 := HC.intro (an := A_walk_Sorted) (c := Tryz.f45.body.getD .skip) Tryz.mixed Tryz.func45 rfl Tryz.call45 (Nat.le_of_ble_eq_true rfl) (cst (by kernel_rfl) h)
def F_radix_Put (x0 : Option Addr) (x1 : Option Addr) (x2 : ByteArray × ByteArray) (K : ((Option Addr) × Bool) → Heap → Prop) (h0 : Heap) : Prop :=
 At (hnew h0 [.string x2.1, .string x2.2] t_pair_Pair) (fun h1 =>
 ∃ v2, hcell h1 (adr (newA h0) 0) = some (.string v2) ∧
 ∃ v3, hcell h1 (adr (newA h0) 1) = some (.string v3) ∧
 HC PG f_radix_some [.pointer x1] [.c .ptr] (fun (e4 : Option Addr) h5 =>
 (hcell h5 (adr (newA h0) 1) = some (.string v3) ∧
 (hcell h5 (adr (newA h0) 0) = some (.string v2) ∧
 HC PG f_radix_Node_put [.pointer e4, .pointer x0, .string v2, .string v3] [.c .ptr, .c .bool, .c .bool] (fun (e6 : (Option Addr) × Bool × Bool) h7 =>
 K (e6.1, e6.2.1) h7) h5))) h1)
def A_radix_Put : Ann := .node (.reg [0, 1, 5] (.nil)) (.node (.reg [8, 9] (.draw [.mk 0 32767 2 4096, .mk 1 32766 4096 8192, .mk 0 32767 1 16384, .mk 0 32767 32 32768, .mk 8 32759 32768 65536, .mk 0 32767 32 131072, .mk 32 32735 131072 262144, .mk 86 32681 352256 524288, .mk 128 32639 524288 2048, .mk 256 32511 2048 1048576, .mk 256 32511 2048 2097152, .mk 256 32511 2048 4194304, .mk 1023 32255 1048576 256, .mk 6143 31743 2097152 512, .mk 16383 30719 4194304 1024] (.take 0 (.take 2 (.take 3 (.take 4 (.take 5 (.take 6 (.all (.last 1 (.all (.last 7 (.take 8 (.take 9 (.take 10 (.take 11 (.take 12 (.take 13 (.take 14 (.done)))))))))))))))))))) (.node (.reg [6, 7] (.nil)) (.nil)))
theorem H_radix_Put (x0 : Option Addr) (x1 : Option Addr) (x2 : ByteArray × ByteArray) {K : Tup [.c .ptr, .c .bool] → Heap → Prop} {h0 : Heap} (h : F_radix_Put x0 x1 x2 K h0) : HC PG f_radix_Put [.pointer x0, .pointer x1, .agg #[.string x2.1, .string x2.2]] [.c .ptr, .c .bool] K h0 := HC.intro (an := A_radix_Put) (c := Tryz.f52.body.getD .skip) Tryz.mixed Tryz.func52 rfl Tryz.call52 (Nat.le_of_ble_eq_true rfl) (cst (by kernel_rfl) h)
def F_champ_Put (x0 : Int × Int × Int) (x1 : Option Addr) (x2 : Option Addr) (x3 : ByteArray × ByteArray) (K : ((Option Addr) × Bool) → Heap → Prop) (h0 : Heap) : Prop :=
 At (hnew h0 [.int .u64 x0.1, .int .u64 x0.2.1, .int .u64 x0.2.2] t_sip_Hasher) (fun h1 =>
 At (hnew h1 [.string x3.1, .string x3.2] t_pair_Pair) (fun h2 =>
 ∃ v3, hcell h2 (adr (newA h0) 0) = some (.int .u64 v3) ∧
 ∃ v4, hcell h2 (adr (newA h0) 1) = some (.int .u64 v4) ∧
 ∃ v5, hcell h2 (adr (newA h0) 2) = some (.int .u64 v5) ∧
 ∃ v6, hcell h2 (adr (newA h1) 0) = some (.string v6) ∧
 ∃ v7, hcell h2 (adr (newA h0) 0) = some (.int .u64 v7) ∧
 ∃ v8, hcell h2 (adr (newA h0) 1) = some (.int .u64 v8) ∧
 ∃ v9, hcell h2 (adr (newA h0) 2) = some (.int .u64 v9) ∧
 ∃ v10, hcell h2 (adr (newA h1) 0) = some (.string v10) ∧
 ((HC PG f_sip_Hasher_Hash [.agg #[.int .u64 v7, .int .u64 v8, .int .u64 v9], .string v10] [.c (.int .u64)] (fun (e11 : Int) h12 =>
 (hcell h12 (adr (newA h1) 0) = some (.string v6) ∧
 ((hcell h12 (adr (newA h0) 0) = some (.int .u64 v3) ∧ hcell h12 (adr (newA h0) 1) = some (.int .u64 v4) ∧ hcell h12 (adr (newA h0) 2) = some (.int .u64 v5)) ∧
 ((At (hnew h12 [.int .u64 0, .int .u64 0, .int .u64 0, .pointer none, .string (⟨#[]⟩ : ByteArray), .int .u64 0] t_champ_work) (fun h13 =>
 (WrS h13 (some (newA h12)) 0 [.int .u64 v3, .int .u64 v4, .int .u64 v5, .pointer x1, .string v6, .int .u64 e11] ∧
 At (hsetL h13 (newA h12) 0 [.int .u64 v3, .int .u64 v4, .int .u64 v5, .pointer x1, .string v6, .int .u64 e11]) (fun h14 =>
 ∃ v15, hcell h14 (adr (newA h12) 0) = some (.int .u64 v15) ∧
 ∃ v16, hcell h14 (adr (newA h12) 1) = some (.int .u64 v16) ∧
 ∃ v17, hcell h14 (adr (newA h12) 2) = some (.int .u64 v17) ∧
 ∃ v18, hcell h14 (adr (newA h12) 3) = some (.pointer v18) ∧
 ∃ v19, hcell h14 (adr (newA h12) 4) = some (.string v19) ∧
 ∃ v20, hcell h14 (adr (newA h12) 5) = some (.int .u64 v20) ∧
 ∃ v21, hcell h14 (adr (newA h1) 0) = some (.string v21) ∧
 ∃ v22, hcell h14 (adr (newA h1) 1) = some (.string v22) ∧
 HC PG f_champ_some [.pointer x2] [.c .ptr] (fun (e23 : Option Addr) h24 =>
 ((hcell h24 (adr (newA h1) 0) = some (.string v21) ∧ hcell h24 (adr (newA h1) 1) = some (.string v22)) ∧
 ((hcell h24 (adr (newA h12) 0) = some (.int .u64 v15) ∧ hcell h24 (adr (newA h12) 1) = some (.int .u64 v16) ∧ hcell h24 (adr (newA h12) 2) = some (.int .u64 v17) ∧ hcell h24 (adr (newA h12) 3) = some (.pointer v18) ∧ hcell h24 (adr (newA h12) 4) = some (.string v19) ∧ hcell h24 (adr (newA h12) 5) = some (.int .u64 v20)) ∧
 HC PG f_champ_work_put [.agg #[.int .u64 v15, .int .u64 v16, .int .u64 v17, .pointer v18, .string v19, .int .u64 v20], .pointer e23, .agg #[.string v21, .string v22], .int .i64 0] [.c .ptr, .c .bool, .c .bool] (fun (e25 : (Option Addr) × Bool × Bool) h26 =>
 K (e25.1, e25.2.1) h26) h24))) h14)))) ∧
 At (hnew h12 [.int .u64 0, .int .u64 0, .int .u64 0, .pointer none, .string (⟨#[]⟩ : ByteArray), .int .u64 0] t_champ_work) (fun h27 =>
 (hcell h27 (adr (newA h1) 0) = some (.string v6) ∧
 ((hcell h27 (adr (newA h0) 0) = some (.int .u64 v3) ∧ hcell h27 (adr (newA h0) 1) = some (.int .u64 v4) ∧ hcell h27 (adr (newA h0) 2) = some (.int .u64 v5)) ∧
 (WrS h27 (some (newA h12)) 0 [.int .u64 v3, .int .u64 v4, .int .u64 v5, .pointer x1, .string v6, .int .u64 e11] ∧
 At (hsetL h27 (newA h12) 0 [.int .u64 v3, .int .u64 v4, .int .u64 v5, .pointer x1, .string v6, .int .u64 e11]) (fun h28 =>
 ∃ v29, hcell h28 (adr (newA h12) 0) = some (.int .u64 v29) ∧
 ∃ v30, hcell h28 (adr (newA h12) 1) = some (.int .u64 v30) ∧
 ∃ v31, hcell h28 (adr (newA h12) 2) = some (.int .u64 v31) ∧
 ∃ v32, hcell h28 (adr (newA h12) 3) = some (.pointer v32) ∧
 ∃ v33, hcell h28 (adr (newA h12) 4) = some (.string v33) ∧
 ∃ v34, hcell h28 (adr (newA h12) 5) = some (.int .u64 v34) ∧
 ∃ v35, hcell h28 (adr (newA h1) 0) = some (.string v35) ∧
 ∃ v36, hcell h28 (adr (newA h1) 1) = some (.string v36) ∧
 HC PG f_champ_some [.pointer x2] [.c .ptr] (fun (e37 : Option Addr) h38 =>
 ((hcell h38 (adr (newA h1) 0) = some (.string v35) ∧ hcell h38 (adr (newA h1) 1) = some (.string v36)) ∧
 ((hcell h38 (adr (newA h12) 0) = some (.int .u64 v29) ∧ hcell h38 (adr (newA h12) 1) = some (.int .u64 v30) ∧ hcell h38 (adr (newA h12) 2) = some (.int .u64 v31) ∧ hcell h38 (adr (newA h12) 3) = some (.pointer v32) ∧ hcell h38 (adr (newA h12) 4) = some (.string v33) ∧ hcell h38 (adr (newA h12) 5) = some (.int .u64 v34)) ∧
 HC PG f_champ_work_put [.agg #[.int .u64 v29, .int .u64 v30, .int .u64 v31, .pointer v32, .string v33, .int .u64 v34], .pointer e37, .agg #[.string v35, .string v36], .int .i64 0] [.c .ptr, .c .bool, .c .bool] (fun (e39 : (Option Addr) × Bool × Bool) h40 =>
 K (e39.1, e39.2.1) h40) h38))) h28))))))))) h2) ∧
 At (hnew h2 [.int .u64 0, .int .u64 0, .int .u64 0, .pointer none, .string (⟨#[]⟩ : ByteArray), .int .u64 0] t_champ_work) (fun h41 =>
 (hcell h41 (adr (newA h1) 0) = some (.string v10) ∧
 ((hcell h41 (adr (newA h0) 0) = some (.int .u64 v7) ∧ hcell h41 (adr (newA h0) 1) = some (.int .u64 v8) ∧ hcell h41 (adr (newA h0) 2) = some (.int .u64 v9)) ∧
 (hcell h41 (adr (newA h1) 0) = some (.string v6) ∧
 ((hcell h41 (adr (newA h0) 0) = some (.int .u64 v3) ∧ hcell h41 (adr (newA h0) 1) = some (.int .u64 v4) ∧ hcell h41 (adr (newA h0) 2) = some (.int .u64 v5)) ∧
 HC PG f_sip_Hasher_Hash [.agg #[.int .u64 v7, .int .u64 v8, .int .u64 v9], .string v10] [.c (.int .u64)] (fun (e42 : Int) h43 =>
 (hcell h43 (adr (newA h1) 0) = some (.string v6) ∧
 ((hcell h43 (adr (newA h0) 0) = some (.int .u64 v3) ∧ hcell h43 (adr (newA h0) 1) = some (.int .u64 v4) ∧ hcell h43 (adr (newA h0) 2) = some (.int .u64 v5)) ∧
 (WrS h43 (some (newA h2)) 0 [.int .u64 v3, .int .u64 v4, .int .u64 v5, .pointer x1, .string v6, .int .u64 e42] ∧
 At (hsetL h43 (newA h2) 0 [.int .u64 v3, .int .u64 v4, .int .u64 v5, .pointer x1, .string v6, .int .u64 e42]) (fun h44 =>
 ∃ v45, hcell h44 (adr (newA h2) 0) = some (.int .u64 v45) ∧
 ∃ v46, hcell h44 (adr (newA h2) 1) = some (.int .u64 v46) ∧
 ∃ v47, hcell h44 (adr (newA h2) 2) = some (.int .u64 v47) ∧
 ∃ v48, hcell h44 (adr (newA h2) 3) = some (.pointer v48) ∧
 ∃ v49, hcell h44 (adr (newA h2) 4) = some (.string v49) ∧
 ∃ v50, hcell h44 (adr (newA h2) 5) = some (.int .u64 v50) ∧
 ∃ v51, hcell h44 (adr (newA h1) 0) = some (.string v51) ∧
 ∃ v52, hcell h44 (adr (newA h1) 1) = some (.string v52) ∧
 HC PG f_champ_some [.pointer x2] [.c .ptr] (fun (e53 : Option Addr) h54 =>
 ((hcell h54 (adr (newA h1) 0) = some (.string v51) ∧ hcell h54 (adr (newA h1) 1) = some (.string v52)) ∧
 ((hcell h54 (adr (newA h2) 0) = some (.int .u64 v45) ∧ hcell h54 (adr (newA h2) 1) = some (.int .u64 v46) ∧ hcell h54 (adr (newA h2) 2) = some (.int .u64 v47) ∧ hcell h54 (adr (newA h2) 3) = some (.pointer v48) ∧ hcell h54 (adr (newA h2) 4) = some (.string v49) ∧ hcell h54 (adr (newA h2) 5) = some (.int .u64 v50)) ∧
 HC PG f_champ_work_put [.agg #[.int .u64 v45, .int .u64 v46, .int .u64 v47, .pointer v48, .string v49, .int .u64 v50], .pointer e53, .agg #[.string v51, .string v52], .int .i64 0] [.c .ptr, .c .bool, .c .bool] (fun (e55 : (Option Addr) × Bool × Bool) h56 =>
 K (e55.1, e55.2.1) h56) h54))) h44))))) h41))))))))
def A_champ_Put : Ann := .node (.reg [1, 2, 4, 7] (.nil)) (.node (.reg [2, 7, 10] (.draw [.mk 0 2047 16 16384, .mk 0 2047 2 32768, .mk 0 2047 128 65536, .mk 4 2043 65536 131072, .mk 0 2047 16 262144, .mk 0 2047 128 524288, .mk 32 2015 524288 1048576, .mk 80 1967 1310720 2097152, .mk 139 1908 2277376 4194304, .mk 0 2047 0 1024, .mk 1023 1279 4195328 0] (.take 0 (.take 1 (.take 2 (.take 3 (.take 4 (.take 5 (.take 6 (.all (.pick 7 (.all (.pick 8 (.all (.last 9 (.all (.last 10 (.done))))) (.last 9 (.all (.last 8 (.all (.last 10 (.done)))))))) (.last 9 (.all (.last 7 (.all (.last 8 (.all (.last 10 (.done))))))))))))))))))) (.node (.reg [11, 12] (.draw [.mk 0 4095 1024 16777216, .mk 0 4095 4 33554432, .mk 2 4093 33554432 67108864, .mk 0 4095 128 134217728, .mk 13 4082 218103808 268435456, .mk 16 4079 268435456 8388608, .mk 32 4063 8388608 536870912, .mk 32 4063 8388608 1073741824, .mk 32 4063 8388608 2147483648, .mk 127 4031 536870912 2048, .mk 767 3967 1073741824 4096, .mk 2047 3839 2147483648 8192] (.take 0 (.take 1 (.take 3 (.all (.last 2 (.all (.last 4 (.take 5 (.take 6 (.take 7 (.take 8 (.take 9 (.take 10 (.take 11 (.done))))))))))))))))) (.node (.reg [8, 9] (.nil)) (.nil))))
theorem H_champ_Put (x0 : Int × Int × Int) (x1 : Option Addr) (x2 : Option Addr) (x3 : ByteArray × ByteArray) {K : Tup [.c .ptr, .c .bool] → Heap → Prop} {h0 : Heap} (h : F_champ_Put x0 x1 x2 x3 K h0) : HC PG f_champ_Put [.agg #[.int .u64 x0.1, .int .u64 x0.2.1, .int .u64 x0.2.2], .pointer x1, .pointer x2, .agg #[.string x3.1, .string x3.2]] [.c .ptr, .c .bool] K h0 := HC.intro (an := A_champ_Put) (c := Tryz.f53.body.getD .skip) Tryz.mixed Tryz.func53 rfl Tryz.call53 (Nat.le_of_ble_eq_true rfl) (cst (by kernel_rfl) h)
def F_radix_Shape (x0 : Option Addr) (K : (SliceV) → Heap → Prop) (h0 : Heap) : Prop :=
 CondP x0.isNone (
 K ⟨none, 0, 0⟩ h0) (
 HC PG f_radix_Node_shaped [.pointer x0, .slice none 0 0] [.c .slice] (fun (e1 : SliceV) h2 =>
 K e1 h2) h0)
def A_radix_Shape : Ann := .node (.reg [0] (.nil)) (.node (.node (.reg [0, 4] (.nil)) (.node (.node (.reg [2] (.nil)) (.nil)) (.nil))) (.node (.reg [2] (.nil)) (.nil)))
theorem H_radix_Shape (x0 : Option Addr) {K : Tup [.c .slice] → Heap → Prop} {h0 : Heap} (h : F_radix_Shape x0 K h0) : HC PG f_radix_Shape [.pointer x0] [.c .slice] K h0 := HC.intro (an := A_radix_Shape) (c := Tryz.f57.body.getD .skip) Tryz.mixed Tryz.func57 rfl Tryz.call57 (Nat.le_of_ble_eq_true rfl) (cst (by kernel_rfl) h)
def F_shape_Of (x0 : Option Addr) (K : (SliceV) → Heap → Prop) (h0 : Heap) : Prop :=
 CondP x0.isNone (
 K ⟨none, 0, 0⟩ h0) (
 HC PG f_shape_put [.slice none 0 0, .pointer x0, .int .i64 0] [.c .slice] (fun (e1 : SliceV) h2 =>
 K e1 h2) h0)
def A_shape_Of : Ann := .node (.reg [0] (.nil)) (.node (.node (.reg [0, 4] (.nil)) (.node (.node (.reg [2] (.nil)) (.nil)) (.nil))) (.node (.reg [2] (.nil)) (.nil)))
theorem H_shape_Of (x0 : Option Addr) {K : Tup [.c .slice] → Heap → Prop} {h0 : Heap} (h : F_shape_Of x0 K h0) : HC PG f_shape_Of [.pointer x0] [.c .slice] K h0 := HC.intro (an := A_shape_Of) (c := Tryz.f58.body.getD .skip) Tryz.mixed Tryz.func58 rfl Tryz.call58 (Nat.le_of_ble_eq_true rfl) (cst (by kernel_rfl) h)
def F_tree_Tree_Champ (x0 : Int × Int × Int × Int × (Option Addr) × (Option Addr)) (K : (Option Addr) → Heap → Prop) (h0 : Heap) : Prop :=
 At (hnew h0 [.int .i64 x0.1, .int .u64 x0.2.1, .int .u64 x0.2.2.1, .int .u64 x0.2.2.2.1, .pointer x0.2.2.2.2.1, .pointer x0.2.2.2.2.2] t_tree_Tree) (fun h1 =>
 Join (fun (t5 : Bool) h6 =>
 CondP t5 (
 HC PG f_champ_Empty [] [.c .ptr] (fun (e7 : Option Addr) h8 =>
 K e7 h8) h6) (
 ∃ v9, hcell h6 (adr (newA h0) 4) = some (.pointer v9) ∧
 K v9 h6)) (fun J2 =>
 ∃ v3, hcell h1 (adr (newA h0) 0) = some (.int .i64 v3) ∧
 CondP (v3 == (0 : Int)) (
 ∃ v4, hcell h1 (adr (newA h0) 4) = some (.pointer v4) ∧
 J2 v4.isNone h1) (
 J2 false h1)))
def A_tree_Tree_Champ : Ann := .node (.reg [1] (.nil)) (.node (.join [1] [(10, .c .bool)] (.reg [1, 10] (.nil)) (.node (.node (.reg [2] (.nil)) (.nil)) (.nil))) (.node (.reg [2] (.nil)) (.nil)))
theorem H_tree_Tree_Champ (x0 : Int × Int × Int × Int × (Option Addr) × (Option Addr)) {K : Tup [.c .ptr] → Heap → Prop} {h0 : Heap} (h : F_tree_Tree_Champ x0 K h0) : HC PG f_tree_Tree_Champ [.agg #[.int .i64 x0.1, .int .u64 x0.2.1, .int .u64 x0.2.2.1, .int .u64 x0.2.2.2.1, .pointer x0.2.2.2.2.1, .pointer x0.2.2.2.2.2]] [.c .ptr] K h0 := HC.intro (an := A_tree_Tree_Champ) (c := Tryz.f59.body.getD .skip) Tryz.mixed Tryz.func59 rfl Tryz.call59 (Nat.le_of_ble_eq_true rfl) (cst (by kernel_rfl) h)
def F_node_Inner  (K : (Option Addr) → Heap → Prop) (h0 : Heap) : Prop :=
 At (hnew h0 [.int .u32 0, .int .u32 0, .slice none 0 0, .slice none 0 0, .bool false, .pointer none] t_node_Node) (fun h1 =>
 K (some (newA h0)) h1)
def A_node_Inner : Ann := .node (.reg [] (.nil)) (.node (.reg [0] (.nil)) (.nil))
theorem H_node_Inner  {K : Tup [.c .ptr] → Heap → Prop} {h0 : Heap} (h : F_node_Inner  K h0) : HC PG f_node_Inner [] [.c .ptr] K h0 := HC.intro (an := A_node_Inner) (c := Tryz.f60.body.getD .skip) Tryz.mixed Tryz.func60 rfl Tryz.call60 (Nat.le_of_ble_eq_true rfl) (cst (by kernel_rfl) h)
def F_sip_Sum (x0 : Int × Int) (x1 : ByteArray) (K : (Int) → Heap → Prop) (h0 : Heap) : Prop :=
 At (hnew h0 [.int .u64 x0.1, .int .u64 x0.2] t_sip_Key) (fun h1 =>
 ∃ v2, hcell h1 (adr (newA h0) 0) = some (.int .u64 v2) ∧
 Bd (IntKind.wrap .u64 (BitVec.ofInt (IntKind.bits .u64) v2 ^^^ BitVec.ofInt (IntKind.bits .u64) 8317987319222330741).toNat : Int) (fun n3 =>
 ∃ v4, hcell h1 (adr (newA h0) 1) = some (.int .u64 v4) ∧
 Bd (IntKind.wrap .u64 (BitVec.ofInt (IntKind.bits .u64) v4 ^^^ BitVec.ofInt (IntKind.bits .u64) 7237128888997146477).toNat : Int) (fun n5 =>
 ∃ v6, hcell h1 (adr (newA h0) 0) = some (.int .u64 v6) ∧
 Bd (IntKind.wrap .u64 (BitVec.ofInt (IntKind.bits .u64) v6 ^^^ BitVec.ofInt (IntKind.bits .u64) 7816392313619706465).toNat : Int) (fun n7 =>
 ∃ v8, hcell h1 (adr (newA h0) 1) = some (.int .u64 v8) ∧
 Bd (IntKind.wrap .u64 (BitVec.ofInt (IntKind.bits .u64) v8 ^^^ BitVec.ofInt (IntKind.bits .u64) 8387220255154660723).toNat : Int) (fun n9 =>
 At (hnew h1 [.int .u64 0, .int .u64 0, .int .u64 0, .int .u64 0] t_sip_state) (fun h10 =>
 (WrS h10 (some (newA h1)) 0 [.int .u64 n3, .int .u64 n5, .int .u64 n7, .int .u64 n9] ∧
 At (hsetL h10 (newA h1) 0 [.int .u64 n3, .int .u64 n5, .int .u64 n7, .int .u64 n9]) (fun h11 =>
 LoopP (fun I12 (t13 : ByteArray) h14 =>
 CondP (decide ((t13.size : Int) ≥ (8 : Int))) (
 (((0 : Int) ≤ (8 : Int) ∧ (8 : Int) ≤ ((t13.size : Nat) : Int)) ∧
 HC PG f_sip_word [.string (t13.extract 0 ((8 : Int).toNat))] [.c (.int .u64)] (fun (e15 : Int) h16 =>
 HC PG f_sip_state_take [.pointer (some (newA h1)), .int .u64 e15] [] (fun (e17 : Unit) h18 =>
 (((0 : Int) ≤ (8 : Int) ∧ (8 : Int) ≤ ((t13.size : Nat) : Int)) ∧
 I12 (t13.extract ((8 : Int).toNat) t13.size) h18)) h16) h14)) (
 HC PG f_sip_word [.string t13] [.c (.int .u64)] (fun (e19 : Int) h20 =>
 ((0 : Int) ≤ (56 : Int) ∧
 Bd (IntKind.wrap .u64 ((IntKind.wrap .u64 (x1.size : Int)) * 2 ^ (min (56 : Int).toNat (IntKind.bits .u64))) : Int) (fun n21 =>
 Bd (IntKind.wrap .u64 (BitVec.ofInt (IntKind.bits .u64) e19 ||| BitVec.ofInt (IntKind.bits .u64) n21).toNat : Int) (fun n22 =>
 HC PG f_sip_state_take [.pointer (some (newA h1)), .int .u64 n22] [] (fun (e23 : Unit) h24 =>
 (((0 : Int) ≤ (2 : Int) ∧ (2 : Int) < ((4 : Nat) : Int)) ∧
 ∃ v25, hcell h24 (adr (newA h1) ((2 : Int).toNat * 1)) = some (.int .u64 v25) ∧
 Bd (IntKind.wrap .u64 (BitVec.ofInt (IntKind.bits .u64) v25 ^^^ BitVec.ofInt (IntKind.bits .u64) 255).toNat : Int) (fun n26 =>
 (((0 : Int) ≤ (2 : Int) ∧ (2 : Int) < ((4 : Nat) : Int)) ∧
 (Wr h24 (adr (newA h1) ((2 : Int).toNat * 1)) ∧
 At (hset h24 (adr (newA h1) ((2 : Int).toNat * 1)) (.int .u64 n26)) (fun h27 =>
 HC PG f_sip_state_rounds [.pointer (some (newA h1)), .int .i64 4] [] (fun (e28 : Unit) h29 =>
 (((0 : Int) ≤ (0 : Int) ∧ (0 : Int) < ((4 : Nat) : Int)) ∧
 ∃ v30, hcell h29 (adr (newA h1) ((0 : Int).toNat * 1)) = some (.int .u64 v30) ∧
 (((0 : Int) ≤ (1 : Int) ∧ (1 : Int) < ((4 : Nat) : Int)) ∧
 ∃ v31, hcell h29 (adr (newA h1) ((1 : Int).toNat * 1)) = some (.int .u64 v31) ∧
 Bd (IntKind.wrap .u64 (BitVec.ofInt (IntKind.bits .u64) v30 ^^^ BitVec.ofInt (IntKind.bits .u64) v31).toNat : Int) (fun n32 =>
 (((0 : Int) ≤ (2 : Int) ∧ (2 : Int) < ((4 : Nat) : Int)) ∧
 ∃ v33, hcell h29 (adr (newA h1) ((2 : Int).toNat * 1)) = some (.int .u64 v33) ∧
 Bd (IntKind.wrap .u64 (BitVec.ofInt (IntKind.bits .u64) n32 ^^^ BitVec.ofInt (IntKind.bits .u64) v33).toNat : Int) (fun n34 =>
 (((0 : Int) ≤ (3 : Int) ∧ (3 : Int) < ((4 : Nat) : Int)) ∧
 ∃ v35, hcell h29 (adr (newA h1) ((3 : Int).toNat * 1)) = some (.int .u64 v35) ∧
 Bd (IntKind.wrap .u64 (BitVec.ofInt (IntKind.bits .u64) n34 ^^^ BitVec.ofInt (IntKind.bits .u64) v35).toNat : Int) (fun n36 =>
 K n36 h29)))))))) h27)))))) h20)))) h14)) x1 h11))))))))
def A_sip_Sum : Ann := .node (.reg [1, 2] (.nil)) (.node (.reg [1, 5] (.nil)) (.node (.reg [1, 5, 6] (.nil)) (.node (.loop [5, 6] [(1, .c .str)] (.node (.node (.reg [1, 5, 6, 24] (.nil)) (.nil)) (.node (.reg [1, 5, 6] (.nil)) (.reg [1, 5, 6] (.nil))))) (.node (.reg [5] (.nil)) (.node (.reg [5] (.nil)) (.node (.reg [5] (.nil)) (.node (.reg [4] (.nil)) (.nil))))))))
theorem H_sip_Sum (x0 : Int × Int) (x1 : ByteArray) {K : Tup [.c (.int .u64)] → Heap → Prop} {h0 : Heap} (h : F_sip_Sum x0 x1 K h0) : HC PG f_sip_Sum [.agg #[.int .u64 x0.1, .int .u64 x0.2], .string x1] [.c (.int .u64)] K h0 := HC.intro (an := A_sip_Sum) (c := Tryz.f61.body.getD .skip) Tryz.mixed Tryz.func61 rfl Tryz.call61 (Nat.le_of_ble_eq_true rfl) (cst (by kernel_rfl) h)
def F_node_Bucket  (K : (Option Addr) → Heap → Prop) (h0 : Heap) : Prop :=
 At (hnew h0 [.int .u32 0, .int .u32 0, .slice none 0 0, .slice none 0 0, .bool true, .pointer none] t_node_Node) (fun h1 =>
 K (some (newA h0)) h1)
def A_node_Bucket : Ann := .node (.reg [] (.nil)) (.node (.reg [0] (.nil)) (.nil))
theorem H_node_Bucket  {K : Tup [.c .ptr] → Heap → Prop} {h0 : Heap} (h : F_node_Bucket  K h0) : HC PG f_node_Bucket [] [.c .ptr] K h0 := HC.intro (an := A_node_Bucket) (c := Tryz.f62.body.getD .skip) Tryz.mixed Tryz.func62 rfl Tryz.call62 (Nat.le_of_ble_eq_true rfl) (cst (by kernel_rfl) h)
def F_node_Node_Put (x0 : Option Addr) (x1 : Option Addr) (x2 : ByteArray × ByteArray) (K : (Option Addr) → Heap → Prop) (h0 : Heap) : Prop :=
 At (hnew h0 [.string x2.1, .string x2.2] t_pair_Pair) (fun h1 =>
 HC PG f_node_Node_IsBucket [.pointer x0] [.c .bool] (fun (e2 : Bool) h3 =>
 CondP (!e2) (
 K x0 h3) (
 HC PG f_node_Node_own [.pointer x0, .pointer x1] [.c .ptr] (fun (e4 : Option Addr) h5 =>
 ∃ a6, e4 = some a6 ∧
 ∃ v7 : SliceV, hcell h5 (adr (adr a6 0) 2) = some (.slice v7.a v7.len v7.cap) ∧
 ∃ v8, hcell h5 (adr (newA h0) 0) = some (.string v8) ∧
 ∃ v9, hcell h5 (adr (newA h0) 1) = some (.string v9) ∧
 HC PG f_pair_Put [.slice v7.a v7.len v7.cap, .agg #[.string v8, .string v9]] [.c .slice] (fun (e10 : SliceV) h11 =>
 ∃ a12, e4 = some a12 ∧
 (Wr h11 (adr (adr a12 0) 2) ∧
 At (hset h11 (adr (adr a12 0) 2) (.slice e10.a e10.len e10.cap)) (fun h13 =>
 K e4 h13))) h5) h3)) h1)
def A_node_Node_Put : Ann := .node (.reg [0, 1, 5] (.nil)) (.node (.node (.reg [0, 1, 5, 10] (.nil)) (.node (.node (.reg [6] (.nil)) (.nil)) (.nil))) (.node (.reg [5, 7] (.nil)) (.node (.reg [7] (.draw [.mk 0 4095 128 32768, .mk 0 4095 128 65536, .mk 2 4093 65536 131072, .mk 4 4091 131072 262144, .mk 8 4087 262144 524288, .mk 16 4079 524288 1048576, .mk 0 4095 32 2097152, .mk 96 3999 3145728 4194304, .mk 255 4094 32768 8388608, .mk 511 3839 8388608 16777216, .mk 767 3583 16777216 33554432, .mk 1279 2943 37748736 0] (.take 0 (.take 1 (.take 2 (.take 3 (.take 4 (.take 5 (.take 6 (.all (.last 7 (.take 8 (.take 9 (.take 10 (.all (.last 11 (.done))))))))))))))))) (.node (.reg [6] (.nil)) (.nil)))))
theorem H_node_Node_Put (x0 : Option Addr) (x1 : Option Addr) (x2 : ByteArray × ByteArray) {K : Tup [.c .ptr] → Heap → Prop} {h0 : Heap} (h : F_node_Node_Put x0 x1 x2 K h0) : HC PG f_node_Node_Put [.pointer x0, .pointer x1, .agg #[.string x2.1, .string x2.2]] [.c .ptr] K h0 := HC.intro (an := A_node_Node_Put) (c := Tryz.f63.body.getD .skip) Tryz.mixed Tryz.func63 rfl Tryz.call63 (Nat.le_of_ble_eq_true rfl) (cst (by kernel_rfl) h)
def F_build_trie_1 (x0 : ByteArray × ByteArray × Int) (y0 : Addr) (K : (Int) → Heap → Prop) (h0 : Heap) : Prop :=
 At (hnew h0 [.string x0.1, .string x0.2.1, .int .u64 x0.2.2] t_build_hashed) (fun h1 =>
 ∃ v2, hcell h1 (adr (newA h0) 2) = some (.int .u64 v2) ∧
 ∃ v3, hcell h1 y0 = some (.int .i64 v3) ∧
 HC PG f_chunk_At [.int .u64 v2, .int .i64 v3] [.c (.int .i64)] (fun (e4 : Int) h5 =>
 K e4 h5) h1)
def A_build_trie_1 : Ann := .node (.reg [1, 2] (.nil)) (.node (.reg [3] (.nil)) (.nil))
theorem H_build_trie_1 (x0 : ByteArray × ByteArray × Int) (y0 : Addr) {K : Tup [.c (.int .i64)] → Heap → Prop} {h0 : Heap} (h : F_build_trie_1 x0 y0 K h0) : HC PG f_build_trie_1 [.agg #[.string x0.1, .string x0.2.1, .int .u64 x0.2.2], .pointer (some y0)] [.c (.int .i64)] K h0 := HC.intro (an := A_build_trie_1) (c := Tryz.f64.body.getD .skip) Tryz.mixed Tryz.func64 rfl Tryz.call64 (Nat.le_of_ble_eq_true rfl) (cst (by kernel_rfl) h)
def F_chunk_At (x0 : Int) (x1 : Int) (K : (Int) → Heap → Prop) (h0 : Heap) : Prop :=
 Join (fun (t2 : Bool) h3 =>
 CondP t2 (
 K 0 h3) (
 ((0 : Int) ≤ (IntKind.wrap .i64 (5 * x1)) ∧
 Bd (Int.fdiv x0 (2 ^ (min (IntKind.wrap .i64 (5 * x1) : Int).toNat (IntKind.bits .u64))) : Int) (fun n4 =>
 Bd (IntKind.wrap .u64 (BitVec.ofInt (IntKind.bits .u64) n4 &&& BitVec.ofInt (IntKind.bits .u64) 31).toNat : Int) (fun n5 =>
 K (IntKind.wrap .i64 n5) h3))))) (fun J1 =>
 CondP (decide (x1 < (0 : Int))) (
 J1 true h0) (
 J1 (decide (x1 ≥ (13 : Int))) h0))
def A_chunk_At : Ann := .node (.reg [0, 1] (.nil)) (.node (.join [0, 1] [(10, .c .bool)] (.reg [0, 1, 10] (.nil)) (.node (.node (.reg [4] (.nil)) (.nil)) (.nil))) (.node (.reg [4] (.nil)) (.nil)))
theorem H_chunk_At (x0 : Int) (x1 : Int) {K : Tup [.c (.int .i64)] → Heap → Prop} {h0 : Heap} (h : F_chunk_At x0 x1 K h0) : HC PG f_chunk_At [.int .u64 x0, .int .i64 x1] [.c (.int .i64)] K h0 := HC.intro (an := A_chunk_At) (c := Tryz.f65.body.getD .skip) Tryz.mixed Tryz.func65 rfl Tryz.call65 (Nat.le_of_ble_eq_true rfl) (cst (by kernel_rfl) h)
def F_slices_Clone_A_build_hashed_build_hashed (x0 : SliceV) (K : (SliceV) → Heap → Prop) (h0 : Heap) : Prop :=
 CondP x0.a.isNone (
 K ⟨none, 0, 0⟩ h0) (
 At (hnew h0 [] t_build_hashed) (fun h1 =>
 ∃ xs2, SRow h1 x0.a (x0.len * 3) xs2 ∧
 AppP (some [.string (⟨#[]⟩ : ByteArray), .string (⟨#[]⟩ : ByteArray), .int .u64 0]) 3 40 t_build_hashed (some (newA h0)) 0 0 x0.len xs2 h1 (fun s3 h4 =>
 K s3 h4)))
def A_slices_Clone_A_build_hashed_build_hashed : Ann := .node (.reg [0] (.nil)) (.node (.node (.reg [0, 4] (.nil)) (.node (.node (.reg [2] (.nil)) (.nil)) (.nil))) (.node (.reg [2] (.nil)) (.nil)))
theorem H_slices_Clone_A_build_hashed_build_hashed (x0 : SliceV) {K : Tup [.c .slice] → Heap → Prop} {h0 : Heap} (h : F_slices_Clone_A_build_hashed_build_hashed x0 K h0) : HC PG f_slices_Clone_A_build_hashed_build_hashed [.slice x0.a x0.len x0.cap] [.c .slice] K h0 := HC.intro (an := A_slices_Clone_A_build_hashed_build_hashed) (c := Tryz.f66.body.getD .skip) Tryz.mixed Tryz.func66 rfl Tryz.call66 (Nat.le_of_ble_eq_true rfl) (cst (by kernel_rfl) h)
def F_slices_SortStableFunc_A_build_hashed_build_hashed (x0 : SliceV) (x1 : Value) (K : (Unit) → Heap → Prop) (h0 : Heap) : Prop :=
 HC PG f_slices_stableCmpFunc_build_hashed [.slice x0.a x0.len x0.cap, .int .i64 (x0.len : Int), x1] [] (fun (e1 : Unit) h2 =>
 K () h2) h0
def A_slices_SortStableFunc_A_build_hashed_build_hashed : Ann := .reg [] (.nil)
theorem H_slices_SortStableFunc_A_build_hashed_build_hashed (x0 : SliceV) (x1 : Value) {K : Tup [] → Heap → Prop} {h0 : Heap} (h : F_slices_SortStableFunc_A_build_hashed_build_hashed x0 x1 K h0) : HC PG f_slices_SortStableFunc_A_build_hashed_build_hashed [.slice x0.a x0.len x0.cap, x1] [] K h0 := HC.intro (an := A_slices_SortStableFunc_A_build_hashed_build_hashed) (c := Tryz.f67.body.getD .skip) Tryz.mixed Tryz.func67 rfl Tryz.call67 (Nat.le_of_ble_eq_true rfl) (cst (by kernel_rfl) h)
def F_build_trie_2 (x0 : ByteArray × ByteArray × Int) (x1 : ByteArray × ByteArray × Int) (y0 : Addr) (K : (Int) → Heap → Prop) (h0 : Heap) : Prop :=
 At (hnew h0 [.string x0.1, .string x0.2.1, .int .u64 x0.2.2] t_build_hashed) (fun h1 =>
 At (hnew h1 [.string x1.1, .string x1.2.1, .int .u64 x1.2.2] t_build_hashed) (fun h2 =>
 ∃ v3, hcell h2 y0 = some (v3) ∧
 ∃ v4, hcell h2 (adr (newA h0) 0) = some (.string v4) ∧
 ∃ v5, hcell h2 (adr (newA h0) 1) = some (.string v5) ∧
 ∃ v6, hcell h2 (adr (newA h0) 2) = some (.int .u64 v6) ∧
 ∃ v7, hcell h2 y0 = some (v7) ∧
 ∃ v8, hcell h2 (adr (newA h1) 0) = some (.string v8) ∧
 ∃ v9, hcell h2 (adr (newA h1) 1) = some (.string v9) ∧
 ∃ v10, hcell h2 (adr (newA h1) 2) = some (.int .u64 v10) ∧
 HV PG v3 [.agg #[.string v4, .string v5, .int .u64 v6]] [.c (.int .i64)] (fun (e11 : Int) h12 =>
 ((hcell h12 (adr (newA h1) 0) = some (.string v8) ∧ hcell h12 (adr (newA h1) 1) = some (.string v9) ∧ hcell h12 (adr (newA h1) 2) = some (.int .u64 v10)) ∧
 (hcell h12 y0 = some (v7) ∧
 HV PG v7 [.agg #[.string v8, .string v9, .int .u64 v10]] [.c (.int .i64)] (fun (e13 : Int) h14 =>
 HC PG f_cmp_Compare_int [.int .i64 e11, .int .i64 e13] [.c (.int .i64)] (fun (e15 : Int) h16 =>
 K e15 h16) h14) h12))) h2))
def A_build_trie_2 : Ann := .node (.reg [2, 3, 4] (.nil)) (.node (.reg [5] (.draw [.mk 0 255 4 64, .mk 0 255 8 128, .mk 3 252 192 256, .mk 0 255 4 512, .mk 0 255 16 1024, .mk 28 231 1536 2048, .mk 36 219 2304 4096, .mk 127 191 4096 32] (.take 0 (.take 1 (.take 3 (.take 4 (.all (.last 2 (.all (.last 5 (.all (.last 6 (.take 7 (.done)))))))))))))) (.nil))
theorem H_build_trie_2 (x0 : ByteArray × ByteArray × Int) (x1 : ByteArray × ByteArray × Int) (y0 : Addr) {K : Tup [.c (.int .i64)] → Heap → Prop} {h0 : Heap} (h : F_build_trie_2 x0 x1 y0 K h0) : HC PG f_build_trie_2 [.agg #[.string x0.1, .string x0.2.1, .int .u64 x0.2.2], .agg #[.string x1.1, .string x1.2.1, .int .u64 x1.2.2], .pointer (some y0)] [.c (.int .i64)] K h0 := HC.intro (an := A_build_trie_2) (c := Tryz.f68.body.getD .skip) Tryz.mixed Tryz.func68 rfl Tryz.call68 (Nat.le_of_ble_eq_true rfl) (cst (by kernel_rfl) h)
def F_cmp_Compare_int (x0 : Int) (x1 : Int) (K : (Int) → Heap → Prop) (h0 : Heap) : Prop :=
 HC PG f_cmp_isNaN_int [.int .i64 x0] [.c .bool] (fun (e1 : Bool) h2 =>
 HC PG f_cmp_isNaN_int [.int .i64 x1] [.c .bool] (fun (e3 : Bool) h4 =>
 CondP e1 (
 CondP e3 (
 K 0 h4) (
 K (-1) h4)) (
 CondP e3 (
 K 1 h4) (
 CondP (decide (x0 < x1)) (
 K (-1) h4) (
 CondP (decide (x0 > x1)) (
 K 1 h4) (
 K 0 h4))))) h2) h0
def A_cmp_Compare_int : Ann := .node (.reg [0, 1] (.nil)) (.node (.reg [0, 1, 5] (.nil)) (.node (.reg [0, 1, 5, 6] (.nil)) (.node (.node (.reg [0, 1, 6, 11] (.nil)) (.node (.node (.node (.reg [12] (.nil)) (.node (.node (.reg [4] (.nil)) (.nil)) (.nil))) (.node (.reg [4] (.nil)) (.nil))) (.nil))) (.node (.node (.reg [0, 1, 13] (.nil)) (.node (.node (.reg [4] (.nil)) (.nil)) (.nil))) (.node (.node (.reg [0, 1, 16] (.nil)) (.node (.node (.reg [4] (.nil)) (.nil)) (.nil))) (.node (.node (.reg [19] (.nil)) (.node (.node (.reg [4] (.nil)) (.nil)) (.nil))) (.node (.reg [4] (.nil)) (.nil))))))))
theorem H_cmp_Compare_int (x0 : Int) (x1 : Int) {K : Tup [.c (.int .i64)] → Heap → Prop} {h0 : Heap} (h : F_cmp_Compare_int x0 x1 K h0) : HC PG f_cmp_Compare_int [.int .i64 x0, .int .i64 x1] [.c (.int .i64)] K h0 := HC.intro (an := A_cmp_Compare_int) (c := Tryz.f69.body.getD .skip) Tryz.mixed Tryz.func69 rfl Tryz.call69 (Nat.le_of_ble_eq_true rfl) (cst (by kernel_rfl) h)
def F_slices_IndexFunc_A_build_hashed_build_hashed (x0 : SliceV) (x1 : Value) (K : (Int) → Heap → Prop) (h0 : Heap) : Prop :=
 LoopP (fun I1 (t2 : Int) h3 =>
 CondP (decide (t2 < (x0.len : Int))) (
 (((0 : Int) ≤ t2 ∧ t2 < ((x0.len : Nat) : Int)) ∧ ∃ a4, x0.a = some a4 ∧
 ∃ v5, hcell h3 (adr (adr a4 (t2.toNat * 3)) 0) = some (.string v5) ∧
 ∃ v6, hcell h3 (adr (adr a4 (t2.toNat * 3)) 1) = some (.string v6) ∧
 ∃ v7, hcell h3 (adr (adr a4 (t2.toNat * 3)) 2) = some (.int .u64 v7) ∧
 HV PG x1 [.agg #[.string v5, .string v6, .int .u64 v7]] [.c .bool] (fun (e8 : Bool) h9 =>
 CondP e8 (
 K t2 h9) (
 I1 (IntKind.wrap .i64 (t2 + 1)) h9)) h3)) (
 K (-1) h3)) 0 h0
def A_slices_IndexFunc_A_build_hashed_build_hashed : Ann := .node (.reg [0, 1] (.nil)) (.node (.node (.reg [0, 1, 7, 8] (.nil)) (.loop [0, 1, 7] [(8, .c (.int .i64))] (.node (.reg [0, 1, 7, 8, 9] (.nil)) (.node (.nil) (.node (.node (.reg [0, 1, 5, 7, 8] (.nil)) (.node (.reg [0, 1, 5, 7, 8, 16] (.nil)) (.node (.node (.reg [4] (.nil)) (.nil)) (.nil)))) (.reg [0, 1, 7, 8] (.nil))))))) (.node (.reg [4] (.nil)) (.nil)))
theorem H_slices_IndexFunc_A_build_hashed_build_hashed (x0 : SliceV) (x1 : Value) {K : Tup [.c (.int .i64)] → Heap → Prop} {h0 : Heap} (h : F_slices_IndexFunc_A_build_hashed_build_hashed x0 x1 K h0) : HC PG f_slices_IndexFunc_A_build_hashed_build_hashed [.slice x0.a x0.len x0.cap, x1] [.c (.int .i64)] K h0 := HC.intro (an := A_slices_IndexFunc_A_build_hashed_build_hashed) (c := Tryz.f70.body.getD .skip) Tryz.mixed Tryz.func70 rfl Tryz.call70 (Nat.le_of_ble_eq_true rfl) (cst (by kernel_rfl) h)
def F_build_trie_3 (x0 : ByteArray × ByteArray × Int) (y0 : Addr) (y1 : Addr) (K : (Bool) → Heap → Prop) (h0 : Heap) : Prop :=
 At (hnew h0 [.string x0.1, .string x0.2.1, .int .u64 x0.2.2] t_build_hashed) (fun h1 =>
 ∃ v2, hcell h1 y0 = some (v2) ∧
 ∃ v3, hcell h1 (adr (newA h0) 0) = some (.string v3) ∧
 ∃ v4, hcell h1 (adr (newA h0) 1) = some (.string v4) ∧
 ∃ v5, hcell h1 (adr (newA h0) 2) = some (.int .u64 v5) ∧
 ∃ v6, hcell h1 y1 = some (.int .i64 v6) ∧
 HV PG v2 [.agg #[.string v3, .string v4, .int .u64 v5]] [.c (.int .i64)] (fun (e7 : Int) h8 =>
 (hcell h8 y1 = some (.int .i64 v6) ∧
 K (e7 != v6) h8)) h1)
def A_build_trie_3 : Ann := .node (.reg [1, 2, 3] (.nil)) (.node (.reg [4] (.draw [.mk 0 63 2 32, .mk 0 63 8 64, .mk 3 60 96 128, .mk 0 63 4 256, .mk 12 51 384 512, .mk 31 47 512 16] (.take 0 (.take 1 (.take 3 (.all (.last 2 (.take 4 (.take 5 (.done)))))))))) (.nil))
theorem H_build_trie_3 (x0 : ByteArray × ByteArray × Int) (y0 : Addr) (y1 : Addr) {K : Tup [.c .bool] → Heap → Prop} {h0 : Heap} (h : F_build_trie_3 x0 y0 y1 K h0) : HC PG f_build_trie_3 [.agg #[.string x0.1, .string x0.2.1, .int .u64 x0.2.2], .pointer (some y0), .pointer (some y1)] [.c .bool] K h0 := HC.intro (an := A_build_trie_3) (c := Tryz.f71.body.getD .skip) Tryz.mixed Tryz.func71 rfl Tryz.call71 (Nat.le_of_ble_eq_true rfl) (cst (by kernel_rfl) h)
def F_node_Node_SetPair (x0 : Option Addr) (x1 : Option Addr) (x2 : Int) (x3 : ByteArray × ByteArray) (K : (Option Addr) → Heap → Prop) (h0 : Heap) : Prop :=
 At (hnew h0 [.string x3.1, .string x3.2] t_pair_Pair) (fun h1 =>
 HC PG f_node_Node_inner [.pointer x0, .int .i64 x2] [.c .bool] (fun (e2 : Bool) h3 =>
 CondP (!e2) (
 K x0 h3) (
 HC PG f_node_Node_own [.pointer x0, .pointer x1] [.c .ptr] (fun (e4 : Option Addr) h5 =>
 ∃ a6, e4 = some a6 ∧
 ∃ v7, hcell h5 (adr (adr a6 0) 0) = some (.int .u32 v7) ∧
 HC PG f_chunk_Bits_Has [.int .u32 v7, .int .i64 x2] [.c .bool] (fun (e8 : Bool) h9 =>
 CondP e8 (
 ∃ a10, e4 = some a10 ∧
 ∃ v11 : SliceV, hcell h9 (adr (adr a10 0) 2) = some (.slice v11.a v11.len v11.cap) ∧
 ∃ a12, e4 = some a12 ∧
 ∃ v13, hcell h9 (adr (adr a12 0) 0) = some (.int .u32 v13) ∧
 ∃ v14, hcell h9 (adr (newA h0) 0) = some (.string v14) ∧
 ∃ v15, hcell h9 (adr (newA h0) 1) = some (.string v15) ∧
 HC PG f_chunk_Bits_Rank [.int .u32 v13, .int .i64 x2] [.c (.int .i64)] (fun (e16 : Int) h17 =>
 ((hcell h17 (adr (newA h0) 0) = some (.string v14) ∧ hcell h17 (adr (newA h0) 1) = some (.string v15)) ∧
 (hcell h17 (adr (adr a10 0) 2) = some (.slice v11.a v11.len v11.cap) ∧
 (((0 : Int) ≤ e16 ∧ e16 < ((v11.len : Nat) : Int)) ∧ ∃ a18, v11.a = some a18 ∧
 (WrS h17 (some (adr a18 (e16.toNat * 2))) 0 [.string v14, .string v15] ∧
 At (hsetL h17 (adr a18 (e16.toNat * 2)) 0 [.string v14, .string v15]) (fun h19 =>
 K e4 h19)))))) h9) (
 ∃ a20, e4 = some a20 ∧
 HC PG f_node_slots_drop [.pointer (some (adr a20 0)), .int .i64 x2] [] (fun (e21 : Unit) h22 =>
 ∃ a23, e4 = some a23 ∧
 ∃ v24 : SliceV, hcell h22 (adr (adr a23 0) 2) = some (.slice v24.a v24.len v24.cap) ∧
 ∃ a25, e4 = some a25 ∧
 ∃ v26, hcell h22 (adr (adr a25 0) 0) = some (.int .u32 v26) ∧
 ∃ v27, hcell h22 (adr (newA h0) 0) = some (.string v27) ∧
 ∃ v28, hcell h22 (adr (newA h0) 1) = some (.string v28) ∧
 ((HC PG f_chunk_Bits_Rank [.int .u32 v26, .int .i64 x2] [.c (.int .i64)] (fun (e29 : Int) h30 =>
 ((hcell h30 (adr (newA h0) 0) = some (.string v27) ∧ hcell h30 (adr (newA h0) 1) = some (.string v28)) ∧
 (hcell h30 (adr (adr a23 0) 2) = some (.slice v24.a v24.len v24.cap) ∧
 At (hnew h30 [.string v27, .string v28] t_pair_Pair) (fun h31 =>
 (hcell h31 (adr (adr a23 0) 2) = some (.slice v24.a v24.len v24.cap) ∧
 HC PG f_slices_Insert_A_pair_Pair_pair_Pair [.slice v24.a v24.len v24.cap, .int .i64 e29, .slice (some (newA h30)) 1 1] [.c .slice] (fun (e32 : SliceV) h33 =>
 ∃ a34, e4 = some a34 ∧
 (Wr h33 (adr (adr a34 0) 2) ∧
 At (hset h33 (adr (adr a34 0) 2) (.slice e32.a e32.len e32.cap)) (fun h35 =>
 ∃ a36, e4 = some a36 ∧
 ∃ v37, hcell h35 (adr (adr a36 0) 0) = some (.int .u32 v37) ∧
 HC PG f_chunk_Bits_With [.int .u32 v37, .int .i64 x2] [.c (.int .u32)] (fun (e38 : Int) h39 =>
 ∃ a40, e4 = some a40 ∧
 (Wr h39 (adr (adr a40 0) 0) ∧
 At (hset h39 (adr (adr a40 0) 0) (.int .u32 e38)) (fun h41 =>
 K e4 h41))) h35))) h31))))) h22) ∧
 At (hnew h22 [.string v27, .string v28] t_pair_Pair) (fun h42 =>
 (hcell h42 (adr (adr a25 0) 0) = some (.int .u32 v26) ∧
 (hcell h42 (adr (adr a23 0) 2) = some (.slice v24.a v24.len v24.cap) ∧
 HC PG f_chunk_Bits_Rank [.int .u32 v26, .int .i64 x2] [.c (.int .i64)] (fun (e43 : Int) h44 =>
 (hcell h44 (adr (adr a23 0) 2) = some (.slice v24.a v24.len v24.cap) ∧
 HC PG f_slices_Insert_A_pair_Pair_pair_Pair [.slice v24.a v24.len v24.cap, .int .i64 e43, .slice (some (newA h22)) 1 1] [.c .slice] (fun (e45 : SliceV) h46 =>
 ∃ a47, e4 = some a47 ∧
 (Wr h46 (adr (adr a47 0) 2) ∧
 At (hset h46 (adr (adr a47 0) 2) (.slice e45.a e45.len e45.cap)) (fun h48 =>
 ∃ a49, e4 = some a49 ∧
 ∃ v50, hcell h48 (adr (adr a49 0) 0) = some (.int .u32 v50) ∧
 HC PG f_chunk_Bits_With [.int .u32 v50, .int .i64 x2] [.c (.int .u32)] (fun (e51 : Int) h52 =>
 ∃ a53, e4 = some a53 ∧
 (Wr h52 (adr (adr a53 0) 0) ∧
 At (hset h52 (adr (adr a53 0) 0) (.int .u32 e51)) (fun h54 =>
 K e4 h54))) h48))) h44)) h42))))) h9)) h5) h3)) h1)
def A_node_Node_SetPair : Ann := .node (.reg [0, 1, 2, 7] (.nil)) (.node (.node (.reg [0, 1, 2, 7, 13] (.nil)) (.node (.node (.reg [8] (.nil)) (.nil)) (.nil))) (.node (.reg [2, 7, 9] (.nil)) (.node (.node (.reg [2, 7, 9, 24] (.nil)) (.node (.node (.reg [9] (.draw [.mk 0 32767 512 33554432, .mk 1 32766 33554432 67108864, .mk 2 32765 67108864 134217728, .mk 4 32763 134217728 268435456, .mk 8 32759 268435456 536870912, .mk 0 32767 512 1073741824, .mk 32 32735 1073741824 2147483648, .mk 64 32703 2147483648 4294967296, .mk 128 32639 4294967296 8589934592, .mk 256 32511 8589934592 17179869184, .mk 0 32767 4 34359738368, .mk 1536 31231 51539607552 68719476736, .mk 0 32767 128 137438953472, .mk 8191 30703 69256347648 274877906944, .mk 16383 20479 412316860416 0] (.take 0 (.take 1 (.take 2 (.take 3 (.take 4 (.take 5 (.take 6 (.take 7 (.take 8 (.take 9 (.take 10 (.take 12 (.all (.last 11 (.take 13 (.all (.last 14 (.done)))))))))))))))))))) (.node (.reg [8] (.nil)) (.nil))) (.nil))) (.node (.reg [2, 7, 9] (.nil)) (.node (.reg [2, 9] (.draw [.mk 0 1048575 512 35184372088832, .mk 0 1048575 512 70368744177664, .mk 2 1048573 70368744177664 140737488355328, .mk 4 1048571 140737488355328 281474976710656, .mk 8 1048567 281474976710656 562949953421312, .mk 16 1048559 562949953421312 1125899906842624, .mk 0 1048575 512 2251799813685248, .mk 64 1048511 2251799813685248 4503599627370496, .mk 128 1048447 4503599627370496 9007199254740992, .mk 256 1048319 9007199254740992 18014398509481984, .mk 512 1048063 18014398509481984 36028797018963968, .mk 0 1048575 4 72057594037927936, .mk 3072 1045503 108086391056891904 144115188075855872, .mk 0 1048575 128 288230376151711744, .mk 8192 1040383 288230376151711744 576460752303423488, .mk 20512 1028063 721701840286121984 1152921504606846976, .mk 65535 1048574 35184372088832 2305843009213693952, .mk 131071 983039 2305843009213693952 4611686018427387904, .mk 196607 917503 4611686018427387904 9223372036854775808, .mk 327679 753663 10376293541461622784 0] (.take 0 (.take 1 (.take 2 (.take 3 (.take 4 (.take 5 (.take 6 (.take 7 (.take 8 (.take 9 (.take 10 (.take 11 (.take 13 (.all (.pick 12 (.all (.last 14 (.all (.last 15 (.take 16 (.take 17 (.take 18 (.all (.last 19 (.done)))))))))) (.last 14 (.all (.last 12 (.all (.last 15 (.take 16 (.take 17 (.take 18 (.all (.last 19 (.done)))))))))))))))))))))))))))) (.node (.reg [9] (.nil)) (.node (.reg [8] (.nil)) (.nil))))))))
theorem H_node_Node_SetPair (x0 : Option Addr) (x1 : Option Addr) (x2 : Int) (x3 : ByteArray × ByteArray) {K : Tup [.c .ptr] → Heap → Prop} {h0 : Heap} (h : F_node_Node_SetPair x0 x1 x2 x3 K h0) : HC PG f_node_Node_SetPair [.pointer x0, .pointer x1, .int .i64 x2, .agg #[.string x3.1, .string x3.2]] [.c .ptr] K h0 := HC.intro (an := A_node_Node_SetPair) (c := Tryz.f72.body.getD .skip) Tryz.mixed Tryz.func72 rfl Tryz.call72 (Nat.le_of_ble_eq_true rfl) (cst (by kernel_rfl) h)
def F_node_Node_SetKid (x0 : Option Addr) (x1 : Option Addr) (x2 : Int) (x3 : Option Addr) (K : (Option Addr) → Heap → Prop) (h0 : Heap) : Prop :=
 CondP x3.isNone (
 HC PG f_node_Node_Clear [.pointer x0, .pointer x1, .int .i64 x2] [.c .ptr] (fun (e1 : Option Addr) h2 =>
 K e1 h2) h0) (
 HC PG f_node_Node_inner [.pointer x0, .int .i64 x2] [.c .bool] (fun (e3 : Bool) h4 =>
 CondP (!e3) (
 K x0 h4) (
 HC PG f_node_Node_own [.pointer x0, .pointer x1] [.c .ptr] (fun (e5 : Option Addr) h6 =>
 ∃ a7, e5 = some a7 ∧
 ∃ v8, hcell h6 (adr (adr a7 0) 1) = some (.int .u32 v8) ∧
 HC PG f_chunk_Bits_Has [.int .u32 v8, .int .i64 x2] [.c .bool] (fun (e9 : Bool) h10 =>
 CondP e9 (
 ∃ a11, e5 = some a11 ∧
 ∃ v12 : SliceV, hcell h10 (adr (adr a11 0) 3) = some (.slice v12.a v12.len v12.cap) ∧
 ∃ a13, e5 = some a13 ∧
 ∃ v14, hcell h10 (adr (adr a13 0) 1) = some (.int .u32 v14) ∧
 HC PG f_chunk_Bits_Rank [.int .u32 v14, .int .i64 x2] [.c (.int .i64)] (fun (e15 : Int) h16 =>
 (hcell h16 (adr (adr a11 0) 3) = some (.slice v12.a v12.len v12.cap) ∧
 (((0 : Int) ≤ e15 ∧ e15 < ((v12.len : Nat) : Int)) ∧ ∃ a17, v12.a = some a17 ∧
 (Wr h16 (adr a17 (e15.toNat * 1)) ∧
 At (hset h16 (adr a17 (e15.toNat * 1)) (.pointer x3)) (fun h18 =>
 K e5 h18))))) h10) (
 ∃ a19, e5 = some a19 ∧
 HC PG f_node_slots_drop [.pointer (some (adr a19 0)), .int .i64 x2] [] (fun (e20 : Unit) h21 =>
 ∃ a22, e5 = some a22 ∧
 ∃ v23 : SliceV, hcell h21 (adr (adr a22 0) 3) = some (.slice v23.a v23.len v23.cap) ∧
 ∃ a24, e5 = some a24 ∧
 ∃ v25, hcell h21 (adr (adr a24 0) 1) = some (.int .u32 v25) ∧
 ((HC PG f_chunk_Bits_Rank [.int .u32 v25, .int .i64 x2] [.c (.int .i64)] (fun (e26 : Int) h27 =>
 (hcell h27 (adr (adr a22 0) 3) = some (.slice v23.a v23.len v23.cap) ∧
 At (hnew h27 [.pointer x3] t_P_node_Node) (fun h28 =>
 (hcell h28 (adr (adr a22 0) 3) = some (.slice v23.a v23.len v23.cap) ∧
 HC PG f_slices_Insert_A_P_node_Node_P_node_Node [.slice v23.a v23.len v23.cap, .int .i64 e26, .slice (some (newA h27)) 1 1] [.c .slice] (fun (e29 : SliceV) h30 =>
 ∃ a31, e5 = some a31 ∧
 (Wr h30 (adr (adr a31 0) 3) ∧
 At (hset h30 (adr (adr a31 0) 3) (.slice e29.a e29.len e29.cap)) (fun h32 =>
 ∃ a33, e5 = some a33 ∧
 ∃ v34, hcell h32 (adr (adr a33 0) 1) = some (.int .u32 v34) ∧
 HC PG f_chunk_Bits_With [.int .u32 v34, .int .i64 x2] [.c (.int .u32)] (fun (e35 : Int) h36 =>
 ∃ a37, e5 = some a37 ∧
 (Wr h36 (adr (adr a37 0) 1) ∧
 At (hset h36 (adr (adr a37 0) 1) (.int .u32 e35)) (fun h38 =>
 K e5 h38))) h32))) h28)))) h21) ∧
 At (hnew h21 [.pointer x3] t_P_node_Node) (fun h39 =>
 (hcell h39 (adr (adr a24 0) 1) = some (.int .u32 v25) ∧
 (hcell h39 (adr (adr a22 0) 3) = some (.slice v23.a v23.len v23.cap) ∧
 HC PG f_chunk_Bits_Rank [.int .u32 v25, .int .i64 x2] [.c (.int .i64)] (fun (e40 : Int) h41 =>
 (hcell h41 (adr (adr a22 0) 3) = some (.slice v23.a v23.len v23.cap) ∧
 HC PG f_slices_Insert_A_P_node_Node_P_node_Node [.slice v23.a v23.len v23.cap, .int .i64 e40, .slice (some (newA h21)) 1 1] [.c .slice] (fun (e42 : SliceV) h43 =>
 ∃ a44, e5 = some a44 ∧
 (Wr h43 (adr (adr a44 0) 3) ∧
 At (hset h43 (adr (adr a44 0) 3) (.slice e42.a e42.len e42.cap)) (fun h45 =>
 ∃ a46, e5 = some a46 ∧
 ∃ v47, hcell h45 (adr (adr a46 0) 1) = some (.int .u32 v47) ∧
 HC PG f_chunk_Bits_With [.int .u32 v47, .int .i64 x2] [.c (.int .u32)] (fun (e48 : Int) h49 =>
 ∃ a50, e5 = some a50 ∧
 (Wr h49 (adr (adr a50 0) 1) ∧
 At (hset h49 (adr (adr a50 0) 1) (.int .u32 e48)) (fun h51 =>
 K e5 h51))) h45))) h41)) h39))))) h10)) h6) h4)) h0)
def A_node_Node_SetKid : Ann := .node (.reg [0, 1, 2, 3] (.nil)) (.node (.node (.reg [0, 1, 2, 3, 11] (.nil)) (.node (.node (.reg [8] (.nil)) (.nil)) (.nil))) (.node (.node (.reg [0, 1, 2, 3, 19] (.nil)) (.node (.node (.reg [8] (.nil)) (.nil)) (.nil))) (.node (.reg [2, 3, 9] (.nil)) (.node (.node (.reg [2, 3, 9, 30] (.nil)) (.node (.node (.reg [9] (.draw [.mk 0 32767 512 2147483648, .mk 1 32766 2147483648 4294967296, .mk 2 32765 4294967296 8589934592, .mk 4 32763 8589934592 17179869184, .mk 8 32759 17179869184 34359738368, .mk 0 32767 512 68719476736, .mk 32 32735 68719476736 137438953472, .mk 64 32703 137438953472 274877906944, .mk 128 32639 274877906944 549755813888, .mk 256 32511 549755813888 1099511627776, .mk 0 32767 4 2199023255552, .mk 1536 31231 3298534883328 4398046511104, .mk 0 32767 8 8796093022208, .mk 8191 30703 4432406249472 17592186044416, .mk 16383 20479 26388279066624 0] (.take 0 (.take 1 (.take 2 (.take 3 (.take 4 (.take 5 (.take 6 (.take 7 (.take 8 (.take 9 (.take 10 (.take 12 (.all (.last 11 (.take 13 (.all (.last 14 (.done)))))))))))))))))))) (.node (.reg [8] (.nil)) (.nil))) (.nil))) (.node (.reg [2, 3, 9] (.nil)) (.node (.reg [2, 9] (.draw [.mk 0 1048575 512 2251799813685248, .mk 0 1048575 512 4503599627370496, .mk 2 1048573 4503599627370496 9007199254740992, .mk 4 1048571 9007199254740992 18014398509481984, .mk 8 1048567 18014398509481984 36028797018963968, .mk 16 1048559 36028797018963968 72057594037927936, .mk 0 1048575 512 144115188075855872, .mk 64 1048511 144115188075855872 288230376151711744, .mk 128 1048447 288230376151711744 576460752303423488, .mk 256 1048319 576460752303423488 1152921504606846976, .mk 512 1048063 1152921504606846976 2305843009213693952, .mk 0 1048575 4 4611686018427387904, .mk 3072 1045503 6917529027641081856 9223372036854775808, .mk 0 1048575 8 18446744073709551616, .mk 8192 1040383 18446744073709551616 36893488147419103232, .mk 20512 1028063 46188917778311806976 73786976294838206464, .mk 65535 1048574 2251799813685248 147573952589676412928, .mk 131071 983039 147573952589676412928 295147905179352825856, .mk 196607 917503 295147905179352825856 590295810358705651712, .mk 327679 753663 664082786653543858176 0] (.take 0 (.take 1 (.take 2 (.take 3 (.take 4 (.take 5 (.take 6 (.take 7 (.take 8 (.take 9 (.take 10 (.take 11 (.take 13 (.all (.pick 12 (.all (.last 14 (.all (.last 15 (.take 16 (.take 17 (.take 18 (.all (.last 19 (.done)))))))))) (.last 14 (.all (.last 12 (.all (.last 15 (.take 16 (.take 17 (.take 18 (.all (.last 19 (.done)))))))))))))))))))))))))))) (.node (.reg [9] (.nil)) (.node (.reg [8] (.nil)) (.nil)))))))))
theorem H_node_Node_SetKid (x0 : Option Addr) (x1 : Option Addr) (x2 : Int) (x3 : Option Addr) {K : Tup [.c .ptr] → Heap → Prop} {h0 : Heap} (h : F_node_Node_SetKid x0 x1 x2 x3 K h0) : HC PG f_node_Node_SetKid [.pointer x0, .pointer x1, .int .i64 x2, .pointer x3] [.c .ptr] K h0 := HC.intro (an := A_node_Node_SetKid) (c := Tryz.f73.body.getD .skip) Tryz.mixed Tryz.func73 rfl Tryz.call73 (Nat.le_of_ble_eq_true rfl) (cst (by kernel_rfl) h)
def F_slices_IndexFunc_A_pair_Pair_pair_Pair (x0 : SliceV) (x1 : Value) (K : (Int) → Heap → Prop) (h0 : Heap) : Prop :=
 LoopP (fun I1 (t2 : Int) h3 =>
 CondP (decide (t2 < (x0.len : Int))) (
 (((0 : Int) ≤ t2 ∧ t2 < ((x0.len : Nat) : Int)) ∧ ∃ a4, x0.a = some a4 ∧
 ∃ v5, hcell h3 (adr (adr a4 (t2.toNat * 2)) 0) = some (.string v5) ∧
 ∃ v6, hcell h3 (adr (adr a4 (t2.toNat * 2)) 1) = some (.string v6) ∧
 HV PG x1 [.agg #[.string v5, .string v6]] [.c .bool] (fun (e7 : Bool) h8 =>
 CondP e7 (
 K t2 h8) (
 I1 (IntKind.wrap .i64 (t2 + 1)) h8)) h3)) (
 K (-1) h3)) 0 h0
def A_slices_IndexFunc_A_pair_Pair_pair_Pair : Ann := .node (.reg [0, 1] (.nil)) (.node (.node (.reg [0, 1, 7, 8] (.nil)) (.loop [0, 1, 7] [(8, .c (.int .i64))] (.node (.reg [0, 1, 7, 8, 9] (.nil)) (.node (.nil) (.node (.node (.reg [0, 1, 5, 7, 8] (.nil)) (.node (.reg [0, 1, 5, 7, 8, 16] (.nil)) (.node (.node (.reg [4] (.nil)) (.nil)) (.nil)))) (.reg [0, 1, 7, 8] (.nil))))))) (.node (.reg [4] (.nil)) (.nil)))
theorem H_slices_IndexFunc_A_pair_Pair_pair_Pair (x0 : SliceV) (x1 : Value) {K : Tup [.c (.int .i64)] → Heap → Prop} {h0 : Heap} (h : F_slices_IndexFunc_A_pair_Pair_pair_Pair x0 x1 K h0) : HC PG f_slices_IndexFunc_A_pair_Pair_pair_Pair [.slice x0.a x0.len x0.cap, x1] [.c (.int .i64)] K h0 := HC.intro (an := A_slices_IndexFunc_A_pair_Pair_pair_Pair) (c := Tryz.f74.body.getD .skip) Tryz.mixed Tryz.func74 rfl Tryz.call74 (Nat.le_of_ble_eq_true rfl) (cst (by kernel_rfl) h)
def F_build_kids_1 (x0 : ByteArray × ByteArray) (y0 : Addr) (y1 : Addr) (K : (Bool) → Heap → Prop) (h0 : Heap) : Prop :=
 At (hnew h0 [.string x0.1, .string x0.2] t_pair_Pair) (fun h1 =>
 ∃ v2, hcell h1 (adr (newA h0) 0) = some (.string v2) ∧
 ∃ v3, hcell h1 y0 = some (.int .i64 v3) ∧
 ∃ b4, (0 : Int) ≤ v3 ∧ v2[v3.toNat]? = some b4 ∧
 ∃ v5, hcell h1 y1 = some (.int .u8 v5) ∧
 K ((b4.toNat : Int) != v5) h1)
def A_build_kids_1 : Ann := .node (.reg [1, 2, 3] (.nil)) (.node (.reg [4] (.draw [.mk 0 127 8 32, .mk 1 126 32 64, .mk 0 127 2 128, .mk 6 121 192 256, .mk 0 127 4 512, .mk 24 103 768 1024, .mk 63 95 1024 16] (.take 0 (.take 1 (.take 2 (.take 3 (.take 4 (.take 5 (.take 6 (.done)))))))))) (.nil))
theorem H_build_kids_1 (x0 : ByteArray × ByteArray) (y0 : Addr) (y1 : Addr) {K : Tup [.c .bool] → Heap → Prop} {h0 : Heap} (h : F_build_kids_1 x0 y0 y1 K h0) : HC PG f_build_kids_1 [.agg #[.string x0.1, .string x0.2], .pointer (some y0), .pointer (some y1)] [.c .bool] K h0 := HC.intro (an := A_build_kids_1) (c := Tryz.f75.body.getD .skip) Tryz.mixed Tryz.func75 rfl Tryz.call75 (Nat.le_of_ble_eq_true rfl) (cst (by kernel_rfl) h)
def F_build_branch (x0 : SliceV) (x1 : Int) (K : (Option Addr) → Heap → Prop) (h0 : Heap) : Prop :=
 (((0 : Int) ≤ (0 : Int) ∧ (0 : Int) < ((x0.len : Nat) : Int)) ∧ ∃ a1, x0.a = some a1 ∧
 ∃ v2, hcell h0 (adr (adr a1 ((0 : Int).toNat * 2)) 0) = some (.string v2) ∧
 (((0 : Int) ≤ (IntKind.wrap .i64 ((x0.len : Int) - 1)) ∧ (IntKind.wrap .i64 ((x0.len : Int) - 1)) < ((x0.len : Nat) : Int)) ∧ ∃ a3, x0.a = some a3 ∧
 ∃ v4, hcell h0 (adr (adr a3 ((IntKind.wrap .i64 ((x0.len : Int) - 1)).toNat * 2)) 0) = some (.string v4) ∧
 HC PG f_twig_Common [.string v2, .string v4] [.c (.int .i64)] (fun (e5 : Int) h6 =>
 (((0 : Int) ≤ (0 : Int) ∧ (0 : Int) < ((x0.len : Nat) : Int)) ∧ ∃ a7, x0.a = some a7 ∧
 ∃ v8, hcell h6 (adr (adr a7 ((0 : Int).toNat * 2)) 0) = some (.string v8) ∧
 (((0 : Int) ≤ e5 ∧ e5 ≤ ((v8.size : Nat) : Int)) ∧
 (((0 : Int) ≤ x1 ∧ x1 ≤ ((e5.toNat : Nat) : Int)) ∧
 (((0 : Int) ≤ (0 : Int) ∧ (0 : Int) < ((x0.len : Nat) : Int)) ∧ ∃ a9, x0.a = some a9 ∧
 ∃ v10, hcell h6 (adr (adr a9 ((0 : Int).toNat * 2)) 0) = some (.string v10) ∧
 Join (fun (t14 : SliceV × ByteArray) h15 =>
 HC PG f_build_kids [.slice t14.1.a t14.1.len t14.1.cap, .int .i64 e5] [.c .slice] (fun (e16 : SliceV) h17 =>
 HC PG f_radix_Make [.string (v8.extract x1.toNat e5.toNat), .bool ((v10.size : Int) == e5), .string t14.2, .slice e16.a e16.len e16.cap] [.c .ptr] (fun (e18 : Option Addr) h19 =>
 K e18 h19) h17) h15) (fun J11 =>
 CondP ((v10.size : Int) == e5) (
 (((0 : Int) ≤ (0 : Int) ∧ (0 : Int) < ((x0.len : Nat) : Int)) ∧ ∃ a12, x0.a = some a12 ∧
 ∃ v13, hcell h6 (adr (adr a12 ((0 : Int).toNat * 2)) 1) = some (.string v13) ∧
 (((0 : Int) ≤ (1 : Int) ∧ (1 : Int) ≤ ((x0.len : Nat) : Int)) ∧
 J11 (⟨subAddr x0.a ((1 : Int).toNat) x0.cap 2, x0.len - ((1 : Int).toNat), x0.cap - ((1 : Int).toNat)⟩, v13) h6))) (
 J11 (x0, (⟨#[]⟩ : ByteArray)) h6))))))) h0))
def A_build_branch : Ann := .node (.reg [0, 1] (.nil)) (.node (.reg [0, 1, 5] (.draw [.mk 0 8191 1 512, .mk 1 8190 512 1024, .mk 2 8189 1024 2048, .mk 4 8187 2048 4096, .mk 0 8191 1 8192, .mk 0 8191 1 16384, .mk 32 8159 16384 32768, .mk 64 8127 32768 65536, .mk 144 8047 73728 131072, .mk 256 7935 131072 262144, .mk 512 7679 262144 524288, .mk 1032 7159 528384 1048576, .mk 4095 6143 1048576 32] (.take 0 (.take 1 (.take 2 (.take 3 (.take 4 (.take 5 (.take 6 (.take 7 (.take 8 (.take 9 (.take 10 (.all (.last 11 (.take 12 (.done))))))))))))))))) (.node (.reg [0, 5, 6, 7, 8] (.draw [.mk 0 131071 1 2097152, .mk 1 131070 2097152 4194304, .mk 2 131069 4194304 8388608, .mk 4 131067 8388608 16777216, .mk 0 131071 2 33554432, .mk 0 131071 32 67108864, .mk 56 131015 117440512 134217728, .mk 0 131071 1 268435456, .mk 128 130943 268435456 536870912, .mk 256 130815 536870912 1073741824, .mk 512 130559 1073741824 2147483648, .mk 1024 130047 2147483648 4294967296, .mk 0 131071 32 8589934592, .mk 6144 124927 12884901888 17179869184, .mk 127 131007 134217728 64, .mk 16511 131071 0 128, .mk 65535 122879 17179869184 256] (.take 0 (.take 1 (.take 2 (.take 3 (.take 4 (.take 5 (.take 6 (.take 7 (.take 8 (.take 9 (.take 10 (.take 11 (.take 12 (.take 13 (.take 14 (.take 15 (.take 16 (.done)))))))))))))))))))) (.join [5, 6, 8] [(0, .c .slice), (7, .c .str)] (.node (.reg [0, 5, 6, 7, 8, 35] (.nil)) (.node (.reg [0, 5, 6, 7, 8] (.draw [.mk 0 255 1 68719476736, .mk 1 254 68719476736 137438953472, .mk 2 253 137438953472 274877906944, .mk 4 251 274877906944 549755813888, .mk 0 255 1 1099511627776, .mk 16 239 1099511627776 2199023255552, .mk 15 247 549755813888 128, .mk 127 206 2199023255552 1] (.take 0 (.take 1 (.take 2 (.take 3 (.take 4 (.take 5 (.take 6 (.take 7 (.done))))))))))) (.nil))) (.node (.reg [4] (.nil)) (.nil)))))
theorem H_build_branch (x0 : SliceV) (x1 : Int) {K : Tup [.c .ptr] → Heap → Prop} {h0 : Heap} (h : F_build_branch x0 x1 K h0) : HC PG f_build_branch [.slice x0.a x0.len x0.cap, .int .i64 x1] [.c .ptr] K h0 := HC.intro (an := A_build_branch) (c := Tryz.f76.body.getD .skip) Tryz.mixed Tryz.func76 rfl Tryz.call76 (Nat.le_of_ble_eq_true rfl) (cst (by kernel_rfl) h)
def F_slices_stableCmpFunc_pair_Pair (x0 : SliceV) (x1 : Int) (x2 : Value) (K : (Unit) → Heap → Prop) (h0 : Heap) : Prop :=
 LoopP (fun I1 (t2 : Int × Int) h3 =>
 CondP (decide (t2.2 ≤ x1)) (
 HC PG f_slices_insertionSortCmpFunc_pair_Pair [.slice x0.a x0.len x0.cap, .int .i64 t2.1, .int .i64 t2.2, x2] [] (fun (e4 : Unit) h5 =>
 I1 (t2.2, IntKind.wrap .i64 (t2.2 + 20)) h5) h3) (
 HC PG f_slices_insertionSortCmpFunc_pair_Pair [.slice x0.a x0.len x0.cap, .int .i64 t2.1, .int .i64 x1, x2] [] (fun (e6 : Unit) h7 =>
 LoopP (fun I8 (t9 : Int) h10 =>
 CondP (decide (t9 < x1)) (
 LoopP (fun I11 (t12 : Int × Int) h13 =>
 CondP (decide (t12.2 ≤ x1)) (
 HC PG f_slices_symMergeCmpFunc_pair_Pair [.slice x0.a x0.len x0.cap, .int .i64 t12.1, .int .i64 (IntKind.wrap .i64 (t12.1 + t9)), .int .i64 t12.2, x2] [] (fun (e14 : Unit) h15 =>
 I11 (t12.2, IntKind.wrap .i64 (t12.2 + (IntKind.wrap .i64 (2 * t9)))) h15) h13) (
 Join (fun (t19 : Unit) h20 =>
 I8 (IntKind.wrap .i64 (t9 * 2)) h20) (fun J16 =>
 CondP (decide ((IntKind.wrap .i64 (t12.1 + t9)) < x1)) (
 HC PG f_slices_symMergeCmpFunc_pair_Pair [.slice x0.a x0.len x0.cap, .int .i64 t12.1, .int .i64 (IntKind.wrap .i64 (t12.1 + t9)), .int .i64 x1, x2] [] (fun (e17 : Unit) h18 =>
 J16 () h18) h13) (
 J16 () h13)))) (0, IntKind.wrap .i64 (2 * t9)) h10) (
 K () h10)) 20 h7) h3)) (0, 20) h0
def A_slices_stableCmpFunc_pair_Pair : Ann := .node (.reg [0, 1, 2, 6] (.nil)) (.node (.reg [0, 1, 2, 6, 7, 8] (.nil)) (.node (.loop [0, 1, 2, 6] [(7, .c (.int .i64)), (8, .c (.int .i64))] (.node (.node (.reg [0, 1, 2, 6, 7, 8, 13] (.nil)) (.nil)) (.node (.reg [0, 1, 2, 6, 8] (.nil)) (.node (.reg [0, 1, 2, 6, 7, 8] (.nil)) (.reg [0, 1, 2, 6, 7, 8] (.nil)))))) (.node (.reg [0, 1, 2, 6] (.nil)) (.loop [0, 1, 2] [(6, .c (.int .i64))] (.node (.node (.reg [0, 1, 2, 6, 30] (.nil)) (.nil)) (.node (.reg [0, 1, 2, 6, 7, 8] (.nil)) (.node (.loop [0, 1, 2, 6] [(7, .c (.int .i64)), (8, .c (.int .i64))] (.node (.node (.reg [0, 1, 2, 6, 7, 8, 35] (.nil)) (.nil)) (.node (.reg [0, 1, 2, 6, 8] (.nil)) (.node (.reg [0, 1, 2, 6, 7, 8] (.nil)) (.reg [0, 1, 2, 6, 7, 8] (.nil)))))) (.join [0, 1, 2, 6] [] (.node (.reg [0, 1, 2, 6, 7, 9] (.nil)) (.node (.reg [0, 1, 2, 6, 7, 9, 54] (.nil)) (.node (.reg [0, 1, 2, 6] (.nil)) (.nil)))) (.reg [0, 1, 2, 6] (.nil))))))))))
theorem H_slices_stableCmpFunc_pair_Pair (x0 : SliceV) (x1 : Int) (x2 : Value) {K : Tup [] → Heap → Prop} {h0 : Heap} (h : F_slices_stableCmpFunc_pair_Pair x0 x1 x2 K h0) : HC PG f_slices_stableCmpFunc_pair_Pair [.slice x0.a x0.len x0.cap, .int .i64 x1, x2] [] K h0 := HC.intro (an := A_slices_stableCmpFunc_pair_Pair) (c := Tryz.f77.body.getD .skip) Tryz.mixed Tryz.func77 rfl Tryz.call77 (Nat.le_of_ble_eq_true rfl) (cst (by kernel_rfl) h)
def F_cmp_Compare_str (x0 : ByteArray) (x1 : ByteArray) (K : (Int) → Heap → Prop) (h0 : Heap) : Prop :=
 HC PG f_cmp_isNaN_str [.string x0] [.c .bool] (fun (e1 : Bool) h2 =>
 HC PG f_cmp_isNaN_str [.string x1] [.c .bool] (fun (e3 : Bool) h4 =>
 CondP e1 (
 CondP e3 (
 K 0 h4) (
 K (-1) h4)) (
 CondP e3 (
 K 1 h4) (
 CondP (Op.bytesLess x0.toList x1.toList) (
 K (-1) h4) (
 CondP (!(Op.bytesLess x0.toList x1.toList || x0.toList == x1.toList)) (
 K 1 h4) (
 K 0 h4))))) h2) h0
def A_cmp_Compare_str : Ann := .node (.reg [0, 1] (.nil)) (.node (.reg [0, 1, 5] (.nil)) (.node (.reg [0, 1, 5, 6] (.nil)) (.node (.node (.reg [0, 1, 6, 11] (.nil)) (.node (.node (.node (.reg [12] (.nil)) (.node (.node (.reg [4] (.nil)) (.nil)) (.nil))) (.node (.reg [4] (.nil)) (.nil))) (.nil))) (.node (.node (.reg [0, 1, 13] (.nil)) (.node (.node (.reg [4] (.nil)) (.nil)) (.nil))) (.node (.node (.reg [0, 1, 16] (.nil)) (.node (.node (.reg [4] (.nil)) (.nil)) (.nil))) (.node (.node (.reg [19] (.nil)) (.node (.node (.reg [4] (.nil)) (.nil)) (.nil))) (.node (.reg [4] (.nil)) (.nil))))))))
theorem H_cmp_Compare_str (x0 : ByteArray) (x1 : ByteArray) {K : Tup [.c (.int .i64)] → Heap → Prop} {h0 : Heap} (h : F_cmp_Compare_str x0 x1 K h0) : HC PG f_cmp_Compare_str [.string x0, .string x1] [.c (.int .i64)] K h0 := HC.intro (an := A_cmp_Compare_str) (c := Tryz.f78.body.getD .skip) Tryz.mixed Tryz.func78 rfl Tryz.call78 (Nat.le_of_ble_eq_true rfl) (cst (by kernel_rfl) h)
def F_slices_Collect_pair_Pair (x0 : Value) (K : (SliceV) → Heap → Prop) (h0 : Heap) : Prop :=
 HC PG f_slices_AppendSeq_A_pair_Pair_pair_Pair [.slice none 0 0, x0] [.c .slice] (fun (e1 : SliceV) h2 =>
 K e1 h2) h0
def A_slices_Collect_pair_Pair : Ann := .node (.reg [0] (.nil)) (.node (.reg [2] (.nil)) (.nil))
theorem H_slices_Collect_pair_Pair (x0 : Value) {K : Tup [.c .slice] → Heap → Prop} {h0 : Heap} (h : F_slices_Collect_pair_Pair x0 K h0) : HC PG f_slices_Collect_pair_Pair [x0] [.c .slice] K h0 := HC.intro (an := A_slices_Collect_pair_Pair) (c := Tryz.f79.body.getD .skip) Tryz.mixed Tryz.func79 rfl Tryz.call79 (Nat.le_of_ble_eq_true rfl) (cst (by kernel_rfl) h)
def F_span_Each (x0 : Option Addr) (x1 : ByteArray × ByteArray × Bool) (x2 : Bool) (K : (Value) → Heap → Prop) (h0 : Heap) : Prop :=
 At (hnew h0 [.pointer x0] t_P_radix_Node) (fun h1 =>
 At (hnew h1 [.string x1.1, .string x1.2.1, .bool x1.2.2] t_span_Span) (fun h2 =>
 At (hnew h2 [.bool x2] t_bool) (fun h3 =>
 K (.func (.func f_span_Each_1) #[] #[.pointer (some (newA h0)), .pointer (some (newA h1)), .pointer (some (newA h2))]) h3)))
def A_span_Each : Ann := .node (.reg [3, 4, 5] (.nil)) (.node (.reg [6] (.nil)) (.nil))
theorem H_span_Each (x0 : Option Addr) (x1 : ByteArray × ByteArray × Bool) (x2 : Bool) {K : Tup [.c .raw] → Heap → Prop} {h0 : Heap} (h : F_span_Each x0 x1 x2 K h0) : HC PG f_span_Each [.pointer x0, .agg #[.string x1.1, .string x1.2.1, .bool x1.2.2], .bool x2] [.c .raw] K h0 := HC.intro (an := A_span_Each) (c := Tryz.f80.body.getD .skip) Tryz.mixed Tryz.func80 rfl Tryz.call80 (Nat.le_of_ble_eq_true rfl) (cst (by kernel_rfl) h)
def F_walk_All (x0 : Option Addr) (K : (Value) → Heap → Prop) (h0 : Heap) : Prop :=
 At (hnew h0 [.pointer x0] t_P_node_Node) (fun h1 =>
 K (.func (.func f_walk_All_1) #[] #[.pointer (some (newA h0))]) h1)
def A_walk_All : Ann := .node (.reg [1] (.nil)) (.node (.reg [2] (.nil)) (.nil))
theorem H_walk_All (x0 : Option Addr) {K : Tup [.c .raw] → Heap → Prop} {h0 : Heap} (h : F_walk_All x0 K h0) : HC PG f_walk_All [.pointer x0] [.c .raw] K h0 := HC.intro (an := A_walk_All) (c := Tryz.f81.body.getD .skip) Tryz.mixed Tryz.func81 rfl Tryz.call81 (Nat.le_of_ble_eq_true rfl) (cst (by kernel_rfl) h)
def F_radix_some (x0 : Option Addr) (K : (Option Addr) → Heap → Prop) (h0 : Heap) : Prop :=
 CondP x0.isNone (
 HC PG f_radix_Empty [] [.c .ptr] (fun (e1 : Option Addr) h2 =>
 K e1 h2) h0) (
 K x0 h0)
def A_radix_some : Ann := .node (.reg [0] (.nil)) (.node (.node (.reg [0, 4] (.nil)) (.node (.node (.reg [2] (.nil)) (.nil)) (.nil))) (.node (.reg [2] (.nil)) (.nil)))
theorem H_radix_some (x0 : Option Addr) {K : Tup [.c .ptr] → Heap → Prop} {h0 : Heap} (h : F_radix_some x0 K h0) : HC PG f_radix_some [.pointer x0] [.c .ptr] K h0 := HC.intro (an := A_radix_some) (c := Tryz.f86.body.getD .skip) Tryz.mixed Tryz.func86 rfl Tryz.call86 (Nat.le_of_ble_eq_true rfl) (cst (by kernel_rfl) h)
def F_radix_Node_put (x0 : Option Addr) (x1 : Option Addr) (x2 : ByteArray) (x3 : ByteArray) (K : ((Option Addr) × Bool × Bool) → Heap → Prop) (h0 : Heap) : Prop :=
 CondP (x2.toList == (⟨#[]⟩ : ByteArray).toList) (
 Join (fun (t6 : Bool) h7 =>
 CondP t6 (
 K (x0, false, false) h7) (
 ∃ a8, x0 = some a8 ∧
 ∃ v9, hcell h7 (adr a8 1) = some (.bool v9) ∧
 HC PG f_radix_Node_own [.pointer x0, .pointer x1] [.c .ptr] (fun (e10 : Option Addr) h11 =>
 (hcell h11 (adr a8 1) = some (.bool v9) ∧
 HC PG f_radix_Node_valued [.pointer e10, .string x3] [.c .ptr] (fun (e12 : Option Addr) h13 =>
 (hcell h13 (adr a8 1) = some (.bool v9) ∧
 K (e12, !v9, true) h13)) h11)) h7)) (fun J1 =>
 ∃ a2, x0 = some a2 ∧
 ∃ v3, hcell h0 (adr a2 1) = some (.bool v3) ∧
 CondP v3 (
 ∃ a4, x0 = some a4 ∧
 ∃ v5, hcell h0 (adr a4 2) = some (.string v5) ∧
 J1 (v5.toList == x3.toList) h0) (
 J1 false h0))) (
 ∃ b14, (0 : Int) ≤ (0 : Int) ∧ x2[(0 : Int).toNat]? = some b14 ∧
 HC PG f_radix_Node_find [.pointer x0, .int .u8 (b14.toNat : Int)] [.c (.int .i64), .c .bool] (fun (e15 : Int × Bool) h16 =>
 CondP (!e15.2) (
 HC PG f_radix_Node_own [.pointer x0, .pointer x1] [.c .ptr] (fun (e17 : Option Addr) h18 =>
 ∃ a19, e17 = some a19 ∧
 ∃ v20 : SliceV, hcell h18 (adr a19 3) = some (.slice v20.a v20.len v20.cap) ∧
 HC PG f_radix_fresh [.pointer x1, .string x2, .string x3] [.c .ptr] (fun (e21 : Option Addr) h22 =>
 (hcell h22 (adr a19 3) = some (.slice v20.a v20.len v20.cap) ∧
 At (hnew h22 [.pointer e21] t_P_radix_Node) (fun h23 =>
 (hcell h23 (adr a19 3) = some (.slice v20.a v20.len v20.cap) ∧
 HC PG f_slices_Insert_A_P_radix_Node_P_radix_Node [.slice v20.a v20.len v20.cap, .int .i64 e15.1, .slice (some (newA h22)) 1 1] [.c .slice] (fun (e24 : SliceV) h25 =>
 ∃ a26, e17 = some a26 ∧
 (Wr h25 (adr a26 3) ∧
 At (hset h25 (adr a26 3) (.slice e24.a e24.len e24.cap)) (fun h27 =>
 K (e17, true, true) h27))) h23)))) h18) h16) (
 ∃ a28, x0 = some a28 ∧
 ∃ v29 : SliceV, hcell h16 (adr a28 3) = some (.slice v29.a v29.len v29.cap) ∧
 (((0 : Int) ≤ e15.1 ∧ e15.1 < ((v29.len : Nat) : Int)) ∧ ∃ a30, v29.a = some a30 ∧
 ∃ v31, hcell h16 (adr a30 (e15.1.toNat * 1)) = some (.pointer v31) ∧
 ∃ a32, v31 = some a32 ∧
 ∃ v33, hcell h16 (adr a32 0) = some (.string v33) ∧
 HC PG f_twig_Common [.string x2, .string v33] [.c (.int .i64)] (fun (e34 : Int) h35 =>
 Join (fun (t41 : Option Addr) h42 =>
 (((0 : Int) ≤ e34 ∧ e34 ≤ ((x2.size : Nat) : Int)) ∧
 HC PG f_radix_Node_put [.pointer t41, .pointer x1, .string (x2.extract e34.toNat x2.size), .string x3] [.c .ptr, .c .bool, .c .bool] (fun (e43 : (Option Addr) × Bool × Bool) h44 =>
 CondP (!e43.2.2) (
 K (x0, false, false) h44) (
 HC PG f_radix_Node_own [.pointer x0, .pointer x1] [.c .ptr] (fun (e45 : Option Addr) h46 =>
 ∃ a47, e45 = some a47 ∧
 ∃ v48 : SliceV, hcell h46 (adr a47 3) = some (.slice v48.a v48.len v48.cap) ∧
 (((0 : Int) ≤ e15.1 ∧ e15.1 < ((v48.len : Nat) : Int)) ∧ ∃ a49, v48.a = some a49 ∧
 (Wr h46 (adr a49 (e15.1.toNat * 1)) ∧
 At (hset h46 (adr a49 (e15.1.toNat * 1)) (.pointer e43.1)) (fun h50 =>
 K (e45, e43.2.1, true) h50)))) h44)) h42)) (fun J36 =>
 ∃ a37, v31 = some a37 ∧
 ∃ v38, hcell h35 (adr a37 0) = some (.string v38) ∧
 CondP (decide (e34 < (v38.size : Int))) (
 HC PG f_radix_Node_split [.pointer v31, .pointer x1, .int .i64 e34] [.c .ptr] (fun (e39 : Option Addr) h40 =>
 J36 e39 h40) h35) (
 J36 v31 h35))) h16))) h0)
def A_radix_Node_put : Ann := .node (.reg [0, 1, 2, 3] (.nil)) (.node (.node (.reg [0, 1, 2, 3, 21] (.nil)) (.node (.node (.join [0, 1, 3] [(33, .c .bool)] (.reg [0, 1, 3, 33] (.nil)) (.node (.node (.reg [8, 9, 10] (.nil)) (.nil)) (.nil))) (.node (.reg [8, 9, 10] (.draw [.mk 0 8191 1 34359738368, .mk 0 8191 2 68719476736, .mk 3 8188 103079215104 137438953472, .mk 0 8191 8 274877906944, .mk 12 8179 412316860416 549755813888, .mk 0 8191 1 1099511627776, .mk 32 8159 1099511627776 2199023255552, .mk 64 8127 2199023255552 4398046511104, .mk 128 8063 4398046511104 8796093022208, .mk 256 7935 8796093022208 17592186044416, .mk 31 8175 549755813888 256, .mk 2047 7679 17592186044416 512, .mk 4095 8191 0 1024] (.take 0 (.take 1 (.take 3 (.take 5 (.take 6 (.take 7 (.take 8 (.take 9 (.all (.last 2 (.all (.last 4 (.take 10 (.take 11 (.take 12 (.done)))))))))))))))))) (.nil))) (.nil))) (.node (.reg [0, 1, 2, 3, 11, 12] (.nil)) (.node (.node (.reg [0, 1, 2, 3, 11, 53] (.nil)) (.node (.node (.reg [1, 2, 3, 11, 13] (.nil)) (.node (.reg [13] (.draw [.mk 0 32767 8192 144115188075855872, .mk 0 32767 8192 288230376151711744, .mk 2 32765 288230376151711744 576460752303423488, .mk 4 32763 576460752303423488 1152921504606846976, .mk 8 32759 1152921504606846976 2305843009213693952, .mk 0 32767 2048 4611686018427387904, .mk 0 32767 2 9223372036854775808, .mk 0 32767 4 18446744073709551616, .mk 0 32767 8 36893488147419103232, .mk 448 32319 64563604257983430656 73786976294838206464, .mk 512 32255 73786976294838206464 147573952589676412928, .mk 1584 31695 154491481617317494784 295147905179352825856, .mk 4095 32766 144115188075855872 590295810358705651712, .mk 8191 28671 590295810358705651712 1180591620717411303424, .mk 12287 22527 1475739525896764129280 0] (.take 0 (.take 1 (.take 2 (.take 3 (.take 4 (.take 5 (.take 6 (.take 7 (.take 8 (.all (.last 9 (.all (.last 10 (.all (.last 11 (.take 12 (.take 13 (.all (.last 14 (.done)))))))))))))))))))))) (.node (.reg [8, 9, 10] (.nil)) (.nil)))) (.nil))) (.node (.reg [0, 1, 2, 3, 11, 14] (.nil)) (.node (.reg [0, 1, 2, 3, 11, 14, 15] (.nil)) (.join [0, 1, 2, 3, 11, 15] [(14, .c .ptr)] (.node (.reg [0, 1, 2, 3, 11, 14, 15, 91] (.nil)) (.node (.reg [0, 1, 2, 3, 11, 14, 15] (.nil)) (.nil))) (.node (.reg [0, 1, 11, 16, 17, 18] (.nil)) (.node (.node (.reg [0, 1, 11, 16, 17, 108] (.nil)) (.node (.node (.reg [8, 9, 10] (.nil)) (.nil)) (.nil))) (.node (.reg [11, 16, 17, 19] (.nil)) (.node (.reg [17, 19] (.nil)) (.node (.reg [8, 9, 10] (.nil)) (.nil))))))))))))
theorem H_radix_Node_put (x0 : Option Addr) (x1 : Option Addr) (x2 : ByteArray) (x3 : ByteArray) {K : Tup [.c .ptr, .c .bool, .c .bool] → Heap → Prop} {h0 : Heap} (h : F_radix_Node_put x0 x1 x2 x3 K h0) : HC PG f_radix_Node_put [.pointer x0, .pointer x1, .string x2, .string x3] [.c .ptr, .c .bool, .c .bool] K h0 := HC.intro (an := A_radix_Node_put) (c := Tryz.f87.body.getD .skip) Tryz.mixed Tryz.func87 rfl Tryz.call87 (Nat.le_of_ble_eq_true rfl) (cst (by kernel_rfl) h)
def F_champ_work_put (x0 : Int × Int × Int × (Option Addr) × ByteArray × Int) (x1 : Option Addr) (x2 : ByteArray × ByteArray) (x3 : Int) (K : ((Option Addr) × Bool × Bool) → Heap → Prop) (h0 : Heap) : Prop :=
 At (hnew h0 [.int .u64 x0.1, .int .u64 x0.2.1, .int .u64 x0.2.2.1, .pointer x0.2.2.2.1, .string x0.2.2.2.2.1, .int .u64 x0.2.2.2.2.2] t_champ_work) (fun h1 =>
 At (hnew h1 [.string x2.1, .string x2.2] t_pair_Pair) (fun h2 =>
 HC PG f_node_Node_IsBucket [.pointer x1] [.c .bool] (fun (e3 : Bool) h4 =>
 CondP e3 (
 ∃ v5, hcell h4 (adr (newA h1) 0) = some (.string v5) ∧
 HC PG f_champ_in [.pointer x1, .string v5] [.c .str, .c .bool] (fun (e6 : ByteArray × Bool) h7 =>
 Join (fun (t10 : Bool) h11 =>
 CondP t10 (
 K (x1, false, false) h11) (
 ∃ v12, hcell h11 (adr (newA h0) 3) = some (.pointer v12) ∧
 ∃ v13, hcell h11 (adr (newA h1) 0) = some (.string v13) ∧
 ∃ v14, hcell h11 (adr (newA h1) 1) = some (.string v14) ∧
 HC PG f_node_Node_Put [.pointer x1, .pointer v12, .agg #[.string v13, .string v14]] [.c .ptr] (fun (e15 : Option Addr) h16 =>
 K (e15, !e6.2, true) h16) h11)) (fun J8 =>
 CondP e6.2 (
 ∃ v9, hcell h7 (adr (newA h1) 1) = some (.string v9) ∧
 J8 (e6.1.toList == v9.toList) h7) (
 J8 false h7))) h4) (
 ∃ v17, hcell h4 (adr (newA h0) 5) = some (.int .u64 v17) ∧
 HC PG f_chunk_At [.int .u64 v17, .int .i64 x3] [.c (.int .i64)] (fun (e18 : Int) h19 =>
 HC PG f_node_Node_Pair [.pointer x1, .int .i64 e18] [.agg [.str, .str], .c .bool] (fun (e20 : (ByteArray × ByteArray) × Bool) h21 =>
 At (hnew h21 [.string (⟨#[]⟩ : ByteArray), .string (⟨#[]⟩ : ByteArray)] t_pair_Pair) (fun h22 =>
 (WrS h22 (some (newA h21)) 0 [.string e20.1.1, .string e20.1.2] ∧
 At (hsetL h22 (newA h21) 0 [.string e20.1.1, .string e20.1.2]) (fun h23 =>
 CondP e20.2 (
 ∃ v24, hcell h23 (adr (newA h21) 0) = some (.string v24) ∧
 ∃ v25, hcell h23 (adr (newA h21) 1) = some (.string v25) ∧
 ∃ v26, hcell h23 (adr (newA h1) 0) = some (.string v26) ∧
 ∃ v27, hcell h23 (adr (newA h1) 1) = some (.string v27) ∧
 CondP ((v24.toList == v26.toList) && ((v25.toList == v27.toList) && true)) (
 K (x1, false, false) h23) (
 ∃ v28, hcell h23 (adr (newA h21) 0) = some (.string v28) ∧
 ∃ v29, hcell h23 (adr (newA h1) 0) = some (.string v29) ∧
 CondP (v28.toList == v29.toList) (
 ∃ v30, hcell h23 (adr (newA h0) 3) = some (.pointer v30) ∧
 ∃ v31, hcell h23 (adr (newA h1) 0) = some (.string v31) ∧
 ∃ v32, hcell h23 (adr (newA h1) 1) = some (.string v32) ∧
 HC PG f_node_Node_SetPair [.pointer x1, .pointer v30, .int .i64 e18, .agg #[.string v31, .string v32]] [.c .ptr] (fun (e33 : Option Addr) h34 =>
 K (e33, false, true) h34) h23) (
 ∃ v35, hcell h23 (adr (newA h0) 3) = some (.pointer v35) ∧
 ∃ v36, hcell h23 (adr (newA h0) 0) = some (.int .u64 v36) ∧
 ∃ v37, hcell h23 (adr (newA h0) 1) = some (.int .u64 v37) ∧
 ∃ v38, hcell h23 (adr (newA h0) 2) = some (.int .u64 v38) ∧
 ∃ v39, hcell h23 (adr (newA h0) 3) = some (.pointer v39) ∧
 ∃ v40, hcell h23 (adr (newA h0) 4) = some (.string v40) ∧
 ∃ v41, hcell h23 (adr (newA h0) 5) = some (.int .u64 v41) ∧
 ∃ v42, hcell h23 (adr (newA h21) 0) = some (.string v42) ∧
 ∃ v43, hcell h23 (adr (newA h21) 1) = some (.string v43) ∧
 ∃ v44, hcell h23 (adr (newA h1) 0) = some (.string v44) ∧
 ∃ v45, hcell h23 (adr (newA h1) 1) = some (.string v45) ∧
 HC PG f_champ_work_both [.agg #[.int .u64 v36, .int .u64 v37, .int .u64 v38, .pointer v39, .string v40, .int .u64 v41], .agg #[.string v42, .string v43], .agg #[.string v44, .string v45], .int .i64 (IntKind.wrap .i64 (x3 + 1))] [.c .ptr] (fun (e46 : Option Addr) h47 =>
 (hcell h47 (adr (newA h0) 3) = some (.pointer v35) ∧
 HC PG f_node_Node_SetKid [.pointer x1, .pointer v35, .int .i64 e18, .pointer e46] [.c .ptr] (fun (e48 : Option Addr) h49 =>
 K (e48, true, true) h49) h47)) h23))) (
 HC PG f_node_Node_Kid [.pointer x1, .int .i64 e18] [.c .ptr, .c .bool] (fun (e50 : (Option Addr) × Bool) h51 =>
 CondP (!e50.2) (
 ∃ v52, hcell h51 (adr (newA h0) 3) = some (.pointer v52) ∧
 ∃ v53, hcell h51 (adr (newA h1) 0) = some (.string v53) ∧
 ∃ v54, hcell h51 (adr (newA h1) 1) = some (.string v54) ∧
 HC PG f_node_Node_SetPair [.pointer x1, .pointer v52, .int .i64 e18, .agg #[.string v53, .string v54]] [.c .ptr] (fun (e55 : Option Addr) h56 =>
 K (e55, true, true) h56) h51) (
 ∃ v57, hcell h51 (adr (newA h0) 0) = some (.int .u64 v57) ∧
 ∃ v58, hcell h51 (adr (newA h0) 1) = some (.int .u64 v58) ∧
 ∃ v59, hcell h51 (adr (newA h0) 2) = some (.int .u64 v59) ∧
 ∃ v60, hcell h51 (adr (newA h0) 3) = some (.pointer v60) ∧
 ∃ v61, hcell h51 (adr (newA h0) 4) = some (.string v61) ∧
 ∃ v62, hcell h51 (adr (newA h0) 5) = some (.int .u64 v62) ∧
 ∃ v63, hcell h51 (adr (newA h1) 0) = some (.string v63) ∧
 ∃ v64, hcell h51 (adr (newA h1) 1) = some (.string v64) ∧
 HC PG f_champ_work_put [.agg #[.int .u64 v57, .int .u64 v58, .int .u64 v59, .pointer v60, .string v61, .int .u64 v62], .pointer e50.1, .agg #[.string v63, .string v64], .int .i64 (IntKind.wrap .i64 (x3 + 1))] [.c .ptr, .c .bool, .c .bool] (fun (e65 : (Option Addr) × Bool × Bool) h66 =>
 CondP (!e65.2.2) (
 K (x1, false, false) h66) (
 ∃ v67, hcell h66 (adr (newA h0) 3) = some (.pointer v67) ∧
 HC PG f_node_Node_SetKid [.pointer x1, .pointer v67, .int .i64 e18, .pointer e65.1] [.c .ptr] (fun (e68 : Option Addr) h69 =>
 K (e68, e65.2.1, true) h69) h66)) h51)) h23))))) h19) h4)) h2))
def A_champ_work_put : Ann := .node (.reg [1, 3, 4, 6] (.nil)) (.node (.node (.reg [1, 3, 4, 6, 22] (.nil)) (.node (.node (.reg [1, 4, 6, 11, 12] (.nil)) (.node (.join [1, 4, 6, 12] [(36, .c .bool)] (.reg [1, 4, 6, 12, 36] (.nil)) (.node (.node (.reg [8, 9, 10] (.nil)) (.nil)) (.nil))) (.node (.reg [8, 9, 10] (.nil)) (.nil)))) (.nil))) (.node (.reg [1, 3, 4, 6, 13] (.nil)) (.node (.node (.reg [1, 3, 4, 6, 13, 14, 15] (.nil)) (.node (.reg [1, 3, 4, 6, 13, 14, 55] (.nil)) (.node (.node (.node (.reg [1, 3, 4, 6, 13, 14, 56] (.nil)) (.node (.node (.reg [8, 9, 10] (.nil)) (.nil)) (.node (.reg [1, 3, 4, 6, 13, 14, 61] (.nil)) (.node (.node (.reg [8, 9, 10] (.nil)) (.nil)) (.nil))))) (.node (.reg [8, 9, 10] (.draw [.mk 0 16383 2 9444732965739290427392, .mk 0 16383 16 18889465931478580854784, .mk 2 16381 18889465931478580854784 37778931862957161709568, .mk 0 16383 8192 75557863725914323419136, .mk 0 16383 16 151115727451828646838272, .mk 0 16383 16384 302231454903657293676544, .mk 0 16383 64 604462909807314587353088, .mk 0 16383 8 1208925819614629174706176, .mk 128 16255 1208925819614629174706176 2417851639229258349412352, .mk 368 16015 3475661731392058877280256 4835703278458516698824704, .mk 525 15858 4958484807013127474380800 9671406556917033397649408, .mk 2047 15359 9671406556917033397649408 256, .mk 4095 16383 0 512, .mk 8191 16383 0 1024] (.take 0 (.take 1 (.take 2 (.take 3 (.take 4 (.take 5 (.take 6 (.take 7 (.take 8 (.all (.last 9 (.all (.last 10 (.take 11 (.take 12 (.take 13 (.done))))))))))))))))))) (.nil))) (.nil)))) (.node (.reg [1, 3, 4, 6, 13, 16, 17] (.nil)) (.node (.node (.reg [1, 3, 4, 6, 13, 16, 91] (.nil)) (.node (.node (.reg [8, 9, 10] (.nil)) (.nil)) (.nil))) (.node (.reg [1, 4, 13, 18, 19, 20] (.nil)) (.node (.node (.reg [1, 4, 13, 18, 19, 109] (.nil)) (.node (.node (.reg [8, 9, 10] (.nil)) (.nil)) (.nil))) (.node (.reg [8, 9, 10] (.nil)) (.nil)))))))))
theorem H_champ_work_put (x0 : Int × Int × Int × (Option Addr) × ByteArray × Int) (x1 : Option Addr) (x2 : ByteArray × ByteArray) (x3 : Int) {K : Tup [.c .ptr, .c .bool, .c .bool] → Heap → Prop} {h0 : Heap} (h : F_champ_work_put x0 x1 x2 x3 K h0) : HC PG f_champ_work_put [.agg #[.int .u64 x0.1, .int .u64 x0.2.1, .int .u64 x0.2.2.1, .pointer x0.2.2.2.1, .string x0.2.2.2.2.1, .int .u64 x0.2.2.2.2.2], .pointer x1, .agg #[.string x2.1, .string x2.2], .int .i64 x3] [.c .ptr, .c .bool, .c .bool] K h0 := HC.intro (an := A_champ_work_put) (c := Tryz.f88.body.getD .skip) Tryz.mixed Tryz.func88 rfl Tryz.call88 (Nat.le_of_ble_eq_true rfl) (cst (by kernel_rfl) h)
def F_champ_some (x0 : Option Addr) (K : (Option Addr) → Heap → Prop) (h0 : Heap) : Prop :=
 CondP x0.isNone (
 HC PG f_champ_Empty [] [.c .ptr] (fun (e1 : Option Addr) h2 =>
 K e1 h2) h0) (
 K x0 h0)
def A_champ_some : Ann := .node (.reg [0] (.nil)) (.node (.node (.reg [0, 4] (.nil)) (.node (.node (.reg [2] (.nil)) (.nil)) (.nil))) (.node (.reg [2] (.nil)) (.nil)))
theorem H_champ_some (x0 : Option Addr) {K : Tup [.c .ptr] → Heap → Prop} {h0 : Heap} (h : F_champ_some x0 K h0) : HC PG f_champ_some [.pointer x0] [.c .ptr] K h0 := HC.intro (an := A_champ_some) (c := Tryz.f89.body.getD .skip) Tryz.mixed Tryz.func89 rfl Tryz.call89 (Nat.le_of_ble_eq_true rfl) (cst (by kernel_rfl) h)
def F_radix_Node_shaped (x0 : Option Addr) (x1 : SliceV) (K : (SliceV) → Heap → Prop) (h0 : Heap) : Prop :=
 ∃ a1, x0 = some a1 ∧
 ∃ v2, hcell h0 (adr a1 0) = some (.string v2) ∧
 HC PG f_shape_Text [.slice x1.a x1.len x1.cap, .string v2] [.c .slice] (fun (e3 : SliceV) h4 =>
 Join (fun (t20 : SliceV) h21 =>
 Join (fun (t32 : SliceV) h33 =>
 ∃ a34, x0 = some a34 ∧
 ∃ v35 : SliceV, hcell h33 (adr a34 3) = some (.slice v35.a v35.len v35.cap) ∧
 LoopP (fun I36 (t37 : SliceV × Int) h38 =>
 CondP (decide (t37.2 < (v35.len : Int))) (
 (((0 : Int) ≤ t37.2 ∧ t37.2 < ((v35.len : Nat) : Int)) ∧ ∃ a39, v35.a = some a39 ∧
 ∃ v40, hcell h38 (adr a39 (t37.2.toNat * 1)) = some (.pointer v40) ∧
 HC PG f_radix_Node_shaped [.pointer v40, .slice t37.1.a t37.1.len t37.1.cap] [.c .slice] (fun (e41 : SliceV) h42 =>
 I36 (e41, IntKind.wrap .i64 (t37.2 + 1)) h42) h38)) (
 K t37.1 h38)) (t32, 0) h33) (fun J22 =>
 ∃ a23, x0 = some a23 ∧
 ∃ v24 : SliceV, hcell h21 (adr a23 3) = some (.slice v24.a v24.len v24.cap) ∧
 ∃ a25, x0 = some a25 ∧
 ∃ v26 : SliceV, hcell h21 (adr a25 3) = some (.slice v26.a v26.len v26.cap) ∧
 ((0 : Int) ≤ (8 : Int) ∧
 Bd (Int.fdiv (v26.len : Int) (2 ^ (min (8 : Int).toNat (IntKind.bits .i64))) : Int) (fun n27 =>
 At (hnew h21 [.int .u8 (IntKind.wrap .u8 (v24.len : Int)), .int .u8 (IntKind.wrap .u8 n27)] t_u8) (fun h28 =>
 (hcell h28 (adr a25 3) = some (.slice v26.a v26.len v26.cap) ∧
 (hcell h28 (adr a23 3) = some (.slice v24.a v24.len v24.cap) ∧
 ∃ xs29, SRow h28 (some (newA h21)) (2 * 1) xs29 ∧
 AppP (some [.int .u8 0]) 1 1 t_u8 t20.a t20.len t20.cap 2 xs29 h28 (fun s30 h31 =>
 (hcell h31 (adr a25 3) = some (.slice v26.a v26.len v26.cap) ∧
 (hcell h31 (adr a23 3) = some (.slice v24.a v24.len v24.cap) ∧
 J22 s30 h31)))))))))) (fun J5 =>
 ∃ a6, x0 = some a6 ∧
 ∃ v7, hcell h4 (adr a6 1) = some (.bool v7) ∧
 CondP v7 (
 ∃ a8, x0 = some a8 ∧
 ∃ v9, hcell h4 (adr a8 2) = some (.string v9) ∧
 At (hnew h4 [.int .u8 1] t_u8) (fun h10 =>
 (hcell h10 (adr a8 2) = some (.string v9) ∧
 ∃ xs11, SRow h10 (some (newA h4)) (1 * 1) xs11 ∧
 AppP (some [.int .u8 0]) 1 1 t_u8 e3.a e3.len e3.cap 1 xs11 h10 (fun s12 h13 =>
 (hcell h13 (adr a8 2) = some (.string v9) ∧
 HC PG f_shape_Text [.slice s12.a s12.len s12.cap, .string v9] [.c .slice] (fun (e14 : SliceV) h15 =>
 J5 e14 h15) h13))))) (
 At (hnew h4 [.int .u8 0] t_u8) (fun h16 =>
 ∃ xs17, SRow h16 (some (newA h4)) (1 * 1) xs17 ∧
 AppP (some [.int .u8 0]) 1 1 t_u8 e3.a e3.len e3.cap 1 xs17 h16 (fun s18 h19 =>
 J5 s18 h19))))) h0
def A_radix_Node_shaped : Ann := .node (.reg [0, 1] (.nil)) (.node (.reg [0, 1] (.nil)) (.join [0] [(1, .c .slice)] (.node (.reg [0, 1, 16] (.nil)) (.node (.reg [0, 1] (.draw [.mk 0 511 2 131072, .mk 0 511 0 262144, .mk 3 508 393216 524288, .mk 0 511 1 1048576, .mk 8 503 1048576 2097152, .mk 16 495 2097152 4194304, .mk 32 479 4194304 8388608, .mk 68 443 8912896 16777216, .mk 255 382 16777216 2] (.take 0 (.take 3 (.take 4 (.take 5 (.take 6 (.all (.last 1 (.all (.last 2 (.all (.last 7 (.take 8 (.done))))))))))))))) (.reg [0, 1] (.nil)))) (.join [0] [(1, .c .slice)] (.reg [0, 1] (.draw [.mk 0 131071 2 268435456, .mk 0 131071 1 536870912, .mk 2 131069 536870912 1073741824, .mk 4 131067 1073741824 2147483648, .mk 8 131063 2147483648 4294967296, .mk 16 131055 4294967296 8589934592, .mk 32 131039 8589934592 17179869184, .mk 0 131071 1 34359738368, .mk 128 130943 34359738368 68719476736, .mk 256 130815 68719476736 137438953472, .mk 512 130559 137438953472 274877906944, .mk 1024 130047 274877906944 549755813888, .mk 2048 129023 549755813888 1099511627776, .mk 4096 126975 1099511627776 2199023255552, .mk 8256 122815 2216203124736 4398046511104, .mk 16385 114686 4398314946560 8796093022208, .mk 65535 98302 8796093022208 2] (.take 0 (.take 1 (.take 2 (.take 3 (.take 4 (.take 5 (.take 6 (.take 7 (.take 8 (.take 9 (.take 10 (.take 11 (.take 12 (.take 13 (.all (.last 14 (.all (.last 15 (.take 16 (.done)))))))))))))))))))))) (.node (.node (.reg [1, 47, 48, 49] (.nil)) (.loop [47, 48] [(1, .c .slice), (49, .c (.int .i64))] (.node (.reg [1, 47, 48, 49, 50] (.nil)) (.node (.nil) (.node (.node (.reg [1, 6, 47, 48, 49] (.nil)) (.reg [1, 47, 48, 49] (.nil))) (.reg [1, 47, 48, 49] (.nil))))))) (.node (.reg [4] (.nil)) (.nil))))))
theorem H_radix_Node_shaped (x0 : Option Addr) (x1 : SliceV) {K : Tup [.c .slice] → Heap → Prop} {h0 : Heap} (h : F_radix_Node_shaped x0 x1 K h0) : HC PG f_radix_Node_shaped [.pointer x0, .slice x1.a x1.len x1.cap] [.c .slice] K h0 := HC.intro (an := A_radix_Node_shaped) (c := Tryz.f93.body.getD .skip) Tryz.mixed Tryz.func93 rfl Tryz.call93 (Nat.le_of_ble_eq_true rfl) (cst (by kernel_rfl) h)
def F_shape_put (x0 : SliceV) (x1 : Option Addr) (x2 : Int) (K : (SliceV) → Heap → Prop) (h0 : Heap) : Prop :=
 HC PG f_node_Node_IsBucket [.pointer x1] [.c .bool] (fun (e1 : Bool) h2 =>
 CondP e1 (
 At (hnew h2 [.int .u8 1] t_u8) (fun h3 =>
 ∃ xs4, SRow h3 (some (newA h2)) (1 * 1) xs4 ∧
 AppP (some [.int .u8 0]) 1 1 t_u8 x0.a x0.len x0.cap 1 xs4 h3 (fun s5 h6 =>
 HC PG f_node_Node_Len [.pointer x1] [.c (.int .i64)] (fun (e7 : Int) h8 =>
 HC PG f_shape_lay [.slice s5.a s5.len s5.cap, .int .u64 (IntKind.wrap .u64 e7), .int .i64 2] [.c .slice] (fun (e9 : SliceV) h10 =>
 HC PG f_node_Node_Pairs [.pointer x1] [.c .slice] (fun (e11 : SliceV) h12 =>
 HC PG f_shape_pairs [.slice e9.a e9.len e9.cap, .slice e11.a e11.len e11.cap] [.c .slice] (fun (e13 : SliceV) h14 =>
 K e13 h14) h12) h10) h8) h6))) (
 Join (fun (t28 : SliceV) h29 =>
 HC PG f_node_Node_Pairs [.pointer x1] [.c .slice] (fun (e30 : SliceV) h31 =>
 HC PG f_shape_pairs [.slice t28.a t28.len t28.cap, .slice e30.a e30.len e30.cap] [.c .slice] (fun (e32 : SliceV) h33 =>
 CondP (x2 == (13 : Int)) (
 K e32 h33) (
 HC PG f_node_Node_Kids [.pointer x1] [.c .slice] (fun (e34 : SliceV) h35 =>
 LoopP (fun I36 (t37 : SliceV × Int) h38 =>
 CondP (decide (t37.2 < (e34.len : Int))) (
 (((0 : Int) ≤ t37.2 ∧ t37.2 < ((e34.len : Nat) : Int)) ∧ ∃ a39, e34.a = some a39 ∧
 ∃ v40, hcell h38 (adr a39 (t37.2.toNat * 1)) = some (.pointer v40) ∧
 HC PG f_shape_put [.slice t37.1.a t37.1.len t37.1.cap, .pointer v40, .int .i64 (IntKind.wrap .i64 (x2 + 1))] [.c .slice] (fun (e41 : SliceV) h42 =>
 I36 (e41, IntKind.wrap .i64 (t37.2 + 1)) h42) h38)) (
 K t37.1 h38)) (e32, 0) h35) h33)) h31) h29) (fun J15 =>
 At (hnew h2 [.int .u8 0] t_u8) (fun h16 =>
 ∃ xs17, SRow h16 (some (newA h2)) (1 * 1) xs17 ∧
 AppP (some [.int .u8 0]) 1 1 t_u8 x0.a x0.len x0.cap 1 xs17 h16 (fun s18 h19 =>
 HC PG f_node_Node_Data [.pointer x1] [.c (.int .u32)] (fun (e20 : Int) h21 =>
 HC PG f_shape_lay [.slice s18.a s18.len s18.cap, .int .u64 (IntKind.wrap .u64 e20), .int .i64 4] [.c .slice] (fun (e22 : SliceV) h23 =>
 HC PG f_node_Node_Nodes [.pointer x1] [.c (.int .u32)] (fun (e24 : Int) h25 =>
 HC PG f_shape_lay [.slice e22.a e22.len e22.cap, .int .u64 (IntKind.wrap .u64 e24), .int .i64 4] [.c .slice] (fun (e26 : SliceV) h27 =>
 J15 e26 h27) h25) h23) h21) h19))))) h0
def A_shape_put : Ann := .node (.reg [0, 1, 2] (.nil)) (.node (.node (.reg [0, 1, 2, 10] (.nil)) (.node (.node (.reg [6] (.nil)) (.nil)) (.nil))) (.join [1, 2] [(0, .c .slice)] (.reg [0, 1, 2] (.nil)) (.node (.reg [0, 1, 2] (.nil)) (.node (.node (.reg [0, 1, 2, 37] (.nil)) (.node (.node (.reg [6] (.nil)) (.nil)) (.nil))) (.node (.node (.reg [0, 2, 40, 41, 42] (.nil)) (.loop [2, 40, 41] [(0, .c .slice), (42, .c (.int .i64))] (.node (.reg [0, 2, 40, 41, 42, 43] (.nil)) (.node (.nil) (.node (.node (.reg [0, 2, 8, 40, 41, 42] (.nil)) (.reg [0, 2, 40, 41, 42] (.nil))) (.reg [0, 2, 40, 41, 42] (.nil))))))) (.node (.reg [6] (.nil)) (.nil)))))))
theorem H_shape_put (x0 : SliceV) (x1 : Option Addr) (x2 : Int) {K : Tup [.c .slice] → Heap → Prop} {h0 : Heap} (h : F_shape_put x0 x1 x2 K h0) : HC PG f_shape_put [.slice x0.a x0.len x0.cap, .pointer x1, .int .i64 x2] [.c .slice] K h0 := HC.intro (an := A_shape_put) (c := Tryz.f94.body.getD .skip) Tryz.mixed Tryz.func94 rfl Tryz.call94 (Nat.le_of_ble_eq_true rfl) (cst (by kernel_rfl) h)
def F_sip_state_take (x0 : Option Addr) (x1 : Int) (K : (Unit) → Heap → Prop) (h0 : Heap) : Prop :=
 ∃ a1, x0 = some a1 ∧
 (((0 : Int) ≤ (3 : Int) ∧ (3 : Int) < ((4 : Nat) : Int)) ∧
 ∃ v2, hcell h0 (adr a1 ((3 : Int).toNat * 1)) = some (.int .u64 v2) ∧
 Bd (IntKind.wrap .u64 (BitVec.ofInt (IntKind.bits .u64) v2 ^^^ BitVec.ofInt (IntKind.bits .u64) x1).toNat : Int) (fun n3 =>
 ∃ a4, x0 = some a4 ∧
 (((0 : Int) ≤ (3 : Int) ∧ (3 : Int) < ((4 : Nat) : Int)) ∧
 (Wr h0 (adr a4 ((3 : Int).toNat * 1)) ∧
 At (hset h0 (adr a4 ((3 : Int).toNat * 1)) (.int .u64 n3)) (fun h5 =>
 HC PG f_sip_state_rounds [.pointer x0, .int .i64 2] [] (fun (e6 : Unit) h7 =>
 ∃ a8, x0 = some a8 ∧
 (((0 : Int) ≤ (0 : Int) ∧ (0 : Int) < ((4 : Nat) : Int)) ∧
 ∃ v9, hcell h7 (adr a8 ((0 : Int).toNat * 1)) = some (.int .u64 v9) ∧
 Bd (IntKind.wrap .u64 (BitVec.ofInt (IntKind.bits .u64) v9 ^^^ BitVec.ofInt (IntKind.bits .u64) x1).toNat : Int) (fun n10 =>
 ∃ a11, x0 = some a11 ∧
 (((0 : Int) ≤ (0 : Int) ∧ (0 : Int) < ((4 : Nat) : Int)) ∧
 (Wr h7 (adr a11 ((0 : Int).toNat * 1)) ∧
 At (hset h7 (adr a11 ((0 : Int).toNat * 1)) (.int .u64 n10)) (fun h12 =>
 K () h12)))))) h5)))))
def A_sip_state_take : Ann := .node (.reg [0, 1] (.draw [.mk 0 511 1 16, .mk 1 510 16 32, .mk 2 509 32 64, .mk 4 507 64 128, .mk 0 511 2 256, .mk 24 487 384 512, .mk 1 510 16 1024, .mk 127 447 1024 2048, .mk 191 351 2560 0] (.take 0 (.take 1 (.take 2 (.take 3 (.take 4 (.take 5 (.take 6 (.take 7 (.all (.last 8 (.done))))))))))))) (.node (.reg [0, 1] (.nil)) (.reg [] (.draw [.mk 0 511 1 16384, .mk 1 510 16384 32768, .mk 2 509 32768 65536, .mk 4 507 65536 131072, .mk 0 511 2 262144, .mk 24 487 393216 524288, .mk 1 510 16384 1048576, .mk 127 447 1048576 2097152, .mk 191 351 2621440 0] (.take 0 (.take 1 (.take 2 (.take 3 (.take 4 (.take 5 (.take 6 (.take 7 (.all (.last 8 (.done))))))))))))))
theorem H_sip_state_take (x0 : Option Addr) (x1 : Int) {K : Tup [] → Heap → Prop} {h0 : Heap} (h : F_sip_state_take x0 x1 K h0) : HC PG f_sip_state_take [.pointer x0, .int .u64 x1] [] K h0 := HC.intro (an := A_sip_state_take) (c := Tryz.f95.body.getD .skip) Tryz.mixed Tryz.func95 rfl Tryz.call95 (Nat.le_of_ble_eq_true rfl) (cst (by kernel_rfl) h)
end Go.Proofs
