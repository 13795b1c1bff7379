/- A part of the proof that the named laws of this program answer true, whatever the input. -/
import Derived.Test.YtfbbjmjfkopdnaaGreatTreeF
set_option maxRecDepth 100000
set_option linter.unusedVariables false
namespace Go.Proofs
open Go.Lift
def F_radix_Node_Value (x0 : Option Addr) (K : (ByteArray × Bool) → Heap → Prop) (h0 : Heap) : Prop :=
 CondP x0.isNone (
 K ((⟨#[]⟩ : ByteArray), false) h0) (
 ∃ a1, x0 = some a1 ∧
 ∃ v2, cAt h0 a1 2 (.string v2) ∧
 ∃ a3, x0 = some a3 ∧
 ∃ v4, cAt h0 a3 1 (.bool v4) ∧
 K (v2, v4) h0)
noncomputable def A_radix_Node_Value : Ann := .node (.reg [0] (.nil)) (.node (.node (.reg [0,5] (.nil)) (.node (.node (.reg [2,3] (.nil)) (.nil)) (.nil))) (.node (.reg [2,3] (.draw (dl 10 [dm [] [0] 7,dm [0] [6] 8,dm [1] [7] 9,dm [2] [8] 10,dm [] [0] 11,dm [4] [10] 12,dm [5] [11] 13,dm [6] [12] 14,dn [0,1,2,3] [3] [9] 3,dn [0,1,2,3,4,5,6,7,8] [7] [13] 4]) (tr 0 10 (.done)))) (.nil)))
theorem H_radix_Node_Value (x0 : Option Addr) {K : Tup [.c .str, .c .bool] → Heap → Prop} {h0 : Heap} (h : F_radix_Node_Value x0 K h0) : HC PG f_radix_Node_Value [.pointer x0] [.c .str, .c .bool] K h0 := HC.intro (an := A_radix_Node_Value) (c := Tryz.f87.body.getD .skip) Tryz.mixed Tryz.func87 rfl Tryz.call87 (Nat.le_of_ble_eq_true rfl) (cst (by kernel_rfl) h)
def F_slices_Clone_A_P_radix_Node_P_radix_Node (x0 : SliceV) (K : (SliceV) → Heap → Prop) (h0 : Heap) : Prop :=
 CondP x0.a.isNone (
 K ⟨none, 0, 0⟩ h0) (
 At (hnew h0 [] t_P_radix_Node) (fun h1 =>
 ∃ xs2, SRow h1 x0.a (x0.len * 1) xs2 ∧
 AppP (some [.pointer none]) 1 8 t_P_radix_Node (some (newA h0)) 0 0 x0.len xs2 h1 (fun s3 h4 =>
 K s3 h4)))
noncomputable def A_slices_Clone_A_P_radix_Node_P_radix_Node : Ann := .node (.reg [0] (.nil)) (.node (.node (.reg [0,4] (.nil)) (.node (.node (.reg [2] (.nil)) (.nil)) (.nil))) (.node (.reg [2] (.nil)) (.nil)))
theorem H_slices_Clone_A_P_radix_Node_P_radix_Node (x0 : SliceV) {K : Tup [.c .slice] → Heap → Prop} {h0 : Heap} (h : F_slices_Clone_A_P_radix_Node_P_radix_Node x0 K h0) : HC PG f_slices_Clone_A_P_radix_Node_P_radix_Node [.slice x0.a x0.len x0.cap] [.c .slice] K h0 := HC.intro (an := A_slices_Clone_A_P_radix_Node_P_radix_Node) (c := Tryz.f88.body.getD .skip) Tryz.mixed Tryz.func88 rfl Tryz.call88 (Nat.le_of_ble_eq_true rfl) (cst (by kernel_rfl) h)
def F_slices_Clone_A_pair_Pair_pair_Pair (x0 : SliceV) (K : (SliceV) → Heap → Prop) (h0 : Heap) : Prop :=
 CondP x0.a.isNone (
 K ⟨none, 0, 0⟩ h0) (
 At (hnew h0 [] t_pair_Pair) (fun h1 =>
 ∃ xs2, SRow h1 x0.a (x0.len * 2) xs2 ∧
 AppP (some [.string (⟨#[]⟩ : ByteArray), .string (⟨#[]⟩ : ByteArray)]) 2 32 t_pair_Pair (some (newA h0)) 0 0 x0.len xs2 h1 (fun s3 h4 =>
 K s3 h4)))
noncomputable def A_slices_Clone_A_pair_Pair_pair_Pair : Ann := .node (.reg [0] (.nil)) (.node (.node (.reg [0,4] (.nil)) (.node (.node (.reg [2] (.nil)) (.nil)) (.nil))) (.node (.reg [2] (.nil)) (.nil)))
theorem H_slices_Clone_A_pair_Pair_pair_Pair (x0 : SliceV) {K : Tup [.c .slice] → Heap → Prop} {h0 : Heap} (h : F_slices_Clone_A_pair_Pair_pair_Pair x0 K h0) : HC PG f_slices_Clone_A_pair_Pair_pair_Pair [.slice x0.a x0.len x0.cap] [.c .slice] K h0 := HC.intro (an := A_slices_Clone_A_pair_Pair_pair_Pair) (c := Tryz.f89.body.getD .skip) Tryz.mixed Tryz.func89 rfl Tryz.call89 (Nat.le_of_ble_eq_true rfl) (cst (by kernel_rfl) h)
def F_node_Node_Nodes (x0 : Option Addr) (K : (Int) → Heap → Prop) (h0 : Heap) : Prop :=
 CondP x0.isNone (
 K 0 h0) (
 ∃ a1, x0 = some a1 ∧
 ∃ v2, cAt h0 (adr a1 0) 1 (.int .u32 v2) ∧
 K v2 h0)
noncomputable def A_node_Node_Nodes : Ann := .node (.reg [0] (.nil)) (.node (.node (.reg [0,4] (.nil)) (.node (.node (.reg [2] (.nil)) (.nil)) (.nil))) (.node (.reg [2] (.nil)) (.nil)))
theorem H_node_Node_Nodes (x0 : Option Addr) {K : Tup [.c (.int .u32)] → Heap → Prop} {h0 : Heap} (h : F_node_Node_Nodes x0 K h0) : HC PG f_node_Node_Nodes [.pointer x0] [.c (.int .u32)] K h0 := HC.intro (an := A_node_Node_Nodes) (c := Tryz.f90.body.getD .skip) Tryz.mixed Tryz.func90 rfl Tryz.call90 (Nat.le_of_ble_eq_true rfl) (cst (by kernel_rfl) h)
def F_chunk_Bits_Has (x0 : Int) (x1 : Int) (K : (Bool) → Heap → Prop) (h0 : Heap) : Prop :=
 HC PG f_chunk_right [.int .i64 x1] [.c .bool] (fun (e1 : Bool) h2 =>
 CondP e1 (
 ((0 : Int) ≤ x1 ∧
 Bd (IntKind.wrap .u32 (BitVec.ofInt (IntKind.bits .u32) (Int.fdiv x0 (2 ^ (min (x1 : Int).toNat (IntKind.bits .u32)))) &&& BitVec.ofInt (IntKind.bits .u32) 1).toNat : Int) (fun n3 =>
 K (n3 == (1 : Int)) h2))) (
 K false h2)) h0
noncomputable def A_chunk_Bits_Has : Ann := .node (.reg [0,1] (.nil)) (.node (.reg [4] (.nil)) (.nil))
theorem H_chunk_Bits_Has (x0 : Int) (x1 : Int) {K : Tup [.c .bool] → Heap → Prop} {h0 : Heap} (h : F_chunk_Bits_Has x0 x1 K h0) : HC PG f_chunk_Bits_Has [.int .u32 x0, .int .i64 x1] [.c .bool] K h0 := HC.intro (an := A_chunk_Bits_Has) (c := Tryz.f91.body.getD .skip) Tryz.mixed Tryz.func91 rfl Tryz.call91 (Nat.le_of_ble_eq_true rfl) (cst (by kernel_rfl) h)
def F_chunk_Bits_Rank (x0 : Int) (x1 : Int) (K : (Int) → Heap → Prop) (h0 : Heap) : Prop :=
 CondP (decide (x1 ≤ (0 : Int))) (
 K 0 h0) (
 CondP (decide (x1 ≥ (32 : Int))) (
 HC PG f_chunk_Bits_Count [.int .u32 x0] [.c (.int .i64)] (fun (e1 : Int) h2 =>
 K e1 h2) h0) (
 ((0 : Int) ≤ x1 ∧
 Bd (IntKind.wrap .u32 ((IntKind.wrap .u32 (1 * 2 ^ (min (x1 : Int).toNat (IntKind.bits .u32)))) - 1) : Int) (fun n3 =>
 Bd (IntKind.wrap .u32 (BitVec.ofInt (IntKind.bits .u32) x0 &&& BitVec.ofInt (IntKind.bits .u32) n3).toNat : Int) (fun n4 =>
 HC PG f_chunk_Bits_Count [.int .u32 n4] [.c (.int .i64)] (fun (e5 : Int) h6 =>
 K e5 h6) h0)))))
noncomputable def A_chunk_Bits_Rank : Ann := .node (.reg [0,1] (.nil)) (.node (.node (.reg [0,1,5] (.nil)) (.node (.node (.reg [4] (.nil)) (.nil)) (.node (.reg [0,1,8] (.nil)) (.node (.node (.reg [4] (.nil)) (.nil)) (.nil))))) (.node (.reg [4] (.nil)) (.nil)))
theorem H_chunk_Bits_Rank (x0 : Int) (x1 : Int) {K : Tup [.c (.int .i64)] → Heap → Prop} {h0 : Heap} (h : F_chunk_Bits_Rank x0 x1 K h0) : HC PG f_chunk_Bits_Rank [.int .u32 x0, .int .i64 x1] [.c (.int .i64)] K h0 := HC.intro (an := A_chunk_Bits_Rank) (c := Tryz.f92.body.getD .skip) Tryz.mixed Tryz.func92 rfl Tryz.call92 (Nat.le_of_ble_eq_true rfl) (cst (by kernel_rfl) h)
def F_node_Node_Pair (x0 : Option Addr) (x1 : Int) (K : ((ByteArray × ByteArray) × Bool) → Heap → Prop) (h0 : Heap) : Prop :=
 At (hnew h0 [.string (⟨#[]⟩ : ByteArray), .string (⟨#[]⟩ : ByteArray)] t_pair_Pair) (fun h1 =>
 HC PG f_node_Node_Data [.pointer x0] [.c (.int .u32)] (fun (e2 : Int) h3 =>
 HC PG f_chunk_Bits_Has [.int .u32 e2, .int .i64 x1] [.c .bool] (fun (e4 : Bool) h5 =>
 CondP (!e4) (
 (WrS h5 (some (newA h0)) 0 [.string (⟨#[]⟩ : ByteArray), .string (⟨#[]⟩ : ByteArray)] ∧
 At (hsetL h5 (newA h0) 0 [.string (⟨#[]⟩ : ByteArray), .string (⟨#[]⟩ : ByteArray)]) (fun h6 =>
 ∃ v7, cAt h6 (newA h0) 0 (.string v7) ∧
 ∃ v8, cAt h6 (newA h0) 1 (.string v8) ∧
 K ((v7, v8), false) h6))) (
 ∃ a9, x0 = some a9 ∧
 ∃ v10 : SliceV, cAt h5 (adr a9 0) 2 (.slice v10.a v10.len v10.cap) ∧
 ∃ a11, x0 = some a11 ∧
 ∃ v12, cAt h5 (adr a11 0) 0 (.int .u32 v12) ∧
 HC PG f_chunk_Bits_Rank [.int .u32 v12, .int .i64 x1] [.c (.int .i64)] (fun (e13 : Int) h14 =>
 (cAt h14 (adr a9 0) 2 (.slice v10.a v10.len v10.cap) ∧
 (iBd e13 v10.len ∧ ∃ a15, v10.a = some a15 ∧
 ∃ v16, cAt h14 (adr a15 (e13.toNat * 2)) 0 (.string v16) ∧
 ∃ v17, cAt h14 (adr a15 (e13.toNat * 2)) 1 (.string v17) ∧
 (WrS h14 (some (newA h0)) 0 [.string v16, .string v17] ∧
 At (hsetL h14 (newA h0) 0 [.string v16, .string v17]) (fun h18 =>
 ∃ v19, cAt h18 (newA h0) 0 (.string v19) ∧
 ∃ v20, cAt h18 (newA h0) 1 (.string v20) ∧
 K ((v19, v20), true) h18))))) h5)) h3) h1)
noncomputable def A_node_Node_Pair : Ann := .node (.reg [0,1,4] (.nil)) (.node (.node (.reg [0,1,4,10] (.nil)) (.node (.node (.reg [4,5] (.nil)) (.nil)) (.nil))) (.node (.reg [4,5] (.draw (dl 16 [dm [] [0] 13,dm [0] [12] 14,dm [1] [13] 15,dm [2] [14] 16,dm [3] [15] 17,dm [] [0] 18,dm [5] [17] 19,dm [6] [18] 20,dm [7] [19] 21,dm [8] [20] 22,dm [] [1] 23,dm [9,10] [21,22] 24,dm [4,11] [16,23] 25,dm [12] [24] 26,dn [0,1,2,3,4,5,6,7,8,9,10,11,12,13] [13] [4,25] 0,dn [0,1,2,3,4,5,6,7,8,9,10,11,12,13,14] [] [] 6]) (tr 0 11 (.all (.last 11 (.take 12 (.take 13 (.all (.last 14 (.take 15 (.done))))))))))) (.nil)))
theorem H_node_Node_Pair (x0 : Option Addr) (x1 : Int) {K : Tup [.agg [.str, .str], .c .bool] → Heap → Prop} {h0 : Heap} (h : F_node_Node_Pair x0 x1 K h0) : HC PG f_node_Node_Pair [.pointer x0, .int .i64 x1] [.agg [.str, .str], .c .bool] K h0 := HC.intro (an := A_node_Node_Pair) (c := Tryz.f93.body.getD .skip) Tryz.mixed Tryz.func93 rfl Tryz.call93 (Nat.le_of_ble_eq_true rfl) (cst (by kernel_rfl) h)
def F_node_Inner  (K : (Option Addr) → Heap → Prop) (h0 : Heap) : Prop :=
 At (hnew h0 [.int .u32 0, .int .u32 0, .slice none 0 0, .slice none 0 0, .bool false, .pointer none] t_node_Node) (fun h1 =>
 K (some (newA h0)) h1)
noncomputable def A_node_Inner : Ann := .node (.reg [] (.nil)) (.node (.reg [0] (.nil)) (.nil))
theorem H_node_Inner  {K : Tup [.c .ptr] → Heap → Prop} {h0 : Heap} (h : F_node_Inner  K h0) : HC PG f_node_Inner [] [.c .ptr] K h0 := HC.intro (an := A_node_Inner) (c := Tryz.f94.body.getD .skip) Tryz.mixed Tryz.func94 rfl Tryz.call94 (Nat.le_of_ble_eq_true rfl) (cst (by kernel_rfl) h)
def F_slices_insertionSortCmpFunc_diff_Change (x0 : SliceV) (x1 : Int) (x2 : Int) (x3 : Value) (K : (Unit) → Heap → Prop) (h0 : Heap) : Prop :=
 LoopP (fun I1 (t2 : Int) h3 =>
 CondP (decide (t2 < x2)) (
 LoopP (fun I4 (t5 : Int) h6 =>
 Join (fun (t22 : Bool) h23 =>
 CondP t22 (
 (iBd (IntKind.wrap .i64 (t5 - 1)) x0.len ∧ ∃ a24, x0.a = some a24 ∧
 ∃ v25, cAt h23 (adr a24 ((IntKind.wrap .i64 (t5 - 1)).toNat * 5)) 0 (.string v25) ∧
 ∃ v26, cAt h23 (adr a24 ((IntKind.wrap .i64 (t5 - 1)).toNat * 5)) 1 (.string v26) ∧
 ∃ v27, cAt h23 (adr a24 ((IntKind.wrap .i64 (t5 - 1)).toNat * 5)) 2 (.string v27) ∧
 ∃ v28, cAt h23 (adr a24 ((IntKind.wrap .i64 (t5 - 1)).toNat * 5)) 3 (.bool v28) ∧
 ∃ v29, cAt h23 (adr a24 ((IntKind.wrap .i64 (t5 - 1)).toNat * 5)) 4 (.bool v29) ∧
 (iBd t5 x0.len ∧ ∃ a30, x0.a = some a30 ∧
 ∃ v31, cAt h23 (adr a30 (t5.toNat * 5)) 0 (.string v31) ∧
 ∃ v32, cAt h23 (adr a30 (t5.toNat * 5)) 1 (.string v32) ∧
 ∃ v33, cAt h23 (adr a30 (t5.toNat * 5)) 2 (.string v33) ∧
 ∃ v34, cAt h23 (adr a30 (t5.toNat * 5)) 3 (.bool v34) ∧
 ∃ v35, cAt h23 (adr a30 (t5.toNat * 5)) 4 (.bool v35) ∧
 (iBd t5 x0.len ∧ ∃ a36, x0.a = some a36 ∧
 (WrS h23 (some (adr a36 (t5.toNat * 5))) 0 [.string v25, .string v26, .string v27, .bool v28, .bool v29] ∧
 At (hsetL h23 (adr a36 (t5.toNat * 5)) 0 [.string v25, .string v26, .string v27, .bool v28, .bool v29]) (fun h37 =>
 (iBd (IntKind.wrap .i64 (t5 - 1)) x0.len ∧ ∃ a38, x0.a = some a38 ∧
 (WrS h37 (some (adr a38 ((IntKind.wrap .i64 (t5 - 1)).toNat * 5))) 0 [.string v31, .string v32, .string v33, .bool v34, .bool v35] ∧
 At (hsetL h37 (adr a38 ((IntKind.wrap .i64 (t5 - 1)).toNat * 5)) 0 [.string v31, .string v32, .string v33, .bool v34, .bool v35]) (fun h39 =>
 I4 (IntKind.wrap .i64 (t5 - 1)) h39))))))))) (
 I1 (IntKind.wrap .i64 (t2 + 1)) h23)) (fun J7 =>
 CondP (decide (t5 > x1)) (
 (iBd t5 x0.len ∧ ∃ a8, x0.a = some a8 ∧
 ∃ v9, cAt h6 (adr a8 (t5.toNat * 5)) 0 (.string v9) ∧
 ∃ v10, cAt h6 (adr a8 (t5.toNat * 5)) 1 (.string v10) ∧
 ∃ v11, cAt h6 (adr a8 (t5.toNat * 5)) 2 (.string v11) ∧
 ∃ v12, cAt h6 (adr a8 (t5.toNat * 5)) 3 (.bool v12) ∧
 ∃ v13, cAt h6 (adr a8 (t5.toNat * 5)) 4 (.bool v13) ∧
 (iBd (IntKind.wrap .i64 (t5 - 1)) x0.len ∧ ∃ a14, x0.a = some a14 ∧
 ∃ v15, cAt h6 (adr a14 ((IntKind.wrap .i64 (t5 - 1)).toNat * 5)) 0 (.string v15) ∧
 ∃ v16, cAt h6 (adr a14 ((IntKind.wrap .i64 (t5 - 1)).toNat * 5)) 1 (.string v16) ∧
 ∃ v17, cAt h6 (adr a14 ((IntKind.wrap .i64 (t5 - 1)).toNat * 5)) 2 (.string v17) ∧
 ∃ v18, cAt h6 (adr a14 ((IntKind.wrap .i64 (t5 - 1)).toNat * 5)) 3 (.bool v18) ∧
 ∃ v19, cAt h6 (adr a14 ((IntKind.wrap .i64 (t5 - 1)).toNat * 5)) 4 (.bool v19) ∧
 HV PG x3 [.agg #[.string v9, .string v10, .string v11, .bool v12, .bool v13], .agg #[.string v15, .string v16, .string v17, .bool v18, .bool v19]] [.c (.int .i64)] (fun (e20 : Int) h21 =>
 J7 (decide (e20 < (0 : Int))) h21) h6))) (
 J7 false h6))) t2 h3) (
 K () h3)) (IntKind.wrap .i64 (x1 + 1)) h0
noncomputable def A_slices_insertionSortCmpFunc_diff_Change : Ann := .node (.reg [0,1,2,3,8] (.nil)) (.loop [0,1,2,3] [(8,.c (.int .i64))] (.node (.node (.reg [0,1,2,3,8,14] (.nil)) (.nil)) (.node (.node (.reg [0,1,2,3,8,9] (.nil)) (.loop [0,1,2,3,8] [(9,.c (.int .i64))] (.node (.join [0,1,2,3,8,9] [(34,.c .bool)] (.reg [0,1,2,3,8,9,34] (.draw (dl 17 [dm [] [9] 19,dm [] [1] 20,dm [0,1] [18,19] 21,dm [2] [20] 22,dm [3] [3,21] 23,dm [3] [0,21] 24,dm [3] [9,21] 25,dm [3,5,6] [21,23,24] 26,dm [3,7] [21,25] 27,dm [3] [0,21] 28,dm [3] [9,21] 29,dm [3,10] [21,28] 30,dm [3,9,11] [21,27,29] 31,dm [3,12] [21,30] 32,dm [3,4,8,13] [21,22,26,31] 33,dm [3,14] [21,32] 34,dm [3,15] [21,33] 35]) (tr 0 4 (.split 21 (tr 4 10 (.all (.last 14 (.take 15 (.take 16 (.done)))))) (tr 4 13 (.done)))))) (.nil)) (.node (.reg [0,1,2,3,8,9] (.draw (dl 18 [dm [] [0] 38,dm [] [9] 39,dm [] [0] 40,dm [] [9] 41,dm [3] [40] 42,dm [] [0] 43,dm [] [9] 44,dm [6] [43] 45,dm [5,7] [42,44] 46,dm [8] [45] 47,dm [] [0] 48,dm [] [9] 49,dm [10,11] [47,48] 50,dm [12] [49] 51,dn [0,1,5,6,7,8,9,13] [0,1] [37,38] 52,dn [0,1,5,6,7,8,9,13,14] [9,14] [46,51] 0,dn [0,1,2,3,4,5,6,7,8,9,10,11,12,13,14,15] [2,4] [39,41] 53,dn [0,1,2,3,4,5,6,7,8,9,10,11,12,13,14,15,16] [13,16] [50,52] 0]) (tr 0 15 (.all (.last 15 (.take 16 (.all (.last 17 (.done))))))))) (.reg [0,1,2,3,8,9] (.nil)))))) (.reg [0,1,2,3,8] (.nil)))))
theorem H_slices_insertionSortCmpFunc_diff_Change (x0 : SliceV) (x1 : Int) (x2 : Int) (x3 : Value) {K : Tup [] → Heap → Prop} {h0 : Heap} (h : F_slices_insertionSortCmpFunc_diff_Change x0 x1 x2 x3 K h0) : HC PG f_slices_insertionSortCmpFunc_diff_Change [.slice x0.a x0.len x0.cap, .int .i64 x1, .int .i64 x2, x3] [] K h0 := HC.intro (an := A_slices_insertionSortCmpFunc_diff_Change) (c := Tryz.f95.body.getD .skip) Tryz.mixed Tryz.func95 rfl Tryz.call95 (Nat.le_of_ble_eq_true rfl) (cst (by kernel_rfl) h)
def F_math_bits_Len64 (x0 : Int) (K : (Int) → Heap → Prop) (h0 : Heap) : Prop :=
 Join (fun (t2 : Int × Int) h3 =>
 Join (fun (t5 : Int × Int) h6 =>
 Join (fun (t8 : Int × Int) h9 =>
 ∃ b10, (0 : Int) ≤ (IntKind.wrap .u8 t8.1) ∧ (⟨#[0, 1, 2, 2, 3, 3, 3, 3, 4, 4, 4, 4, 4, 4, 4, 4, 5, 5, 5, 5, 5, 5, 5, 5, 5, 5, 5, 5, 5, 5, 5, 5, 6, 6, 6, 6, 6, 6, 6, 6, 6, 6, 6, 6, 6, 6, 6, 6, 6, 6, 6, 6, 6, 6, 6, 6, 6, 6, 6, 6, 6, 6, 6, 6, 7, 7, 7, 7, 7, 7, 7, 7, 7, 7, 7, 7, 7, 7, 7, 7, 7, 7, 7, 7, 7, 7, 7, 7, 7, 7, 7, 7, 7, 7, 7, 7, 7, 7, 7, 7, 7, 7, 7, 7, 7, 7, 7, 7, 7, 7, 7, 7, 7, 7, 7, 7, 7, 7, 7, 7, 7, 7, 7, 7, 7, 7, 7, 7, 8, 8, 8, 8, 8, 8, 8, 8, 8, 8, 8, 8, 8, 8, 8, 8, 8, 8, 8, 8, 8, 8, 8, 8, 8, 8, 8, 8, 8, 8, 8, 8, 8, 8, 8, 8, 8, 8, 8, 8, 8, 8, 8, 8, 8, 8, 8, 8, 8, 8, 8, 8, 8, 8, 8, 8, 8, 8, 8, 8, 8, 8, 8, 8, 8, 8, 8, 8, 8, 8, 8, 8, 8, 8, 8, 8, 8, 8, 8, 8, 8, 8, 8, 8, 8, 8, 8, 8, 8, 8, 8, 8, 8, 8, 8, 8, 8, 8, 8, 8, 8, 8, 8, 8, 8, 8, 8, 8, 8, 8, 8, 8, 8, 8, 8, 8, 8, 8, 8, 8, 8, 8, 8, 8, 8, 8, 8, 8]⟩ : ByteArray)[(IntKind.wrap .u8 t8.1).toNat]? = some b10 ∧
 K (IntKind.wrap .i64 (t8.2 + (IntKind.wrap .i64 (b10.toNat : Int)))) h9) (fun J7 =>
 CondP (decide (t5.1 ≥ (256 : Int))) (
 ((0 : Int) ≤ (8 : Int) ∧
 J7 (Int.fdiv t5.1 (2 ^ (min (8 : Int).toNat (IntKind.bits .u64))), IntKind.wrap .i64 (t5.2 + 8)) h6)) (
 J7 (t5.1, t5.2) h6))) (fun J4 =>
 CondP (decide (t2.1 ≥ (65536 : Int))) (
 ((0 : Int) ≤ (16 : Int) ∧
 J4 (Int.fdiv t2.1 (2 ^ (min (16 : Int).toNat (IntKind.bits .u64))), IntKind.wrap .i64 (t2.2 + 16)) h3)) (
 J4 (t2.1, t2.2) h3))) (fun J1 =>
 CondP (decide (x0 ≥ (4294967296 : Int))) (
 ((0 : Int) ≤ (32 : Int) ∧
 J1 (Int.fdiv x0 (2 ^ (min (32 : Int).toNat (IntKind.bits .u64))), 32) h0)) (
 J1 (x0, 0) h0))
noncomputable def A_math_bits_Len64 : Ann := .node (.reg [0,2] (.nil)) (.join [] [(0,.c (.int .u64)),(2,.c (.int .i64))] (.node (.reg [0,2,4] (.nil)) (.node (.node (.reg [0] (.nil)) (.reg [0,2] (.nil))) (.nil))) (.join [] [(0,.c (.int .u64)),(2,.c (.int .i64))] (.node (.reg [0,2,8] (.nil)) (.node (.node (.reg [0,2] (.nil)) (.reg [0,2] (.nil))) (.nil))) (.join [] [(0,.c (.int .u64)),(2,.c (.int .i64))] (.node (.reg [0,2,14] (.nil)) (.node (.node (.reg [0,2] (.nil)) (.reg [0,2] (.nil))) (.nil))) (.node (.reg [2] (.nil)) (.nil)))))
theorem H_math_bits_Len64 (x0 : Int) {K : Tup [.c (.int .i64)] → Heap → Prop} {h0 : Heap} (h : F_math_bits_Len64 x0 K h0) : HC PG f_math_bits_Len64 [.int .u64 x0] [.c (.int .i64)] K h0 := HC.intro (an := A_math_bits_Len64) (c := Tryz.f104.body.getD .skip) Tryz.mixed Tryz.func104 rfl Tryz.call104 (Nat.le_of_ble_eq_true rfl) (cst (by kernel_rfl) h)
def F_tree_Tree_Get (x0 : T6) (x1 : ByteArray) (K : (ByteArray × Bool) → Heap → Prop) (h0 : Heap) : Prop :=
 At (hnew h0 [.int .i64 x0.1, .int .u64 x0.2.1, .int .u64 x0.2.2.1, .int .u64 x0.2.2.2.1, .pointer x0.2.2.2.2.1, .pointer x0.2.2.2.2.2] t_tree_Tree) (fun h1 =>
 ∃ v2, cAt h1 (newA h0) 0 (.int .i64 v2) ∧
 CondP (v2 == (1 : Int)) (
 ∃ v3, cAt h1 (newA h0) 5 (.pointer v3) ∧
 HC PG f_radix_Get [.pointer v3, .string x1] [.c .str, .c .bool] (fun (e4 : ByteArray × Bool) h5 =>
 K (e4.1, e4.2) h5) h1) (
 ∃ v6, cAt h1 (adr (newA h0) 1) 0 (.int .u64 v6) ∧
 ∃ v7, cAt h1 (adr (newA h0) 1) 1 (.int .u64 v7) ∧
 ∃ v8, cAt h1 (adr (newA h0) 1) 2 (.int .u64 v8) ∧
 ∃ v9, cAt h1 (newA h0) 4 (.pointer v9) ∧
 HC PG f_champ_Get [.agg #[.int .u64 v6, .int .u64 v7, .int .u64 v8], .pointer v9, .string x1] [.c .str, .c .bool] (fun (e10 : ByteArray × Bool) h11 =>
 K (e10.1, e10.2) h11) h1))
noncomputable def A_tree_Tree_Get : Ann := .node (.reg [1,2] (.nil)) (.node (.node (.reg [1,2,8] (.nil)) (.node (.node (.reg [4,5] (.nil)) (.nil)) (.nil))) (.node (.reg [4,5] (.nil)) (.nil)))
theorem H_tree_Tree_Get (x0 : T6) (x1 : ByteArray) {K : Tup [.c .str, .c .bool] → Heap → Prop} {h0 : Heap} (h : F_tree_Tree_Get x0 x1 K h0) : HC PG f_tree_Tree_Get [.agg #[.int .i64 x0.1, .int .u64 x0.2.1, .int .u64 x0.2.2.1, .int .u64 x0.2.2.2.1, .pointer x0.2.2.2.2.1, .pointer x0.2.2.2.2.2], .string x1] [.c .str, .c .bool] K h0 := HC.intro (an := A_tree_Tree_Get) (c := Tryz.f105.body.getD .skip) Tryz.mixed Tryz.func105 rfl Tryz.call105 (Nat.le_of_ble_eq_true rfl) (cst (by kernel_rfl) h)
def F_slices_Collect_pair_Pair (x0 : Value) (K : (SliceV) → Heap → Prop) (h0 : Heap) : Prop :=
 HC PG f_slices_AppendSeq_A_pair_Pair_pair_Pair [.slice none 0 0, x0] [.c .slice] (fun (e1 : SliceV) h2 =>
 K e1 h2) h0
noncomputable def A_slices_Collect_pair_Pair : Ann := .node (.reg [0] (.nil)) (.node (.reg [2] (.nil)) (.nil))
theorem H_slices_Collect_pair_Pair (x0 : Value) {K : Tup [.c .slice] → Heap → Prop} {h0 : Heap} (h : F_slices_Collect_pair_Pair x0 K h0) : HC PG f_slices_Collect_pair_Pair [x0] [.c .slice] K h0 := HC.intro (an := A_slices_Collect_pair_Pair) (c := Tryz.f106.body.getD .skip) Tryz.mixed Tryz.func106 rfl Tryz.call106 (Nat.le_of_ble_eq_true rfl) (cst (by kernel_rfl) h)
def F_walk_All (x0 : Option Addr) (K : (Value) → Heap → Prop) (h0 : Heap) : Prop :=
 At (hnew h0 [.pointer x0] t_P_node_Node) (fun h1 =>
 K (.func (.func f_walk_All_1) #[] #[.pointer (some (newA h0))]) h1)
noncomputable def A_walk_All : Ann := .node (.reg [1] (.nil)) (.node (.reg [2] (.nil)) (.nil))
theorem H_walk_All (x0 : Option Addr) {K : Tup [.c .raw] → Heap → Prop} {h0 : Heap} (h : F_walk_All x0 K h0) : HC PG f_walk_All [.pointer x0] [.c .raw] K h0 := HC.intro (an := A_walk_All) (c := Tryz.f108.body.getD .skip) Tryz.mixed Tryz.func108 rfl Tryz.call108 (Nat.le_of_ble_eq_true rfl) (cst (by kernel_rfl) h)
def F_slices_SortStableFunc_A_pair_Pair_pair_Pair (x0 : SliceV) (x1 : Value) (K : (Unit) → Heap → Prop) (h0 : Heap) : Prop :=
 HC PG f_slices_stableCmpFunc_pair_Pair [.slice x0.a x0.len x0.cap, .int .i64 (x0.len : Int), x1] [] (fun (e1 : Unit) h2 =>
 K () h2) h0
noncomputable def A_slices_SortStableFunc_A_pair_Pair_pair_Pair : Ann := .reg [] (.nil)
theorem H_slices_SortStableFunc_A_pair_Pair_pair_Pair (x0 : SliceV) (x1 : Value) {K : Tup [] → Heap → Prop} {h0 : Heap} (h : F_slices_SortStableFunc_A_pair_Pair_pair_Pair x0 x1 K h0) : HC PG f_slices_SortStableFunc_A_pair_Pair_pair_Pair [.slice x0.a x0.len x0.cap, x1] [] K h0 := HC.intro (an := A_slices_SortStableFunc_A_pair_Pair_pair_Pair) (c := Tryz.f109.body.getD .skip) Tryz.mixed Tryz.func109 rfl Tryz.call109 (Nat.le_of_ble_eq_true rfl) (cst (by kernel_rfl) h)
def F_pair_Sorted_1 (x0 : ByteArray × ByteArray) (x1 : ByteArray × ByteArray) (K : (Int) → Heap → Prop) (h0 : Heap) : Prop :=
 At (hnew h0 [.string x0.1, .string x0.2] t_pair_Pair) (fun h1 =>
 At (hnew h1 [.string x1.1, .string x1.2] t_pair_Pair) (fun h2 =>
 ∃ v3, cAt h2 (newA h0) 0 (.string v3) ∧
 ∃ v4, cAt h2 (newA h0) 1 (.string v4) ∧
 ∃ v5, cAt h2 (newA h1) 0 (.string v5) ∧
 HC PG f_pair_order [.agg #[.string v3, .string v4], .string v5] [.c (.int .i64)] (fun (e6 : Int) h7 =>
 K e6 h7) h2))
noncomputable def A_pair_Sorted_1 : Ann := .node (.reg [2,3] (.nil)) (.node (.reg [4] (.nil)) (.nil))
theorem H_pair_Sorted_1 (x0 : ByteArray × ByteArray) (x1 : ByteArray × ByteArray) {K : Tup [.c (.int .i64)] → Heap → Prop} {h0 : Heap} (h : F_pair_Sorted_1 x0 x1 K h0) : HC PG f_pair_Sorted_1 [.agg #[.string x0.1, .string x0.2], .agg #[.string x1.1, .string x1.2]] [.c (.int .i64)] K h0 := HC.intro (an := A_pair_Sorted_1) (c := Tryz.f110.body.getD .skip) Tryz.mixed Tryz.func110 rfl Tryz.call110 (Nat.le_of_ble_eq_true rfl) (cst (by kernel_rfl) h)
def F_pair_order (x0 : ByteArray × ByteArray) (x1 : ByteArray) (K : (Int) → Heap → Prop) (h0 : Heap) : Prop :=
 At (hnew h0 [.string x0.1, .string x0.2] t_pair_Pair) (fun h1 =>
 ∃ v2, cAt h1 (newA h0) 0 (.string v2) ∧
 HC PG f_cmp_Compare_str [.string v2, .string x1] [.c (.int .i64)] (fun (e3 : Int) h4 =>
 K e3 h4) h1)
noncomputable def A_pair_order : Ann := .node (.reg [1,2] (.nil)) (.node (.reg [4] (.nil)) (.nil))
theorem H_pair_order (x0 : ByteArray × ByteArray) (x1 : ByteArray) {K : Tup [.c (.int .i64)] → Heap → Prop} {h0 : Heap} (h : F_pair_order x0 x1 K h0) : HC PG f_pair_order [.agg #[.string x0.1, .string x0.2], .string x1] [.c (.int .i64)] K h0 := HC.intro (an := A_pair_order) (c := Tryz.f111.body.getD .skip) Tryz.mixed Tryz.func111 rfl Tryz.call111 (Nat.le_of_ble_eq_true rfl) (cst (by kernel_rfl) h)
def F_slices_IndexFunc_A_pair_Pair_pair_Pair (x0 : SliceV) (x1 : Value) (K : (Int) → Heap → Prop) (h0 : Heap) : Prop :=
 LoopP (fun I1 (t2 : Int) h3 =>
 CondP (decide (t2 < (x0.len : Int))) (
 (iBd t2 x0.len ∧ ∃ a4, x0.a = some a4 ∧
 ∃ v5, cAt h3 (adr a4 (t2.toNat * 2)) 0 (.string v5) ∧
 ∃ v6, cAt h3 (adr a4 (t2.toNat * 2)) 1 (.string v6) ∧
 HV PG x1 [.agg #[.string v5, .string v6]] [.c .bool] (fun (e7 : Bool) h8 =>
 CondP e7 (
 K t2 h8) (
 I1 (IntKind.wrap .i64 (t2 + 1)) h8)) h3)) (
 K (-1) h3)) 0 h0
noncomputable def A_slices_IndexFunc_A_pair_Pair_pair_Pair : Ann := .node (.reg [0,1] (.nil)) (.node (.node (.reg [0,1,7,8] (.nil)) (.loop [0,1,7] [(8,.c (.int .i64))] (.node (.reg [0,1,7,8,9] (.nil)) (.node (.nil) (.node (.node (.reg [0,1,5,7,8] (.nil)) (.node (.reg [0,1,5,7,8,16] (.nil)) (.node (.node (.reg [4] (.nil)) (.nil)) (.nil)))) (.reg [0,1,7,8] (.nil))))))) (.node (.reg [4] (.nil)) (.nil)))
theorem H_slices_IndexFunc_A_pair_Pair_pair_Pair (x0 : SliceV) (x1 : Value) {K : Tup [.c (.int .i64)] → Heap → Prop} {h0 : Heap} (h : F_slices_IndexFunc_A_pair_Pair_pair_Pair x0 x1 K h0) : HC PG f_slices_IndexFunc_A_pair_Pair_pair_Pair [.slice x0.a x0.len x0.cap, x1] [.c (.int .i64)] K h0 := HC.intro (an := A_slices_IndexFunc_A_pair_Pair_pair_Pair) (c := Tryz.f112.body.getD .skip) Tryz.mixed Tryz.func112 rfl Tryz.call112 (Nat.le_of_ble_eq_true rfl) (cst (by kernel_rfl) h)
def F_build_kids_1 (x0 : ByteArray × ByteArray) (y0 : Addr) (y1 : Addr) (K : (Bool) → Heap → Prop) (h0 : Heap) : Prop :=
 At (hnew h0 [.string x0.1, .string x0.2] t_pair_Pair) (fun h1 =>
 ∃ v2, cAt h1 (newA h0) 0 (.string v2) ∧
 ∃ v3, hcell h1 y0 = some (.int .i64 v3) ∧
 ∃ b4, (0 : Int) ≤ v3 ∧ v2[v3.toNat]? = some b4 ∧
 ∃ v5, hcell h1 y1 = some (.int .u8 v5) ∧
 K ((b4.toNat : Int) != v5) h1)
noncomputable def A_build_kids_1 : Ann := .node (.reg [1,2,3] (.nil)) (.node (.reg [4] (.draw (dl 7 [dm [] [3] 6,dm [0] [5] 7,dm [] [1] 8,dm [1,2] [6,7] 9,dm [] [2] 10,dm [3,4] [8,9] 11,dn [0,1,2,3,4,5] [5] [10] 5]) (tr 0 7 (.done)))) (.nil))
theorem H_build_kids_1 (x0 : ByteArray × ByteArray) (y0 : Addr) (y1 : Addr) {K : Tup [.c .bool] → Heap → Prop} {h0 : Heap} (h : F_build_kids_1 x0 y0 y1 K h0) : HC PG f_build_kids_1 [.agg #[.string x0.1, .string x0.2], .pointer (some y0), .pointer (some y1)] [.c .bool] K h0 := HC.intro (an := A_build_kids_1) (c := Tryz.f113.body.getD .skip) Tryz.mixed Tryz.func113 rfl Tryz.call113 (Nat.le_of_ble_eq_true rfl) (cst (by kernel_rfl) h)
def F_build_branch (x0 : SliceV) (x1 : Int) (K : (Option Addr) → Heap → Prop) (h0 : Heap) : Prop :=
 (iBd 0 x0.len ∧ ∃ a1, x0.a = some a1 ∧
 ∃ v2, cAt h0 (adr a1 ((0 : Int).toNat * 2)) 0 (.string v2) ∧
 (iBd (IntKind.wrap .i64 ((x0.len : Int) - 1)) x0.len ∧ ∃ a3, x0.a = some a3 ∧
 ∃ v4, cAt h0 (adr a3 ((IntKind.wrap .i64 ((x0.len : Int) - 1)).toNat * 2)) 0 (.string v4) ∧
 HC PG f_twig_Common [.string v2, .string v4] [.c (.int .i64)] (fun (e5 : Int) h6 =>
 (iBd 0 x0.len ∧ ∃ a7, x0.a = some a7 ∧
 ∃ v8, cAt h6 (adr a7 ((0 : Int).toNat * 2)) 0 (.string v8) ∧
 (((0 : Int) ≤ e5 ∧ e5 ≤ ((v8.size : Nat) : Int)) ∧
 (((0 : Int) ≤ x1 ∧ x1 ≤ ((e5.toNat : Nat) : Int)) ∧
 (iBd 0 x0.len ∧ ∃ a9, x0.a = some a9 ∧
 ∃ v10, cAt h6 (adr a9 ((0 : Int).toNat * 2)) 0 (.string v10) ∧
 Join (fun (t14 : SliceV × ByteArray) h15 =>
 HC PG f_build_kids [.slice t14.1.a t14.1.len t14.1.cap, .int .i64 e5] [.c .slice] (fun (e16 : SliceV) h17 =>
 HC PG f_radix_Make [.string (v8.extract x1.toNat e5.toNat), .bool ((v10.size : Int) == e5), .string t14.2, .slice e16.a e16.len e16.cap] [.c .ptr] (fun (e18 : Option Addr) h19 =>
 K e18 h19) h17) h15) (fun J11 =>
 CondP ((v10.size : Int) == e5) (
 (iBd 0 x0.len ∧ ∃ a12, x0.a = some a12 ∧
 ∃ v13, cAt h6 (adr a12 ((0 : Int).toNat * 2)) 1 (.string v13) ∧
 (((0 : Int) ≤ (1 : Int) ∧ (1 : Int) ≤ ((x0.len : Nat) : Int)) ∧
 J11 (⟨subAddr x0.a ((1 : Int).toNat) x0.cap 2, x0.len - ((1 : Int).toNat), x0.cap - ((1 : Int).toNat)⟩, v13) h6))) (
 J11 (x0, (⟨#[]⟩ : ByteArray)) h6))))))) h0))
noncomputable def A_build_branch : Ann := .node (.reg [0,1] (.nil)) (.node (.reg [0,1,5] (.draw (dl 13 [dm [] [0] 10,dm [0] [9] 11,dm [1] [10] 12,dm [2] [11] 13,dm [] [0] 14,dm [] [0] 15,dm [5] [14] 16,dm [6] [15] 17,dm [4,7] [13,16] 18,dm [8] [17] 19,dm [9] [18] 20,dm [3,10] [12,19] 21,dn [0,1,2,3,4,5,6,7,8,9,10,11] [11] [20] 6]) (tr 0 11 (.all (.last 11 (.take 12 (.done))))))) (.node (.reg [0,5,6,7,8] (.draw (dl 17 [dm [] [0] 22,dm [0] [21] 23,dm [1] [22] 24,dm [2] [23] 25,dm [] [1] 26,dm [] [5] 27,dm [3,4,5] [24,25,26] 28,dm [] [0] 29,dm [7] [28] 30,dm [8] [29] 31,dm [9] [30] 32,dm [10] [31] 33,dm [] [5] 34,dm [11,12] [32,33] 35,dn [0,1,2,3,4,5,6] [6] [27] 7,dn [0,1,2,3,4,5,6,14] [] [] 8,dn [0,1,2,3,4,5,6,7,8,9,10,11,12,13,14,15] [13] [34] 9]) (tr 0 17 (.done)))) (.join [5,6,8] [(0,.c .slice),(7,.c .str)] (.node (.reg [0,5,6,7,8,35] (.nil)) (.node (.reg [0,5,6,7,8] (.draw (dl 8 [dm [] [0] 37,dm [0] [36] 38,dm [1] [37] 39,dm [2] [38] 40,dm [] [0] 41,dm [4] [40] 42,dn [0,1,2,3] [3] [39] 8,dn [0,1,2,3,4,5,6] [0,4,5] [41] 1]) (tr 0 8 (.done)))) (.nil))) (.node (.reg [4] (.nil)) (.nil)))))
theorem H_build_branch (x0 : SliceV) (x1 : Int) {K : Tup [.c .ptr] → Heap → Prop} {h0 : Heap} (h : F_build_branch x0 x1 K h0) : HC PG f_build_branch [.slice x0.a x0.len x0.cap, .int .i64 x1] [.c .ptr] K h0 := HC.intro (an := A_build_branch) (c := Tryz.f114.body.getD .skip) Tryz.mixed Tryz.func114 rfl Tryz.call114 (Nat.le_of_ble_eq_true rfl) (cst (by kernel_rfl) h)
def F_sip_Sum (x0 : Int × Int) (x1 : ByteArray) (K : (Int) → Heap → Prop) (h0 : Heap) : Prop :=
 At (hnew h0 [.int .u64 x0.1, .int .u64 x0.2] t_sip_Key) (fun h1 =>
 ∃ v2, cAt h1 (newA h0) 0 (.int .u64 v2) ∧
 Bd (IntKind.wrap .u64 (BitVec.ofInt (IntKind.bits .u64) v2 ^^^ BitVec.ofInt (IntKind.bits .u64) 8317987319222330741).toNat : Int) (fun n3 =>
 ∃ v4, cAt h1 (newA h0) 1 (.int .u64 v4) ∧
 Bd (IntKind.wrap .u64 (BitVec.ofInt (IntKind.bits .u64) v4 ^^^ BitVec.ofInt (IntKind.bits .u64) 7237128888997146477).toNat : Int) (fun n5 =>
 ∃ v6, cAt h1 (newA h0) 0 (.int .u64 v6) ∧
 Bd (IntKind.wrap .u64 (BitVec.ofInt (IntKind.bits .u64) v6 ^^^ BitVec.ofInt (IntKind.bits .u64) 7816392313619706465).toNat : Int) (fun n7 =>
 ∃ v8, cAt h1 (newA h0) 1 (.int .u64 v8) ∧
 Bd (IntKind.wrap .u64 (BitVec.ofInt (IntKind.bits .u64) v8 ^^^ BitVec.ofInt (IntKind.bits .u64) 8387220255154660723).toNat : Int) (fun n9 =>
 At (hnew h1 [.int .u64 0, .int .u64 0, .int .u64 0, .int .u64 0] t_sip_state) (fun h10 =>
 (WrS h10 (some (newA h1)) 0 [.int .u64 n3, .int .u64 n5, .int .u64 n7, .int .u64 n9] ∧
 At (hsetL h10 (newA h1) 0 [.int .u64 n3, .int .u64 n5, .int .u64 n7, .int .u64 n9]) (fun h11 =>
 LoopP (fun I12 (t13 : ByteArray) h14 =>
 CondP (decide ((t13.size : Int) ≥ (8 : Int))) (
 (((0 : Int) ≤ (8 : Int) ∧ (8 : Int) ≤ ((t13.size : Nat) : Int)) ∧
 HC PG f_sip_word [.string (t13.extract 0 ((8 : Int).toNat))] [.c (.int .u64)] (fun (e15 : Int) h16 =>
 HC PG f_sip_state_take [.pointer (some (newA h1)), .int .u64 e15] [] (fun (e17 : Unit) h18 =>
 (((0 : Int) ≤ (8 : Int) ∧ (8 : Int) ≤ ((t13.size : Nat) : Int)) ∧
 I12 (t13.extract ((8 : Int).toNat) t13.size) h18)) h16) h14)) (
 HC PG f_sip_word [.string t13] [.c (.int .u64)] (fun (e19 : Int) h20 =>
 ((0 : Int) ≤ (56 : Int) ∧
 Bd (IntKind.wrap .u64 ((IntKind.wrap .u64 (x1.size : Int)) * 2 ^ (min (56 : Int).toNat (IntKind.bits .u64))) : Int) (fun n21 =>
 Bd (IntKind.wrap .u64 (BitVec.ofInt (IntKind.bits .u64) e19 ||| BitVec.ofInt (IntKind.bits .u64) n21).toNat : Int) (fun n22 =>
 HC PG f_sip_state_take [.pointer (some (newA h1)), .int .u64 n22] [] (fun (e23 : Unit) h24 =>
 (iBd (2 : Int) 4 ∧
 ∃ v25, cAt h24 (newA h1) ((2 : Int).toNat * 1) (.int .u64 v25) ∧
 Bd (IntKind.wrap .u64 (BitVec.ofInt (IntKind.bits .u64) v25 ^^^ BitVec.ofInt (IntKind.bits .u64) 255).toNat : Int) (fun n26 =>
 (iBd (2 : Int) 4 ∧
 (Wr h24 (adr (newA h1) ((2 : Int).toNat * 1)) ∧
 At (hset h24 (adr (newA h1) ((2 : Int).toNat * 1)) (.int .u64 n26)) (fun h27 =>
 HC PG f_sip_state_rounds [.pointer (some (newA h1)), .int .i64 4] [] (fun (e28 : Unit) h29 =>
 (iBd 0 4 ∧
 ∃ v30, cAt h29 (newA h1) ((0 : Int).toNat * 1) (.int .u64 v30) ∧
 (iBd 1 4 ∧
 ∃ v31, cAt h29 (newA h1) ((1 : Int).toNat * 1) (.int .u64 v31) ∧
 Bd (IntKind.wrap .u64 (BitVec.ofInt (IntKind.bits .u64) v30 ^^^ BitVec.ofInt (IntKind.bits .u64) v31).toNat : Int) (fun n32 =>
 (iBd (2 : Int) 4 ∧
 ∃ v33, cAt h29 (newA h1) ((2 : Int).toNat * 1) (.int .u64 v33) ∧
 Bd (IntKind.wrap .u64 (BitVec.ofInt (IntKind.bits .u64) n32 ^^^ BitVec.ofInt (IntKind.bits .u64) v33).toNat : Int) (fun n34 =>
 (iBd (3 : Int) 4 ∧
 ∃ v35, cAt h29 (newA h1) ((3 : Int).toNat * 1) (.int .u64 v35) ∧
 Bd (IntKind.wrap .u64 (BitVec.ofInt (IntKind.bits .u64) n34 ^^^ BitVec.ofInt (IntKind.bits .u64) v35).toNat : Int) (fun n36 =>
 K n36 h29)))))))) h27)))))) h20)))) h14)) x1 h11))))))))
noncomputable def A_sip_Sum : Ann := .node (.reg [1,2] (.nil)) (.node (.reg [1,5] (.nil)) (.node (.reg [1,5,6] (.nil)) (.node (.loop [5,6] [(1,.c .str)] (.node (.node (.reg [1,5,6,24] (.nil)) (.nil)) (.node (.reg [1,5,6] (.nil)) (.reg [1,5,6] (.nil))))) (.node (.reg [5] (.nil)) (.node (.reg [5] (.nil)) (.node (.reg [5] (.nil)) (.node (.reg [4] (.nil)) (.nil))))))))
theorem H_sip_Sum (x0 : Int × Int) (x1 : ByteArray) {K : Tup [.c (.int .u64)] → Heap → Prop} {h0 : Heap} (h : F_sip_Sum x0 x1 K h0) : HC PG f_sip_Sum [.agg #[.int .u64 x0.1, .int .u64 x0.2], .string x1] [.c (.int .u64)] K h0 := HC.intro (an := A_sip_Sum) (c := Tryz.f115.body.getD .skip) Tryz.mixed Tryz.func115 rfl Tryz.call115 (Nat.le_of_ble_eq_true rfl) (cst (by kernel_rfl) h)
def F_node_Bucket  (K : (Option Addr) → Heap → Prop) (h0 : Heap) : Prop :=
 At (hnew h0 [.int .u32 0, .int .u32 0, .slice none 0 0, .slice none 0 0, .bool true, .pointer none] t_node_Node) (fun h1 =>
 K (some (newA h0)) h1)
noncomputable def A_node_Bucket : Ann := .node (.reg [] (.nil)) (.node (.reg [0] (.nil)) (.nil))
theorem H_node_Bucket  {K : Tup [.c .ptr] → Heap → Prop} {h0 : Heap} (h : F_node_Bucket  K h0) : HC PG f_node_Bucket [] [.c .ptr] K h0 := HC.intro (an := A_node_Bucket) (c := Tryz.f116.body.getD .skip) Tryz.mixed Tryz.func116 rfl Tryz.call116 (Nat.le_of_ble_eq_true rfl) (cst (by kernel_rfl) h)
def F_node_Node_Put (x0 : Option Addr) (x1 : Option Addr) (x2 : ByteArray × ByteArray) (K : (Option Addr) → Heap → Prop) (h0 : Heap) : Prop :=
 At (hnew h0 [.string x2.1, .string x2.2] t_pair_Pair) (fun h1 =>
 HC PG f_node_Node_IsBucket [.pointer x0] [.c .bool] (fun (e2 : Bool) h3 =>
 CondP (!e2) (
 K x0 h3) (
 HC PG f_node_Node_own [.pointer x0, .pointer x1] [.c .ptr] (fun (e4 : Option Addr) h5 =>
 ∃ a6, e4 = some a6 ∧
 ∃ v7 : SliceV, cAt h5 (adr a6 0) 2 (.slice v7.a v7.len v7.cap) ∧
 ∃ v8, cAt h5 (newA h0) 0 (.string v8) ∧
 ∃ v9, cAt h5 (newA h0) 1 (.string v9) ∧
 HC PG f_pair_Put [.slice v7.a v7.len v7.cap, .agg #[.string v8, .string v9]] [.c .slice] (fun (e10 : SliceV) h11 =>
 ∃ a12, e4 = some a12 ∧
 (Wr h11 (adr (adr a12 0) 2) ∧
 At (hset h11 (adr (adr a12 0) 2) (.slice e10.a e10.len e10.cap)) (fun h13 =>
 K e4 h13))) h5) h3)) h1)
noncomputable def A_node_Node_Put : Ann := .node (.reg [0,1,5] (.nil)) (.node (.node (.reg [0,1,5,10] (.nil)) (.node (.node (.reg [6] (.nil)) (.nil)) (.nil))) (.node (.reg [5,7] (.nil)) (.node (.reg [7] (.draw (dl 12 [dm [] [7] 16,dm [] [7] 17,dm [1] [16] 18,dm [2] [17] 19,dm [3] [18] 20,dm [4] [19] 21,dm [] [5] 22,dm [5,6] [20,21] 23,dn [0,1,2,3,4,5,6,7] [0] [15] 24,dn [0,1,2,3,4,5,6,7,8] [8] [23] 25,dn [0,1,2,3,4,5,6,7,9] [9] [24] 26,dn [0,1,2,3,4,5,6,7,10] [7,10] [22,25] 0]) (tr 0 7 (.all (.last 7 (tr 8 3 (.all (.last 11 (.done))))))))) (.node (.reg [6] (.nil)) (.nil)))))
theorem H_node_Node_Put (x0 : Option Addr) (x1 : Option Addr) (x2 : ByteArray × ByteArray) {K : Tup [.c .ptr] → Heap → Prop} {h0 : Heap} (h : F_node_Node_Put x0 x1 x2 K h0) : HC PG f_node_Node_Put [.pointer x0, .pointer x1, .agg #[.string x2.1, .string x2.2]] [.c .ptr] K h0 := HC.intro (an := A_node_Node_Put) (c := Tryz.f117.body.getD .skip) Tryz.mixed Tryz.func117 rfl Tryz.call117 (Nat.le_of_ble_eq_true rfl) (cst (by kernel_rfl) h)
def F_build_trie_1 (x0 : ByteArray × ByteArray × Int) (y0 : Addr) (K : (Int) → Heap → Prop) (h0 : Heap) : Prop :=
 At (hnew h0 [.string x0.1, .string x0.2.1, .int .u64 x0.2.2] t_build_hashed) (fun h1 =>
 ∃ v2, cAt h1 (newA h0) 2 (.int .u64 v2) ∧
 ∃ v3, hcell h1 y0 = some (.int .i64 v3) ∧
 HC PG f_chunk_At [.int .u64 v2, .int .i64 v3] [.c (.int .i64)] (fun (e4 : Int) h5 =>
 K e4 h5) h1)
noncomputable def A_build_trie_1 : Ann := .node (.reg [1,2] (.nil)) (.node (.reg [3] (.nil)) (.nil))
theorem H_build_trie_1 (x0 : ByteArray × ByteArray × Int) (y0 : Addr) {K : Tup [.c (.int .i64)] → Heap → Prop} {h0 : Heap} (h : F_build_trie_1 x0 y0 K h0) : HC PG f_build_trie_1 [.agg #[.string x0.1, .string x0.2.1, .int .u64 x0.2.2], .pointer (some y0)] [.c (.int .i64)] K h0 := HC.intro (an := A_build_trie_1) (c := Tryz.f118.body.getD .skip) Tryz.mixed Tryz.func118 rfl Tryz.call118 (Nat.le_of_ble_eq_true rfl) (cst (by kernel_rfl) h)
def F_chunk_At (x0 : Int) (x1 : Int) (K : (Int) → Heap → Prop) (h0 : Heap) : Prop :=
 Join (fun (t2 : Bool) h3 =>
 CondP t2 (
 K 0 h3) (
 ((0 : Int) ≤ (IntKind.wrap .i64 (5 * x1)) ∧
 Bd (Int.fdiv x0 (2 ^ (min (IntKind.wrap .i64 (5 * x1) : Int).toNat (IntKind.bits .u64))) : Int) (fun n4 =>
 Bd (IntKind.wrap .u64 (BitVec.ofInt (IntKind.bits .u64) n4 &&& BitVec.ofInt (IntKind.bits .u64) 31).toNat : Int) (fun n5 =>
 K (IntKind.wrap .i64 n5) h3))))) (fun J1 =>
 CondP (decide (x1 < (0 : Int))) (
 J1 true h0) (
 J1 (decide (x1 ≥ (13 : Int))) h0))
noncomputable def A_chunk_At : Ann := .node (.reg [0,1] (.nil)) (.node (.join [0,1] [(10,.c .bool)] (.reg [0,1,10] (.nil)) (.node (.node (.reg [4] (.nil)) (.nil)) (.nil))) (.node (.reg [4] (.nil)) (.nil)))
theorem H_chunk_At (x0 : Int) (x1 : Int) {K : Tup [.c (.int .i64)] → Heap → Prop} {h0 : Heap} (h : F_chunk_At x0 x1 K h0) : HC PG f_chunk_At [.int .u64 x0, .int .i64 x1] [.c (.int .i64)] K h0 := HC.intro (an := A_chunk_At) (c := Tryz.f119.body.getD .skip) Tryz.mixed Tryz.func119 rfl Tryz.call119 (Nat.le_of_ble_eq_true rfl) (cst (by kernel_rfl) h)
def F_slices_Clone_A_build_hashed_build_hashed (x0 : SliceV) (K : (SliceV) → Heap → Prop) (h0 : Heap) : Prop :=
 CondP x0.a.isNone (
 K ⟨none, 0, 0⟩ h0) (
 At (hnew h0 [] t_build_hashed) (fun h1 =>
 ∃ xs2, SRow h1 x0.a (x0.len * 3) xs2 ∧
 AppP (some [.string (⟨#[]⟩ : ByteArray), .string (⟨#[]⟩ : ByteArray), .int .u64 0]) 3 40 t_build_hashed (some (newA h0)) 0 0 x0.len xs2 h1 (fun s3 h4 =>
 K s3 h4)))
noncomputable def A_slices_Clone_A_build_hashed_build_hashed : Ann := .node (.reg [0] (.nil)) (.node (.node (.reg [0,4] (.nil)) (.node (.node (.reg [2] (.nil)) (.nil)) (.nil))) (.node (.reg [2] (.nil)) (.nil)))
theorem H_slices_Clone_A_build_hashed_build_hashed (x0 : SliceV) {K : Tup [.c .slice] → Heap → Prop} {h0 : Heap} (h : F_slices_Clone_A_build_hashed_build_hashed x0 K h0) : HC PG f_slices_Clone_A_build_hashed_build_hashed [.slice x0.a x0.len x0.cap] [.c .slice] K h0 := HC.intro (an := A_slices_Clone_A_build_hashed_build_hashed) (c := Tryz.f120.body.getD .skip) Tryz.mixed Tryz.func120 rfl Tryz.call120 (Nat.le_of_ble_eq_true rfl) (cst (by kernel_rfl) h)
def F_slices_SortStableFunc_A_build_hashed_build_hashed (x0 : SliceV) (x1 : Value) (K : (Unit) → Heap → Prop) (h0 : Heap) : Prop :=
 HC PG f_slices_stableCmpFunc_build_hashed [.slice x0.a x0.len x0.cap, .int .i64 (x0.len : Int), x1] [] (fun (e1 : Unit) h2 =>
 K () h2) h0
noncomputable def A_slices_SortStableFunc_A_build_hashed_build_hashed : Ann := .reg [] (.nil)
theorem H_slices_SortStableFunc_A_build_hashed_build_hashed (x0 : SliceV) (x1 : Value) {K : Tup [] → Heap → Prop} {h0 : Heap} (h : F_slices_SortStableFunc_A_build_hashed_build_hashed x0 x1 K h0) : HC PG f_slices_SortStableFunc_A_build_hashed_build_hashed [.slice x0.a x0.len x0.cap, x1] [] K h0 := HC.intro (an := A_slices_SortStableFunc_A_build_hashed_build_hashed) (c := Tryz.f121.body.getD .skip) Tryz.mixed Tryz.func121 rfl Tryz.call121 (Nat.le_of_ble_eq_true rfl) (cst (by kernel_rfl) h)
def F_build_trie_2 (x0 : ByteArray × ByteArray × Int) (x1 : ByteArray × ByteArray × Int) (y0 : Addr) (K : (Int) → Heap → Prop) (h0 : Heap) : Prop :=
 At (hnew h0 [.string x0.1, .string x0.2.1, .int .u64 x0.2.2] t_build_hashed) (fun h1 =>
 At (hnew h1 [.string x1.1, .string x1.2.1, .int .u64 x1.2.2] t_build_hashed) (fun h2 =>
 ∃ v3, hcell h2 y0 = some (v3) ∧
 ∃ v4, cAt h2 (newA h0) 0 (.string v4) ∧
 ∃ v5, cAt h2 (newA h0) 1 (.string v5) ∧
 ∃ v6, cAt h2 (newA h0) 2 (.int .u64 v6) ∧
 ∃ v7, hcell h2 y0 = some (v7) ∧
 ∃ v8, cAt h2 (newA h1) 0 (.string v8) ∧
 ∃ v9, cAt h2 (newA h1) 1 (.string v9) ∧
 ∃ v10, cAt h2 (newA h1) 2 (.int .u64 v10) ∧
 HV PG v3 [.agg #[.string v4, .string v5, .int .u64 v6]] [.c (.int .i64)] (fun (e11 : Int) h12 =>
 ((cAt h12 (newA h1) 0 (.string v8) ∧ cAt h12 (newA h1) 1 (.string v9) ∧ cAt h12 (newA h1) 2 (.int .u64 v10)) ∧
 (hcell h12 y0 = some (v7) ∧
 HV PG v7 [.agg #[.string v8, .string v9, .int .u64 v10]] [.c (.int .i64)] (fun (e13 : Int) h14 =>
 HC PG f_cmp_Compare_int [.int .i64 e11, .int .i64 e13] [.c (.int .i64)] (fun (e15 : Int) h16 =>
 K e15 h16) h14) h12))) h2))
noncomputable def A_build_trie_2 : Ann := .node (.reg [2,3,4] (.nil)) (.node (.reg [5] (.draw (dl 8 [dm [] [2] 7,dm [] [3] 8,dm [0,1] [6,7] 9,dm [] [2] 10,dm [] [4] 11,dn [2,3,4] [3,4] [9,10] 12,dm [2,5] [8,11] 13,dn [0,1,2,3,4,5,6] [6] [12] 6]) (tk [0,1,3,4] (.all (.last 2 (.all (.last 5 (.all (.last 6 (.take 7 (.done))))))))))) (.nil))
theorem H_build_trie_2 (x0 : ByteArray × ByteArray × Int) (x1 : ByteArray × ByteArray × Int) (y0 : Addr) {K : Tup [.c (.int .i64)] → Heap → Prop} {h0 : Heap} (h : F_build_trie_2 x0 x1 y0 K h0) : HC PG f_build_trie_2 [.agg #[.string x0.1, .string x0.2.1, .int .u64 x0.2.2], .agg #[.string x1.1, .string x1.2.1, .int .u64 x1.2.2], .pointer (some y0)] [.c (.int .i64)] K h0 := HC.intro (an := A_build_trie_2) (c := Tryz.f122.body.getD .skip) Tryz.mixed Tryz.func122 rfl Tryz.call122 (Nat.le_of_ble_eq_true rfl) (cst (by kernel_rfl) h)
def F_cmp_Compare_int (x0 : Int) (x1 : Int) (K : (Int) → Heap → Prop) (h0 : Heap) : Prop :=
 HC PG f_cmp_isNaN_int [.int .i64 x0] [.c .bool] (fun (e1 : Bool) h2 =>
 HC PG f_cmp_isNaN_int [.int .i64 x1] [.c .bool] (fun (e3 : Bool) h4 =>
 CondP e1 (
 CondP e3 (
 K 0 h4) (
 K (-1) h4)) (
 CondP e3 (
 K 1 h4) (
 CondP (decide (x0 < x1)) (
 K (-1) h4) (
 CondP (decide (x0 > x1)) (
 K 1 h4) (
 K 0 h4))))) h2) h0
noncomputable def A_cmp_Compare_int : Ann := .node (.reg [0,1] (.nil)) (.node (.reg [0,1,5] (.nil)) (.node (.reg [0,1,5,6] (.nil)) (.node (.node (.reg [0,1,6,11] (.nil)) (.node (.node (.node (.reg [12] (.nil)) (.node (.node (.reg [4] (.nil)) (.nil)) (.nil))) (.node (.reg [4] (.nil)) (.nil))) (.nil))) (.node (.node (.reg [0,1,13] (.nil)) (.node (.node (.reg [4] (.nil)) (.nil)) (.nil))) (.node (.node (.reg [0,1,16] (.nil)) (.node (.node (.reg [4] (.nil)) (.nil)) (.nil))) (.node (.node (.reg [19] (.nil)) (.node (.node (.reg [4] (.nil)) (.nil)) (.nil))) (.node (.reg [4] (.nil)) (.nil))))))))
theorem H_cmp_Compare_int (x0 : Int) (x1 : Int) {K : Tup [.c (.int .i64)] → Heap → Prop} {h0 : Heap} (h : F_cmp_Compare_int x0 x1 K h0) : HC PG f_cmp_Compare_int [.int .i64 x0, .int .i64 x1] [.c (.int .i64)] K h0 := HC.intro (an := A_cmp_Compare_int) (c := Tryz.f123.body.getD .skip) Tryz.mixed Tryz.func123 rfl Tryz.call123 (Nat.le_of_ble_eq_true rfl) (cst (by kernel_rfl) h)
def F_slices_IndexFunc_A_build_hashed_build_hashed (x0 : SliceV) (x1 : Value) (K : (Int) → Heap → Prop) (h0 : Heap) : Prop :=
 LoopP (fun I1 (t2 : Int) h3 =>
 CondP (decide (t2 < (x0.len : Int))) (
 (iBd t2 x0.len ∧ ∃ a4, x0.a = some a4 ∧
 ∃ v5, cAt h3 (adr a4 (t2.toNat * 3)) 0 (.string v5) ∧
 ∃ v6, cAt h3 (adr a4 (t2.toNat * 3)) 1 (.string v6) ∧
 ∃ v7, cAt h3 (adr a4 (t2.toNat * 3)) 2 (.int .u64 v7) ∧
 HV PG x1 [.agg #[.string v5, .string v6, .int .u64 v7]] [.c .bool] (fun (e8 : Bool) h9 =>
 CondP e8 (
 K t2 h9) (
 I1 (IntKind.wrap .i64 (t2 + 1)) h9)) h3)) (
 K (-1) h3)) 0 h0
noncomputable def A_slices_IndexFunc_A_build_hashed_build_hashed : Ann := .node (.reg [0,1] (.nil)) (.node (.node (.reg [0,1,7,8] (.nil)) (.loop [0,1,7] [(8,.c (.int .i64))] (.node (.reg [0,1,7,8,9] (.nil)) (.node (.nil) (.node (.node (.reg [0,1,5,7,8] (.nil)) (.node (.reg [0,1,5,7,8,16] (.nil)) (.node (.node (.reg [4] (.nil)) (.nil)) (.nil)))) (.reg [0,1,7,8] (.nil))))))) (.node (.reg [4] (.nil)) (.nil)))
theorem H_slices_IndexFunc_A_build_hashed_build_hashed (x0 : SliceV) (x1 : Value) {K : Tup [.c (.int .i64)] → Heap → Prop} {h0 : Heap} (h : F_slices_IndexFunc_A_build_hashed_build_hashed x0 x1 K h0) : HC PG f_slices_IndexFunc_A_build_hashed_build_hashed [.slice x0.a x0.len x0.cap, x1] [.c (.int .i64)] K h0 := HC.intro (an := A_slices_IndexFunc_A_build_hashed_build_hashed) (c := Tryz.f124.body.getD .skip) Tryz.mixed Tryz.func124 rfl Tryz.call124 (Nat.le_of_ble_eq_true rfl) (cst (by kernel_rfl) h)
def F_build_trie_3 (x0 : ByteArray × ByteArray × Int) (y0 : Addr) (y1 : Addr) (K : (Bool) → Heap → Prop) (h0 : Heap) : Prop :=
 At (hnew h0 [.string x0.1, .string x0.2.1, .int .u64 x0.2.2] t_build_hashed) (fun h1 =>
 ∃ v2, hcell h1 y0 = some (v2) ∧
 ∃ v3, cAt h1 (newA h0) 0 (.string v3) ∧
 ∃ v4, cAt h1 (newA h0) 1 (.string v4) ∧
 ∃ v5, cAt h1 (newA h0) 2 (.int .u64 v5) ∧
 ∃ v6, hcell h1 y1 = some (.int .i64 v6) ∧
 HV PG v2 [.agg #[.string v3, .string v4, .int .u64 v5]] [.c (.int .i64)] (fun (e7 : Int) h8 =>
 (hcell h8 y1 = some (.int .i64 v6) ∧
 K (e7 != v6) h8)) h1)
noncomputable def A_build_trie_3 : Ann := .node (.reg [1,2,3] (.nil)) (.node (.reg [4] (.draw (dl 6 [dm [] [1] 6,dm [] [3] 7,dm [0,1] [5,6] 8,dm [] [2] 9,dm [2,3] [7,8] 10,dn [0,1,2,3,4] [4] [9] 5]) (tk [0,1,3] (.all (.last 2 (.take 4 (.take 5 (.done)))))))) (.nil))
theorem H_build_trie_3 (x0 : ByteArray × ByteArray × Int) (y0 : Addr) (y1 : Addr) {K : Tup [.c .bool] → Heap → Prop} {h0 : Heap} (h : F_build_trie_3 x0 y0 y1 K h0) : HC PG f_build_trie_3 [.agg #[.string x0.1, .string x0.2.1, .int .u64 x0.2.2], .pointer (some y0), .pointer (some y1)] [.c .bool] K h0 := HC.intro (an := A_build_trie_3) (c := Tryz.f125.body.getD .skip) Tryz.mixed Tryz.func125 rfl Tryz.call125 (Nat.le_of_ble_eq_true rfl) (cst (by kernel_rfl) h)
def F_node_Node_SetPair (x0 : Option Addr) (x1 : Option Addr) (x2 : Int) (x3 : ByteArray × ByteArray) (K : (Option Addr) → Heap → Prop) (h0 : Heap) : Prop :=
 At (hnew h0 [.string x3.1, .string x3.2] t_pair_Pair) (fun h1 =>
 HC PG f_node_Node_inner [.pointer x0, .int .i64 x2] [.c .bool] (fun (e2 : Bool) h3 =>
 CondP (!e2) (
 K x0 h3) (
 HC PG f_node_Node_own [.pointer x0, .pointer x1] [.c .ptr] (fun (e4 : Option Addr) h5 =>
 ∃ a6, e4 = some a6 ∧
 ∃ v7, cAt h5 (adr a6 0) 0 (.int .u32 v7) ∧
 HC PG f_chunk_Bits_Has [.int .u32 v7, .int .i64 x2] [.c .bool] (fun (e8 : Bool) h9 =>
 CondP e8 (
 ∃ a10, e4 = some a10 ∧
 ∃ v11 : SliceV, cAt h9 (adr a10 0) 2 (.slice v11.a v11.len v11.cap) ∧
 ∃ a12, e4 = some a12 ∧
 ∃ v13, cAt h9 (adr a12 0) 0 (.int .u32 v13) ∧
 ∃ v14, cAt h9 (newA h0) 0 (.string v14) ∧
 ∃ v15, cAt h9 (newA h0) 1 (.string v15) ∧
 HC PG f_chunk_Bits_Rank [.int .u32 v13, .int .i64 x2] [.c (.int .i64)] (fun (e16 : Int) h17 =>
 ((cAt h17 (newA h0) 0 (.string v14) ∧ cAt h17 (newA h0) 1 (.string v15)) ∧
 (cAt h17 (adr a10 0) 2 (.slice v11.a v11.len v11.cap) ∧
 (iBd e16 v11.len ∧ ∃ a18, v11.a = some a18 ∧
 (WrS h17 (some (adr a18 (e16.toNat * 2))) 0 [.string v14, .string v15] ∧
 At (hsetL h17 (adr a18 (e16.toNat * 2)) 0 [.string v14, .string v15]) (fun h19 =>
 K e4 h19)))))) h9) (
 ∃ a20, e4 = some a20 ∧
 HC PG f_node_slots_drop [.pointer (some (adr a20 0)), .int .i64 x2] [] (fun (e21 : Unit) h22 =>
 ∃ a23, e4 = some a23 ∧
 ∃ v24 : SliceV, cAt h22 (adr a23 0) 2 (.slice v24.a v24.len v24.cap) ∧
 ∃ a25, e4 = some a25 ∧
 ∃ v26, cAt h22 (adr a25 0) 0 (.int .u32 v26) ∧
 ∃ v27, cAt h22 (newA h0) 0 (.string v27) ∧
 ∃ v28, cAt h22 (newA h0) 1 (.string v28) ∧
 ((HC PG f_chunk_Bits_Rank [.int .u32 v26, .int .i64 x2] [.c (.int .i64)] (fun (e29 : Int) h30 =>
 ((cAt h30 (newA h0) 0 (.string v27) ∧ cAt h30 (newA h0) 1 (.string v28)) ∧
 (cAt h30 (adr a23 0) 2 (.slice v24.a v24.len v24.cap) ∧
 At (hnew h30 [.string v27, .string v28] t_pair_Pair) (fun h31 =>
 (cAt h31 (adr a23 0) 2 (.slice v24.a v24.len v24.cap) ∧
 HC PG f_slices_Insert_A_pair_Pair_pair_Pair [.slice v24.a v24.len v24.cap, .int .i64 e29, .slice (some (newA h30)) 1 1] [.c .slice] (fun (e32 : SliceV) h33 =>
 ∃ a34, e4 = some a34 ∧
 (Wr h33 (adr (adr a34 0) 2) ∧
 At (hset h33 (adr (adr a34 0) 2) (.slice e32.a e32.len e32.cap)) (fun h35 =>
 ∃ a36, e4 = some a36 ∧
 ∃ v37, cAt h35 (adr a36 0) 0 (.int .u32 v37) ∧
 HC PG f_chunk_Bits_With [.int .u32 v37, .int .i64 x2] [.c (.int .u32)] (fun (e38 : Int) h39 =>
 ∃ a40, e4 = some a40 ∧
 (Wr h39 (adr (adr a40 0) 0) ∧
 At (hset h39 (adr (adr a40 0) 0) (.int .u32 e38)) (fun h41 =>
 K e4 h41))) h35))) h31))))) h22) ∧
 At (hnew h22 [.string v27, .string v28] t_pair_Pair) (fun h42 =>
 (cAt h42 (adr a25 0) 0 (.int .u32 v26) ∧
 (cAt h42 (adr a23 0) 2 (.slice v24.a v24.len v24.cap) ∧
 HC PG f_chunk_Bits_Rank [.int .u32 v26, .int .i64 x2] [.c (.int .i64)] (fun (e43 : Int) h44 =>
 (cAt h44 (adr a23 0) 2 (.slice v24.a v24.len v24.cap) ∧
 HC PG f_slices_Insert_A_pair_Pair_pair_Pair [.slice v24.a v24.len v24.cap, .int .i64 e43, .slice (some (newA h22)) 1 1] [.c .slice] (fun (e45 : SliceV) h46 =>
 ∃ a47, e4 = some a47 ∧
 (Wr h46 (adr (adr a47 0) 2) ∧
 At (hset h46 (adr (adr a47 0) 2) (.slice e45.a e45.len e45.cap)) (fun h48 =>
 ∃ a49, e4 = some a49 ∧
 ∃ v50, cAt h48 (adr a49 0) 0 (.int .u32 v50) ∧
 HC PG f_chunk_Bits_With [.int .u32 v50, .int .i64 x2] [.c (.int .u32)] (fun (e51 : Int) h52 =>
 ∃ a53, e4 = some a53 ∧
 (Wr h52 (adr (adr a53 0) 0) ∧
 At (hset h52 (adr (adr a53 0) 0) (.int .u32 e51)) (fun h54 =>
 K e4 h54))) h48))) h44)) h42))))) h9)) h5) h3)) h1)
noncomputable def A_node_Node_SetPair : Ann := .node (.reg [0,1,2,7] (.nil)) (.node (.node (.reg [0,1,2,7,13] (.nil)) (.node (.node (.reg [8] (.nil)) (.nil)) (.nil))) (.node (.reg [2,7,9] (.nil)) (.node (.node (.reg [2,7,9,24] (.nil)) (.node (.node (.reg [9] (.draw (dl 15 [dm [] [9] 26,dm [0] [25] 27,dm [1] [26] 28,dm [2] [27] 29,dm [3] [28] 30,dm [] [9] 31,dm [5] [30] 32,dm [6] [31] 33,dm [7] [32] 34,dm [8] [33] 35,dm [] [2] 36,dm [9,10] [34,35] 37,dm [] [7] 38,dn [0,1,2,3,4,5,6,7,8,9,10,11,12] [4,11] [29,36] 39,dn [0,1,2,3,4,5,6,7,8,9,10,11,12,13] [12,13] [37,38] 0]) (tk [0,1,2,3,4,5,6,7,8,9,10,12] (.all (.last 11 (.take 13 (.all (.last 14 (.done))))))))) (.node (.reg [8] (.nil)) (.nil))) (.nil))) (.node (.reg [2,7,9] (.nil)) (.node (.reg [2,9] (.draw (dl 20 [dm [] [9] 46,dm [] [9] 47,dm [1] [46] 48,dm [2] [47] 49,dm [3] [48] 50,dm [4] [49] 51,dm [] [9] 52,dm [6] [51] 53,dm [7] [52] 54,dm [8] [53] 55,dm [9] [54] 56,dm [] [2] 57,dm [10,11] [55,56] 58,dm [] [7] 59,dm [13] [58] 60,dm [5,12,14] [50,57,59] 61,dn [0,1,2,3,4,5,6,7,8,9,10,11,12,13,14,15] [0] [45] 62,dn [0,1,2,3,4,5,6,7,8,9,10,11,12,13,14,15,16] [16] [61] 63,dn [0,1,2,3,4,5,6,7,8,9,10,11,12,13,14,15,17] [17] [62] 64,dn [0,1,2,3,4,5,6,7,8,9,10,11,12,13,14,15,18] [15,18] [60,63] 0]) (tk [0,1,2,3,4,5,6,7,8,9,10,11,13] (.all (.pick 12 (.all (.last 14 (.all (.last 15 (tr 16 3 (.all (.last 19 (.done)))))))) (.last 14 (.all (.last 12 (.all (.last 15 (tr 16 3 (.all (.last 19 (.done)))))))))))))) (.node (.reg [9] (.nil)) (.node (.reg [8] (.nil)) (.nil))))))))
theorem H_node_Node_SetPair (x0 : Option Addr) (x1 : Option Addr) (x2 : Int) (x3 : ByteArray × ByteArray) {K : Tup [.c .ptr] → Heap → Prop} {h0 : Heap} (h : F_node_Node_SetPair x0 x1 x2 x3 K h0) : HC PG f_node_Node_SetPair [.pointer x0, .pointer x1, .int .i64 x2, .agg #[.string x3.1, .string x3.2]] [.c .ptr] K h0 := HC.intro (an := A_node_Node_SetPair) (c := Tryz.f126.body.getD .skip) Tryz.mixed Tryz.func126 rfl Tryz.call126 (Nat.le_of_ble_eq_true rfl) (cst (by kernel_rfl) h)
def F_node_Node_SetKid (x0 : Option Addr) (x1 : Option Addr) (x2 : Int) (x3 : Option Addr) (K : (Option Addr) → Heap → Prop) (h0 : Heap) : Prop :=
 CondP x3.isNone (
 HC PG f_node_Node_Clear [.pointer x0, .pointer x1, .int .i64 x2] [.c .ptr] (fun (e1 : Option Addr) h2 =>
 K e1 h2) h0) (
 HC PG f_node_Node_inner [.pointer x0, .int .i64 x2] [.c .bool] (fun (e3 : Bool) h4 =>
 CondP (!e3) (
 K x0 h4) (
 HC PG f_node_Node_own [.pointer x0, .pointer x1] [.c .ptr] (fun (e5 : Option Addr) h6 =>
 ∃ a7, e5 = some a7 ∧
 ∃ v8, cAt h6 (adr a7 0) 1 (.int .u32 v8) ∧
 HC PG f_chunk_Bits_Has [.int .u32 v8, .int .i64 x2] [.c .bool] (fun (e9 : Bool) h10 =>
 CondP e9 (
 ∃ a11, e5 = some a11 ∧
 ∃ v12 : SliceV, cAt h10 (adr a11 0) 3 (.slice v12.a v12.len v12.cap) ∧
 ∃ a13, e5 = some a13 ∧
 ∃ v14, cAt h10 (adr a13 0) 1 (.int .u32 v14) ∧
 HC PG f_chunk_Bits_Rank [.int .u32 v14, .int .i64 x2] [.c (.int .i64)] (fun (e15 : Int) h16 =>
 (cAt h16 (adr a11 0) 3 (.slice v12.a v12.len v12.cap) ∧
 (iBd e15 v12.len ∧ ∃ a17, v12.a = some a17 ∧
 (Wr h16 (adr a17 (e15.toNat * 1)) ∧
 At (hset h16 (adr a17 (e15.toNat * 1)) (.pointer x3)) (fun h18 =>
 K e5 h18))))) h10) (
 ∃ a19, e5 = some a19 ∧
 HC PG f_node_slots_drop [.pointer (some (adr a19 0)), .int .i64 x2] [] (fun (e20 : Unit) h21 =>
 ∃ a22, e5 = some a22 ∧
 ∃ v23 : SliceV, cAt h21 (adr a22 0) 3 (.slice v23.a v23.len v23.cap) ∧
 ∃ a24, e5 = some a24 ∧
 ∃ v25, cAt h21 (adr a24 0) 1 (.int .u32 v25) ∧
 ((HC PG f_chunk_Bits_Rank [.int .u32 v25, .int .i64 x2] [.c (.int .i64)] (fun (e26 : Int) h27 =>
 (cAt h27 (adr a22 0) 3 (.slice v23.a v23.len v23.cap) ∧
 At (hnew h27 [.pointer x3] t_P_node_Node) (fun h28 =>
 (cAt h28 (adr a22 0) 3 (.slice v23.a v23.len v23.cap) ∧
 HC PG f_slices_Insert_A_P_node_Node_P_node_Node [.slice v23.a v23.len v23.cap, .int .i64 e26, .slice (some (newA h27)) 1 1] [.c .slice] (fun (e29 : SliceV) h30 =>
 ∃ a31, e5 = some a31 ∧
 (Wr h30 (adr (adr a31 0) 3) ∧
 At (hset h30 (adr (adr a31 0) 3) (.slice e29.a e29.len e29.cap)) (fun h32 =>
 ∃ a33, e5 = some a33 ∧
 ∃ v34, cAt h32 (adr a33 0) 1 (.int .u32 v34) ∧
 HC PG f_chunk_Bits_With [.int .u32 v34, .int .i64 x2] [.c (.int .u32)] (fun (e35 : Int) h36 =>
 ∃ a37, e5 = some a37 ∧
 (Wr h36 (adr (adr a37 0) 1) ∧
 At (hset h36 (adr (adr a37 0) 1) (.int .u32 e35)) (fun h38 =>
 K e5 h38))) h32))) h28)))) h21) ∧
 At (hnew h21 [.pointer x3] t_P_node_Node) (fun h39 =>
 (cAt h39 (adr a24 0) 1 (.int .u32 v25) ∧
 (cAt h39 (adr a22 0) 3 (.slice v23.a v23.len v23.cap) ∧
 HC PG f_chunk_Bits_Rank [.int .u32 v25, .int .i64 x2] [.c (.int .i64)] (fun (e40 : Int) h41 =>
 (cAt h41 (adr a22 0) 3 (.slice v23.a v23.len v23.cap) ∧
 HC PG f_slices_Insert_A_P_node_Node_P_node_Node [.slice v23.a v23.len v23.cap, .int .i64 e40, .slice (some (newA h21)) 1 1] [.c .slice] (fun (e42 : SliceV) h43 =>
 ∃ a44, e5 = some a44 ∧
 (Wr h43 (adr (adr a44 0) 3) ∧
 At (hset h43 (adr (adr a44 0) 3) (.slice e42.a e42.len e42.cap)) (fun h45 =>
 ∃ a46, e5 = some a46 ∧
 ∃ v47, cAt h45 (adr a46 0) 1 (.int .u32 v47) ∧
 HC PG f_chunk_Bits_With [.int .u32 v47, .int .i64 x2] [.c (.int .u32)] (fun (e48 : Int) h49 =>
 ∃ a50, e5 = some a50 ∧
 (Wr h49 (adr (adr a50 0) 1) ∧
 At (hset h49 (adr (adr a50 0) 1) (.int .u32 e48)) (fun h51 =>
 K e5 h51))) h45))) h41)) h39))))) h10)) h6) h4)) h0)
noncomputable def A_node_Node_SetKid : Ann := .node (.reg [0,1,2,3] (.nil)) (.node (.node (.reg [0,1,2,3,11] (.nil)) (.node (.node (.reg [8] (.nil)) (.nil)) (.nil))) (.node (.node (.reg [0,1,2,3,19] (.nil)) (.node (.node (.reg [8] (.nil)) (.nil)) (.nil))) (.node (.reg [2,3,9] (.nil)) (.node (.node (.reg [2,3,9,30] (.nil)) (.node (.node (.reg [9] (.draw (dl 15 [dm [] [9] 32,dm [0] [31] 33,dm [1] [32] 34,dm [2] [33] 35,dm [3] [34] 36,dm [] [9] 37,dm [5] [36] 38,dm [6] [37] 39,dm [7] [38] 40,dm [8] [39] 41,dm [] [2] 42,dm [9,10] [40,41] 43,dm [] [3] 44,dn [0,1,2,3,4,5,6,7,8,9,10,11,12] [4,11] [35,42] 45,dn [0,1,2,3,4,5,6,7,8,9,10,11,12,13] [12,13] [43,44] 0]) (tk [0,1,2,3,4,5,6,7,8,9,10,12] (.all (.last 11 (.take 13 (.all (.last 14 (.done))))))))) (.node (.reg [8] (.nil)) (.nil))) (.nil))) (.node (.reg [2,3,9] (.nil)) (.node (.reg [2,9] (.draw (dl 20 [dm [] [9] 52,dm [] [9] 53,dm [1] [52] 54,dm [2] [53] 55,dm [3] [54] 56,dm [4] [55] 57,dm [] [9] 58,dm [6] [57] 59,dm [7] [58] 60,dm [8] [59] 61,dm [9] [60] 62,dm [] [2] 63,dm [10,11] [61,62] 64,dm [] [3] 65,dm [13] [64] 66,dm [5,12,14] [56,63,65] 67,dn [0,1,2,3,4,5,6,7,8,9,10,11,12,13,14,15] [0] [51] 68,dn [0,1,2,3,4,5,6,7,8,9,10,11,12,13,14,15,16] [16] [67] 69,dn [0,1,2,3,4,5,6,7,8,9,10,11,12,13,14,15,17] [17] [68] 70,dn [0,1,2,3,4,5,6,7,8,9,10,11,12,13,14,15,18] [15,18] [66,69] 0]) (tk [0,1,2,3,4,5,6,7,8,9,10,11,13] (.all (.pick 12 (.all (.last 14 (.all (.last 15 (tr 16 3 (.all (.last 19 (.done)))))))) (.last 14 (.all (.last 12 (.all (.last 15 (tr 16 3 (.all (.last 19 (.done)))))))))))))) (.node (.reg [9] (.nil)) (.node (.reg [8] (.nil)) (.nil)))))))))
theorem H_node_Node_SetKid (x0 : Option Addr) (x1 : Option Addr) (x2 : Int) (x3 : Option Addr) {K : Tup [.c .ptr] → Heap → Prop} {h0 : Heap} (h : F_node_Node_SetKid x0 x1 x2 x3 K h0) : HC PG f_node_Node_SetKid [.pointer x0, .pointer x1, .int .i64 x2, .pointer x3] [.c .ptr] K h0 := HC.intro (an := A_node_Node_SetKid) (c := Tryz.f127.body.getD .skip) Tryz.mixed Tryz.func127 rfl Tryz.call127 (Nat.le_of_ble_eq_true rfl) (cst (by kernel_rfl) h)
def F_radix_Node_own (x0 : Option Addr) (x1 : Option Addr) (K : (Option Addr) → Heap → Prop) (h0 : Heap) : Prop :=
 HC PG f_radix_Node_Owned [.pointer x0, .pointer x1] [.c .bool] (fun (e1 : Bool) h2 =>
 CondP e1 (
 K x0 h2) (
 ∃ a3, x0 = some a3 ∧
 ∃ v4, cAt h2 a3 0 (.string v4) ∧
 ∃ v5, cAt h2 a3 1 (.bool v5) ∧
 ∃ v6, cAt h2 a3 2 (.string v6) ∧
 ∃ v7 : SliceV, cAt h2 a3 3 (.slice v7.a v7.len v7.cap) ∧
 ∃ v8, cAt h2 a3 4 (.pointer v8) ∧
 At (hnew h2 [.string (⟨#[]⟩ : ByteArray), .bool false, .string (⟨#[]⟩ : ByteArray), .slice none 0 0, .pointer none] t_radix_Node) (fun h9 =>
 (WrS h9 (some (newA h2)) 0 [.string v4, .bool v5, .string v6, .slice v7.a v7.len v7.cap, .pointer v8] ∧
 At (hsetL h9 (newA h2) 0 [.string v4, .bool v5, .string v6, .slice v7.a v7.len v7.cap, .pointer v8]) (fun h10 =>
 ∃ a11, x0 = some a11 ∧
 ∃ v12 : SliceV, cAt h10 a11 3 (.slice v12.a v12.len v12.cap) ∧
 HC PG f_slices_Clone_A_P_radix_Node_P_radix_Node [.slice v12.a v12.len v12.cap] [.c .slice] (fun (e13 : SliceV) h14 =>
 (Wr h14 (adr (newA h2) 3) ∧
 At (hset h14 (adr (newA h2) 3) (.slice e13.a e13.len e13.cap)) (fun h15 =>
 (Wr h15 (adr (newA h2) 4) ∧
 At (hset h15 (adr (newA h2) 4) (.pointer none)) (fun h16 =>
 HC PG f_token_Token_Live [.pointer x1] [.c .bool] (fun (e17 : Bool) h18 =>
 CondP e17 (
 (Wr h18 (adr (newA h2) 4) ∧
 At (hset h18 (adr (newA h2) 4) (.pointer x1)) (fun h19 =>
 K (some (newA h2)) h19))) (
 K (some (newA h2)) h18)) h16))))) h10))))) h0
noncomputable def A_radix_Node_own : Ann := .node (.reg [0,1] (.nil)) (.node (.node (.reg [0,1,8] (.nil)) (.node (.node (.reg [4] (.nil)) (.nil)) (.nil))) (.node (.reg [0,1,5] (.nil)) (.node (.reg [1,5] (.nil)) (.node (.reg [1,5] (.nil)) (.node (.node (.reg [1,5,21] (.nil)) (.node (.reg [5] (.nil)) (.nil))) (.node (.reg [4] (.nil)) (.nil)))))))
theorem H_radix_Node_own (x0 : Option Addr) (x1 : Option Addr) {K : Tup [.c .ptr] → Heap → Prop} {h0 : Heap} (h : F_radix_Node_own x0 x1 K h0) : HC PG f_radix_Node_own [.pointer x0, .pointer x1] [.c .ptr] K h0 := HC.intro (an := A_radix_Node_own) (c := Tryz.f128.body.getD .skip) Tryz.mixed Tryz.func128 rfl Tryz.call128 (Nat.le_of_ble_eq_true rfl) (cst (by kernel_rfl) h)
def F_radix_Node_valued (x0 : Option Addr) (x1 : ByteArray) (K : (Option Addr) → Heap → Prop) (h0 : Heap) : Prop :=
 ∃ a1, x0 = some a1 ∧
 (Wr h0 (adr a1 1) ∧
 At (hset h0 (adr a1 1) (.bool true)) (fun h2 =>
 ∃ a3, x0 = some a3 ∧
 (Wr h2 (adr a3 2) ∧
 At (hset h2 (adr a3 2) (.string x1)) (fun h4 =>
 K x0 h4))))
noncomputable def A_radix_Node_valued : Ann := .node (.reg [0,1] (.nil)) (.node (.reg [0] (.nil)) (.node (.reg [4] (.nil)) (.nil)))
theorem H_radix_Node_valued (x0 : Option Addr) (x1 : ByteArray) {K : Tup [.c .ptr] → Heap → Prop} {h0 : Heap} (h : F_radix_Node_valued x0 x1 K h0) : HC PG f_radix_Node_valued [.pointer x0, .string x1] [.c .ptr] K h0 := HC.intro (an := A_radix_Node_valued) (c := Tryz.f129.body.getD .skip) Tryz.mixed Tryz.func129 rfl Tryz.call129 (Nat.le_of_ble_eq_true rfl) (cst (by kernel_rfl) h)
def F_radix_Node_find (x0 : Option Addr) (x1 : Int) (K : (Int × Bool) → Heap → Prop) (h0 : Heap) : Prop :=
 ∃ a1, x0 = some a1 ∧
 ∃ v2 : SliceV, cAt h0 a1 3 (.slice v2.a v2.len v2.cap) ∧
 HC PG f_slices_BinarySearchFunc_A_P_radix_Node_P_radix_Node_byte [.slice v2.a v2.len v2.cap, .int .u8 x1, .func (.func f_radix_Node_find_1) #[] #[]] [.c (.int .i64), .c .bool] (fun (e3 : Int × Bool) h4 =>
 K (e3.1, e3.2) h4) h0
noncomputable def A_radix_Node_find : Ann := .node (.reg [0,1] (.nil)) (.node (.reg [4,5] (.nil)) (.nil))
theorem H_radix_Node_find (x0 : Option Addr) (x1 : Int) {K : Tup [.c (.int .i64), .c .bool] → Heap → Prop} {h0 : Heap} (h : F_radix_Node_find x0 x1 K h0) : HC PG f_radix_Node_find [.pointer x0, .int .u8 x1] [.c (.int .i64), .c .bool] K h0 := HC.intro (an := A_radix_Node_find) (c := Tryz.f130.body.getD .skip) Tryz.mixed Tryz.func130 rfl Tryz.call130 (Nat.le_of_ble_eq_true rfl) (cst (by kernel_rfl) h)
def F_slices_Insert_A_P_radix_Node_P_radix_Node (x0 : SliceV) (x1 : Int) (x2 : SliceV) (K : (SliceV) → Heap → Prop) (h0 : Heap) : Prop :=
 (((0 : Int) ≤ x1 ∧ x1 ≤ ((x0.len : Nat) : Int)) ∧
 CondP ((x2.len : Int) == (0 : Int)) (
 K x0 h0) (
 CondP (x1 == (x0.len : Int)) (
 ∃ xs1, SRow h0 x2.a (x2.len * 1) xs1 ∧
 AppP (some [.pointer none]) 1 8 t_P_radix_Node x0.a x0.len x0.cap x2.len xs1 h0 (fun s2 h3 =>
 K s2 h3)) (
 CondP (decide ((IntKind.wrap .i64 ((x0.len : Int) + (x2.len : Int))) > (x0.cap : Int))) (
 Join (fun (t8 : SliceV) h9 =>
 (((0 : Int) ≤ x1 ∧ x1 ≤ ((t8.len : Nat) : Int)) ∧
 ∃ xs10, SRow h9 x2.a (Nat.min x2.len (t8.len - x1.toNat) * 1) xs10 ∧ WrS h9 (subAddr t8.a x1.toNat t8.cap 1) 0 xs10 ∧ oneCell xs10 = true ∧
 At (hsetS h9 (subAddr t8.a x1.toNat t8.cap 1) 0 xs10) (fun h11 =>
 (((0 : Int) ≤ (IntKind.wrap .i64 (x1 + (x2.len : Int))) ∧ (IntKind.wrap .i64 (x1 + (x2.len : Int))) ≤ ((t8.len : Nat) : Int)) ∧
 Bd (subAddr t8.a ((IntKind.wrap .i64 (x1 + (x2.len : Int))).toNat) t8.cap 1 : Option Addr) (fun a12 => Bd (t8.len - ((IntKind.wrap .i64 (x1 + (x2.len : Int))).toNat) : Nat) (fun n13 => Bd (t8.cap - ((IntKind.wrap .i64 (x1 + (x2.len : Int))).toNat) : Nat) (fun n14 =>
 (((0 : Int) ≤ x1 ∧ x1 ≤ ((x0.len : Nat) : Int)) ∧
 ∃ xs15, SRow h11 (subAddr x0.a x1.toNat x0.cap 1) (Nat.min (x0.len - x1.toNat) n13 * 1) xs15 ∧ WrS h11 a12 0 xs15 ∧ oneCell xs15 = true ∧
 At (hsetS h11 a12 0 xs15) (fun h16 =>
 K t8 h16))))))))) (fun J4 =>
 (((0 : Int) ≤ x1 ∧ x1 ≤ ((x0.cap : Nat) : Int)) ∧
 Bd (IntKind.wrap .i64 ((IntKind.wrap .i64 ((x0.len : Int) + (x2.len : Int))) - x1) : Int) (fun n5 =>
 (((0 : Int) ≤ n5 ∧ n5 * ((8 : Nat) : Int) ≤ 2 ^ 48 ∧ n5 ≤ 9223372036854775807 ∧ (((x1.toNat - 0) + n5.toNat : Nat) : Int) ≤ 9223372036854775807) ∧
 AppP (some [.pointer none]) 1 8 t_P_radix_Node (subAddr x0.a 0 x0.cap 1) (x1.toNat - 0) (x0.cap - 0) n5.toNat (zrow n5.toNat [.pointer none]) h0 (fun s6 h7 =>
 J4 s6 h7)))))) (
 (((0 : Int) ≤ (IntKind.wrap .i64 ((x0.len : Int) + (x2.len : Int))) ∧ (IntKind.wrap .i64 ((x0.len : Int) + (x2.len : Int))) ≤ ((x0.cap : Nat) : Int)) ∧
 Bd (subAddr x0.a 0 x0.cap 1 : Option Addr) (fun a17 => Bd (((IntKind.wrap .i64 ((x0.len : Int) + (x2.len : Int))).toNat) - 0 : Nat) (fun n18 => Bd (x0.cap - 0 : Nat) (fun n19 =>
 (((0 : Int) ≤ (IntKind.wrap .i64 (x1 + (x2.len : Int))) ∧ (IntKind.wrap .i64 (x1 + (x2.len : Int))) ≤ ((n18 : Nat) : Int)) ∧
 Bd (subAddr a17 ((IntKind.wrap .i64 (x1 + (x2.len : Int))).toNat) n19 1 : Option Addr) (fun a20 => Bd (n18 - ((IntKind.wrap .i64 (x1 + (x2.len : Int))).toNat) : Nat) (fun n21 => Bd (n19 - ((IntKind.wrap .i64 (x1 + (x2.len : Int))).toNat) : Nat) (fun n22 =>
 HC PG f_slices_overlaps_P_radix_Node [.slice x2.a x2.len x2.cap, .slice a20 n21 n22] [.c .bool] (fun (e23 : Bool) h24 =>
 CondP (!e23) (
 (((0 : Int) ≤ (IntKind.wrap .i64 (x1 + (x2.len : Int))) ∧ (IntKind.wrap .i64 (x1 + (x2.len : Int))) ≤ ((n18 : Nat) : Int)) ∧
 Bd (subAddr a17 ((IntKind.wrap .i64 (x1 + (x2.len : Int))).toNat) n19 1 : Option Addr) (fun a25 => Bd (n18 - ((IntKind.wrap .i64 (x1 + (x2.len : Int))).toNat) : Nat) (fun n26 => Bd (n19 - ((IntKind.wrap .i64 (x1 + (x2.len : Int))).toNat) : Nat) (fun n27 =>
 (((0 : Int) ≤ x1 ∧ x1 ≤ ((n18 : Nat) : Int)) ∧
 ∃ xs28, SRow h24 (subAddr a17 x1.toNat n19 1) (Nat.min (n18 - x1.toNat) n26 * 1) xs28 ∧ WrS h24 a25 0 xs28 ∧ oneCell xs28 = true ∧
 At (hsetS h24 a25 0 xs28) (fun h29 =>
 (((0 : Int) ≤ x1 ∧ x1 ≤ ((n18 : Nat) : Int)) ∧
 ∃ xs30, SRow h29 x2.a (Nat.min x2.len (n18 - x1.toNat) * 1) xs30 ∧ WrS h29 (subAddr a17 x1.toNat n19 1) 0 xs30 ∧ oneCell xs30 = true ∧
 At (hsetS h29 (subAddr a17 x1.toNat n19 1) 0 xs30) (fun h31 =>
 K ⟨a17, n18, n19⟩ h31))))))))) (
 (((0 : Int) ≤ (x0.len : Int) ∧ (x0.len : Int) ≤ ((n18 : Nat) : Int)) ∧
 ∃ xs32, SRow h24 x2.a (Nat.min x2.len (n18 - ((x0.len : Int).toNat)) * 1) xs32 ∧ WrS h24 (subAddr a17 ((x0.len : Int).toNat) n19 1) 0 xs32 ∧ oneCell xs32 = true ∧
 At (hsetS h24 (subAddr a17 ((x0.len : Int).toNat) n19 1) 0 xs32) (fun h33 =>
 (((0 : Int) ≤ x1 ∧ x1 ≤ ((n18 : Nat) : Int)) ∧
 HC PG f_slices_rotateRight_P_radix_Node [.slice (subAddr a17 x1.toNat n19 1) (n18 - x1.toNat) (n19 - x1.toNat), .int .i64 (x2.len : Int)] [] (fun (e34 : Unit) h35 =>
 K ⟨a17, n18, n19⟩ h35) h33))))) h0))))))))))))
noncomputable def A_slices_Insert_A_P_radix_Node_P_radix_Node : Ann := .node (.reg [0,1,2] (.nil)) (.node (.reg [0,1,2] (.nil)) (.node (.reg [0,1,2,7] (.nil)) (.node (.node (.reg [0,1,2,7,16] (.nil)) (.node (.node (.reg [6] (.nil)) (.nil)) (.nil))) (.node (.reg [0,1,2,7,8] (.nil)) (.node (.node (.reg [0,1,2,7,8,22] (.nil)) (.node (.node (.reg [6] (.nil)) (.nil)) (.nil))) (.node (.node (.reg [0,1,2,7,8,31] (.nil)) (.node (.join [0,1,2,7] [(9,.c .slice)] (.reg [0,1,2,7,9] (.nil)) (.node (.reg [0,1,7,9] (.nil)) (.node (.reg [9] (.draw (dl 9 [dm [] [9] 47,dm [] [1] 48,dm [] [7] 49,dm [1,2] [47,48] 50,dm [0,3] [46,49] 51,dm [] [0] 52,dm [] [1] 53,dm [5,6] [51,52] 54,dm [4,7] [50,53] 55]) (tr 0 8 (.all (.last 8 (.done)))))) (.node (.reg [6] (.nil)) (.nil))))) (.nil))) (.node (.reg [0,1,2,7,8] (.nil)) (.node (.node (.reg [0,1,2,7,8,68] (.nil)) (.node (.node (.reg [0,1,2] (.draw (dl 9 [dm [] [0] 70,dm [] [1] 71,dm [] [7] 72,dm [1,2] [70,71] 73,dm [0,3] [69,72] 74,dm [] [0] 75,dm [] [1] 76,dm [5,6] [74,75] 77,dm [4,7] [73,76] 78]) (tr 0 8 (.all (.last 8 (.done)))))) (.node (.reg [0] (.nil)) (.node (.reg [6] (.nil)) (.nil)))) (.nil))) (.node (.reg [0,1,7] (.nil)) (.node (.reg [0] (.nil)) (.node (.reg [6] (.nil)) (.nil))))))))))))
theorem H_slices_Insert_A_P_radix_Node_P_radix_Node (x0 : SliceV) (x1 : Int) (x2 : SliceV) {K : Tup [.c .slice] → Heap → Prop} {h0 : Heap} (h : F_slices_Insert_A_P_radix_Node_P_radix_Node x0 x1 x2 K h0) : HC PG f_slices_Insert_A_P_radix_Node_P_radix_Node [.slice x0.a x0.len x0.cap, .int .i64 x1, .slice x2.a x2.len x2.cap] [.c .slice] K h0 := HC.intro (an := A_slices_Insert_A_P_radix_Node_P_radix_Node) (c := Tryz.f131.body.getD .skip) Tryz.mixed Tryz.func131 rfl Tryz.call131 (Nat.le_of_ble_eq_true rfl) (cst (by kernel_rfl) h)
def F_radix_fresh (x0 : Option Addr) (x1 : ByteArray) (x2 : ByteArray) (K : (Option Addr) → Heap → Prop) (h0 : Heap) : Prop :=
 At (hnew h0 [.string (⟨#[]⟩ : ByteArray), .bool false, .string (⟨#[]⟩ : ByteArray), .slice none 0 0, .pointer none] t_radix_Node) (fun h1 =>
 HC PG f_radix_Node_own [.pointer (some (newA h0)), .pointer x0] [.c .ptr] (fun (e2 : Option Addr) h3 =>
 HC PG f_radix_Node_named [.pointer e2, .string x1] [.c .ptr] (fun (e4 : Option Addr) h5 =>
 HC PG f_radix_Node_valued [.pointer e4, .string x2] [.c .ptr] (fun (e6 : Option Addr) h7 =>
 K e6 h7) h5) h3) h1)
noncomputable def A_radix_fresh : Ann := .node (.reg [0,1,2] (.nil)) (.node (.reg [6] (.nil)) (.nil))
theorem H_radix_fresh (x0 : Option Addr) (x1 : ByteArray) (x2 : ByteArray) {K : Tup [.c .ptr] → Heap → Prop} {h0 : Heap} (h : F_radix_fresh x0 x1 x2 K h0) : HC PG f_radix_fresh [.pointer x0, .string x1, .string x2] [.c .ptr] K h0 := HC.intro (an := A_radix_fresh) (c := Tryz.f132.body.getD .skip) Tryz.mixed Tryz.func132 rfl Tryz.call132 (Nat.le_of_ble_eq_true rfl) (cst (by kernel_rfl) h)
def F_twig_Common (x0 : ByteArray) (x1 : ByteArray) (K : (Int) → Heap → Prop) (h0 : Heap) : Prop :=
 Bd (if (x1.size : Int) < (x0.size : Int) then (x1.size : Int) else (x0.size : Int) : Int) (fun n1 =>
 LoopP (fun I2 (t3 : Int) h4 =>
 CondP (decide (t3 < n1)) (
 ∃ b5, (0 : Int) ≤ t3 ∧ x0[t3.toNat]? = some b5 ∧
 ∃ b6, (0 : Int) ≤ t3 ∧ x1[t3.toNat]? = some b6 ∧
 CondP ((b5.toNat : Int) != (b6.toNat : Int)) (
 K t3 h4) (
 I2 (IntKind.wrap .i64 (t3 + 1)) h4)) (
 K n1 h4)) 0 h0)
noncomputable def A_twig_Common : Ann := .node (.reg [0,1] (.nil)) (.node (.reg [0,1,5] (.nil)) (.node (.node (.reg [0,1,5,12,13] (.nil)) (.loop [0,1,5,12] [(13,.c (.int .i64))] (.node (.reg [0,1,5,12,13,14] (.nil)) (.node (.nil) (.node (.node (.reg [0,1,5,6,12,13] (.nil)) (.node (.reg [0,1,5,6,12,13,22] (.draw (dl 7 [dm [] [0] 17,dm [] [6] 18,dm [0,1] [16,17] 19,dm [] [1] 20,dm [] [6] 21,dm [3,4] [19,20] 22,dm [2,5] [18,21] 23]) (tr 0 7 (.done)))) (.node (.node (.reg [4] (.nil)) (.nil)) (.nil)))) (.reg [0,1,5,12,13] (.nil))))))) (.node (.reg [4] (.nil)) (.nil))))
theorem H_twig_Common (x0 : ByteArray) (x1 : ByteArray) {K : Tup [.c (.int .i64)] → Heap → Prop} {h0 : Heap} (h : F_twig_Common x0 x1 K h0) : HC PG f_twig_Common [.string x0, .string x1] [.c (.int .i64)] K h0 := HC.intro (an := A_twig_Common) (c := Tryz.f133.body.getD .skip) Tryz.mixed Tryz.func133 rfl Tryz.call133 (Nat.le_of_ble_eq_true rfl) (cst (by kernel_rfl) h)
def F_radix_Node_split (x0 : Option Addr) (x1 : Option Addr) (x2 : Int) (K : (Option Addr) → Heap → Prop) (h0 : Heap) : Prop :=
 ∃ a1, x0 = some a1 ∧
 ∃ v2, cAt h0 a1 0 (.string v2) ∧
 (((0 : Int) ≤ x2 ∧ x2 ≤ ((v2.size : Nat) : Int)) ∧
 At (hnew h0 [.string (⟨#[]⟩ : ByteArray), .bool false, .string (⟨#[]⟩ : ByteArray), .slice none 0 0, .pointer none] t_radix_Node) (fun h3 =>
 (cAt h3 a1 0 (.string v2) ∧
 HC PG f_radix_Node_own [.pointer (some (newA h0)), .pointer x1] [.c .ptr] (fun (e4 : Option Addr) h5 =>
 (cAt h5 a1 0 (.string v2) ∧
 HC PG f_radix_Node_named [.pointer e4, .string (v2.extract 0 x2.toNat)] [.c .ptr] (fun (e6 : Option Addr) h7 =>
 HC PG f_radix_Node_own [.pointer x0, .pointer x1] [.c .ptr] (fun (e8 : Option Addr) h9 =>
 ∃ a10, e8 = some a10 ∧
 ∃ v11, cAt h9 a10 0 (.string v11) ∧
 (((0 : Int) ≤ x2 ∧ x2 ≤ ((v11.size : Nat) : Int)) ∧
 HC PG f_radix_Node_named [.pointer e8, .string (v11.extract x2.toNat v11.size)] [.c .ptr] (fun (e12 : Option Addr) h13 =>
 At (hnew h13 [.pointer e12] t_P_radix_Node) (fun h14 =>
 ∃ a15, e6 = some a15 ∧
 (Wr h14 (adr a15 3) ∧
 At (hset h14 (adr a15 3) (.slice (some (newA h13)) 1 1)) (fun h16 =>
 K e6 h16)))) h9)) h7) h5)) h3)))
noncomputable def A_radix_Node_split : Ann := .node (.reg [0,1,2] (.nil)) (.node (.reg [0,1,2,7] (.draw (dl 12 [dm [] [] 10,dm [0] [9] 11,dm [] [1] 12,dm [1,2] [10,11] 13,dm [] [0] 14,dm [4] [13] 15,dm [5] [14] 16,dm [6] [15] 17,dm [] [2] 18,dm [7,8] [16,17] 19,dm [3,9] [12,18] 20,dn [0,1,2,3,4,5,6,7,8,9,10] [10] [19] 8]) (tk [0,2,4,5,6,7,8,9] (.all (.lastT 1 (.all (.lastT 3 (.all (.lastT 10 (.take 11 (.done))))))))))) (.node (.reg [2,7,8] (.nil)) (.node (.reg [7] (.nil)) (.node (.reg [6] (.nil)) (.nil)))))
theorem H_radix_Node_split (x0 : Option Addr) (x1 : Option Addr) (x2 : Int) {K : Tup [.c .ptr] → Heap → Prop} {h0 : Heap} (h : F_radix_Node_split x0 x1 x2 K h0) : HC PG f_radix_Node_split [.pointer x0, .pointer x1, .int .i64 x2] [.c .ptr] K h0 := HC.intro (an := A_radix_Node_split) (c := Tryz.f134.body.getD .skip) Tryz.mixed Tryz.func134 rfl Tryz.call134 (Nat.le_of_ble_eq_true rfl) (cst (by kernel_rfl) h)
def F_champ_in (x0 : Option Addr) (x1 : ByteArray) (K : (ByteArray × Bool) → Heap → Prop) (h0 : Heap) : Prop :=
 HC PG f_node_Node_Pairs [.pointer x0] [.c .slice] (fun (e1 : SliceV) h2 =>
 HC PG f_pair_Find [.slice e1.a e1.len e1.cap, .string x1] [.c (.int .i64), .c .bool] (fun (e3 : Int × Bool) h4 =>
 CondP (!e3.2) (
 K ((⟨#[]⟩ : ByteArray), false) h4) (
 (iBd e3.1 e1.len ∧ ∃ a5, e1.a = some a5 ∧
 ∃ v6, cAt h4 (adr a5 (e3.1.toNat * 2)) 1 (.string v6) ∧
 K (v6, true) h4))) h2) h0
noncomputable def A_champ_in : Ann := .node (.reg [0,1] (.nil)) (.node (.reg [1,6] (.nil)) (.node (.reg [6,7,8] (.nil)) (.node (.node (.reg [6,7,18] (.nil)) (.node (.node (.reg [4,5] (.nil)) (.nil)) (.nil))) (.node (.reg [4,5] (.nil)) (.nil)))))
theorem H_champ_in (x0 : Option Addr) (x1 : ByteArray) {K : Tup [.c .str, .c .bool] → Heap → Prop} {h0 : Heap} (h : F_champ_in x0 x1 K h0) : HC PG f_champ_in [.pointer x0, .string x1] [.c .str, .c .bool] K h0 := HC.intro (an := A_champ_in) (c := Tryz.f135.body.getD .skip) Tryz.mixed Tryz.func135 rfl Tryz.call135 (Nat.le_of_ble_eq_true rfl) (cst (by kernel_rfl) h)
def F_champ_work_both (x0 : Int × Int × Int × (Option Addr) × ByteArray × Int) (x1 : ByteArray × ByteArray) (x2 : ByteArray × ByteArray) (x3 : Int) (K : (Option Addr) → Heap → Prop) (h0 : Heap) : Prop :=
 At (hnew h0 [.int .u64 x0.1, .int .u64 x0.2.1, .int .u64 x0.2.2.1, .pointer x0.2.2.2.1, .string x0.2.2.2.2.1, .int .u64 x0.2.2.2.2.2] t_champ_work) (fun h1 =>
 At (hnew h1 [.string x1.1, .string x1.2] t_pair_Pair) (fun h2 =>
 At (hnew h2 [.string x2.1, .string x2.2] t_pair_Pair) (fun h3 =>
 CondP (x3 == (13 : Int)) (
 ∃ v4, cAt h3 (newA h0) 3 (.pointer v4) ∧
 ∃ v5, cAt h3 (newA h1) 0 (.string v5) ∧
 ∃ v6, cAt h3 (newA h1) 1 (.string v6) ∧
 ∃ v7, cAt h3 (newA h0) 3 (.pointer v7) ∧
 ∃ v8, cAt h3 (newA h2) 0 (.string v8) ∧
 ∃ v9, cAt h3 (newA h2) 1 (.string v9) ∧
 HC PG f_node_Bucket [] [.c .ptr] (fun (e10 : Option Addr) h11 =>
 ((cAt h11 (newA h2) 0 (.string v8) ∧ cAt h11 (newA h2) 1 (.string v9)) ∧
 (cAt h11 (newA h0) 3 (.pointer v7) ∧
 ((cAt h11 (newA h1) 0 (.string v5) ∧ cAt h11 (newA h1) 1 (.string v6)) ∧
 (cAt h11 (newA h0) 3 (.pointer v4) ∧
 HC PG f_node_Node_Put [.pointer e10, .pointer v4, .agg #[.string v5, .string v6]] [.c .ptr] (fun (e12 : Option Addr) h13 =>
 ((cAt h13 (newA h2) 0 (.string v8) ∧ cAt h13 (newA h2) 1 (.string v9)) ∧
 (cAt h13 (newA h0) 3 (.pointer v7) ∧
 HC PG f_node_Node_Put [.pointer e12, .pointer v7, .agg #[.string v8, .string v9]] [.c .ptr] (fun (e14 : Option Addr) h15 =>
 K e14 h15) h13))) h11))))) h3) (
 ∃ v16, cAt h3 (adr (newA h0) 0) 0 (.int .u64 v16) ∧
 ∃ v17, cAt h3 (adr (newA h0) 0) 1 (.int .u64 v17) ∧
 ∃ v18, cAt h3 (adr (newA h0) 0) 2 (.int .u64 v18) ∧
 ∃ v19, cAt h3 (newA h1) 0 (.string v19) ∧
 ∃ v20, cAt h3 (newA h0) 5 (.int .u64 v20) ∧
 HC PG f_sip_Hasher_Hash [.agg #[.int .u64 v16, .int .u64 v17, .int .u64 v18], .string v19] [.c (.int .u64)] (fun (e21 : Int) h22 =>
 (cAt h22 (newA h0) 5 (.int .u64 v20) ∧
 HC PG f_chunk_At [.int .u64 e21, .int .i64 x3] [.c (.int .i64)] (fun (e23 : Int) h24 =>
 (cAt h24 (newA h0) 5 (.int .u64 v20) ∧
 HC PG f_chunk_At [.int .u64 v20, .int .i64 x3] [.c (.int .i64)] (fun (e25 : Int) h26 =>
 CondP (e23 == e25) (
 ∃ v27, cAt h26 (newA h0) 3 (.pointer v27) ∧
 ∃ v28, cAt h26 (newA h0) 0 (.int .u64 v28) ∧
 ∃ v29, cAt h26 (newA h0) 1 (.int .u64 v29) ∧
 ∃ v30, cAt h26 (newA h0) 2 (.int .u64 v30) ∧
 ∃ v31, cAt h26 (newA h0) 3 (.pointer v31) ∧
 ∃ v32, cAt h26 (newA h0) 4 (.string v32) ∧
 ∃ v33, cAt h26 (newA h0) 5 (.int .u64 v33) ∧
 ∃ v34, cAt h26 (newA h1) 0 (.string v34) ∧
 ∃ v35, cAt h26 (newA h1) 1 (.string v35) ∧
 ∃ v36, cAt h26 (newA h2) 0 (.string v36) ∧
 ∃ v37, cAt h26 (newA h2) 1 (.string v37) ∧
 HC PG f_node_Inner [] [.c .ptr] (fun (e38 : Option Addr) h39 =>
 ((cAt h39 (newA h2) 0 (.string v36) ∧ cAt h39 (newA h2) 1 (.string v37)) ∧
 ((cAt h39 (newA h1) 0 (.string v34) ∧ cAt h39 (newA h1) 1 (.string v35)) ∧
 ((cAt h39 (newA h0) 0 (.int .u64 v28) ∧ cAt h39 (newA h0) 1 (.int .u64 v29) ∧ cAt h39 (newA h0) 2 (.int .u64 v30) ∧ cAt h39 (newA h0) 3 (.pointer v31) ∧ cAt h39 (newA h0) 4 (.string v32) ∧ cAt h39 (newA h0) 5 (.int .u64 v33)) ∧
 (cAt h39 (newA h0) 3 (.pointer v27) ∧
 HC PG f_champ_work_both [.agg #[.int .u64 v28, .int .u64 v29, .int .u64 v30, .pointer v31, .string v32, .int .u64 v33], .agg #[.string v34, .string v35], .agg #[.string v36, .string v37], .int .i64 (IntKind.wrap .i64 (x3 + 1))] [.c .ptr] (fun (e40 : Option Addr) h41 =>
 (cAt h41 (newA h0) 3 (.pointer v27) ∧
 HC PG f_node_Node_SetKid [.pointer e38, .pointer v27, .int .i64 e23, .pointer e40] [.c .ptr] (fun (e42 : Option Addr) h43 =>
 K e42 h43) h41)) h39))))) h26) (
 ∃ v44, cAt h26 (newA h0) 3 (.pointer v44) ∧
 ∃ v45, cAt h26 (newA h1) 0 (.string v45) ∧
 ∃ v46, cAt h26 (newA h1) 1 (.string v46) ∧
 ∃ v47, cAt h26 (newA h0) 3 (.pointer v47) ∧
 ∃ v48, cAt h26 (newA h2) 0 (.string v48) ∧
 ∃ v49, cAt h26 (newA h2) 1 (.string v49) ∧
 HC PG f_node_Inner [] [.c .ptr] (fun (e50 : Option Addr) h51 =>
 ((cAt h51 (newA h2) 0 (.string v48) ∧ cAt h51 (newA h2) 1 (.string v49)) ∧
 (cAt h51 (newA h0) 3 (.pointer v47) ∧
 ((cAt h51 (newA h1) 0 (.string v45) ∧ cAt h51 (newA h1) 1 (.string v46)) ∧
 (cAt h51 (newA h0) 3 (.pointer v44) ∧
 HC PG f_node_Node_SetPair [.pointer e50, .pointer v44, .int .i64 e23, .agg #[.string v45, .string v46]] [.c .ptr] (fun (e52 : Option Addr) h53 =>
 ((cAt h53 (newA h2) 0 (.string v48) ∧ cAt h53 (newA h2) 1 (.string v49)) ∧
 (cAt h53 (newA h0) 3 (.pointer v47) ∧
 HC PG f_node_Node_SetPair [.pointer e52, .pointer v47, .int .i64 e25, .agg #[.string v48, .string v49]] [.c .ptr] (fun (e54 : Option Addr) h55 =>
 K e54 h55) h53))) h51))))) h26)) h24)) h22)) h3))))
noncomputable def A_champ_work_both : Ann := .node (.reg [3,4,5,6] (.nil)) (.node (.node (.reg [3,4,5,6,12] (.nil)) (.node (.node (.reg [8] (.draw (dl 10 [dm [] [] 14,dm [] [4] 15,dm [1] [14] 16,dm [] [5] 17,dm [0,2,3] [13,15,16] 18,dm [] [4] 19,dm [5] [18] 20,dm [] [6] 21,dm [4,6,7] [17,19,20] 22,dn [0,1,2,3,4,5,6,7,8] [8] [21] 9]) (tk [1,2,3,5,6,7] (.all (.last 0 (.all (.last 4 (.all (.last 8 (.take 9 (.done))))))))))) (.nil)) (.nil))) (.node (.reg [3,4,5,6,9,10] (.draw (dl 13 [dm [] [4] 23,dm [0] [22] 24,dm [] [5] 25,dm [2] [24] 26,dm [1,3] [23,25] 27,dm [] [3] 28,dm [4,5] [26,27] 29,dm [] [4] 30,dm [7] [29] 31,dm [] [3] 32,dn [6,8,9] [8,9] [30,31] 33,dn [0,1,2,3,4,5,6,10] [6] [28] 10,dn [0,1,2,3,4,5,6,7,8,9,10,11] [10] [32] 11]) (tk [0,1,2,3,5,7,8,9] (.all (.last 4 (.all (.last 6 (.all (.last 10 (.take 11 (.take 12 (.done)))))))))))) (.node (.node (.reg [3,4,5,6,9,10,35] (.nil)) (.node (.node (.reg [8] (.draw (dl 12 [dm [] [] 37,dm [] [4] 38,dm [1] [37] 39,dm [] [9] 40,dm [] [4] 41,dm [] [5] 42,dm [] [6] 43,dm [] [3] 44,dm [7] [43] 45,dn [0,4,5,6,8] [4,5,6,8] [40,41,42,44] 46,dm [0,2,3,9] [36,38,39,45] 47,dn [0,1,2,3,4,5,6,7,8,9,10] [10] [46] 9]) (tr 1 8 (.all (.last 0 (.all (.last 9 (.all (.last 10 (.take 11 (.done))))))))))) (.nil)) (.nil))) (.node (.reg [8] (.draw (dl 12 [dm [] [] 48,dm [] [4] 49,dm [1] [48] 50,dm [] [9] 51,dm [] [5] 52,dm [0,2,3,4] [47,49,50,51] 53,dm [] [4] 54,dm [6] [53] 55,dm [] [10] 56,dm [] [6] 57,dm [5,7,8,9] [52,54,55,56] 58,dn [0,1,2,3,4,5,6,7,8,9,10] [10] [57] 9]) (tk [1,2,3,4,6,7,8,9] (.all (.last 0 (.all (.last 5 (.all (.last 10 (.take 11 (.done))))))))))) (.nil)))))
theorem H_champ_work_both (x0 : Int × Int × Int × (Option Addr) × ByteArray × Int) (x1 : ByteArray × ByteArray) (x2 : ByteArray × ByteArray) (x3 : Int) {K : Tup [.c .ptr] → Heap → Prop} {h0 : Heap} (h : F_champ_work_both x0 x1 x2 x3 K h0) : HC PG f_champ_work_both [.agg #[.int .u64 x0.1, .int .u64 x0.2.1, .int .u64 x0.2.2.1, .pointer x0.2.2.2.1, .string x0.2.2.2.2.1, .int .u64 x0.2.2.2.2.2], .agg #[.string x1.1, .string x1.2], .agg #[.string x2.1, .string x2.2], .int .i64 x3] [.c .ptr] K h0 := HC.intro (an := A_champ_work_both) (c := Tryz.f136.body.getD .skip) Tryz.mixed Tryz.func136 rfl Tryz.call136 (Nat.le_of_ble_eq_true rfl) (cst (by kernel_rfl) h)
def F_chunk_right (x0 : Int) (K : (Bool) → Heap → Prop) (h0 : Heap) : Prop :=
 CondP (decide (x0 ≥ (0 : Int))) (
 K (decide (x0 < (32 : Int))) h0) (
 K false h0)
noncomputable def A_chunk_right : Ann := .node (.reg [0] (.nil)) (.node (.reg [2] (.nil)) (.nil))
theorem H_chunk_right (x0 : Int) {K : Tup [.c .bool] → Heap → Prop} {h0 : Heap} (h : F_chunk_right x0 K h0) : HC PG f_chunk_right [.int .i64 x0] [.c .bool] K h0 := HC.intro (an := A_chunk_right) (c := Tryz.f143.body.getD .skip) Tryz.mixed Tryz.func143 rfl Tryz.call143 (Nat.le_of_ble_eq_true rfl) (cst (by kernel_rfl) h)
def F_chunk_Bits_Count (x0 : Int) (K : (Int) → Heap → Prop) (h0 : Heap) : Prop :=
 HC PG f_math_bits_OnesCount32 [.int .u32 x0] [.c (.int .i64)] (fun (e1 : Int) h2 =>
 K e1 h2) h0
noncomputable def A_chunk_Bits_Count : Ann := .node (.reg [0] (.nil)) (.node (.reg [2] (.nil)) (.nil))
theorem H_chunk_Bits_Count (x0 : Int) {K : Tup [.c (.int .i64)] → Heap → Prop} {h0 : Heap} (h : F_chunk_Bits_Count x0 K h0) : HC PG f_chunk_Bits_Count [.int .u32 x0] [.c (.int .i64)] K h0 := HC.intro (an := A_chunk_Bits_Count) (c := Tryz.f144.body.getD .skip) Tryz.mixed Tryz.func144 rfl Tryz.call144 (Nat.le_of_ble_eq_true rfl) (cst (by kernel_rfl) h)
def F_node_Node_Data (x0 : Option Addr) (K : (Int) → Heap → Prop) (h0 : Heap) : Prop :=
 CondP x0.isNone (
 K 0 h0) (
 ∃ a1, x0 = some a1 ∧
 ∃ v2, cAt h0 (adr a1 0) 0 (.int .u32 v2) ∧
 K v2 h0)
noncomputable def A_node_Node_Data : Ann := .node (.reg [0] (.nil)) (.node (.node (.reg [0,4] (.nil)) (.node (.node (.reg [2] (.nil)) (.nil)) (.nil))) (.node (.reg [2] (.nil)) (.nil)))
theorem H_node_Node_Data (x0 : Option Addr) {K : Tup [.c (.int .u32)] → Heap → Prop} {h0 : Heap} (h : F_node_Node_Data x0 K h0) : HC PG f_node_Node_Data [.pointer x0] [.c (.int .u32)] K h0 := HC.intro (an := A_node_Node_Data) (c := Tryz.f145.body.getD .skip) Tryz.mixed Tryz.func145 rfl Tryz.call145 (Nat.le_of_ble_eq_true rfl) (cst (by kernel_rfl) h)
def F_champ_Get (x0 : Int × Int × Int) (x1 : Option Addr) (x2 : ByteArray) (K : (ByteArray × Bool) → Heap → Prop) (h0 : Heap) : Prop :=
 At (hnew h0 [.int .u64 x0.1, .int .u64 x0.2.1, .int .u64 x0.2.2] t_sip_Hasher) (fun h1 =>
 ∃ v2, cAt h1 (newA h0) 0 (.int .u64 v2) ∧
 ∃ v3, cAt h1 (newA h0) 1 (.int .u64 v3) ∧
 ∃ v4, cAt h1 (newA h0) 2 (.int .u64 v4) ∧
 HC PG f_sip_Hasher_Hash [.agg #[.int .u64 v2, .int .u64 v3, .int .u64 v4], .string x2] [.c (.int .u64)] (fun (e5 : Int) h6 =>
 HC PG f_champ_some [.pointer x1] [.c .ptr] (fun (e7 : Option Addr) h8 =>
 LoopP (fun I9 (t10 : (Option Addr) × Int) h11 =>
 HC PG f_node_Node_IsBucket [.pointer t10.1] [.c .bool] (fun (e12 : Bool) h13 =>
 CondP e12 (
 HC PG f_champ_in [.pointer t10.1, .string x2] [.c .str, .c .bool] (fun (e14 : ByteArray × Bool) h15 =>
 K (e14.1, e14.2) h15) h13) (
 HC PG f_chunk_At [.int .u64 e5, .int .i64 t10.2] [.c (.int .i64)] (fun (e16 : Int) h17 =>
 HC PG f_node_Node_Pair [.pointer t10.1, .int .i64 e16] [.agg [.str, .str], .c .bool] (fun (e18 : (ByteArray × ByteArray) × Bool) h19 =>
 At (hnew h19 [.string (⟨#[]⟩ : ByteArray), .string (⟨#[]⟩ : ByteArray)] t_pair_Pair) (fun h20 =>
 (WrS h20 (some (newA h19)) 0 [.string e18.1.1, .string e18.1.2] ∧
 At (hsetL h20 (newA h19) 0 [.string e18.1.1, .string e18.1.2]) (fun h21 =>
 CondP e18.2 (
 ∃ v22, cAt h21 (newA h19) 0 (.string v22) ∧
 CondP (!(v22.toList == x2.toList)) (
 K ((⟨#[]⟩ : ByteArray), false) h21) (
 ∃ v23, cAt h21 (newA h19) 1 (.string v23) ∧
 K (v23, true) h21)) (
 HC PG f_node_Node_Kid [.pointer t10.1, .int .i64 e16] [.c .ptr, .c .bool] (fun (e24 : (Option Addr) × Bool) h25 =>
 CondP (!e24.2) (
 K ((⟨#[]⟩ : ByteArray), false) h25) (
 I9 (e24.1, IntKind.wrap .i64 (t10.2 + 1)) h25)) h21))))) h17) h13)) h11) (e7, 0) h8) h6) h1)
noncomputable def A_champ_Get : Ann := .node (.reg [1,2,3] (.nil)) (.node (.reg [1,2,8] (.nil)) (.node (.reg [2,8,9,10] (.nil)) (.loop [2,8] [(9,.c .ptr),(10,.c (.int .i64))] (.node (.node (.node (.reg [2,8,9,10,24] (.nil)) (.node (.node (.reg [6,7] (.nil)) (.nil)) (.nil))) (.node (.reg [2,8,9,10,11] (.nil)) (.node (.node (.reg [2,8,9,10,11,12,13] (.nil)) (.node (.reg [2,8,9,10,11,12,39] (.nil)) (.node (.node (.node (.reg [12,43] (.nil)) (.node (.node (.reg [6,7] (.nil)) (.nil)) (.nil))) (.node (.reg [6,7] (.nil)) (.nil))) (.nil)))) (.node (.reg [2,8,10,14,15] (.nil)) (.node (.node (.reg [2,8,10,14,53] (.nil)) (.node (.node (.reg [6,7] (.nil)) (.nil)) (.nil))) (.reg [2,8,9,10] (.nil))))))) (.reg [2,8,9,10] (.nil))))))
theorem H_champ_Get (x0 : Int × Int × Int) (x1 : Option Addr) (x2 : ByteArray) {K : Tup [.c .str, .c .bool] → Heap → Prop} {h0 : Heap} (h : F_champ_Get x0 x1 x2 K h0) : HC PG f_champ_Get [.agg #[.int .u64 x0.1, .int .u64 x0.2.1, .int .u64 x0.2.2], .pointer x1, .string x2] [.c .str, .c .bool] K h0 := HC.intro (an := A_champ_Get) (c := Tryz.f152.body.getD .skip) Tryz.mixed Tryz.func152 rfl Tryz.call152 (Nat.le_of_ble_eq_true rfl) (cst (by kernel_rfl) h)
def F_slices_AppendSeq_A_pair_Pair_pair_Pair (x0 : SliceV) (x1 : Value) (K : (SliceV) → Heap → Prop) (h0 : Heap) : Prop :=
 At (hnew h0 [.slice x0.a x0.len x0.cap] t_A_pair_Pair) (fun h1 =>
 RangeP PG x1 [.agg [.str, .str]] h1 (fun rdy2 bz3 (x4 : ByteArray × ByteArray) k5 h6 =>
 At (hnew h6 [.string (⟨#[]⟩ : ByteArray), .string (⟨#[]⟩ : ByteArray)] t_pair_Pair) (fun h10 =>
 (WrS h10 (some (newA h6)) 0 [.string x4.1, .string x4.2] ∧
 At (hsetL h10 (newA h6) 0 [.string x4.1, .string x4.2]) (fun h11 =>
 (h11[(Array.size h1 + 1)]? = some rdy2 ∧ At (Array.setIfInBounds h11 (Array.size h1 + 1) bz3) (fun h8 =>
 ∃ v12 : SliceV, hcell h8 (newA h0) = some (.slice v12.a v12.len v12.cap) ∧
 ∃ v13, cAt h8 (newA h6) 0 (.string v13) ∧
 ∃ v14, cAt h8 (newA h6) 1 (.string v14) ∧
 At (hnew h8 [.string v13, .string v14] t_pair_Pair) (fun h15 =>
 ∃ xs16, SRow h15 (some (newA h8)) (1 * 2) xs16 ∧
 AppP (some [.string (⟨#[]⟩ : ByteArray), .string (⟨#[]⟩ : ByteArray)]) 2 32 t_pair_Pair v12.a v12.len v12.cap 1 xs16 h15 (fun s17 h18 =>
 (Wr h18 (newA h0) ∧
 At (hset h18 (newA h0) (.slice s17.a s17.len s17.cap)) (fun h19 =>
 k5 none h19)))))))))) (fun h20 =>
 ∃ v23 : SliceV, hcell h20 (newA h0) = some (.slice v23.a v23.len v23.cap) ∧
 (h20[(Array.size h1)]? = some (.deferred (some [])) ∧ At (Array.setIfInBounds h20 (Array.size h1) (.deferred none)) (fun h24 =>
 K v23 h24))) (fun i9 h21 =>
 bif Nat.beq i9 0 then (
 ∃ v25 : SliceV, hcell h21 (newA h0) = some (.slice v25.a v25.len v25.cap) ∧
 (h21[(Array.size h1)]? = some (.deferred (some [])) ∧ At (Array.setIfInBounds h21 (Array.size h1) (.deferred none)) (fun h26 =>
 K v25 h26))) else (
 False)) (fun h22 =>
 (h22[(Array.size h1)]? = some (.deferred (some [])) ∧ At (Array.setIfInBounds h22 (Array.size h1) (.deferred none)) (fun h27 =>
 K ⟨none, 0, 0⟩ h27))))
noncomputable def A_slices_AppendSeq_A_pair_Pair_pair_Pair : Ann := .node (.reg [1,2,4] (.nil)) (.node (.node (.reg [2,4,6] (.nil)) (.rf [.agg [.str,.str]] (.reg [2,5] (.nil)) (.reg [] (.nil)))) (.node (.reg [4] (.nil)) (.nil)))
theorem H_slices_AppendSeq_A_pair_Pair_pair_Pair (x0 : SliceV) (x1 : Value) {K : Tup [.c .slice] → Heap → Prop} {h0 : Heap} (h : F_slices_AppendSeq_A_pair_Pair_pair_Pair x0 x1 K h0) : HC PG f_slices_AppendSeq_A_pair_Pair_pair_Pair [.slice x0.a x0.len x0.cap, x1] [.c .slice] K h0 := HC.introM (an := A_slices_AppendSeq_A_pair_Pair_pair_Pair) (c := Tryz.f153.body.getD .skip) Tryz.mixed Tryz.func153 rfl Tryz.call153 (Nat.le_of_ble_eq_true rfl) (cst (by kernel_rfl) h)
def F_walk_All_1 (x0 : Value) (y0 : Addr) (K : (Unit) → Heap → Prop) (h0 : Heap) : Prop :=
 ∃ v1, hcell h0 y0 = some (.pointer v1) ∧
 HC PG f_walk_New [.pointer v1] [.c .ptr] (fun (e2 : Option Addr) h3 =>
 LoopP (fun I4 (t5 : Unit) h6 =>
 HC PG f_walk_Cursor_Next [.pointer e2] [.agg [.str, .str], .c .bool] (fun (e7 : (ByteArray × ByteArray) × Bool) h8 =>
 At (hnew h8 [.string (⟨#[]⟩ : ByteArray), .string (⟨#[]⟩ : ByteArray)] t_pair_Pair) (fun h9 =>
 (WrS h9 (some (newA h8)) 0 [.string e7.1.1, .string e7.1.2] ∧
 At (hsetL h9 (newA h8) 0 [.string e7.1.1, .string e7.1.2]) (fun h10 =>
 Join (fun (t16 : Bool) h17 =>
 CondP t16 (
 K () h17) (
 I4 () h17)) (fun J11 =>
 CondP (!e7.2) (
 J11 true h10) (
 ∃ v12, cAt h10 (newA h8) 0 (.string v12) ∧
 ∃ v13, cAt h10 (newA h8) 1 (.string v13) ∧
 HV PG x0 [.agg #[.string v12, .string v13]] [.c .bool] (fun (e14 : Bool) h15 =>
 J11 (!e14) h15) h10)))))) h6) () h3) h0
noncomputable def A_walk_All_1 : Ann := .node (.reg [0,3] (.nil)) (.loop [0,3] [] (.node (.reg [0,3,4,5] (.nil)) (.join [0,3] [(20,.c .bool)] (.reg [0,3,20] (.nil)) (.nil))))
theorem H_walk_All_1 (x0 : Value) (y0 : Addr) {K : Tup [] → Heap → Prop} {h0 : Heap} (h : F_walk_All_1 x0 y0 K h0) : HC PG f_walk_All_1 [x0, .pointer (some y0)] [] K h0 := HC.intro (an := A_walk_All_1) (c := Tryz.f157.body.getD .skip) Tryz.mixed Tryz.func157 rfl Tryz.call157 (Nat.le_of_ble_eq_true rfl) (cst (by kernel_rfl) h)
theorem HE_walk_All_1 (x0 : Value) (y0 : Addr) {K : Tup [] → Heap → Prop} {h0 : Heap} (h : F_walk_All_1 x0 y0 K h0) : HE PG f_walk_All_1 [x0, .pointer (some y0)] [] K h0 := HE.intro (an := A_walk_All_1) (c := Tryz.f157.body.getD .skip) Tryz.mixed Tryz.func157 rfl Tryz.call157 (Nat.le_of_ble_eq_true rfl) (cst (by kernel_rfl) h)
def F_walk_New (x0 : Option Addr) (K : (Option Addr) → Heap → Prop) (h0 : Heap) : Prop :=
 HC PG f_walk_of [.pointer x0] [.agg [.slice, .slice]] (fun (e1 : SliceV × SliceV) h2 =>
 At (hnew h2 [.slice e1.1.a e1.1.len e1.1.cap, .slice e1.2.a e1.2.len e1.2.cap] t_walk_frame) (fun h3 =>
 At (hnew h3 [.slice (some (newA h2)) 1 1, .int .i64 0] t_walk_Cursor) (fun h4 =>
 K (some (newA h3)) h4))) h0
noncomputable def A_walk_New : Ann := .node (.reg [0] (.nil)) (.node (.reg [2] (.nil)) (.nil))
theorem H_walk_New (x0 : Option Addr) {K : Tup [.c .ptr] → Heap → Prop} {h0 : Heap} (h : F_walk_New x0 K h0) : HC PG f_walk_New [.pointer x0] [.c .ptr] K h0 := HC.intro (an := A_walk_New) (c := Tryz.f158.body.getD .skip) Tryz.mixed Tryz.func158 rfl Tryz.call158 (Nat.le_of_ble_eq_true rfl) (cst (by kernel_rfl) h)
def F_walk_Cursor_Next (x0 : Option Addr) (K : ((ByteArray × ByteArray) × Bool) → Heap → Prop) (h0 : Heap) : Prop :=
 At (hnew h0 [.string (⟨#[]⟩ : ByteArray), .string (⟨#[]⟩ : ByteArray)] t_pair_Pair) (fun h1 =>
 CondP x0.isNone (
 (WrS h1 (some (newA h0)) 0 [.string (⟨#[]⟩ : ByteArray), .string (⟨#[]⟩ : ByteArray)] ∧
 At (hsetL h1 (newA h0) 0 [.string (⟨#[]⟩ : ByteArray), .string (⟨#[]⟩ : ByteArray)]) (fun h2 =>
 ∃ v3, cAt h2 (newA h0) 0 (.string v3) ∧
 ∃ v4, cAt h2 (newA h0) 1 (.string v4) ∧
 K ((v3, v4), false) h2))) (
 LoopP (fun I5 (t6 : Unit) h7 =>
 ∃ a8, x0 = some a8 ∧
 ∃ v9 : SliceV, cAt h7 a8 0 (.slice v9.a v9.len v9.cap) ∧
 CondP (decide ((v9.len : Int) > (0 : Int))) (
 ∃ a10, x0 = some a10 ∧
 ∃ v11 : SliceV, cAt h7 a10 0 (.slice v11.a v11.len v11.cap) ∧
 ∃ a12, x0 = some a12 ∧
 ∃ v13 : SliceV, cAt h7 a12 0 (.slice v13.a v13.len v13.cap) ∧
 (iBd (IntKind.wrap .i64 ((v13.len : Int) - 1)) v11.len ∧ ∃ a14, v11.a = some a14 ∧
 ∃ a15, some (adr a14 ((IntKind.wrap .i64 ((v13.len : Int) - 1)).toNat * 2)) = some a15 ∧
 ∃ v16 : SliceV, cAt h7 a15 0 (.slice v16.a v16.len v16.cap) ∧
 CondP (decide ((v16.len : Int) > (0 : Int))) (
 ∃ a17, some (adr a14 ((IntKind.wrap .i64 ((v13.len : Int) - 1)).toNat * 2)) = some a17 ∧
 ∃ v18 : SliceV, cAt h7 a17 0 (.slice v18.a v18.len v18.cap) ∧
 (iBd 0 v18.len ∧ ∃ a19, v18.a = some a19 ∧
 ∃ v20, cAt h7 (adr a19 ((0 : Int).toNat * 2)) 0 (.string v20) ∧
 ∃ v21, cAt h7 (adr a19 ((0 : Int).toNat * 2)) 1 (.string v21) ∧
 At (hnew h7 [.string (⟨#[]⟩ : ByteArray), .string (⟨#[]⟩ : ByteArray)] t_pair_Pair) (fun h22 =>
 (WrS h22 (some (newA h7)) 0 [.string v20, .string v21] ∧
 At (hsetL h22 (newA h7) 0 [.string v20, .string v21]) (fun h23 =>
 ∃ a24, some (adr a14 ((IntKind.wrap .i64 ((v13.len : Int) - 1)).toNat * 2)) = some a24 ∧
 ∃ v25 : SliceV, cAt h23 a24 0 (.slice v25.a v25.len v25.cap) ∧
 (((0 : Int) ≤ (1 : Int) ∧ (1 : Int) ≤ ((v25.len : Nat) : Int)) ∧
 ∃ a26, some (adr a14 ((IntKind.wrap .i64 ((v13.len : Int) - 1)).toNat * 2)) = some a26 ∧
 (Wr h23 (adr a26 0) ∧
 At (hset h23 (adr a26 0) (.slice (subAddr v25.a ((1 : Int).toNat) v25.cap 2) (v25.len - ((1 : Int).toNat)) (v25.cap - ((1 : Int).toNat)))) (fun h27 =>
 ∃ a28, x0 = some a28 ∧
 ∃ v29 : SliceV, cAt h27 a28 0 (.slice v29.a v29.len v29.cap) ∧
 ∃ a30, x0 = some a30 ∧
 (Wr h27 (adr a30 1) ∧
 At (hset h27 (adr a30 1) (.int .i64 (v29.len : Int))) (fun h31 =>
 ∃ v32, cAt h31 (newA h7) 0 (.string v32) ∧
 ∃ v33, cAt h31 (newA h7) 1 (.string v33) ∧
 (WrS h31 (some (newA h0)) 0 [.string v32, .string v33] ∧
 At (hsetL h31 (newA h0) 0 [.string v32, .string v33]) (fun h34 =>
 ∃ v35, cAt h34 (newA h0) 0 (.string v35) ∧
 ∃ v36, cAt h34 (newA h0) 1 (.string v36) ∧
 K ((v35, v36), true) h34)))))))))))) (
 ∃ a37, some (adr a14 ((IntKind.wrap .i64 ((v13.len : Int) - 1)).toNat * 2)) = some a37 ∧
 ∃ v38 : SliceV, cAt h7 a37 1 (.slice v38.a v38.len v38.cap) ∧
 CondP (decide ((v38.len : Int) > (0 : Int))) (
 ∃ a39, some (adr a14 ((IntKind.wrap .i64 ((v13.len : Int) - 1)).toNat * 2)) = some a39 ∧
 ∃ v40 : SliceV, cAt h7 a39 1 (.slice v40.a v40.len v40.cap) ∧
 (iBd 0 v40.len ∧ ∃ a41, v40.a = some a41 ∧
 ∃ v42, cAt h7 a41 ((0 : Int).toNat * 1) (.pointer v42) ∧
 ∃ a43, some (adr a14 ((IntKind.wrap .i64 ((v13.len : Int) - 1)).toNat * 2)) = some a43 ∧
 ∃ v44 : SliceV, cAt h7 a43 1 (.slice v44.a v44.len v44.cap) ∧
 (((0 : Int) ≤ (1 : Int) ∧ (1 : Int) ≤ ((v44.len : Nat) : Int)) ∧
 ∃ a45, some (adr a14 ((IntKind.wrap .i64 ((v13.len : Int) - 1)).toNat * 2)) = some a45 ∧
 (Wr h7 (adr a45 1) ∧
 At (hset h7 (adr a45 1) (.slice (subAddr v44.a ((1 : Int).toNat) v44.cap 1) (v44.len - ((1 : Int).toNat)) (v44.cap - ((1 : Int).toNat)))) (fun h46 =>
 ∃ a47, x0 = some a47 ∧
 ∃ v48 : SliceV, cAt h46 a47 0 (.slice v48.a v48.len v48.cap) ∧
 HC PG f_walk_of [.pointer v42] [.agg [.slice, .slice]] (fun (e49 : SliceV × SliceV) h50 =>
 (cAt h50 a47 0 (.slice v48.a v48.len v48.cap) ∧
 At (hnew h50 [.slice e49.1.a e49.1.len e49.1.cap, .slice e49.2.a e49.2.len e49.2.cap] t_walk_frame) (fun h51 =>
 (cAt h51 a47 0 (.slice v48.a v48.len v48.cap) ∧
 ∃ xs52, SRow h51 (some (newA h50)) (1 * 2) xs52 ∧
 AppP (some [.slice none 0 0, .slice none 0 0]) 2 48 t_walk_frame v48.a v48.len v48.cap 1 xs52 h51 (fun s53 h54 =>
 ∃ a55, x0 = some a55 ∧
 (Wr h54 (adr a55 0) ∧
 At (hset h54 (adr a55 0) (.slice s53.a s53.len s53.cap)) (fun h56 =>
 I5 () h56))))))) h46))))) (
 ∃ a57, x0 = some a57 ∧
 ∃ v58 : SliceV, cAt h7 a57 0 (.slice v58.a v58.len v58.cap) ∧
 ∃ a59, x0 = some a59 ∧
 ∃ v60 : SliceV, cAt h7 a59 0 (.slice v60.a v60.len v60.cap) ∧
 (((0 : Int) ≤ (IntKind.wrap .i64 ((v60.len : Int) - 1)) ∧ (IntKind.wrap .i64 ((v60.len : Int) - 1)) ≤ ((v58.cap : Nat) : Int)) ∧
 Bd (subAddr v58.a 0 v58.cap 2 : Option Addr) (fun a61 => Bd (((IntKind.wrap .i64 ((v60.len : Int) - 1)).toNat) - 0 : Nat) (fun n62 => Bd (v58.cap - 0 : Nat) (fun n63 =>
 ∃ a64, x0 = some a64 ∧
 (Wr h7 (adr a64 0) ∧
 At (hset h7 (adr a64 0) (.slice a61 n62 n63)) (fun h65 =>
 I5 () h65)))))))))) (
 ∃ a66, x0 = some a66 ∧
 (Wr h7 (adr a66 1) ∧
 At (hset h7 (adr a66 1) (.int .i64 0)) (fun h67 =>
 (WrS h67 (some (newA h0)) 0 [.string (⟨#[]⟩ : ByteArray), .string (⟨#[]⟩ : ByteArray)] ∧
 At (hsetL h67 (newA h0) 0 [.string (⟨#[]⟩ : ByteArray), .string (⟨#[]⟩ : ByteArray)]) (fun h68 =>
 ∃ v69, cAt h68 (newA h0) 0 (.string v69) ∧
 ∃ v70, cAt h68 (newA h0) 1 (.string v70) ∧
 K ((v69, v70), false) h68)))))) () h1))
noncomputable def A_walk_Cursor_Next : Ann := .node (.reg [0,2] (.nil)) (.node (.node (.reg [0,2,8] (.nil)) (.node (.node (.reg [2,3] (.nil)) (.nil)) (.nil))) (.node (.loop [0,2] [] (.node (.node (.reg [0,2,15] (.nil)) (.nil)) (.node (.reg [0,2,4] (.draw (dl 12 [dm [] [0] 17,dm [0] [16] 18,dm [1] [17] 19,dm [2] [18] 20,dm [] [0] 21,dm [4] [20] 22,dm [5] [21] 23,dm [6] [22] 24,dm [7] [23] 25,dm [8] [24] 26,dm [3,9] [19,25] 27,dn [0,1,2,3,4,5,6,7,8,9,10] [10] [26] 5]) (tr 0 12 (.done)))) (.node (.reg [0,2,4,41] (.nil)) (.node (.node (.reg [0,2,4,5] (.nil)) (.node (.reg [0,2,5] (.nil)) (.node (.reg [2,5] (.nil)) (.node (.reg [2,3] (.nil)) (.nil))))) (.node (.reg [0,2,4,71] (.nil)) (.node (.node (.reg [0,2,4,6] (.nil)) (.node (.reg [0,2,6] (.nil)) (.reg [0,2] (.draw (dl 12 [dm [] [0] 93,dm [] [0] 94,dm [1] [93] 95,dm [2] [94] 96,dm [3] [95] 97,dm [] [6] 98,dm [5] [97] 99,dm [6] [98] 100,dn [4,6,7] [4,7] [96,99] 101,dn [0,1,2,3,4,5,6,7,8] [0] [92] 102,dn [0,1,2,3,4,5,6,7,8,9] [9] [101] 103,dn [0,1,2,3,4,5,6,7,8,10] [8,10] [100,102] 0]) (tr 0 6 (.all (.last 6 (.all (.last 7 (.all (.last 8 (.take 9 (.take 10 (.all (.last 11 (.done)))))))))))))))) (.reg [0,2] (.draw (dl 15 [dm [] [0] 28,dm [] [0] 29,dm [1] [28] 30,dm [2] [29] 31,dm [3] [30] 32,dm [] [0] 33,dm [5] [32] 34,dm [6] [33] 35,dm [7] [34] 36,dm [8] [35] 37,dm [9] [36] 38,dm [4,10] [31,37] 39,dn [0,1,2,3,4,5,6,7,8,9,10,11] [0] [27] 40,dn [0,1,2,3,4,5,6,7,8,9,10,11,12] [12] [39] 41,dn [0,1,2,3,4,5,6,7,8,9,10,11,13] [11,13] [38,40] 0]) (tr 0 14 (.all (.last 14 (.done))))))))))))) (.node (.reg [2] (.nil)) (.node (.reg [2,3] (.nil)) (.nil)))))
theorem H_walk_Cursor_Next (x0 : Option Addr) {K : Tup [.agg [.str, .str], .c .bool] → Heap → Prop} {h0 : Heap} (h : F_walk_Cursor_Next x0 K h0) : HC PG f_walk_Cursor_Next [.pointer x0] [.agg [.str, .str], .c .bool] K h0 := HC.intro (an := A_walk_Cursor_Next) (c := Tryz.f159.body.getD .skip) Tryz.mixed Tryz.func159 rfl Tryz.call159 (Nat.le_of_ble_eq_true rfl) (cst (by kernel_rfl) h)
def F_slices_stableCmpFunc_pair_Pair (x0 : SliceV) (x1 : Int) (x2 : Value) (K : (Unit) → Heap → Prop) (h0 : Heap) : Prop :=
 LoopP (fun I1 (t2 : Int × Int) h3 =>
 CondP (decide (t2.2 ≤ x1)) (
 HC PG f_slices_insertionSortCmpFunc_pair_Pair [.slice x0.a x0.len x0.cap, .int .i64 t2.1, .int .i64 t2.2, x2] [] (fun (e4 : Unit) h5 =>
 I1 (t2.2, IntKind.wrap .i64 (t2.2 + 20)) h5) h3) (
 HC PG f_slices_insertionSortCmpFunc_pair_Pair [.slice x0.a x0.len x0.cap, .int .i64 t2.1, .int .i64 x1, x2] [] (fun (e6 : Unit) h7 =>
 LoopP (fun I8 (t9 : Int) h10 =>
 CondP (decide (t9 < x1)) (
 LoopP (fun I11 (t12 : Int × Int) h13 =>
 CondP (decide (t12.2 ≤ x1)) (
 HC PG f_slices_symMergeCmpFunc_pair_Pair [.slice x0.a x0.len x0.cap, .int .i64 t12.1, .int .i64 (IntKind.wrap .i64 (t12.1 + t9)), .int .i64 t12.2, x2] [] (fun (e14 : Unit) h15 =>
 I11 (t12.2, IntKind.wrap .i64 (t12.2 + (IntKind.wrap .i64 (2 * t9)))) h15) h13) (
 Join (fun (t19 : Unit) h20 =>
 I8 (IntKind.wrap .i64 (t9 * 2)) h20) (fun J16 =>
 CondP (decide ((IntKind.wrap .i64 (t12.1 + t9)) < x1)) (
 HC PG f_slices_symMergeCmpFunc_pair_Pair [.slice x0.a x0.len x0.cap, .int .i64 t12.1, .int .i64 (IntKind.wrap .i64 (t12.1 + t9)), .int .i64 x1, x2] [] (fun (e17 : Unit) h18 =>
 J16 () h18) h13) (
 J16 () h13)))) (0, IntKind.wrap .i64 (2 * t9)) h10) (
 K () h10)) 20 h7) h3)) (0, 20) h0
noncomputable def A_slices_stableCmpFunc_pair_Pair : Ann := .node (.reg [0,1,2,6] (.nil)) (.node (.reg [0,1,2,6,7,8] (.nil)) (.node (.loop [0,1,2,6] [(7,.c (.int .i64)),(8,.c (.int .i64))] (.node (.node (.reg [0,1,2,6,7,8,13] (.nil)) (.nil)) (.node (.reg [0,1,2,6,8] (.nil)) (.node (.reg [0,1,2,6,7,8] (.nil)) (.reg [0,1,2,6,7,8] (.nil)))))) (.node (.reg [0,1,2,6] (.nil)) (.loop [0,1,2] [(6,.c (.int .i64))] (.node (.node (.reg [0,1,2,6,30] (.nil)) (.nil)) (.node (.reg [0,1,2,6,7,8] (.nil)) (.node (.loop [0,1,2,6] [(7,.c (.int .i64)),(8,.c (.int .i64))] (.node (.node (.reg [0,1,2,6,7,8,35] (.nil)) (.nil)) (.node (.reg [0,1,2,6,8] (.nil)) (.node (.reg [0,1,2,6,7,8] (.nil)) (.reg [0,1,2,6,7,8] (.nil)))))) (.join [0,1,2,6] [] (.node (.reg [0,1,2,6,7,9] (.nil)) (.node (.reg [0,1,2,6,7,9,54] (.nil)) (.node (.reg [0,1,2,6] (.nil)) (.nil)))) (.reg [0,1,2,6] (.nil))))))))))
theorem H_slices_stableCmpFunc_pair_Pair (x0 : SliceV) (x1 : Int) (x2 : Value) {K : Tup [] → Heap → Prop} {h0 : Heap} (h : F_slices_stableCmpFunc_pair_Pair x0 x1 x2 K h0) : HC PG f_slices_stableCmpFunc_pair_Pair [.slice x0.a x0.len x0.cap, .int .i64 x1, x2] [] K h0 := HC.intro (an := A_slices_stableCmpFunc_pair_Pair) (c := Tryz.f160.body.getD .skip) Tryz.mixed Tryz.func160 rfl Tryz.call160 (Nat.le_of_ble_eq_true rfl) (cst (by kernel_rfl) h)
def F_sip_state_take (x0 : Option Addr) (x1 : Int) (K : (Unit) → Heap → Prop) (h0 : Heap) : Prop :=
 ∃ a1, x0 = some a1 ∧
 (iBd (3 : Int) 4 ∧
 ∃ v2, cAt h0 a1 ((3 : Int).toNat * 1) (.int .u64 v2) ∧
 Bd (IntKind.wrap .u64 (BitVec.ofInt (IntKind.bits .u64) v2 ^^^ BitVec.ofInt (IntKind.bits .u64) x1).toNat : Int) (fun n3 =>
 ∃ a4, x0 = some a4 ∧
 (iBd (3 : Int) 4 ∧
 (Wr h0 (adr a4 ((3 : Int).toNat * 1)) ∧
 At (hset h0 (adr a4 ((3 : Int).toNat * 1)) (.int .u64 n3)) (fun h5 =>
 HC PG f_sip_state_rounds [.pointer x0, .int .i64 2] [] (fun (e6 : Unit) h7 =>
 ∃ a8, x0 = some a8 ∧
 (iBd 0 4 ∧
 ∃ v9, cAt h7 a8 ((0 : Int).toNat * 1) (.int .u64 v9) ∧
 Bd (IntKind.wrap .u64 (BitVec.ofInt (IntKind.bits .u64) v9 ^^^ BitVec.ofInt (IntKind.bits .u64) x1).toNat : Int) (fun n10 =>
 ∃ a11, x0 = some a11 ∧
 (iBd 0 4 ∧
 (Wr h7 (adr a11 ((0 : Int).toNat * 1)) ∧
 At (hset h7 (adr a11 ((0 : Int).toNat * 1)) (.int .u64 n10)) (fun h12 =>
 K () h12)))))) h5)))))
noncomputable def A_sip_state_take : Ann := .node (.reg [0,1] (.draw (dl 9 [dm [] [0] 5,dm [0] [4] 6,dm [1] [5] 7,dm [2] [6] 8,dm [] [1] 9,dm [3,4] [7,8] 10,dm [0] [4] 11,dn [0,1,2,3,4,5,6] [6] [10] 12,dn [0,1,2,3,4,5,7] [5,7] [9,11] 0]) (tr 0 8 (.all (.last 8 (.done)))))) (.node (.reg [0,1] (.nil)) (.reg [] (.draw (dl 9 [dm [] [0] 15,dm [0] [14] 16,dm [1] [15] 17,dm [2] [16] 18,dm [] [1] 19,dm [3,4] [17,18] 20,dm [0] [14] 21,dn [0,1,2,3,4,5,6] [6] [20] 22,dn [0,1,2,3,4,5,7] [5,7] [19,21] 0]) (tr 0 8 (.all (.last 8 (.done)))))))
theorem H_sip_state_take (x0 : Option Addr) (x1 : Int) {K : Tup [] → Heap → Prop} {h0 : Heap} (h : F_sip_state_take x0 x1 K h0) : HC PG f_sip_state_take [.pointer x0, .int .u64 x1] [] K h0 := HC.intro (an := A_sip_state_take) (c := Tryz.f161.body.getD .skip) Tryz.mixed Tryz.func161 rfl Tryz.call161 (Nat.le_of_ble_eq_true rfl) (cst (by kernel_rfl) h)
def F_sip_word (x0 : ByteArray) (K : (Int) → Heap → Prop) (h0 : Heap) : Prop :=
 Join (fun (t41 : Int) h42 =>
 ∃ b43, (0 : Int) ≤ (0 : Int) ∧ x0[(0 : Int).toNat]? = some b43 ∧
 Bd (IntKind.wrap .u64 (BitVec.ofInt (IntKind.bits .u64) t41 ||| BitVec.ofInt (IntKind.bits .u64) (IntKind.wrap .u64 (b43.toNat : Int))).toNat : Int) (fun n44 =>
 K n44 h42)) (fun J1 =>
 Join (fun (t36 : Int) h37 =>
 ∃ b38, (0 : Int) ≤ (1 : Int) ∧ x0[(1 : Int).toNat]? = some b38 ∧
 ((0 : Int) ≤ (8 : Int) ∧
 Bd (IntKind.wrap .u64 ((IntKind.wrap .u64 (b38.toNat : Int)) * 2 ^ (min (8 : Int).toNat (IntKind.bits .u64))) : Int) (fun n39 =>
 Bd (IntKind.wrap .u64 (BitVec.ofInt (IntKind.bits .u64) t36 ||| BitVec.ofInt (IntKind.bits .u64) n39).toNat : Int) (fun n40 =>
 J1 n40 h37)))) (fun J2 =>
 Join (fun (t31 : Int) h32 =>
 ∃ b33, (0 : Int) ≤ (2 : Int) ∧ x0[(2 : Int).toNat]? = some b33 ∧
 ((0 : Int) ≤ (16 : Int) ∧
 Bd (IntKind.wrap .u64 ((IntKind.wrap .u64 (b33.toNat : Int)) * 2 ^ (min (16 : Int).toNat (IntKind.bits .u64))) : Int) (fun n34 =>
 Bd (IntKind.wrap .u64 (BitVec.ofInt (IntKind.bits .u64) t31 ||| BitVec.ofInt (IntKind.bits .u64) n34).toNat : Int) (fun n35 =>
 J2 n35 h32)))) (fun J3 =>
 Join (fun (t26 : Int) h27 =>
 ∃ b28, (0 : Int) ≤ (3 : Int) ∧ x0[(3 : Int).toNat]? = some b28 ∧
 ((0 : Int) ≤ (24 : Int) ∧
 Bd (IntKind.wrap .u64 ((IntKind.wrap .u64 (b28.toNat : Int)) * 2 ^ (min (24 : Int).toNat (IntKind.bits .u64))) : Int) (fun n29 =>
 Bd (IntKind.wrap .u64 (BitVec.ofInt (IntKind.bits .u64) t26 ||| BitVec.ofInt (IntKind.bits .u64) n29).toNat : Int) (fun n30 =>
 J3 n30 h27)))) (fun J4 =>
 Join (fun (t21 : Int) h22 =>
 ∃ b23, (0 : Int) ≤ (4 : Int) ∧ x0[(4 : Int).toNat]? = some b23 ∧
 ((0 : Int) ≤ (32 : Int) ∧
 Bd (IntKind.wrap .u64 ((IntKind.wrap .u64 (b23.toNat : Int)) * 2 ^ (min (32 : Int).toNat (IntKind.bits .u64))) : Int) (fun n24 =>
 Bd (IntKind.wrap .u64 (BitVec.ofInt (IntKind.bits .u64) t21 ||| BitVec.ofInt (IntKind.bits .u64) n24).toNat : Int) (fun n25 =>
 J4 n25 h22)))) (fun J5 =>
 Join (fun (t16 : Int) h17 =>
 ∃ b18, (0 : Int) ≤ (5 : Int) ∧ x0[(5 : Int).toNat]? = some b18 ∧
 ((0 : Int) ≤ (40 : Int) ∧
 Bd (IntKind.wrap .u64 ((IntKind.wrap .u64 (b18.toNat : Int)) * 2 ^ (min (40 : Int).toNat (IntKind.bits .u64))) : Int) (fun n19 =>
 Bd (IntKind.wrap .u64 (BitVec.ofInt (IntKind.bits .u64) t16 ||| BitVec.ofInt (IntKind.bits .u64) n19).toNat : Int) (fun n20 =>
 J5 n20 h17)))) (fun J6 =>
 Join (fun (t11 : Int) h12 =>
 ∃ b13, (0 : Int) ≤ (6 : Int) ∧ x0[(6 : Int).toNat]? = some b13 ∧
 ((0 : Int) ≤ (48 : Int) ∧
 Bd (IntKind.wrap .u64 ((IntKind.wrap .u64 (b13.toNat : Int)) * 2 ^ (min (48 : Int).toNat (IntKind.bits .u64))) : Int) (fun n14 =>
 Bd (IntKind.wrap .u64 (BitVec.ofInt (IntKind.bits .u64) t11 ||| BitVec.ofInt (IntKind.bits .u64) n14).toNat : Int) (fun n15 =>
 J6 n15 h12)))) (fun J7 =>
 CondP ((x0.size : Int) == (8 : Int)) (
 ∃ b8, (0 : Int) ≤ (7 : Int) ∧ x0[(7 : Int).toNat]? = some b8 ∧
 ((0 : Int) ≤ (56 : Int) ∧
 Bd (IntKind.wrap .u64 ((IntKind.wrap .u64 (b8.toNat : Int)) * 2 ^ (min (56 : Int).toNat (IntKind.bits .u64))) : Int) (fun n9 =>
 Bd (IntKind.wrap .u64 (BitVec.ofInt (IntKind.bits .u64) 0 ||| BitVec.ofInt (IntKind.bits .u64) n9).toNat : Int) (fun n10 =>
 J7 n10 h0)))) (
 CondP ((x0.size : Int) == (7 : Int)) (
 J7 0 h0) (
 CondP ((x0.size : Int) == (6 : Int)) (
 J6 0 h0) (
 CondP ((x0.size : Int) == (5 : Int)) (
 J5 0 h0) (
 CondP ((x0.size : Int) == (4 : Int)) (
 J4 0 h0) (
 CondP ((x0.size : Int) == (3 : Int)) (
 J3 0 h0) (
 CondP ((x0.size : Int) == (2 : Int)) (
 J2 0 h0) (
 CondP ((x0.size : Int) == (1 : Int)) (
 J1 0 h0) (
 K 0 h0)))))))))))))))
noncomputable def A_sip_word : Ann := .node (.reg [0] (.nil)) (.node (.reg [0,3] (.nil)) (.node (.node (.reg [0,3,5] (.nil)) (.join [0] [(3,.c (.int .u64))] (.join [0] [(3,.c (.int .u64))] (.join [0] [(3,.c (.int .u64))] (.join [0] [(3,.c (.int .u64))] (.join [0] [(3,.c (.int .u64))] (.join [0] [(3,.c (.int .u64))] (.join [0] [(3,.c (.int .u64))] (.node (.node (.node (.node (.reg [0,3,5,6] (.nil)) (.nil)) (.node (.node (.reg [0,3,5,8] (.nil)) (.nil)) (.node (.node (.reg [0,3,5,10] (.nil)) (.nil)) (.node (.node (.reg [0,3,5,12] (.nil)) (.nil)) (.node (.node (.reg [0,3,5,14] (.nil)) (.nil)) (.node (.node (.reg [0,3,5,16] (.nil)) (.nil)) (.node (.node (.reg [0,3,5,18] (.nil)) (.nil)) (.node (.reg [0,3,20] (.nil)) (.nil))))))))) (.nil)) (.reg [0,3] (.nil))) (.reg [0,3] (.nil))) (.reg [0,3] (.nil))) (.reg [0,3] (.nil))) (.reg [0,3] (.nil))) (.reg [0,3] (.nil))) (.reg [0,3] (.nil))) (.node (.reg [3] (.nil)) (.nil)))) (.node (.reg [2] (.nil)) (.nil))))
theorem H_sip_word (x0 : ByteArray) {K : Tup [.c (.int .u64)] → Heap → Prop} {h0 : Heap} (h : F_sip_word x0 K h0) : HC PG f_sip_word [.string x0] [.c (.int .u64)] K h0 := HC.intro (an := A_sip_word) (c := Tryz.f162.body.getD .skip) Tryz.mixed Tryz.func162 rfl Tryz.call162 (Nat.le_of_ble_eq_true rfl) (cst (by kernel_rfl) h)
def F_sip_state_rounds (x0 : Option Addr) (x1 : Int) (K : (Unit) → Heap → Prop) (h0 : Heap) : Prop :=
 LoopP (fun I1 (t2 : Int) h3 =>
 CondP (decide (t2 < x1)) (
 ∃ a4, x0 = some a4 ∧
 (iBd 0 4 ∧
 ∃ v5, cAt h3 a4 ((0 : Int).toNat * 1) (.int .u64 v5) ∧
 ∃ a6, x0 = some a6 ∧
 (iBd 1 4 ∧
 ∃ v7, cAt h3 a6 ((1 : Int).toNat * 1) (.int .u64 v7) ∧
 ∃ a8, x0 = some a8 ∧
 (iBd 0 4 ∧
 (Wr h3 (adr a8 ((0 : Int).toNat * 1)) ∧
 At (hset h3 (adr a8 ((0 : Int).toNat * 1)) (.int .u64 (IntKind.wrap .u64 (v5 + v7)))) (fun h9 =>
 ∃ a10, x0 = some a10 ∧
 (iBd 1 4 ∧
 ∃ v11, cAt h9 a10 ((1 : Int).toNat * 1) (.int .u64 v11) ∧
 ∃ a12, x0 = some a12 ∧
 (iBd 0 4 ∧
 ∃ v13, cAt h9 a12 ((0 : Int).toNat * 1) (.int .u64 v13) ∧
 ∃ a14, x0 = some a14 ∧
 HC PG f_math_bits_RotateLeft64 [.int .u64 v11, .int .i64 13] [.c (.int .u64)] (fun (e15 : Int) h16 =>
 (cAt h16 a12 ((0 : Int).toNat * 1) (.int .u64 v13) ∧
 Bd (IntKind.wrap .u64 (BitVec.ofInt (IntKind.bits .u64) e15 ^^^ BitVec.ofInt (IntKind.bits .u64) v13).toNat : Int) (fun n17 =>
 (iBd 1 4 ∧
 (Wr h16 (adr a14 ((1 : Int).toNat * 1)) ∧
 At (hset h16 (adr a14 ((1 : Int).toNat * 1)) (.int .u64 n17)) (fun h18 =>
 ∃ a19, x0 = some a19 ∧
 (iBd 0 4 ∧
 ∃ v20, cAt h18 a19 ((0 : Int).toNat * 1) (.int .u64 v20) ∧
 ∃ a21, x0 = some a21 ∧
 HC PG f_math_bits_RotateLeft64 [.int .u64 v20, .int .i64 32] [.c (.int .u64)] (fun (e22 : Int) h23 =>
 (iBd 0 4 ∧
 (Wr h23 (adr a21 ((0 : Int).toNat * 1)) ∧
 At (hset h23 (adr a21 ((0 : Int).toNat * 1)) (.int .u64 e22)) (fun h24 =>
 ∃ a25, x0 = some a25 ∧
 (iBd (2 : Int) 4 ∧
 ∃ v26, cAt h24 a25 ((2 : Int).toNat * 1) (.int .u64 v26) ∧
 ∃ a27, x0 = some a27 ∧
 (iBd (3 : Int) 4 ∧
 ∃ v28, cAt h24 a27 ((3 : Int).toNat * 1) (.int .u64 v28) ∧
 ∃ a29, x0 = some a29 ∧
 (iBd (2 : Int) 4 ∧
 (Wr h24 (adr a29 ((2 : Int).toNat * 1)) ∧
 At (hset h24 (adr a29 ((2 : Int).toNat * 1)) (.int .u64 (IntKind.wrap .u64 (v26 + v28)))) (fun h30 =>
 ∃ a31, x0 = some a31 ∧
 (iBd (3 : Int) 4 ∧
 ∃ v32, cAt h30 a31 ((3 : Int).toNat * 1) (.int .u64 v32) ∧
 ∃ a33, x0 = some a33 ∧
 (iBd (2 : Int) 4 ∧
 ∃ v34, cAt h30 a33 ((2 : Int).toNat * 1) (.int .u64 v34) ∧
 ∃ a35, x0 = some a35 ∧
 HC PG f_math_bits_RotateLeft64 [.int .u64 v32, .int .i64 16] [.c (.int .u64)] (fun (e36 : Int) h37 =>
 (cAt h37 a33 ((2 : Int).toNat * 1) (.int .u64 v34) ∧
 Bd (IntKind.wrap .u64 (BitVec.ofInt (IntKind.bits .u64) e36 ^^^ BitVec.ofInt (IntKind.bits .u64) v34).toNat : Int) (fun n38 =>
 (iBd (3 : Int) 4 ∧
 (Wr h37 (adr a35 ((3 : Int).toNat * 1)) ∧
 At (hset h37 (adr a35 ((3 : Int).toNat * 1)) (.int .u64 n38)) (fun h39 =>
 ∃ a40, x0 = some a40 ∧
 (iBd 0 4 ∧
 ∃ v41, cAt h39 a40 ((0 : Int).toNat * 1) (.int .u64 v41) ∧
 ∃ a42, x0 = some a42 ∧
 (iBd (3 : Int) 4 ∧
 ∃ v43, cAt h39 a42 ((3 : Int).toNat * 1) (.int .u64 v43) ∧
 ∃ a44, x0 = some a44 ∧
 (iBd 0 4 ∧
 (Wr h39 (adr a44 ((0 : Int).toNat * 1)) ∧
 At (hset h39 (adr a44 ((0 : Int).toNat * 1)) (.int .u64 (IntKind.wrap .u64 (v41 + v43)))) (fun h45 =>
 ∃ a46, x0 = some a46 ∧
 (iBd (3 : Int) 4 ∧
 ∃ v47, cAt h45 a46 ((3 : Int).toNat * 1) (.int .u64 v47) ∧
 ∃ a48, x0 = some a48 ∧
 (iBd 0 4 ∧
 ∃ v49, cAt h45 a48 ((0 : Int).toNat * 1) (.int .u64 v49) ∧
 ∃ a50, x0 = some a50 ∧
 HC PG f_math_bits_RotateLeft64 [.int .u64 v47, .int .i64 21] [.c (.int .u64)] (fun (e51 : Int) h52 =>
 (cAt h52 a48 ((0 : Int).toNat * 1) (.int .u64 v49) ∧
 Bd (IntKind.wrap .u64 (BitVec.ofInt (IntKind.bits .u64) e51 ^^^ BitVec.ofInt (IntKind.bits .u64) v49).toNat : Int) (fun n53 =>
 (iBd (3 : Int) 4 ∧
 (Wr h52 (adr a50 ((3 : Int).toNat * 1)) ∧
 At (hset h52 (adr a50 ((3 : Int).toNat * 1)) (.int .u64 n53)) (fun h54 =>
 ∃ a55, x0 = some a55 ∧
 (iBd (2 : Int) 4 ∧
 ∃ v56, cAt h54 a55 ((2 : Int).toNat * 1) (.int .u64 v56) ∧
 ∃ a57, x0 = some a57 ∧
 (iBd 1 4 ∧
 ∃ v58, cAt h54 a57 ((1 : Int).toNat * 1) (.int .u64 v58) ∧
 ∃ a59, x0 = some a59 ∧
 (iBd (2 : Int) 4 ∧
 (Wr h54 (adr a59 ((2 : Int).toNat * 1)) ∧
 At (hset h54 (adr a59 ((2 : Int).toNat * 1)) (.int .u64 (IntKind.wrap .u64 (v56 + v58)))) (fun h60 =>
 ∃ a61, x0 = some a61 ∧
 (iBd 1 4 ∧
 ∃ v62, cAt h60 a61 ((1 : Int).toNat * 1) (.int .u64 v62) ∧
 ∃ a63, x0 = some a63 ∧
 (iBd (2 : Int) 4 ∧
 ∃ v64, cAt h60 a63 ((2 : Int).toNat * 1) (.int .u64 v64) ∧
 ∃ a65, x0 = some a65 ∧
 HC PG f_math_bits_RotateLeft64 [.int .u64 v62, .int .i64 17] [.c (.int .u64)] (fun (e66 : Int) h67 =>
 (cAt h67 a63 ((2 : Int).toNat * 1) (.int .u64 v64) ∧
 Bd (IntKind.wrap .u64 (BitVec.ofInt (IntKind.bits .u64) e66 ^^^ BitVec.ofInt (IntKind.bits .u64) v64).toNat : Int) (fun n68 =>
 (iBd 1 4 ∧
 (Wr h67 (adr a65 ((1 : Int).toNat * 1)) ∧
 At (hset h67 (adr a65 ((1 : Int).toNat * 1)) (.int .u64 n68)) (fun h69 =>
 ∃ a70, x0 = some a70 ∧
 (iBd (2 : Int) 4 ∧
 ∃ v71, cAt h69 a70 ((2 : Int).toNat * 1) (.int .u64 v71) ∧
 ∃ a72, x0 = some a72 ∧
 HC PG f_math_bits_RotateLeft64 [.int .u64 v71, .int .i64 32] [.c (.int .u64)] (fun (e73 : Int) h74 =>
 (iBd (2 : Int) 4 ∧
 (Wr h74 (adr a72 ((2 : Int).toNat * 1)) ∧
 At (hset h74 (adr a72 ((2 : Int).toNat * 1)) (.int .u64 e73)) (fun h75 =>
 I1 (IntKind.wrap .i64 (t2 + 1)) h75)))) h69))))))) h60))))))))))))) h45))))))))))))) h30))))))))))) h18))))))) h9)))))))) (
 K () h3)) 0 h0
noncomputable def A_sip_state_rounds : Ann := .node (.reg [0,4,5] (.nil)) (.loop [0,4] [(5,.c (.int .i64))] (.node (.reg [0,4,5,6] (.nil)) (.node (.nil) (.node (.node (.reg [0,4,5] (.draw (dl 12 [dm [] [0] 8,dm [0] [7] 9,dm [1] [8] 10,dm [2] [9] 11,dm [] [0] 12,dm [4] [11] 13,dm [5] [12] 14,dm [6] [13] 15,dm [3,7] [10,14] 16,dm [0] [7] 17,dn [0,1,2,3,4,5,6,7,8,9] [9] [16] 18,dn [0,1,2,3,4,5,6,7,8,10] [8,10] [15,17] 0]) (tr 0 11 (.all (.last 11 (.done)))))) (.node (.reg [0,4,5] (.draw (dl 14 [dm [] [0] 19,dm [] [0] 20,dm [1] [19] 21,dm [2] [20] 22,dm [3] [21] 23,dm [4] [22] 24,dm [] [0] 25,dm [6] [24] 26,dm [7] [25] 27,dm [8] [26] 28,dm [5,9] [23,27] 29,dm [0] [18] 30,dn [0,1,2,3,4,5,6,7,8,9,10,11] [11] [29] 31,dn [0,1,2,3,4,5,6,7,8,9,10,12] [10,12] [28,30] 0]) (tk [0,1,2,3,4,6,7,8,9,11] (.all (.last 5 (.take 10 (.take 12 (.all (.last 13 (.done)))))))))) (.node (.reg [0,4,5] (.draw (dl 9 [dm [] [0] 32,dm [] [0] 33,dm [1] [32] 34,dm [2] [33] 35,dm [3] [34] 36,dm [4] [35] 37,dm [0] [31] 38,dn [0,1,2,3,4,5,6] [6] [37] 39,dn [0,1,2,3,4,5,7] [5,7] [36,38] 0]) (tk [0,1,2,3,4,6] (.all (.last 5 (.take 7 (.all (.last 8 (.done))))))))) (.node (.reg [0,4,5] (.draw (dl 12 [dm [] [0] 40,dm [0] [39] 41,dm [1] [40] 42,dm [2] [41] 43,dm [] [0] 44,dm [4] [43] 45,dm [5] [44] 46,dm [6] [45] 47,dm [3,7] [42,46] 48,dm [0] [39] 49,dn [0,1,2,3,4,5,6,7,8,9] [9] [48] 50,dn [0,1,2,3,4,5,6,7,8,10] [8,10] [47,49] 0]) (tr 0 11 (.all (.last 11 (.done)))))) (.node (.reg [0,4,5] (.draw (dl 14 [dm [] [0] 51,dm [] [0] 52,dm [1] [51] 53,dm [2] [52] 54,dm [3] [53] 55,dm [4] [54] 56,dm [] [0] 57,dm [6] [56] 58,dm [7] [57] 59,dm [8] [58] 60,dm [5,9] [55,59] 61,dm [0] [50] 62,dn [0,1,2,3,4,5,6,7,8,9,10,11] [11] [61] 63,dn [0,1,2,3,4,5,6,7,8,9,10,12] [10,12] [60,62] 0]) (tk [0,1,2,3,4,6,7,8,9,11] (.all (.last 5 (.take 10 (.take 12 (.all (.last 13 (.done)))))))))) (.node (.reg [0,4,5] (.draw (dl 12 [dm [] [0] 64,dm [0] [63] 65,dm [1] [64] 66,dm [2] [65] 67,dm [] [0] 68,dm [4] [67] 69,dm [5] [68] 70,dm [6] [69] 71,dm [3,7] [66,70] 72,dm [0] [63] 73,dn [0,1,2,3,4,5,6,7,8,9] [9] [72] 74,dn [0,1,2,3,4,5,6,7,8,10] [8,10] [71,73] 0]) (tr 0 11 (.all (.last 11 (.done)))))) (.node (.reg [0,4,5] (.draw (dl 14 [dm [] [0] 75,dm [] [0] 76,dm [1] [75] 77,dm [2] [76] 78,dm [3] [77] 79,dm [4] [78] 80,dm [] [0] 81,dm [6] [80] 82,dm [7] [81] 83,dm [8] [82] 84,dm [5,9] [79,83] 85,dm [0] [74] 86,dn [0,1,2,3,4,5,6,7,8,9,10,11] [11] [85] 87,dn [0,1,2,3,4,5,6,7,8,9,10,12] [10,12] [84,86] 0]) (tk [0,1,2,3,4,6,7,8,9,11] (.all (.last 5 (.take 10 (.take 12 (.all (.last 13 (.done)))))))))) (.node (.reg [0,4,5] (.draw (dl 12 [dm [] [0] 88,dm [0] [87] 89,dm [1] [88] 90,dm [2] [89] 91,dm [] [0] 92,dm [4] [91] 93,dm [5] [92] 94,dm [6] [93] 95,dm [3,7] [90,94] 96,dm [0] [87] 97,dn [0,1,2,3,4,5,6,7,8,9] [9] [96] 98,dn [0,1,2,3,4,5,6,7,8,10] [8,10] [95,97] 0]) (tr 0 11 (.all (.last 11 (.done)))))) (.node (.reg [0,4,5] (.draw (dl 14 [dm [] [0] 99,dm [] [0] 100,dm [1] [99] 101,dm [2] [100] 102,dm [3] [101] 103,dm [4] [102] 104,dm [] [0] 105,dm [6] [104] 106,dm [7] [105] 107,dm [8] [106] 108,dm [5,9] [103,107] 109,dm [0] [98] 110,dn [0,1,2,3,4,5,6,7,8,9,10,11] [11] [109] 111,dn [0,1,2,3,4,5,6,7,8,9,10,12] [10,12] [108,110] 0]) (tk [0,1,2,3,4,6,7,8,9,11] (.all (.last 5 (.take 10 (.take 12 (.all (.last 13 (.done)))))))))) (.reg [0,4,5] (.draw (dl 9 [dm [] [0] 112,dm [] [0] 113,dm [1] [112] 114,dm [2] [113] 115,dm [3] [114] 116,dm [4] [115] 117,dm [0] [111] 118,dn [0,1,2,3,4,5,6] [6] [117] 119,dn [0,1,2,3,4,5,7] [5,7] [116,118] 0]) (tk [0,1,2,3,4,6] (.all (.last 5 (.take 7 (.all (.last 8 (.done)))))))))))))))))) (.reg [0,4,5] (.nil))))))
theorem H_sip_state_rounds (x0 : Option Addr) (x1 : Int) {K : Tup [] → Heap → Prop} {h0 : Heap} (h : F_sip_state_rounds x0 x1 K h0) : HC PG f_sip_state_rounds [.pointer x0, .int .i64 x1] [] K h0 := HC.intro (an := A_sip_state_rounds) (c := Tryz.f163.body.getD .skip) Tryz.mixed Tryz.func163 rfl Tryz.call163 (Nat.le_of_ble_eq_true rfl) (cst (by kernel_rfl) h)
def F_node_Node_own (x0 : Option Addr) (x1 : Option Addr) (K : (Option Addr) → Heap → Prop) (h0 : Heap) : Prop :=
 HC PG f_node_Node_Owned [.pointer x0, .pointer x1] [.c .bool] (fun (e1 : Bool) h2 =>
 CondP e1 (
 K x0 h2) (
 ∃ a3, x0 = some a3 ∧
 ∃ v4, cAt h2 a3 0 (.int .u32 v4) ∧
 ∃ v5, cAt h2 a3 1 (.int .u32 v5) ∧
 ∃ v6 : SliceV, cAt h2 a3 2 (.slice v6.a v6.len v6.cap) ∧
 ∃ v7 : SliceV, cAt h2 a3 3 (.slice v7.a v7.len v7.cap) ∧
 ∃ v8, cAt h2 a3 4 (.bool v8) ∧
 ∃ v9, cAt h2 a3 5 (.pointer v9) ∧
 At (hnew h2 [.int .u32 0, .int .u32 0, .slice none 0 0, .slice none 0 0, .bool false, .pointer none] t_node_Node) (fun h10 =>
 (WrS h10 (some (newA h2)) 0 [.int .u32 v4, .int .u32 v5, .slice v6.a v6.len v6.cap, .slice v7.a v7.len v7.cap, .bool v8, .pointer v9] ∧
 At (hsetL h10 (newA h2) 0 [.int .u32 v4, .int .u32 v5, .slice v6.a v6.len v6.cap, .slice v7.a v7.len v7.cap, .bool v8, .pointer v9]) (fun h11 =>
 ∃ a12, x0 = some a12 ∧
 ∃ v13 : SliceV, cAt h11 (adr a12 0) 2 (.slice v13.a v13.len v13.cap) ∧
 ∃ a14, x0 = some a14 ∧
 ∃ v15 : SliceV, cAt h11 (adr a14 0) 3 (.slice v15.a v15.len v15.cap) ∧
 HC PG f_slices_Clone_A_pair_Pair_pair_Pair [.slice v13.a v13.len v13.cap] [.c .slice] (fun (e16 : SliceV) h17 =>
 (cAt h17 (adr a14 0) 3 (.slice v15.a v15.len v15.cap) ∧
 HC PG f_slices_Clone_A_P_node_Node_P_node_Node [.slice v15.a v15.len v15.cap] [.c .slice] (fun (e18 : SliceV) h19 =>
 (Wr h19 (adr (adr (newA h2) 0) 2) ∧
 At (hset h19 (adr (adr (newA h2) 0) 2) (.slice e16.a e16.len e16.cap)) (fun h20 =>
 (Wr h20 (adr (adr (newA h2) 0) 3) ∧
 At (hset h20 (adr (adr (newA h2) 0) 3) (.slice e18.a e18.len e18.cap)) (fun h21 =>
 (Wr h21 (adr (newA h2) 5) ∧
 At (hset h21 (adr (newA h2) 5) (.pointer none)) (fun h22 =>
 HC PG f_token_Token_Live [.pointer x1] [.c .bool] (fun (e23 : Bool) h24 =>
 CondP e23 (
 (Wr h24 (adr (newA h2) 5) ∧
 At (hset h24 (adr (newA h2) 5) (.pointer x1)) (fun h25 =>
 K (some (newA h2)) h25))) (
 K (some (newA h2)) h24)) h22))))))) h17)) h11))))) h0
noncomputable def A_node_Node_own : Ann := .node (.reg [0,1] (.nil)) (.node (.node (.reg [0,1,8] (.nil)) (.node (.node (.reg [4] (.nil)) (.nil)) (.nil))) (.node (.reg [0,1,5] (.nil)) (.node (.reg [1,5] (.draw (dl 18 [dm [] [0] 14,dm [0] [13] 15,dm [1] [14] 16,dm [2] [15] 17,dm [3] [16] 18,dm [4] [17] 19,dm [] [0] 20,dm [6] [19] 21,dm [7] [20] 22,dm [8] [21] 23,dm [9] [22] 24,dn [5,10] [10] [23] 25,dn [0,1,2,3,4,5,10,11] [] [5] 26,dn [0,1,2,3,4,5,10,11,12] [12] [25] 27,dn [0,1,2,3,4,5,10,11,13] [5,13] [18,26] 0,dn [0,1,2,3,4,5,6,7,8,9,10,11,12,13,14] [] [5] 28,dn [0,1,2,3,4,5,6,7,8,9,10,11,12,13,14,15] [15] [27] 29,dn [0,1,2,3,4,5,6,7,8,9,10,11,12,13,14,16] [11,16] [24,28] 0]) (tk [0,1,2,3,4,6,7,8,9,10] (.all (.last 5 (.all (.last 11 (.take 12 (.take 13 (.all (.last 14 (.take 15 (.take 16 (.all (.last 17 (.done)))))))))))))))) (.node (.reg [1,5] (.nil)) (.node (.node (.reg [1,5,31] (.nil)) (.node (.reg [5] (.nil)) (.nil))) (.node (.reg [4] (.nil)) (.nil)))))))
theorem H_node_Node_own (x0 : Option Addr) (x1 : Option Addr) {K : Tup [.c .ptr] → Heap → Prop} {h0 : Heap} (h : F_node_Node_own x0 x1 K h0) : HC PG f_node_Node_own [.pointer x0, .pointer x1] [.c .ptr] K h0 := HC.intro (an := A_node_Node_own) (c := Tryz.f164.body.getD .skip) Tryz.mixed Tryz.func164 rfl Tryz.call164 (Nat.le_of_ble_eq_true rfl) (cst (by kernel_rfl) h)
def F_pair_Put (x0 : SliceV) (x1 : ByteArray × ByteArray) (K : (SliceV) → Heap → Prop) (h0 : Heap) : Prop :=
 At (hnew h0 [.string x1.1, .string x1.2] t_pair_Pair) (fun h1 =>
 ∃ v2, cAt h1 (newA h0) 0 (.string v2) ∧
 HC PG f_pair_Find [.slice x0.a x0.len x0.cap, .string v2] [.c (.int .i64), .c .bool] (fun (e3 : Int × Bool) h4 =>
 (((0 : Int) ≤ e3.1 ∧ e3.1 ≤ ((x0.len : Nat) : Int)) ∧
 Join (fun (t9 : SliceV) h10 =>
 (((0 : Int) ≤ e3.1 ∧ e3.1 ≤ ((x0.cap : Nat) : Int)) ∧
 ∃ v11, cAt h10 (newA h0) 0 (.string v11) ∧
 ∃ v12, cAt h10 (newA h0) 1 (.string v12) ∧
 At (hnew h10 [.string v11, .string v12] t_pair_Pair) (fun h13 =>
 At (hnew h13 [.slice (subAddr x0.a 0 x0.cap 2) (e3.1.toNat - 0) (x0.cap - 0), .slice (some (newA h10)) 1 1, .slice t9.a t9.len t9.cap] t_A_pair_Pair) (fun h14 =>
 HC PG f_slices_Concat_A_pair_Pair_pair_Pair [.slice (some (newA h13)) 3 3] [.c .slice] (fun (e15 : SliceV) h16 =>
 K e15 h16) h14)))) (fun J5 =>
 CondP e3.2 (
 (((0 : Int) ≤ (IntKind.wrap .i64 (e3.1 + 1)) ∧ (IntKind.wrap .i64 (e3.1 + 1)) ≤ ((x0.len : Nat) : Int)) ∧
 Bd (subAddr x0.a ((IntKind.wrap .i64 (e3.1 + 1)).toNat) x0.cap 2 : Option Addr) (fun a6 => Bd (x0.len - ((IntKind.wrap .i64 (e3.1 + 1)).toNat) : Nat) (fun n7 => Bd (x0.cap - ((IntKind.wrap .i64 (e3.1 + 1)).toNat) : Nat) (fun n8 =>
 J5 ⟨a6, n7, n8⟩ h4))))) (
 J5 ⟨subAddr x0.a e3.1.toNat x0.cap 2, x0.len - e3.1.toNat, x0.cap - e3.1.toNat⟩ h4)))) h1)
noncomputable def A_pair_Put : Ann := .node (.reg [0,3] (.nil)) (.node (.reg [0,3,5,6] (.nil)) (.node (.reg [0,3,5,6,7] (.nil)) (.join [0,3,5] [(7,.c .slice)] (.node (.reg [0,3,5,7,18] (.nil)) (.node (.reg [0,3,5,7] (.nil)) (.nil))) (.node (.reg [4] (.draw (dl 9 [dm [] [0] 24,dm [] [5] 25,dm [0,1] [23,24] 26,dm [] [3] 27,dm [3] [26] 28,dm [] [7] 29,dm [2,4,5] [25,27,28] 30,dm [6] [29] 31,dn [0,1,2,3,4,5,6,7] [7] [30] 5]) (tk [0,1,2,3,5] (.all (.last 4 (.all (.last 6 (.all (.last 7 (.take 8 (.done))))))))))) (.nil)))))
theorem H_pair_Put (x0 : SliceV) (x1 : ByteArray × ByteArray) {K : Tup [.c .slice] → Heap → Prop} {h0 : Heap} (h : F_pair_Put x0 x1 K h0) : HC PG f_pair_Put [.slice x0.a x0.len x0.cap, .agg #[.string x1.1, .string x1.2]] [.c .slice] K h0 := HC.intro (an := A_pair_Put) (c := Tryz.f165.body.getD .skip) Tryz.mixed Tryz.func165 rfl Tryz.call165 (Nat.le_of_ble_eq_true rfl) (cst (by kernel_rfl) h)
def F_slices_stableCmpFunc_build_hashed (x0 : SliceV) (x1 : Int) (x2 : Value) (K : (Unit) → Heap → Prop) (h0 : Heap) : Prop :=
 LoopP (fun I1 (t2 : Int × Int) h3 =>
 CondP (decide (t2.2 ≤ x1)) (
 HC PG f_slices_insertionSortCmpFunc_build_hashed [.slice x0.a x0.len x0.cap, .int .i64 t2.1, .int .i64 t2.2, x2] [] (fun (e4 : Unit) h5 =>
 I1 (t2.2, IntKind.wrap .i64 (t2.2 + 20)) h5) h3) (
 HC PG f_slices_insertionSortCmpFunc_build_hashed [.slice x0.a x0.len x0.cap, .int .i64 t2.1, .int .i64 x1, x2] [] (fun (e6 : Unit) h7 =>
 LoopP (fun I8 (t9 : Int) h10 =>
 CondP (decide (t9 < x1)) (
 LoopP (fun I11 (t12 : Int × Int) h13 =>
 CondP (decide (t12.2 ≤ x1)) (
 HC PG f_slices_symMergeCmpFunc_build_hashed [.slice x0.a x0.len x0.cap, .int .i64 t12.1, .int .i64 (IntKind.wrap .i64 (t12.1 + t9)), .int .i64 t12.2, x2] [] (fun (e14 : Unit) h15 =>
 I11 (t12.2, IntKind.wrap .i64 (t12.2 + (IntKind.wrap .i64 (2 * t9)))) h15) h13) (
 Join (fun (t19 : Unit) h20 =>
 I8 (IntKind.wrap .i64 (t9 * 2)) h20) (fun J16 =>
 CondP (decide ((IntKind.wrap .i64 (t12.1 + t9)) < x1)) (
 HC PG f_slices_symMergeCmpFunc_build_hashed [.slice x0.a x0.len x0.cap, .int .i64 t12.1, .int .i64 (IntKind.wrap .i64 (t12.1 + t9)), .int .i64 x1, x2] [] (fun (e17 : Unit) h18 =>
 J16 () h18) h13) (
 J16 () h13)))) (0, IntKind.wrap .i64 (2 * t9)) h10) (
 K () h10)) 20 h7) h3)) (0, 20) h0
noncomputable def A_slices_stableCmpFunc_build_hashed : Ann := .node (.reg [0,1,2,6] (.nil)) (.node (.reg [0,1,2,6,7,8] (.nil)) (.node (.loop [0,1,2,6] [(7,.c (.int .i64)),(8,.c (.int .i64))] (.node (.node (.reg [0,1,2,6,7,8,13] (.nil)) (.nil)) (.node (.reg [0,1,2,6,8] (.nil)) (.node (.reg [0,1,2,6,7,8] (.nil)) (.reg [0,1,2,6,7,8] (.nil)))))) (.node (.reg [0,1,2,6] (.nil)) (.loop [0,1,2] [(6,.c (.int .i64))] (.node (.node (.reg [0,1,2,6,30] (.nil)) (.nil)) (.node (.reg [0,1,2,6,7,8] (.nil)) (.node (.loop [0,1,2,6] [(7,.c (.int .i64)),(8,.c (.int .i64))] (.node (.node (.reg [0,1,2,6,7,8,35] (.nil)) (.nil)) (.node (.reg [0,1,2,6,8] (.nil)) (.node (.reg [0,1,2,6,7,8] (.nil)) (.reg [0,1,2,6,7,8] (.nil)))))) (.join [0,1,2,6] [] (.node (.reg [0,1,2,6,7,9] (.nil)) (.node (.reg [0,1,2,6,7,9,54] (.nil)) (.node (.reg [0,1,2,6] (.nil)) (.nil)))) (.reg [0,1,2,6] (.nil))))))))))
theorem H_slices_stableCmpFunc_build_hashed (x0 : SliceV) (x1 : Int) (x2 : Value) {K : Tup [] → Heap → Prop} {h0 : Heap} (h : F_slices_stableCmpFunc_build_hashed x0 x1 x2 K h0) : HC PG f_slices_stableCmpFunc_build_hashed [.slice x0.a x0.len x0.cap, .int .i64 x1, x2] [] K h0 := HC.intro (an := A_slices_stableCmpFunc_build_hashed) (c := Tryz.f166.body.getD .skip) Tryz.mixed Tryz.func166 rfl Tryz.call166 (Nat.le_of_ble_eq_true rfl) (cst (by kernel_rfl) h)
def F_cmp_isNaN_int (x0 : Int) (K : (Bool) → Heap → Prop) (h0 : Heap) : Prop :=
 K (x0 != x0) h0
noncomputable def A_cmp_isNaN_int : Ann := .node (.reg [0] (.nil)) (.node (.reg [2] (.nil)) (.nil))
theorem H_cmp_isNaN_int (x0 : Int) {K : Tup [.c .bool] → Heap → Prop} {h0 : Heap} (h : F_cmp_isNaN_int x0 K h0) : HC PG f_cmp_isNaN_int [.int .i64 x0] [.c .bool] K h0 := HC.intro (an := A_cmp_isNaN_int) (c := Tryz.f167.body.getD .skip) Tryz.mixed Tryz.func167 rfl Tryz.call167 (Nat.le_of_ble_eq_true rfl) (cst (by kernel_rfl) h)
def F_node_Node_inner (x0 : Option Addr) (x1 : Int) (K : (Bool) → Heap → Prop) (h0 : Heap) : Prop :=
 CondP (!(x0.isNone)) (
 ∃ a1, x0 = some a1 ∧
 ∃ v2, cAt h0 a1 4 (.bool v2) ∧
 CondP (!v2) (
 CondP (decide (x1 ≥ (0 : Int))) (
 K (decide (x1 < (32 : Int))) h0) (
 K false h0)) (
 K false h0)) (
 K false h0)
noncomputable def A_node_Node_inner : Ann := .node (.reg [0,1] (.nil)) (.node (.reg [4] (.nil)) (.nil))
theorem H_node_Node_inner (x0 : Option Addr) (x1 : Int) {K : Tup [.c .bool] → Heap → Prop} {h0 : Heap} (h : F_node_Node_inner x0 x1 K h0) : HC PG f_node_Node_inner [.pointer x0, .int .i64 x1] [.c .bool] K h0 := HC.intro (an := A_node_Node_inner) (c := Tryz.f168.body.getD .skip) Tryz.mixed Tryz.func168 rfl Tryz.call168 (Nat.le_of_ble_eq_true rfl) (cst (by kernel_rfl) h)
def F_node_slots_drop (x0 : Option Addr) (x1 : Int) (K : (Unit) → Heap → Prop) (h0 : Heap) : Prop :=
 Join (fun (t16 : Unit) h17 =>
 Join (fun (t33 : Unit) h34 =>
 ∃ a35, x0 = some a35 ∧
 ∃ v36, cAt h34 a35 0 (.int .u32 v36) ∧
 ∃ a37, x0 = some a37 ∧
 ∃ v38, cAt h34 a37 1 (.int .u32 v38) ∧
 HC PG f_chunk_Bits_Without [.int .u32 v36, .int .i64 x1] [.c (.int .u32)] (fun (e39 : Int) h40 =>
 (cAt h40 a37 1 (.int .u32 v38) ∧
 HC PG f_chunk_Bits_Without [.int .u32 v38, .int .i64 x1] [.c (.int .u32)] (fun (e41 : Int) h42 =>
 ∃ a43, x0 = some a43 ∧
 (Wr h42 (adr a43 0) ∧
 At (hset h42 (adr a43 0) (.int .u32 e39)) (fun h44 =>
 ∃ a45, x0 = some a45 ∧
 (Wr h44 (adr a45 1) ∧
 At (hset h44 (adr a45 1) (.int .u32 e41)) (fun h46 =>
 K () h46))))) h40)) h34) (fun J18 =>
 ∃ a19, x0 = some a19 ∧
 ∃ v20, cAt h17 a19 1 (.int .u32 v20) ∧
 HC PG f_chunk_Bits_Has [.int .u32 v20, .int .i64 x1] [.c .bool] (fun (e21 : Bool) h22 =>
 CondP e21 (
 ∃ a23, x0 = some a23 ∧
 ∃ v24, cAt h22 a23 1 (.int .u32 v24) ∧
 HC PG f_chunk_Bits_Rank [.int .u32 v24, .int .i64 x1] [.c (.int .i64)] (fun (e25 : Int) h26 =>
 ∃ a27, x0 = some a27 ∧
 ∃ v28 : SliceV, cAt h26 a27 3 (.slice v28.a v28.len v28.cap) ∧
 HC PG f_slices_Delete_A_P_node_Node_P_node_Node [.slice v28.a v28.len v28.cap, .int .i64 e25, .int .i64 (IntKind.wrap .i64 (e25 + 1))] [.c .slice] (fun (e29 : SliceV) h30 =>
 ∃ a31, x0 = some a31 ∧
 (Wr h30 (adr a31 3) ∧
 At (hset h30 (adr a31 3) (.slice e29.a e29.len e29.cap)) (fun h32 =>
 J18 () h32))) h26) h22) (
 J18 () h22)) h17)) (fun J1 =>
 ∃ a2, x0 = some a2 ∧
 ∃ v3, cAt h0 a2 0 (.int .u32 v3) ∧
 HC PG f_chunk_Bits_Has [.int .u32 v3, .int .i64 x1] [.c .bool] (fun (e4 : Bool) h5 =>
 CondP e4 (
 ∃ a6, x0 = some a6 ∧
 ∃ v7, cAt h5 a6 0 (.int .u32 v7) ∧
 HC PG f_chunk_Bits_Rank [.int .u32 v7, .int .i64 x1] [.c (.int .i64)] (fun (e8 : Int) h9 =>
 ∃ a10, x0 = some a10 ∧
 ∃ v11 : SliceV, cAt h9 a10 2 (.slice v11.a v11.len v11.cap) ∧
 HC PG f_slices_Delete_A_pair_Pair_pair_Pair [.slice v11.a v11.len v11.cap, .int .i64 e8, .int .i64 (IntKind.wrap .i64 (e8 + 1))] [.c .slice] (fun (e12 : SliceV) h13 =>
 ∃ a14, x0 = some a14 ∧
 (Wr h13 (adr a14 2) ∧
 At (hset h13 (adr a14 2) (.slice e12.a e12.len e12.cap)) (fun h15 =>
 J1 () h15))) h9) h5) (
 J1 () h5)) h0)
noncomputable def A_node_slots_drop : Ann := .join [0,1] [] (.node (.reg [0,1,11] (.nil)) (.node (.node (.reg [0,1,4] (.nil)) (.reg [0,1] (.nil))) (.nil))) (.join [0,1] [] (.node (.reg [0,1,34] (.nil)) (.node (.node (.reg [0,1,5] (.nil)) (.reg [0,1] (.nil))) (.nil))) (.reg [] (.draw (dl 20 [dm [] [0] 53,dm [] [0] 54,dm [] [0] 55,dm [2] [54] 56,dm [3] [55] 57,dm [4] [56] 58,dm [] [1] 59,dm [5,6] [57,58] 60,dm [] [0] 61,dm [8] [60] 62,dm [9] [61] 63,dm [10] [62] 64,dm [] [1] 65,dn [7,11,12] [11,12] [63,64] 66,dn [0,2,3,4,5,6,7,11,13] [0] [52] 67,dn [0,2,3,4,5,6,7,11,13,14] [14] [66] 68,dn [0,2,3,4,5,6,7,11,13,15] [7,15] [59,67] 0,dn [0,1,2,3,4,5,6,7,8,9,10,11,12,13,14,15,16] [1] [53] 69,dn [0,1,2,3,4,5,6,7,8,9,10,11,12,13,14,15,16,17] [17] [68] 70,dn [0,1,2,3,4,5,6,7,8,9,10,11,12,13,14,15,16,18] [13,18] [65,69] 0]) (tk [0,1,2,3,4,5,6,8,9,10,11,12] (.all (.last 7 (.all (.last 13 (.take 14 (.take 15 (.all (.last 16 (.take 17 (.take 18 (.all (.last 19 (.done)))))))))))))))))
theorem H_node_slots_drop (x0 : Option Addr) (x1 : Int) {K : Tup [] → Heap → Prop} {h0 : Heap} (h : F_node_slots_drop x0 x1 K h0) : HC PG f_node_slots_drop [.pointer x0, .int .i64 x1] [] K h0 := HC.intro (an := A_node_slots_drop) (c := Tryz.f169.body.getD .skip) Tryz.mixed Tryz.func169 rfl Tryz.call169 (Nat.le_of_ble_eq_true rfl) (cst (by kernel_rfl) h)
def F_slices_Insert_A_pair_Pair_pair_Pair (x0 : SliceV) (x1 : Int) (x2 : SliceV) (K : (SliceV) → Heap → Prop) (h0 : Heap) : Prop :=
 (((0 : Int) ≤ x1 ∧ x1 ≤ ((x0.len : Nat) : Int)) ∧
 CondP ((x2.len : Int) == (0 : Int)) (
 K x0 h0) (
 CondP (x1 == (x0.len : Int)) (
 ∃ xs1, SRow h0 x2.a (x2.len * 2) xs1 ∧
 AppP (some [.string (⟨#[]⟩ : ByteArray), .string (⟨#[]⟩ : ByteArray)]) 2 32 t_pair_Pair x0.a x0.len x0.cap x2.len xs1 h0 (fun s2 h3 =>
 K s2 h3)) (
 CondP (decide ((IntKind.wrap .i64 ((x0.len : Int) + (x2.len : Int))) > (x0.cap : Int))) (
 Join (fun (t8 : SliceV) h9 =>
 (((0 : Int) ≤ x1 ∧ x1 ≤ ((t8.len : Nat) : Int)) ∧
 ∃ xs10, SRow h9 x2.a (Nat.min x2.len (t8.len - x1.toNat) * 2) xs10 ∧ WrS h9 (subAddr t8.a x1.toNat t8.cap 2) 0 xs10 ∧ oneCell xs10 = true ∧
 At (hsetS h9 (subAddr t8.a x1.toNat t8.cap 2) 0 xs10) (fun h11 =>
 (((0 : Int) ≤ (IntKind.wrap .i64 (x1 + (x2.len : Int))) ∧ (IntKind.wrap .i64 (x1 + (x2.len : Int))) ≤ ((t8.len : Nat) : Int)) ∧
 Bd (subAddr t8.a ((IntKind.wrap .i64 (x1 + (x2.len : Int))).toNat) t8.cap 2 : Option Addr) (fun a12 => Bd (t8.len - ((IntKind.wrap .i64 (x1 + (x2.len : Int))).toNat) : Nat) (fun n13 => Bd (t8.cap - ((IntKind.wrap .i64 (x1 + (x2.len : Int))).toNat) : Nat) (fun n14 =>
 (((0 : Int) ≤ x1 ∧ x1 ≤ ((x0.len : Nat) : Int)) ∧
 ∃ xs15, SRow h11 (subAddr x0.a x1.toNat x0.cap 2) (Nat.min (x0.len - x1.toNat) n13 * 2) xs15 ∧ WrS h11 a12 0 xs15 ∧ oneCell xs15 = true ∧
 At (hsetS h11 a12 0 xs15) (fun h16 =>
 K t8 h16))))))))) (fun J4 =>
 (((0 : Int) ≤ x1 ∧ x1 ≤ ((x0.cap : Nat) : Int)) ∧
 Bd (IntKind.wrap .i64 ((IntKind.wrap .i64 ((x0.len : Int) + (x2.len : Int))) - x1) : Int) (fun n5 =>
 (((0 : Int) ≤ n5 ∧ n5 * ((32 : Nat) : Int) ≤ 2 ^ 48 ∧ n5 ≤ 9223372036854775807 ∧ (((x1.toNat - 0) + n5.toNat : Nat) : Int) ≤ 9223372036854775807) ∧
 AppP (some [.string (⟨#[]⟩ : ByteArray), .string (⟨#[]⟩ : ByteArray)]) 2 32 t_pair_Pair (subAddr x0.a 0 x0.cap 2) (x1.toNat - 0) (x0.cap - 0) n5.toNat (zrow n5.toNat [.string (⟨#[]⟩ : ByteArray), .string (⟨#[]⟩ : ByteArray)]) h0 (fun s6 h7 =>
 J4 s6 h7)))))) (
 (((0 : Int) ≤ (IntKind.wrap .i64 ((x0.len : Int) + (x2.len : Int))) ∧ (IntKind.wrap .i64 ((x0.len : Int) + (x2.len : Int))) ≤ ((x0.cap : Nat) : Int)) ∧
 Bd (subAddr x0.a 0 x0.cap 2 : Option Addr) (fun a17 => Bd (((IntKind.wrap .i64 ((x0.len : Int) + (x2.len : Int))).toNat) - 0 : Nat) (fun n18 => Bd (x0.cap - 0 : Nat) (fun n19 =>
 (((0 : Int) ≤ (IntKind.wrap .i64 (x1 + (x2.len : Int))) ∧ (IntKind.wrap .i64 (x1 + (x2.len : Int))) ≤ ((n18 : Nat) : Int)) ∧
 Bd (subAddr a17 ((IntKind.wrap .i64 (x1 + (x2.len : Int))).toNat) n19 2 : Option Addr) (fun a20 => Bd (n18 - ((IntKind.wrap .i64 (x1 + (x2.len : Int))).toNat) : Nat) (fun n21 => Bd (n19 - ((IntKind.wrap .i64 (x1 + (x2.len : Int))).toNat) : Nat) (fun n22 =>
 HC PG f_slices_overlaps_pair_Pair [.slice x2.a x2.len x2.cap, .slice a20 n21 n22] [.c .bool] (fun (e23 : Bool) h24 =>
 CondP (!e23) (
 (((0 : Int) ≤ (IntKind.wrap .i64 (x1 + (x2.len : Int))) ∧ (IntKind.wrap .i64 (x1 + (x2.len : Int))) ≤ ((n18 : Nat) : Int)) ∧
 Bd (subAddr a17 ((IntKind.wrap .i64 (x1 + (x2.len : Int))).toNat) n19 2 : Option Addr) (fun a25 => Bd (n18 - ((IntKind.wrap .i64 (x1 + (x2.len : Int))).toNat) : Nat) (fun n26 => Bd (n19 - ((IntKind.wrap .i64 (x1 + (x2.len : Int))).toNat) : Nat) (fun n27 =>
 (((0 : Int) ≤ x1 ∧ x1 ≤ ((n18 : Nat) : Int)) ∧
 ∃ xs28, SRow h24 (subAddr a17 x1.toNat n19 2) (Nat.min (n18 - x1.toNat) n26 * 2) xs28 ∧ WrS h24 a25 0 xs28 ∧ oneCell xs28 = true ∧
 At (hsetS h24 a25 0 xs28) (fun h29 =>
 (((0 : Int) ≤ x1 ∧ x1 ≤ ((n18 : Nat) : Int)) ∧
 ∃ xs30, SRow h29 x2.a (Nat.min x2.len (n18 - x1.toNat) * 2) xs30 ∧ WrS h29 (subAddr a17 x1.toNat n19 2) 0 xs30 ∧ oneCell xs30 = true ∧
 At (hsetS h29 (subAddr a17 x1.toNat n19 2) 0 xs30) (fun h31 =>
 K ⟨a17, n18, n19⟩ h31))))))))) (
 (((0 : Int) ≤ (x0.len : Int) ∧ (x0.len : Int) ≤ ((n18 : Nat) : Int)) ∧
 ∃ xs32, SRow h24 x2.a (Nat.min x2.len (n18 - ((x0.len : Int).toNat)) * 2) xs32 ∧ WrS h24 (subAddr a17 ((x0.len : Int).toNat) n19 2) 0 xs32 ∧ oneCell xs32 = true ∧
 At (hsetS h24 (subAddr a17 ((x0.len : Int).toNat) n19 2) 0 xs32) (fun h33 =>
 (((0 : Int) ≤ x1 ∧ x1 ≤ ((n18 : Nat) : Int)) ∧
 HC PG f_slices_rotateRight_pair_Pair [.slice (subAddr a17 x1.toNat n19 2) (n18 - x1.toNat) (n19 - x1.toNat), .int .i64 (x2.len : Int)] [] (fun (e34 : Unit) h35 =>
 K ⟨a17, n18, n19⟩ h35) h33))))) h0))))))))))))
noncomputable def A_slices_Insert_A_pair_Pair_pair_Pair : Ann := .node (.reg [0,1,2] (.nil)) (.node (.reg [0,1,2] (.nil)) (.node (.reg [0,1,2,7] (.nil)) (.node (.node (.reg [0,1,2,7,16] (.nil)) (.node (.node (.reg [6] (.nil)) (.nil)) (.nil))) (.node (.reg [0,1,2,7,8] (.nil)) (.node (.node (.reg [0,1,2,7,8,22] (.nil)) (.node (.node (.reg [6] (.nil)) (.nil)) (.nil))) (.node (.node (.reg [0,1,2,7,8,31] (.nil)) (.node (.join [0,1,2,7] [(9,.c .slice)] (.reg [0,1,2,7,9] (.nil)) (.node (.reg [0,1,7,9] (.nil)) (.node (.reg [9] (.draw (dl 9 [dm [] [9] 47,dm [] [1] 48,dm [] [7] 49,dm [1,2] [47,48] 50,dm [0,3] [46,49] 51,dm [] [0] 52,dm [] [1] 53,dm [5,6] [51,52] 54,dm [4,7] [50,53] 55]) (tr 0 8 (.all (.last 8 (.done)))))) (.node (.reg [6] (.nil)) (.nil))))) (.nil))) (.node (.reg [0,1,2,7,8] (.nil)) (.node (.node (.reg [0,1,2,7,8,68] (.nil)) (.node (.node (.reg [0,1,2] (.draw (dl 9 [dm [] [0] 70,dm [] [1] 71,dm [] [7] 72,dm [1,2] [70,71] 73,dm [0,3] [69,72] 74,dm [] [0] 75,dm [] [1] 76,dm [5,6] [74,75] 77,dm [4,7] [73,76] 78]) (tr 0 8 (.all (.last 8 (.done)))))) (.node (.reg [0] (.nil)) (.node (.reg [6] (.nil)) (.nil)))) (.nil))) (.node (.reg [0,1,7] (.nil)) (.node (.reg [0] (.nil)) (.node (.reg [6] (.nil)) (.nil))))))))))))
theorem H_slices_Insert_A_pair_Pair_pair_Pair (x0 : SliceV) (x1 : Int) (x2 : SliceV) {K : Tup [.c .slice] → Heap → Prop} {h0 : Heap} (h : F_slices_Insert_A_pair_Pair_pair_Pair x0 x1 x2 K h0) : HC PG f_slices_Insert_A_pair_Pair_pair_Pair [.slice x0.a x0.len x0.cap, .int .i64 x1, .slice x2.a x2.len x2.cap] [.c .slice] K h0 := HC.intro (an := A_slices_Insert_A_pair_Pair_pair_Pair) (c := Tryz.f170.body.getD .skip) Tryz.mixed Tryz.func170 rfl Tryz.call170 (Nat.le_of_ble_eq_true rfl) (cst (by kernel_rfl) h)
def F_chunk_Bits_With (x0 : Int) (x1 : Int) (K : (Int) → Heap → Prop) (h0 : Heap) : Prop :=
 HC PG f_chunk_right [.int .i64 x1] [.c .bool] (fun (e1 : Bool) h2 =>
 CondP (!e1) (
 K x0 h2) (
 ((0 : Int) ≤ x1 ∧
 Bd (IntKind.wrap .u32 (BitVec.ofInt (IntKind.bits .u32) x0 ||| BitVec.ofInt (IntKind.bits .u32) (IntKind.wrap .u32 (1 * 2 ^ (min (x1 : Int).toNat (IntKind.bits .u32))))).toNat : Int) (fun n3 =>
 K n3 h2)))) h0
noncomputable def A_chunk_Bits_With : Ann := .node (.reg [0,1] (.nil)) (.node (.node (.reg [0,1,7] (.nil)) (.node (.node (.reg [4] (.nil)) (.nil)) (.nil))) (.node (.reg [4] (.nil)) (.nil)))
theorem H_chunk_Bits_With (x0 : Int) (x1 : Int) {K : Tup [.c (.int .u32)] → Heap → Prop} {h0 : Heap} (h : F_chunk_Bits_With x0 x1 K h0) : HC PG f_chunk_Bits_With [.int .u32 x0, .int .i64 x1] [.c (.int .u32)] K h0 := HC.intro (an := A_chunk_Bits_With) (c := Tryz.f171.body.getD .skip) Tryz.mixed Tryz.func171 rfl Tryz.call171 (Nat.le_of_ble_eq_true rfl) (cst (by kernel_rfl) h)
def F_slices_Insert_A_P_node_Node_P_node_Node (x0 : SliceV) (x1 : Int) (x2 : SliceV) (K : (SliceV) → Heap → Prop) (h0 : Heap) : Prop :=
 (((0 : Int) ≤ x1 ∧ x1 ≤ ((x0.len : Nat) : Int)) ∧
 CondP ((x2.len : Int) == (0 : Int)) (
 K x0 h0) (
 CondP (x1 == (x0.len : Int)) (
 ∃ xs1, SRow h0 x2.a (x2.len * 1) xs1 ∧
 AppP (some [.pointer none]) 1 8 t_P_node_Node x0.a x0.len x0.cap x2.len xs1 h0 (fun s2 h3 =>
 K s2 h3)) (
 CondP (decide ((IntKind.wrap .i64 ((x0.len : Int) + (x2.len : Int))) > (x0.cap : Int))) (
 Join (fun (t8 : SliceV) h9 =>
 (((0 : Int) ≤ x1 ∧ x1 ≤ ((t8.len : Nat) : Int)) ∧
 ∃ xs10, SRow h9 x2.a (Nat.min x2.len (t8.len - x1.toNat) * 1) xs10 ∧ WrS h9 (subAddr t8.a x1.toNat t8.cap 1) 0 xs10 ∧ oneCell xs10 = true ∧
 At (hsetS h9 (subAddr t8.a x1.toNat t8.cap 1) 0 xs10) (fun h11 =>
 (((0 : Int) ≤ (IntKind.wrap .i64 (x1 + (x2.len : Int))) ∧ (IntKind.wrap .i64 (x1 + (x2.len : Int))) ≤ ((t8.len : Nat) : Int)) ∧
 Bd (subAddr t8.a ((IntKind.wrap .i64 (x1 + (x2.len : Int))).toNat) t8.cap 1 : Option Addr) (fun a12 => Bd (t8.len - ((IntKind.wrap .i64 (x1 + (x2.len : Int))).toNat) : Nat) (fun n13 => Bd (t8.cap - ((IntKind.wrap .i64 (x1 + (x2.len : Int))).toNat) : Nat) (fun n14 =>
 (((0 : Int) ≤ x1 ∧ x1 ≤ ((x0.len : Nat) : Int)) ∧
 ∃ xs15, SRow h11 (subAddr x0.a x1.toNat x0.cap 1) (Nat.min (x0.len - x1.toNat) n13 * 1) xs15 ∧ WrS h11 a12 0 xs15 ∧ oneCell xs15 = true ∧
 At (hsetS h11 a12 0 xs15) (fun h16 =>
 K t8 h16))))))))) (fun J4 =>
 (((0 : Int) ≤ x1 ∧ x1 ≤ ((x0.cap : Nat) : Int)) ∧
 Bd (IntKind.wrap .i64 ((IntKind.wrap .i64 ((x0.len : Int) + (x2.len : Int))) - x1) : Int) (fun n5 =>
 (((0 : Int) ≤ n5 ∧ n5 * ((8 : Nat) : Int) ≤ 2 ^ 48 ∧ n5 ≤ 9223372036854775807 ∧ (((x1.toNat - 0) + n5.toNat : Nat) : Int) ≤ 9223372036854775807) ∧
 AppP (some [.pointer none]) 1 8 t_P_node_Node (subAddr x0.a 0 x0.cap 1) (x1.toNat - 0) (x0.cap - 0) n5.toNat (zrow n5.toNat [.pointer none]) h0 (fun s6 h7 =>
 J4 s6 h7)))))) (
 (((0 : Int) ≤ (IntKind.wrap .i64 ((x0.len : Int) + (x2.len : Int))) ∧ (IntKind.wrap .i64 ((x0.len : Int) + (x2.len : Int))) ≤ ((x0.cap : Nat) : Int)) ∧
 Bd (subAddr x0.a 0 x0.cap 1 : Option Addr) (fun a17 => Bd (((IntKind.wrap .i64 ((x0.len : Int) + (x2.len : Int))).toNat) - 0 : Nat) (fun n18 => Bd (x0.cap - 0 : Nat) (fun n19 =>
 (((0 : Int) ≤ (IntKind.wrap .i64 (x1 + (x2.len : Int))) ∧ (IntKind.wrap .i64 (x1 + (x2.len : Int))) ≤ ((n18 : Nat) : Int)) ∧
 Bd (subAddr a17 ((IntKind.wrap .i64 (x1 + (x2.len : Int))).toNat) n19 1 : Option Addr) (fun a20 => Bd (n18 - ((IntKind.wrap .i64 (x1 + (x2.len : Int))).toNat) : Nat) (fun n21 => Bd (n19 - ((IntKind.wrap .i64 (x1 + (x2.len : Int))).toNat) : Nat) (fun n22 =>
 HC PG f_slices_overlaps_P_node_Node [.slice x2.a x2.len x2.cap, .slice a20 n21 n22] [.c .bool] (fun (e23 : Bool) h24 =>
 CondP (!e23) (
 (((0 : Int) ≤ (IntKind.wrap .i64 (x1 + (x2.len : Int))) ∧ (IntKind.wrap .i64 (x1 + (x2.len : Int))) ≤ ((n18 : Nat) : Int)) ∧
 Bd (subAddr a17 ((IntKind.wrap .i64 (x1 + (x2.len : Int))).toNat) n19 1 : Option Addr) (fun a25 => Bd (n18 - ((IntKind.wrap .i64 (x1 + (x2.len : Int))).toNat) : Nat) (fun n26 => Bd (n19 - ((IntKind.wrap .i64 (x1 + (x2.len : Int))).toNat) : Nat) (fun n27 =>
 (((0 : Int) ≤ x1 ∧ x1 ≤ ((n18 : Nat) : Int)) ∧
 ∃ xs28, SRow h24 (subAddr a17 x1.toNat n19 1) (Nat.min (n18 - x1.toNat) n26 * 1) xs28 ∧ WrS h24 a25 0 xs28 ∧ oneCell xs28 = true ∧
 At (hsetS h24 a25 0 xs28) (fun h29 =>
 (((0 : Int) ≤ x1 ∧ x1 ≤ ((n18 : Nat) : Int)) ∧
 ∃ xs30, SRow h29 x2.a (Nat.min x2.len (n18 - x1.toNat) * 1) xs30 ∧ WrS h29 (subAddr a17 x1.toNat n19 1) 0 xs30 ∧ oneCell xs30 = true ∧
 At (hsetS h29 (subAddr a17 x1.toNat n19 1) 0 xs30) (fun h31 =>
 K ⟨a17, n18, n19⟩ h31))))))))) (
 (((0 : Int) ≤ (x0.len : Int) ∧ (x0.len : Int) ≤ ((n18 : Nat) : Int)) ∧
 ∃ xs32, SRow h24 x2.a (Nat.min x2.len (n18 - ((x0.len : Int).toNat)) * 1) xs32 ∧ WrS h24 (subAddr a17 ((x0.len : Int).toNat) n19 1) 0 xs32 ∧ oneCell xs32 = true ∧
 At (hsetS h24 (subAddr a17 ((x0.len : Int).toNat) n19 1) 0 xs32) (fun h33 =>
 (((0 : Int) ≤ x1 ∧ x1 ≤ ((n18 : Nat) : Int)) ∧
 HC PG f_slices_rotateRight_P_node_Node [.slice (subAddr a17 x1.toNat n19 1) (n18 - x1.toNat) (n19 - x1.toNat), .int .i64 (x2.len : Int)] [] (fun (e34 : Unit) h35 =>
 K ⟨a17, n18, n19⟩ h35) h33))))) h0))))))))))))
noncomputable def A_slices_Insert_A_P_node_Node_P_node_Node : Ann := .node (.reg [0,1,2] (.nil)) (.node (.reg [0,1,2] (.nil)) (.node (.reg [0,1,2,7] (.nil)) (.node (.node (.reg [0,1,2,7,16] (.nil)) (.node (.node (.reg [6] (.nil)) (.nil)) (.nil))) (.node (.reg [0,1,2,7,8] (.nil)) (.node (.node (.reg [0,1,2,7,8,22] (.nil)) (.node (.node (.reg [6] (.nil)) (.nil)) (.nil))) (.node (.node (.reg [0,1,2,7,8,31] (.nil)) (.node (.join [0,1,2,7] [(9,.c .slice)] (.reg [0,1,2,7,9] (.nil)) (.node (.reg [0,1,7,9] (.nil)) (.node (.reg [9] (.draw (dl 9 [dm [] [9] 47,dm [] [1] 48,dm [] [7] 49,dm [1,2] [47,48] 50,dm [0,3] [46,49] 51,dm [] [0] 52,dm [] [1] 53,dm [5,6] [51,52] 54,dm [4,7] [50,53] 55]) (tr 0 8 (.all (.last 8 (.done)))))) (.node (.reg [6] (.nil)) (.nil))))) (.nil))) (.node (.reg [0,1,2,7,8] (.nil)) (.node (.node (.reg [0,1,2,7,8,68] (.nil)) (.node (.node (.reg [0,1,2] (.draw (dl 9 [dm [] [0] 70,dm [] [1] 71,dm [] [7] 72,dm [1,2] [70,71] 73,dm [0,3] [69,72] 74,dm [] [0] 75,dm [] [1] 76,dm [5,6] [74,75] 77,dm [4,7] [73,76] 78]) (tr 0 8 (.all (.last 8 (.done)))))) (.node (.reg [0] (.nil)) (.node (.reg [6] (.nil)) (.nil)))) (.nil))) (.node (.reg [0,1,7] (.nil)) (.node (.reg [0] (.nil)) (.node (.reg [6] (.nil)) (.nil))))))))))))
theorem H_slices_Insert_A_P_node_Node_P_node_Node (x0 : SliceV) (x1 : Int) (x2 : SliceV) {K : Tup [.c .slice] → Heap → Prop} {h0 : Heap} (h : F_slices_Insert_A_P_node_Node_P_node_Node x0 x1 x2 K h0) : HC PG f_slices_Insert_A_P_node_Node_P_node_Node [.slice x0.a x0.len x0.cap, .int .i64 x1, .slice x2.a x2.len x2.cap] [.c .slice] K h0 := HC.intro (an := A_slices_Insert_A_P_node_Node_P_node_Node) (c := Tryz.f172.body.getD .skip) Tryz.mixed Tryz.func172 rfl Tryz.call172 (Nat.le_of_ble_eq_true rfl) (cst (by kernel_rfl) h)
def F_radix_Node_Owned (x0 : Option Addr) (x1 : Option Addr) (K : (Bool) → Heap → Prop) (h0 : Heap) : Prop :=
 CondP (!(x0.isNone)) (
 HC PG f_token_Token_Live [.pointer x1] [.c .bool] (fun (e1 : Bool) h2 =>
 CondP e1 (
 ∃ a3, x0 = some a3 ∧
 ∃ v4, cAt h2 a3 4 (.pointer v4) ∧
 (True ∧ (∀ x y : Addr, v4 = some x → x1 = some y → plainPtr h2 x ∧ plainPtr h2 y) ∧
 K (v4 == x1) h2)) (
 K false h2)) h0) (
 K false h0)
noncomputable def A_radix_Node_Owned : Ann := .node (.reg [0,1] (.nil)) (.node (.reg [4] (.nil)) (.nil))
theorem H_radix_Node_Owned (x0 : Option Addr) (x1 : Option Addr) {K : Tup [.c .bool] → Heap → Prop} {h0 : Heap} (h : F_radix_Node_Owned x0 x1 K h0) : HC PG f_radix_Node_Owned [.pointer x0, .pointer x1] [.c .bool] K h0 := HC.intro (an := A_radix_Node_Owned) (c := Tryz.f173.body.getD .skip) Tryz.mixed Tryz.func173 rfl Tryz.call173 (Nat.le_of_ble_eq_true rfl) (cst (by kernel_rfl) h)
def F_token_Token_Live (x0 : Option Addr) (K : (Bool) → Heap → Prop) (h0 : Heap) : Prop :=
 CondP (!(x0.isNone)) (
 ∃ a1, x0 = some a1 ∧
 ∃ v2, cAt h0 a1 2 (.bool v2) ∧
 K v2 h0) (
 K false h0)
noncomputable def A_token_Token_Live : Ann := .node (.reg [0] (.nil)) (.node (.reg [2] (.nil)) (.nil))
theorem H_token_Token_Live (x0 : Option Addr) {K : Tup [.c .bool] → Heap → Prop} {h0 : Heap} (h : F_token_Token_Live x0 K h0) : HC PG f_token_Token_Live [.pointer x0] [.c .bool] K h0 := HC.intro (an := A_token_Token_Live) (c := Tryz.f174.body.getD .skip) Tryz.mixed Tryz.func174 rfl Tryz.call174 (Nat.le_of_ble_eq_true rfl) (cst (by kernel_rfl) h)
def F_slices_BinarySearchFunc_A_P_radix_Node_P_radix_Node_byte (x0 : SliceV) (x1 : Int) (x2 : Value) (K : (Int × Bool) → Heap → Prop) (h0 : Heap) : Prop :=
 LoopP (fun I1 (t2 : Int × Int) h3 =>
 CondP (decide (t2.1 < t2.2)) (
 ((0 : Int) ≤ (1 : Int) ∧
 Bd (Int.fdiv (IntKind.wrap .u64 (IntKind.wrap .i64 (t2.1 + t2.2))) (2 ^ (min (1 : Int).toNat (IntKind.bits .u64))) : Int) (fun n4 =>
 (iBd (IntKind.wrap .i64 n4) x0.len ∧ ∃ a5, x0.a = some a5 ∧
 ∃ v6, cAt h3 a5 ((IntKind.wrap .i64 n4).toNat * 1) (.pointer v6) ∧
 HV PG x2 [.pointer v6, .int .u8 x1] [.c (.int .i64)] (fun (e7 : Int) h8 =>
 CondP (decide (e7 < (0 : Int))) (
 I1 (IntKind.wrap .i64 ((IntKind.wrap .i64 n4) + 1), t2.2) h8) (
 I1 (t2.1, IntKind.wrap .i64 n4) h8)) h3)))) (
 CondP (decide (t2.1 < (x0.len : Int))) (
 (iBd t2.1 x0.len ∧ ∃ a9, x0.a = some a9 ∧
 ∃ v10, cAt h3 a9 (t2.1.toNat * 1) (.pointer v10) ∧
 HV PG x2 [.pointer v10, .int .u8 x1] [.c (.int .i64)] (fun (e11 : Int) h12 =>
 K (t2.1, e11 == (0 : Int)) h12) h3)) (
 K (t2.1, false) h3))) (0, (x0.len : Int)) h0
noncomputable def A_slices_BinarySearchFunc_A_P_radix_Node_P_radix_Node_byte : Ann := .node (.reg [0,1,2] (.nil)) (.node (.reg [0,1,2,8] (.nil)) (.node (.reg [0,1,2,8,9,10] (.nil)) (.node (.loop [0,1,2,8] [(9,.c (.int .i64)),(10,.c (.int .i64))] (.node (.node (.reg [0,1,2,8,9,10,17] (.nil)) (.nil)) (.node (.reg [0,1,2,8,9,10,11] (.nil)) (.node (.reg [0,1,2,8,9,10,11,31] (.nil)) (.node (.reg [0,1,2,8,9,10] (.nil)) (.reg [0,1,2,8,9,10] (.nil))))))) (.node (.reg [6,7] (.nil)) (.nil)))))
theorem H_slices_BinarySearchFunc_A_P_radix_Node_P_radix_Node_byte (x0 : SliceV) (x1 : Int) (x2 : Value) {K : Tup [.c (.int .i64), .c .bool] → Heap → Prop} {h0 : Heap} (h : F_slices_BinarySearchFunc_A_P_radix_Node_P_radix_Node_byte x0 x1 x2 K h0) : HC PG f_slices_BinarySearchFunc_A_P_radix_Node_P_radix_Node_byte [.slice x0.a x0.len x0.cap, .int .u8 x1, x2] [.c (.int .i64), .c .bool] K h0 := HC.intro (an := A_slices_BinarySearchFunc_A_P_radix_Node_P_radix_Node_byte) (c := Tryz.f175.body.getD .skip) Tryz.mixed Tryz.func175 rfl Tryz.call175 (Nat.le_of_ble_eq_true rfl) (cst (by kernel_rfl) h)
def F_radix_Node_find_1 (x0 : Option Addr) (x1 : Int) (K : (Int) → Heap → Prop) (h0 : Heap) : Prop :=
 ∃ a1, x0 = some a1 ∧
 ∃ v2, cAt h0 a1 0 (.string v2) ∧
 ∃ b3, (0 : Int) ≤ (0 : Int) ∧ v2[(0 : Int).toNat]? = some b3 ∧
 Bd (IntKind.wrap .i64 ((IntKind.wrap .i64 (b3.toNat : Int)) - (IntKind.wrap .i64 x1)) : Int) (fun n4 =>
 K n4 h0)
noncomputable def A_radix_Node_find_1 : Ann := .node (.reg [0,1] (.nil)) (.node (.reg [4] (.nil)) (.nil))
theorem H_radix_Node_find_1 (x0 : Option Addr) (x1 : Int) {K : Tup [.c (.int .i64)] → Heap → Prop} {h0 : Heap} (h : F_radix_Node_find_1 x0 x1 K h0) : HC PG f_radix_Node_find_1 [.pointer x0, .int .u8 x1] [.c (.int .i64)] K h0 := HC.intro (an := A_radix_Node_find_1) (c := Tryz.f176.body.getD .skip) Tryz.mixed Tryz.func176 rfl Tryz.call176 (Nat.le_of_ble_eq_true rfl) (cst (by kernel_rfl) h)
def F_radix_Node_named (x0 : Option Addr) (x1 : ByteArray) (K : (Option Addr) → Heap → Prop) (h0 : Heap) : Prop :=
 ∃ a1, x0 = some a1 ∧
 (Wr h0 (adr a1 0) ∧
 At (hset h0 (adr a1 0) (.string x1)) (fun h2 =>
 K x0 h2))
noncomputable def A_radix_Node_named : Ann := .node (.reg [0,1] (.nil)) (.node (.reg [0] (.nil)) (.node (.reg [4] (.nil)) (.nil)))
theorem H_radix_Node_named (x0 : Option Addr) (x1 : ByteArray) {K : Tup [.c .ptr] → Heap → Prop} {h0 : Heap} (h : F_radix_Node_named x0 x1 K h0) : HC PG f_radix_Node_named [.pointer x0, .string x1] [.c .ptr] K h0 := HC.intro (an := A_radix_Node_named) (c := Tryz.f179.body.getD .skip) Tryz.mixed Tryz.func179 rfl Tryz.call179 (Nat.le_of_ble_eq_true rfl) (cst (by kernel_rfl) h)
def F_pair_Find (x0 : SliceV) (x1 : ByteArray) (K : (Int × Bool) → Heap → Prop) (h0 : Heap) : Prop :=
 HC PG f_slices_BinarySearchFunc_A_pair_Pair_pair_Pair_str [.slice x0.a x0.len x0.cap, .string x1, .func (.func f_pair_order) #[] #[]] [.c (.int .i64), .c .bool] (fun (e1 : Int × Bool) h2 =>
 K (e1.1, e1.2) h2) h0
noncomputable def A_pair_Find : Ann := .node (.reg [0,1] (.nil)) (.node (.reg [4,5] (.nil)) (.nil))
theorem H_pair_Find (x0 : SliceV) (x1 : ByteArray) {K : Tup [.c (.int .i64), .c .bool] → Heap → Prop} {h0 : Heap} (h : F_pair_Find x0 x1 K h0) : HC PG f_pair_Find [.slice x0.a x0.len x0.cap, .string x1] [.c (.int .i64), .c .bool] K h0 := HC.intro (an := A_pair_Find) (c := Tryz.f180.body.getD .skip) Tryz.mixed Tryz.func180 rfl Tryz.call180 (Nat.le_of_ble_eq_true rfl) (cst (by kernel_rfl) h)
def F_math_bits_OnesCount32 (x0 : Int) (K : (Int) → Heap → Prop) (h0 : Heap) : Prop :=
 ((0 : Int) ≤ (24 : Int) ∧
 ∃ b1, (0 : Int) ≤ (Int.fdiv x0 (2 ^ (min (24 : Int).toNat (IntKind.bits .u32)))) ∧ (⟨#[0, 1, 1, 2, 1, 2, 2, 3, 1, 2, 2, 3, 2, 3, 3, 4, 1, 2, 2, 3, 2, 3, 3, 4, 2, 3, 3, 4, 3, 4, 4, 5, 1, 2, 2, 3, 2, 3, 3, 4, 2, 3, 3, 4, 3, 4, 4, 5, 2, 3, 3, 4, 3, 4, 4, 5, 3, 4, 4, 5, 4, 5, 5, 6, 1, 2, 2, 3, 2, 3, 3, 4, 2, 3, 3, 4, 3, 4, 4, 5, 2, 3, 3, 4, 3, 4, 4, 5, 3, 4, 4, 5, 4, 5, 5, 6, 2, 3, 3, 4, 3, 4, 4, 5, 3, 4, 4, 5, 4, 5, 5, 6, 3, 4, 4, 5, 4, 5, 5, 6, 4, 5, 5, 6, 5, 6, 6, 7, 1, 2, 2, 3, 2, 3, 3, 4, 2, 3, 3, 4, 3, 4, 4, 5, 2, 3, 3, 4, 3, 4, 4, 5, 3, 4, 4, 5, 4, 5, 5, 6, 2, 3, 3, 4, 3, 4, 4, 5, 3, 4, 4, 5, 4, 5, 5, 6, 3, 4, 4, 5, 4, 5, 5, 6, 4, 5, 5, 6, 5, 6, 6, 7, 2, 3, 3, 4, 3, 4, 4, 5, 3, 4, 4, 5, 4, 5, 5, 6, 3, 4, 4, 5, 4, 5, 5, 6, 4, 5, 5, 6, 5, 6, 6, 7, 3, 4, 4, 5, 4, 5, 5, 6, 4, 5, 5, 6, 5, 6, 6, 7, 4, 5, 5, 6, 5, 6, 6, 7, 5, 6, 6, 7, 6, 7, 7, 8]⟩ : ByteArray)[(Int.fdiv x0 (2 ^ (min (24 : Int).toNat (IntKind.bits .u32)))).toNat]? = some b1 ∧
 ((0 : Int) ≤ (16 : Int) ∧
 Bd (IntKind.wrap .u32 (BitVec.ofInt (IntKind.bits .u32) (Int.fdiv x0 (2 ^ (min (16 : Int).toNat (IntKind.bits .u32)))) &&& BitVec.ofInt (IntKind.bits .u32) 255).toNat : Int) (fun n2 =>
 ∃ b3, (0 : Int) ≤ n2 ∧ (⟨#[0, 1, 1, 2, 1, 2, 2, 3, 1, 2, 2, 3, 2, 3, 3, 4, 1, 2, 2, 3, 2, 3, 3, 4, 2, 3, 3, 4, 3, 4, 4, 5, 1, 2, 2, 3, 2, 3, 3, 4, 2, 3, 3, 4, 3, 4, 4, 5, 2, 3, 3, 4, 3, 4, 4, 5, 3, 4, 4, 5, 4, 5, 5, 6, 1, 2, 2, 3, 2, 3, 3, 4, 2, 3, 3, 4, 3, 4, 4, 5, 2, 3, 3, 4, 3, 4, 4, 5, 3, 4, 4, 5, 4, 5, 5, 6, 2, 3, 3, 4, 3, 4, 4, 5, 3, 4, 4, 5, 4, 5, 5, 6, 3, 4, 4, 5, 4, 5, 5, 6, 4, 5, 5, 6, 5, 6, 6, 7, 1, 2, 2, 3, 2, 3, 3, 4, 2, 3, 3, 4, 3, 4, 4, 5, 2, 3, 3, 4, 3, 4, 4, 5, 3, 4, 4, 5, 4, 5, 5, 6, 2, 3, 3, 4, 3, 4, 4, 5, 3, 4, 4, 5, 4, 5, 5, 6, 3, 4, 4, 5, 4, 5, 5, 6, 4, 5, 5, 6, 5, 6, 6, 7, 2, 3, 3, 4, 3, 4, 4, 5, 3, 4, 4, 5, 4, 5, 5, 6, 3, 4, 4, 5, 4, 5, 5, 6, 4, 5, 5, 6, 5, 6, 6, 7, 3, 4, 4, 5, 4, 5, 5, 6, 4, 5, 5, 6, 5, 6, 6, 7, 4, 5, 5, 6, 5, 6, 6, 7, 5, 6, 6, 7, 6, 7, 7, 8]⟩ : ByteArray)[n2.toNat]? = some b3 ∧
 ((0 : Int) ≤ (8 : Int) ∧
 Bd (IntKind.wrap .u32 (BitVec.ofInt (IntKind.bits .u32) (Int.fdiv x0 (2 ^ (min (8 : Int).toNat (IntKind.bits .u32)))) &&& BitVec.ofInt (IntKind.bits .u32) 255).toNat : Int) (fun n4 =>
 ∃ b5, (0 : Int) ≤ n4 ∧ (⟨#[0, 1, 1, 2, 1, 2, 2, 3, 1, 2, 2, 3, 2, 3, 3, 4, 1, 2, 2, 3, 2, 3, 3, 4, 2, 3, 3, 4, 3, 4, 4, 5, 1, 2, 2, 3, 2, 3, 3, 4, 2, 3, 3, 4, 3, 4, 4, 5, 2, 3, 3, 4, 3, 4, 4, 5, 3, 4, 4, 5, 4, 5, 5, 6, 1, 2, 2, 3, 2, 3, 3, 4, 2, 3, 3, 4, 3, 4, 4, 5, 2, 3, 3, 4, 3, 4, 4, 5, 3, 4, 4, 5, 4, 5, 5, 6, 2, 3, 3, 4, 3, 4, 4, 5, 3, 4, 4, 5, 4, 5, 5, 6, 3, 4, 4, 5, 4, 5, 5, 6, 4, 5, 5, 6, 5, 6, 6, 7, 1, 2, 2, 3, 2, 3, 3, 4, 2, 3, 3, 4, 3, 4, 4, 5, 2, 3, 3, 4, 3, 4, 4, 5, 3, 4, 4, 5, 4, 5, 5, 6, 2, 3, 3, 4, 3, 4, 4, 5, 3, 4, 4, 5, 4, 5, 5, 6, 3, 4, 4, 5, 4, 5, 5, 6, 4, 5, 5, 6, 5, 6, 6, 7, 2, 3, 3, 4, 3, 4, 4, 5, 3, 4, 4, 5, 4, 5, 5, 6, 3, 4, 4, 5, 4, 5, 5, 6, 4, 5, 5, 6, 5, 6, 6, 7, 3, 4, 4, 5, 4, 5, 5, 6, 4, 5, 5, 6, 5, 6, 6, 7, 4, 5, 5, 6, 5, 6, 6, 7, 5, 6, 6, 7, 6, 7, 7, 8]⟩ : ByteArray)[n4.toNat]? = some b5 ∧
 Bd (IntKind.wrap .u8 ((IntKind.wrap .u8 ((b1.toNat : Int) + (b3.toNat : Int))) + (b5.toNat : Int)) : Int) (fun n6 =>
 Bd (IntKind.wrap .u32 (BitVec.ofInt (IntKind.bits .u32) x0 &&& BitVec.ofInt (IntKind.bits .u32) 255).toNat : Int) (fun n7 =>
 ∃ b8, (0 : Int) ≤ n7 ∧ (⟨#[0, 1, 1, 2, 1, 2, 2, 3, 1, 2, 2, 3, 2, 3, 3, 4, 1, 2, 2, 3, 2, 3, 3, 4, 2, 3, 3, 4, 3, 4, 4, 5, 1, 2, 2, 3, 2, 3, 3, 4, 2, 3, 3, 4, 3, 4, 4, 5, 2, 3, 3, 4, 3, 4, 4, 5, 3, 4, 4, 5, 4, 5, 5, 6, 1, 2, 2, 3, 2, 3, 3, 4, 2, 3, 3, 4, 3, 4, 4, 5, 2, 3, 3, 4, 3, 4, 4, 5, 3, 4, 4, 5, 4, 5, 5, 6, 2, 3, 3, 4, 3, 4, 4, 5, 3, 4, 4, 5, 4, 5, 5, 6, 3, 4, 4, 5, 4, 5, 5, 6, 4, 5, 5, 6, 5, 6, 6, 7, 1, 2, 2, 3, 2, 3, 3, 4, 2, 3, 3, 4, 3, 4, 4, 5, 2, 3, 3, 4, 3, 4, 4, 5, 3, 4, 4, 5, 4, 5, 5, 6, 2, 3, 3, 4, 3, 4, 4, 5, 3, 4, 4, 5, 4, 5, 5, 6, 3, 4, 4, 5, 4, 5, 5, 6, 4, 5, 5, 6, 5, 6, 6, 7, 2, 3, 3, 4, 3, 4, 4, 5, 3, 4, 4, 5, 4, 5, 5, 6, 3, 4, 4, 5, 4, 5, 5, 6, 4, 5, 5, 6, 5, 6, 6, 7, 3, 4, 4, 5, 4, 5, 5, 6, 4, 5, 5, 6, 5, 6, 6, 7, 4, 5, 5, 6, 5, 6, 6, 7, 5, 6, 6, 7, 6, 7, 7, 8]⟩ : ByteArray)[n7.toNat]? = some b8 ∧
 K (IntKind.wrap .i64 (IntKind.wrap .u8 (n6 + (b8.toNat : Int)))) h0)))))))
noncomputable def A_math_bits_OnesCount32 : Ann := .node (.reg [0] (.nil)) (.node (.reg [2] (.draw (dl 19 [dm [] [0] 4,dm [0] [3] 5,dm [1] [4] 6,dm [] [0] 7,dm [3] [6] 8,dm [4] [7] 9,dm [5] [8] 10,dm [2,6] [5,9] 11,dm [] [0] 12,dm [8] [11] 13,dm [9] [12] 14,dm [10] [13] 15,dm [7,11] [10,14] 16,dm [] [0] 17,dm [13] [16] 18,dm [14] [17] 19,dm [12,15] [15,18] 20,dm [16] [19] 21,dn [0,1,2,3,4,5,6,7,8,9,10,11,12,13,14,15,16,17] [17] [20] 3]) (tr 0 19 (.done)))) (.nil))
theorem H_math_bits_OnesCount32 (x0 : Int) {K : Tup [.c (.int .i64)] → Heap → Prop} {h0 : Heap} (h : F_math_bits_OnesCount32 x0 K h0) : HC PG f_math_bits_OnesCount32 [.int .u32 x0] [.c (.int .i64)] K h0 := HC.intro (an := A_math_bits_OnesCount32) (c := Tryz.f184.body.getD .skip) Tryz.mixed Tryz.func184 rfl Tryz.call184 (Nat.le_of_ble_eq_true rfl) (cst (by kernel_rfl) h)
def F_walk_of (x0 : Option Addr) (K : (SliceV × SliceV) → Heap → Prop) (h0 : Heap) : Prop :=
 At (hnew h0 [.slice none 0 0, .slice none 0 0] t_walk_frame) (fun h1 =>
 HC PG f_node_Node_Pairs [.pointer x0] [.c .slice] (fun (e2 : SliceV) h3 =>
 HC PG f_node_Node_Kids [.pointer x0] [.c .slice] (fun (e4 : SliceV) h5 =>
 (WrS h5 (some (newA h0)) 0 [.slice e2.a e2.len e2.cap, .slice e4.a e4.len e4.cap] ∧
 At (hsetL h5 (newA h0) 0 [.slice e2.a e2.len e2.cap, .slice e4.a e4.len e4.cap]) (fun h6 =>
 ∃ v7 : SliceV, cAt h6 (newA h0) 0 (.slice v7.a v7.len v7.cap) ∧
 ∃ v8 : SliceV, cAt h6 (newA h0) 1 (.slice v8.a v8.len v8.cap) ∧
 K (v7, v8) h6))) h3) h1)
noncomputable def A_walk_of : Ann := .node (.reg [0,2] (.nil)) (.node (.reg [2] (.nil)) (.nil))
theorem H_walk_of (x0 : Option Addr) {K : Tup [.agg [.slice, .slice]] → Heap → Prop} {h0 : Heap} (h : F_walk_of x0 K h0) : HC PG f_walk_of [.pointer x0] [.agg [.slice, .slice]] K h0 := HC.intro (an := A_walk_of) (c := Tryz.f188.body.getD .skip) Tryz.mixed Tryz.func188 rfl Tryz.call188 (Nat.le_of_ble_eq_true rfl) (cst (by kernel_rfl) h)
def F_slices_insertionSortCmpFunc_pair_Pair (x0 : SliceV) (x1 : Int) (x2 : Int) (x3 : Value) (K : (Unit) → Heap → Prop) (h0 : Heap) : Prop :=
 LoopP (fun I1 (t2 : Int) h3 =>
 CondP (decide (t2 < x2)) (
 LoopP (fun I4 (t5 : Int) h6 =>
 Join (fun (t16 : Bool) h17 =>
 CondP t16 (
 (iBd (IntKind.wrap .i64 (t5 - 1)) x0.len ∧ ∃ a18, x0.a = some a18 ∧
 ∃ v19, cAt h17 (adr a18 ((IntKind.wrap .i64 (t5 - 1)).toNat * 2)) 0 (.string v19) ∧
 ∃ v20, cAt h17 (adr a18 ((IntKind.wrap .i64 (t5 - 1)).toNat * 2)) 1 (.string v20) ∧
 (iBd t5 x0.len ∧ ∃ a21, x0.a = some a21 ∧
 ∃ v22, cAt h17 (adr a21 (t5.toNat * 2)) 0 (.string v22) ∧
 ∃ v23, cAt h17 (adr a21 (t5.toNat * 2)) 1 (.string v23) ∧
 (iBd t5 x0.len ∧ ∃ a24, x0.a = some a24 ∧
 (WrS h17 (some (adr a24 (t5.toNat * 2))) 0 [.string v19, .string v20] ∧
 At (hsetL h17 (adr a24 (t5.toNat * 2)) 0 [.string v19, .string v20]) (fun h25 =>
 (iBd (IntKind.wrap .i64 (t5 - 1)) x0.len ∧ ∃ a26, x0.a = some a26 ∧
 (WrS h25 (some (adr a26 ((IntKind.wrap .i64 (t5 - 1)).toNat * 2))) 0 [.string v22, .string v23] ∧
 At (hsetL h25 (adr a26 ((IntKind.wrap .i64 (t5 - 1)).toNat * 2)) 0 [.string v22, .string v23]) (fun h27 =>
 I4 (IntKind.wrap .i64 (t5 - 1)) h27))))))))) (
 I1 (IntKind.wrap .i64 (t2 + 1)) h17)) (fun J7 =>
 CondP (decide (t5 > x1)) (
 (iBd t5 x0.len ∧ ∃ a8, x0.a = some a8 ∧
 ∃ v9, cAt h6 (adr a8 (t5.toNat * 2)) 0 (.string v9) ∧
 ∃ v10, cAt h6 (adr a8 (t5.toNat * 2)) 1 (.string v10) ∧
 (iBd (IntKind.wrap .i64 (t5 - 1)) x0.len ∧ ∃ a11, x0.a = some a11 ∧
 ∃ v12, cAt h6 (adr a11 ((IntKind.wrap .i64 (t5 - 1)).toNat * 2)) 0 (.string v12) ∧
 ∃ v13, cAt h6 (adr a11 ((IntKind.wrap .i64 (t5 - 1)).toNat * 2)) 1 (.string v13) ∧
 HV PG x3 [.agg #[.string v9, .string v10], .agg #[.string v12, .string v13]] [.c (.int .i64)] (fun (e14 : Int) h15 =>
 J7 (decide (e14 < (0 : Int))) h15) h6))) (
 J7 false h6))) t2 h3) (
 K () h3)) (IntKind.wrap .i64 (x1 + 1)) h0
noncomputable def A_slices_insertionSortCmpFunc_pair_Pair : Ann := .node (.reg [0,1,2,3,8] (.nil)) (.loop [0,1,2,3] [(8,.c (.int .i64))] (.node (.node (.reg [0,1,2,3,8,14] (.nil)) (.nil)) (.node (.node (.reg [0,1,2,3,8,9] (.nil)) (.loop [0,1,2,3,8] [(9,.c (.int .i64))] (.node (.join [0,1,2,3,8,9] [(34,.c .bool)] (.reg [0,1,2,3,8,9,34] (.draw (dl 17 [dm [] [9] 19,dm [] [1] 20,dm [0,1] [18,19] 21,dm [2] [20] 22,dm [3] [3,21] 23,dm [3] [0,21] 24,dm [3] [9,21] 25,dm [3,5,6] [21,23,24] 26,dm [3,7] [21,25] 27,dm [3] [0,21] 28,dm [3] [9,21] 29,dm [3,10] [21,28] 30,dm [3,9,11] [21,27,29] 31,dm [3,12] [21,30] 32,dm [3,4,8,13] [21,22,26,31] 33,dm [3,14] [21,32] 34,dm [3,15] [21,33] 35]) (tr 0 4 (.split 21 (tr 4 10 (.all (.last 14 (.take 15 (.take 16 (.done)))))) (tr 4 13 (.done)))))) (.nil)) (.node (.reg [0,1,2,3,8,9] (.draw (dl 18 [dm [] [0] 38,dm [] [9] 39,dm [] [0] 40,dm [] [9] 41,dm [3] [40] 42,dm [] [0] 43,dm [] [9] 44,dm [6] [43] 45,dm [5,7] [42,44] 46,dm [8] [45] 47,dm [] [0] 48,dm [] [9] 49,dm [10,11] [47,48] 50,dm [12] [49] 51,dn [0,1,5,6,7,8,9,13] [0,1] [37,38] 52,dn [0,1,5,6,7,8,9,13,14] [9,14] [46,51] 0,dn [0,1,2,3,4,5,6,7,8,9,10,11,12,13,14,15] [2,4] [39,41] 53,dn [0,1,2,3,4,5,6,7,8,9,10,11,12,13,14,15,16] [13,16] [50,52] 0]) (tr 0 15 (.all (.last 15 (.take 16 (.all (.last 17 (.done))))))))) (.reg [0,1,2,3,8,9] (.nil)))))) (.reg [0,1,2,3,8] (.nil)))))
theorem H_slices_insertionSortCmpFunc_pair_Pair (x0 : SliceV) (x1 : Int) (x2 : Int) (x3 : Value) {K : Tup [] → Heap → Prop} {h0 : Heap} (h : F_slices_insertionSortCmpFunc_pair_Pair x0 x1 x2 x3 K h0) : HC PG f_slices_insertionSortCmpFunc_pair_Pair [.slice x0.a x0.len x0.cap, .int .i64 x1, .int .i64 x2, x3] [] K h0 := HC.intro (an := A_slices_insertionSortCmpFunc_pair_Pair) (c := Tryz.f189.body.getD .skip) Tryz.mixed Tryz.func189 rfl Tryz.call189 (Nat.le_of_ble_eq_true rfl) (cst (by kernel_rfl) h)
def F_slices_symMergeCmpFunc_pair_Pair (x0 : SliceV) (x1 : Int) (x2 : Int) (x3 : Int) (x4 : Value) (K : (Unit) → Heap → Prop) (h0 : Heap) : Prop :=
 CondP ((IntKind.wrap .i64 (x2 - x1)) == (1 : Int)) (
 LoopP (fun I1 (t2 : Int × Int) h3 =>
 CondP (decide (t2.1 < t2.2)) (
 ((0 : Int) ≤ (1 : Int) ∧
 Bd (Int.fdiv (IntKind.wrap .u64 (IntKind.wrap .i64 (t2.1 + t2.2))) (2 ^ (min (1 : Int).toNat (IntKind.bits .u64))) : Int) (fun n4 =>
 (iBd (IntKind.wrap .i64 n4) x0.len ∧ ∃ a5, x0.a = some a5 ∧
 ∃ v6, cAt h3 (adr a5 ((IntKind.wrap .i64 n4).toNat * 2)) 0 (.string v6) ∧
 ∃ v7, cAt h3 (adr a5 ((IntKind.wrap .i64 n4).toNat * 2)) 1 (.string v7) ∧
 (iBd x1 x0.len ∧ ∃ a8, x0.a = some a8 ∧
 ∃ v9, cAt h3 (adr a8 (x1.toNat * 2)) 0 (.string v9) ∧
 ∃ v10, cAt h3 (adr a8 (x1.toNat * 2)) 1 (.string v10) ∧
 HV PG x4 [.agg #[.string v6, .string v7], .agg #[.string v9, .string v10]] [.c (.int .i64)] (fun (e11 : Int) h12 =>
 CondP (decide (e11 < (0 : Int))) (
 I1 (IntKind.wrap .i64 ((IntKind.wrap .i64 n4) + 1), t2.2) h12) (
 I1 (t2.1, IntKind.wrap .i64 n4) h12)) h3))))) (
 LoopP (fun I13 (t14 : Int) h15 =>
 CondP (decide (t14 < (IntKind.wrap .i64 (t2.1 - 1)))) (
 (iBd (IntKind.wrap .i64 (t14 + 1)) x0.len ∧ ∃ a16, x0.a = some a16 ∧
 ∃ v17, cAt h15 (adr a16 ((IntKind.wrap .i64 (t14 + 1)).toNat * 2)) 0 (.string v17) ∧
 ∃ v18, cAt h15 (adr a16 ((IntKind.wrap .i64 (t14 + 1)).toNat * 2)) 1 (.string v18) ∧
 (iBd t14 x0.len ∧ ∃ a19, x0.a = some a19 ∧
 ∃ v20, cAt h15 (adr a19 (t14.toNat * 2)) 0 (.string v20) ∧
 ∃ v21, cAt h15 (adr a19 (t14.toNat * 2)) 1 (.string v21) ∧
 (iBd t14 x0.len ∧ ∃ a22, x0.a = some a22 ∧
 (WrS h15 (some (adr a22 (t14.toNat * 2))) 0 [.string v17, .string v18] ∧
 At (hsetL h15 (adr a22 (t14.toNat * 2)) 0 [.string v17, .string v18]) (fun h23 =>
 (iBd (IntKind.wrap .i64 (t14 + 1)) x0.len ∧ ∃ a24, x0.a = some a24 ∧
 (WrS h23 (some (adr a24 ((IntKind.wrap .i64 (t14 + 1)).toNat * 2))) 0 [.string v20, .string v21] ∧
 At (hsetL h23 (adr a24 ((IntKind.wrap .i64 (t14 + 1)).toNat * 2)) 0 [.string v20, .string v21]) (fun h25 =>
 I13 (IntKind.wrap .i64 (t14 + 1)) h25))))))))) (
 K () h15)) x1 h3)) (x2, x3) h0) (
 CondP ((IntKind.wrap .i64 (x3 - x2)) == (1 : Int)) (
 LoopP (fun I26 (t27 : Int × Int) h28 =>
 CondP (decide (t27.1 < t27.2)) (
 ((0 : Int) ≤ (1 : Int) ∧
 Bd (Int.fdiv (IntKind.wrap .u64 (IntKind.wrap .i64 (t27.1 + t27.2))) (2 ^ (min (1 : Int).toNat (IntKind.bits .u64))) : Int) (fun n29 =>
 (iBd x2 x0.len ∧ ∃ a30, x0.a = some a30 ∧
 ∃ v31, cAt h28 (adr a30 (x2.toNat * 2)) 0 (.string v31) ∧
 ∃ v32, cAt h28 (adr a30 (x2.toNat * 2)) 1 (.string v32) ∧
 (iBd (IntKind.wrap .i64 n29) x0.len ∧ ∃ a33, x0.a = some a33 ∧
 ∃ v34, cAt h28 (adr a33 ((IntKind.wrap .i64 n29).toNat * 2)) 0 (.string v34) ∧
 ∃ v35, cAt h28 (adr a33 ((IntKind.wrap .i64 n29).toNat * 2)) 1 (.string v35) ∧
 HV PG x4 [.agg #[.string v31, .string v32], .agg #[.string v34, .string v35]] [.c (.int .i64)] (fun (e36 : Int) h37 =>
 CondP (!(decide (e36 < (0 : Int)))) (
 I26 (IntKind.wrap .i64 ((IntKind.wrap .i64 n29) + 1), t27.2) h37) (
 I26 (t27.1, IntKind.wrap .i64 n29) h37)) h28))))) (
 LoopP (fun I38 (t39 : Int) h40 =>
 CondP (decide (t39 > t27.1)) (
 (iBd (IntKind.wrap .i64 (t39 - 1)) x0.len ∧ ∃ a41, x0.a = some a41 ∧
 ∃ v42, cAt h40 (adr a41 ((IntKind.wrap .i64 (t39 - 1)).toNat * 2)) 0 (.string v42) ∧
 ∃ v43, cAt h40 (adr a41 ((IntKind.wrap .i64 (t39 - 1)).toNat * 2)) 1 (.string v43) ∧
 (iBd t39 x0.len ∧ ∃ a44, x0.a = some a44 ∧
 ∃ v45, cAt h40 (adr a44 (t39.toNat * 2)) 0 (.string v45) ∧
 ∃ v46, cAt h40 (adr a44 (t39.toNat * 2)) 1 (.string v46) ∧
 (iBd t39 x0.len ∧ ∃ a47, x0.a = some a47 ∧
 (WrS h40 (some (adr a47 (t39.toNat * 2))) 0 [.string v42, .string v43] ∧
 At (hsetL h40 (adr a47 (t39.toNat * 2)) 0 [.string v42, .string v43]) (fun h48 =>
 (iBd (IntKind.wrap .i64 (t39 - 1)) x0.len ∧ ∃ a49, x0.a = some a49 ∧
 (WrS h48 (some (adr a49 ((IntKind.wrap .i64 (t39 - 1)).toNat * 2))) 0 [.string v45, .string v46] ∧
 At (hsetL h48 (adr a49 ((IntKind.wrap .i64 (t39 - 1)).toNat * 2)) 0 [.string v45, .string v46]) (fun h50 =>
 I38 (IntKind.wrap .i64 (t39 - 1)) h50))))))))) (
 K () h40)) x2 h28)) (x1, x2) h0) (
 ((0 : Int) ≤ (1 : Int) ∧
 Bd (Int.fdiv (IntKind.wrap .u64 (IntKind.wrap .i64 (x1 + x3))) (2 ^ (min (1 : Int).toNat (IntKind.bits .u64))) : Int) (fun n51 =>
 Join (fun (t54 : Int × Int) h55 =>
 Bd (IntKind.wrap .i64 ((IntKind.wrap .i64 ((IntKind.wrap .i64 n51) + x2)) - 1) : Int) (fun n56 =>
 LoopP (fun I57 (t58 : Int × Int) h59 =>
 CondP (decide (t58.1 < t58.2)) (
 ((0 : Int) ≤ (1 : Int) ∧
 Bd (Int.fdiv (IntKind.wrap .u64 (IntKind.wrap .i64 (t58.1 + t58.2))) (2 ^ (min (1 : Int).toNat (IntKind.bits .u64))) : Int) (fun n60 =>
 (iBd (IntKind.wrap .i64 (n56 - (IntKind.wrap .i64 n60))) x0.len ∧ ∃ a61, x0.a = some a61 ∧
 ∃ v62, cAt h59 (adr a61 ((IntKind.wrap .i64 (n56 - (IntKind.wrap .i64 n60))).toNat * 2)) 0 (.string v62) ∧
 ∃ v63, cAt h59 (adr a61 ((IntKind.wrap .i64 (n56 - (IntKind.wrap .i64 n60))).toNat * 2)) 1 (.string v63) ∧
 (iBd (IntKind.wrap .i64 n60) x0.len ∧ ∃ a64, x0.a = some a64 ∧
 ∃ v65, cAt h59 (adr a64 ((IntKind.wrap .i64 n60).toNat * 2)) 0 (.string v65) ∧
 ∃ v66, cAt h59 (adr a64 ((IntKind.wrap .i64 n60).toNat * 2)) 1 (.string v66) ∧
 HV PG x4 [.agg #[.string v62, .string v63], .agg #[.string v65, .string v66]] [.c (.int .i64)] (fun (e67 : Int) h68 =>
 CondP (!(decide (e67 < (0 : Int)))) (
 I57 (IntKind.wrap .i64 ((IntKind.wrap .i64 n60) + 1), t58.2) h68) (
 I57 (t58.1, IntKind.wrap .i64 n60) h68)) h59))))) (
 Bd (IntKind.wrap .i64 ((IntKind.wrap .i64 ((IntKind.wrap .i64 n51) + x2)) - t58.1) : Int) (fun n69 =>
 Join (fun (t76 : Unit) h77 =>
 Join (fun (t84 : Unit) h85 =>
 Join (fun (t87 : Bool) h88 =>
 CondP t87 (
 HC PG f_slices_symMergeCmpFunc_pair_Pair [.slice x0.a x0.len x0.cap, .int .i64 (IntKind.wrap .i64 n51), .int .i64 n69, .int .i64 x3, x4] [] (fun (e89 : Unit) h90 =>
 K () h90) h88) (
 K () h88)) (fun J86 =>
 CondP (decide ((IntKind.wrap .i64 n51) < n69)) (
 J86 (decide (n69 < x3)) h85) (
 J86 false h85))) (fun J78 =>
 Join (fun (t80 : Bool) h81 =>
 CondP t80 (
 HC PG f_slices_symMergeCmpFunc_pair_Pair [.slice x0.a x0.len x0.cap, .int .i64 x1, .int .i64 t58.1, .int .i64 (IntKind.wrap .i64 n51), x4] [] (fun (e82 : Unit) h83 =>
 J78 () h83) h81) (
 J78 () h81)) (fun J79 =>
 CondP (decide (x1 < t58.1)) (
 J79 (decide (t58.1 < (IntKind.wrap .i64 n51))) h77) (
 J79 false h77)))) (fun J70 =>
 Join (fun (t72 : Bool) h73 =>
 CondP t72 (
 HC PG f_slices_rotateCmpFunc_pair_Pair [.slice x0.a x0.len x0.cap, .int .i64 t58.1, .int .i64 x2, .int .i64 n69, x4] [] (fun (e74 : Unit) h75 =>
 J70 () h75) h73) (
 J70 () h73)) (fun J71 =>
 CondP (decide (t58.1 < x2)) (
 J71 (decide (x2 < n69)) h59) (
 J71 false h59)))))) (t54.1, t54.2) h55)) (fun J52 =>
 CondP (decide (x2 > (IntKind.wrap .i64 n51))) (
 Bd (IntKind.wrap .i64 ((IntKind.wrap .i64 ((IntKind.wrap .i64 n51) + x2)) - x3) : Int) (fun n53 =>
 J52 (n53, IntKind.wrap .i64 n51) h0)) (
 J52 (x1, x2) h0))))))
noncomputable def A_slices_symMergeCmpFunc_pair_Pair : Ann := .node (.node (.reg [0,1,2,3,4,28] (.nil)) (.node (.node (.reg [0,1,3,4,10] (.nil)) (.node (.reg [0,1,4,10,11] (.nil)) (.node (.loop [0,1,4] [(10,.c (.int .i64)),(11,.c (.int .i64))] (.node (.node (.reg [0,1,4,10,11,33] (.nil)) (.nil)) (.node (.reg [0,1,4,10,11,12] (.nil)) (.node (.reg [0,1,4,10,11,12,50] (.draw (dl 11 [dm [] [4] 41,dm [] [0] 42,dm [] [12] 43,dm [1,2] [41,42] 44,dm [3] [43] 45,dm [] [0] 46,dm [] [1] 47,dm [5,6] [45,46] 48,dm [7] [47] 49,dm [0,4,8] [40,44,48] 50,dm [9] [49] 51]) (tr 0 9 (.all (.last 9 (.take 10 (.done))))))) (.node (.reg [0,1,4,10,11] (.nil)) (.reg [0,1,4,10,11] (.nil))))))) (.node (.node (.reg [0,10,13] (.nil)) (.loop [0,10] [(13,.c (.int .i64))] (.node (.node (.reg [0,10,13,58] (.nil)) (.nil)) (.node (.reg [0,10,13] (.draw (dl 18 [dm [] [0] 62,dm [] [13] 63,dm [] [0] 64,dm [] [13] 65,dm [3] [64] 66,dm [] [0] 67,dm [] [13] 68,dm [6] [67] 69,dm [5,7] [66,68] 70,dm [8] [69] 71,dm [] [0] 72,dm [] [13] 73,dm [10,11] [71,72] 74,dm [12] [73] 75,dn [0,1,5,6,7,8,9,13] [0,1] [61,62] 76,dn [0,1,5,6,7,8,9,13,14] [9,14] [70,75] 0,dn [0,1,2,3,4,5,6,7,8,9,10,11,12,13,14,15] [2,4] [63,65] 77,dn [0,1,2,3,4,5,6,7,8,9,10,11,12,13,14,15,16] [13,16] [74,76] 0]) (tr 0 15 (.all (.last 15 (.take 16 (.all (.last 17 (.done))))))))) (.reg [0,10,13] (.nil)))))) (.nil))))) (.nil))) (.node (.node (.reg [0,1,2,3,4,80] (.nil)) (.node (.node (.reg [0,2,4,14] (.nil)) (.node (.reg [0,2,4,14,15] (.nil)) (.node (.loop [0,2,4] [(14,.c (.int .i64)),(15,.c (.int .i64))] (.node (.node (.reg [0,2,4,14,15,85] (.nil)) (.nil)) (.node (.reg [0,2,4,14,15,16] (.nil)) (.node (.reg [0,2,4,14,15,16,103] (.draw (dl 12 [dm [] [4] 93,dm [] [0] 94,dm [] [2] 95,dm [1,2] [93,94] 96,dm [3] [95] 97,dm [] [0] 98,dm [] [16] 99,dm [5,6] [97,98] 100,dm [7] [99] 101,dm [0,4,8] [92,96,100] 102,dm [9] [101] 103,dm [10] [102] 104]) (tr 0 9 (.all (.last 9 (.take 10 (.take 11 (.done)))))))) (.node (.reg [0,2,4,14,15] (.nil)) (.reg [0,2,4,14,15] (.nil))))))) (.node (.node (.reg [0,14,17] (.nil)) (.loop [0,14] [(17,.c (.int .i64))] (.node (.node (.reg [0,14,17,110] (.nil)) (.nil)) (.node (.reg [0,14,17] (.draw (dl 18 [dm [] [0] 114,dm [] [17] 115,dm [] [0] 116,dm [] [17] 117,dm [3] [116] 118,dm [] [0] 119,dm [] [17] 120,dm [6] [119] 121,dm [5,7] [118,120] 122,dm [8] [121] 123,dm [] [0] 124,dm [] [17] 125,dm [10,11] [123,124] 126,dm [12] [125] 127,dn [0,1,5,6,7,8,9,13] [0,1] [113,114] 128,dn [0,1,5,6,7,8,9,13,14] [9,14] [122,127] 0,dn [0,1,2,3,4,5,6,7,8,9,10,11,12,13,14,15] [2,4] [115,117] 129,dn [0,1,2,3,4,5,6,7,8,9,10,11,12,13,14,15,16] [13,16] [126,128] 0]) (tr 0 15 (.all (.last 15 (.take 16 (.all (.last 17 (.done))))))))) (.reg [0,14,17] (.nil)))))) (.nil))))) (.nil))) (.node (.reg [0,1,2,3,4,18] (.nil)) (.node (.reg [0,1,2,3,4,18,19] (.nil)) (.node (.reg [0,1,2,3,4,18,19] (.nil)) (.join [0,1,2,3,4,18,19] [(20,.c (.int .i64)),(21,.c (.int .i64))] (.node (.reg [0,1,2,3,4,18,19,140] (.nil)) (.node (.node (.reg [0,1,2,3,4,18,19,20] (.nil)) (.reg [0,1,2,3,4,18,19,20,21] (.nil))) (.node (.reg [0,1,2,3,4,18,19,20] (.nil)) (.reg [0,1,2,3,4,18,19,20,21] (.nil))))) (.node (.reg [0,1,2,3,4,18,19,20,21,22] (.nil)) (.node (.loop [0,1,2,3,4,18,19,22] [(20,.c (.int .i64)),(21,.c (.int .i64))] (.node (.node (.reg [0,1,2,3,4,18,19,20,21,22,151] (.nil)) (.nil)) (.node (.reg [0,1,2,3,4,18,19,20,21,22,23] (.nil)) (.node (.reg [0,1,2,3,4,18,19,20,21,22,23,171] (.draw (dl 14 [dm [] [4] 159,dm [] [0] 160,dm [] [22] 161,dm [] [23] 162,dm [2,3] [160,161] 163,dm [1,4] [159,162] 164,dm [5] [163] 165,dm [] [0] 166,dm [] [23] 167,dm [7,8] [165,166] 168,dm [9] [167] 169,dm [0,6,10] [158,164,168] 170,dm [11] [169] 171,dm [12] [170] 172]) (tr 0 11 (.all (.last 11 (.take 12 (.take 13 (.done)))))))) (.node (.reg [0,1,2,3,4,18,19,20,21,22] (.nil)) (.reg [0,1,2,3,4,18,19,20,21,22] (.nil))))))) (.node (.reg [0,1,2,3,4,18,20,24] (.nil)) (.join [0,1,3,4,18,20,24] [] (.join [0,1,2,3,4,18,20,24] [(185,.c .bool)] (.reg [0,1,2,3,4,18,20,24,185] (.nil)) (.node (.reg [0,1,3,4,18,20,24] (.nil)) (.nil))) (.join [0,3,4,18,24] [] (.join [0,1,3,4,18,20,24] [(199,.c .bool)] (.reg [0,1,3,4,18,20,24,199] (.nil)) (.node (.reg [0,3,4,18,24] (.nil)) (.nil))) (.join [0,3,4,18,24] [(213,.c .bool)] (.reg [0,3,4,18,24,213] (.nil)) (.node (.reg [] (.nil)) (.nil)))))))))))))
theorem H_slices_symMergeCmpFunc_pair_Pair (x0 : SliceV) (x1 : Int) (x2 : Int) (x3 : Int) (x4 : Value) {K : Tup [] → Heap → Prop} {h0 : Heap} (h : F_slices_symMergeCmpFunc_pair_Pair x0 x1 x2 x3 x4 K h0) : HC PG f_slices_symMergeCmpFunc_pair_Pair [.slice x0.a x0.len x0.cap, .int .i64 x1, .int .i64 x2, .int .i64 x3, x4] [] K h0 := HC.intro (an := A_slices_symMergeCmpFunc_pair_Pair) (c := Tryz.f190.body.getD .skip) Tryz.mixed Tryz.func190 rfl Tryz.call190 (Nat.le_of_ble_eq_true rfl) (cst (by kernel_rfl) h)
def F_math_bits_RotateLeft64 (x0 : Int) (x1 : Int) (K : (Int) → Heap → Prop) (h0 : Heap) : Prop :=
 Bd (IntKind.wrap .u64 (BitVec.ofInt (IntKind.bits .u64) (IntKind.wrap .u64 x1) &&& BitVec.ofInt (IntKind.bits .u64) 63).toNat : Int) (fun n1 =>
 ((0 : Int) ≤ n1 ∧
 Bd (IntKind.wrap .u64 (x0 * 2 ^ (min (n1 : Int).toNat (IntKind.bits .u64))) : Int) (fun n2 =>
 ((0 : Int) ≤ (IntKind.wrap .u64 (64 - n1)) ∧
 Bd (Int.fdiv x0 (2 ^ (min (IntKind.wrap .u64 (64 - n1) : Int).toNat (IntKind.bits .u64))) : Int) (fun n3 =>
 Bd (IntKind.wrap .u64 (BitVec.ofInt (IntKind.bits .u64) n2 ||| BitVec.ofInt (IntKind.bits .u64) n3).toNat : Int) (fun n4 =>
 K n4 h0))))))
noncomputable def A_math_bits_RotateLeft64 : Ann := .node (.reg [0,1] (.nil)) (.node (.reg [0,5] (.nil)) (.node (.reg [4] (.nil)) (.nil)))
theorem H_math_bits_RotateLeft64 (x0 : Int) (x1 : Int) {K : Tup [.c (.int .u64)] → Heap → Prop} {h0 : Heap} (h : F_math_bits_RotateLeft64 x0 x1 K h0) : HC PG f_math_bits_RotateLeft64 [.int .u64 x0, .int .i64 x1] [.c (.int .u64)] K h0 := HC.intro (an := A_math_bits_RotateLeft64) (c := Tryz.f191.body.getD .skip) Tryz.mixed Tryz.func191 rfl Tryz.call191 (Nat.le_of_ble_eq_true rfl) (cst (by kernel_rfl) h)
def F_node_Node_Owned (x0 : Option Addr) (x1 : Option Addr) (K : (Bool) → Heap → Prop) (h0 : Heap) : Prop :=
 CondP (!(x0.isNone)) (
 HC PG f_token_Token_Live [.pointer x1] [.c .bool] (fun (e1 : Bool) h2 =>
 CondP e1 (
 ∃ a3, x0 = some a3 ∧
 ∃ v4, cAt h2 a3 5 (.pointer v4) ∧
 (True ∧ (∀ x y : Addr, v4 = some x → x1 = some y → plainPtr h2 x ∧ plainPtr h2 y) ∧
 K (v4 == x1) h2)) (
 K false h2)) h0) (
 K false h0)
noncomputable def A_node_Node_Owned : Ann := .node (.reg [0,1] (.nil)) (.node (.reg [4] (.nil)) (.nil))
theorem H_node_Node_Owned (x0 : Option Addr) (x1 : Option Addr) {K : Tup [.c .bool] → Heap → Prop} {h0 : Heap} (h : F_node_Node_Owned x0 x1 K h0) : HC PG f_node_Node_Owned [.pointer x0, .pointer x1] [.c .bool] K h0 := HC.intro (an := A_node_Node_Owned) (c := Tryz.f192.body.getD .skip) Tryz.mixed Tryz.func192 rfl Tryz.call192 (Nat.le_of_ble_eq_true rfl) (cst (by kernel_rfl) h)
def F_slices_Clone_A_P_node_Node_P_node_Node (x0 : SliceV) (K : (SliceV) → Heap → Prop) (h0 : Heap) : Prop :=
 CondP x0.a.isNone (
 K ⟨none, 0, 0⟩ h0) (
 At (hnew h0 [] t_P_node_Node) (fun h1 =>
 ∃ xs2, SRow h1 x0.a (x0.len * 1) xs2 ∧
 AppP (some [.pointer none]) 1 8 t_P_node_Node (some (newA h0)) 0 0 x0.len xs2 h1 (fun s3 h4 =>
 K s3 h4)))
noncomputable def A_slices_Clone_A_P_node_Node_P_node_Node : Ann := .node (.reg [0] (.nil)) (.node (.node (.reg [0,4] (.nil)) (.node (.node (.reg [2] (.nil)) (.nil)) (.nil))) (.node (.reg [2] (.nil)) (.nil)))
theorem H_slices_Clone_A_P_node_Node_P_node_Node (x0 : SliceV) {K : Tup [.c .slice] → Heap → Prop} {h0 : Heap} (h : F_slices_Clone_A_P_node_Node_P_node_Node x0 K h0) : HC PG f_slices_Clone_A_P_node_Node_P_node_Node [.slice x0.a x0.len x0.cap] [.c .slice] K h0 := HC.intro (an := A_slices_Clone_A_P_node_Node_P_node_Node) (c := Tryz.f193.body.getD .skip) Tryz.mixed Tryz.func193 rfl Tryz.call193 (Nat.le_of_ble_eq_true rfl) (cst (by kernel_rfl) h)
def F_slices_Concat_A_pair_Pair_pair_Pair (x0 : SliceV) (K : (SliceV) → Heap → Prop) (h0 : Heap) : Prop :=
 LoopP (fun I1 (t2 : Int × Int) h3 =>
 CondP (decide (t2.2 < (x0.len : Int))) (
 Join (fun (t7 : Int) h8 =>
 I1 (t7, IntKind.wrap .i64 (t2.2 + 1)) h8) (fun J4 =>
 (iBd t2.2 x0.len ∧ ∃ a5, x0.a = some a5 ∧
 ∃ v6 : SliceV, cAt h3 a5 (t2.2.toNat * 1) (.slice v6.a v6.len v6.cap) ∧
 CondP (decide ((IntKind.wrap .i64 (t2.1 + (v6.len : Int))) < (0 : Int))) (
 False) (
 J4 (IntKind.wrap .i64 (t2.1 + (v6.len : Int))) h3)))) (
 HC PG f_slices_Grow_A_pair_Pair_pair_Pair [.slice none 0 0, .int .i64 t2.1] [.c .slice] (fun (e9 : SliceV) h10 =>
 LoopP (fun I11 (t12 : SliceV × Int) h13 =>
 CondP (decide (t12.2 < (x0.len : Int))) (
 Join (fun (t20 : SliceV) h21 =>
 I11 (t20, IntKind.wrap .i64 (t12.2 + 1)) h21) (fun J14 =>
 (iBd t12.2 x0.len ∧ ∃ a15, x0.a = some a15 ∧
 ∃ v16 : SliceV, cAt h13 a15 (t12.2.toNat * 1) (.slice v16.a v16.len v16.cap) ∧
 ∃ xs17, SRow h13 v16.a (v16.len * 2) xs17 ∧
 AppP (some [.string (⟨#[]⟩ : ByteArray), .string (⟨#[]⟩ : ByteArray)]) 2 32 t_pair_Pair t12.1.a t12.1.len t12.1.cap v16.len xs17 h13 (fun s18 h19 =>
 J14 s18 h19)))) (
 K t12.1 h13)) (e9, 0) h10) h3)) (0, 0) h0
noncomputable def A_slices_Concat_A_pair_Pair_pair_Pair : Ann := .node (.reg [0] (.nil)) (.node (.reg [0,3] (.nil)) (.node (.node (.reg [0,3,9,10,11] (.nil)) (.loop [0,9,10] [(3,.c (.int .i64)),(11,.c (.int .i64))] (.node (.reg [0,3,9,10,11,12] (.nil)) (.node (.nil) (.join [0,9,10,11] [(3,.c (.int .i64))] (.node (.reg [0,3,5,9,10,11] (.nil)) (.node (.reg [0,3,9,10,11] (.nil)) (.node (.reg [0,3,9,10,11,20] (.nil)) (.node (.reg [] (.nil)) (.nil))))) (.reg [0,3,9,10,11] (.nil))))))) (.node (.reg [0,6] (.nil)) (.node (.node (.reg [6,25,26,27] (.nil)) (.loop [25,26] [(6,.c .slice),(27,.c (.int .i64))] (.node (.reg [6,25,26,27,28] (.nil)) (.node (.nil) (.join [25,26,27] [(6,.c .slice)] (.node (.reg [6,8,25,26,27] (.nil)) (.reg [6,25,26,27] (.nil))) (.reg [6,25,26,27] (.nil))))))) (.node (.reg [2] (.nil)) (.nil))))))
theorem H_slices_Concat_A_pair_Pair_pair_Pair (x0 : SliceV) {K : Tup [.c .slice] → Heap → Prop} {h0 : Heap} (h : F_slices_Concat_A_pair_Pair_pair_Pair x0 K h0) : HC PG f_slices_Concat_A_pair_Pair_pair_Pair [.slice x0.a x0.len x0.cap] [.c .slice] K h0 := HC.intro (an := A_slices_Concat_A_pair_Pair_pair_Pair) (c := Tryz.f194.body.getD .skip) Tryz.mixed Tryz.func194 rfl Tryz.call194 (Nat.le_of_ble_eq_true rfl) (cst (by kernel_rfl) h)
end Go.Proofs
