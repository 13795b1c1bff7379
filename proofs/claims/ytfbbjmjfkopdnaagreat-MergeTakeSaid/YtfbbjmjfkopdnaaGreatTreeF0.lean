/- A part of the proof that the named laws of this program answer true, whatever the input. -/
import Derived.Test.YtfbbjmjfkopdnaaGreatTreeF
set_option maxRecDepth 100000
set_option linter.unusedVariables false
namespace Go.Proofs
open Go.Lift
def F_l18_MergeTake (x0 : ByteArray × Bool) (x1 : ByteArray × Bool) (x2 : ByteArray × Bool) (x3 : Int) (K : (Bool) → Heap → Prop) (h0 : Heap) : Prop :=
 At (hnew h0 [.string x0.1, .bool x0.2] t_merge_Side) (fun h1 =>
 At (hnew h1 [.string x1.1, .bool x1.2] t_merge_Side) (fun h2 =>
 At (hnew h2 [.string x2.1, .bool x2.2] t_merge_Side) (fun h3 =>
 HC PG f_l18_awake [] [.c .bool] (fun (e4 : Bool) h5 =>
 CondP (!e4) (
 K false h5) (
 ∃ v6, cAt h5 (newA h0) 0 (.string v6) ∧
 ∃ v7, cAt h5 (newA h0) 1 (.bool v7) ∧
 ∃ v8, cAt h5 (newA h1) 0 (.string v8) ∧
 ∃ v9, cAt h5 (newA h1) 1 (.bool v9) ∧
 ∃ v10, cAt h5 (newA h2) 0 (.string v10) ∧
 ∃ v11, cAt h5 (newA h2) 1 (.bool v11) ∧
 HC PG f_merge_Take [.agg #[.string v6, .bool v7], .agg #[.string v8, .bool v9], .agg #[.string v10, .bool v11], .int .i64 x3] [.agg [.str, .bool], .c .bool] (fun (e12 : (ByteArray × Bool) × Bool) h13 =>
 At (hnew h13 [.string (⟨#[]⟩ : ByteArray), .bool false] t_merge_Side) (fun h14 =>
 (WrS h14 (some (newA h13)) 0 [.string e12.1.1, .bool e12.1.2] ∧
 At (hsetL h14 (newA h13) 0 [.string e12.1.1, .bool e12.1.2]) (fun h15 =>
 ∃ v16, cAt h15 (newA h0) 0 (.string v16) ∧
 ∃ v17, cAt h15 (newA h0) 1 (.bool v17) ∧
 ∃ v18, cAt h15 (newA h1) 0 (.string v18) ∧
 ∃ v19, cAt h15 (newA h1) 1 (.bool v19) ∧
 ∃ v20, cAt h15 (newA h2) 0 (.string v20) ∧
 ∃ v21, cAt h15 (newA h2) 1 (.bool v21) ∧
 HC PG f_r18_Take [.agg #[.string v16, .bool v17], .agg #[.string v18, .bool v19], .agg #[.string v20, .bool v21], .int .i64 x3] [.agg [.str, .bool], .c .bool] (fun (e22 : (ByteArray × Bool) × Bool) h23 =>
 At (hnew h23 [.string (⟨#[]⟩ : ByteArray), .bool false] t_r18_Side) (fun h24 =>
 (WrS h24 (some (newA h23)) 0 [.string e22.1.1, .bool e22.1.2] ∧
 At (hsetL h24 (newA h23) 0 [.string e22.1.1, .bool e22.1.2]) (fun h25 =>
 Join (fun (t33 : ByteArray) h34 =>
 ∃ v35, cAt h34 (newA h13) 0 (.string v35) ∧
 ∃ v36, cAt h34 (newA h13) 1 (.bool v36) ∧
 ∃ v37, cAt h34 (newA h23) 0 (.string v37) ∧
 ∃ v38, cAt h34 (newA h23) 1 (.bool v38) ∧
 CondP ((v35.toList == v37.toList) && ((v36 == v38) && true)) (
 CondP (e12.2 == e22.2) (
 HC PG f_merge_Name [.int .i64 x3] [.c .str] (fun (e39 : ByteArray) h40 =>
 CondP (e39.toList == t33.toList) (
 ∃ v41, cAt h40 (newA h0) 0 (.string v41) ∧
 ∃ v42, cAt h40 (newA h0) 1 (.bool v42) ∧
 ∃ v43, cAt h40 (newA h1) 0 (.string v43) ∧
 ∃ v44, cAt h40 (newA h1) 1 (.bool v44) ∧
 ∃ v45, cAt h40 (newA h2) 0 (.string v45) ∧
 ∃ v46, cAt h40 (newA h2) 1 (.bool v46) ∧
 At (hnew h40 [.string v41, .bool v42, .string v43, .bool v44, .string v45, .bool v46] t_merge_Side) (fun h47 =>
 ∃ v48, cAt h47 (newA h13) 0 (.string v48) ∧
 ∃ v49, cAt h47 (newA h13) 1 (.bool v49) ∧
 HC PG f_slices_Contains_A_merge_Side_merge_Side [.slice (some (newA h40)) 3 3, .agg #[.string v48, .bool v49]] [.c .bool] (fun (e50 : Bool) h51 =>
 K e50 h51) h47)) (
 K false h40)) h34) (
 K false h34)) (
 K false h34)) (fun J26 =>
 Join (fun (t28 : Bool) h29 =>
 CondP t28 (
 At (hnew h29 [.string (⟨#[102, 97, 105, 108]⟩ : ByteArray), .string (⟨#[111, 117, 114, 115]⟩ : ByteArray), .string (⟨#[116, 104, 101, 105, 114, 115]⟩ : ByteArray), .string (⟨#[107, 101, 101, 112]⟩ : ByteArray)] t_str) (fun h30 =>
 (iBd x3 4 ∧ ∃ a31, some (newA h29) = some a31 ∧
 ∃ v32, cAt h30 a31 (x3.toNat * 1) (.string v32) ∧
 J26 v32 h30))) (
 J26 (⟨#[]⟩ : ByteArray) h29)) (fun J27 =>
 CondP (decide (x3 ≥ (0 : Int))) (
 J27 (decide (x3 < (4 : Int))) h25) (
 J27 false h25))))))) h15)))) h5)) h3)))
noncomputable def A_l18_MergeTake : Ann := .node (.reg [3,4,5,6] (.nil)) (.node (.node (.reg [3,4,5,6,15] (.nil)) (.node (.node (.reg [8] (.nil)) (.nil)) (.nil))) (.node (.reg [3,4,5,6,9,10] (.nil)) (.node (.reg [3,4,5,6,9,10,11,12] (.nil)) (.node (.reg [3,4,5,6,9,10,11,12,13] (.nil)) (.join [3,4,5,6,9,10,11,12] [(13,.c .str)] (.join [3,4,5,6,9,10,11,12,13] [(37,.c .bool)] (.reg [3,4,5,6,9,10,11,12,13,37] (.nil)) (.node (.reg [3,4,5,6,9,10,11,12,13] (.nil)) (.nil))) (.node (.reg [8] (.nil)) (.nil)))))))
theorem H_l18_MergeTake (x0 : ByteArray × Bool) (x1 : ByteArray × Bool) (x2 : ByteArray × Bool) (x3 : Int) {K : Tup [.c .bool] → Heap → Prop} {h0 : Heap} (h : F_l18_MergeTake x0 x1 x2 x3 K h0) : HC PG f_l18_MergeTake [.agg #[.string x0.1, .bool x0.2], .agg #[.string x1.1, .bool x1.2], .agg #[.string x2.1, .bool x2.2], .int .i64 x3] [.c .bool] K h0 := HC.intro (an := A_l18_MergeTake) (c := Tryz.f4.body.getD .skip) Tryz.mixed Tryz.func4 rfl Tryz.call4 (Nat.le_of_ble_eq_true rfl) (cst (by kernel_rfl) h)
def F_diff_Of (x0 : T6) (x1 : T6) (K : (SliceV × Int) → Heap → Prop) (h0 : Heap) : Prop :=
 At (hnew h0 [.int .i64 x0.1, .int .u64 x0.2.1, .int .u64 x0.2.2.1, .int .u64 x0.2.2.2.1, .pointer x0.2.2.2.2.1, .pointer x0.2.2.2.2.2] t_tree_Tree) (fun h1 =>
 At (hnew h1 [.int .i64 x1.1, .int .u64 x1.2.1, .int .u64 x1.2.2.1, .int .u64 x1.2.2.2.1, .pointer x1.2.2.2.2.1, .pointer x1.2.2.2.2.2] t_tree_Tree) (fun h2 =>
 ∃ v3, cAt h2 (newA h0) 0 (.int .i64 v3) ∧
 ∃ v4, cAt h2 (newA h0) 1 (.int .u64 v4) ∧
 ∃ v5, cAt h2 (newA h0) 2 (.int .u64 v5) ∧
 ∃ v6, cAt h2 (newA h0) 3 (.int .u64 v6) ∧
 ∃ v7, cAt h2 (newA h0) 4 (.pointer v7) ∧
 ∃ v8, cAt h2 (newA h0) 5 (.pointer v8) ∧
 ∃ v9, cAt h2 (newA h1) 0 (.int .i64 v9) ∧
 ∃ v10, cAt h2 (newA h1) 1 (.int .u64 v10) ∧
 ∃ v11, cAt h2 (newA h1) 2 (.int .u64 v11) ∧
 ∃ v12, cAt h2 (newA h1) 3 (.int .u64 v12) ∧
 ∃ v13, cAt h2 (newA h1) 4 (.pointer v13) ∧
 ∃ v14, cAt h2 (newA h1) 5 (.pointer v14) ∧
 HC PG f_tree_Like [.agg #[.int .i64 v3, .int .u64 v4, .int .u64 v5, .int .u64 v6, .pointer v7, .pointer v8], .agg #[.int .i64 v9, .int .u64 v10, .int .u64 v11, .int .u64 v12, .pointer v13, .pointer v14]] [.c .bool] (fun (e15 : Bool) h16 =>
 CondP (!e15) (
 K (⟨none, 0, 0⟩, 11) h16) (
 ∃ v17, cAt h16 (newA h0) 0 (.int .i64 v17) ∧
 ∃ v18, cAt h16 (newA h0) 1 (.int .u64 v18) ∧
 ∃ v19, cAt h16 (newA h0) 2 (.int .u64 v19) ∧
 ∃ v20, cAt h16 (newA h0) 3 (.int .u64 v20) ∧
 ∃ v21, cAt h16 (newA h0) 4 (.pointer v21) ∧
 ∃ v22, cAt h16 (newA h0) 5 (.pointer v22) ∧
 HC PG f_tree_Tree_Hasher [.agg #[.int .i64 v17, .int .u64 v18, .int .u64 v19, .int .u64 v20, .pointer v21, .pointer v22]] [.agg [.int .u64, .int .u64, .int .u64]] (fun (e23 : Int × Int × Int) h24 =>
 At (hnew h24 [.int .u64 e23.1, .int .u64 e23.2.1, .int .u64 e23.2.2, .slice none 0 0] t_diff_set) (fun h25 =>
 Join (fun (t71 : Unit) h72 =>
 ∃ a73, some (newA h24) = some a73 ∧
 ∃ v74 : SliceV, cAt h72 a73 3 (.slice v74.a v74.len v74.cap) ∧
 HC PG f_slices_SortFunc_A_diff_Change_diff_Change [.slice v74.a v74.len v74.cap, .func (.func f_diff_Of_1) #[] #[]] [] (fun (e75 : Unit) h76 =>
 ∃ a77, some (newA h24) = some a77 ∧
 ∃ v78 : SliceV, cAt h76 a77 3 (.slice v78.a v78.len v78.cap) ∧
 K (v78, 0) h76) h72) (fun J26 =>
 ∃ v27, cAt h25 (newA h0) 0 (.int .i64 v27) ∧
 ∃ v28, cAt h25 (newA h0) 1 (.int .u64 v28) ∧
 ∃ v29, cAt h25 (newA h0) 2 (.int .u64 v29) ∧
 ∃ v30, cAt h25 (newA h0) 3 (.int .u64 v30) ∧
 ∃ v31, cAt h25 (newA h0) 4 (.pointer v31) ∧
 ∃ v32, cAt h25 (newA h0) 5 (.pointer v32) ∧
 HC PG f_tree_Tree_Kind [.agg #[.int .i64 v27, .int .u64 v28, .int .u64 v29, .int .u64 v30, .pointer v31, .pointer v32]] [.c (.int .i64)] (fun (e33 : Int) h34 =>
 CondP (e33 == (1 : Int)) (
 ∃ v35, cAt h34 (newA h0) 0 (.int .i64 v35) ∧
 ∃ v36, cAt h34 (newA h0) 1 (.int .u64 v36) ∧
 ∃ v37, cAt h34 (newA h0) 2 (.int .u64 v37) ∧
 ∃ v38, cAt h34 (newA h0) 3 (.int .u64 v38) ∧
 ∃ v39, cAt h34 (newA h0) 4 (.pointer v39) ∧
 ∃ v40, cAt h34 (newA h0) 5 (.pointer v40) ∧
 ∃ v41, cAt h34 (newA h1) 0 (.int .i64 v41) ∧
 ∃ v42, cAt h34 (newA h1) 1 (.int .u64 v42) ∧
 ∃ v43, cAt h34 (newA h1) 2 (.int .u64 v43) ∧
 ∃ v44, cAt h34 (newA h1) 3 (.int .u64 v44) ∧
 ∃ v45, cAt h34 (newA h1) 4 (.pointer v45) ∧
 ∃ v46, cAt h34 (newA h1) 5 (.pointer v46) ∧
 HC PG f_tree_Tree_Radix [.agg #[.int .i64 v35, .int .u64 v36, .int .u64 v37, .int .u64 v38, .pointer v39, .pointer v40]] [.c .ptr] (fun (e47 : Option Addr) h48 =>
 ((cAt h48 (newA h1) 0 (.int .i64 v41) ∧ cAt h48 (newA h1) 1 (.int .u64 v42) ∧ cAt h48 (newA h1) 2 (.int .u64 v43) ∧ cAt h48 (newA h1) 3 (.int .u64 v44) ∧ cAt h48 (newA h1) 4 (.pointer v45) ∧ cAt h48 (newA h1) 5 (.pointer v46)) ∧
 HC PG f_tree_Tree_Radix [.agg #[.int .i64 v41, .int .u64 v42, .int .u64 v43, .int .u64 v44, .pointer v45, .pointer v46]] [.c .ptr] (fun (e49 : Option Addr) h50 =>
 HC PG f_diff_set_trees [.pointer (some (newA h24)), .pointer e47, .pointer e49, .string (⟨#[]⟩ : ByteArray)] [] (fun (e51 : Unit) h52 =>
 J26 () h52) h50) h48)) h34) (
 ∃ v53, cAt h34 (newA h0) 0 (.int .i64 v53) ∧
 ∃ v54, cAt h34 (newA h0) 1 (.int .u64 v54) ∧
 ∃ v55, cAt h34 (newA h0) 2 (.int .u64 v55) ∧
 ∃ v56, cAt h34 (newA h0) 3 (.int .u64 v56) ∧
 ∃ v57, cAt h34 (newA h0) 4 (.pointer v57) ∧
 ∃ v58, cAt h34 (newA h0) 5 (.pointer v58) ∧
 ∃ v59, cAt h34 (newA h1) 0 (.int .i64 v59) ∧
 ∃ v60, cAt h34 (newA h1) 1 (.int .u64 v60) ∧
 ∃ v61, cAt h34 (newA h1) 2 (.int .u64 v61) ∧
 ∃ v62, cAt h34 (newA h1) 3 (.int .u64 v62) ∧
 ∃ v63, cAt h34 (newA h1) 4 (.pointer v63) ∧
 ∃ v64, cAt h34 (newA h1) 5 (.pointer v64) ∧
 HC PG f_tree_Tree_Champ [.agg #[.int .i64 v53, .int .u64 v54, .int .u64 v55, .int .u64 v56, .pointer v57, .pointer v58]] [.c .ptr] (fun (e65 : Option Addr) h66 =>
 ((cAt h66 (newA h1) 0 (.int .i64 v59) ∧ cAt h66 (newA h1) 1 (.int .u64 v60) ∧ cAt h66 (newA h1) 2 (.int .u64 v61) ∧ cAt h66 (newA h1) 3 (.int .u64 v62) ∧ cAt h66 (newA h1) 4 (.pointer v63) ∧ cAt h66 (newA h1) 5 (.pointer v64)) ∧
 HC PG f_tree_Tree_Champ [.agg #[.int .i64 v59, .int .u64 v60, .int .u64 v61, .int .u64 v62, .pointer v63, .pointer v64]] [.c .ptr] (fun (e67 : Option Addr) h68 =>
 HC PG f_diff_set_tries [.pointer (some (newA h24)), .pointer e65, .pointer e67] [] (fun (e69 : Unit) h70 =>
 J26 () h70) h68) h66)) h34)) h25))) h16)) h2))
noncomputable def A_diff_Of : Ann := .node (.reg [2,3] (.nil)) (.node (.node (.reg [2,3,10] (.nil)) (.node (.node (.reg [4,5] (.nil)) (.nil)) (.nil))) (.node (.reg [2,3,6] (.nil)) (.join [6] [] (.node (.reg [2,3,6,17] (.nil)) (.node (.reg [6] (.draw (dl 6 [dm [] [6] 19,dm [] [2] 20,dm [1] [19] 21,dm [] [3] 22,dn [2,3] [3] [21] 23,dm [0,2,4] [18,20,22] 24]) (tk [0,1,3] (.all (.last 2 (.all (.last 4 (.all (.last 5 (.done)))))))))) (.reg [6] (.draw (dl 6 [dm [] [6] 25,dm [] [2] 26,dm [1] [25] 27,dm [] [3] 28,dn [2,3] [3] [27] 29,dm [0,2,4] [24,26,28] 30]) (tk [0,1,3] (.all (.last 2 (.all (.last 4 (.all (.last 5 (.done)))))))))))) (.node (.reg [6] (.nil)) (.node (.reg [4,5] (.nil)) (.nil))))))
theorem H_diff_Of (x0 : T6) (x1 : T6) {K : Tup [.c .slice, .c (.int .i64)] → Heap → Prop} {h0 : Heap} (h : F_diff_Of x0 x1 K h0) : HC PG f_diff_Of [.agg #[.int .i64 x0.1, .int .u64 x0.2.1, .int .u64 x0.2.2.1, .int .u64 x0.2.2.2.1, .pointer x0.2.2.2.2.1, .pointer x0.2.2.2.2.2], .agg #[.int .i64 x1.1, .int .u64 x1.2.1, .int .u64 x1.2.2.1, .int .u64 x1.2.2.2.1, .pointer x1.2.2.2.2.1, .pointer x1.2.2.2.2.2]] [.c .slice, .c (.int .i64)] K h0 := HC.intro (an := A_diff_Of) (c := Tryz.f8.body.getD .skip) Tryz.mixed Tryz.func8 rfl Tryz.call8 (Nat.le_of_ble_eq_true rfl) (cst (by kernel_rfl) h)
def F_l18_awake  (K : (Bool) → Heap → Prop) (h0 : Heap) : Prop :=
 At (hnew h0 [.string (⟨#[97]⟩ : ByteArray), .string (⟨#[49]⟩ : ByteArray)] t_pair_Pair) (fun h1 =>
 HC PG f_build_Tree [.int .i64 0, .agg #[.int .u64 0, .int .u64 0, .int .u64 0], .slice (some (newA h0)) 1 1] [.agg [.int .i64, .int .u64, .int .u64, .int .u64, .ptr, .ptr], .c (.int .i64)] (fun (e2 : (T6) × Int) h3 =>
 At (hnew h3 [.int .i64 0, .int .u64 0, .int .u64 0, .int .u64 0, .pointer none, .pointer none] t_tree_Tree) (fun h4 =>
 (WrS h4 (some (newA h3)) 0 [.int .i64 e2.1.1, .int .u64 e2.1.2.1, .int .u64 e2.1.2.2.1, .int .u64 e2.1.2.2.2.1, .pointer e2.1.2.2.2.2.1, .pointer e2.1.2.2.2.2.2] ∧
 At (hsetL h4 (newA h3) 0 [.int .i64 e2.1.1, .int .u64 e2.1.2.1, .int .u64 e2.1.2.2.1, .int .u64 e2.1.2.2.2.1, .pointer e2.1.2.2.2.2.1, .pointer e2.1.2.2.2.2.2]) (fun h5 =>
 At (hnew h5 [.string (⟨#[97]⟩ : ByteArray), .string (⟨#[50]⟩ : ByteArray)] t_pair_Pair) (fun h6 =>
 HC PG f_build_Tree [.int .i64 0, .agg #[.int .u64 0, .int .u64 0, .int .u64 0], .slice (some (newA h5)) 1 1] [.agg [.int .i64, .int .u64, .int .u64, .int .u64, .ptr, .ptr], .c (.int .i64)] (fun (e7 : (T6) × Int) h8 =>
 At (hnew h8 [.int .i64 0, .int .u64 0, .int .u64 0, .int .u64 0, .pointer none, .pointer none] t_tree_Tree) (fun h9 =>
 (WrS h9 (some (newA h8)) 0 [.int .i64 e7.1.1, .int .u64 e7.1.2.1, .int .u64 e7.1.2.2.1, .int .u64 e7.1.2.2.2.1, .pointer e7.1.2.2.2.2.1, .pointer e7.1.2.2.2.2.2] ∧
 At (hsetL h9 (newA h8) 0 [.int .i64 e7.1.1, .int .u64 e7.1.2.1, .int .u64 e7.1.2.2.1, .int .u64 e7.1.2.2.2.1, .pointer e7.1.2.2.2.2.1, .pointer e7.1.2.2.2.2.2]) (fun h10 =>
 At (hnew h10 [.string (⟨#[97]⟩ : ByteArray), .string (⟨#[49]⟩ : ByteArray), .string (⟨#[98]⟩ : ByteArray), .string (⟨#[51]⟩ : ByteArray)] t_pair_Pair) (fun h11 =>
 HC PG f_build_Tree [.int .i64 0, .agg #[.int .u64 0, .int .u64 0, .int .u64 0], .slice (some (newA h10)) 2 2] [.agg [.int .i64, .int .u64, .int .u64, .int .u64, .ptr, .ptr], .c (.int .i64)] (fun (e12 : (T6) × Int) h13 =>
 At (hnew h13 [.int .i64 0, .int .u64 0, .int .u64 0, .int .u64 0, .pointer none, .pointer none] t_tree_Tree) (fun h14 =>
 (WrS h14 (some (newA h13)) 0 [.int .i64 e12.1.1, .int .u64 e12.1.2.1, .int .u64 e12.1.2.2.1, .int .u64 e12.1.2.2.2.1, .pointer e12.1.2.2.2.2.1, .pointer e12.1.2.2.2.2.2] ∧
 At (hsetL h14 (newA h13) 0 [.int .i64 e12.1.1, .int .u64 e12.1.2.1, .int .u64 e12.1.2.2.1, .int .u64 e12.1.2.2.2.1, .pointer e12.1.2.2.2.2.1, .pointer e12.1.2.2.2.2.2]) (fun h15 =>
 ∃ v16, cAt h15 (newA h3) 0 (.int .i64 v16) ∧
 ∃ v17, cAt h15 (newA h3) 1 (.int .u64 v17) ∧
 ∃ v18, cAt h15 (newA h3) 2 (.int .u64 v18) ∧
 ∃ v19, cAt h15 (newA h3) 3 (.int .u64 v19) ∧
 ∃ v20, cAt h15 (newA h3) 4 (.pointer v20) ∧
 ∃ v21, cAt h15 (newA h3) 5 (.pointer v21) ∧
 ∃ v22, cAt h15 (newA h8) 0 (.int .i64 v22) ∧
 ∃ v23, cAt h15 (newA h8) 1 (.int .u64 v23) ∧
 ∃ v24, cAt h15 (newA h8) 2 (.int .u64 v24) ∧
 ∃ v25, cAt h15 (newA h8) 3 (.int .u64 v25) ∧
 ∃ v26, cAt h15 (newA h8) 4 (.pointer v26) ∧
 ∃ v27, cAt h15 (newA h8) 5 (.pointer v27) ∧
 ∃ v28, cAt h15 (newA h13) 0 (.int .i64 v28) ∧
 ∃ v29, cAt h15 (newA h13) 1 (.int .u64 v29) ∧
 ∃ v30, cAt h15 (newA h13) 2 (.int .u64 v30) ∧
 ∃ v31, cAt h15 (newA h13) 3 (.int .u64 v31) ∧
 ∃ v32, cAt h15 (newA h13) 4 (.pointer v32) ∧
 ∃ v33, cAt h15 (newA h13) 5 (.pointer v33) ∧
 HC PG f_merge_Of [.agg #[.int .i64 v16, .int .u64 v17, .int .u64 v18, .int .u64 v19, .pointer v20, .pointer v21], .agg #[.int .i64 v22, .int .u64 v23, .int .u64 v24, .int .u64 v25, .pointer v26, .pointer v27], .agg #[.int .i64 v28, .int .u64 v29, .int .u64 v30, .int .u64 v31, .pointer v32, .pointer v33], .int .i64 0] [.agg [.int .i64, .int .u64, .int .u64, .int .u64, .ptr, .ptr], .c .slice, .c (.int .i64)] (fun (e34 : (T6) × SliceV × Int) h35 =>
 At (hnew h35 [.int .i64 0, .int .u64 0, .int .u64 0, .int .u64 0, .pointer none, .pointer none] t_tree_Tree) (fun h36 =>
 (WrS h36 (some (newA h35)) 0 [.int .i64 e34.1.1, .int .u64 e34.1.2.1, .int .u64 e34.1.2.2.1, .int .u64 e34.1.2.2.2.1, .pointer e34.1.2.2.2.2.1, .pointer e34.1.2.2.2.2.2] ∧
 At (hsetL h36 (newA h35) 0 [.int .i64 e34.1.1, .int .u64 e34.1.2.1, .int .u64 e34.1.2.2.1, .int .u64 e34.1.2.2.2.1, .pointer e34.1.2.2.2.2.1, .pointer e34.1.2.2.2.2.2]) (fun h37 =>
 ∃ v38, cAt h37 (newA h35) 0 (.int .i64 v38) ∧
 ∃ v39, cAt h37 (newA h35) 1 (.int .u64 v39) ∧
 ∃ v40, cAt h37 (newA h35) 2 (.int .u64 v40) ∧
 ∃ v41, cAt h37 (newA h35) 3 (.int .u64 v41) ∧
 ∃ v42, cAt h37 (newA h35) 4 (.pointer v42) ∧
 ∃ v43, cAt h37 (newA h35) 5 (.pointer v43) ∧
 HC PG f_tree_Tree_Pairs [.agg #[.int .i64 v38, .int .u64 v39, .int .u64 v40, .int .u64 v41, .pointer v42, .pointer v43]] [.c .slice] (fun (e44 : SliceV) h45 =>
 CondP (e34.2.2 == (0 : Int)) (
 CondP ((e34.2.1.len : Int) == (0 : Int)) (
 CondP ((e44.len : Int) == (2 : Int)) (
 (iBd 0 e44.len ∧ ∃ a46, e44.a = some a46 ∧
 ∃ v47, cAt h45 (adr a46 ((0 : Int).toNat * 2)) 1 (.string v47) ∧
 CondP (v47.toList == (⟨#[50]⟩ : ByteArray).toList) (
 (iBd 1 e44.len ∧ ∃ a48, e44.a = some a48 ∧
 ∃ v49, cAt h45 (adr a48 ((1 : Int).toNat * 2)) 1 (.string v49) ∧
 K (v49.toList == (⟨#[51]⟩ : ByteArray).toList) h45)) (
 K false h45))) (
 K false h45)) (
 K false h45)) (
 K false h45)) h37)))) h15)))) h11))))) h6))))) h1)
noncomputable def A_l18_awake : Ann := .node (.reg [] (.nil)) (.node (.reg [1] (.nil)) (.node (.reg [1,3] (.nil)) (.node (.reg [1,3,5] (.nil)) (.node (.reg [7,8,9] (.nil)) (.node (.reg [8,9,10] (.nil)) (.node (.reg [0] (.nil)) (.nil)))))))
theorem H_l18_awake  {K : Tup [.c .bool] → Heap → Prop} {h0 : Heap} (h : F_l18_awake  K h0) : HC PG f_l18_awake [] [.c .bool] K h0 := HC.intro (an := A_l18_awake) (c := Tryz.f15.body.getD .skip) Tryz.mixed Tryz.func15 rfl Tryz.call15 (Nat.le_of_ble_eq_true rfl) (cst (by kernel_rfl) h)
def F_merge_Take (x0 : ByteArray × Bool) (x1 : ByteArray × Bool) (x2 : ByteArray × Bool) (x3 : Int) (K : ((ByteArray × Bool) × Bool) → Heap → Prop) (h0 : Heap) : Prop :=
 At (hnew h0 [.string x0.1, .bool x0.2] t_merge_Side) (fun h1 =>
 At (hnew h1 [.string x1.1, .bool x1.2] t_merge_Side) (fun h2 =>
 At (hnew h2 [.string x2.1, .bool x2.2] t_merge_Side) (fun h3 =>
 At (hnew h3 [.string (⟨#[]⟩ : ByteArray), .bool false] t_merge_Side) (fun h4 =>
 Join (fun (t14 : Bool) h15 =>
 CondP t14 (
 ∃ v16, cAt h15 (newA h1) 0 (.string v16) ∧
 ∃ v17, cAt h15 (newA h1) 1 (.bool v17) ∧
 (WrS h15 (some (newA h3)) 0 [.string v16, .bool v17] ∧
 At (hsetL h15 (newA h3) 0 [.string v16, .bool v17]) (fun h18 =>
 ∃ v19, cAt h18 (newA h3) 0 (.string v19) ∧
 ∃ v20, cAt h18 (newA h3) 1 (.bool v20) ∧
 K ((v19, v20), true) h18))) (
 ∃ v21, cAt h15 (newA h1) 0 (.string v21) ∧
 ∃ v22, cAt h15 (newA h1) 1 (.bool v22) ∧
 ∃ v23, cAt h15 (newA h0) 0 (.string v23) ∧
 ∃ v24, cAt h15 (newA h0) 1 (.bool v24) ∧
 CondP ((v21.toList == v23.toList) && ((v22 == v24) && true)) (
 ∃ v25, cAt h15 (newA h2) 0 (.string v25) ∧
 ∃ v26, cAt h15 (newA h2) 1 (.bool v26) ∧
 (WrS h15 (some (newA h3)) 0 [.string v25, .bool v26] ∧
 At (hsetL h15 (newA h3) 0 [.string v25, .bool v26]) (fun h27 =>
 ∃ v28, cAt h27 (newA h3) 0 (.string v28) ∧
 ∃ v29, cAt h27 (newA h3) 1 (.bool v29) ∧
 K ((v28, v29), true) h27))) (
 CondP (x3 == (1 : Int)) (
 ∃ v30, cAt h15 (newA h1) 0 (.string v30) ∧
 ∃ v31, cAt h15 (newA h1) 1 (.bool v31) ∧
 (WrS h15 (some (newA h3)) 0 [.string v30, .bool v31] ∧
 At (hsetL h15 (newA h3) 0 [.string v30, .bool v31]) (fun h32 =>
 ∃ v33, cAt h32 (newA h3) 0 (.string v33) ∧
 ∃ v34, cAt h32 (newA h3) 1 (.bool v34) ∧
 K ((v33, v34), false) h32))) (
 CondP (x3 == (2 : Int)) (
 ∃ v35, cAt h15 (newA h2) 0 (.string v35) ∧
 ∃ v36, cAt h15 (newA h2) 1 (.bool v36) ∧
 (WrS h15 (some (newA h3)) 0 [.string v35, .bool v36] ∧
 At (hsetL h15 (newA h3) 0 [.string v35, .bool v36]) (fun h37 =>
 ∃ v38, cAt h37 (newA h3) 0 (.string v38) ∧
 ∃ v39, cAt h37 (newA h3) 1 (.bool v39) ∧
 K ((v38, v39), false) h37))) (
 ∃ v40, cAt h15 (newA h0) 0 (.string v40) ∧
 ∃ v41, cAt h15 (newA h0) 1 (.bool v41) ∧
 (WrS h15 (some (newA h3)) 0 [.string v40, .bool v41] ∧
 At (hsetL h15 (newA h3) 0 [.string v40, .bool v41]) (fun h42 =>
 ∃ v43, cAt h42 (newA h3) 0 (.string v43) ∧
 ∃ v44, cAt h42 (newA h3) 1 (.bool v44) ∧
 K ((v43, v44), false) h42))))))) (fun J5 =>
 ∃ v6, cAt h4 (newA h1) 0 (.string v6) ∧
 ∃ v7, cAt h4 (newA h1) 1 (.bool v7) ∧
 ∃ v8, cAt h4 (newA h2) 0 (.string v8) ∧
 ∃ v9, cAt h4 (newA h2) 1 (.bool v9) ∧
 CondP ((v6.toList == v8.toList) && ((v7 == v9) && true)) (
 J5 ((v6.toList == v8.toList) && ((v7 == v9) && true)) h4) (
 ∃ v10, cAt h4 (newA h2) 0 (.string v10) ∧
 ∃ v11, cAt h4 (newA h2) 1 (.bool v11) ∧
 ∃ v12, cAt h4 (newA h0) 0 (.string v12) ∧
 ∃ v13, cAt h4 (newA h0) 1 (.bool v13) ∧
 J5 ((v10.toList == v12.toList) && ((v11 == v13) && true)) h4))))))
noncomputable def A_merge_Take : Ann := .node (.reg [3,4,5,6,8] (.nil)) (.node (.join [3,4,5,6,8] [(10,.c .bool)] (.node (.reg [3,4,5,6,8,10] (.nil)) (.node (.nil) (.reg [3,4,5,6,8,10] (.nil)))) (.node (.node (.reg [8,9] (.nil)) (.nil)) (.node (.reg [3,4,5,6,8,18] (.nil)) (.node (.node (.reg [8,9] (.nil)) (.nil)) (.nil))))) (.node (.node (.reg [4,5,6,8,23] (.nil)) (.node (.reg [4,5,6,8,23,24] (.nil)) (.node (.node (.reg [8,9] (.nil)) (.nil)) (.node (.reg [4,6,8,27] (.nil)) (.node (.node (.reg [8,9] (.nil)) (.nil)) (.nil)))))) (.node (.reg [8,9] (.nil)) (.nil))))
theorem H_merge_Take (x0 : ByteArray × Bool) (x1 : ByteArray × Bool) (x2 : ByteArray × Bool) (x3 : Int) {K : Tup [.agg [.str, .bool], .c .bool] → Heap → Prop} {h0 : Heap} (h : F_merge_Take x0 x1 x2 x3 K h0) : HC PG f_merge_Take [.agg #[.string x0.1, .bool x0.2], .agg #[.string x1.1, .bool x1.2], .agg #[.string x2.1, .bool x2.2], .int .i64 x3] [.agg [.str, .bool], .c .bool] K h0 := HC.intro (an := A_merge_Take) (c := Tryz.f16.body.getD .skip) Tryz.mixed Tryz.func16 rfl Tryz.call16 (Nat.le_of_ble_eq_true rfl) (cst (by kernel_rfl) h)
def F_r18_Take (x0 : ByteArray × Bool) (x1 : ByteArray × Bool) (x2 : ByteArray × Bool) (x3 : Int) (K : ((ByteArray × Bool) × Bool) → Heap → Prop) (h0 : Heap) : Prop :=
 At (hnew h0 [.string x0.1, .bool x0.2] t_r18_Side) (fun h1 =>
 At (hnew h1 [.string x1.1, .bool x1.2] t_r18_Side) (fun h2 =>
 At (hnew h2 [.string x2.1, .bool x2.2] t_r18_Side) (fun h3 =>
 At (hnew h3 [.string (⟨#[]⟩ : ByteArray), .bool false] t_r18_Side) (fun h4 =>
 ∃ v5, cAt h4 (newA h1) 0 (.string v5) ∧
 ∃ v6, cAt h4 (newA h1) 1 (.bool v6) ∧
 ∃ v7, cAt h4 (newA h2) 0 (.string v7) ∧
 ∃ v8, cAt h4 (newA h2) 1 (.bool v8) ∧
 CondP ((v5.toList == v7.toList) && ((v6 == v8) && true)) (
 ∃ v9, cAt h4 (newA h1) 0 (.string v9) ∧
 ∃ v10, cAt h4 (newA h1) 1 (.bool v10) ∧
 (WrS h4 (some (newA h3)) 0 [.string v9, .bool v10] ∧
 At (hsetL h4 (newA h3) 0 [.string v9, .bool v10]) (fun h11 =>
 ∃ v12, cAt h11 (newA h3) 0 (.string v12) ∧
 ∃ v13, cAt h11 (newA h3) 1 (.bool v13) ∧
 K ((v12, v13), true) h11))) (
 ∃ v14, cAt h4 (newA h1) 0 (.string v14) ∧
 ∃ v15, cAt h4 (newA h1) 1 (.bool v15) ∧
 ∃ v16, cAt h4 (newA h0) 0 (.string v16) ∧
 ∃ v17, cAt h4 (newA h0) 1 (.bool v17) ∧
 CondP ((v14.toList == v16.toList) && ((v15 == v17) && true)) (
 ∃ v18, cAt h4 (newA h2) 0 (.string v18) ∧
 ∃ v19, cAt h4 (newA h2) 1 (.bool v19) ∧
 (WrS h4 (some (newA h3)) 0 [.string v18, .bool v19] ∧
 At (hsetL h4 (newA h3) 0 [.string v18, .bool v19]) (fun h20 =>
 ∃ v21, cAt h20 (newA h3) 0 (.string v21) ∧
 ∃ v22, cAt h20 (newA h3) 1 (.bool v22) ∧
 K ((v21, v22), true) h20))) (
 ∃ v23, cAt h4 (newA h2) 0 (.string v23) ∧
 ∃ v24, cAt h4 (newA h2) 1 (.bool v24) ∧
 ∃ v25, cAt h4 (newA h0) 0 (.string v25) ∧
 ∃ v26, cAt h4 (newA h0) 1 (.bool v26) ∧
 CondP ((v23.toList == v25.toList) && ((v24 == v26) && true)) (
 ∃ v27, cAt h4 (newA h1) 0 (.string v27) ∧
 ∃ v28, cAt h4 (newA h1) 1 (.bool v28) ∧
 (WrS h4 (some (newA h3)) 0 [.string v27, .bool v28] ∧
 At (hsetL h4 (newA h3) 0 [.string v27, .bool v28]) (fun h29 =>
 ∃ v30, cAt h29 (newA h3) 0 (.string v30) ∧
 ∃ v31, cAt h29 (newA h3) 1 (.bool v31) ∧
 K ((v30, v31), true) h29))) (
 CondP (x3 == (1 : Int)) (
 ∃ v32, cAt h4 (newA h1) 0 (.string v32) ∧
 ∃ v33, cAt h4 (newA h1) 1 (.bool v33) ∧
 (WrS h4 (some (newA h3)) 0 [.string v32, .bool v33] ∧
 At (hsetL h4 (newA h3) 0 [.string v32, .bool v33]) (fun h34 =>
 ∃ v35, cAt h34 (newA h3) 0 (.string v35) ∧
 ∃ v36, cAt h34 (newA h3) 1 (.bool v36) ∧
 K ((v35, v36), false) h34))) (
 CondP (x3 == (2 : Int)) (
 ∃ v37, cAt h4 (newA h2) 0 (.string v37) ∧
 ∃ v38, cAt h4 (newA h2) 1 (.bool v38) ∧
 (WrS h4 (some (newA h3)) 0 [.string v37, .bool v38] ∧
 At (hsetL h4 (newA h3) 0 [.string v37, .bool v38]) (fun h39 =>
 ∃ v40, cAt h39 (newA h3) 0 (.string v40) ∧
 ∃ v41, cAt h39 (newA h3) 1 (.bool v41) ∧
 K ((v40, v41), false) h39))) (
 ∃ v42, cAt h4 (newA h0) 0 (.string v42) ∧
 ∃ v43, cAt h4 (newA h0) 1 (.bool v43) ∧
 (WrS h4 (some (newA h3)) 0 [.string v42, .bool v43] ∧
 At (hsetL h4 (newA h3) 0 [.string v42, .bool v43]) (fun h44 =>
 ∃ v45, cAt h44 (newA h3) 0 (.string v45) ∧
 ∃ v46, cAt h44 (newA h3) 1 (.bool v46) ∧
 K ((v45, v46), false) h44)))))))))))
noncomputable def A_r18_Take : Ann := .node (.reg [3,4,5,6,8] (.nil)) (.node (.node (.reg [3,4,5,6,8,12] (.nil)) (.node (.node (.reg [8,9] (.nil)) (.nil)) (.nil))) (.node (.node (.reg [3,4,5,6,8,16] (.nil)) (.node (.node (.reg [8,9] (.nil)) (.nil)) (.nil))) (.node (.node (.reg [3,4,5,6,8,20] (.nil)) (.node (.node (.reg [8,9] (.nil)) (.nil)) (.nil))) (.node (.node (.reg [3,4,5,6,8,23] (.nil)) (.node (.node (.reg [8,9] (.nil)) (.nil)) (.nil))) (.node (.node (.reg [4,6,8,26] (.nil)) (.node (.node (.reg [8,9] (.nil)) (.nil)) (.nil))) (.node (.reg [8,9] (.nil)) (.nil)))))))
theorem H_r18_Take (x0 : ByteArray × Bool) (x1 : ByteArray × Bool) (x2 : ByteArray × Bool) (x3 : Int) {K : Tup [.agg [.str, .bool], .c .bool] → Heap → Prop} {h0 : Heap} (h : F_r18_Take x0 x1 x2 x3 K h0) : HC PG f_r18_Take [.agg #[.string x0.1, .bool x0.2], .agg #[.string x1.1, .bool x1.2], .agg #[.string x2.1, .bool x2.2], .int .i64 x3] [.agg [.str, .bool], .c .bool] K h0 := HC.intro (an := A_r18_Take) (c := Tryz.f17.body.getD .skip) Tryz.mixed Tryz.func17 rfl Tryz.call17 (Nat.le_of_ble_eq_true rfl) (cst (by kernel_rfl) h)
def F_merge_Name (x0 : Int) (K : (ByteArray) → Heap → Prop) (h0 : Heap) : Prop :=
 CondP (x0 == (0 : Int)) (
 K (⟨#[102, 97, 105, 108]⟩ : ByteArray) h0) (
 CondP (x0 == (1 : Int)) (
 K (⟨#[111, 117, 114, 115]⟩ : ByteArray) h0) (
 CondP (x0 == (2 : Int)) (
 K (⟨#[116, 104, 101, 105, 114, 115]⟩ : ByteArray) h0) (
 CondP (x0 == (3 : Int)) (
 K (⟨#[107, 101, 101, 112]⟩ : ByteArray) h0) (
 K (⟨#[]⟩ : ByteArray) h0))))
noncomputable def A_merge_Name : Ann := .node (.reg [0] (.nil)) (.node (.node (.reg [3] (.nil)) (.node (.reg [3,4] (.nil)) (.node (.node (.reg [2] (.nil)) (.nil)) (.node (.reg [3,6] (.nil)) (.node (.node (.reg [2] (.nil)) (.nil)) (.node (.reg [3,8] (.nil)) (.node (.node (.reg [2] (.nil)) (.nil)) (.node (.reg [10] (.nil)) (.node (.node (.reg [2] (.nil)) (.nil)) (.nil)))))))))) (.node (.reg [2] (.nil)) (.nil)))
theorem H_merge_Name (x0 : Int) {K : Tup [.c .str] → Heap → Prop} {h0 : Heap} (h : F_merge_Name x0 K h0) : HC PG f_merge_Name [.int .i64 x0] [.c .str] K h0 := HC.intro (an := A_merge_Name) (c := Tryz.f18.body.getD .skip) Tryz.mixed Tryz.func18 rfl Tryz.call18 (Nat.le_of_ble_eq_true rfl) (cst (by kernel_rfl) h)
def F_slices_Contains_A_merge_Side_merge_Side (x0 : SliceV) (x1 : ByteArray × Bool) (K : (Bool) → Heap → Prop) (h0 : Heap) : Prop :=
 At (hnew h0 [.string x1.1, .bool x1.2] t_merge_Side) (fun h1 =>
 ∃ v2, cAt h1 (newA h0) 0 (.string v2) ∧
 ∃ v3, cAt h1 (newA h0) 1 (.bool v3) ∧
 HC PG f_slices_Index_A_merge_Side_merge_Side [.slice x0.a x0.len x0.cap, .agg #[.string v2, .bool v3]] [.c (.int .i64)] (fun (e4 : Int) h5 =>
 K (decide (e4 ≥ (0 : Int))) h5) h1)
noncomputable def A_slices_Contains_A_merge_Side_merge_Side : Ann := .node (.reg [0,3] (.nil)) (.node (.reg [4] (.nil)) (.nil))
theorem H_slices_Contains_A_merge_Side_merge_Side (x0 : SliceV) (x1 : ByteArray × Bool) {K : Tup [.c .bool] → Heap → Prop} {h0 : Heap} (h : F_slices_Contains_A_merge_Side_merge_Side x0 x1 K h0) : HC PG f_slices_Contains_A_merge_Side_merge_Side [.slice x0.a x0.len x0.cap, .agg #[.string x1.1, .bool x1.2]] [.c .bool] K h0 := HC.intro (an := A_slices_Contains_A_merge_Side_merge_Side) (c := Tryz.f19.body.getD .skip) Tryz.mixed Tryz.func19 rfl Tryz.call19 (Nat.le_of_ble_eq_true rfl) (cst (by kernel_rfl) h)
def F_build_Tree (x0 : Int) (x1 : Int × Int × Int) (x2 : SliceV) (K : ((T6) × Int) → Heap → Prop) (h0 : Heap) : Prop :=
 At (hnew h0 [.int .u64 x1.1, .int .u64 x1.2.1, .int .u64 x1.2.2] t_sip_Hasher) (fun h1 =>
 At (hnew h1 [.int .i64 0, .int .u64 0, .int .u64 0, .int .u64 0, .pointer none, .pointer none] t_tree_Tree) (fun h2 =>
 ∃ v3, cAt h2 (newA h0) 0 (.int .u64 v3) ∧
 ∃ v4, cAt h2 (newA h0) 1 (.int .u64 v4) ∧
 ∃ v5, cAt h2 (newA h0) 2 (.int .u64 v5) ∧
 HC PG f_tree_New [.int .i64 x0, .agg #[.int .u64 v3, .int .u64 v4, .int .u64 v5]] [.agg [.int .i64, .int .u64, .int .u64, .int .u64, .ptr, .ptr], .c (.int .i64)] (fun (e6 : (T6) × Int) h7 =>
 At (hnew h7 [.int .i64 0, .int .u64 0, .int .u64 0, .int .u64 0, .pointer none, .pointer none] t_tree_Tree) (fun h8 =>
 (WrS h8 (some (newA h7)) 0 [.int .i64 e6.1.1, .int .u64 e6.1.2.1, .int .u64 e6.1.2.2.1, .int .u64 e6.1.2.2.2.1, .pointer e6.1.2.2.2.2.1, .pointer e6.1.2.2.2.2.2] ∧
 At (hsetL h8 (newA h7) 0 [.int .i64 e6.1.1, .int .u64 e6.1.2.1, .int .u64 e6.1.2.2.1, .int .u64 e6.1.2.2.2.1, .pointer e6.1.2.2.2.2.1, .pointer e6.1.2.2.2.2.2]) (fun h9 =>
 CondP (e6.2 != (0 : Int)) (
 (WrS h9 (some (newA h1)) 0 [.int .i64 0, .int .u64 0, .int .u64 0, .int .u64 0, .pointer none, .pointer none] ∧
 At (hsetL h9 (newA h1) 0 [.int .i64 0, .int .u64 0, .int .u64 0, .int .u64 0, .pointer none, .pointer none]) (fun h10 =>
 ∃ v11, cAt h10 (newA h1) 0 (.int .i64 v11) ∧
 ∃ v12, cAt h10 (newA h1) 1 (.int .u64 v12) ∧
 ∃ v13, cAt h10 (newA h1) 2 (.int .u64 v13) ∧
 ∃ v14, cAt h10 (newA h1) 3 (.int .u64 v14) ∧
 ∃ v15, cAt h10 (newA h1) 4 (.pointer v15) ∧
 ∃ v16, cAt h10 (newA h1) 5 (.pointer v16) ∧
 K ((v11, v12, v13, v14, v15, v16), e6.2) h10))) (
 LoopP (fun I17 (t18 : Int) h19 =>
 CondP (decide (t18 < (x2.len : Int))) (
 (iBd t18 x2.len ∧ ∃ a20, x2.a = some a20 ∧
 ∃ v21, cAt h19 (adr a20 (t18.toNat * 2)) 0 (.string v21) ∧
 ∃ v22, cAt h19 (adr a20 (t18.toNat * 2)) 1 (.string v22) ∧
 At (hnew h19 [.string (⟨#[]⟩ : ByteArray), .string (⟨#[]⟩ : ByteArray)] t_pair_Pair) (fun h23 =>
 (WrS h23 (some (newA h19)) 0 [.string v21, .string v22] ∧
 At (hsetL h23 (newA h19) 0 [.string v21, .string v22]) (fun h24 =>
 ∃ v25, cAt h24 (newA h19) 0 (.string v25) ∧
 ∃ v26, cAt h24 (newA h19) 1 (.string v26) ∧
 HC PG f_pair_Right [.string v25, .string v26] [.c (.int .i64)] (fun (e27 : Int) h28 =>
 CondP (e27 != (0 : Int)) (
 (WrS h28 (some (newA h1)) 0 [.int .i64 0, .int .u64 0, .int .u64 0, .int .u64 0, .pointer none, .pointer none] ∧
 At (hsetL h28 (newA h1) 0 [.int .i64 0, .int .u64 0, .int .u64 0, .int .u64 0, .pointer none, .pointer none]) (fun h29 =>
 ∃ v30, cAt h29 (newA h1) 0 (.int .i64 v30) ∧
 ∃ v31, cAt h29 (newA h1) 1 (.int .u64 v31) ∧
 ∃ v32, cAt h29 (newA h1) 2 (.int .u64 v32) ∧
 ∃ v33, cAt h29 (newA h1) 3 (.int .u64 v33) ∧
 ∃ v34, cAt h29 (newA h1) 4 (.pointer v34) ∧
 ∃ v35, cAt h29 (newA h1) 5 (.pointer v35) ∧
 K ((v30, v31, v32, v33, v34, v35), e27) h29))) (
 I17 (IntKind.wrap .i64 (t18 + 1)) h28)) h24))))) (
 CondP (x0 == (1 : Int)) (
 HC PG f_build_Radix [.slice x2.a x2.len x2.cap] [.c .ptr] (fun (e36 : Option Addr) h37 =>
 HC PG f_tree_OfRadix [.pointer e36] [.agg [.int .i64, .int .u64, .int .u64, .int .u64, .ptr, .ptr]] (fun (e38 : T6) h39 =>
 (WrS h39 (some (newA h1)) 0 [.int .i64 e38.1, .int .u64 e38.2.1, .int .u64 e38.2.2.1, .int .u64 e38.2.2.2.1, .pointer e38.2.2.2.2.1, .pointer e38.2.2.2.2.2] ∧
 At (hsetL h39 (newA h1) 0 [.int .i64 e38.1, .int .u64 e38.2.1, .int .u64 e38.2.2.1, .int .u64 e38.2.2.2.1, .pointer e38.2.2.2.2.1, .pointer e38.2.2.2.2.2]) (fun h40 =>
 ∃ v41, cAt h40 (newA h1) 0 (.int .i64 v41) ∧
 ∃ v42, cAt h40 (newA h1) 1 (.int .u64 v42) ∧
 ∃ v43, cAt h40 (newA h1) 2 (.int .u64 v43) ∧
 ∃ v44, cAt h40 (newA h1) 3 (.int .u64 v44) ∧
 ∃ v45, cAt h40 (newA h1) 4 (.pointer v45) ∧
 ∃ v46, cAt h40 (newA h1) 5 (.pointer v46) ∧
 K ((v41, v42, v43, v44, v45, v46), 0) h40))) h37) h19) (
 ∃ v47, cAt h19 (newA h0) 0 (.int .u64 v47) ∧
 ∃ v48, cAt h19 (newA h0) 1 (.int .u64 v48) ∧
 ∃ v49, cAt h19 (newA h0) 2 (.int .u64 v49) ∧
 ∃ v50, cAt h19 (newA h0) 0 (.int .u64 v50) ∧
 ∃ v51, cAt h19 (newA h0) 1 (.int .u64 v51) ∧
 ∃ v52, cAt h19 (newA h0) 2 (.int .u64 v52) ∧
 HC PG f_build_Champ [.agg #[.int .u64 v50, .int .u64 v51, .int .u64 v52], .slice x2.a x2.len x2.cap] [.c .ptr] (fun (e53 : Option Addr) h54 =>
 ((cAt h54 (newA h0) 0 (.int .u64 v47) ∧ cAt h54 (newA h0) 1 (.int .u64 v48) ∧ cAt h54 (newA h0) 2 (.int .u64 v49)) ∧
 HC PG f_tree_OfChamp [.agg #[.int .u64 v47, .int .u64 v48, .int .u64 v49], .pointer e53] [.agg [.int .i64, .int .u64, .int .u64, .int .u64, .ptr, .ptr]] (fun (e55 : T6) h56 =>
 (WrS h56 (some (newA h1)) 0 [.int .i64 e55.1, .int .u64 e55.2.1, .int .u64 e55.2.2.1, .int .u64 e55.2.2.2.1, .pointer e55.2.2.2.2.1, .pointer e55.2.2.2.2.2] ∧
 At (hsetL h56 (newA h1) 0 [.int .i64 e55.1, .int .u64 e55.2.1, .int .u64 e55.2.2.1, .int .u64 e55.2.2.2.1, .pointer e55.2.2.2.2.1, .pointer e55.2.2.2.2.2]) (fun h57 =>
 ∃ v58, cAt h57 (newA h1) 0 (.int .i64 v58) ∧
 ∃ v59, cAt h57 (newA h1) 1 (.int .u64 v59) ∧
 ∃ v60, cAt h57 (newA h1) 2 (.int .u64 v60) ∧
 ∃ v61, cAt h57 (newA h1) 3 (.int .u64 v61) ∧
 ∃ v62, cAt h57 (newA h1) 4 (.pointer v62) ∧
 ∃ v63, cAt h57 (newA h1) 5 (.pointer v63) ∧
 K ((v58, v59, v60, v61, v62, v63), 0) h57))) h54)) h19))) 0 h9))))) h2))
noncomputable def A_build_Tree : Ann := .node (.reg [0,2,4,6] (.nil)) (.node (.node (.reg [0,2,4,6,9] (.nil)) (.node (.reg [0,2,4,6,9,20] (.nil)) (.node (.node (.reg [6,7] (.nil)) (.nil)) (.nil)))) (.node (.node (.reg [0,2,4,6,23,24,25] (.nil)) (.loop [0,2,4,6,23,24] [(25,.c (.int .i64))] (.node (.reg [0,2,4,6,23,24,25,26] (.nil)) (.node (.nil) (.node (.node (.reg [0,2,4,6,11,23,24,25] (.nil)) (.node (.reg [0,2,4,6,12,23,24,25] (.nil)) (.node (.reg [0,2,4,6,12,23,24,25,35] (.nil)) (.node (.node (.reg [6,7] (.nil)) (.nil)) (.nil))))) (.reg [0,2,4,6,23,24,25] (.nil))))))) (.node (.node (.reg [2,4,6,40] (.nil)) (.node (.node (.reg [6,7] (.nil)) (.nil)) (.nil))) (.node (.reg [6,7] (.draw (dl 7 [dm [] [4] 45,dm [] [4] 46,dm [] [2] 47,dm [1,2] [45,46] 48,dm [0,3] [44,47] 49,dn [0,1,2,3,4] [4] [6,48] 0,dn [0,1,2,3,4,5] [] [] 8]) (tr 0 3 (.all (.last 3 (.all (.last 4 (.all (.last 5 (.take 6 (.done))))))))))) (.nil)))))
theorem H_build_Tree (x0 : Int) (x1 : Int × Int × Int) (x2 : SliceV) {K : Tup [.agg [.int .i64, .int .u64, .int .u64, .int .u64, .ptr, .ptr], .c (.int .i64)] → Heap → Prop} {h0 : Heap} (h : F_build_Tree x0 x1 x2 K h0) : HC PG f_build_Tree [.int .i64 x0, .agg #[.int .u64 x1.1, .int .u64 x1.2.1, .int .u64 x1.2.2], .slice x2.a x2.len x2.cap] [.agg [.int .i64, .int .u64, .int .u64, .int .u64, .ptr, .ptr], .c (.int .i64)] K h0 := HC.intro (an := A_build_Tree) (c := Tryz.f20.body.getD .skip) Tryz.mixed Tryz.func20 rfl Tryz.call20 (Nat.le_of_ble_eq_true rfl) (cst (by kernel_rfl) h)
def F_tree_New (x0 : Int) (x1 : Int × Int × Int) (K : ((T6) × Int) → Heap → Prop) (h0 : Heap) : Prop :=
 At (hnew h0 [.int .u64 x1.1, .int .u64 x1.2.1, .int .u64 x1.2.2] t_sip_Hasher) (fun h1 =>
 At (hnew h1 [.int .i64 0, .int .u64 0, .int .u64 0, .int .u64 0, .pointer none, .pointer none] t_tree_Tree) (fun h2 =>
 CondP (x0 == (0 : Int)) (
 ∃ v3, cAt h2 (newA h0) 0 (.int .u64 v3) ∧
 ∃ v4, cAt h2 (newA h0) 1 (.int .u64 v4) ∧
 ∃ v5, cAt h2 (newA h0) 2 (.int .u64 v5) ∧
 HC PG f_tree_OfChamp [.agg #[.int .u64 v3, .int .u64 v4, .int .u64 v5], .pointer none] [.agg [.int .i64, .int .u64, .int .u64, .int .u64, .ptr, .ptr]] (fun (e6 : T6) h7 =>
 (WrS h7 (some (newA h1)) 0 [.int .i64 e6.1, .int .u64 e6.2.1, .int .u64 e6.2.2.1, .int .u64 e6.2.2.2.1, .pointer e6.2.2.2.2.1, .pointer e6.2.2.2.2.2] ∧
 At (hsetL h7 (newA h1) 0 [.int .i64 e6.1, .int .u64 e6.2.1, .int .u64 e6.2.2.1, .int .u64 e6.2.2.2.1, .pointer e6.2.2.2.2.1, .pointer e6.2.2.2.2.2]) (fun h8 =>
 ∃ v9, cAt h8 (newA h1) 0 (.int .i64 v9) ∧
 ∃ v10, cAt h8 (newA h1) 1 (.int .u64 v10) ∧
 ∃ v11, cAt h8 (newA h1) 2 (.int .u64 v11) ∧
 ∃ v12, cAt h8 (newA h1) 3 (.int .u64 v12) ∧
 ∃ v13, cAt h8 (newA h1) 4 (.pointer v13) ∧
 ∃ v14, cAt h8 (newA h1) 5 (.pointer v14) ∧
 K ((v9, v10, v11, v12, v13, v14), 0) h8))) h2) (
 CondP (x0 == (1 : Int)) (
 HC PG f_tree_OfRadix [.pointer none] [.agg [.int .i64, .int .u64, .int .u64, .int .u64, .ptr, .ptr]] (fun (e15 : T6) h16 =>
 (WrS h16 (some (newA h1)) 0 [.int .i64 e15.1, .int .u64 e15.2.1, .int .u64 e15.2.2.1, .int .u64 e15.2.2.2.1, .pointer e15.2.2.2.2.1, .pointer e15.2.2.2.2.2] ∧
 At (hsetL h16 (newA h1) 0 [.int .i64 e15.1, .int .u64 e15.2.1, .int .u64 e15.2.2.1, .int .u64 e15.2.2.2.1, .pointer e15.2.2.2.2.1, .pointer e15.2.2.2.2.2]) (fun h17 =>
 ∃ v18, cAt h17 (newA h1) 0 (.int .i64 v18) ∧
 ∃ v19, cAt h17 (newA h1) 1 (.int .u64 v19) ∧
 ∃ v20, cAt h17 (newA h1) 2 (.int .u64 v20) ∧
 ∃ v21, cAt h17 (newA h1) 3 (.int .u64 v21) ∧
 ∃ v22, cAt h17 (newA h1) 4 (.pointer v22) ∧
 ∃ v23, cAt h17 (newA h1) 5 (.pointer v23) ∧
 K ((v18, v19, v20, v21, v22, v23), 0) h17))) h2) (
 (WrS h2 (some (newA h1)) 0 [.int .i64 0, .int .u64 0, .int .u64 0, .int .u64 0, .pointer none, .pointer none] ∧
 At (hsetL h2 (newA h1) 0 [.int .i64 0, .int .u64 0, .int .u64 0, .int .u64 0, .pointer none, .pointer none]) (fun h24 =>
 ∃ v25, cAt h24 (newA h1) 0 (.int .i64 v25) ∧
 ∃ v26, cAt h24 (newA h1) 1 (.int .u64 v26) ∧
 ∃ v27, cAt h24 (newA h1) 2 (.int .u64 v27) ∧
 ∃ v28, cAt h24 (newA h1) 3 (.int .u64 v28) ∧
 ∃ v29, cAt h24 (newA h1) 4 (.pointer v29) ∧
 ∃ v30, cAt h24 (newA h1) 5 (.pointer v30) ∧
 K ((v25, v26, v27, v28, v29, v30), 11) h24))))))
noncomputable def A_tree_New : Ann := .node (.reg [0,3,4] (.nil)) (.node (.node (.reg [3,4,6] (.nil)) (.node (.reg [3,4,6,7] (.nil)) (.node (.node (.reg [4,5] (.nil)) (.nil)) (.node (.reg [4,11] (.nil)) (.node (.node (.reg [4,5] (.nil)) (.nil)) (.nil)))))) (.node (.reg [4,5] (.nil)) (.nil)))
theorem H_tree_New (x0 : Int) (x1 : Int × Int × Int) {K : Tup [.agg [.int .i64, .int .u64, .int .u64, .int .u64, .ptr, .ptr], .c (.int .i64)] → Heap → Prop} {h0 : Heap} (h : F_tree_New x0 x1 K h0) : HC PG f_tree_New [.int .i64 x0, .agg #[.int .u64 x1.1, .int .u64 x1.2.1, .int .u64 x1.2.2]] [.agg [.int .i64, .int .u64, .int .u64, .int .u64, .ptr, .ptr], .c (.int .i64)] K h0 := HC.intro (an := A_tree_New) (c := Tryz.f21.body.getD .skip) Tryz.mixed Tryz.func21 rfl Tryz.call21 (Nat.le_of_ble_eq_true rfl) (cst (by kernel_rfl) h)
def F_tree_Tree_With (x0 : T6) (x1 : Option Addr) (x2 : ByteArray × ByteArray) (K : ((T6) × Int) → Heap → Prop) (h0 : Heap) : Prop :=
 At (hnew h0 [.int .i64 x0.1, .int .u64 x0.2.1, .int .u64 x0.2.2.1, .int .u64 x0.2.2.2.1, .pointer x0.2.2.2.2.1, .pointer x0.2.2.2.2.2] t_tree_Tree) (fun h1 =>
 At (hnew h1 [.string x2.1, .string x2.2] t_pair_Pair) (fun h2 =>
 At (hnew h2 [.int .i64 0, .int .u64 0, .int .u64 0, .int .u64 0, .pointer none, .pointer none] t_tree_Tree) (fun h3 =>
 ∃ v4, cAt h3 (newA h1) 0 (.string v4) ∧
 ∃ v5, cAt h3 (newA h1) 1 (.string v5) ∧
 HC PG f_pair_Right [.string v4, .string v5] [.c (.int .i64)] (fun (e6 : Int) h7 =>
 CondP (e6 != (0 : Int)) (
 ∃ v8, cAt h7 (newA h0) 0 (.int .i64 v8) ∧
 ∃ v9, cAt h7 (newA h0) 1 (.int .u64 v9) ∧
 ∃ v10, cAt h7 (newA h0) 2 (.int .u64 v10) ∧
 ∃ v11, cAt h7 (newA h0) 3 (.int .u64 v11) ∧
 ∃ v12, cAt h7 (newA h0) 4 (.pointer v12) ∧
 ∃ v13, cAt h7 (newA h0) 5 (.pointer v13) ∧
 (WrS h7 (some (newA h2)) 0 [.int .i64 v8, .int .u64 v9, .int .u64 v10, .int .u64 v11, .pointer v12, .pointer v13] ∧
 At (hsetL h7 (newA h2) 0 [.int .i64 v8, .int .u64 v9, .int .u64 v10, .int .u64 v11, .pointer v12, .pointer v13]) (fun h14 =>
 ∃ v15, cAt h14 (newA h2) 0 (.int .i64 v15) ∧
 ∃ v16, cAt h14 (newA h2) 1 (.int .u64 v16) ∧
 ∃ v17, cAt h14 (newA h2) 2 (.int .u64 v17) ∧
 ∃ v18, cAt h14 (newA h2) 3 (.int .u64 v18) ∧
 ∃ v19, cAt h14 (newA h2) 4 (.pointer v19) ∧
 ∃ v20, cAt h14 (newA h2) 5 (.pointer v20) ∧
 K ((v15, v16, v17, v18, v19, v20), e6) h14))) (
 ∃ v21, cAt h7 (newA h0) 0 (.int .i64 v21) ∧
 CondP (v21 == (1 : Int)) (
 ∃ v22, cAt h7 (newA h0) 5 (.pointer v22) ∧
 ∃ v23, cAt h7 (newA h1) 0 (.string v23) ∧
 ∃ v24, cAt h7 (newA h1) 1 (.string v24) ∧
 HC PG f_radix_Put [.pointer x1, .pointer v22, .agg #[.string v23, .string v24]] [.c .ptr, .c .bool] (fun (e25 : (Option Addr) × Bool) h26 =>
 (Wr h26 (adr (newA h0) 5) ∧
 At (hset h26 (adr (newA h0) 5) (.pointer e25.1)) (fun h27 =>
 ∃ v28, cAt h27 (newA h0) 0 (.int .i64 v28) ∧
 ∃ v29, cAt h27 (newA h0) 1 (.int .u64 v29) ∧
 ∃ v30, cAt h27 (newA h0) 2 (.int .u64 v30) ∧
 ∃ v31, cAt h27 (newA h0) 3 (.int .u64 v31) ∧
 ∃ v32, cAt h27 (newA h0) 4 (.pointer v32) ∧
 ∃ v33, cAt h27 (newA h0) 5 (.pointer v33) ∧
 (WrS h27 (some (newA h2)) 0 [.int .i64 v28, .int .u64 v29, .int .u64 v30, .int .u64 v31, .pointer v32, .pointer v33] ∧
 At (hsetL h27 (newA h2) 0 [.int .i64 v28, .int .u64 v29, .int .u64 v30, .int .u64 v31, .pointer v32, .pointer v33]) (fun h34 =>
 ∃ v35, cAt h34 (newA h2) 0 (.int .i64 v35) ∧
 ∃ v36, cAt h34 (newA h2) 1 (.int .u64 v36) ∧
 ∃ v37, cAt h34 (newA h2) 2 (.int .u64 v37) ∧
 ∃ v38, cAt h34 (newA h2) 3 (.int .u64 v38) ∧
 ∃ v39, cAt h34 (newA h2) 4 (.pointer v39) ∧
 ∃ v40, cAt h34 (newA h2) 5 (.pointer v40) ∧
 K ((v35, v36, v37, v38, v39, v40), 0) h34))))) h7) (
 ∃ v41, cAt h7 (adr (newA h0) 1) 0 (.int .u64 v41) ∧
 ∃ v42, cAt h7 (adr (newA h0) 1) 1 (.int .u64 v42) ∧
 ∃ v43, cAt h7 (adr (newA h0) 1) 2 (.int .u64 v43) ∧
 ∃ v44, cAt h7 (newA h0) 4 (.pointer v44) ∧
 ∃ v45, cAt h7 (newA h1) 0 (.string v45) ∧
 ∃ v46, cAt h7 (newA h1) 1 (.string v46) ∧
 HC PG f_champ_Put [.agg #[.int .u64 v41, .int .u64 v42, .int .u64 v43], .pointer x1, .pointer v44, .agg #[.string v45, .string v46]] [.c .ptr, .c .bool] (fun (e47 : (Option Addr) × Bool) h48 =>
 (Wr h48 (adr (newA h0) 4) ∧
 At (hset h48 (adr (newA h0) 4) (.pointer e47.1)) (fun h49 =>
 ∃ v50, cAt h49 (newA h0) 0 (.int .i64 v50) ∧
 ∃ v51, cAt h49 (newA h0) 1 (.int .u64 v51) ∧
 ∃ v52, cAt h49 (newA h0) 2 (.int .u64 v52) ∧
 ∃ v53, cAt h49 (newA h0) 3 (.int .u64 v53) ∧
 ∃ v54, cAt h49 (newA h0) 4 (.pointer v54) ∧
 ∃ v55, cAt h49 (newA h0) 5 (.pointer v55) ∧
 (WrS h49 (some (newA h2)) 0 [.int .i64 v50, .int .u64 v51, .int .u64 v52, .int .u64 v53, .pointer v54, .pointer v55] ∧
 At (hsetL h49 (newA h2) 0 [.int .i64 v50, .int .u64 v51, .int .u64 v52, .int .u64 v53, .pointer v54, .pointer v55]) (fun h56 =>
 ∃ v57, cAt h56 (newA h2) 0 (.int .i64 v57) ∧
 ∃ v58, cAt h56 (newA h2) 1 (.int .u64 v58) ∧
 ∃ v59, cAt h56 (newA h2) 2 (.int .u64 v59) ∧
 ∃ v60, cAt h56 (newA h2) 3 (.int .u64 v60) ∧
 ∃ v61, cAt h56 (newA h2) 4 (.pointer v61) ∧
 ∃ v62, cAt h56 (newA h2) 5 (.pointer v62) ∧
 K ((v57, v58, v59, v60, v61, v62), 0) h56))))) h7))) h3)))
noncomputable def A_tree_Tree_With : Ann := .node (.reg [1,3,5,6] (.nil)) (.node (.node (.reg [1,3,5,6,8] (.nil)) (.node (.reg [1,3,5,6,8,15] (.nil)) (.node (.node (.reg [6,7] (.nil)) (.nil)) (.nil)))) (.node (.node (.reg [1,3,5,6,20] (.nil)) (.node (.node (.reg [3,6] (.nil)) (.node (.reg [6,7] (.nil)) (.nil))) (.nil))) (.node (.reg [3,6] (.nil)) (.node (.reg [6,7] (.nil)) (.nil)))))
theorem H_tree_Tree_With (x0 : T6) (x1 : Option Addr) (x2 : ByteArray × ByteArray) {K : Tup [.agg [.int .i64, .int .u64, .int .u64, .int .u64, .ptr, .ptr], .c (.int .i64)] → Heap → Prop} {h0 : Heap} (h : F_tree_Tree_With x0 x1 x2 K h0) : HC PG f_tree_Tree_With [.agg #[.int .i64 x0.1, .int .u64 x0.2.1, .int .u64 x0.2.2.1, .int .u64 x0.2.2.2.1, .pointer x0.2.2.2.2.1, .pointer x0.2.2.2.2.2], .pointer x1, .agg #[.string x2.1, .string x2.2]] [.agg [.int .i64, .int .u64, .int .u64, .int .u64, .ptr, .ptr], .c (.int .i64)] K h0 := HC.intro (an := A_tree_Tree_With) (c := Tryz.f24.body.getD .skip) Tryz.mixed Tryz.func24 rfl Tryz.call24 (Nat.le_of_ble_eq_true rfl) (cst (by kernel_rfl) h)
def F_tree_Like (x0 : T6) (x1 : T6) (K : (Bool) → Heap → Prop) (h0 : Heap) : Prop :=
 At (hnew h0 [.int .i64 x0.1, .int .u64 x0.2.1, .int .u64 x0.2.2.1, .int .u64 x0.2.2.2.1, .pointer x0.2.2.2.2.1, .pointer x0.2.2.2.2.2] t_tree_Tree) (fun h1 =>
 At (hnew h1 [.int .i64 x1.1, .int .u64 x1.2.1, .int .u64 x1.2.2.1, .int .u64 x1.2.2.2.1, .pointer x1.2.2.2.2.1, .pointer x1.2.2.2.2.2] t_tree_Tree) (fun h2 =>
 ∃ v3, cAt h2 (newA h0) 0 (.int .i64 v3) ∧
 ∃ v4, cAt h2 (newA h1) 0 (.int .i64 v4) ∧
 CondP (v3 == v4) (
 ∃ v5, cAt h2 (adr (newA h0) 1) 0 (.int .u64 v5) ∧
 ∃ v6, cAt h2 (adr (newA h0) 1) 1 (.int .u64 v6) ∧
 ∃ v7, cAt h2 (adr (newA h0) 1) 2 (.int .u64 v7) ∧
 ∃ v8, cAt h2 (adr (newA h1) 1) 0 (.int .u64 v8) ∧
 ∃ v9, cAt h2 (adr (newA h1) 1) 1 (.int .u64 v9) ∧
 ∃ v10, cAt h2 (adr (newA h1) 1) 2 (.int .u64 v10) ∧
 K ((((v5 == v8) && ((v6 == v9) && true))) && ((v7 == v10) && true)) h2) (
 K false h2)))
noncomputable def A_tree_Like : Ann := .node (.reg [2,3] (.nil)) (.node (.reg [4] (.nil)) (.nil))
theorem H_tree_Like (x0 : T6) (x1 : T6) {K : Tup [.c .bool] → Heap → Prop} {h0 : Heap} (h : F_tree_Like x0 x1 K h0) : HC PG f_tree_Like [.agg #[.int .i64 x0.1, .int .u64 x0.2.1, .int .u64 x0.2.2.1, .int .u64 x0.2.2.2.1, .pointer x0.2.2.2.2.1, .pointer x0.2.2.2.2.2], .agg #[.int .i64 x1.1, .int .u64 x1.2.1, .int .u64 x1.2.2.1, .int .u64 x1.2.2.2.1, .pointer x1.2.2.2.2.1, .pointer x1.2.2.2.2.2]] [.c .bool] K h0 := HC.intro (an := A_tree_Like) (c := Tryz.f28.body.getD .skip) Tryz.mixed Tryz.func28 rfl Tryz.call28 (Nat.le_of_ble_eq_true rfl) (cst (by kernel_rfl) h)
def F_tree_Tree_Hasher (x0 : T6) (K : (Int × Int × Int) → Heap → Prop) (h0 : Heap) : Prop :=
 At (hnew h0 [.int .i64 x0.1, .int .u64 x0.2.1, .int .u64 x0.2.2.1, .int .u64 x0.2.2.2.1, .pointer x0.2.2.2.2.1, .pointer x0.2.2.2.2.2] t_tree_Tree) (fun h1 =>
 At (hnew h1 [.int .u64 0, .int .u64 0, .int .u64 0] t_sip_Hasher) (fun h2 =>
 ∃ v3, cAt h2 (adr (newA h0) 1) 0 (.int .u64 v3) ∧
 ∃ v4, cAt h2 (adr (newA h0) 1) 1 (.int .u64 v4) ∧
 ∃ v5, cAt h2 (adr (newA h0) 1) 2 (.int .u64 v5) ∧
 (WrS h2 (some (newA h1)) 0 [.int .u64 v3, .int .u64 v4, .int .u64 v5] ∧
 At (hsetL h2 (newA h1) 0 [.int .u64 v3, .int .u64 v4, .int .u64 v5]) (fun h6 =>
 ∃ v7, cAt h6 (newA h1) 0 (.int .u64 v7) ∧
 ∃ v8, cAt h6 (newA h1) 1 (.int .u64 v8) ∧
 ∃ v9, cAt h6 (newA h1) 2 (.int .u64 v9) ∧
 K (v7, v8, v9) h6))))
noncomputable def A_tree_Tree_Hasher : Ann := .node (.reg [1,2] (.nil)) (.node (.reg [2] (.nil)) (.nil))
theorem H_tree_Tree_Hasher (x0 : T6) {K : Tup [.agg [.int .u64, .int .u64, .int .u64]] → Heap → Prop} {h0 : Heap} (h : F_tree_Tree_Hasher x0 K h0) : HC PG f_tree_Tree_Hasher [.agg #[.int .i64 x0.1, .int .u64 x0.2.1, .int .u64 x0.2.2.1, .int .u64 x0.2.2.2.1, .pointer x0.2.2.2.2.1, .pointer x0.2.2.2.2.2]] [.agg [.int .u64, .int .u64, .int .u64]] K h0 := HC.intro (an := A_tree_Tree_Hasher) (c := Tryz.f29.body.getD .skip) Tryz.mixed Tryz.func29 rfl Tryz.call29 (Nat.le_of_ble_eq_true rfl) (cst (by kernel_rfl) h)
def F_tree_Tree_Kind (x0 : T6) (K : (Int) → Heap → Prop) (h0 : Heap) : Prop :=
 At (hnew h0 [.int .i64 x0.1, .int .u64 x0.2.1, .int .u64 x0.2.2.1, .int .u64 x0.2.2.2.1, .pointer x0.2.2.2.2.1, .pointer x0.2.2.2.2.2] t_tree_Tree) (fun h1 =>
 ∃ v2, cAt h1 (newA h0) 0 (.int .i64 v2) ∧
 K v2 h1)
noncomputable def A_tree_Tree_Kind : Ann := .node (.reg [1] (.nil)) (.node (.reg [2] (.nil)) (.nil))
theorem H_tree_Tree_Kind (x0 : T6) {K : Tup [.c (.int .i64)] → Heap → Prop} {h0 : Heap} (h : F_tree_Tree_Kind x0 K h0) : HC PG f_tree_Tree_Kind [.agg #[.int .i64 x0.1, .int .u64 x0.2.1, .int .u64 x0.2.2.1, .int .u64 x0.2.2.2.1, .pointer x0.2.2.2.2.1, .pointer x0.2.2.2.2.2]] [.c (.int .i64)] K h0 := HC.intro (an := A_tree_Tree_Kind) (c := Tryz.f30.body.getD .skip) Tryz.mixed Tryz.func30 rfl Tryz.call30 (Nat.le_of_ble_eq_true rfl) (cst (by kernel_rfl) h)
def F_diff_set_trees (x0 : Option Addr) (x1 : Option Addr) (x2 : Option Addr) (x3 : ByteArray) (K : (Unit) → Heap → Prop) (h0 : Heap) : Prop :=
 (True ∧ (∀ x y : Addr, x1 = some x → x2 = some y → plainPtr h0 x ∧ plainPtr h0 y) ∧
 CondP (x1 == x2) (
 K () h0) (
 Join (fun (t6 : Bool) h7 =>
 CondP t6 (
 HC PG f_diff_some [.pointer x1, .string x3] [.c .slice] (fun (e8 : SliceV) h9 =>
 HC PG f_diff_some [.pointer x2, .string x3] [.c .slice] (fun (e10 : SliceV) h11 =>
 HC PG f_diff_set_lists [.pointer x0, .slice e8.a e8.len e8.cap, .slice e10.a e10.len e10.cap] [] (fun (e12 : Unit) h13 =>
 K () h13) h11) h9) h7) (
 HC PG f_radix_Node_Label [.pointer x1] [.c .str] (fun (e14 : ByteArray) h15 =>
 (((x3.size + e14.size : Nat) : Int) ≤ 9223372036854775807 ∧
 HC PG f_diff_own [.pointer x1, .string (x3 ++ e14)] [.c .slice] (fun (e16 : SliceV) h17 =>
 HC PG f_diff_own [.pointer x2, .string (x3 ++ e14)] [.c .slice] (fun (e18 : SliceV) h19 =>
 HC PG f_diff_set_lists [.pointer x0, .slice e16.a e16.len e16.cap, .slice e18.a e18.len e18.cap] [] (fun (e20 : Unit) h21 =>
 HC PG f_radix_Node_Kids [.pointer x1] [.c .slice] (fun (e22 : SliceV) h23 =>
 HC PG f_radix_Node_Kids [.pointer x2] [.c .slice] (fun (e24 : SliceV) h25 =>
 LoopP (fun I26 (t27 : SliceV × SliceV) h28 =>
 Join (fun (t30 : Bool) h31 =>
 CondP t30 (
 Join (fun (t43 : Bool) h44 =>
 CondP t43 (
 (iBd 0 t27.1.len ∧ ∃ a45, t27.1.a = some a45 ∧
 ∃ v46, cAt h44 a45 ((0 : Int).toNat * 1) (.pointer v46) ∧
 HC PG f_diff_set_trees [.pointer x0, .pointer v46, .pointer none, .string (x3 ++ e14)] [] (fun (e47 : Unit) h48 =>
 (((0 : Int) ≤ (1 : Int) ∧ (1 : Int) ≤ ((t27.1.len : Nat) : Int)) ∧
 Bd (subAddr t27.1.a ((1 : Int).toNat) t27.1.cap 1 : Option Addr) (fun a49 => Bd (t27.1.len - ((1 : Int).toNat) : Nat) (fun n50 => Bd (t27.1.cap - ((1 : Int).toNat) : Nat) (fun n51 =>
 I26 (⟨a49, n50, n51⟩, t27.2) h48))))) h44)) (
 Join (fun (t63 : Bool) h64 =>
 CondP t63 (
 (iBd 0 t27.2.len ∧ ∃ a65, t27.2.a = some a65 ∧
 ∃ v66, cAt h64 a65 ((0 : Int).toNat * 1) (.pointer v66) ∧
 HC PG f_diff_set_trees [.pointer x0, .pointer none, .pointer v66, .string (x3 ++ e14)] [] (fun (e67 : Unit) h68 =>
 (((0 : Int) ≤ (1 : Int) ∧ (1 : Int) ≤ ((t27.2.len : Nat) : Int)) ∧
 Bd (subAddr t27.2.a ((1 : Int).toNat) t27.2.cap 1 : Option Addr) (fun a69 => Bd (t27.2.len - ((1 : Int).toNat) : Nat) (fun n70 => Bd (t27.2.cap - ((1 : Int).toNat) : Nat) (fun n71 =>
 I26 (t27.1, ⟨a69, n70, n71⟩) h68))))) h64)) (
 (iBd 0 t27.1.len ∧ ∃ a72, t27.1.a = some a72 ∧
 ∃ v73, cAt h64 a72 ((0 : Int).toNat * 1) (.pointer v73) ∧
 (iBd 0 t27.2.len ∧ ∃ a74, t27.2.a = some a74 ∧
 ∃ v75, cAt h64 a74 ((0 : Int).toNat * 1) (.pointer v75) ∧
 HC PG f_diff_set_trees [.pointer x0, .pointer v73, .pointer v75, .string (x3 ++ e14)] [] (fun (e76 : Unit) h77 =>
 (((0 : Int) ≤ (1 : Int) ∧ (1 : Int) ≤ ((t27.1.len : Nat) : Int)) ∧
 Bd (subAddr t27.1.a ((1 : Int).toNat) t27.1.cap 1 : Option Addr) (fun a78 => Bd (t27.1.len - ((1 : Int).toNat) : Nat) (fun n79 => Bd (t27.1.cap - ((1 : Int).toNat) : Nat) (fun n80 =>
 (((0 : Int) ≤ (1 : Int) ∧ (1 : Int) ≤ ((t27.2.len : Nat) : Int)) ∧
 Bd (subAddr t27.2.a ((1 : Int).toNat) t27.2.cap 1 : Option Addr) (fun a81 => Bd (t27.2.len - ((1 : Int).toNat) : Nat) (fun n82 => Bd (t27.2.cap - ((1 : Int).toNat) : Nat) (fun n83 =>
 I26 (⟨a78, n79, n80⟩, ⟨a81, n82, n83⟩) h77))))))))) h64)))) (fun J52 =>
 CondP ((t27.1.len : Int) == (0 : Int)) (
 J52 true h44) (
 (iBd 0 t27.2.len ∧ ∃ a53, t27.2.a = some a53 ∧
 ∃ v54, cAt h44 a53 ((0 : Int).toNat * 1) (.pointer v54) ∧
 (iBd 0 t27.1.len ∧ ∃ a55, t27.1.a = some a55 ∧
 ∃ v56, cAt h44 a55 ((0 : Int).toNat * 1) (.pointer v56) ∧
 HC PG f_radix_Node_Label [.pointer v54] [.c .str] (fun (e57 : ByteArray) h58 =>
 (cAt h58 a55 ((0 : Int).toNat * 1) (.pointer v56) ∧
 ∃ b59, (0 : Int) ≤ (0 : Int) ∧ e57[(0 : Int).toNat]? = some b59 ∧
 HC PG f_radix_Node_Label [.pointer v56] [.c .str] (fun (e60 : ByteArray) h61 =>
 ∃ b62, (0 : Int) ≤ (0 : Int) ∧ e60[(0 : Int).toNat]? = some b62 ∧
 J52 (decide ((b59.toNat : Int) < (b62.toNat : Int))) h61) h58)) h44)))))) (fun J32 =>
 CondP ((t27.2.len : Int) == (0 : Int)) (
 J32 true h31) (
 CondP (decide ((t27.1.len : Int) > (0 : Int))) (
 (iBd 0 t27.1.len ∧ ∃ a33, t27.1.a = some a33 ∧
 ∃ v34, cAt h31 a33 ((0 : Int).toNat * 1) (.pointer v34) ∧
 (iBd 0 t27.2.len ∧ ∃ a35, t27.2.a = some a35 ∧
 ∃ v36, cAt h31 a35 ((0 : Int).toNat * 1) (.pointer v36) ∧
 HC PG f_radix_Node_Label [.pointer v34] [.c .str] (fun (e37 : ByteArray) h38 =>
 (cAt h38 a35 ((0 : Int).toNat * 1) (.pointer v36) ∧
 ∃ b39, (0 : Int) ≤ (0 : Int) ∧ e37[(0 : Int).toNat]? = some b39 ∧
 HC PG f_radix_Node_Label [.pointer v36] [.c .str] (fun (e40 : ByteArray) h41 =>
 ∃ b42, (0 : Int) ≤ (0 : Int) ∧ e40[(0 : Int).toNat]? = some b42 ∧
 J32 (decide ((b39.toNat : Int) < (b42.toNat : Int))) h41) h38)) h31))) (
 J32 false h31)))) (
 K () h31)) (fun J29 =>
 CondP (decide ((t27.1.len : Int) > (0 : Int))) (
 J29 true h28) (
 J29 (decide ((t27.2.len : Int) > (0 : Int))) h28))) (e22, e24) h25) h23) h21) h19) h17) h15)) h7)) (fun J1 =>
 CondP x1.isNone (
 J1 true h0) (
 CondP x2.isNone (
 J1 true h0) (
 HC PG f_radix_Node_Label [.pointer x1] [.c .str] (fun (e2 : ByteArray) h3 =>
 HC PG f_radix_Node_Label [.pointer x2] [.c .str] (fun (e4 : ByteArray) h5 =>
 J1 (!(e2.toList == e4.toList)) h5) h3) h0)))))
noncomputable def A_diff_set_trees : Ann := .node (.node (.reg [0,1,2,3,11] (.nil)) (.node (.nil) (.join [0,1,2,3] [(15,.c .bool)] (.reg [0,1,2,3,15] (.nil)) (.node (.node (.reg [] (.nil)) (.nil)) (.nil))))) (.node (.reg [0,1,2,8] (.nil)) (.node (.reg [0,1,2,8] (.nil)) (.node (.reg [0,8,9,10] (.nil)) (.loop [0,8] [(9,.c .slice),(10,.c .slice)] (.node (.join [0,8,9,10] [(60,.c .bool)] (.reg [0,8,9,10,60] (.nil)) (.nil)) (.join [0,8,9,10] [(74,.c .bool)] (.reg [0,8,9,10,74] (.draw (dl 22 [dm [] [10] 76,dm [0] [75] 77,dm [1] [76] 78,dm [2] [77] 79,dm [3] [9,78] 80,dm [3,4] [78,79] 81,dm [3,5] [78,80] 82,dm [3,6] [78,81] 83,dm [7] [9,82] 84,dm [7,8] [82,83] 85,dm [7,9] [82,84] 86,dm [7,10] [82,85] 87,dm [7,11] [82,86] 88,dm [7] [10,82] 89,dm [7,13] [82,88] 90,dm [7,14] [82,89] 91,dn [7,11,15] [7,15] [82,90] 92,dm [7,16] [82,91] 93,dm [7,12,17] [82,87,92] 94,dm [3,7,18] [78,82,93] 95,dm [3,19] [78,94] 96,dn [16,20] [20] [95] 75]) (tr 0 4 (.split 78 (tr 4 18 (.done)) (tr 4 4 (.split 82 (tk [8,9,10,13,14,15] (.all (.last 11 (.take 12 (.all (.last 16 (tr 17 5 (.done)))))))) (tr 8 14 (.done)))))))) (.node (.node (.reg [0,8,9,10] (.nil)) (.reg [0,8,9,10] (.nil))) (.join [0,8,9,10] [(104,.c .bool)] (.reg [0,8,9,10,104] (.draw (dl 17 [dm [] [9] 106,dm [0] [105] 107,dm [1] [106] 108,dm [2] [107] 109,dm [3] [10,108] 110,dm [3,4] [108,109] 111,dm [3,5] [108,110] 112,dm [3,6] [108,111] 113,dm [3,7] [108,112] 114,dm [3] [9,108] 115,dm [3,9] [108,114] 116,dm [3,10] [108,115] 117,dn [3,7,11] [3,11] [108,116] 118,dm [3,12] [108,117] 119,dm [3,8,13] [108,113,118] 120,dm [3,14] [108,119] 121,dn [12,15] [15] [120] 105]) (tr 0 4 (.split 108 (tr 4 13 (.done)) (tk [4,5,6,9,10,11] (.all (.last 7 (.take 8 (.all (.last 12 (tr 13 4 (.done)))))))))))) (.node (.node (.reg [0,8,9,10] (.nil)) (.reg [0,8,9,10] (.nil))) (.node (.reg [0,8,9,10] (.draw (dl 9 [dm [] [0] 62,dm [] [9] 63,dm [1] [62] 64,dm [2] [63] 65,dm [] [10] 66,dm [4] [65] 67,dm [5] [66] 68,dm [] [8] 69,dm [0,3,6,7] [61,64,67,68] 70]) (tr 0 8 (.all (.last 8 (.done)))))) (.reg [0,8,9,10] (.draw (dl 6 [dm [] [9] 71,dm [0] [70] 72,dm [] [10] 73,dm [2] [72] 74,dm [0,1] [71] 10,dn [0,1,2,3,4] [2,3] [73] 11]) (tr 0 6 (.done))))))))))))))
theorem H_diff_set_trees (x0 : Option Addr) (x1 : Option Addr) (x2 : Option Addr) (x3 : ByteArray) {K : Tup [] → Heap → Prop} {h0 : Heap} (h : F_diff_set_trees x0 x1 x2 x3 K h0) : HC PG f_diff_set_trees [.pointer x0, .pointer x1, .pointer x2, .string x3] [] K h0 := HC.intro (an := A_diff_set_trees) (c := Tryz.f31.body.getD .skip) Tryz.mixed Tryz.func31 rfl Tryz.call31 (Nat.le_of_ble_eq_true rfl) (cst (by kernel_rfl) h)
def F_tree_Tree_Radix (x0 : T6) (K : (Option Addr) → Heap → Prop) (h0 : Heap) : Prop :=
 At (hnew h0 [.int .i64 x0.1, .int .u64 x0.2.1, .int .u64 x0.2.2.1, .int .u64 x0.2.2.2.1, .pointer x0.2.2.2.2.1, .pointer x0.2.2.2.2.2] t_tree_Tree) (fun h1 =>
 ∃ v2, cAt h1 (newA h0) 5 (.pointer v2) ∧
 K v2 h1)
noncomputable def A_tree_Tree_Radix : Ann := .node (.reg [1] (.nil)) (.node (.reg [2] (.nil)) (.nil))
theorem H_tree_Tree_Radix (x0 : T6) {K : Tup [.c .ptr] → Heap → Prop} {h0 : Heap} (h : F_tree_Tree_Radix x0 K h0) : HC PG f_tree_Tree_Radix [.agg #[.int .i64 x0.1, .int .u64 x0.2.1, .int .u64 x0.2.2.1, .int .u64 x0.2.2.2.1, .pointer x0.2.2.2.2.1, .pointer x0.2.2.2.2.2]] [.c .ptr] K h0 := HC.intro (an := A_tree_Tree_Radix) (c := Tryz.f32.body.getD .skip) Tryz.mixed Tryz.func32 rfl Tryz.call32 (Nat.le_of_ble_eq_true rfl) (cst (by kernel_rfl) h)
def F_diff_set_tries (x0 : Option Addr) (x1 : Option Addr) (x2 : Option Addr) (K : (Unit) → Heap → Prop) (h0 : Heap) : Prop :=
 (True ∧ (∀ x y : Addr, x1 = some x → x2 = some y → plainPtr h0 x ∧ plainPtr h0 y) ∧
 CondP (x1 == x2) (
 K () h0) (
 HC PG f_node_Node_IsBucket [.pointer x1] [.c .bool] (fun (e1 : Bool) h2 =>
 CondP e1 (
 HC PG f_node_Node_Pairs [.pointer x1] [.c .slice] (fun (e3 : SliceV) h4 =>
 HC PG f_node_Node_Pairs [.pointer x2] [.c .slice] (fun (e5 : SliceV) h6 =>
 HC PG f_diff_set_lists [.pointer x0, .slice e3.a e3.len e3.cap, .slice e5.a e5.len e5.cap] [] (fun (e7 : Unit) h8 =>
 K () h8) h6) h4) h2) (
 LoopP (fun I9 (t10 : Int) h11 =>
 CondP (decide (t10 < (32 : Int))) (
 Join (fun (t28 : Unit) h29 =>
 I9 (IntKind.wrap .i64 (t10 + 1)) h29) (fun J12 =>
 HC PG f_node_Node_Kid [.pointer x1, .int .i64 t10] [.c .ptr, .c .bool] (fun (e13 : (Option Addr) × Bool) h14 =>
 HC PG f_node_Node_Kid [.pointer x2, .int .i64 t10] [.c .ptr, .c .bool] (fun (e15 : (Option Addr) × Bool) h16 =>
 Join (fun (t18 : Bool) h19 =>
 CondP t18 (
 HC PG f_diff_set_tries [.pointer x0, .pointer e13.1, .pointer e15.1] [] (fun (e20 : Unit) h21 =>
 J12 () h21) h19) (
 HC PG f_diff_slot [.pointer x1, .int .i64 t10] [.c .slice] (fun (e22 : SliceV) h23 =>
 HC PG f_diff_slot [.pointer x2, .int .i64 t10] [.c .slice] (fun (e24 : SliceV) h25 =>
 HC PG f_diff_set_lists [.pointer x0, .slice e22.a e22.len e22.cap, .slice e24.a e24.len e24.cap] [] (fun (e26 : Unit) h27 =>
 J12 () h27) h25) h23) h19)) (fun J17 =>
 CondP e13.2 (
 J17 e15.2 h16) (
 J17 false h16))) h14) h11)) (
 K () h11)) 0 h2)) h0))
noncomputable def A_diff_set_tries : Ann := .node (.node (.reg [0,1,2,13] (.nil)) (.nil)) (.node (.node (.reg [0,1,2,15] (.nil)) (.node (.node (.reg [] (.nil)) (.nil)) (.nil))) (.node (.reg [0,1,2,22] (.nil)) (.loop [0,1,2] [(22,.c (.int .i64))] (.node (.reg [0,1,2,22,23] (.nil)) (.node (.nil) (.join [0,1,2,22] [] (.node (.reg [0,1,2,6,22] (.nil)) (.node (.reg [0,1,2,6,7,8,22] (.nil)) (.node (.reg [0,1,2,6,7,8,9,10,22] (.nil)) (.node (.join [0,1,2,6,7,9,22] [(40,.c .bool)] (.reg [0,1,2,6,7,9,22,40] (.nil)) (.node (.node (.reg [0,1,2,22] (.nil)) (.nil)) (.nil))) (.reg [0,1,2,22] (.nil)))))) (.reg [0,1,2,22] (.nil))))))))
theorem H_diff_set_tries (x0 : Option Addr) (x1 : Option Addr) (x2 : Option Addr) {K : Tup [] → Heap → Prop} {h0 : Heap} (h : F_diff_set_tries x0 x1 x2 K h0) : HC PG f_diff_set_tries [.pointer x0, .pointer x1, .pointer x2] [] K h0 := HC.intro (an := A_diff_set_tries) (c := Tryz.f33.body.getD .skip) Tryz.mixed Tryz.func33 rfl Tryz.call33 (Nat.le_of_ble_eq_true rfl) (cst (by kernel_rfl) h)
def F_tree_Tree_Champ (x0 : T6) (K : (Option Addr) → Heap → Prop) (h0 : Heap) : Prop :=
 At (hnew h0 [.int .i64 x0.1, .int .u64 x0.2.1, .int .u64 x0.2.2.1, .int .u64 x0.2.2.2.1, .pointer x0.2.2.2.2.1, .pointer x0.2.2.2.2.2] t_tree_Tree) (fun h1 =>
 Join (fun (t5 : Bool) h6 =>
 CondP t5 (
 HC PG f_champ_Empty [] [.c .ptr] (fun (e7 : Option Addr) h8 =>
 K e7 h8) h6) (
 ∃ v9, cAt h6 (newA h0) 4 (.pointer v9) ∧
 K v9 h6)) (fun J2 =>
 ∃ v3, cAt h1 (newA h0) 0 (.int .i64 v3) ∧
 CondP (v3 == (0 : Int)) (
 ∃ v4, cAt h1 (newA h0) 4 (.pointer v4) ∧
 J2 v4.isNone h1) (
 J2 false h1)))
noncomputable def A_tree_Tree_Champ : Ann := .node (.reg [1] (.nil)) (.node (.join [1] [(10,.c .bool)] (.reg [1,10] (.nil)) (.node (.node (.reg [2] (.nil)) (.nil)) (.nil))) (.node (.reg [2] (.nil)) (.nil)))
theorem H_tree_Tree_Champ (x0 : T6) {K : Tup [.c .ptr] → Heap → Prop} {h0 : Heap} (h : F_tree_Tree_Champ x0 K h0) : HC PG f_tree_Tree_Champ [.agg #[.int .i64 x0.1, .int .u64 x0.2.1, .int .u64 x0.2.2.1, .int .u64 x0.2.2.2.1, .pointer x0.2.2.2.2.1, .pointer x0.2.2.2.2.2]] [.c .ptr] K h0 := HC.intro (an := A_tree_Tree_Champ) (c := Tryz.f34.body.getD .skip) Tryz.mixed Tryz.func34 rfl Tryz.call34 (Nat.le_of_ble_eq_true rfl) (cst (by kernel_rfl) h)
def F_slices_SortFunc_A_diff_Change_diff_Change (x0 : SliceV) (x1 : Value) (K : (Unit) → Heap → Prop) (h0 : Heap) : Prop :=
 HC PG f_math_bits_Len [.int .u64 (IntKind.wrap .u64 (x0.len : Int))] [.c (.int .i64)] (fun (e1 : Int) h2 =>
 HC PG f_slices_pdqsortCmpFunc_diff_Change [.slice x0.a x0.len x0.cap, .int .i64 0, .int .i64 (x0.len : Int), .int .i64 e1, x1] [] (fun (e3 : Unit) h4 =>
 K () h4) h2) h0
noncomputable def A_slices_SortFunc_A_diff_Change_diff_Change : Ann := .node (.reg [0,1,4] (.nil)) (.reg [] (.nil))
theorem H_slices_SortFunc_A_diff_Change_diff_Change (x0 : SliceV) (x1 : Value) {K : Tup [] → Heap → Prop} {h0 : Heap} (h : F_slices_SortFunc_A_diff_Change_diff_Change x0 x1 K h0) : HC PG f_slices_SortFunc_A_diff_Change_diff_Change [.slice x0.a x0.len x0.cap, x1] [] K h0 := HC.intro (an := A_slices_SortFunc_A_diff_Change_diff_Change) (c := Tryz.f35.body.getD .skip) Tryz.mixed Tryz.func35 rfl Tryz.call35 (Nat.le_of_ble_eq_true rfl) (cst (by kernel_rfl) h)
def F_diff_Of_1 (x0 : ByteArray × ByteArray × ByteArray × Bool × Bool) (x1 : ByteArray × ByteArray × ByteArray × Bool × Bool) (K : (Int) → Heap → Prop) (h0 : Heap) : Prop :=
 At (hnew h0 [.string x0.1, .string x0.2.1, .string x0.2.2.1, .bool x0.2.2.2.1, .bool x0.2.2.2.2] t_diff_Change) (fun h1 =>
 At (hnew h1 [.string x1.1, .string x1.2.1, .string x1.2.2.1, .bool x1.2.2.2.1, .bool x1.2.2.2.2] t_diff_Change) (fun h2 =>
 ∃ v3, cAt h2 (newA h0) 0 (.string v3) ∧
 ∃ v4, cAt h2 (newA h1) 0 (.string v4) ∧
 HC PG f_cmp_Compare_str [.string v3, .string v4] [.c (.int .i64)] (fun (e5 : Int) h6 =>
 K e5 h6) h2))
noncomputable def A_diff_Of_1 : Ann := .node (.reg [2,3] (.nil)) (.node (.reg [4] (.nil)) (.nil))
theorem H_diff_Of_1 (x0 : ByteArray × ByteArray × ByteArray × Bool × Bool) (x1 : ByteArray × ByteArray × ByteArray × Bool × Bool) {K : Tup [.c (.int .i64)] → Heap → Prop} {h0 : Heap} (h : F_diff_Of_1 x0 x1 K h0) : HC PG f_diff_Of_1 [.agg #[.string x0.1, .string x0.2.1, .string x0.2.2.1, .bool x0.2.2.2.1, .bool x0.2.2.2.2], .agg #[.string x1.1, .string x1.2.1, .string x1.2.2.1, .bool x1.2.2.2.1, .bool x1.2.2.2.2]] [.c (.int .i64)] K h0 := HC.intro (an := A_diff_Of_1) (c := Tryz.f36.body.getD .skip) Tryz.mixed Tryz.func36 rfl Tryz.call36 (Nat.le_of_ble_eq_true rfl) (cst (by kernel_rfl) h)
def F_cmp_Compare_str (x0 : ByteArray) (x1 : ByteArray) (K : (Int) → Heap → Prop) (h0 : Heap) : Prop :=
 HC PG f_cmp_isNaN_str [.string x0] [.c .bool] (fun (e1 : Bool) h2 =>
 HC PG f_cmp_isNaN_str [.string x1] [.c .bool] (fun (e3 : Bool) h4 =>
 CondP e1 (
 CondP e3 (
 K 0 h4) (
 K (-1) h4)) (
 CondP e3 (
 K 1 h4) (
 CondP (Op.bytesLess x0.toList x1.toList) (
 K (-1) h4) (
 CondP (!(Op.bytesLess x0.toList x1.toList || x0.toList == x1.toList)) (
 K 1 h4) (
 K 0 h4))))) h2) h0
noncomputable def A_cmp_Compare_str : Ann := .node (.reg [0,1] (.nil)) (.node (.reg [0,1,5] (.nil)) (.node (.reg [0,1,5,6] (.nil)) (.node (.node (.reg [0,1,6,11] (.nil)) (.node (.node (.node (.reg [12] (.nil)) (.node (.node (.reg [4] (.nil)) (.nil)) (.nil))) (.node (.reg [4] (.nil)) (.nil))) (.nil))) (.node (.node (.reg [0,1,13] (.nil)) (.node (.node (.reg [4] (.nil)) (.nil)) (.nil))) (.node (.node (.reg [0,1,16] (.nil)) (.node (.node (.reg [4] (.nil)) (.nil)) (.nil))) (.node (.node (.reg [19] (.nil)) (.node (.node (.reg [4] (.nil)) (.nil)) (.nil))) (.node (.reg [4] (.nil)) (.nil))))))))
theorem H_cmp_Compare_str (x0 : ByteArray) (x1 : ByteArray) {K : Tup [.c (.int .i64)] → Heap → Prop} {h0 : Heap} (h : F_cmp_Compare_str x0 x1 K h0) : HC PG f_cmp_Compare_str [.string x0, .string x1] [.c (.int .i64)] K h0 := HC.intro (an := A_cmp_Compare_str) (c := Tryz.f37.body.getD .skip) Tryz.mixed Tryz.func37 rfl Tryz.call37 (Nat.le_of_ble_eq_true rfl) (cst (by kernel_rfl) h)
def F_merge_Of (x0 : T6) (x1 : T6) (x2 : T6) (x3 : Int) (K : ((T6) × SliceV × Int) → Heap → Prop) (h0 : Heap) : Prop :=
 At (hnew h0 [.int .i64 x0.1, .int .u64 x0.2.1, .int .u64 x0.2.2.1, .int .u64 x0.2.2.2.1, .pointer x0.2.2.2.2.1, .pointer x0.2.2.2.2.2] t_tree_Tree) (fun h1 =>
 At (hnew h1 [.int .i64 x1.1, .int .u64 x1.2.1, .int .u64 x1.2.2.1, .int .u64 x1.2.2.2.1, .pointer x1.2.2.2.2.1, .pointer x1.2.2.2.2.2] t_tree_Tree) (fun h2 =>
 At (hnew h2 [.int .i64 x2.1, .int .u64 x2.2.1, .int .u64 x2.2.2.1, .int .u64 x2.2.2.2.1, .pointer x2.2.2.2.2.1, .pointer x2.2.2.2.2.2] t_tree_Tree) (fun h3 =>
 At (hnew h3 [.int .i64 0, .int .u64 0, .int .u64 0, .int .u64 0, .pointer none, .pointer none] t_tree_Tree) (fun h4 =>
 HC PG f_merge_Name [.int .i64 x3] [.c .str] (fun (e5 : ByteArray) h6 =>
 CondP (e5.toList == (⟨#[]⟩ : ByteArray).toList) (
 ∃ v7, cAt h6 (newA h1) 0 (.int .i64 v7) ∧
 ∃ v8, cAt h6 (newA h1) 1 (.int .u64 v8) ∧
 ∃ v9, cAt h6 (newA h1) 2 (.int .u64 v9) ∧
 ∃ v10, cAt h6 (newA h1) 3 (.int .u64 v10) ∧
 ∃ v11, cAt h6 (newA h1) 4 (.pointer v11) ∧
 ∃ v12, cAt h6 (newA h1) 5 (.pointer v12) ∧
 (WrS h6 (some (newA h3)) 0 [.int .i64 v7, .int .u64 v8, .int .u64 v9, .int .u64 v10, .pointer v11, .pointer v12] ∧
 At (hsetL h6 (newA h3) 0 [.int .i64 v7, .int .u64 v8, .int .u64 v9, .int .u64 v10, .pointer v11, .pointer v12]) (fun h13 =>
 ∃ v14, cAt h13 (newA h3) 0 (.int .i64 v14) ∧
 ∃ v15, cAt h13 (newA h3) 1 (.int .u64 v15) ∧
 ∃ v16, cAt h13 (newA h3) 2 (.int .u64 v16) ∧
 ∃ v17, cAt h13 (newA h3) 3 (.int .u64 v17) ∧
 ∃ v18, cAt h13 (newA h3) 4 (.pointer v18) ∧
 ∃ v19, cAt h13 (newA h3) 5 (.pointer v19) ∧
 K ((v14, v15, v16, v17, v18, v19), ⟨none, 0, 0⟩, 1) h13))) (
 Join (fun (t49 : Bool) h50 =>
 CondP t49 (
 ∃ v51, cAt h50 (newA h1) 0 (.int .i64 v51) ∧
 ∃ v52, cAt h50 (newA h1) 1 (.int .u64 v52) ∧
 ∃ v53, cAt h50 (newA h1) 2 (.int .u64 v53) ∧
 ∃ v54, cAt h50 (newA h1) 3 (.int .u64 v54) ∧
 ∃ v55, cAt h50 (newA h1) 4 (.pointer v55) ∧
 ∃ v56, cAt h50 (newA h1) 5 (.pointer v56) ∧
 (WrS h50 (some (newA h3)) 0 [.int .i64 v51, .int .u64 v52, .int .u64 v53, .int .u64 v54, .pointer v55, .pointer v56] ∧
 At (hsetL h50 (newA h3) 0 [.int .i64 v51, .int .u64 v52, .int .u64 v53, .int .u64 v54, .pointer v55, .pointer v56]) (fun h57 =>
 ∃ v58, cAt h57 (newA h3) 0 (.int .i64 v58) ∧
 ∃ v59, cAt h57 (newA h3) 1 (.int .u64 v59) ∧
 ∃ v60, cAt h57 (newA h3) 2 (.int .u64 v60) ∧
 ∃ v61, cAt h57 (newA h3) 3 (.int .u64 v61) ∧
 ∃ v62, cAt h57 (newA h3) 4 (.pointer v62) ∧
 ∃ v63, cAt h57 (newA h3) 5 (.pointer v63) ∧
 K ((v58, v59, v60, v61, v62, v63), ⟨none, 0, 0⟩, 11) h57))) (
 ∃ v64, cAt h50 (newA h0) 0 (.int .i64 v64) ∧
 ∃ v65, cAt h50 (newA h0) 1 (.int .u64 v65) ∧
 ∃ v66, cAt h50 (newA h0) 2 (.int .u64 v66) ∧
 ∃ v67, cAt h50 (newA h0) 3 (.int .u64 v67) ∧
 ∃ v68, cAt h50 (newA h0) 4 (.pointer v68) ∧
 ∃ v69, cAt h50 (newA h0) 5 (.pointer v69) ∧
 ∃ v70, cAt h50 (newA h2) 0 (.int .i64 v70) ∧
 ∃ v71, cAt h50 (newA h2) 1 (.int .u64 v71) ∧
 ∃ v72, cAt h50 (newA h2) 2 (.int .u64 v72) ∧
 ∃ v73, cAt h50 (newA h2) 3 (.int .u64 v73) ∧
 ∃ v74, cAt h50 (newA h2) 4 (.pointer v74) ∧
 ∃ v75, cAt h50 (newA h2) 5 (.pointer v75) ∧
 HC PG f_diff_Of [.agg #[.int .i64 v64, .int .u64 v65, .int .u64 v66, .int .u64 v67, .pointer v68, .pointer v69], .agg #[.int .i64 v70, .int .u64 v71, .int .u64 v72, .int .u64 v73, .pointer v74, .pointer v75]] [.c .slice, .c (.int .i64)] (fun (e76 : SliceV × Int) h77 =>
 ∃ v78, cAt h77 (newA h1) 0 (.int .i64 v78) ∧
 ∃ v79, cAt h77 (newA h1) 1 (.int .u64 v79) ∧
 ∃ v80, cAt h77 (newA h1) 2 (.int .u64 v80) ∧
 ∃ v81, cAt h77 (newA h1) 3 (.int .u64 v81) ∧
 ∃ v82, cAt h77 (newA h1) 4 (.pointer v82) ∧
 ∃ v83, cAt h77 (newA h1) 5 (.pointer v83) ∧
 At (hnew h77 [.int .i64 0, .int .u64 0, .int .u64 0, .int .u64 0, .pointer none, .pointer none] t_tree_Tree) (fun h84 =>
 (WrS h84 (some (newA h77)) 0 [.int .i64 v78, .int .u64 v79, .int .u64 v80, .int .u64 v81, .pointer v82, .pointer v83] ∧
 At (hsetL h84 (newA h77) 0 [.int .i64 v78, .int .u64 v79, .int .u64 v80, .int .u64 v81, .pointer v82, .pointer v83]) (fun h85 =>
 LoopP (fun I86 (t87 : SliceV × Int) h88 =>
 CondP (decide (t87.2 < (e76.1.len : Int))) (
 (iBd t87.2 e76.1.len ∧ ∃ a89, e76.1.a = some a89 ∧
 ∃ v90, cAt h88 (adr a89 (t87.2.toNat * 5)) 0 (.string v90) ∧
 ∃ v91, cAt h88 (adr a89 (t87.2.toNat * 5)) 1 (.string v91) ∧
 ∃ v92, cAt h88 (adr a89 (t87.2.toNat * 5)) 2 (.string v92) ∧
 ∃ v93, cAt h88 (adr a89 (t87.2.toNat * 5)) 3 (.bool v93) ∧
 ∃ v94, cAt h88 (adr a89 (t87.2.toNat * 5)) 4 (.bool v94) ∧
 At (hnew h88 [.string (⟨#[]⟩ : ByteArray), .string (⟨#[]⟩ : ByteArray), .string (⟨#[]⟩ : ByteArray), .bool false, .bool false] t_diff_Change) (fun h95 =>
 (WrS h95 (some (newA h88)) 0 [.string v90, .string v91, .string v92, .bool v93, .bool v94] ∧
 At (hsetL h95 (newA h88) 0 [.string v90, .string v91, .string v92, .bool v93, .bool v94]) (fun h96 =>
 ∃ v97, cAt h96 (newA h88) 0 (.string v97) ∧
 ∃ v98, cAt h96 (newA h88) 1 (.string v98) ∧
 ∃ v99, cAt h96 (newA h88) 3 (.bool v99) ∧
 ∃ v100, cAt h96 (newA h1) 0 (.int .i64 v100) ∧
 ∃ v101, cAt h96 (newA h1) 1 (.int .u64 v101) ∧
 ∃ v102, cAt h96 (newA h1) 2 (.int .u64 v102) ∧
 ∃ v103, cAt h96 (newA h1) 3 (.int .u64 v103) ∧
 ∃ v104, cAt h96 (newA h1) 4 (.pointer v104) ∧
 ∃ v105, cAt h96 (newA h1) 5 (.pointer v105) ∧
 ∃ v106, cAt h96 (newA h88) 0 (.string v106) ∧
 ∃ v107, cAt h96 (newA h88) 2 (.string v107) ∧
 ∃ v108, cAt h96 (newA h88) 4 (.bool v108) ∧
 ((HC PG f_merge_Get [.agg #[.int .i64 v100, .int .u64 v101, .int .u64 v102, .int .u64 v103, .pointer v104, .pointer v105], .string v106] [.agg [.str, .bool]] (fun (e109 : ByteArray × Bool) h110 =>
 (cAt h110 (newA h88) 4 (.bool v108) ∧
 (cAt h110 (newA h88) 2 (.string v107) ∧
 (cAt h110 (newA h88) 3 (.bool v99) ∧
 (cAt h110 (newA h88) 1 (.string v98) ∧
 (cAt h110 (newA h88) 0 (.string v97) ∧
 At (hnew h110 [.string (⟨#[]⟩ : ByteArray), .string (⟨#[]⟩ : ByteArray), .bool false, .string (⟨#[]⟩ : ByteArray), .bool false, .string (⟨#[]⟩ : ByteArray), .bool false] t_merge_Conflict) (fun h111 =>
 (cAt h111 (newA h88) 4 (.bool v108) ∧
 (cAt h111 (newA h88) 2 (.string v107) ∧
 (cAt h111 (newA h88) 3 (.bool v99) ∧
 (cAt h111 (newA h88) 1 (.string v98) ∧
 (cAt h111 (newA h88) 0 (.string v97) ∧
 (WrS h111 (some (newA h110)) 0 [.string v97, .string v98, .bool v99, .string e109.1, .bool e109.2, .string v107, .bool v108] ∧
 At (hsetL h111 (newA h110) 0 [.string v97, .string v98, .bool v99, .string e109.1, .bool e109.2, .string v107, .bool v108]) (fun h112 =>
 ∃ v113, cAt h112 (adr (newA h110) 1) 0 (.string v113) ∧
 ∃ v114, cAt h112 (adr (newA h110) 1) 1 (.bool v114) ∧
 ∃ v115, cAt h112 (adr (newA h110) 3) 0 (.string v115) ∧
 ∃ v116, cAt h112 (adr (newA h110) 3) 1 (.bool v116) ∧
 ∃ v117, cAt h112 (adr (newA h110) 5) 0 (.string v117) ∧
 ∃ v118, cAt h112 (adr (newA h110) 5) 1 (.bool v118) ∧
 HC PG f_merge_Take [.agg #[.string v113, .bool v114], .agg #[.string v115, .bool v116], .agg #[.string v117, .bool v118], .int .i64 x3] [.agg [.str, .bool], .c .bool] (fun (e119 : (ByteArray × Bool) × Bool) h120 =>
 At (hnew h120 [.string (⟨#[]⟩ : ByteArray), .bool false] t_merge_Side) (fun h121 =>
 (WrS h121 (some (newA h120)) 0 [.string e119.1.1, .bool e119.1.2] ∧
 At (hsetL h121 (newA h120) 0 [.string e119.1.1, .bool e119.1.2]) (fun h122 =>
 Join (fun (t135 : SliceV) h136 =>
 ∃ v137, cAt h136 (newA h77) 0 (.int .i64 v137) ∧
 ∃ v138, cAt h136 (newA h77) 1 (.int .u64 v138) ∧
 ∃ v139, cAt h136 (newA h77) 2 (.int .u64 v139) ∧
 ∃ v140, cAt h136 (newA h77) 3 (.int .u64 v140) ∧
 ∃ v141, cAt h136 (newA h77) 4 (.pointer v141) ∧
 ∃ v142, cAt h136 (newA h77) 5 (.pointer v142) ∧
 ∃ v143, cAt h136 (newA h88) 0 (.string v143) ∧
 ∃ v144, cAt h136 (newA h120) 0 (.string v144) ∧
 ∃ v145, cAt h136 (newA h120) 1 (.bool v145) ∧
 HC PG f_merge_set [.agg #[.int .i64 v137, .int .u64 v138, .int .u64 v139, .int .u64 v140, .pointer v141, .pointer v142], .string v143, .agg #[.string v144, .bool v145]] [.agg [.int .i64, .int .u64, .int .u64, .int .u64, .ptr, .ptr]] (fun (e146 : T6) h147 =>
 (WrS h147 (some (newA h77)) 0 [.int .i64 e146.1, .int .u64 e146.2.1, .int .u64 e146.2.2.1, .int .u64 e146.2.2.2.1, .pointer e146.2.2.2.2.1, .pointer e146.2.2.2.2.2] ∧
 At (hsetL h147 (newA h77) 0 [.int .i64 e146.1, .int .u64 e146.2.1, .int .u64 e146.2.2.1, .int .u64 e146.2.2.2.1, .pointer e146.2.2.2.2.1, .pointer e146.2.2.2.2.2]) (fun h148 =>
 I86 (t135, IntKind.wrap .i64 (t87.2 + 1)) h148))) h136) (fun J123 =>
 CondP (!e119.2) (
 ∃ v124, cAt h122 (newA h110) 0 (.string v124) ∧
 ∃ v125, cAt h122 (newA h110) 1 (.string v125) ∧
 ∃ v126, cAt h122 (newA h110) 2 (.bool v126) ∧
 ∃ v127, cAt h122 (newA h110) 3 (.string v127) ∧
 ∃ v128, cAt h122 (newA h110) 4 (.bool v128) ∧
 ∃ v129, cAt h122 (newA h110) 5 (.string v129) ∧
 ∃ v130, cAt h122 (newA h110) 6 (.bool v130) ∧
 At (hnew h122 [.string v124, .string v125, .bool v126, .string v127, .bool v128, .string v129, .bool v130] t_merge_Conflict) (fun h131 =>
 ∃ xs132, SRow h131 (some (newA h122)) (1 * 7) xs132 ∧
 AppP (some [.string (⟨#[]⟩ : ByteArray), .string (⟨#[]⟩ : ByteArray), .bool false, .string (⟨#[]⟩ : ByteArray), .bool false, .string (⟨#[]⟩ : ByteArray), .bool false]) 7 88 t_merge_Conflict t87.1.a t87.1.len t87.1.cap 1 xs132 h131 (fun s133 h134 =>
 J123 s133 h134))) (
 J123 t87.1 h122)))))) h112)))))))))))))) h96) ∧
 At (hnew h96 [.string (⟨#[]⟩ : ByteArray), .string (⟨#[]⟩ : ByteArray), .bool false, .string (⟨#[]⟩ : ByteArray), .bool false, .string (⟨#[]⟩ : ByteArray), .bool false] t_merge_Conflict) (fun h149 =>
 (cAt h149 (newA h88) 4 (.bool v108) ∧
 (cAt h149 (newA h88) 2 (.string v107) ∧
 (cAt h149 (newA h88) 0 (.string v106) ∧
 ((cAt h149 (newA h1) 0 (.int .i64 v100) ∧ cAt h149 (newA h1) 1 (.int .u64 v101) ∧ cAt h149 (newA h1) 2 (.int .u64 v102) ∧ cAt h149 (newA h1) 3 (.int .u64 v103) ∧ cAt h149 (newA h1) 4 (.pointer v104) ∧ cAt h149 (newA h1) 5 (.pointer v105)) ∧
 (cAt h149 (newA h88) 3 (.bool v99) ∧
 (cAt h149 (newA h88) 1 (.string v98) ∧
 (cAt h149 (newA h88) 0 (.string v97) ∧
 HC PG f_merge_Get [.agg #[.int .i64 v100, .int .u64 v101, .int .u64 v102, .int .u64 v103, .pointer v104, .pointer v105], .string v106] [.agg [.str, .bool]] (fun (e150 : ByteArray × Bool) h151 =>
 (cAt h151 (newA h88) 4 (.bool v108) ∧
 (cAt h151 (newA h88) 2 (.string v107) ∧
 (cAt h151 (newA h88) 3 (.bool v99) ∧
 (cAt h151 (newA h88) 1 (.string v98) ∧
 (cAt h151 (newA h88) 0 (.string v97) ∧
 (WrS h151 (some (newA h96)) 0 [.string v97, .string v98, .bool v99, .string e150.1, .bool e150.2, .string v107, .bool v108] ∧
 At (hsetL h151 (newA h96) 0 [.string v97, .string v98, .bool v99, .string e150.1, .bool e150.2, .string v107, .bool v108]) (fun h152 =>
 ∃ v153, cAt h152 (adr (newA h96) 1) 0 (.string v153) ∧
 ∃ v154, cAt h152 (adr (newA h96) 1) 1 (.bool v154) ∧
 ∃ v155, cAt h152 (adr (newA h96) 3) 0 (.string v155) ∧
 ∃ v156, cAt h152 (adr (newA h96) 3) 1 (.bool v156) ∧
 ∃ v157, cAt h152 (adr (newA h96) 5) 0 (.string v157) ∧
 ∃ v158, cAt h152 (adr (newA h96) 5) 1 (.bool v158) ∧
 HC PG f_merge_Take [.agg #[.string v153, .bool v154], .agg #[.string v155, .bool v156], .agg #[.string v157, .bool v158], .int .i64 x3] [.agg [.str, .bool], .c .bool] (fun (e159 : (ByteArray × Bool) × Bool) h160 =>
 At (hnew h160 [.string (⟨#[]⟩ : ByteArray), .bool false] t_merge_Side) (fun h161 =>
 (WrS h161 (some (newA h160)) 0 [.string e159.1.1, .bool e159.1.2] ∧
 At (hsetL h161 (newA h160) 0 [.string e159.1.1, .bool e159.1.2]) (fun h162 =>
 Join (fun (t175 : SliceV) h176 =>
 ∃ v177, cAt h176 (newA h77) 0 (.int .i64 v177) ∧
 ∃ v178, cAt h176 (newA h77) 1 (.int .u64 v178) ∧
 ∃ v179, cAt h176 (newA h77) 2 (.int .u64 v179) ∧
 ∃ v180, cAt h176 (newA h77) 3 (.int .u64 v180) ∧
 ∃ v181, cAt h176 (newA h77) 4 (.pointer v181) ∧
 ∃ v182, cAt h176 (newA h77) 5 (.pointer v182) ∧
 ∃ v183, cAt h176 (newA h88) 0 (.string v183) ∧
 ∃ v184, cAt h176 (newA h160) 0 (.string v184) ∧
 ∃ v185, cAt h176 (newA h160) 1 (.bool v185) ∧
 HC PG f_merge_set [.agg #[.int .i64 v177, .int .u64 v178, .int .u64 v179, .int .u64 v180, .pointer v181, .pointer v182], .string v183, .agg #[.string v184, .bool v185]] [.agg [.int .i64, .int .u64, .int .u64, .int .u64, .ptr, .ptr]] (fun (e186 : T6) h187 =>
 (WrS h187 (some (newA h77)) 0 [.int .i64 e186.1, .int .u64 e186.2.1, .int .u64 e186.2.2.1, .int .u64 e186.2.2.2.1, .pointer e186.2.2.2.2.1, .pointer e186.2.2.2.2.2] ∧
 At (hsetL h187 (newA h77) 0 [.int .i64 e186.1, .int .u64 e186.2.1, .int .u64 e186.2.2.1, .int .u64 e186.2.2.2.1, .pointer e186.2.2.2.2.1, .pointer e186.2.2.2.2.2]) (fun h188 =>
 I86 (t175, IntKind.wrap .i64 (t87.2 + 1)) h188))) h176) (fun J163 =>
 CondP (!e159.2) (
 ∃ v164, cAt h162 (newA h96) 0 (.string v164) ∧
 ∃ v165, cAt h162 (newA h96) 1 (.string v165) ∧
 ∃ v166, cAt h162 (newA h96) 2 (.bool v166) ∧
 ∃ v167, cAt h162 (newA h96) 3 (.string v167) ∧
 ∃ v168, cAt h162 (newA h96) 4 (.bool v168) ∧
 ∃ v169, cAt h162 (newA h96) 5 (.string v169) ∧
 ∃ v170, cAt h162 (newA h96) 6 (.bool v170) ∧
 At (hnew h162 [.string v164, .string v165, .bool v166, .string v167, .bool v168, .string v169, .bool v170] t_merge_Conflict) (fun h171 =>
 ∃ xs172, SRow h171 (some (newA h162)) (1 * 7) xs172 ∧
 AppP (some [.string (⟨#[]⟩ : ByteArray), .string (⟨#[]⟩ : ByteArray), .bool false, .string (⟨#[]⟩ : ByteArray), .bool false, .string (⟨#[]⟩ : ByteArray), .bool false]) 7 88 t_merge_Conflict t87.1.a t87.1.len t87.1.cap 1 xs172 h171 (fun s173 h174 =>
 J163 s173 h174))) (
 J163 t87.1 h162)))))) h152)))))))) h149)))))))))))))) (
 Join (fun (t190 : Bool) h191 =>
 CondP t190 (
 ∃ v192, cAt h191 (newA h1) 0 (.int .i64 v192) ∧
 ∃ v193, cAt h191 (newA h1) 1 (.int .u64 v193) ∧
 ∃ v194, cAt h191 (newA h1) 2 (.int .u64 v194) ∧
 ∃ v195, cAt h191 (newA h1) 3 (.int .u64 v195) ∧
 ∃ v196, cAt h191 (newA h1) 4 (.pointer v196) ∧
 ∃ v197, cAt h191 (newA h1) 5 (.pointer v197) ∧
 (WrS h191 (some (newA h3)) 0 [.int .i64 v192, .int .u64 v193, .int .u64 v194, .int .u64 v195, .pointer v196, .pointer v197] ∧
 At (hsetL h191 (newA h3) 0 [.int .i64 v192, .int .u64 v193, .int .u64 v194, .int .u64 v195, .pointer v196, .pointer v197]) (fun h198 =>
 ∃ v199, cAt h198 (newA h3) 0 (.int .i64 v199) ∧
 ∃ v200, cAt h198 (newA h3) 1 (.int .u64 v200) ∧
 ∃ v201, cAt h198 (newA h3) 2 (.int .u64 v201) ∧
 ∃ v202, cAt h198 (newA h3) 3 (.int .u64 v202) ∧
 ∃ v203, cAt h198 (newA h3) 4 (.pointer v203) ∧
 ∃ v204, cAt h198 (newA h3) 5 (.pointer v204) ∧
 K ((v199, v200, v201, v202, v203, v204), t87.1, 8) h198))) (
 ∃ v205, cAt h191 (newA h77) 0 (.int .i64 v205) ∧
 ∃ v206, cAt h191 (newA h77) 1 (.int .u64 v206) ∧
 ∃ v207, cAt h191 (newA h77) 2 (.int .u64 v207) ∧
 ∃ v208, cAt h191 (newA h77) 3 (.int .u64 v208) ∧
 ∃ v209, cAt h191 (newA h77) 4 (.pointer v209) ∧
 ∃ v210, cAt h191 (newA h77) 5 (.pointer v210) ∧
 (WrS h191 (some (newA h3)) 0 [.int .i64 v205, .int .u64 v206, .int .u64 v207, .int .u64 v208, .pointer v209, .pointer v210] ∧
 At (hsetL h191 (newA h3) 0 [.int .i64 v205, .int .u64 v206, .int .u64 v207, .int .u64 v208, .pointer v209, .pointer v210]) (fun h211 =>
 ∃ v212, cAt h211 (newA h3) 0 (.int .i64 v212) ∧
 ∃ v213, cAt h211 (newA h3) 1 (.int .u64 v213) ∧
 ∃ v214, cAt h211 (newA h3) 2 (.int .u64 v214) ∧
 ∃ v215, cAt h211 (newA h3) 3 (.int .u64 v215) ∧
 ∃ v216, cAt h211 (newA h3) 4 (.pointer v216) ∧
 ∃ v217, cAt h211 (newA h3) 5 (.pointer v217) ∧
 K ((v212, v213, v214, v215, v216, v217), t87.1, 0) h211)))) (fun J189 =>
 CondP (x3 == (0 : Int)) (
 J189 (decide ((t87.1.len : Int) > (0 : Int))) h88) (
 J189 false h88)))) (⟨none, 0, 0⟩, 0) h85)))) h50)) (fun J20 =>
 ∃ v21, cAt h6 (newA h0) 0 (.int .i64 v21) ∧
 ∃ v22, cAt h6 (newA h0) 1 (.int .u64 v22) ∧
 ∃ v23, cAt h6 (newA h0) 2 (.int .u64 v23) ∧
 ∃ v24, cAt h6 (newA h0) 3 (.int .u64 v24) ∧
 ∃ v25, cAt h6 (newA h0) 4 (.pointer v25) ∧
 ∃ v26, cAt h6 (newA h0) 5 (.pointer v26) ∧
 ∃ v27, cAt h6 (newA h1) 0 (.int .i64 v27) ∧
 ∃ v28, cAt h6 (newA h1) 1 (.int .u64 v28) ∧
 ∃ v29, cAt h6 (newA h1) 2 (.int .u64 v29) ∧
 ∃ v30, cAt h6 (newA h1) 3 (.int .u64 v30) ∧
 ∃ v31, cAt h6 (newA h1) 4 (.pointer v31) ∧
 ∃ v32, cAt h6 (newA h1) 5 (.pointer v32) ∧
 HC PG f_tree_Like [.agg #[.int .i64 v21, .int .u64 v22, .int .u64 v23, .int .u64 v24, .pointer v25, .pointer v26], .agg #[.int .i64 v27, .int .u64 v28, .int .u64 v29, .int .u64 v30, .pointer v31, .pointer v32]] [.c .bool] (fun (e33 : Bool) h34 =>
 CondP (!e33) (
 J20 true h34) (
 ∃ v35, cAt h34 (newA h0) 0 (.int .i64 v35) ∧
 ∃ v36, cAt h34 (newA h0) 1 (.int .u64 v36) ∧
 ∃ v37, cAt h34 (newA h0) 2 (.int .u64 v37) ∧
 ∃ v38, cAt h34 (newA h0) 3 (.int .u64 v38) ∧
 ∃ v39, cAt h34 (newA h0) 4 (.pointer v39) ∧
 ∃ v40, cAt h34 (newA h0) 5 (.pointer v40) ∧
 ∃ v41, cAt h34 (newA h2) 0 (.int .i64 v41) ∧
 ∃ v42, cAt h34 (newA h2) 1 (.int .u64 v42) ∧
 ∃ v43, cAt h34 (newA h2) 2 (.int .u64 v43) ∧
 ∃ v44, cAt h34 (newA h2) 3 (.int .u64 v44) ∧
 ∃ v45, cAt h34 (newA h2) 4 (.pointer v45) ∧
 ∃ v46, cAt h34 (newA h2) 5 (.pointer v46) ∧
 HC PG f_tree_Like [.agg #[.int .i64 v35, .int .u64 v36, .int .u64 v37, .int .u64 v38, .pointer v39, .pointer v40], .agg #[.int .i64 v41, .int .u64 v42, .int .u64 v43, .int .u64 v44, .pointer v45, .pointer v46]] [.c .bool] (fun (e47 : Bool) h48 =>
 J20 (!e47) h48) h34)) h6))) h4))))
noncomputable def A_merge_Of : Ann := .node (.reg [3,4,5,6,8] (.nil)) (.node (.node (.reg [3,4,5,6,8,20] (.nil)) (.node (.node (.reg [8,9,10] (.nil)) (.nil)) (.join [3,4,5,6,8] [(25,.c .bool)] (.reg [3,4,5,6,8,25] (.nil)) (.node (.node (.reg [8,9,10] (.nil)) (.nil)) (.nil))))) (.node (.reg [3,5,8,11] (.nil)) (.node (.reg [3,5,8,11,13] (.nil)) (.node (.reg [3,5,8,11,13,14] (.nil)) (.node (.node (.reg [3,5,8,13,14,44,45,46] (.nil)) (.loop [3,5,8,13,44,45] [(14,.c .slice),(46,.c (.int .i64))] (.node (.reg [3,5,8,13,14,44,45,46,47] (.nil)) (.node (.nil) (.node (.node (.reg [3,5,8,13,14,16,44,45,46] (.nil)) (.node (.reg [3,5,8,13,14,16,17,44,45,46] (.draw (dl 19 [dm [] [16] 51,dm [0] [50] 52,dm [] [16] 53,dm [2] [52] 54,dm [] [16] 55,dm [4] [54] 56,dm [3,5] [53,55] 57,dm [] [5] 58,dm [] [16] 59,dm [8] [58] 60,dm [7,9] [57,59] 61,dm [] [16] 62,dm [11] [61] 63,dm [] [16] 64,dm [13] [63] 65,dm [12,14] [62,64] 66,dm [1,6,10,15] [51,56,60,65] 67,dm [] [] 18,dn [0,1,2,3,4,5,6,7,8,9,10,11,12,13,14,15,16,17] [16,17] [17,66] 0]) (tk [0,1,2,3,4,5,6,7,8,9,11,12,13,14,15] (.all (.pick 10 (.take 16 (.all (.lastT 17 (.all (.lastT 18 (.done)))))) (.last 17 (.all (.lastT 10 (.take 16 (.all (.lastT 18 (.done)))))))))))) (.node (.reg [3,5,8,13,14,16,17,18,19,44,45,46] (.nil)) (.join [3,5,8,13,16,18,44,45,46] [(14,.c .slice)] (.node (.reg [3,5,8,13,14,16,17,18,44,45,46,79] (.nil)) (.node (.reg [3,5,8,13,14,16,18,44,45,46] (.nil)) (.nil))) (.reg [3,5,8,13,14,44,45,46] (.nil)))))) (.reg [3,5,8,13,14,44,45,46] (.nil))))))) (.node (.join [5,8,13,14] [(96,.c .bool)] (.reg [5,8,13,14,96] (.nil)) (.node (.node (.reg [8,9,10] (.nil)) (.nil)) (.nil))) (.node (.reg [8,9,10] (.nil)) (.nil))))))))
theorem H_merge_Of (x0 : T6) (x1 : T6) (x2 : T6) (x3 : Int) {K : Tup [.agg [.int .i64, .int .u64, .int .u64, .int .u64, .ptr, .ptr], .c .slice, .c (.int .i64)] → Heap → Prop} {h0 : Heap} (h : F_merge_Of x0 x1 x2 x3 K h0) : HC PG f_merge_Of [.agg #[.int .i64 x0.1, .int .u64 x0.2.1, .int .u64 x0.2.2.1, .int .u64 x0.2.2.2.1, .pointer x0.2.2.2.2.1, .pointer x0.2.2.2.2.2], .agg #[.int .i64 x1.1, .int .u64 x1.2.1, .int .u64 x1.2.2.1, .int .u64 x1.2.2.2.1, .pointer x1.2.2.2.2.1, .pointer x1.2.2.2.2.2], .agg #[.int .i64 x2.1, .int .u64 x2.2.1, .int .u64 x2.2.2.1, .int .u64 x2.2.2.2.1, .pointer x2.2.2.2.2.1, .pointer x2.2.2.2.2.2], .int .i64 x3] [.agg [.int .i64, .int .u64, .int .u64, .int .u64, .ptr, .ptr], .c .slice, .c (.int .i64)] K h0 := HC.intro (an := A_merge_Of) (c := Tryz.f39.body.getD .skip) Tryz.mixed Tryz.func39 rfl Tryz.call39 (Nat.le_of_ble_eq_true rfl) (cst (by kernel_rfl) h)
def F_tree_Tree_Pairs (x0 : T6) (K : (SliceV) → Heap → Prop) (h0 : Heap) : Prop :=
 At (hnew h0 [.int .i64 x0.1, .int .u64 x0.2.1, .int .u64 x0.2.2.1, .int .u64 x0.2.2.2.1, .pointer x0.2.2.2.2.1, .pointer x0.2.2.2.2.2] t_tree_Tree) (fun h1 =>
 ∃ v2, cAt h1 (newA h0) 0 (.int .i64 v2) ∧
 CondP (v2 == (1 : Int)) (
 ∃ v3, cAt h1 (newA h0) 5 (.pointer v3) ∧
 HC PG f_span_All [] [.agg [.str, .str, .bool]] (fun (e4 : ByteArray × ByteArray × Bool) h5 =>
 (cAt h5 (newA h0) 5 (.pointer v3) ∧
 HC PG f_span_Pairs [.pointer v3, .agg #[.string e4.1, .string e4.2.1, .bool e4.2.2]] [.c .slice] (fun (e6 : SliceV) h7 =>
 K e6 h7) h5)) h1) (
 ∃ v8, cAt h1 (newA h0) 4 (.pointer v8) ∧
 HC PG f_walk_Sorted [.pointer v8] [.c .slice] (fun (e9 : SliceV) h10 =>
 K e9 h10) h1))
noncomputable def A_tree_Tree_Pairs : Ann := .node (.reg [1] (.nil)) (.node (.node (.reg [1,5] (.nil)) (.node (.node (.reg [2] (.draw (dl 5 [dm [] [1] 7,dm [0] [6] 8,dm [] [] 9,dm [1,2] [7,8] 10,dn [0,1,2,3] [3] [9] 3]) (.take 0 (.take 1 (.all (.last 2 (.all (.last 3 (.take 4 (.done)))))))))) (.nil)) (.nil))) (.node (.reg [2] (.nil)) (.nil)))
theorem H_tree_Tree_Pairs (x0 : T6) {K : Tup [.c .slice] → Heap → Prop} {h0 : Heap} (h : F_tree_Tree_Pairs x0 K h0) : HC PG f_tree_Tree_Pairs [.agg #[.int .i64 x0.1, .int .u64 x0.2.1, .int .u64 x0.2.2.1, .int .u64 x0.2.2.2.1, .pointer x0.2.2.2.2.1, .pointer x0.2.2.2.2.2]] [.c .slice] K h0 := HC.intro (an := A_tree_Tree_Pairs) (c := Tryz.f40.body.getD .skip) Tryz.mixed Tryz.func40 rfl Tryz.call40 (Nat.le_of_ble_eq_true rfl) (cst (by kernel_rfl) h)
def F_slices_Index_A_merge_Side_merge_Side (x0 : SliceV) (x1 : ByteArray × Bool) (K : (Int) → Heap → Prop) (h0 : Heap) : Prop :=
 At (hnew h0 [.string x1.1, .bool x1.2] t_merge_Side) (fun h1 =>
 LoopP (fun I2 (t3 : Int) h4 =>
 CondP (decide (t3 < (x0.len : Int))) (
 ∃ v5, cAt h4 (newA h0) 0 (.string v5) ∧
 ∃ v6, cAt h4 (newA h0) 1 (.bool v6) ∧
 (iBd t3 x0.len ∧ ∃ a7, x0.a = some a7 ∧
 ∃ v8, cAt h4 (adr a7 (t3.toNat * 2)) 0 (.string v8) ∧
 ∃ v9, cAt h4 (adr a7 (t3.toNat * 2)) 1 (.bool v9) ∧
 CondP ((v5.toList == v8.toList) && ((v6 == v9) && true)) (
 K t3 h4) (
 I2 (IntKind.wrap .i64 (t3 + 1)) h4))) (
 K (-1) h4)) 0 h1)
noncomputable def A_slices_Index_A_merge_Side_merge_Side : Ann := .node (.reg [0,3] (.nil)) (.node (.node (.reg [0,3,7,8] (.nil)) (.loop [0,3,7] [(8,.c (.int .i64))] (.node (.reg [0,3,7,8,9] (.nil)) (.node (.nil) (.node (.node (.reg [0,3,5,7,8] (.nil)) (.node (.reg [0,3,5,7,8,16] (.draw (dl 6 [dm [] [3] 12,dm [] [0] 13,dm [] [5] 14,dm [1,2] [12,13] 15,dm [3] [14] 16,dm [0,4] [11,15] 17]) (tr 0 6 (.done)))) (.node (.node (.reg [4] (.nil)) (.nil)) (.nil)))) (.reg [0,3,7,8] (.nil))))))) (.node (.reg [4] (.nil)) (.nil)))
theorem H_slices_Index_A_merge_Side_merge_Side (x0 : SliceV) (x1 : ByteArray × Bool) {K : Tup [.c (.int .i64)] → Heap → Prop} {h0 : Heap} (h : F_slices_Index_A_merge_Side_merge_Side x0 x1 K h0) : HC PG f_slices_Index_A_merge_Side_merge_Side [.slice x0.a x0.len x0.cap, .agg #[.string x1.1, .bool x1.2]] [.c (.int .i64)] K h0 := HC.intro (an := A_slices_Index_A_merge_Side_merge_Side) (c := Tryz.f41.body.getD .skip) Tryz.mixed Tryz.func41 rfl Tryz.call41 (Nat.le_of_ble_eq_true rfl) (cst (by kernel_rfl) h)
def F_pair_Right (x0 : ByteArray) (x1 : ByteArray) (K : (Int) → Heap → Prop) (h0 : Heap) : Prop :=
 CondP (decide ((x0.size : Int) > (256 : Int))) (
 K 2 h0) (
 CondP (decide ((x1.size : Int) > (4096 : Int))) (
 K 3 h0) (
 K 0 h0))
noncomputable def A_pair_Right : Ann := .node (.reg [0,1] (.nil)) (.node (.node (.reg [1,5] (.nil)) (.node (.node (.reg [4] (.nil)) (.nil)) (.node (.reg [9] (.nil)) (.node (.node (.reg [4] (.nil)) (.nil)) (.nil))))) (.node (.reg [4] (.nil)) (.nil)))
theorem H_pair_Right (x0 : ByteArray) (x1 : ByteArray) {K : Tup [.c (.int .i64)] → Heap → Prop} {h0 : Heap} (h : F_pair_Right x0 x1 K h0) : HC PG f_pair_Right [.string x0, .string x1] [.c (.int .i64)] K h0 := HC.intro (an := A_pair_Right) (c := Tryz.f42.body.getD .skip) Tryz.mixed Tryz.func42 rfl Tryz.call42 (Nat.le_of_ble_eq_true rfl) (cst (by kernel_rfl) h)
def F_tree_OfRadix (x0 : Option Addr) (K : (T6) → Heap → Prop) (h0 : Heap) : Prop :=
 At (hnew h0 [.int .i64 0, .int .u64 0, .int .u64 0, .int .u64 0, .pointer none, .pointer none] t_tree_Tree) (fun h1 =>
 Join (fun (t5 : Option Addr) h6 =>
 (WrS h6 (some (newA h0)) 0 [.int .i64 1, .int .u64 0, .int .u64 0, .int .u64 0, .pointer none, .pointer t5] ∧
 At (hsetL h6 (newA h0) 0 [.int .i64 1, .int .u64 0, .int .u64 0, .int .u64 0, .pointer none, .pointer t5]) (fun h7 =>
 ∃ v8, cAt h7 (newA h0) 0 (.int .i64 v8) ∧
 ∃ v9, cAt h7 (newA h0) 1 (.int .u64 v9) ∧
 ∃ v10, cAt h7 (newA h0) 2 (.int .u64 v10) ∧
 ∃ v11, cAt h7 (newA h0) 3 (.int .u64 v11) ∧
 ∃ v12, cAt h7 (newA h0) 4 (.pointer v12) ∧
 ∃ v13, cAt h7 (newA h0) 5 (.pointer v13) ∧
 K (v8, v9, v10, v11, v12, v13) h7))) (fun J2 =>
 CondP x0.isNone (
 HC PG f_radix_Empty [] [.c .ptr] (fun (e3 : Option Addr) h4 =>
 J2 e3 h4) h1) (
 J2 x0 h1)))
noncomputable def A_tree_OfRadix : Ann := .node (.reg [0,2] (.nil)) (.join [2] [(0,.c .ptr)] (.node (.reg [0,2,4] (.nil)) (.node (.reg [0,2] (.nil)) (.nil))) (.node (.reg [2] (.nil)) (.nil)))
theorem H_tree_OfRadix (x0 : Option Addr) {K : Tup [.agg [.int .i64, .int .u64, .int .u64, .int .u64, .ptr, .ptr]] → Heap → Prop} {h0 : Heap} (h : F_tree_OfRadix x0 K h0) : HC PG f_tree_OfRadix [.pointer x0] [.agg [.int .i64, .int .u64, .int .u64, .int .u64, .ptr, .ptr]] K h0 := HC.intro (an := A_tree_OfRadix) (c := Tryz.f43.body.getD .skip) Tryz.mixed Tryz.func43 rfl Tryz.call43 (Nat.le_of_ble_eq_true rfl) (cst (by kernel_rfl) h)
def F_build_Radix (x0 : SliceV) (K : (Option Addr) → Heap → Prop) (h0 : Heap) : Prop :=
 HC PG f_pair_Sorted [.slice x0.a x0.len x0.cap] [.c .slice] (fun (e1 : SliceV) h2 =>
 Join (fun (t6 : ByteArray × Bool) h7 =>
 Join (fun (t11 : SliceV × ByteArray) h12 =>
 HC PG f_build_kids [.slice t11.1.a t11.1.len t11.1.cap, .int .i64 0] [.c .slice] (fun (e13 : SliceV) h14 =>
 HC PG f_radix_Make [.string (⟨#[]⟩ : ByteArray), .bool t6.2, .string t11.2, .slice e13.a e13.len e13.cap] [.c .ptr] (fun (e15 : Option Addr) h16 =>
 K e15 h16) h14) h12) (fun J8 =>
 CondP t6.2 (
 (iBd 0 e1.len ∧ ∃ a9, e1.a = some a9 ∧
 ∃ v10, cAt h7 (adr a9 ((0 : Int).toNat * 2)) 1 (.string v10) ∧
 (((0 : Int) ≤ (1 : Int) ∧ (1 : Int) ≤ ((e1.len : Nat) : Int)) ∧
 J8 (⟨subAddr e1.a ((1 : Int).toNat) e1.cap 2, e1.len - ((1 : Int).toNat), e1.cap - ((1 : Int).toNat)⟩, v10) h7))) (
 J8 (e1, t6.1) h7))) (fun J3 =>
 CondP (decide ((e1.len : Int) > (0 : Int))) (
 (iBd 0 e1.len ∧ ∃ a4, e1.a = some a4 ∧
 ∃ v5, cAt h2 (adr a4 ((0 : Int).toNat * 2)) 0 (.string v5) ∧
 J3 ((⟨#[]⟩ : ByteArray), v5.toList == (⟨#[]⟩ : ByteArray).toList) h2)) (
 J3 ((⟨#[]⟩ : ByteArray), false) h2))) h0
noncomputable def A_build_Radix : Ann := .node (.reg [0] (.nil)) (.node (.reg [0] (.nil)) (.join [0] [(3,.c .str),(4,.c .bool)] (.reg [0,3,4] (.draw (dl 12 [dm [] [0] 8,dm [0] [7] 9,dm [1] [8] 10,dm [2] [9] 11,dm [3] [0,10] 12,dm [3,4] [10,11] 13,dm [3,5] [10,12] 14,dm [3,6] [10,13] 15,dm [3,7] [10,14] 16,dm [3,8] [10,15] 17,dn [3] [] [] 4,dn [0,1,2,3,4,5,6,7,8,9,10] [9] [16] 5]) (tk [0,1,2,3,10] (.split 10 (tk [4,5,6,7,8,9,11] (.done)) (tk [4,5,6,7,8,9,11] (.done)))))) (.join [4] [(0,.c .slice),(3,.c .str)] (.node (.reg [0,3,4,17] (.nil)) (.node (.reg [0,3,4] (.draw (dl 8 [dm [] [0] 19,dm [0] [18] 20,dm [1] [19] 21,dm [2] [20] 22,dm [] [0] 23,dm [4] [22] 24,dn [0,1,2,3] [3] [21] 4,dn [0,1,2,3,4,5,6] [0,4,5] [23] 1]) (tr 0 8 (.done)))) (.nil))) (.node (.reg [2] (.nil)) (.nil)))))
theorem H_build_Radix (x0 : SliceV) {K : Tup [.c .ptr] → Heap → Prop} {h0 : Heap} (h : F_build_Radix x0 K h0) : HC PG f_build_Radix [.slice x0.a x0.len x0.cap] [.c .ptr] K h0 := HC.intro (an := A_build_Radix) (c := Tryz.f44.body.getD .skip) Tryz.mixed Tryz.func44 rfl Tryz.call44 (Nat.le_of_ble_eq_true rfl) (cst (by kernel_rfl) h)
def F_tree_OfChamp (x0 : Int × Int × Int) (x1 : Option Addr) (K : (T6) → Heap → Prop) (h0 : Heap) : Prop :=
 At (hnew h0 [.int .u64 x0.1, .int .u64 x0.2.1, .int .u64 x0.2.2] t_sip_Hasher) (fun h1 =>
 At (hnew h1 [.int .i64 0, .int .u64 0, .int .u64 0, .int .u64 0, .pointer none, .pointer none] t_tree_Tree) (fun h2 =>
 Join (fun (t6 : Option Addr) h7 =>
 ∃ v8, cAt h7 (newA h0) 0 (.int .u64 v8) ∧
 ∃ v9, cAt h7 (newA h0) 1 (.int .u64 v9) ∧
 ∃ v10, cAt h7 (newA h0) 2 (.int .u64 v10) ∧
 (WrS h7 (some (newA h1)) 0 [.int .i64 0, .int .u64 v8, .int .u64 v9, .int .u64 v10, .pointer t6, .pointer none] ∧
 At (hsetL h7 (newA h1) 0 [.int .i64 0, .int .u64 v8, .int .u64 v9, .int .u64 v10, .pointer t6, .pointer none]) (fun h11 =>
 ∃ v12, cAt h11 (newA h1) 0 (.int .i64 v12) ∧
 ∃ v13, cAt h11 (newA h1) 1 (.int .u64 v13) ∧
 ∃ v14, cAt h11 (newA h1) 2 (.int .u64 v14) ∧
 ∃ v15, cAt h11 (newA h1) 3 (.int .u64 v15) ∧
 ∃ v16, cAt h11 (newA h1) 4 (.pointer v16) ∧
 ∃ v17, cAt h11 (newA h1) 5 (.pointer v17) ∧
 K (v12, v13, v14, v15, v16, v17) h11))) (fun J3 =>
 CondP x1.isNone (
 HC PG f_champ_Empty [] [.c .ptr] (fun (e4 : Option Addr) h5 =>
 J3 e4 h5) h2) (
 J3 x1 h2))))
noncomputable def A_tree_OfChamp : Ann := .node (.reg [1,2,4] (.nil)) (.join [2,4] [(1,.c .ptr)] (.node (.reg [1,2,4,6] (.nil)) (.node (.reg [1,2,4] (.nil)) (.nil))) (.node (.reg [4] (.nil)) (.nil)))
theorem H_tree_OfChamp (x0 : Int × Int × Int) (x1 : Option Addr) {K : Tup [.agg [.int .i64, .int .u64, .int .u64, .int .u64, .ptr, .ptr]] → Heap → Prop} {h0 : Heap} (h : F_tree_OfChamp x0 x1 K h0) : HC PG f_tree_OfChamp [.agg #[.int .u64 x0.1, .int .u64 x0.2.1, .int .u64 x0.2.2], .pointer x1] [.agg [.int .i64, .int .u64, .int .u64, .int .u64, .ptr, .ptr]] K h0 := HC.intro (an := A_tree_OfChamp) (c := Tryz.f45.body.getD .skip) Tryz.mixed Tryz.func45 rfl Tryz.call45 (Nat.le_of_ble_eq_true rfl) (cst (by kernel_rfl) h)
def F_build_Champ (x0 : Int × Int × Int) (x1 : SliceV) (K : (Option Addr) → Heap → Prop) (h0 : Heap) : Prop :=
 At (hnew h0 [.int .u64 x0.1, .int .u64 x0.2.1, .int .u64 x0.2.2] t_sip_Hasher) (fun h1 =>
 HC PG f_pair_Sorted [.slice x1.a x1.len x1.cap] [.c .slice] (fun (e2 : SliceV) h3 =>
 LoopP (fun I4 (t5 : SliceV × Int) h6 =>
 CondP (decide (t5.2 < (e2.len : Int))) (
 Join (fun (t25 : SliceV) h26 =>
 I4 (t25, IntKind.wrap .i64 (t5.2 + 1)) h26) (fun J7 =>
 (iBd t5.2 e2.len ∧ ∃ a8, e2.a = some a8 ∧
 ∃ v9, cAt h6 (adr a8 (t5.2.toNat * 2)) 0 (.string v9) ∧
 ∃ v10, cAt h6 (adr a8 (t5.2.toNat * 2)) 1 (.string v10) ∧
 At (hnew h6 [.string (⟨#[]⟩ : ByteArray), .string (⟨#[]⟩ : ByteArray)] t_pair_Pair) (fun h11 =>
 (WrS h11 (some (newA h6)) 0 [.string v9, .string v10] ∧
 At (hsetL h11 (newA h6) 0 [.string v9, .string v10]) (fun h12 =>
 ∃ v13, cAt h12 (newA h6) 0 (.string v13) ∧
 ∃ v14, cAt h12 (newA h6) 1 (.string v14) ∧
 ∃ v15, cAt h12 (newA h0) 0 (.int .u64 v15) ∧
 ∃ v16, cAt h12 (newA h0) 1 (.int .u64 v16) ∧
 ∃ v17, cAt h12 (newA h0) 2 (.int .u64 v17) ∧
 ∃ v18, cAt h12 (newA h6) 0 (.string v18) ∧
 HC PG f_sip_Hasher_Hash [.agg #[.int .u64 v15, .int .u64 v16, .int .u64 v17], .string v18] [.c (.int .u64)] (fun (e19 : Int) h20 =>
 ((cAt h20 (newA h6) 0 (.string v13) ∧ cAt h20 (newA h6) 1 (.string v14)) ∧
 At (hnew h20 [.string v13, .string v14, .int .u64 e19] t_build_hashed) (fun h21 =>
 ∃ xs22, SRow h21 (some (newA h20)) (1 * 3) xs22 ∧
 AppP (some [.string (⟨#[]⟩ : ByteArray), .string (⟨#[]⟩ : ByteArray), .int .u64 0]) 3 40 t_build_hashed t5.1.a t5.1.len t5.1.cap 1 xs22 h21 (fun s23 h24 =>
 J7 s23 h24)))) h12)))))) (
 HC PG f_build_trie [.slice t5.1.a t5.1.len t5.1.cap, .int .i64 0] [.c .ptr] (fun (e27 : Option Addr) h28 =>
 K e27 h28) h6)) (⟨none, 0, 0⟩, 0) h3) h1)
noncomputable def A_build_Champ : Ann := .node (.reg [1,2] (.nil)) (.node (.reg [1,2,5] (.nil)) (.node (.node (.reg [2,5,9,10,11] (.nil)) (.loop [2,9,10] [(5,.c .slice),(11,.c (.int .i64))] (.node (.reg [2,5,9,10,11,12] (.nil)) (.node (.nil) (.join [2,9,10,11] [(5,.c .slice)] (.node (.reg [2,5,7,9,10,11] (.nil)) (.reg [2,5,9,10,11] (.draw (dl 10 [dm [] [5] 16,dm [] [7] 17,dm [] [2] 18,dm [] [7] 19,dm [3] [18] 20,dm [2,4] [17,19] 21,dm [1,5] [16,20] 22,dm [6] [21] 23,dn [0,5,7] [0,7] [15,22] 24,dn [0,1,2,3,4,5,6,7,8] [0,8] [23] 6]) (tr 0 5 (.all (.lastT 5 (.take 6 (.all (.lastT 7 (.all (.lastT 8 (.take 9 (.done))))))))))))) (.reg [2,5,9,10,11] (.nil))))))) (.node (.reg [4] (.nil)) (.nil))))
theorem H_build_Champ (x0 : Int × Int × Int) (x1 : SliceV) {K : Tup [.c .ptr] → Heap → Prop} {h0 : Heap} (h : F_build_Champ x0 x1 K h0) : HC PG f_build_Champ [.agg #[.int .u64 x0.1, .int .u64 x0.2.1, .int .u64 x0.2.2], .slice x1.a x1.len x1.cap] [.c .ptr] K h0 := HC.intro (an := A_build_Champ) (c := Tryz.f46.body.getD .skip) Tryz.mixed Tryz.func46 rfl Tryz.call46 (Nat.le_of_ble_eq_true rfl) (cst (by kernel_rfl) h)
def F_radix_Put (x0 : Option Addr) (x1 : Option Addr) (x2 : ByteArray × ByteArray) (K : ((Option Addr) × Bool) → Heap → Prop) (h0 : Heap) : Prop :=
 At (hnew h0 [.string x2.1, .string x2.2] t_pair_Pair) (fun h1 =>
 ∃ v2, cAt h1 (newA h0) 0 (.string v2) ∧
 ∃ v3, cAt h1 (newA h0) 1 (.string v3) ∧
 HC PG f_radix_some [.pointer x1] [.c .ptr] (fun (e4 : Option Addr) h5 =>
 (cAt h5 (newA h0) 1 (.string v3) ∧
 (cAt h5 (newA h0) 0 (.string v2) ∧
 HC PG f_radix_Node_put [.pointer e4, .pointer x0, .string v2, .string v3] [.c .ptr, .c .bool, .c .bool] (fun (e6 : (Option Addr) × Bool × Bool) h7 =>
 K (e6.1, e6.2.1) h7) h5))) h1)
noncomputable def A_radix_Put : Ann := .node (.reg [0,1,5] (.nil)) (.node (.reg [8,9] (.draw (dl 15 [dm [] [1] 13,dm [0] [12] 14,dm [] [0] 15,dm [] [5] 16,dm [3] [15] 17,dm [] [5] 18,dm [5] [17] 19,dm [1,2,4,6] [13,14,16,18] 20,dm [7] [19] 12,dm [8] [11] 21,dm [8] [11] 22,dm [8] [11] 23,dn [0,1,2,3,4,5,6,7,8,9] [9] [20] 9,dn [0,1,2,3,4,5,6,7,8,9,10,12] [10] [21] 10,dn [0,1,2,3,4,5,6,7,8,9,10,11,12,13] [11] [22] 11]) (tk [0,2,3,4,5,6] (.all (.last 1 (.all (.last 7 (tr 8 7 (.done))))))))) (.node (.reg [6,7] (.nil)) (.nil)))
theorem H_radix_Put (x0 : Option Addr) (x1 : Option Addr) (x2 : ByteArray × ByteArray) {K : Tup [.c .ptr, .c .bool] → Heap → Prop} {h0 : Heap} (h : F_radix_Put x0 x1 x2 K h0) : HC PG f_radix_Put [.pointer x0, .pointer x1, .agg #[.string x2.1, .string x2.2]] [.c .ptr, .c .bool] K h0 := HC.intro (an := A_radix_Put) (c := Tryz.f47.body.getD .skip) Tryz.mixed Tryz.func47 rfl Tryz.call47 (Nat.le_of_ble_eq_true rfl) (cst (by kernel_rfl) h)
def F_champ_Put (x0 : Int × Int × Int) (x1 : Option Addr) (x2 : Option Addr) (x3 : ByteArray × ByteArray) (K : ((Option Addr) × Bool) → Heap → Prop) (h0 : Heap) : Prop :=
 At (hnew h0 [.int .u64 x0.1, .int .u64 x0.2.1, .int .u64 x0.2.2] t_sip_Hasher) (fun h1 =>
 At (hnew h1 [.string x3.1, .string x3.2] t_pair_Pair) (fun h2 =>
 ∃ v3, cAt h2 (newA h0) 0 (.int .u64 v3) ∧
 ∃ v4, cAt h2 (newA h0) 1 (.int .u64 v4) ∧
 ∃ v5, cAt h2 (newA h0) 2 (.int .u64 v5) ∧
 ∃ v6, cAt h2 (newA h1) 0 (.string v6) ∧
 ∃ v7, cAt h2 (newA h0) 0 (.int .u64 v7) ∧
 ∃ v8, cAt h2 (newA h0) 1 (.int .u64 v8) ∧
 ∃ v9, cAt h2 (newA h0) 2 (.int .u64 v9) ∧
 ∃ v10, cAt h2 (newA h1) 0 (.string v10) ∧
 ((HC PG f_sip_Hasher_Hash [.agg #[.int .u64 v7, .int .u64 v8, .int .u64 v9], .string v10] [.c (.int .u64)] (fun (e11 : Int) h12 =>
 (cAt h12 (newA h1) 0 (.string v6) ∧
 ((cAt h12 (newA h0) 0 (.int .u64 v3) ∧ cAt h12 (newA h0) 1 (.int .u64 v4) ∧ cAt h12 (newA h0) 2 (.int .u64 v5)) ∧
 At (hnew h12 [.int .u64 0, .int .u64 0, .int .u64 0, .pointer none, .string (⟨#[]⟩ : ByteArray), .int .u64 0] t_champ_work) (fun h13 =>
 (cAt h13 (newA h1) 0 (.string v6) ∧
 ((cAt h13 (newA h0) 0 (.int .u64 v3) ∧ cAt h13 (newA h0) 1 (.int .u64 v4) ∧ cAt h13 (newA h0) 2 (.int .u64 v5)) ∧
 (WrS h13 (some (newA h12)) 0 [.int .u64 v3, .int .u64 v4, .int .u64 v5, .pointer x1, .string v6, .int .u64 e11] ∧
 At (hsetL h13 (newA h12) 0 [.int .u64 v3, .int .u64 v4, .int .u64 v5, .pointer x1, .string v6, .int .u64 e11]) (fun h14 =>
 ∃ v15, cAt h14 (newA h12) 0 (.int .u64 v15) ∧
 ∃ v16, cAt h14 (newA h12) 1 (.int .u64 v16) ∧
 ∃ v17, cAt h14 (newA h12) 2 (.int .u64 v17) ∧
 ∃ v18, cAt h14 (newA h12) 3 (.pointer v18) ∧
 ∃ v19, cAt h14 (newA h12) 4 (.string v19) ∧
 ∃ v20, cAt h14 (newA h12) 5 (.int .u64 v20) ∧
 ∃ v21, cAt h14 (newA h1) 0 (.string v21) ∧
 ∃ v22, cAt h14 (newA h1) 1 (.string v22) ∧
 HC PG f_champ_some [.pointer x2] [.c .ptr] (fun (e23 : Option Addr) h24 =>
 ((cAt h24 (newA h1) 0 (.string v21) ∧ cAt h24 (newA h1) 1 (.string v22)) ∧
 ((cAt h24 (newA h12) 0 (.int .u64 v15) ∧ cAt h24 (newA h12) 1 (.int .u64 v16) ∧ cAt h24 (newA h12) 2 (.int .u64 v17) ∧ cAt h24 (newA h12) 3 (.pointer v18) ∧ cAt h24 (newA h12) 4 (.string v19) ∧ cAt h24 (newA h12) 5 (.int .u64 v20)) ∧
 HC PG f_champ_work_put [.agg #[.int .u64 v15, .int .u64 v16, .int .u64 v17, .pointer v18, .string v19, .int .u64 v20], .pointer e23, .agg #[.string v21, .string v22], .int .i64 0] [.c .ptr, .c .bool, .c .bool] (fun (e25 : (Option Addr) × Bool × Bool) h26 =>
 K (e25.1, e25.2.1) h26) h24))) h14)))))))) h2) ∧
 At (hnew h2 [.int .u64 0, .int .u64 0, .int .u64 0, .pointer none, .string (⟨#[]⟩ : ByteArray), .int .u64 0] t_champ_work) (fun h27 =>
 (cAt h27 (newA h1) 0 (.string v10) ∧
 ((cAt h27 (newA h0) 0 (.int .u64 v7) ∧ cAt h27 (newA h0) 1 (.int .u64 v8) ∧ cAt h27 (newA h0) 2 (.int .u64 v9)) ∧
 (cAt h27 (newA h1) 0 (.string v6) ∧
 ((cAt h27 (newA h0) 0 (.int .u64 v3) ∧ cAt h27 (newA h0) 1 (.int .u64 v4) ∧ cAt h27 (newA h0) 2 (.int .u64 v5)) ∧
 HC PG f_sip_Hasher_Hash [.agg #[.int .u64 v7, .int .u64 v8, .int .u64 v9], .string v10] [.c (.int .u64)] (fun (e28 : Int) h29 =>
 (cAt h29 (newA h1) 0 (.string v6) ∧
 ((cAt h29 (newA h0) 0 (.int .u64 v3) ∧ cAt h29 (newA h0) 1 (.int .u64 v4) ∧ cAt h29 (newA h0) 2 (.int .u64 v5)) ∧
 (WrS h29 (some (newA h2)) 0 [.int .u64 v3, .int .u64 v4, .int .u64 v5, .pointer x1, .string v6, .int .u64 e28] ∧
 At (hsetL h29 (newA h2) 0 [.int .u64 v3, .int .u64 v4, .int .u64 v5, .pointer x1, .string v6, .int .u64 e28]) (fun h30 =>
 ∃ v31, cAt h30 (newA h2) 0 (.int .u64 v31) ∧
 ∃ v32, cAt h30 (newA h2) 1 (.int .u64 v32) ∧
 ∃ v33, cAt h30 (newA h2) 2 (.int .u64 v33) ∧
 ∃ v34, cAt h30 (newA h2) 3 (.pointer v34) ∧
 ∃ v35, cAt h30 (newA h2) 4 (.string v35) ∧
 ∃ v36, cAt h30 (newA h2) 5 (.int .u64 v36) ∧
 ∃ v37, cAt h30 (newA h1) 0 (.string v37) ∧
 ∃ v38, cAt h30 (newA h1) 1 (.string v38) ∧
 HC PG f_champ_some [.pointer x2] [.c .ptr] (fun (e39 : Option Addr) h40 =>
 ((cAt h40 (newA h1) 0 (.string v37) ∧ cAt h40 (newA h1) 1 (.string v38)) ∧
 ((cAt h40 (newA h2) 0 (.int .u64 v31) ∧ cAt h40 (newA h2) 1 (.int .u64 v32) ∧ cAt h40 (newA h2) 2 (.int .u64 v33) ∧ cAt h40 (newA h2) 3 (.pointer v34) ∧ cAt h40 (newA h2) 4 (.string v35) ∧ cAt h40 (newA h2) 5 (.int .u64 v36)) ∧
 HC PG f_champ_work_put [.agg #[.int .u64 v31, .int .u64 v32, .int .u64 v33, .pointer v34, .string v35, .int .u64 v36], .pointer e39, .agg #[.string v37, .string v38], .int .i64 0] [.c .ptr, .c .bool, .c .bool] (fun (e41 : (Option Addr) × Bool × Bool) h42 =>
 K (e41.1, e41.2.1) h42) h40))) h30))))) h27))))))))
noncomputable def A_champ_Put : Ann := .node (.reg [1,2,4,7] (.nil)) (.node (.reg [2,7,10] (.draw (dl 11 [dm [] [4] 15,dm [] [1] 16,dm [] [7] 17,dm [2] [16] 18,dm [] [4] 19,dm [] [7] 20,dm [5] [19] 21,dm [4,6] [18,20] 22,dm [0,1,3,7] [14,15,17,21] 23,dm [] [] 11,dn [0,1,2,3,4,5,6,7,8,9] [8,9] [10,22] 0]) (tr 0 7 (.all (.pick 7 (.take 8 (.all (.lastT 9 (.all (.lastT 10 (.done)))))) (.last 9 (.all (.lastT 7 (.take 8 (.all (.lastT 10 (.done)))))))))))) (.node (.reg [11,12] (.draw (dl 12 [dm [] [10] 25,dm [] [2] 26,dm [1] [25] 27,dm [] [7] 28,dm [0,2,3] [24,26,27] 29,dm [4] [28] 24,dm [5] [23] 30,dm [5] [23] 31,dm [5] [23] 32,dn [0,1,2,3,4,5,6] [6] [29] 12,dn [0,1,2,3,4,5,6,7,9] [7] [30] 13,dn [0,1,2,3,4,5,6,7,8,9,10] [8] [31] 14]) (tk [0,1,3] (.all (.lastT 2 (.all (.lastT 4 (tr 5 7 (.done))))))))) (.node (.reg [8,9] (.nil)) (.nil))))
theorem H_champ_Put (x0 : Int × Int × Int) (x1 : Option Addr) (x2 : Option Addr) (x3 : ByteArray × ByteArray) {K : Tup [.c .ptr, .c .bool] → Heap → Prop} {h0 : Heap} (h : F_champ_Put x0 x1 x2 x3 K h0) : HC PG f_champ_Put [.agg #[.int .u64 x0.1, .int .u64 x0.2.1, .int .u64 x0.2.2], .pointer x1, .pointer x2, .agg #[.string x3.1, .string x3.2]] [.c .ptr, .c .bool] K h0 := HC.intro (an := A_champ_Put) (c := Tryz.f48.body.getD .skip) Tryz.mixed Tryz.func48 rfl Tryz.call48 (Nat.le_of_ble_eq_true rfl) (cst (by kernel_rfl) h)
def F_radix_Node_Label (x0 : Option Addr) (K : (ByteArray) → Heap → Prop) (h0 : Heap) : Prop :=
 CondP x0.isNone (
 K (⟨#[]⟩ : ByteArray) h0) (
 ∃ a1, x0 = some a1 ∧
 ∃ v2, cAt h0 a1 0 (.string v2) ∧
 K v2 h0)
noncomputable def A_radix_Node_Label : Ann := .node (.reg [0] (.nil)) (.node (.node (.reg [0,4] (.nil)) (.node (.node (.reg [2] (.nil)) (.nil)) (.nil))) (.node (.reg [2] (.nil)) (.nil)))
theorem H_radix_Node_Label (x0 : Option Addr) {K : Tup [.c .str] → Heap → Prop} {h0 : Heap} (h : F_radix_Node_Label x0 K h0) : HC PG f_radix_Node_Label [.pointer x0] [.c .str] K h0 := HC.intro (an := A_radix_Node_Label) (c := Tryz.f55.body.getD .skip) Tryz.mixed Tryz.func55 rfl Tryz.call55 (Nat.le_of_ble_eq_true rfl) (cst (by kernel_rfl) h)
def F_diff_set_lists (x0 : Option Addr) (x1 : SliceV) (x2 : SliceV) (K : (Unit) → Heap → Prop) (h0 : Heap) : Prop :=
 LoopP (fun I1 (t2 : SliceV × SliceV) h3 =>
 Join (fun (t5 : Bool) h6 =>
 CondP t5 (
 Join (fun (t12 : Bool) h13 =>
 CondP t12 (
 Join (fun (t27 : Unit) h28 =>
 (((0 : Int) ≤ (1 : Int) ∧ (1 : Int) ≤ ((t2.1.len : Nat) : Int)) ∧
 Bd (subAddr t2.1.a ((1 : Int).toNat) t2.1.cap 2 : Option Addr) (fun a29 => Bd (t2.1.len - ((1 : Int).toNat) : Nat) (fun n30 => Bd (t2.1.cap - ((1 : Int).toNat) : Nat) (fun n31 =>
 I1 (⟨a29, n30, n31⟩, t2.2) h28))))) (fun J14 =>
 ∃ a15, x0 = some a15 ∧
 ∃ v16 : SliceV, cAt h13 a15 3 (.slice v16.a v16.len v16.cap) ∧
 (iBd 0 t2.1.len ∧ ∃ a17, t2.1.a = some a17 ∧
 ∃ v18, cAt h13 (adr a17 ((0 : Int).toNat * 2)) 0 (.string v18) ∧
 (iBd 0 t2.1.len ∧ ∃ a19, t2.1.a = some a19 ∧
 ∃ v20, cAt h13 (adr a19 ((0 : Int).toNat * 2)) 1 (.string v20) ∧
 At (hnew h13 [.string v18, .string v20, .string (⟨#[]⟩ : ByteArray), .bool true, .bool false] t_diff_Change) (fun h21 =>
 (cAt h21 a15 3 (.slice v16.a v16.len v16.cap) ∧
 ∃ xs22, SRow h21 (some (newA h13)) (1 * 5) xs22 ∧
 AppP (some [.string (⟨#[]⟩ : ByteArray), .string (⟨#[]⟩ : ByteArray), .string (⟨#[]⟩ : ByteArray), .bool false, .bool false]) 5 56 t_diff_Change v16.a v16.len v16.cap 1 xs22 h21 (fun s23 h24 =>
 ∃ a25, x0 = some a25 ∧
 (Wr h24 (adr a25 3) ∧
 At (hset h24 (adr a25 3) (.slice s23.a s23.len s23.cap)) (fun h26 =>
 J14 () h26))))))))) (
 Join (fun (t37 : Bool) h38 =>
 CondP t37 (
 Join (fun (t52 : Unit) h53 =>
 (((0 : Int) ≤ (1 : Int) ∧ (1 : Int) ≤ ((t2.2.len : Nat) : Int)) ∧
 Bd (subAddr t2.2.a ((1 : Int).toNat) t2.2.cap 2 : Option Addr) (fun a54 => Bd (t2.2.len - ((1 : Int).toNat) : Nat) (fun n55 => Bd (t2.2.cap - ((1 : Int).toNat) : Nat) (fun n56 =>
 I1 (t2.1, ⟨a54, n55, n56⟩) h53))))) (fun J39 =>
 ∃ a40, x0 = some a40 ∧
 ∃ v41 : SliceV, cAt h38 a40 3 (.slice v41.a v41.len v41.cap) ∧
 (iBd 0 t2.2.len ∧ ∃ a42, t2.2.a = some a42 ∧
 ∃ v43, cAt h38 (adr a42 ((0 : Int).toNat * 2)) 0 (.string v43) ∧
 (iBd 0 t2.2.len ∧ ∃ a44, t2.2.a = some a44 ∧
 ∃ v45, cAt h38 (adr a44 ((0 : Int).toNat * 2)) 1 (.string v45) ∧
 At (hnew h38 [.string v43, .string (⟨#[]⟩ : ByteArray), .string v45, .bool false, .bool true] t_diff_Change) (fun h46 =>
 (cAt h46 a40 3 (.slice v41.a v41.len v41.cap) ∧
 ∃ xs47, SRow h46 (some (newA h38)) (1 * 5) xs47 ∧
 AppP (some [.string (⟨#[]⟩ : ByteArray), .string (⟨#[]⟩ : ByteArray), .string (⟨#[]⟩ : ByteArray), .bool false, .bool false]) 5 56 t_diff_Change v41.a v41.len v41.cap 1 xs47 h46 (fun s48 h49 =>
 ∃ a50, x0 = some a50 ∧
 (Wr h49 (adr a50 3) ∧
 At (hset h49 (adr a50 3) (.slice s48.a s48.len s48.cap)) (fun h51 =>
 J39 () h51))))))))) (
 Join (fun (t76 : Unit) h77 =>
 (((0 : Int) ≤ (1 : Int) ∧ (1 : Int) ≤ ((t2.1.len : Nat) : Int)) ∧
 Bd (subAddr t2.1.a ((1 : Int).toNat) t2.1.cap 2 : Option Addr) (fun a78 => Bd (t2.1.len - ((1 : Int).toNat) : Nat) (fun n79 => Bd (t2.1.cap - ((1 : Int).toNat) : Nat) (fun n80 =>
 (((0 : Int) ≤ (1 : Int) ∧ (1 : Int) ≤ ((t2.2.len : Nat) : Int)) ∧
 Bd (subAddr t2.2.a ((1 : Int).toNat) t2.2.cap 2 : Option Addr) (fun a81 => Bd (t2.2.len - ((1 : Int).toNat) : Nat) (fun n82 => Bd (t2.2.cap - ((1 : Int).toNat) : Nat) (fun n83 =>
 I1 (⟨a78, n79, n80⟩, ⟨a81, n82, n83⟩) h77))))))))) (fun J57 =>
 (iBd 0 t2.1.len ∧ ∃ a58, t2.1.a = some a58 ∧
 ∃ v59, cAt h38 (adr a58 ((0 : Int).toNat * 2)) 1 (.string v59) ∧
 (iBd 0 t2.2.len ∧ ∃ a60, t2.2.a = some a60 ∧
 ∃ v61, cAt h38 (adr a60 ((0 : Int).toNat * 2)) 1 (.string v61) ∧
 CondP (!(v59.toList == v61.toList)) (
 ∃ a62, x0 = some a62 ∧
 ∃ v63 : SliceV, cAt h38 a62 3 (.slice v63.a v63.len v63.cap) ∧
 (iBd 0 t2.1.len ∧ ∃ a64, t2.1.a = some a64 ∧
 ∃ v65, cAt h38 (adr a64 ((0 : Int).toNat * 2)) 0 (.string v65) ∧
 (iBd 0 t2.1.len ∧ ∃ a66, t2.1.a = some a66 ∧
 ∃ v67, cAt h38 (adr a66 ((0 : Int).toNat * 2)) 1 (.string v67) ∧
 (iBd 0 t2.2.len ∧ ∃ a68, t2.2.a = some a68 ∧
 ∃ v69, cAt h38 (adr a68 ((0 : Int).toNat * 2)) 1 (.string v69) ∧
 At (hnew h38 [.string v65, .string v67, .string v69, .bool true, .bool true] t_diff_Change) (fun h70 =>
 (cAt h70 a62 3 (.slice v63.a v63.len v63.cap) ∧
 ∃ xs71, SRow h70 (some (newA h38)) (1 * 5) xs71 ∧
 AppP (some [.string (⟨#[]⟩ : ByteArray), .string (⟨#[]⟩ : ByteArray), .string (⟨#[]⟩ : ByteArray), .bool false, .bool false]) 5 56 t_diff_Change v63.a v63.len v63.cap 1 xs71 h70 (fun s72 h73 =>
 ∃ a74, x0 = some a74 ∧
 (Wr h73 (adr a74 3) ∧
 At (hset h73 (adr a74 3) (.slice s72.a s72.len s72.cap)) (fun h75 =>
 J57 () h75))))))))) (
 J57 () h38)))))) (fun J32 =>
 CondP ((t2.1.len : Int) == (0 : Int)) (
 J32 true h13) (
 (iBd 0 t2.2.len ∧ ∃ a33, t2.2.a = some a33 ∧
 ∃ v34, cAt h13 (adr a33 ((0 : Int).toNat * 2)) 0 (.string v34) ∧
 (iBd 0 t2.1.len ∧ ∃ a35, t2.1.a = some a35 ∧
 ∃ v36, cAt h13 (adr a35 ((0 : Int).toNat * 2)) 0 (.string v36) ∧
 J32 (Op.bytesLess v34.toList v36.toList) h13)))))) (fun J7 =>
 CondP ((t2.2.len : Int) == (0 : Int)) (
 J7 true h6) (
 CondP (decide ((t2.1.len : Int) > (0 : Int))) (
 (iBd 0 t2.1.len ∧ ∃ a8, t2.1.a = some a8 ∧
 ∃ v9, cAt h6 (adr a8 ((0 : Int).toNat * 2)) 0 (.string v9) ∧
 (iBd 0 t2.2.len ∧ ∃ a10, t2.2.a = some a10 ∧
 ∃ v11, cAt h6 (adr a10 ((0 : Int).toNat * 2)) 0 (.string v11) ∧
 J7 (Op.bytesLess v9.toList v11.toList) h6))) (
 J7 false h6)))) (
 K () h6)) (fun J4 =>
 CondP (decide ((t2.1.len : Int) > (0 : Int))) (
 J4 true h3) (
 J4 (decide ((t2.2.len : Int) > (0 : Int))) h3))) (x1, x2) h0
noncomputable def A_diff_set_lists : Ann := .loop [0] [(1,.c .slice),(2,.c .slice)] (.node (.join [0,1,2] [(13,.c .bool)] (.reg [0,1,2,13] (.nil)) (.nil)) (.join [0,1,2] [(49,.c .bool)] (.reg [0,1,2,49] (.draw (dl 20 [dm [] [2] 51,dm [0] [50] 52,dm [1] [51] 53,dm [2] [52] 54,dm [3] [1,53] 55,dm [3,4] [53,54] 56,dm [3,5] [53,55] 57,dm [3,6] [53,56] 58,dm [7] [1,57] 59,dm [7,8] [57,58] 60,dm [7,9] [57,59] 61,dm [7,10] [57,60] 62,dm [7] [2,57] 63,dm [7,12] [57,62] 64,dm [7,13] [57,63] 65,dm [7,14] [57,64] 66,dm [7,11,15] [57,61,65] 67,dm [3,7,16] [53,57,66] 68,dm [3,17] [53,67] 69,dn [7,18] [18] [68] 50]) (tr 0 4 (.split 53 (tr 4 16 (.done)) (tr 4 4 (.split 57 (tr 8 12 (.done)) (tr 8 12 (.done)))))))) (.node (.join [0,1,2] [] (.reg [0,1,2] (.draw (dl 19 [dm [] [0] 70,dm [] [0] 71,dm [1] [70] 72,dm [2] [71] 73,dm [3] [72] 74,dm [] [1] 75,dm [5] [74] 76,dm [6] [75] 77,dm [7] [76] 78,dm [] [1] 79,dm [9] [78] 80,dm [10] [79] 81,dm [11] [80] 82,dm [8,12] [77,81] 83,dm [13] [82] 84,dm [4,14] [73,83] 85,dn [0,1,2,3,4,5,6,7,8,9,10,11,12,13,14,15] [0] [69] 86,dn [0,1,2,3,4,5,6,7,8,9,10,11,12,13,14,15,16] [16] [85] 87,dn [0,1,2,3,4,5,6,7,8,9,10,11,12,13,14,15,17] [15,17] [84,86] 0]) (tr 0 14 (.all (.lastT 14 (.all (.lastT 15 (.take 16 (.take 17 (.all (.lastT 18 (.done)))))))))))) (.reg [0,1,2] (.nil))) (.join [0,1,2] [(89,.c .bool)] (.reg [0,1,2,89] (.draw (dl 15 [dm [] [1] 91,dm [0] [90] 92,dm [1] [91] 93,dm [2] [92] 94,dm [3] [2,93] 95,dm [3,4] [93,94] 96,dm [3,5] [93,95] 97,dm [3,6] [93,96] 98,dm [3] [1,93] 99,dm [3,8] [93,98] 100,dm [3,9] [93,99] 101,dm [3,10] [93,100] 102,dm [3,7,11] [93,97,101] 103,dm [3,12] [93,102] 104,dn [3,13] [13] [103] 90]) (tr 0 4 (.split 93 (tr 4 11 (.done)) (tr 4 11 (.done)))))) (.node (.join [0,1,2] [] (.reg [0,1,2] (.draw (dl 19 [dm [] [0] 105,dm [] [0] 106,dm [1] [105] 107,dm [2] [106] 108,dm [3] [107] 109,dm [] [2] 110,dm [5] [109] 111,dm [6] [110] 112,dm [7] [111] 113,dm [] [2] 114,dm [9] [113] 115,dm [10] [114] 116,dm [11] [115] 117,dm [8,12] [112,116] 118,dm [13] [117] 119,dm [4,14] [108,118] 120,dn [0,1,2,3,4,5,6,7,8,9,10,11,12,13,14,15] [0] [104] 121,dn [0,1,2,3,4,5,6,7,8,9,10,11,12,13,14,15,16] [16] [120] 122,dn [0,1,2,3,4,5,6,7,8,9,10,11,12,13,14,15,17] [15,17] [119,121] 0]) (tr 0 14 (.all (.lastT 14 (.all (.lastT 15 (.take 16 (.take 17 (.all (.lastT 18 (.done)))))))))))) (.reg [0,1,2] (.nil))) (.join [0,1,2] [] (.node (.reg [0,1,2,22] (.draw (dl 9 [dm [] [1] 15,dm [0] [14] 16,dm [1] [15] 17,dm [2] [16] 18,dm [] [2] 19,dm [4] [18] 20,dm [5] [19] 21,dm [6] [20] 22,dm [3,7] [17,21] 23]) (tr 0 9 (.done)))) (.node (.reg [0,1,2] (.draw (dl 23 [dm [] [0] 24,dm [] [0] 25,dm [1] [24] 26,dm [2] [25] 27,dm [3] [26] 28,dm [] [1] 29,dm [5] [28] 30,dm [6] [29] 31,dm [7] [30] 32,dm [] [1] 33,dm [9] [32] 34,dm [10] [33] 35,dm [11] [34] 36,dm [] [2] 37,dm [13] [36] 38,dm [14] [37] 39,dm [15] [38] 40,dm [8,12,16] [31,35,39] 41,dm [17] [40] 42,dm [4,18] [27,41] 43,dn [0,1,2,3,4,5,6,7,8,9,10,11,12,13,14,15,16,17,18,19] [0] [23] 44,dn [0,1,2,3,4,5,6,7,8,9,10,11,12,13,14,15,16,17,18,19,20] [20] [43] 45,dn [0,1,2,3,4,5,6,7,8,9,10,11,12,13,14,15,16,17,18,19,21] [19,21] [42,44] 0]) (tr 0 18 (.all (.lastT 18 (.all (.lastT 19 (.take 20 (.take 21 (.all (.lastT 22 (.done)))))))))))) (.nil))) (.reg [0,1,2] (.draw (dl 6 [dm [] [1] 46,dm [0] [45] 47,dm [] [2] 48,dm [2] [47] 49,dm [0,1] [46] 2,dn [0,1,2,3,4] [2,3] [48] 3]) (tr 0 6 (.done))))))))))
theorem H_diff_set_lists (x0 : Option Addr) (x1 : SliceV) (x2 : SliceV) {K : Tup [] → Heap → Prop} {h0 : Heap} (h : F_diff_set_lists x0 x1 x2 K h0) : HC PG f_diff_set_lists [.pointer x0, .slice x1.a x1.len x1.cap, .slice x2.a x2.len x2.cap] [] K h0 := HC.intro (an := A_diff_set_lists) (c := Tryz.f56.body.getD .skip) Tryz.mixed Tryz.func56 rfl Tryz.call56 (Nat.le_of_ble_eq_true rfl) (cst (by kernel_rfl) h)
def F_diff_some (x0 : Option Addr) (x1 : ByteArray) (K : (SliceV) → Heap → Prop) (h0 : Heap) : Prop :=
 CondP x0.isNone (
 K ⟨none, 0, 0⟩ h0) (
 HC PG f_radix_Node_Label [.pointer x0] [.c .str] (fun (e1 : ByteArray) h2 =>
 (((x1.size + e1.size : Nat) : Int) ≤ 9223372036854775807 ∧
 Join (fun (t10 : SliceV) h11 =>
 HC PG f_radix_Node_Kids [.pointer x0] [.c .slice] (fun (e12 : SliceV) h13 =>
 LoopP (fun I14 (t15 : SliceV × Int) h16 =>
 CondP (decide (t15.2 < (e12.len : Int))) (
 Join (fun (t25 : SliceV) h26 =>
 I14 (t25, IntKind.wrap .i64 (t15.2 + 1)) h26) (fun J17 =>
 (iBd t15.2 e12.len ∧ ∃ a18, e12.a = some a18 ∧
 ∃ v19, cAt h16 a18 (t15.2.toNat * 1) (.pointer v19) ∧
 HC PG f_diff_some [.pointer v19, .string (x1 ++ e1)] [.c .slice] (fun (e20 : SliceV) h21 =>
 ∃ xs22, SRow h21 e20.a (e20.len * 2) xs22 ∧
 AppP (some [.string (⟨#[]⟩ : ByteArray), .string (⟨#[]⟩ : ByteArray)]) 2 32 t_pair_Pair t15.1.a t15.1.len t15.1.cap e20.len xs22 h21 (fun s23 h24 =>
 J17 s23 h24)) h16))) (
 K t15.1 h16)) (t10, 0) h13) h11) (fun J3 =>
 HC PG f_radix_Node_Value [.pointer x0] [.c .str, .c .bool] (fun (e4 : ByteArray × Bool) h5 =>
 CondP e4.2 (
 At (hnew h5 [.string (x1 ++ e1), .string e4.1] t_pair_Pair) (fun h6 =>
 ∃ xs7, SRow h6 (some (newA h5)) (1 * 2) xs7 ∧
 AppP (some [.string (⟨#[]⟩ : ByteArray), .string (⟨#[]⟩ : ByteArray)]) 2 32 t_pair_Pair none 0 0 1 xs7 h6 (fun s8 h9 =>
 J3 s8 h9))) (
 J3 ⟨none, 0, 0⟩ h5)) h2))) h0)
noncomputable def A_diff_some : Ann := .node (.reg [0,1] (.nil)) (.node (.node (.reg [0,1,12] (.nil)) (.node (.node (.reg [4] (.nil)) (.nil)) (.nil))) (.node (.reg [0,5] (.nil)) (.node (.reg [0,5,6] (.nil)) (.join [0,5] [(6,.c .slice)] (.node (.reg [0,5,6,7,8] (.nil)) (.node (.reg [0,5,6,7,22] (.nil)) (.node (.reg [0,5,6] (.nil)) (.nil)))) (.node (.node (.reg [5,6,30,31,32] (.nil)) (.loop [5,30,31] [(6,.c .slice),(32,.c (.int .i64))] (.node (.reg [5,6,30,31,32,33] (.nil)) (.node (.nil) (.join [5,30,31,32] [(6,.c .slice)] (.node (.reg [5,6,10,30,31,32] (.nil)) (.reg [5,6,30,31,32] (.nil))) (.reg [5,6,30,31,32] (.nil))))))) (.node (.reg [4] (.nil)) (.nil)))))))
theorem H_diff_some (x0 : Option Addr) (x1 : ByteArray) {K : Tup [.c .slice] → Heap → Prop} {h0 : Heap} (h : F_diff_some x0 x1 K h0) : HC PG f_diff_some [.pointer x0, .string x1] [.c .slice] K h0 := HC.intro (an := A_diff_some) (c := Tryz.f57.body.getD .skip) Tryz.mixed Tryz.func57 rfl Tryz.call57 (Nat.le_of_ble_eq_true rfl) (cst (by kernel_rfl) h)
def F_diff_own (x0 : Option Addr) (x1 : ByteArray) (K : (SliceV) → Heap → Prop) (h0 : Heap) : Prop :=
 HC PG f_radix_Node_Value [.pointer x0] [.c .str, .c .bool] (fun (e1 : ByteArray × Bool) h2 =>
 CondP (!e1.2) (
 K ⟨none, 0, 0⟩ h2) (
 At (hnew h2 [.string x1, .string e1.1] t_pair_Pair) (fun h3 =>
 K ⟨some (newA h2), 1, 1⟩ h3))) h0
noncomputable def A_diff_own : Ann := .node (.reg [0,1] (.nil)) (.node (.reg [1,5,6] (.nil)) (.node (.node (.reg [1,5,13] (.nil)) (.node (.node (.reg [4] (.nil)) (.nil)) (.nil))) (.node (.reg [4] (.nil)) (.nil))))
theorem H_diff_own (x0 : Option Addr) (x1 : ByteArray) {K : Tup [.c .slice] → Heap → Prop} {h0 : Heap} (h : F_diff_own x0 x1 K h0) : HC PG f_diff_own [.pointer x0, .string x1] [.c .slice] K h0 := HC.intro (an := A_diff_own) (c := Tryz.f58.body.getD .skip) Tryz.mixed Tryz.func58 rfl Tryz.call58 (Nat.le_of_ble_eq_true rfl) (cst (by kernel_rfl) h)
def F_radix_Node_Kids (x0 : Option Addr) (K : (SliceV) → Heap → Prop) (h0 : Heap) : Prop :=
 CondP x0.isNone (
 K ⟨none, 0, 0⟩ h0) (
 ∃ a1, x0 = some a1 ∧
 ∃ v2 : SliceV, cAt h0 a1 3 (.slice v2.a v2.len v2.cap) ∧
 HC PG f_slices_Clone_A_P_radix_Node_P_radix_Node [.slice v2.a v2.len v2.cap] [.c .slice] (fun (e3 : SliceV) h4 =>
 K e3 h4) h0)
noncomputable def A_radix_Node_Kids : Ann := .node (.reg [0] (.nil)) (.node (.node (.reg [0,4] (.nil)) (.node (.node (.reg [2] (.nil)) (.nil)) (.nil))) (.node (.reg [2] (.nil)) (.nil)))
theorem H_radix_Node_Kids (x0 : Option Addr) {K : Tup [.c .slice] → Heap → Prop} {h0 : Heap} (h : F_radix_Node_Kids x0 K h0) : HC PG f_radix_Node_Kids [.pointer x0] [.c .slice] K h0 := HC.intro (an := A_radix_Node_Kids) (c := Tryz.f59.body.getD .skip) Tryz.mixed Tryz.func59 rfl Tryz.call59 (Nat.le_of_ble_eq_true rfl) (cst (by kernel_rfl) h)
def F_node_Node_IsBucket (x0 : Option Addr) (K : (Bool) → Heap → Prop) (h0 : Heap) : Prop :=
 CondP (!(x0.isNone)) (
 ∃ a1, x0 = some a1 ∧
 ∃ v2, cAt h0 a1 4 (.bool v2) ∧
 K v2 h0) (
 K false h0)
noncomputable def A_node_Node_IsBucket : Ann := .node (.reg [0] (.nil)) (.node (.reg [2] (.nil)) (.nil))
theorem H_node_Node_IsBucket (x0 : Option Addr) {K : Tup [.c .bool] → Heap → Prop} {h0 : Heap} (h : F_node_Node_IsBucket x0 K h0) : HC PG f_node_Node_IsBucket [.pointer x0] [.c .bool] K h0 := HC.intro (an := A_node_Node_IsBucket) (c := Tryz.f60.body.getD .skip) Tryz.mixed Tryz.func60 rfl Tryz.call60 (Nat.le_of_ble_eq_true rfl) (cst (by kernel_rfl) h)
def F_node_Node_Pairs (x0 : Option Addr) (K : (SliceV) → Heap → Prop) (h0 : Heap) : Prop :=
 CondP x0.isNone (
 K ⟨none, 0, 0⟩ h0) (
 ∃ a1, x0 = some a1 ∧
 ∃ v2 : SliceV, cAt h0 (adr a1 0) 2 (.slice v2.a v2.len v2.cap) ∧
 HC PG f_slices_Clone_A_pair_Pair_pair_Pair [.slice v2.a v2.len v2.cap] [.c .slice] (fun (e3 : SliceV) h4 =>
 K e3 h4) h0)
noncomputable def A_node_Node_Pairs : Ann := .node (.reg [0] (.nil)) (.node (.node (.reg [0,4] (.nil)) (.node (.node (.reg [2] (.nil)) (.nil)) (.nil))) (.node (.reg [2] (.nil)) (.nil)))
theorem H_node_Node_Pairs (x0 : Option Addr) {K : Tup [.c .slice] → Heap → Prop} {h0 : Heap} (h : F_node_Node_Pairs x0 K h0) : HC PG f_node_Node_Pairs [.pointer x0] [.c .slice] K h0 := HC.intro (an := A_node_Node_Pairs) (c := Tryz.f61.body.getD .skip) Tryz.mixed Tryz.func61 rfl Tryz.call61 (Nat.le_of_ble_eq_true rfl) (cst (by kernel_rfl) h)
def F_node_Node_Kid (x0 : Option Addr) (x1 : Int) (K : ((Option Addr) × Bool) → Heap → Prop) (h0 : Heap) : Prop :=
 HC PG f_node_Node_Nodes [.pointer x0] [.c (.int .u32)] (fun (e1 : Int) h2 =>
 HC PG f_chunk_Bits_Has [.int .u32 e1, .int .i64 x1] [.c .bool] (fun (e3 : Bool) h4 =>
 CondP (!e3) (
 K (none, false) h4) (
 ∃ a5, x0 = some a5 ∧
 ∃ v6 : SliceV, cAt h4 (adr a5 0) 3 (.slice v6.a v6.len v6.cap) ∧
 ∃ a7, x0 = some a7 ∧
 ∃ v8, cAt h4 (adr a7 0) 1 (.int .u32 v8) ∧
 HC PG f_chunk_Bits_Rank [.int .u32 v8, .int .i64 x1] [.c (.int .i64)] (fun (e9 : Int) h10 =>
 (cAt h10 (adr a5 0) 3 (.slice v6.a v6.len v6.cap) ∧
 (iBd e9 v6.len ∧ ∃ a11, v6.a = some a11 ∧
 ∃ v12, cAt h10 a11 (e9.toNat * 1) (.pointer v12) ∧
 K (v12, true) h10))) h4)) h2) h0
noncomputable def A_node_Node_Kid : Ann := .node (.reg [0,1] (.nil)) (.node (.node (.reg [0,1,10] (.nil)) (.node (.node (.reg [4,5] (.nil)) (.nil)) (.nil))) (.node (.reg [4,5] (.draw (dl 16 [dm [] [0] 12,dm [0] [11] 13,dm [1] [12] 14,dm [2] [13] 15,dm [3] [14] 16,dm [] [0] 17,dm [5] [16] 18,dm [6] [17] 19,dm [7] [18] 20,dm [8] [19] 21,dm [] [1] 22,dm [9,10] [20,21] 23,dm [4,11] [15,22] 24,dm [12] [23] 25,dn [0,1,2,3,4,5,6,7,8,9,10,11,12,13] [13] [24] 5,dn [0,1,2,3,4,5,6,7,8,9,10,11,12,13,14] [] [] 6]) (tr 0 11 (.all (.last 11 (tr 12 4 (.done))))))) (.nil)))
theorem H_node_Node_Kid (x0 : Option Addr) (x1 : Int) {K : Tup [.c .ptr, .c .bool] → Heap → Prop} {h0 : Heap} (h : F_node_Node_Kid x0 x1 K h0) : HC PG f_node_Node_Kid [.pointer x0, .int .i64 x1] [.c .ptr, .c .bool] K h0 := HC.intro (an := A_node_Node_Kid) (c := Tryz.f62.body.getD .skip) Tryz.mixed Tryz.func62 rfl Tryz.call62 (Nat.le_of_ble_eq_true rfl) (cst (by kernel_rfl) h)
def F_diff_slot (x0 : Option Addr) (x1 : Int) (K : (SliceV) → Heap → Prop) (h0 : Heap) : Prop :=
 HC PG f_node_Node_Pair [.pointer x0, .int .i64 x1] [.agg [.str, .str], .c .bool] (fun (e1 : (ByteArray × ByteArray) × Bool) h2 =>
 At (hnew h2 [.string (⟨#[]⟩ : ByteArray), .string (⟨#[]⟩ : ByteArray)] t_pair_Pair) (fun h3 =>
 (WrS h3 (some (newA h2)) 0 [.string e1.1.1, .string e1.1.2] ∧
 At (hsetL h3 (newA h2) 0 [.string e1.1.1, .string e1.1.2]) (fun h4 =>
 CondP e1.2 (
 ∃ v5, cAt h4 (newA h2) 0 (.string v5) ∧
 ∃ v6, cAt h4 (newA h2) 1 (.string v6) ∧
 At (hnew h4 [.string v5, .string v6] t_pair_Pair) (fun h7 =>
 K ⟨some (newA h4), 1, 1⟩ h7)) (
 HC PG f_node_Node_Kid [.pointer x0, .int .i64 x1] [.c .ptr, .c .bool] (fun (e8 : (Option Addr) × Bool) h9 =>
 HC PG f_walk_Sorted [.pointer e8.1] [.c .slice] (fun (e10 : SliceV) h11 =>
 K e10 h11) h9) h4))))) h0
noncomputable def A_diff_slot : Ann := .node (.reg [0,1] (.nil)) (.node (.node (.reg [0,1,5,6] (.nil)) (.node (.reg [0,1,5,15] (.nil)) (.node (.node (.reg [4] (.nil)) (.nil)) (.nil)))) (.node (.reg [7] (.nil)) (.node (.reg [4] (.nil)) (.nil))))
theorem H_diff_slot (x0 : Option Addr) (x1 : Int) {K : Tup [.c .slice] → Heap → Prop} {h0 : Heap} (h : F_diff_slot x0 x1 K h0) : HC PG f_diff_slot [.pointer x0, .int .i64 x1] [.c .slice] K h0 := HC.intro (an := A_diff_slot) (c := Tryz.f63.body.getD .skip) Tryz.mixed Tryz.func63 rfl Tryz.call63 (Nat.le_of_ble_eq_true rfl) (cst (by kernel_rfl) h)
def F_champ_Empty  (K : (Option Addr) → Heap → Prop) (h0 : Heap) : Prop :=
 HC PG f_node_Inner [] [.c .ptr] (fun (e1 : Option Addr) h2 =>
 K e1 h2) h0
noncomputable def A_champ_Empty : Ann := .node (.reg [] (.nil)) (.node (.reg [0] (.nil)) (.nil))
theorem H_champ_Empty  {K : Tup [.c .ptr] → Heap → Prop} {h0 : Heap} (h : F_champ_Empty  K h0) : HC PG f_champ_Empty [] [.c .ptr] K h0 := HC.intro (an := A_champ_Empty) (c := Tryz.f64.body.getD .skip) Tryz.mixed Tryz.func64 rfl Tryz.call64 (Nat.le_of_ble_eq_true rfl) (cst (by kernel_rfl) h)
def F_slices_pdqsortCmpFunc_diff_Change (x0 : SliceV) (x1 : Int) (x2 : Int) (x3 : Int) (x4 : Value) (K : (Unit) → Heap → Prop) (h0 : Heap) : Prop :=
 LoopP (fun I1 (t2 : Int × Int × Int × Bool × Bool) h3 =>
 CondP (decide ((IntKind.wrap .i64 (t2.2.1 - t2.1)) ≤ (12 : Int))) (
 HC PG f_slices_insertionSortCmpFunc_diff_Change [.slice x0.a x0.len x0.cap, .int .i64 t2.1, .int .i64 t2.2.1, x4] [] (fun (e4 : Unit) h5 =>
 K () h5) h3) (
 CondP (t2.2.2.1 == (0 : Int)) (
 HC PG f_slices_heapSortCmpFunc_diff_Change [.slice x0.a x0.len x0.cap, .int .i64 t2.1, .int .i64 t2.2.1, x4] [] (fun (e6 : Unit) h7 =>
 K () h7) h3) (
 Join (fun (t11 : Int) h12 =>
 HC PG f_slices_choosePivotCmpFunc_diff_Change [.slice x0.a x0.len x0.cap, .int .i64 t2.1, .int .i64 t2.2.1, x4] [.c (.int .i64), .c (.int .i64)] (fun (e13 : Int × Int) h14 =>
 Join (fun (t19 : Int × Int) h20 =>
 Join (fun (t27 : Unit) h28 =>
 Join (fun (t44 : Bool) h45 =>
 CondP t44 (
 HC PG f_slices_partitionEqualCmpFunc_diff_Change [.slice x0.a x0.len x0.cap, .int .i64 t2.1, .int .i64 t2.2.1, .int .i64 t19.1, x4] [.c (.int .i64)] (fun (e46 : Int) h47 =>
 I1 (e46, t2.2.1, t11, t2.2.2.2.1, t2.2.2.2.2) h47) h45) (
 HC PG f_slices_partitionCmpFunc_diff_Change [.slice x0.a x0.len x0.cap, .int .i64 t2.1, .int .i64 t2.2.1, .int .i64 t19.1, x4] [.c (.int .i64), .c .bool] (fun (e48 : Int × Bool) h49 =>
 ((8 : Int) ≠ 0 ∧
 CondP (decide ((IntKind.wrap .i64 (e48.1 - t2.1)) < (IntKind.wrap .i64 (t2.2.1 - e48.1)))) (
 HC PG f_slices_pdqsortCmpFunc_diff_Change [.slice x0.a x0.len x0.cap, .int .i64 t2.1, .int .i64 e48.1, .int .i64 t11, x4] [] (fun (e50 : Unit) h51 =>
 I1 (IntKind.wrap .i64 (e48.1 + 1), t2.2.1, t11, decide ((IntKind.wrap .i64 (e48.1 - t2.1)) ≥ (IntKind.wrap .i64 (Int.tdiv (IntKind.wrap .i64 (t2.2.1 - t2.1)) 8))), e48.2) h51) h49) (
 HC PG f_slices_pdqsortCmpFunc_diff_Change [.slice x0.a x0.len x0.cap, .int .i64 (IntKind.wrap .i64 (e48.1 + 1)), .int .i64 t2.2.1, .int .i64 t11, x4] [] (fun (e52 : Unit) h53 =>
 I1 (t2.1, e48.1, t11, decide ((IntKind.wrap .i64 (t2.2.1 - e48.1)) ≥ (IntKind.wrap .i64 (Int.tdiv (IntKind.wrap .i64 (t2.2.1 - t2.1)) 8))), e48.2) h53) h49))) h45)) (fun J29 =>
 CondP (decide (t2.1 > (0 : Int))) (
 (iBd (IntKind.wrap .i64 (t2.1 - 1)) x0.len ∧ ∃ a30, x0.a = some a30 ∧
 ∃ v31, cAt h28 (adr a30 ((IntKind.wrap .i64 (t2.1 - 1)).toNat * 5)) 0 (.string v31) ∧
 ∃ v32, cAt h28 (adr a30 ((IntKind.wrap .i64 (t2.1 - 1)).toNat * 5)) 1 (.string v32) ∧
 ∃ v33, cAt h28 (adr a30 ((IntKind.wrap .i64 (t2.1 - 1)).toNat * 5)) 2 (.string v33) ∧
 ∃ v34, cAt h28 (adr a30 ((IntKind.wrap .i64 (t2.1 - 1)).toNat * 5)) 3 (.bool v34) ∧
 ∃ v35, cAt h28 (adr a30 ((IntKind.wrap .i64 (t2.1 - 1)).toNat * 5)) 4 (.bool v35) ∧
 (iBd t19.1 x0.len ∧ ∃ a36, x0.a = some a36 ∧
 ∃ v37, cAt h28 (adr a36 (t19.1.toNat * 5)) 0 (.string v37) ∧
 ∃ v38, cAt h28 (adr a36 (t19.1.toNat * 5)) 1 (.string v38) ∧
 ∃ v39, cAt h28 (adr a36 (t19.1.toNat * 5)) 2 (.string v39) ∧
 ∃ v40, cAt h28 (adr a36 (t19.1.toNat * 5)) 3 (.bool v40) ∧
 ∃ v41, cAt h28 (adr a36 (t19.1.toNat * 5)) 4 (.bool v41) ∧
 HV PG x4 [.agg #[.string v31, .string v32, .string v33, .bool v34, .bool v35], .agg #[.string v37, .string v38, .string v39, .bool v40, .bool v41]] [.c (.int .i64)] (fun (e42 : Int) h43 =>
 J29 (!(decide (e42 < (0 : Int)))) h43) h28))) (
 J29 false h28))) (fun J21 =>
 Join (fun (t23 : Bool) h24 =>
 CondP t23 (
 HC PG f_slices_partialInsertionSortCmpFunc_diff_Change [.slice x0.a x0.len x0.cap, .int .i64 t2.1, .int .i64 t2.2.1, x4] [.c .bool] (fun (e25 : Bool) h26 =>
 CondP e25 (
 K () h26) (
 J21 () h26)) h24) (
 J21 () h24)) (fun J22 =>
 CondP t2.2.2.2.1 (
 CondP t2.2.2.2.2 (
 J22 (t19.2 == (1 : Int)) h20) (
 J22 false h20)) (
 J22 false h20)))) (fun J15 =>
 CondP (e13.2 == (2 : Int)) (
 HC PG f_slices_reverseRangeCmpFunc_diff_Change [.slice x0.a x0.len x0.cap, .int .i64 t2.1, .int .i64 t2.2.1, x4] [] (fun (e16 : Unit) h17 =>
 Bd (IntKind.wrap .i64 ((IntKind.wrap .i64 (t2.2.1 - 1)) - (IntKind.wrap .i64 (e13.1 - t2.1))) : Int) (fun n18 =>
 J15 (n18, 1) h17)) h14) (
 J15 (e13.1, e13.2) h14))) h12) (fun J8 =>
 CondP (!t2.2.2.2.1) (
 HC PG f_slices_breakPatternsCmpFunc_diff_Change [.slice x0.a x0.len x0.cap, .int .i64 t2.1, .int .i64 t2.2.1, x4] [] (fun (e9 : Unit) h10 =>
 J8 (IntKind.wrap .i64 (t2.2.2.1 - 1)) h10) h3) (
 J8 t2.2.2.1 h3))))) (x1, x2, x3, true, true) h0
noncomputable def A_slices_pdqsortCmpFunc_diff_Change : Ann := .node (.reg [0,1,2,3,4,10] (.nil)) (.node (.reg [0,1,2,3,4,10,11] (.nil)) (.loop [0,4] [(1,.c (.int .i64)),(2,.c (.int .i64)),(3,.c (.int .i64)),(10,.c .bool),(11,.c .bool)] (.node (.reg [0,1,2,3,4,10,11,12] (.nil)) (.node (.node (.reg [0,1,2,3,4,10,11,12,25] (.nil)) (.node (.node (.reg [] (.nil)) (.nil)) (.nil))) (.node (.node (.reg [0,1,2,3,4,10,11,12,32] (.nil)) (.node (.node (.reg [] (.nil)) (.nil)) (.nil))) (.join [0,1,2,4,10,11,12] [(3,.c (.int .i64))] (.node (.reg [0,1,2,3,4,10,11,12,39] (.nil)) (.node (.node (.reg [0,1,2,3,4,10,11,12] (.nil)) (.reg [0,1,2,3,4,10,11,12] (.nil))) (.nil))) (.node (.reg [0,1,2,3,4,10,11,12,13,14] (.nil)) (.join [0,1,2,3,4,10,11,12] [(13,.c (.int .i64)),(14,.c (.int .i64))] (.node (.reg [0,1,2,3,4,10,11,12,13,14,56] (.nil)) (.node (.node (.reg [0,1,2,3,4,10,11,12,13] (.nil)) (.node (.reg [0,1,2,3,4,10,11,12,13] (.nil)) (.reg [0,1,2,3,4,10,11,12,13,14] (.nil)))) (.nil))) (.join [0,1,2,3,4,10,11,12,13] [] (.join [0,1,2,3,4,10,11,12,13] [(75,.c .bool)] (.reg [0,1,2,3,4,10,11,12,13,75] (.nil)) (.node (.node (.reg [0,1,2,3,4,10,11,12,13,80] (.nil)) (.nil)) (.nil))) (.node (.join [0,1,2,3,4,10,11,12,13] [(97,.c .bool)] (.reg [0,1,2,3,4,10,11,12,13,97] (.draw (dl 17 [dm [] [1] 82,dm [0] [81] 83,dm [1] [82] 84,dm [2] [4,83] 85,dm [2] [0,83] 86,dm [2] [1,83] 87,dm [2,5] [83,86] 88,dm [2,4,6] [83,85,87] 89,dm [2,7] [83,88] 90,dm [2] [0,83] 91,dm [2] [13,83] 92,dm [2,9,10] [83,90,91] 93,dm [2,11] [83,92] 94,dm [2,3,8,12] [83,84,89,93] 95,dm [2,13] [83,94] 96,dm [2,14] [83,95] 97,dm [2,15] [83,96] 98]) (tr 0 3 (.split 83 (tr 3 10 (.all (.last 13 (tr 14 3 (.done))))) (tr 3 14 (.done)))))) (.node (.node (.reg [0,2,3,4,10,11,15] (.nil)) (.node (.reg [0,1,2,3,4,10,11] (.nil)) (.nil))) (.nil))) (.node (.reg [0,1,2,3,4,12,16,17] (.nil)) (.node (.reg [0,1,2,3,4,11,12,16] (.nil)) (.node (.reg [0,1,2,3,4,11,12,16,18,19] (.nil)) (.node (.reg [0,1,2,3,4,11,16,18,19,20] (.nil)) (.node (.reg [0,1,2,3,4,11,16,18,19,20,125] (.nil)) (.node (.node (.reg [0,1,2,3,4,10,11,16] (.nil)) (.node (.reg [0,2,3,4,10,11,16] (.nil)) (.reg [0,1,2,3,4,10,11] (.nil)))) (.node (.reg [0,1,2,3,4,10,11,16] (.nil)) (.node (.reg [0,1,3,4,10,11,16] (.nil)) (.reg [0,1,2,3,4,10,11] (.nil))))))))))))))))))))
theorem H_slices_pdqsortCmpFunc_diff_Change (x0 : SliceV) (x1 : Int) (x2 : Int) (x3 : Int) (x4 : Value) {K : Tup [] → Heap → Prop} {h0 : Heap} (h : F_slices_pdqsortCmpFunc_diff_Change x0 x1 x2 x3 x4 K h0) : HC PG f_slices_pdqsortCmpFunc_diff_Change [.slice x0.a x0.len x0.cap, .int .i64 x1, .int .i64 x2, .int .i64 x3, x4] [] K h0 := HC.intro (an := A_slices_pdqsortCmpFunc_diff_Change) (c := Tryz.f65.body.getD .skip) Tryz.mixed Tryz.func65 rfl Tryz.call65 (Nat.le_of_ble_eq_true rfl) (cst (by kernel_rfl) h)
def F_math_bits_Len (x0 : Int) (K : (Int) → Heap → Prop) (h0 : Heap) : Prop :=
 HC PG f_math_bits_Len64 [.int .u64 x0] [.c (.int .i64)] (fun (e3 : Int) h4 =>
 K e3 h4) h0
noncomputable def A_math_bits_Len : Ann := .node (.reg [0] (.nil)) (.node (.node (.node (.reg [2] (.nil)) (.nil)) (.nil)) (.node (.reg [2] (.nil)) (.nil)))
theorem H_math_bits_Len (x0 : Int) {K : Tup [.c (.int .i64)] → Heap → Prop} {h0 : Heap} (h : F_math_bits_Len x0 K h0) : HC PG f_math_bits_Len [.int .u64 x0] [.c (.int .i64)] K h0 := HC.intro (an := A_math_bits_Len) (c := Tryz.f66.body.getD .skip) Tryz.mixed Tryz.func66 rfl Tryz.call66 (Nat.le_of_ble_eq_true rfl) (cst (by kernel_rfl) h)
def F_cmp_isNaN_str (x0 : ByteArray) (K : (Bool) → Heap → Prop) (h0 : Heap) : Prop :=
 K (!(x0.toList == x0.toList)) h0
noncomputable def A_cmp_isNaN_str : Ann := .node (.reg [0] (.nil)) (.node (.reg [2] (.nil)) (.nil))
theorem H_cmp_isNaN_str (x0 : ByteArray) {K : Tup [.c .bool] → Heap → Prop} {h0 : Heap} (h : F_cmp_isNaN_str x0 K h0) : HC PG f_cmp_isNaN_str [.string x0] [.c .bool] K h0 := HC.intro (an := A_cmp_isNaN_str) (c := Tryz.f67.body.getD .skip) Tryz.mixed Tryz.func67 rfl Tryz.call67 (Nat.le_of_ble_eq_true rfl) (cst (by kernel_rfl) h)
def F_merge_Get (x0 : T6) (x1 : ByteArray) (K : (ByteArray × Bool) → Heap → Prop) (h0 : Heap) : Prop :=
 At (hnew h0 [.int .i64 x0.1, .int .u64 x0.2.1, .int .u64 x0.2.2.1, .int .u64 x0.2.2.2.1, .pointer x0.2.2.2.2.1, .pointer x0.2.2.2.2.2] t_tree_Tree) (fun h1 =>
 At (hnew h1 [.string (⟨#[]⟩ : ByteArray), .bool false] t_merge_Side) (fun h2 =>
 ∃ v3, cAt h2 (newA h0) 0 (.int .i64 v3) ∧
 ∃ v4, cAt h2 (newA h0) 1 (.int .u64 v4) ∧
 ∃ v5, cAt h2 (newA h0) 2 (.int .u64 v5) ∧
 ∃ v6, cAt h2 (newA h0) 3 (.int .u64 v6) ∧
 ∃ v7, cAt h2 (newA h0) 4 (.pointer v7) ∧
 ∃ v8, cAt h2 (newA h0) 5 (.pointer v8) ∧
 HC PG f_tree_Tree_Get [.agg #[.int .i64 v3, .int .u64 v4, .int .u64 v5, .int .u64 v6, .pointer v7, .pointer v8], .string x1] [.c .str, .c .bool] (fun (e9 : ByteArray × Bool) h10 =>
 (WrS h10 (some (newA h1)) 0 [.string e9.1, .bool e9.2] ∧
 At (hsetL h10 (newA h1) 0 [.string e9.1, .bool e9.2]) (fun h11 =>
 ∃ v12, cAt h11 (newA h1) 0 (.string v12) ∧
 ∃ v13, cAt h11 (newA h1) 1 (.bool v13) ∧
 K (v12, v13) h11))) h2))
noncomputable def A_merge_Get : Ann := .node (.reg [1,2,4] (.nil)) (.node (.reg [4,5,6] (.nil)) (.node (.reg [4] (.nil)) (.nil)))
theorem H_merge_Get (x0 : T6) (x1 : ByteArray) {K : Tup [.agg [.str, .bool]] → Heap → Prop} {h0 : Heap} (h : F_merge_Get x0 x1 K h0) : HC PG f_merge_Get [.agg #[.int .i64 x0.1, .int .u64 x0.2.1, .int .u64 x0.2.2.1, .int .u64 x0.2.2.2.1, .pointer x0.2.2.2.2.1, .pointer x0.2.2.2.2.2], .string x1] [.agg [.str, .bool]] K h0 := HC.intro (an := A_merge_Get) (c := Tryz.f68.body.getD .skip) Tryz.mixed Tryz.func68 rfl Tryz.call68 (Nat.le_of_ble_eq_true rfl) (cst (by kernel_rfl) h)
def F_merge_set (x0 : T6) (x1 : ByteArray) (x2 : ByteArray × Bool) (K : (T6) → Heap → Prop) (h0 : Heap) : Prop :=
 At (hnew h0 [.int .i64 x0.1, .int .u64 x0.2.1, .int .u64 x0.2.2.1, .int .u64 x0.2.2.2.1, .pointer x0.2.2.2.2.1, .pointer x0.2.2.2.2.2] t_tree_Tree) (fun h1 =>
 At (hnew h1 [.string x2.1, .bool x2.2] t_merge_Side) (fun h2 =>
 At (hnew h2 [.int .i64 0, .int .u64 0, .int .u64 0, .int .u64 0, .pointer none, .pointer none] t_tree_Tree) (fun h3 =>
 Join (fun (t25 : Unit) h26 =>
 ∃ v27, cAt h26 (newA h0) 0 (.int .i64 v27) ∧
 ∃ v28, cAt h26 (newA h0) 1 (.int .u64 v28) ∧
 ∃ v29, cAt h26 (newA h0) 2 (.int .u64 v29) ∧
 ∃ v30, cAt h26 (newA h0) 3 (.int .u64 v30) ∧
 ∃ v31, cAt h26 (newA h0) 4 (.pointer v31) ∧
 ∃ v32, cAt h26 (newA h0) 5 (.pointer v32) ∧
 (WrS h26 (some (newA h2)) 0 [.int .i64 v27, .int .u64 v28, .int .u64 v29, .int .u64 v30, .pointer v31, .pointer v32] ∧
 At (hsetL h26 (newA h2) 0 [.int .i64 v27, .int .u64 v28, .int .u64 v29, .int .u64 v30, .pointer v31, .pointer v32]) (fun h33 =>
 ∃ v34, cAt h33 (newA h2) 0 (.int .i64 v34) ∧
 ∃ v35, cAt h33 (newA h2) 1 (.int .u64 v35) ∧
 ∃ v36, cAt h33 (newA h2) 2 (.int .u64 v36) ∧
 ∃ v37, cAt h33 (newA h2) 3 (.int .u64 v37) ∧
 ∃ v38, cAt h33 (newA h2) 4 (.pointer v38) ∧
 ∃ v39, cAt h33 (newA h2) 5 (.pointer v39) ∧
 K (v34, v35, v36, v37, v38, v39) h33))) (fun J4 =>
 ∃ v5, cAt h3 (newA h1) 1 (.bool v5) ∧
 CondP v5 (
 ∃ v6, cAt h3 (newA h0) 0 (.int .i64 v6) ∧
 ∃ v7, cAt h3 (newA h0) 1 (.int .u64 v7) ∧
 ∃ v8, cAt h3 (newA h0) 2 (.int .u64 v8) ∧
 ∃ v9, cAt h3 (newA h0) 3 (.int .u64 v9) ∧
 ∃ v10, cAt h3 (newA h0) 4 (.pointer v10) ∧
 ∃ v11, cAt h3 (newA h0) 5 (.pointer v11) ∧
 ∃ v12, cAt h3 (newA h1) 0 (.string v12) ∧
 HC PG f_tree_Tree_With [.agg #[.int .i64 v6, .int .u64 v7, .int .u64 v8, .int .u64 v9, .pointer v10, .pointer v11], .pointer none, .agg #[.string x1, .string v12]] [.agg [.int .i64, .int .u64, .int .u64, .int .u64, .ptr, .ptr], .c (.int .i64)] (fun (e13 : (T6) × Int) h14 =>
 (WrS h14 (some (newA h0)) 0 [.int .i64 e13.1.1, .int .u64 e13.1.2.1, .int .u64 e13.1.2.2.1, .int .u64 e13.1.2.2.2.1, .pointer e13.1.2.2.2.2.1, .pointer e13.1.2.2.2.2.2] ∧
 At (hsetL h14 (newA h0) 0 [.int .i64 e13.1.1, .int .u64 e13.1.2.1, .int .u64 e13.1.2.2.1, .int .u64 e13.1.2.2.2.1, .pointer e13.1.2.2.2.2.1, .pointer e13.1.2.2.2.2.2]) (fun h15 =>
 J4 () h15))) h3) (
 ∃ v16, cAt h3 (newA h0) 0 (.int .i64 v16) ∧
 ∃ v17, cAt h3 (newA h0) 1 (.int .u64 v17) ∧
 ∃ v18, cAt h3 (newA h0) 2 (.int .u64 v18) ∧
 ∃ v19, cAt h3 (newA h0) 3 (.int .u64 v19) ∧
 ∃ v20, cAt h3 (newA h0) 4 (.pointer v20) ∧
 ∃ v21, cAt h3 (newA h0) 5 (.pointer v21) ∧
 HC PG f_tree_Tree_Without [.agg #[.int .i64 v16, .int .u64 v17, .int .u64 v18, .int .u64 v19, .pointer v20, .pointer v21], .pointer none, .string x1] [.agg [.int .i64, .int .u64, .int .u64, .int .u64, .ptr, .ptr], .c (.int .i64)] (fun (e22 : (T6) × Int) h23 =>
 (WrS h23 (some (newA h0)) 0 [.int .i64 e22.1.1, .int .u64 e22.1.2.1, .int .u64 e22.1.2.2.1, .int .u64 e22.1.2.2.2.1, .pointer e22.1.2.2.2.2.1, .pointer e22.1.2.2.2.2.2] ∧
 At (hsetL h23 (newA h0) 0 [.int .i64 e22.1.1, .int .u64 e22.1.2.1, .int .u64 e22.1.2.2.1, .int .u64 e22.1.2.2.2.1, .pointer e22.1.2.2.2.2.1, .pointer e22.1.2.2.2.2.2]) (fun h24 =>
 J4 () h24))) h3)))))
noncomputable def A_merge_set : Ann := .node (.reg [1,3,5,6] (.nil)) (.join [3,6] [] (.node (.reg [1,3,5,6,8] (.nil)) (.node (.reg [3,6] (.nil)) (.reg [3,6] (.nil)))) (.node (.reg [6] (.nil)) (.nil)))
theorem H_merge_set (x0 : T6) (x1 : ByteArray) (x2 : ByteArray × Bool) {K : Tup [.agg [.int .i64, .int .u64, .int .u64, .int .u64, .ptr, .ptr]] → Heap → Prop} {h0 : Heap} (h : F_merge_set x0 x1 x2 K h0) : HC PG f_merge_set [.agg #[.int .i64 x0.1, .int .u64 x0.2.1, .int .u64 x0.2.2.1, .int .u64 x0.2.2.2.1, .pointer x0.2.2.2.2.1, .pointer x0.2.2.2.2.2], .string x1, .agg #[.string x2.1, .bool x2.2]] [.agg [.int .i64, .int .u64, .int .u64, .int .u64, .ptr, .ptr]] K h0 := HC.intro (an := A_merge_set) (c := Tryz.f69.body.getD .skip) Tryz.mixed Tryz.func69 rfl Tryz.call69 (Nat.le_of_ble_eq_true rfl) (cst (by kernel_rfl) h)
def F_walk_Sorted (x0 : Option Addr) (K : (SliceV) → Heap → Prop) (h0 : Heap) : Prop :=
 HC PG f_walk_All [.pointer x0] [.c .raw] (fun (e1 : Value) h2 =>
 HC PG f_slices_Collect_pair_Pair [e1] [.c .slice] (fun (e3 : SliceV) h4 =>
 HC PG f_pair_Sorted [.slice e3.a e3.len e3.cap] [.c .slice] (fun (e5 : SliceV) h6 =>
 K e5 h6) h4) h2) h0
noncomputable def A_walk_Sorted : Ann := .node (.reg [0] (.nil)) (.node (.reg [2] (.nil)) (.nil))
theorem H_walk_Sorted (x0 : Option Addr) {K : Tup [.c .slice] → Heap → Prop} {h0 : Heap} (h : F_walk_Sorted x0 K h0) : HC PG f_walk_Sorted [.pointer x0] [.c .slice] K h0 := HC.intro (an := A_walk_Sorted) (c := Tryz.f72.body.getD .skip) Tryz.mixed Tryz.func72 rfl Tryz.call72 (Nat.le_of_ble_eq_true rfl) (cst (by kernel_rfl) h)
def F_radix_Empty  (K : (Option Addr) → Heap → Prop) (h0 : Heap) : Prop :=
 At (hnew h0 [.string (⟨#[]⟩ : ByteArray), .bool false, .string (⟨#[]⟩ : ByteArray), .slice none 0 0, .pointer none] t_radix_Node) (fun h1 =>
 K (some (newA h0)) h1)
noncomputable def A_radix_Empty : Ann := .node (.reg [] (.nil)) (.node (.reg [0] (.nil)) (.nil))
theorem H_radix_Empty  {K : Tup [.c .ptr] → Heap → Prop} {h0 : Heap} (h : F_radix_Empty  K h0) : HC PG f_radix_Empty [] [.c .ptr] K h0 := HC.intro (an := A_radix_Empty) (c := Tryz.f73.body.getD .skip) Tryz.mixed Tryz.func73 rfl Tryz.call73 (Nat.le_of_ble_eq_true rfl) (cst (by kernel_rfl) h)
def F_pair_Sorted (x0 : SliceV) (K : (SliceV) → Heap → Prop) (h0 : Heap) : Prop :=
 HC PG f_slices_Clone_A_pair_Pair_pair_Pair [.slice x0.a x0.len x0.cap] [.c .slice] (fun (e1 : SliceV) h2 =>
 HC PG f_slices_SortStableFunc_A_pair_Pair_pair_Pair [.slice e1.a e1.len e1.cap, .func (.func f_pair_Sorted_1) #[] #[]] [] (fun (e3 : Unit) h4 =>
 LoopP (fun I5 (t6 : Int × Int) h7 =>
 CondP (decide (t6.2 < (e1.len : Int))) (
 Join (fun (t24 : Int) h25 =>
 I5 (t24, IntKind.wrap .i64 (t6.2 + 1)) h25) (fun J8 =>
 (iBd t6.2 e1.len ∧ ∃ a9, e1.a = some a9 ∧
 ∃ v10, cAt h7 (adr a9 (t6.2.toNat * 2)) 0 (.string v10) ∧
 ∃ v11, cAt h7 (adr a9 (t6.2.toNat * 2)) 1 (.string v11) ∧
 At (hnew h7 [.string (⟨#[]⟩ : ByteArray), .string (⟨#[]⟩ : ByteArray)] t_pair_Pair) (fun h12 =>
 (WrS h12 (some (newA h7)) 0 [.string v10, .string v11] ∧
 At (hsetL h12 (newA h7) 0 [.string v10, .string v11]) (fun h13 =>
 Join (fun (t18 : Bool) h19 =>
 CondP t18 (
 J8 t6.1 h19) (
 ∃ v20, cAt h19 (newA h7) 0 (.string v20) ∧
 ∃ v21, cAt h19 (newA h7) 1 (.string v21) ∧
 (iBd t6.1 e1.len ∧ ∃ a22, e1.a = some a22 ∧
 (WrS h19 (some (adr a22 (t6.1.toNat * 2))) 0 [.string v20, .string v21] ∧
 At (hsetL h19 (adr a22 (t6.1.toNat * 2)) 0 [.string v20, .string v21]) (fun h23 =>
 J8 (IntKind.wrap .i64 (t6.1 + 1)) h23))))) (fun J14 =>
 CondP (decide ((IntKind.wrap .i64 (t6.2 + 1)) < (e1.len : Int))) (
 (iBd (IntKind.wrap .i64 (t6.2 + 1)) e1.len ∧ ∃ a15, e1.a = some a15 ∧
 ∃ v16, cAt h13 (adr a15 ((IntKind.wrap .i64 (t6.2 + 1)).toNat * 2)) 0 (.string v16) ∧
 ∃ v17, cAt h13 (newA h7) 0 (.string v17) ∧
 J14 (v16.toList == v17.toList) h13)) (
 J14 false h13)))))))) (
 (((0 : Int) ≤ t6.1 ∧ t6.1 ≤ ((e1.cap : Nat) : Int)) ∧
 K ⟨subAddr e1.a 0 e1.cap 2, t6.1.toNat - 0, e1.cap - 0⟩ h7))) (0, 0) h4) h2) h0
noncomputable def A_pair_Sorted : Ann := .node (.reg [0] (.nil)) (.node (.reg [3] (.nil)) (.node (.reg [3] (.nil)) (.node (.reg [3,4] (.nil)) (.node (.node (.reg [3,4,11,12,13] (.nil)) (.loop [3,11,12] [(4,.c (.int .i64)),(13,.c (.int .i64))] (.node (.reg [3,4,11,12,13,14] (.nil)) (.node (.nil) (.join [3,11,12,13] [(4,.c (.int .i64))] (.node (.reg [3,4,5,6,11,12,13] (.nil)) (.node (.join [3,4,6,11,12,13] [(33,.c .bool)] (.reg [3,4,6,11,12,13,33] (.draw (dl 16 [dm [] [5] 19,dm [0] [18] 20,dm [] [3] 21,dm [2] [20] 22,dm [1,3] [19,21] 23,dm [4] [22] 24,dm [5] [3,23] 25,dm [5] [5,23] 26,dm [5,7] [23,25] 27,dm [5,6,8] [23,24,26] 28,dm [5,9] [23,27] 29,dm [5,10] [23,28] 30,dm [5] [6,23] 31,dm [5,12] [23,30] 32,dm [5,11,13] [23,29,31] 33,dm [5,14] [23,32] 34]) (tr 0 6 (.split 23 (tr 6 10 (.done)) (tr 6 10 (.done)))))) (.nil)) (.node (.reg [3,4,11,12,13] (.nil)) (.reg [3,4,11,12,13] (.nil))))) (.reg [3,4,11,12,13] (.nil))))))) (.node (.reg [2] (.nil)) (.nil))))))
theorem H_pair_Sorted (x0 : SliceV) {K : Tup [.c .slice] → Heap → Prop} {h0 : Heap} (h : F_pair_Sorted x0 K h0) : HC PG f_pair_Sorted [.slice x0.a x0.len x0.cap] [.c .slice] K h0 := HC.intro (an := A_pair_Sorted) (c := Tryz.f74.body.getD .skip) Tryz.mixed Tryz.func74 rfl Tryz.call74 (Nat.le_of_ble_eq_true rfl) (cst (by kernel_rfl) h)
def F_radix_Make (x0 : ByteArray) (x1 : Bool) (x2 : ByteArray) (x3 : SliceV) (K : (Option Addr) → Heap → Prop) (h0 : Heap) : Prop :=
 At (hnew h0 [.string x0, .bool x1, .string (⟨#[]⟩ : ByteArray), .slice none 0 0, .pointer none] t_radix_Node) (fun h1 =>
 Join (fun (t5 : Unit) h6 =>
 LoopP (fun I7 (t8 : Int) h9 =>
 CondP (decide (t8 < (x3.len : Int))) (
 Join (fun (t21 : Unit) h22 =>
 I7 (IntKind.wrap .i64 (t8 + 1)) h22) (fun J10 =>
 (iBd t8 x3.len ∧ ∃ a11, x3.a = some a11 ∧
 ∃ v12, cAt h9 a11 (t8.toNat * 1) (.pointer v12) ∧
 CondP (!(v12.isNone)) (
 ∃ a13, some (newA h0) = some a13 ∧
 ∃ v14 : SliceV, cAt h9 a13 3 (.slice v14.a v14.len v14.cap) ∧
 At (hnew h9 [.pointer v12] t_P_radix_Node) (fun h15 =>
 ∃ xs16, SRow h15 (some (newA h9)) (1 * 1) xs16 ∧
 AppP (some [.pointer none]) 1 8 t_P_radix_Node v14.a v14.len v14.cap 1 xs16 h15 (fun s17 h18 =>
 ∃ a19, some (newA h0) = some a19 ∧
 (Wr h18 (adr a19 3) ∧
 At (hset h18 (adr a19 3) (.slice s17.a s17.len s17.cap)) (fun h20 =>
 J10 () h20))))) (
 J10 () h9)))) (
 K (some (newA h0)) h9)) 0 h6) (fun J2 =>
 CondP x1 (
 ∃ a3, some (newA h0) = some a3 ∧
 (Wr h1 (adr a3 2) ∧
 At (hset h1 (adr a3 2) (.string x2)) (fun h4 =>
 J2 () h4))) (
 J2 () h1)))
noncomputable def A_radix_Make : Ann := .node (.reg [0,1,2,3] (.nil)) (.node (.reg [1,2,3,9] (.nil)) (.join [3,9] [] (.node (.reg [2,3,9,16] (.nil)) (.node (.reg [3,9] (.nil)) (.nil))) (.node (.node (.reg [9,21,22,23] (.nil)) (.loop [9,21,22] [(23,.c (.int .i64))] (.node (.reg [9,21,22,23,24] (.nil)) (.node (.nil) (.join [9,21,22,23] [] (.node (.reg [9,11,21,22,23] (.nil)) (.node (.reg [9,11,21,22,23,28] (.nil)) (.node (.reg [9,21,22,23] (.nil)) (.nil)))) (.reg [9,21,22,23] (.nil))))))) (.node (.reg [8] (.nil)) (.nil)))))
theorem H_radix_Make (x0 : ByteArray) (x1 : Bool) (x2 : ByteArray) (x3 : SliceV) {K : Tup [.c .ptr] → Heap → Prop} {h0 : Heap} (h : F_radix_Make x0 x1 x2 x3 K h0) : HC PG f_radix_Make [.string x0, .bool x1, .string x2, .slice x3.a x3.len x3.cap] [.c .ptr] K h0 := HC.intro (an := A_radix_Make) (c := Tryz.f75.body.getD .skip) Tryz.mixed Tryz.func75 rfl Tryz.call75 (Nat.le_of_ble_eq_true rfl) (cst (by kernel_rfl) h)
def F_build_kids (x0 : SliceV) (x1 : Int) (K : (SliceV) → Heap → Prop) (h0 : Heap) : Prop :=
 At (hnew h0 [.int .i64 x1] t_int) (fun h1 =>
 LoopP (fun I2 (t3 : SliceV × SliceV) h4 =>
 CondP (decide ((t3.1.len : Int) > (0 : Int))) (
 (iBd 0 t3.1.len ∧ ∃ a5, t3.1.a = some a5 ∧
 ∃ v6, cAt h4 (adr a5 ((0 : Int).toNat * 2)) 0 (.string v6) ∧
 ∃ v7, hcell h4 (newA h0) = some (.int .i64 v7) ∧
 ∃ b8, (0 : Int) ≤ v7 ∧ v6[v7.toNat]? = some b8 ∧
 At (hnew h4 [.int .u8 0] t_u8) (fun h9 =>
 (hcell h9 (newA h0) = some (.int .i64 v7) ∧
 (cAt h9 (adr a5 ((0 : Int).toNat * 2)) 0 (.string v6) ∧
 (Wr h9 (newA h4) ∧
 At (hset h9 (newA h4) (.int .u8 (b8.toNat : Int))) (fun h10 =>
 HC PG f_slices_IndexFunc_A_pair_Pair_pair_Pair [.slice t3.1.a t3.1.len t3.1.cap, .func (.func f_build_kids_1) #[] #[.pointer (some (newA h0)), .pointer (some (newA h4))]] [.c (.int .i64)] (fun (e11 : Int) h12 =>
 Join (fun (t14 : Int) h15 =>
 Join (fun (t24 : SliceV) h25 =>
 (((0 : Int) ≤ t14 ∧ t14 ≤ ((t3.1.len : Nat) : Int)) ∧
 I2 (⟨subAddr t3.1.a t14.toNat t3.1.cap 2, t3.1.len - t14.toNat, t3.1.cap - t14.toNat⟩, t24) h25)) (fun J16 =>
 (((0 : Int) ≤ t14 ∧ t14 ≤ ((t3.1.cap : Nat) : Int)) ∧
 ∃ v17, hcell h15 (newA h0) = some (.int .i64 v17) ∧
 HC PG f_build_branch [.slice (subAddr t3.1.a 0 t3.1.cap 2) (t14.toNat - 0) (t3.1.cap - 0), .int .i64 v17] [.c .ptr] (fun (e18 : Option Addr) h19 =>
 At (hnew h19 [.pointer e18] t_P_radix_Node) (fun h20 =>
 ∃ xs21, SRow h20 (some (newA h19)) (1 * 1) xs21 ∧
 AppP (some [.pointer none]) 1 8 t_P_radix_Node t3.2.a t3.2.len t3.2.cap 1 xs21 h20 (fun s22 h23 =>
 J16 s22 h23))) h15))) (fun J13 =>
 CondP (decide (e11 < (0 : Int))) (
 J13 (t3.1.len : Int) h12) (
 J13 e11 h12))) h10))))))) (
 K t3.2 h4)) (x0, ⟨none, 0, 0⟩) h1)
noncomputable def A_build_kids : Ann := .node (.reg [0,3] (.nil)) (.node (.reg [0,3,5] (.nil)) (.node (.loop [3] [(0,.c .slice),(5,.c .slice)] (.node (.node (.reg [0,3,5,10] (.nil)) (.nil)) (.node (.reg [0,3,5,6] (.draw (dl 8 [dm [] [0] 12,dm [0] [11] 13,dm [1] [12] 14,dm [2] [13] 15,dm [] [3] 16,dm [3,4] [14,15] 17,dm [] [] 7,dn [0,1,2,3,4,5,6] [5,6] [6,16] 0]) (tr 0 6 (.all (.last 6 (.all (.last 7 (.done)))))))) (.node (.reg [0,3,5,7] (.nil)) (.join [0,3,5] [(7,.c (.int .i64))] (.node (.reg [0,3,5,7,21] (.nil)) (.node (.reg [0,3,5,7] (.nil)) (.nil))) (.join [0,3,7] [(5,.c .slice)] (.reg [0,3,5,7] (.draw (dl 9 [dm [] [5] 25,dm [] [0] 26,dm [] [7] 27,dm [1,2] [25,26] 28,dm [] [3] 29,dm [3,4] [27,28] 30,dm [5] [29] 31,dn [0,5,6] [0,6] [24,30] 32,dn [0,1,2,3,4,5,6,7] [0,7] [31] 6]) (tr 0 5 (.all (.last 5 (.all (.last 6 (.all (.last 7 (.take 8 (.done))))))))))) (.reg [0,3,5] (.nil)))))))) (.node (.reg [4] (.nil)) (.nil))))
theorem H_build_kids (x0 : SliceV) (x1 : Int) {K : Tup [.c .slice] → Heap → Prop} {h0 : Heap} (h : F_build_kids x0 x1 K h0) : HC PG f_build_kids [.slice x0.a x0.len x0.cap, .int .i64 x1] [.c .slice] K h0 := HC.intro (an := A_build_kids) (c := Tryz.f76.body.getD .skip) Tryz.mixed Tryz.func76 rfl Tryz.call76 (Nat.le_of_ble_eq_true rfl) (cst (by kernel_rfl) h)
def F_sip_Hasher_Hash (x0 : Int × Int × Int) (x1 : ByteArray) (K : (Int) → Heap → Prop) (h0 : Heap) : Prop :=
 At (hnew h0 [.int .u64 x0.1, .int .u64 x0.2.1, .int .u64 x0.2.2] t_sip_Hasher) (fun h1 =>
 ∃ v2, cAt h1 (adr (newA h0) 0) 0 (.int .u64 v2) ∧
 ∃ v3, cAt h1 (adr (newA h0) 0) 1 (.int .u64 v3) ∧
 ∃ v4, cAt h1 (newA h0) 2 (.int .u64 v4) ∧
 HC PG f_sip_Sum [.agg #[.int .u64 v2, .int .u64 v3], .string x1] [.c (.int .u64)] (fun (e5 : Int) h6 =>
 (cAt h6 (newA h0) 2 (.int .u64 v4) ∧
 Bd (IntKind.wrap .u64 (BitVec.ofInt (IntKind.bits .u64) e5 &&& BitVec.ofInt (IntKind.bits .u64) v4).toNat : Int) (fun n7 =>
 K n7 h6))) h1)
noncomputable def A_sip_Hasher_Hash : Ann := .node (.reg [1,2] (.nil)) (.node (.reg [4] (.draw (dl 8 [dm [] [2] 6,dm [0] [5] 7,dm [] [1] 8,dm [1,2] [6,7] 9,dm [] [2] 10,dm [4] [9] 11,dm [3,5] [8,10] 12,dn [0,1,2,3,4,5,6] [6] [11] 5]) (tk [0,1,2,4,5] (.all (.last 3 (.take 6 (.take 7 (.done)))))))) (.nil))
theorem H_sip_Hasher_Hash (x0 : Int × Int × Int) (x1 : ByteArray) {K : Tup [.c (.int .u64)] → Heap → Prop} {h0 : Heap} (h : F_sip_Hasher_Hash x0 x1 K h0) : HC PG f_sip_Hasher_Hash [.agg #[.int .u64 x0.1, .int .u64 x0.2.1, .int .u64 x0.2.2], .string x1] [.c (.int .u64)] K h0 := HC.intro (an := A_sip_Hasher_Hash) (c := Tryz.f77.body.getD .skip) Tryz.mixed Tryz.func77 rfl Tryz.call77 (Nat.le_of_ble_eq_true rfl) (cst (by kernel_rfl) h)
def F_build_trie (x0 : SliceV) (x1 : Int) (K : (Option Addr) → Heap → Prop) (h0 : Heap) : Prop :=
 At (hnew h0 [.int .i64 x1] t_int) (fun h1 =>
 ∃ v2, hcell h1 (newA h0) = some (.int .i64 v2) ∧
 CondP (v2 == (13 : Int)) (
 HC PG f_node_Bucket [] [.c .ptr] (fun (e3 : Option Addr) h4 =>
 LoopP (fun I5 (t6 : (Option Addr) × Int) h7 =>
 CondP (decide (t6.2 < (x0.len : Int))) (
 (iBd t6.2 x0.len ∧ ∃ a8, x0.a = some a8 ∧
 ∃ v9, cAt h7 (adr a8 (t6.2.toNat * 3)) 0 (.string v9) ∧
 ∃ v10, cAt h7 (adr a8 (t6.2.toNat * 3)) 1 (.string v10) ∧
 ∃ v11, cAt h7 (adr a8 (t6.2.toNat * 3)) 2 (.int .u64 v11) ∧
 At (hnew h7 [.string (⟨#[]⟩ : ByteArray), .string (⟨#[]⟩ : ByteArray), .int .u64 0] t_build_hashed) (fun h12 =>
 (WrS h12 (some (newA h7)) 0 [.string v9, .string v10, .int .u64 v11] ∧
 At (hsetL h12 (newA h7) 0 [.string v9, .string v10, .int .u64 v11]) (fun h13 =>
 ∃ v14, cAt h13 (adr (newA h7) 0) 0 (.string v14) ∧
 ∃ v15, cAt h13 (adr (newA h7) 0) 1 (.string v15) ∧
 HC PG f_node_Node_Put [.pointer t6.1, .pointer none, .agg #[.string v14, .string v15]] [.c .ptr] (fun (e16 : Option Addr) h17 =>
 I5 (e16, IntKind.wrap .i64 (t6.2 + 1)) h17) h13))))) (
 K t6.1 h7)) (e3, 0) h4) h1) (
 At (hnew h1 [Value.nilFunc] t_func_build_hashed_int) (fun h18 =>
 (Wr h18 (newA h1) ∧
 At (hset h18 (newA h1) (.func (.func f_build_trie_1) #[] #[.pointer (some (newA h0))])) (fun h19 =>
 HC PG f_slices_Clone_A_build_hashed_build_hashed [.slice x0.a x0.len x0.cap] [.c .slice] (fun (e20 : SliceV) h21 =>
 HC PG f_slices_SortStableFunc_A_build_hashed_build_hashed [.slice e20.a e20.len e20.cap, .func (.func f_build_trie_2) #[] #[.pointer (some (newA h1))]] [] (fun (e22 : Unit) h23 =>
 HC PG f_node_Inner [] [.c .ptr] (fun (e24 : Option Addr) h25 =>
 LoopP (fun I26 (t27 : SliceV × (Option Addr)) h28 =>
 CondP (decide ((t27.1.len : Int) > (0 : Int))) (
 ∃ v29, hcell h28 (newA h1) = some (v29) ∧
 (iBd 0 t27.1.len ∧ ∃ a30, t27.1.a = some a30 ∧
 ∃ v31, cAt h28 (adr a30 ((0 : Int).toNat * 3)) 0 (.string v31) ∧
 ∃ v32, cAt h28 (adr a30 ((0 : Int).toNat * 3)) 1 (.string v32) ∧
 ∃ v33, cAt h28 (adr a30 ((0 : Int).toNat * 3)) 2 (.int .u64 v33) ∧
 ((HV PG v29 [.agg #[.string v31, .string v32, .int .u64 v33]] [.c (.int .i64)] (fun (e34 : Int) h35 =>
 At (hnew h35 [.int .i64 0] t_int) (fun h36 =>
 (Wr h36 (newA h35) ∧
 At (hset h36 (newA h35) (.int .i64 e34)) (fun h37 =>
 HC PG f_slices_IndexFunc_A_build_hashed_build_hashed [.slice t27.1.a t27.1.len t27.1.cap, .func (.func f_build_trie_3) #[] #[.pointer (some (newA h1)), .pointer (some (newA h35))]] [.c (.int .i64)] (fun (e38 : Int) h39 =>
 Join (fun (t41 : Int) h42 =>
 Join (fun (t56 : Option Addr) h57 =>
 (((0 : Int) ≤ t41 ∧ t41 ≤ ((t27.1.len : Nat) : Int)) ∧
 I26 (⟨subAddr t27.1.a t41.toNat t27.1.cap 3, t27.1.len - t41.toNat, t27.1.cap - t41.toNat⟩, t56) h57)) (fun J43 =>
 CondP (t41 == (1 : Int)) (
 ∃ v44, hcell h42 (newA h35) = some (.int .i64 v44) ∧
 (iBd 0 t27.1.len ∧ ∃ a45, t27.1.a = some a45 ∧
 ∃ v46, cAt h42 (adr (adr a45 ((0 : Int).toNat * 3)) 0) 0 (.string v46) ∧
 ∃ v47, cAt h42 (adr (adr a45 ((0 : Int).toNat * 3)) 0) 1 (.string v47) ∧
 HC PG f_node_Node_SetPair [.pointer t27.2, .pointer none, .int .i64 v44, .agg #[.string v46, .string v47]] [.c .ptr] (fun (e48 : Option Addr) h49 =>
 J43 e48 h49) h42)) (
 ∃ v50, hcell h42 (newA h35) = some (.int .i64 v50) ∧
 (((0 : Int) ≤ t41 ∧ t41 ≤ ((t27.1.cap : Nat) : Int)) ∧
 ∃ v51, hcell h42 (newA h0) = some (.int .i64 v51) ∧
 HC PG f_build_trie [.slice (subAddr t27.1.a 0 t27.1.cap 3) (t41.toNat - 0) (t27.1.cap - 0), .int .i64 (IntKind.wrap .i64 (v51 + 1))] [.c .ptr] (fun (e52 : Option Addr) h53 =>
 (hcell h53 (newA h0) = some (.int .i64 v51) ∧
 (hcell h53 (newA h35) = some (.int .i64 v50) ∧
 HC PG f_node_Node_SetKid [.pointer t27.2, .pointer none, .int .i64 v50, .pointer e52] [.c .ptr] (fun (e54 : Option Addr) h55 =>
 (hcell h55 (newA h0) = some (.int .i64 v51) ∧
 J43 e54 h55)) h53))) h42)))) (fun J40 =>
 CondP (decide (e38 < (0 : Int))) (
 J40 (t27.1.len : Int) h39) (
 J40 e38 h39))) h37)))) h28) ∧
 At (hnew h28 [.int .i64 0] t_int) (fun h58 =>
 ((cAt h58 (adr a30 ((0 : Int).toNat * 3)) 0 (.string v31) ∧ cAt h58 (adr a30 ((0 : Int).toNat * 3)) 1 (.string v32) ∧ cAt h58 (adr a30 ((0 : Int).toNat * 3)) 2 (.int .u64 v33)) ∧
 (hcell h58 (newA h1) = some (v29) ∧
 HV PG v29 [.agg #[.string v31, .string v32, .int .u64 v33]] [.c (.int .i64)] (fun (e59 : Int) h60 =>
 (Wr h60 (newA h28) ∧
 At (hset h60 (newA h28) (.int .i64 e59)) (fun h61 =>
 HC PG f_slices_IndexFunc_A_build_hashed_build_hashed [.slice t27.1.a t27.1.len t27.1.cap, .func (.func f_build_trie_3) #[] #[.pointer (some (newA h1)), .pointer (some (newA h28))]] [.c (.int .i64)] (fun (e62 : Int) h63 =>
 Join (fun (t65 : Int) h66 =>
 Join (fun (t80 : Option Addr) h81 =>
 (((0 : Int) ≤ t65 ∧ t65 ≤ ((t27.1.len : Nat) : Int)) ∧
 I26 (⟨subAddr t27.1.a t65.toNat t27.1.cap 3, t27.1.len - t65.toNat, t27.1.cap - t65.toNat⟩, t80) h81)) (fun J67 =>
 CondP (t65 == (1 : Int)) (
 ∃ v68, hcell h66 (newA h28) = some (.int .i64 v68) ∧
 (iBd 0 t27.1.len ∧ ∃ a69, t27.1.a = some a69 ∧
 ∃ v70, cAt h66 (adr (adr a69 ((0 : Int).toNat * 3)) 0) 0 (.string v70) ∧
 ∃ v71, cAt h66 (adr (adr a69 ((0 : Int).toNat * 3)) 0) 1 (.string v71) ∧
 HC PG f_node_Node_SetPair [.pointer t27.2, .pointer none, .int .i64 v68, .agg #[.string v70, .string v71]] [.c .ptr] (fun (e72 : Option Addr) h73 =>
 J67 e72 h73) h66)) (
 ∃ v74, hcell h66 (newA h28) = some (.int .i64 v74) ∧
 (((0 : Int) ≤ t65 ∧ t65 ≤ ((t27.1.cap : Nat) : Int)) ∧
 ∃ v75, hcell h66 (newA h0) = some (.int .i64 v75) ∧
 HC PG f_build_trie [.slice (subAddr t27.1.a 0 t27.1.cap 3) (t65.toNat - 0) (t27.1.cap - 0), .int .i64 (IntKind.wrap .i64 (v75 + 1))] [.c .ptr] (fun (e76 : Option Addr) h77 =>
 (hcell h77 (newA h0) = some (.int .i64 v75) ∧
 (hcell h77 (newA h28) = some (.int .i64 v74) ∧
 HC PG f_node_Node_SetKid [.pointer t27.2, .pointer none, .int .i64 v74, .pointer e76] [.c .ptr] (fun (e78 : Option Addr) h79 =>
 (hcell h79 (newA h0) = some (.int .i64 v75) ∧
 J67 e78 h79)) h77))) h66)))) (fun J64 =>
 CondP (decide (e62 < (0 : Int))) (
 J64 (t27.1.len : Int) h63) (
 J64 e62 h63))) h61))) h58)))))) (
 K t27.2 h28)) (e20, e24) h25) h23) h21) h19)))))
noncomputable def A_build_trie : Ann := .node (.reg [0,3] (.nil)) (.node (.node (.reg [0,3,13] (.nil)) (.node (.node (.reg [0,5] (.nil)) (.node (.node (.reg [5,15,16,17] (.nil)) (.loop [15,16] [(5,.c .ptr),(17,.c (.int .i64))] (.node (.reg [5,15,16,17,18] (.nil)) (.node (.nil) (.node (.node (.reg [5,7,15,16,17] (.nil)) (.reg [5,15,16,17] (.nil))) (.reg [5,15,16,17] (.nil))))))) (.node (.reg [4] (.nil)) (.nil)))) (.nil))) (.node (.reg [0,3,8] (.nil)) (.node (.reg [0,3,8] (.nil)) (.node (.reg [0,3,8] (.nil)) (.node (.reg [0,3,8,9] (.nil)) (.node (.loop [3,8] [(0,.c .slice),(9,.c .ptr)] (.node (.node (.reg [0,3,8,9,36] (.nil)) (.nil)) (.node (.reg [0,3,8,9,10] (.draw (dl 7 [dm [] [8] 38,dm [] [0] 39,dm [1] [38] 40,dm [2] [39] 41,dm [0,3] [37,40] 42,dm [] [] 11,dn [0,1,2,3,4,5] [4,5] [10,41] 0]) (tr 0 4 (.all (.pick 4 (.all (.last 5 (.all (.last 6 (.done))))) (.last 5 (.all (.last 4 (.all (.last 6 (.done))))))))))) (.node (.reg [0,3,8,9,10,11] (.nil)) (.join [0,3,8,9,10] [(11,.c (.int .i64))] (.node (.reg [0,3,8,9,10,11,46] (.nil)) (.node (.reg [0,3,8,9,10,11] (.nil)) (.nil))) (.join [0,3,8,11] [(9,.c .ptr)] (.node (.reg [0,3,8,9,10,11,50] (.nil)) (.node (.reg [0,3,8,9,11] (.draw (dl 8 [dm [] [9] 52,dm [] [10] 53,dm [] [0] 54,dm [2] [53] 55,dm [3] [54] 56,dm [4] [55] 57,dm [0,1,5] [51,52,56] 58,dn [0,1,2,3,4,5,6] [0,6] [57] 10]) (tr 0 6 (.all (.last 6 (.take 7 (.done))))))) (.reg [0,3,8,9,11] (.draw (dl 10 [dm [] [9] 59,dm [] [10] 60,dm [] [0] 61,dm [] [11] 62,dm [2,3] [60,61] 63,dm [] [3] 64,dm [5] [63] 65,dm [4,6] [62,64] 66,dm [0,1,7] [58,59,65] 67,dn [0,1,2,3,4,5,6,7,8] [0,8] [66] 10]) (tr 0 7 (.all (.last 7 (.all (.last 8 (.take 9 (.done))))))))))) (.reg [0,3,8,9] (.nil)))))))) (.node (.reg [4] (.nil)) (.nil))))))))
theorem H_build_trie (x0 : SliceV) (x1 : Int) {K : Tup [.c .ptr] → Heap → Prop} {h0 : Heap} (h : F_build_trie x0 x1 K h0) : HC PG f_build_trie [.slice x0.a x0.len x0.cap, .int .i64 x1] [.c .ptr] K h0 := HC.intro (an := A_build_trie) (c := Tryz.f78.body.getD .skip) Tryz.mixed Tryz.func78 rfl Tryz.call78 (Nat.le_of_ble_eq_true rfl) (cst (by kernel_rfl) h)
def F_radix_some (x0 : Option Addr) (K : (Option Addr) → Heap → Prop) (h0 : Heap) : Prop :=
 CondP x0.isNone (
 HC PG f_radix_Empty [] [.c .ptr] (fun (e1 : Option Addr) h2 =>
 K e1 h2) h0) (
 K x0 h0)
noncomputable def A_radix_some : Ann := .node (.reg [0] (.nil)) (.node (.node (.reg [0,4] (.nil)) (.node (.node (.reg [2] (.nil)) (.nil)) (.nil))) (.node (.reg [2] (.nil)) (.nil)))
theorem H_radix_some (x0 : Option Addr) {K : Tup [.c .ptr] → Heap → Prop} {h0 : Heap} (h : F_radix_some x0 K h0) : HC PG f_radix_some [.pointer x0] [.c .ptr] K h0 := HC.intro (an := A_radix_some) (c := Tryz.f79.body.getD .skip) Tryz.mixed Tryz.func79 rfl Tryz.call79 (Nat.le_of_ble_eq_true rfl) (cst (by kernel_rfl) h)
def F_radix_Node_put (x0 : Option Addr) (x1 : Option Addr) (x2 : ByteArray) (x3 : ByteArray) (K : ((Option Addr) × Bool × Bool) → Heap → Prop) (h0 : Heap) : Prop :=
 CondP (x2.toList == (⟨#[]⟩ : ByteArray).toList) (
 Join (fun (t6 : Bool) h7 =>
 CondP t6 (
 K (x0, false, false) h7) (
 ∃ a8, x0 = some a8 ∧
 ∃ v9, cAt h7 a8 1 (.bool v9) ∧
 HC PG f_radix_Node_own [.pointer x0, .pointer x1] [.c .ptr] (fun (e10 : Option Addr) h11 =>
 (cAt h11 a8 1 (.bool v9) ∧
 HC PG f_radix_Node_valued [.pointer e10, .string x3] [.c .ptr] (fun (e12 : Option Addr) h13 =>
 (cAt h13 a8 1 (.bool v9) ∧
 K (e12, !v9, true) h13)) h11)) h7)) (fun J1 =>
 ∃ a2, x0 = some a2 ∧
 ∃ v3, cAt h0 a2 1 (.bool v3) ∧
 CondP v3 (
 ∃ a4, x0 = some a4 ∧
 ∃ v5, cAt h0 a4 2 (.string v5) ∧
 J1 (v5.toList == x3.toList) h0) (
 J1 false h0))) (
 ∃ b14, (0 : Int) ≤ (0 : Int) ∧ x2[(0 : Int).toNat]? = some b14 ∧
 HC PG f_radix_Node_find [.pointer x0, .int .u8 (b14.toNat : Int)] [.c (.int .i64), .c .bool] (fun (e15 : Int × Bool) h16 =>
 CondP (!e15.2) (
 HC PG f_radix_Node_own [.pointer x0, .pointer x1] [.c .ptr] (fun (e17 : Option Addr) h18 =>
 ∃ a19, e17 = some a19 ∧
 ∃ v20 : SliceV, cAt h18 a19 3 (.slice v20.a v20.len v20.cap) ∧
 HC PG f_radix_fresh [.pointer x1, .string x2, .string x3] [.c .ptr] (fun (e21 : Option Addr) h22 =>
 (cAt h22 a19 3 (.slice v20.a v20.len v20.cap) ∧
 At (hnew h22 [.pointer e21] t_P_radix_Node) (fun h23 =>
 (cAt h23 a19 3 (.slice v20.a v20.len v20.cap) ∧
 HC PG f_slices_Insert_A_P_radix_Node_P_radix_Node [.slice v20.a v20.len v20.cap, .int .i64 e15.1, .slice (some (newA h22)) 1 1] [.c .slice] (fun (e24 : SliceV) h25 =>
 ∃ a26, e17 = some a26 ∧
 (Wr h25 (adr a26 3) ∧
 At (hset h25 (adr a26 3) (.slice e24.a e24.len e24.cap)) (fun h27 =>
 K (e17, true, true) h27))) h23)))) h18) h16) (
 ∃ a28, x0 = some a28 ∧
 ∃ v29 : SliceV, cAt h16 a28 3 (.slice v29.a v29.len v29.cap) ∧
 (iBd e15.1 v29.len ∧ ∃ a30, v29.a = some a30 ∧
 ∃ v31, cAt h16 a30 (e15.1.toNat * 1) (.pointer v31) ∧
 ∃ a32, v31 = some a32 ∧
 ∃ v33, cAt h16 a32 0 (.string v33) ∧
 HC PG f_twig_Common [.string x2, .string v33] [.c (.int .i64)] (fun (e34 : Int) h35 =>
 Join (fun (t41 : Option Addr) h42 =>
 (((0 : Int) ≤ e34 ∧ e34 ≤ ((x2.size : Nat) : Int)) ∧
 HC PG f_radix_Node_put [.pointer t41, .pointer x1, .string (x2.extract e34.toNat x2.size), .string x3] [.c .ptr, .c .bool, .c .bool] (fun (e43 : (Option Addr) × Bool × Bool) h44 =>
 CondP (!e43.2.2) (
 K (x0, false, false) h44) (
 HC PG f_radix_Node_own [.pointer x0, .pointer x1] [.c .ptr] (fun (e45 : Option Addr) h46 =>
 ∃ a47, e45 = some a47 ∧
 ∃ v48 : SliceV, cAt h46 a47 3 (.slice v48.a v48.len v48.cap) ∧
 (iBd e15.1 v48.len ∧ ∃ a49, v48.a = some a49 ∧
 (Wr h46 (adr a49 (e15.1.toNat * 1)) ∧
 At (hset h46 (adr a49 (e15.1.toNat * 1)) (.pointer e43.1)) (fun h50 =>
 K (e45, e43.2.1, true) h50)))) h44)) h42)) (fun J36 =>
 ∃ a37, v31 = some a37 ∧
 ∃ v38, cAt h35 a37 0 (.string v38) ∧
 CondP (decide (e34 < (v38.size : Int))) (
 HC PG f_radix_Node_split [.pointer v31, .pointer x1, .int .i64 e34] [.c .ptr] (fun (e39 : Option Addr) h40 =>
 J36 e39 h40) h35) (
 J36 v31 h35))) h16))) h0)
noncomputable def A_radix_Node_put : Ann := .node (.reg [0,1,2,3] (.nil)) (.node (.node (.reg [0,1,2,3,21] (.nil)) (.node (.node (.join [0,1,3] [(33,.c .bool)] (.reg [0,1,3,33] (.nil)) (.node (.node (.reg [8,9,10] (.nil)) (.nil)) (.nil))) (.node (.reg [8,9,10] (.draw (dl 13 [dm [] [0] 36,dm [] [1] 37,dm [0,1] [35,36] 38,dm [] [3] 39,dm [2,3] [37,38] 40,dm [] [0] 41,dm [5] [40] 42,dm [6] [41] 43,dm [7] [42] 44,dm [8] [43] 45,dn [0,1,2,3,4] [4] [39] 9,dn [0,1,2,3,4,5,6,7,8,9,10] [9] [44] 10,dn [0,1,2,3,4,5,6,7,8,9,10,11] [] [] 11]) (tk [0,1,3,5,6,7,8,9] (.all (.last 2 (.all (.last 4 (tr 10 3 (.done))))))))) (.nil))) (.nil))) (.node (.reg [0,1,2,3,11,12] (.nil)) (.node (.node (.reg [0,1,2,3,11,53] (.nil)) (.node (.node (.reg [1,2,3,11,13] (.nil)) (.node (.reg [13] (.draw (dl 15 [dm [] [13] 58,dm [] [13] 59,dm [1] [58] 60,dm [2] [59] 61,dm [3] [60] 62,dm [] [11] 63,dm [] [1] 64,dm [] [2] 65,dm [] [3] 66,dm [6,7,8] [63,64,65] 67,dm [9] [66] 68,dn [4,5,9,10] [4,5,10] [61,62,67] 69,dn [0,1,2,3,4,5,6,7,8,9,10,11] [0] [57] 70,dn [0,1,2,3,4,5,6,7,8,9,10,11,12] [12] [69] 71,dn [0,1,2,3,4,5,6,7,8,9,10,11,13] [11,13] [68,70] 0]) (tr 0 9 (.all (.last 9 (.all (.last 10 (.all (.last 11 (.take 12 (.take 13 (.all (.last 14 (.done)))))))))))))) (.node (.reg [8,9,10] (.nil)) (.nil)))) (.nil))) (.node (.reg [0,1,2,3,11,14] (.nil)) (.node (.reg [0,1,2,3,11,14,15] (.nil)) (.join [0,1,2,3,11,15] [(14,.c .ptr)] (.node (.reg [0,1,2,3,11,14,15,91] (.nil)) (.node (.reg [0,1,2,3,11,14,15] (.nil)) (.nil))) (.node (.reg [0,1,11,16,17,18] (.nil)) (.node (.node (.reg [0,1,11,16,17,108] (.nil)) (.node (.node (.reg [8,9,10] (.nil)) (.nil)) (.nil))) (.node (.reg [11,16,17,19] (.nil)) (.node (.reg [17,19] (.nil)) (.node (.reg [8,9,10] (.nil)) (.nil))))))))))))
theorem H_radix_Node_put (x0 : Option Addr) (x1 : Option Addr) (x2 : ByteArray) (x3 : ByteArray) {K : Tup [.c .ptr, .c .bool, .c .bool] → Heap → Prop} {h0 : Heap} (h : F_radix_Node_put x0 x1 x2 x3 K h0) : HC PG f_radix_Node_put [.pointer x0, .pointer x1, .string x2, .string x3] [.c .ptr, .c .bool, .c .bool] K h0 := HC.intro (an := A_radix_Node_put) (c := Tryz.f80.body.getD .skip) Tryz.mixed Tryz.func80 rfl Tryz.call80 (Nat.le_of_ble_eq_true rfl) (cst (by kernel_rfl) h)
def F_champ_work_put (x0 : Int × Int × Int × (Option Addr) × ByteArray × Int) (x1 : Option Addr) (x2 : ByteArray × ByteArray) (x3 : Int) (K : ((Option Addr) × Bool × Bool) → Heap → Prop) (h0 : Heap) : Prop :=
 At (hnew h0 [.int .u64 x0.1, .int .u64 x0.2.1, .int .u64 x0.2.2.1, .pointer x0.2.2.2.1, .string x0.2.2.2.2.1, .int .u64 x0.2.2.2.2.2] t_champ_work) (fun h1 =>
 At (hnew h1 [.string x2.1, .string x2.2] t_pair_Pair) (fun h2 =>
 HC PG f_node_Node_IsBucket [.pointer x1] [.c .bool] (fun (e3 : Bool) h4 =>
 CondP e3 (
 ∃ v5, cAt h4 (newA h1) 0 (.string v5) ∧
 HC PG f_champ_in [.pointer x1, .string v5] [.c .str, .c .bool] (fun (e6 : ByteArray × Bool) h7 =>
 Join (fun (t10 : Bool) h11 =>
 CondP t10 (
 K (x1, false, false) h11) (
 ∃ v12, cAt h11 (newA h0) 3 (.pointer v12) ∧
 ∃ v13, cAt h11 (newA h1) 0 (.string v13) ∧
 ∃ v14, cAt h11 (newA h1) 1 (.string v14) ∧
 HC PG f_node_Node_Put [.pointer x1, .pointer v12, .agg #[.string v13, .string v14]] [.c .ptr] (fun (e15 : Option Addr) h16 =>
 K (e15, !e6.2, true) h16) h11)) (fun J8 =>
 CondP e6.2 (
 ∃ v9, cAt h7 (newA h1) 1 (.string v9) ∧
 J8 (e6.1.toList == v9.toList) h7) (
 J8 false h7))) h4) (
 ∃ v17, cAt h4 (newA h0) 5 (.int .u64 v17) ∧
 HC PG f_chunk_At [.int .u64 v17, .int .i64 x3] [.c (.int .i64)] (fun (e18 : Int) h19 =>
 HC PG f_node_Node_Pair [.pointer x1, .int .i64 e18] [.agg [.str, .str], .c .bool] (fun (e20 : (ByteArray × ByteArray) × Bool) h21 =>
 At (hnew h21 [.string (⟨#[]⟩ : ByteArray), .string (⟨#[]⟩ : ByteArray)] t_pair_Pair) (fun h22 =>
 (WrS h22 (some (newA h21)) 0 [.string e20.1.1, .string e20.1.2] ∧
 At (hsetL h22 (newA h21) 0 [.string e20.1.1, .string e20.1.2]) (fun h23 =>
 CondP e20.2 (
 ∃ v24, cAt h23 (newA h21) 0 (.string v24) ∧
 ∃ v25, cAt h23 (newA h21) 1 (.string v25) ∧
 ∃ v26, cAt h23 (newA h1) 0 (.string v26) ∧
 ∃ v27, cAt h23 (newA h1) 1 (.string v27) ∧
 CondP ((v24.toList == v26.toList) && ((v25.toList == v27.toList) && true)) (
 K (x1, false, false) h23) (
 ∃ v28, cAt h23 (newA h21) 0 (.string v28) ∧
 ∃ v29, cAt h23 (newA h1) 0 (.string v29) ∧
 CondP (v28.toList == v29.toList) (
 ∃ v30, cAt h23 (newA h0) 3 (.pointer v30) ∧
 ∃ v31, cAt h23 (newA h1) 0 (.string v31) ∧
 ∃ v32, cAt h23 (newA h1) 1 (.string v32) ∧
 HC PG f_node_Node_SetPair [.pointer x1, .pointer v30, .int .i64 e18, .agg #[.string v31, .string v32]] [.c .ptr] (fun (e33 : Option Addr) h34 =>
 K (e33, false, true) h34) h23) (
 ∃ v35, cAt h23 (newA h0) 3 (.pointer v35) ∧
 ∃ v36, cAt h23 (newA h0) 0 (.int .u64 v36) ∧
 ∃ v37, cAt h23 (newA h0) 1 (.int .u64 v37) ∧
 ∃ v38, cAt h23 (newA h0) 2 (.int .u64 v38) ∧
 ∃ v39, cAt h23 (newA h0) 3 (.pointer v39) ∧
 ∃ v40, cAt h23 (newA h0) 4 (.string v40) ∧
 ∃ v41, cAt h23 (newA h0) 5 (.int .u64 v41) ∧
 ∃ v42, cAt h23 (newA h21) 0 (.string v42) ∧
 ∃ v43, cAt h23 (newA h21) 1 (.string v43) ∧
 ∃ v44, cAt h23 (newA h1) 0 (.string v44) ∧
 ∃ v45, cAt h23 (newA h1) 1 (.string v45) ∧
 HC PG f_champ_work_both [.agg #[.int .u64 v36, .int .u64 v37, .int .u64 v38, .pointer v39, .string v40, .int .u64 v41], .agg #[.string v42, .string v43], .agg #[.string v44, .string v45], .int .i64 (IntKind.wrap .i64 (x3 + 1))] [.c .ptr] (fun (e46 : Option Addr) h47 =>
 (cAt h47 (newA h0) 3 (.pointer v35) ∧
 HC PG f_node_Node_SetKid [.pointer x1, .pointer v35, .int .i64 e18, .pointer e46] [.c .ptr] (fun (e48 : Option Addr) h49 =>
 K (e48, true, true) h49) h47)) h23))) (
 HC PG f_node_Node_Kid [.pointer x1, .int .i64 e18] [.c .ptr, .c .bool] (fun (e50 : (Option Addr) × Bool) h51 =>
 CondP (!e50.2) (
 ∃ v52, cAt h51 (newA h0) 3 (.pointer v52) ∧
 ∃ v53, cAt h51 (newA h1) 0 (.string v53) ∧
 ∃ v54, cAt h51 (newA h1) 1 (.string v54) ∧
 HC PG f_node_Node_SetPair [.pointer x1, .pointer v52, .int .i64 e18, .agg #[.string v53, .string v54]] [.c .ptr] (fun (e55 : Option Addr) h56 =>
 K (e55, true, true) h56) h51) (
 ∃ v57, cAt h51 (newA h0) 0 (.int .u64 v57) ∧
 ∃ v58, cAt h51 (newA h0) 1 (.int .u64 v58) ∧
 ∃ v59, cAt h51 (newA h0) 2 (.int .u64 v59) ∧
 ∃ v60, cAt h51 (newA h0) 3 (.pointer v60) ∧
 ∃ v61, cAt h51 (newA h0) 4 (.string v61) ∧
 ∃ v62, cAt h51 (newA h0) 5 (.int .u64 v62) ∧
 ∃ v63, cAt h51 (newA h1) 0 (.string v63) ∧
 ∃ v64, cAt h51 (newA h1) 1 (.string v64) ∧
 HC PG f_champ_work_put [.agg #[.int .u64 v57, .int .u64 v58, .int .u64 v59, .pointer v60, .string v61, .int .u64 v62], .pointer e50.1, .agg #[.string v63, .string v64], .int .i64 (IntKind.wrap .i64 (x3 + 1))] [.c .ptr, .c .bool, .c .bool] (fun (e65 : (Option Addr) × Bool × Bool) h66 =>
 CondP (!e65.2.2) (
 K (x1, false, false) h66) (
 ∃ v67, cAt h66 (newA h0) 3 (.pointer v67) ∧
 HC PG f_node_Node_SetKid [.pointer x1, .pointer v67, .int .i64 e18, .pointer e65.1] [.c .ptr] (fun (e68 : Option Addr) h69 =>
 K (e68, e65.2.1, true) h69) h66)) h51)) h23))))) h19) h4)) h2))
noncomputable def A_champ_work_put : Ann := .node (.reg [1,3,4,6] (.nil)) (.node (.node (.reg [1,3,4,6,22] (.nil)) (.node (.node (.reg [1,4,6,11,12] (.nil)) (.node (.join [1,4,6,12] [(36,.c .bool)] (.reg [1,4,6,12,36] (.nil)) (.node (.node (.reg [8,9,10] (.nil)) (.nil)) (.nil))) (.node (.reg [8,9,10] (.nil)) (.nil)))) (.nil))) (.node (.reg [1,3,4,6,13] (.nil)) (.node (.node (.reg [1,3,4,6,13,14,15] (.nil)) (.node (.reg [1,3,4,6,13,14,55] (.nil)) (.node (.node (.node (.reg [1,3,4,6,13,14,56] (.nil)) (.node (.node (.reg [8,9,10] (.nil)) (.nil)) (.node (.reg [1,3,4,6,13,14,61] (.nil)) (.node (.node (.reg [8,9,10] (.nil)) (.nil)) (.nil))))) (.node (.reg [8,9,10] (.draw (dl 14 [dm [] [1] 74,dm [] [4] 75,dm [1] [74] 76,dm [] [13] 77,dm [] [4] 78,dm [] [14] 79,dm [] [6] 80,dm [] [3] 81,dm [7] [80] 82,dm [4,5,6,8] [77,78,79,81] 83,dm [0,2,3,9] [73,75,76,82] 84,dn [0,1,2,3,4,5,6,7,8,9,10] [10] [83] 9,dn [0,1,2,3,4,5,6,7,8,9,10,11] [] [] 10,dn [0,1,2,3,4,5,6,7,8,9,10,11,12] [] [] 11]) (tr 0 9 (.all (.last 9 (.all (.last 10 (tr 11 3 (.done))))))))) (.nil))) (.nil)))) (.node (.reg [1,3,4,6,13,16,17] (.nil)) (.node (.node (.reg [1,3,4,6,13,16,91] (.nil)) (.node (.node (.reg [8,9,10] (.nil)) (.nil)) (.nil))) (.node (.reg [1,4,13,18,19,20] (.nil)) (.node (.node (.reg [1,4,13,18,19,109] (.nil)) (.node (.node (.reg [8,9,10] (.nil)) (.nil)) (.nil))) (.node (.reg [8,9,10] (.nil)) (.nil)))))))))
theorem H_champ_work_put (x0 : Int × Int × Int × (Option Addr) × ByteArray × Int) (x1 : Option Addr) (x2 : ByteArray × ByteArray) (x3 : Int) {K : Tup [.c .ptr, .c .bool, .c .bool] → Heap → Prop} {h0 : Heap} (h : F_champ_work_put x0 x1 x2 x3 K h0) : HC PG f_champ_work_put [.agg #[.int .u64 x0.1, .int .u64 x0.2.1, .int .u64 x0.2.2.1, .pointer x0.2.2.2.1, .string x0.2.2.2.2.1, .int .u64 x0.2.2.2.2.2], .pointer x1, .agg #[.string x2.1, .string x2.2], .int .i64 x3] [.c .ptr, .c .bool, .c .bool] K h0 := HC.intro (an := A_champ_work_put) (c := Tryz.f81.body.getD .skip) Tryz.mixed Tryz.func81 rfl Tryz.call81 (Nat.le_of_ble_eq_true rfl) (cst (by kernel_rfl) h)
def F_champ_some (x0 : Option Addr) (K : (Option Addr) → Heap → Prop) (h0 : Heap) : Prop :=
 CondP x0.isNone (
 HC PG f_champ_Empty [] [.c .ptr] (fun (e1 : Option Addr) h2 =>
 K e1 h2) h0) (
 K x0 h0)
noncomputable def A_champ_some : Ann := .node (.reg [0] (.nil)) (.node (.node (.reg [0,4] (.nil)) (.node (.node (.reg [2] (.nil)) (.nil)) (.nil))) (.node (.reg [2] (.nil)) (.nil)))
theorem H_champ_some (x0 : Option Addr) {K : Tup [.c .ptr] → Heap → Prop} {h0 : Heap} (h : F_champ_some x0 K h0) : HC PG f_champ_some [.pointer x0] [.c .ptr] K h0 := HC.intro (an := A_champ_some) (c := Tryz.f82.body.getD .skip) Tryz.mixed Tryz.func82 rfl Tryz.call82 (Nat.le_of_ble_eq_true rfl) (cst (by kernel_rfl) h)
end Go.Proofs
