/- A part of the proof that the named laws of this program answer true, whatever the input. -/
import Derived.Test.YtfbbjmjfkopdnaaGreatTreeF
set_option maxRecDepth 100000
set_option linter.unusedVariables false
namespace Go.Proofs
open Go.Lift
def F_l17_DiffKinds (x0 : Int) (x1 : Int) (x2 : Int × Int × Int) (x3 : Int × Int × Int) (x4 : SliceV) (x5 : SliceV) (x6 : SliceV) (x7 : Bool) (K : (Bool) → Heap → Prop) (h0 : Heap) : Prop :=
 At (hnew h0 [.int .u64 x2.1, .int .u64 x2.2.1, .int .u64 x2.2.2] t_sip_Hasher) (fun h1 =>
 At (hnew h1 [.int .u64 x3.1, .int .u64 x3.2.1, .int .u64 x3.2.2] t_sip_Hasher) (fun h2 =>
 HC PG f_l17_awake [] [.c .bool] (fun (e3 : Bool) h4 =>
 CondP (!e3) (
 K false h4) (
 ∃ v5, cAt h4 (newA h0) 0 (.int .u64 v5) ∧
 ∃ v6, cAt h4 (newA h0) 1 (.int .u64 v6) ∧
 ∃ v7, cAt h4 (newA h0) 2 (.int .u64 v7) ∧
 HC PG f_l17_begun [.int .u8 x0, .agg #[.int .u64 v5, .int .u64 v6, .int .u64 v7]] [.agg [.int .i64, .int .u64, .int .u64, .int .u64, .ptr, .ptr], .agg [.int .i64, .int .u64, .int .u64, .int .u64, .slice]] (fun (e8 : (T6) × (Int × Int × Int × Int × SliceV)) h9 =>
 At (hnew h9 [.int .i64 0, .int .u64 0, .int .u64 0, .int .u64 0, .pointer none, .pointer none] t_tree_Tree) (fun h10 =>
 At (hnew h10 [.int .i64 0, .int .u64 0, .int .u64 0, .int .u64 0, .slice none 0 0] t_r14_Tree) (fun h11 =>
 (WrS h11 (some (newA h9)) 0 [.int .i64 e8.1.1, .int .u64 e8.1.2.1, .int .u64 e8.1.2.2.1, .int .u64 e8.1.2.2.2.1, .pointer e8.1.2.2.2.2.1, .pointer e8.1.2.2.2.2.2] ∧
 At (hsetL h11 (newA h9) 0 [.int .i64 e8.1.1, .int .u64 e8.1.2.1, .int .u64 e8.1.2.2.1, .int .u64 e8.1.2.2.2.1, .pointer e8.1.2.2.2.2.1, .pointer e8.1.2.2.2.2.2]) (fun h12 =>
 (WrS h12 (some (newA h10)) 0 [.int .i64 e8.2.1, .int .u64 e8.2.2.1, .int .u64 e8.2.2.2.1, .int .u64 e8.2.2.2.2.1, .slice e8.2.2.2.2.2.a e8.2.2.2.2.2.len e8.2.2.2.2.2.cap] ∧
 At (hsetL h12 (newA h10) 0 [.int .i64 e8.2.1, .int .u64 e8.2.2.1, .int .u64 e8.2.2.2.1, .int .u64 e8.2.2.2.2.1, .slice e8.2.2.2.2.2.a e8.2.2.2.2.2.len e8.2.2.2.2.2.cap]) (fun h13 =>
 ∃ v14, cAt h13 (newA h1) 0 (.int .u64 v14) ∧
 ∃ v15, cAt h13 (newA h1) 1 (.int .u64 v15) ∧
 ∃ v16, cAt h13 (newA h1) 2 (.int .u64 v16) ∧
 HC PG f_l17_begun [.int .u8 x1, .agg #[.int .u64 v14, .int .u64 v15, .int .u64 v16]] [.agg [.int .i64, .int .u64, .int .u64, .int .u64, .ptr, .ptr], .agg [.int .i64, .int .u64, .int .u64, .int .u64, .slice]] (fun (e17 : (T6) × (Int × Int × Int × Int × SliceV)) h18 =>
 At (hnew h18 [.int .i64 0, .int .u64 0, .int .u64 0, .int .u64 0, .pointer none, .pointer none] t_tree_Tree) (fun h19 =>
 At (hnew h19 [.int .i64 0, .int .u64 0, .int .u64 0, .int .u64 0, .slice none 0 0] t_r14_Tree) (fun h20 =>
 (WrS h20 (some (newA h18)) 0 [.int .i64 e17.1.1, .int .u64 e17.1.2.1, .int .u64 e17.1.2.2.1, .int .u64 e17.1.2.2.2.1, .pointer e17.1.2.2.2.2.1, .pointer e17.1.2.2.2.2.2] ∧
 At (hsetL h20 (newA h18) 0 [.int .i64 e17.1.1, .int .u64 e17.1.2.1, .int .u64 e17.1.2.2.1, .int .u64 e17.1.2.2.2.1, .pointer e17.1.2.2.2.2.1, .pointer e17.1.2.2.2.2.2]) (fun h21 =>
 (WrS h21 (some (newA h19)) 0 [.int .i64 e17.2.1, .int .u64 e17.2.2.1, .int .u64 e17.2.2.2.1, .int .u64 e17.2.2.2.2.1, .slice e17.2.2.2.2.2.a e17.2.2.2.2.2.len e17.2.2.2.2.2.cap] ∧
 At (hsetL h21 (newA h19) 0 [.int .i64 e17.2.1, .int .u64 e17.2.2.1, .int .u64 e17.2.2.2.1, .int .u64 e17.2.2.2.2.1, .slice e17.2.2.2.2.2.a e17.2.2.2.2.2.len e17.2.2.2.2.2.cap]) (fun h22 =>
 ∃ v23, cAt h22 (newA h9) 0 (.int .i64 v23) ∧
 ∃ v24, cAt h22 (newA h9) 1 (.int .u64 v24) ∧
 ∃ v25, cAt h22 (newA h9) 2 (.int .u64 v25) ∧
 ∃ v26, cAt h22 (newA h9) 3 (.int .u64 v26) ∧
 ∃ v27, cAt h22 (newA h9) 4 (.pointer v27) ∧
 ∃ v28, cAt h22 (newA h9) 5 (.pointer v28) ∧
 ∃ v29, cAt h22 (newA h10) 0 (.int .i64 v29) ∧
 ∃ v30, cAt h22 (newA h10) 1 (.int .u64 v30) ∧
 ∃ v31, cAt h22 (newA h10) 2 (.int .u64 v31) ∧
 ∃ v32, cAt h22 (newA h10) 3 (.int .u64 v32) ∧
 ∃ v33 : SliceV, cAt h22 (newA h10) 4 (.slice v33.a v33.len v33.cap) ∧
 HC PG f_l17_grown [.agg #[.int .i64 v23, .int .u64 v24, .int .u64 v25, .int .u64 v26, .pointer v27, .pointer v28], .agg #[.int .i64 v29, .int .u64 v30, .int .u64 v31, .int .u64 v32, .slice v33.a v33.len v33.cap], .slice x4.a x4.len x4.cap, .slice none 0 0] [.agg [.int .i64, .int .u64, .int .u64, .int .u64, .ptr, .ptr], .agg [.int .i64, .int .u64, .int .u64, .int .u64, .slice]] (fun (e34 : (T6) × (Int × Int × Int × Int × SliceV)) h35 =>
 At (hnew h35 [.int .i64 0, .int .u64 0, .int .u64 0, .int .u64 0, .pointer none, .pointer none] t_tree_Tree) (fun h36 =>
 At (hnew h36 [.int .i64 0, .int .u64 0, .int .u64 0, .int .u64 0, .slice none 0 0] t_r14_Tree) (fun h37 =>
 (WrS h37 (some (newA h35)) 0 [.int .i64 e34.1.1, .int .u64 e34.1.2.1, .int .u64 e34.1.2.2.1, .int .u64 e34.1.2.2.2.1, .pointer e34.1.2.2.2.2.1, .pointer e34.1.2.2.2.2.2] ∧
 At (hsetL h37 (newA h35) 0 [.int .i64 e34.1.1, .int .u64 e34.1.2.1, .int .u64 e34.1.2.2.1, .int .u64 e34.1.2.2.2.1, .pointer e34.1.2.2.2.2.1, .pointer e34.1.2.2.2.2.2]) (fun h38 =>
 (WrS h38 (some (newA h36)) 0 [.int .i64 e34.2.1, .int .u64 e34.2.2.1, .int .u64 e34.2.2.2.1, .int .u64 e34.2.2.2.2.1, .slice e34.2.2.2.2.2.a e34.2.2.2.2.2.len e34.2.2.2.2.2.cap] ∧
 At (hsetL h38 (newA h36) 0 [.int .i64 e34.2.1, .int .u64 e34.2.2.1, .int .u64 e34.2.2.2.1, .int .u64 e34.2.2.2.2.1, .slice e34.2.2.2.2.2.a e34.2.2.2.2.2.len e34.2.2.2.2.2.cap]) (fun h39 =>
 ∃ v40, cAt h39 (newA h18) 0 (.int .i64 v40) ∧
 ∃ v41, cAt h39 (newA h18) 1 (.int .u64 v41) ∧
 ∃ v42, cAt h39 (newA h18) 2 (.int .u64 v42) ∧
 ∃ v43, cAt h39 (newA h18) 3 (.int .u64 v43) ∧
 ∃ v44, cAt h39 (newA h18) 4 (.pointer v44) ∧
 ∃ v45, cAt h39 (newA h18) 5 (.pointer v45) ∧
 ∃ v46, cAt h39 (newA h19) 0 (.int .i64 v46) ∧
 ∃ v47, cAt h39 (newA h19) 1 (.int .u64 v47) ∧
 ∃ v48, cAt h39 (newA h19) 2 (.int .u64 v48) ∧
 ∃ v49, cAt h39 (newA h19) 3 (.int .u64 v49) ∧
 ∃ v50 : SliceV, cAt h39 (newA h19) 4 (.slice v50.a v50.len v50.cap) ∧
 HC PG f_l17_grown [.agg #[.int .i64 v40, .int .u64 v41, .int .u64 v42, .int .u64 v43, .pointer v44, .pointer v45], .agg #[.int .i64 v46, .int .u64 v47, .int .u64 v48, .int .u64 v49, .slice v50.a v50.len v50.cap], .slice x4.a x4.len x4.cap, .slice none 0 0] [.agg [.int .i64, .int .u64, .int .u64, .int .u64, .ptr, .ptr], .agg [.int .i64, .int .u64, .int .u64, .int .u64, .slice]] (fun (e51 : (T6) × (Int × Int × Int × Int × SliceV)) h52 =>
 At (hnew h52 [.int .i64 0, .int .u64 0, .int .u64 0, .int .u64 0, .pointer none, .pointer none] t_tree_Tree) (fun h53 =>
 At (hnew h53 [.int .i64 0, .int .u64 0, .int .u64 0, .int .u64 0, .slice none 0 0] t_r14_Tree) (fun h54 =>
 (WrS h54 (some (newA h52)) 0 [.int .i64 e51.1.1, .int .u64 e51.1.2.1, .int .u64 e51.1.2.2.1, .int .u64 e51.1.2.2.2.1, .pointer e51.1.2.2.2.2.1, .pointer e51.1.2.2.2.2.2] ∧
 At (hsetL h54 (newA h52) 0 [.int .i64 e51.1.1, .int .u64 e51.1.2.1, .int .u64 e51.1.2.2.1, .int .u64 e51.1.2.2.2.1, .pointer e51.1.2.2.2.2.1, .pointer e51.1.2.2.2.2.2]) (fun h55 =>
 (WrS h55 (some (newA h53)) 0 [.int .i64 e51.2.1, .int .u64 e51.2.2.1, .int .u64 e51.2.2.2.1, .int .u64 e51.2.2.2.2.1, .slice e51.2.2.2.2.2.a e51.2.2.2.2.2.len e51.2.2.2.2.2.cap] ∧
 At (hsetL h55 (newA h53) 0 [.int .i64 e51.2.1, .int .u64 e51.2.2.1, .int .u64 e51.2.2.2.1, .int .u64 e51.2.2.2.2.1, .slice e51.2.2.2.2.2.a e51.2.2.2.2.2.len e51.2.2.2.2.2.cap]) (fun h56 =>
 ∃ v57, cAt h56 (newA h35) 0 (.int .i64 v57) ∧
 ∃ v58, cAt h56 (newA h35) 1 (.int .u64 v58) ∧
 ∃ v59, cAt h56 (newA h35) 2 (.int .u64 v59) ∧
 ∃ v60, cAt h56 (newA h35) 3 (.int .u64 v60) ∧
 ∃ v61, cAt h56 (newA h35) 4 (.pointer v61) ∧
 ∃ v62, cAt h56 (newA h35) 5 (.pointer v62) ∧
 ∃ v63, cAt h56 (newA h52) 0 (.int .i64 v63) ∧
 ∃ v64, cAt h56 (newA h52) 1 (.int .u64 v64) ∧
 ∃ v65, cAt h56 (newA h52) 2 (.int .u64 v65) ∧
 ∃ v66, cAt h56 (newA h52) 3 (.int .u64 v66) ∧
 ∃ v67, cAt h56 (newA h52) 4 (.pointer v67) ∧
 ∃ v68, cAt h56 (newA h52) 5 (.pointer v68) ∧
 HC PG f_diff_Of [.agg #[.int .i64 v57, .int .u64 v58, .int .u64 v59, .int .u64 v60, .pointer v61, .pointer v62], .agg #[.int .i64 v63, .int .u64 v64, .int .u64 v65, .int .u64 v66, .pointer v67, .pointer v68]] [.c .slice, .c (.int .i64)] (fun (e69 : SliceV × Int) h70 =>
 HC PG f_l17_few [.slice x5.a x5.len x5.cap, .int .u8 255, .int .u16 0] [.c .slice] (fun (e71 : SliceV) h72 =>
 HC PG f_l17_few [.slice x6.a x6.len x6.cap, .int .u8 255, .int .u16 0] [.c .slice] (fun (e73 : SliceV) h74 =>
 Join (fun (t78 : SliceV) h79 =>
 ∃ v80, cAt h79 (newA h10) 0 (.int .i64 v80) ∧
 ∃ v81, cAt h79 (newA h10) 1 (.int .u64 v81) ∧
 ∃ v82, cAt h79 (newA h10) 2 (.int .u64 v82) ∧
 ∃ v83, cAt h79 (newA h10) 3 (.int .u64 v83) ∧
 ∃ v84 : SliceV, cAt h79 (newA h10) 4 (.slice v84.a v84.len v84.cap) ∧
 ∃ v85, cAt h79 (newA h19) 0 (.int .i64 v85) ∧
 ∃ v86, cAt h79 (newA h19) 1 (.int .u64 v86) ∧
 ∃ v87, cAt h79 (newA h19) 2 (.int .u64 v87) ∧
 ∃ v88, cAt h79 (newA h19) 3 (.int .u64 v88) ∧
 ∃ v89 : SliceV, cAt h79 (newA h19) 4 (.slice v89.a v89.len v89.cap) ∧
 HC PG f_r14_Like [.agg #[.int .i64 v80, .int .u64 v81, .int .u64 v82, .int .u64 v83, .slice v84.a v84.len v84.cap], .agg #[.int .i64 v85, .int .u64 v86, .int .u64 v87, .int .u64 v88, .slice v89.a v89.len v89.cap]] [.c .bool] (fun (e90 : Bool) h91 =>
 CondP ((e69.2 == (11 : Int)) == (!e90)) (
 CondP ((e69.1.len : Int) == (0 : Int)) (
 HC PG f_diff_Same [.slice e71.a e71.len e71.cap, .slice t78.a t78.len t78.cap] [.c .bool] (fun (e92 : Bool) h93 =>
 HC PG f_l17_changes [.slice e71.a e71.len e71.cap] [.c .slice] (fun (e94 : SliceV) h95 =>
 HC PG f_l17_changes [.slice t78.a t78.len t78.cap] [.c .slice] (fun (e96 : SliceV) h97 =>
 HC PG f_r17_Same [.slice e94.a e94.len e94.cap, .slice e96.a e96.len e96.cap] [.c .bool] (fun (e98 : Bool) h99 =>
 CondP (e92 == e98) (
 HC PG f_diff_Invert [.slice e71.a e71.len e71.cap] [.c .slice] (fun (e100 : SliceV) h101 =>
 HC PG f_diff_Invert [.slice e100.a e100.len e100.cap] [.c .slice] (fun (e102 : SliceV) h103 =>
 HC PG f_diff_Same [.slice e102.a e102.len e102.cap, .slice e71.a e71.len e71.cap] [.c .bool] (fun (e104 : Bool) h105 =>
 K e104 h105) h103) h101) h99) (
 K false h99)) h97) h95) h93) h91) (
 K false h91)) (
 K false h91)) h79) (fun J75 =>
 CondP x7 (
 HC PG f_l17_few [.slice e71.a e71.len e71.cap, .int .u8 255, .int .u16 0] [.c .slice] (fun (e76 : SliceV) h77 =>
 J75 e76 h77) h74) (
 J75 e73 h74))) h72) h70) h56))))))) h39))))))) h22))))))) h13))))))) h4)) h2))
noncomputable def A_l17_DiffKinds : Ann := .node (.reg [0,1,4,5,6,7,10,11] (.nil)) (.node (.node (.reg [0,1,4,5,6,7,10,11,28] (.nil)) (.node (.node (.reg [16] (.nil)) (.nil)) (.nil))) (.node (.reg [1,4,5,6,7,11,17,18] (.nil)) (.node (.reg [4,5,6,7,17,18,19,20] (.nil)) (.node (.reg [4,5,6,7,18,19,20,21] (.nil)) (.node (.reg [5,6,7,18,20,21,23] (.nil)) (.node (.reg [5,6,7,18,20,25,26] (.nil)) (.node (.reg [5,6,7,18,20,25,26] (.nil)) (.join [5,18,20,25,26] [(6,.c .slice)] (.node (.reg [5,6,18,20,25,26,65] (.nil)) (.node (.reg [5,6,18,20,25,26] (.nil)) (.nil))) (.node (.reg [16] (.nil)) (.nil))))))))))
theorem H_l17_DiffKinds (x0 : Int) (x1 : Int) (x2 : Int × Int × Int) (x3 : Int × Int × Int) (x4 : SliceV) (x5 : SliceV) (x6 : SliceV) (x7 : Bool) {K : Tup [.c .bool] → Heap → Prop} {h0 : Heap} (h : F_l17_DiffKinds x0 x1 x2 x3 x4 x5 x6 x7 K h0) : HC PG f_l17_DiffKinds [.int .u8 x0, .int .u8 x1, .agg #[.int .u64 x2.1, .int .u64 x2.2.1, .int .u64 x2.2.2], .agg #[.int .u64 x3.1, .int .u64 x3.2.1, .int .u64 x3.2.2], .slice x4.a x4.len x4.cap, .slice x5.a x5.len x5.cap, .slice x6.a x6.len x6.cap, .bool x7] [.c .bool] K h0 := HC.intro (an := A_l17_DiffKinds) (c := Tryz.f3.body.getD .skip) Tryz.mixed Tryz.func3 rfl Tryz.call3 (Nat.le_of_ble_eq_true rfl) (cst (by kernel_rfl) h)
def F_l17_awake  (K : (Bool) → Heap → Prop) (h0 : Heap) : Prop :=
 At (hnew h0 [.string (⟨#[97]⟩ : ByteArray), .string (⟨#[49]⟩ : ByteArray)] t_pair_Pair) (fun h1 =>
 HC PG f_build_Tree [.int .i64 1, .agg #[.int .u64 0, .int .u64 0, .int .u64 0], .slice (some (newA h0)) 1 1] [.agg [.int .i64, .int .u64, .int .u64, .int .u64, .ptr, .ptr], .c (.int .i64)] (fun (e2 : (T6) × Int) h3 =>
 At (hnew h3 [.int .i64 0, .int .u64 0, .int .u64 0, .int .u64 0, .pointer none, .pointer none] t_tree_Tree) (fun h4 =>
 (WrS h4 (some (newA h3)) 0 [.int .i64 e2.1.1, .int .u64 e2.1.2.1, .int .u64 e2.1.2.2.1, .int .u64 e2.1.2.2.2.1, .pointer e2.1.2.2.2.2.1, .pointer e2.1.2.2.2.2.2] ∧
 At (hsetL h4 (newA h3) 0 [.int .i64 e2.1.1, .int .u64 e2.1.2.1, .int .u64 e2.1.2.2.1, .int .u64 e2.1.2.2.2.1, .pointer e2.1.2.2.2.2.1, .pointer e2.1.2.2.2.2.2]) (fun h5 =>
 At (hnew h5 [.string (⟨#[97]⟩ : ByteArray), .string (⟨#[50]⟩ : ByteArray), .string (⟨#[98]⟩ : ByteArray), .string (⟨#[51]⟩ : ByteArray)] t_pair_Pair) (fun h6 =>
 HC PG f_build_Tree [.int .i64 1, .agg #[.int .u64 0, .int .u64 0, .int .u64 0], .slice (some (newA h5)) 2 2] [.agg [.int .i64, .int .u64, .int .u64, .int .u64, .ptr, .ptr], .c (.int .i64)] (fun (e7 : (T6) × Int) h8 =>
 At (hnew h8 [.int .i64 0, .int .u64 0, .int .u64 0, .int .u64 0, .pointer none, .pointer none] t_tree_Tree) (fun h9 =>
 (WrS h9 (some (newA h8)) 0 [.int .i64 e7.1.1, .int .u64 e7.1.2.1, .int .u64 e7.1.2.2.1, .int .u64 e7.1.2.2.2.1, .pointer e7.1.2.2.2.2.1, .pointer e7.1.2.2.2.2.2] ∧
 At (hsetL h9 (newA h8) 0 [.int .i64 e7.1.1, .int .u64 e7.1.2.1, .int .u64 e7.1.2.2.1, .int .u64 e7.1.2.2.2.1, .pointer e7.1.2.2.2.2.1, .pointer e7.1.2.2.2.2.2]) (fun h10 =>
 ∃ v11, cAt h10 (newA h3) 0 (.int .i64 v11) ∧
 ∃ v12, cAt h10 (newA h3) 1 (.int .u64 v12) ∧
 ∃ v13, cAt h10 (newA h3) 2 (.int .u64 v13) ∧
 ∃ v14, cAt h10 (newA h3) 3 (.int .u64 v14) ∧
 ∃ v15, cAt h10 (newA h3) 4 (.pointer v15) ∧
 ∃ v16, cAt h10 (newA h3) 5 (.pointer v16) ∧
 ∃ v17, cAt h10 (newA h8) 0 (.int .i64 v17) ∧
 ∃ v18, cAt h10 (newA h8) 1 (.int .u64 v18) ∧
 ∃ v19, cAt h10 (newA h8) 2 (.int .u64 v19) ∧
 ∃ v20, cAt h10 (newA h8) 3 (.int .u64 v20) ∧
 ∃ v21, cAt h10 (newA h8) 4 (.pointer v21) ∧
 ∃ v22, cAt h10 (newA h8) 5 (.pointer v22) ∧
 HC PG f_diff_Of [.agg #[.int .i64 v11, .int .u64 v12, .int .u64 v13, .int .u64 v14, .pointer v15, .pointer v16], .agg #[.int .i64 v17, .int .u64 v18, .int .u64 v19, .int .u64 v20, .pointer v21, .pointer v22]] [.c .slice, .c (.int .i64)] (fun (e23 : SliceV × Int) h24 =>
 CondP (e23.2 == (0 : Int)) (
 CondP ((e23.1.len : Int) == (2 : Int)) (
 (iBd 0 e23.1.len ∧ ∃ a25, e23.1.a = some a25 ∧
 ∃ v26, cAt h24 (adr a25 ((0 : Int).toNat * 5)) 0 (.string v26) ∧
 ∃ v27, cAt h24 (adr a25 ((0 : Int).toNat * 5)) 1 (.string v27) ∧
 ∃ v28, cAt h24 (adr a25 ((0 : Int).toNat * 5)) 2 (.string v28) ∧
 ∃ v29, cAt h24 (adr a25 ((0 : Int).toNat * 5)) 3 (.bool v29) ∧
 ∃ v30, cAt h24 (adr a25 ((0 : Int).toNat * 5)) 4 (.bool v30) ∧
 CondP ((v26.toList == (⟨#[97]⟩ : ByteArray).toList) && ((v27.toList == (⟨#[49]⟩ : ByteArray).toList) && ((v28.toList == (⟨#[50]⟩ : ByteArray).toList) && ((v29 == true) && ((v30 == true) && true))))) (
 (iBd 1 e23.1.len ∧ ∃ a31, e23.1.a = some a31 ∧
 ∃ v32, cAt h24 (adr a31 ((1 : Int).toNat * 5)) 0 (.string v32) ∧
 CondP (v32.toList == (⟨#[98]⟩ : ByteArray).toList) (
 (iBd 1 e23.1.len ∧ ∃ a33, e23.1.a = some a33 ∧
 ∃ v34, cAt h24 (adr a33 ((1 : Int).toNat * 5)) 3 (.bool v34) ∧
 K (!v34) h24)) (
 K false h24))) (
 K false h24))) (
 K false h24)) (
 K false h24)) h10)))) h6))))) h1)
noncomputable def A_l17_awake : Ann := .node (.reg [] (.nil)) (.node (.reg [1] (.nil)) (.node (.reg [1,3] (.nil)) (.node (.reg [5,6] (.nil)) (.node (.reg [0] (.nil)) (.nil)))))
theorem H_l17_awake  {K : Tup [.c .bool] → Heap → Prop} {h0 : Heap} (h : F_l17_awake  K h0) : HC PG f_l17_awake [] [.c .bool] K h0 := HC.intro (an := A_l17_awake) (c := Tryz.f5.body.getD .skip) Tryz.mixed Tryz.func5 rfl Tryz.call5 (Nat.le_of_ble_eq_true rfl) (cst (by kernel_rfl) h)
def F_l17_begun (x0 : Int) (x1 : Int × Int × Int) (K : ((T6) × (Int × Int × Int × Int × SliceV)) → Heap → Prop) (h0 : Heap) : Prop :=
 At (hnew h0 [.int .u64 x1.1, .int .u64 x1.2.1, .int .u64 x1.2.2] t_sip_Hasher) (fun h1 =>
 At (hnew h1 [.int .i64 0, .int .u64 0, .int .u64 0, .int .u64 0, .pointer none, .pointer none] t_tree_Tree) (fun h2 =>
 At (hnew h2 [.int .i64 0, .int .u64 0, .int .u64 0, .int .u64 0, .slice none 0 0] t_r14_Tree) (fun h3 =>
 ((2 : Int) ≠ 0 ∧
 ∃ v4, cAt h3 (newA h0) 0 (.int .u64 v4) ∧
 ∃ v5, cAt h3 (newA h0) 1 (.int .u64 v5) ∧
 ∃ v6, cAt h3 (newA h0) 2 (.int .u64 v6) ∧
 HC PG f_tree_New [.int .i64 (IntKind.wrap .i64 (Int.tmod x0 2)), .agg #[.int .u64 v4, .int .u64 v5, .int .u64 v6]] [.agg [.int .i64, .int .u64, .int .u64, .int .u64, .ptr, .ptr], .c (.int .i64)] (fun (e7 : (T6) × Int) h8 =>
 At (hnew h8 [.int .i64 0, .int .u64 0, .int .u64 0, .int .u64 0, .pointer none, .pointer none] t_tree_Tree) (fun h9 =>
 (WrS h9 (some (newA h8)) 0 [.int .i64 e7.1.1, .int .u64 e7.1.2.1, .int .u64 e7.1.2.2.1, .int .u64 e7.1.2.2.2.1, .pointer e7.1.2.2.2.2.1, .pointer e7.1.2.2.2.2.2] ∧
 At (hsetL h9 (newA h8) 0 [.int .i64 e7.1.1, .int .u64 e7.1.2.1, .int .u64 e7.1.2.2.1, .int .u64 e7.1.2.2.2.1, .pointer e7.1.2.2.2.2.1, .pointer e7.1.2.2.2.2.2]) (fun h10 =>
 ((2 : Int) ≠ 0 ∧
 ∃ v11, cAt h10 (newA h0) 0 (.int .u64 v11) ∧
 ∃ v12, cAt h10 (newA h0) 1 (.int .u64 v12) ∧
 ∃ v13, cAt h10 (newA h0) 2 (.int .u64 v13) ∧
 HC PG f_l17_own [.agg #[.int .u64 v11, .int .u64 v12, .int .u64 v13]] [.agg [.int .u64, .int .u64, .int .u64]] (fun (e14 : Int × Int × Int) h15 =>
 HC PG f_r14_New [.int .i64 (IntKind.wrap .i64 (Int.tmod x0 2)), .agg #[.int .u64 e14.1, .int .u64 e14.2.1, .int .u64 e14.2.2]] [.agg [.int .i64, .int .u64, .int .u64, .int .u64, .slice], .c (.int .i64)] (fun (e16 : (Int × Int × Int × Int × SliceV) × Int) h17 =>
 At (hnew h17 [.int .i64 0, .int .u64 0, .int .u64 0, .int .u64 0, .slice none 0 0] t_r14_Tree) (fun h18 =>
 (WrS h18 (some (newA h17)) 0 [.int .i64 e16.1.1, .int .u64 e16.1.2.1, .int .u64 e16.1.2.2.1, .int .u64 e16.1.2.2.2.1, .slice e16.1.2.2.2.2.a e16.1.2.2.2.2.len e16.1.2.2.2.2.cap] ∧
 At (hsetL h18 (newA h17) 0 [.int .i64 e16.1.1, .int .u64 e16.1.2.1, .int .u64 e16.1.2.2.1, .int .u64 e16.1.2.2.2.1, .slice e16.1.2.2.2.2.a e16.1.2.2.2.2.len e16.1.2.2.2.2.cap]) (fun h19 =>
 ∃ v20, cAt h19 (newA h8) 0 (.int .i64 v20) ∧
 ∃ v21, cAt h19 (newA h8) 1 (.int .u64 v21) ∧
 ∃ v22, cAt h19 (newA h8) 2 (.int .u64 v22) ∧
 ∃ v23, cAt h19 (newA h8) 3 (.int .u64 v23) ∧
 ∃ v24, cAt h19 (newA h8) 4 (.pointer v24) ∧
 ∃ v25, cAt h19 (newA h8) 5 (.pointer v25) ∧
 ∃ v26, cAt h19 (newA h17) 0 (.int .i64 v26) ∧
 ∃ v27, cAt h19 (newA h17) 1 (.int .u64 v27) ∧
 ∃ v28, cAt h19 (newA h17) 2 (.int .u64 v28) ∧
 ∃ v29, cAt h19 (newA h17) 3 (.int .u64 v29) ∧
 ∃ v30 : SliceV, cAt h19 (newA h17) 4 (.slice v30.a v30.len v30.cap) ∧
 (WrS h19 (some (newA h1)) 0 [.int .i64 v20, .int .u64 v21, .int .u64 v22, .int .u64 v23, .pointer v24, .pointer v25] ∧
 At (hsetL h19 (newA h1) 0 [.int .i64 v20, .int .u64 v21, .int .u64 v22, .int .u64 v23, .pointer v24, .pointer v25]) (fun h31 =>
 ((cAt h31 (newA h17) 0 (.int .i64 v26) ∧ cAt h31 (newA h17) 1 (.int .u64 v27) ∧ cAt h31 (newA h17) 2 (.int .u64 v28) ∧ cAt h31 (newA h17) 3 (.int .u64 v29) ∧ cAt h31 (newA h17) 4 (.slice v30.a v30.len v30.cap)) ∧
 (WrS h31 (some (newA h2)) 0 [.int .i64 v26, .int .u64 v27, .int .u64 v28, .int .u64 v29, .slice v30.a v30.len v30.cap] ∧
 At (hsetL h31 (newA h2) 0 [.int .i64 v26, .int .u64 v27, .int .u64 v28, .int .u64 v29, .slice v30.a v30.len v30.cap]) (fun h32 =>
 ∃ v33, cAt h32 (newA h1) 0 (.int .i64 v33) ∧
 ∃ v34, cAt h32 (newA h1) 1 (.int .u64 v34) ∧
 ∃ v35, cAt h32 (newA h1) 2 (.int .u64 v35) ∧
 ∃ v36, cAt h32 (newA h1) 3 (.int .u64 v36) ∧
 ∃ v37, cAt h32 (newA h1) 4 (.pointer v37) ∧
 ∃ v38, cAt h32 (newA h1) 5 (.pointer v38) ∧
 ∃ v39, cAt h32 (newA h2) 0 (.int .i64 v39) ∧
 ∃ v40, cAt h32 (newA h2) 1 (.int .u64 v40) ∧
 ∃ v41, cAt h32 (newA h2) 2 (.int .u64 v41) ∧
 ∃ v42, cAt h32 (newA h2) 3 (.int .u64 v42) ∧
 ∃ v43 : SliceV, cAt h32 (newA h2) 4 (.slice v43.a v43.len v43.cap) ∧
 K ((v33, v34, v35, v36, v37, v38), (v39, v40, v41, v42, v43)) h32))))))))) h15) h10))))) h3))))
noncomputable def A_l17_begun : Ann := .node (.reg [0,3,4,5] (.nil)) (.node (.reg [0,3,4,5,6] (.nil)) (.node (.reg [4,5,6,8] (.nil)) (.node (.reg [4,5] (.draw (dl 4 [dm [] [6] 28,dm [] [8] 29,dm [0] [4,27] 0,dn [0,1,2] [1] [5,28] 0]) (.take 0 (.take 1 (.all (.last 2 (.all (.last 3 (.done))))))))) (.nil))))
theorem H_l17_begun (x0 : Int) (x1 : Int × Int × Int) {K : Tup [.agg [.int .i64, .int .u64, .int .u64, .int .u64, .ptr, .ptr], .agg [.int .i64, .int .u64, .int .u64, .int .u64, .slice]] → Heap → Prop} {h0 : Heap} (h : F_l17_begun x0 x1 K h0) : HC PG f_l17_begun [.int .u8 x0, .agg #[.int .u64 x1.1, .int .u64 x1.2.1, .int .u64 x1.2.2]] [.agg [.int .i64, .int .u64, .int .u64, .int .u64, .ptr, .ptr], .agg [.int .i64, .int .u64, .int .u64, .int .u64, .slice]] K h0 := HC.intro (an := A_l17_begun) (c := Tryz.f6.body.getD .skip) Tryz.mixed Tryz.func6 rfl Tryz.call6 (Nat.le_of_ble_eq_true rfl) (cst (by kernel_rfl) h)
def F_l17_grown (x0 : T6) (x1 : Int × Int × Int × Int × SliceV) (x2 : SliceV) (x3 : SliceV) (K : ((T6) × (Int × Int × Int × Int × SliceV)) → Heap → Prop) (h0 : Heap) : Prop :=
 At (hnew h0 [.int .i64 x0.1, .int .u64 x0.2.1, .int .u64 x0.2.2.1, .int .u64 x0.2.2.2.1, .pointer x0.2.2.2.2.1, .pointer x0.2.2.2.2.2] t_tree_Tree) (fun h1 =>
 At (hnew h1 [.int .i64 x1.1, .int .u64 x1.2.1, .int .u64 x1.2.2.1, .int .u64 x1.2.2.2.1, .slice x1.2.2.2.2.a x1.2.2.2.2.len x1.2.2.2.2.cap] t_r14_Tree) (fun h2 =>
 At (hnew h2 [.int .i64 0, .int .u64 0, .int .u64 0, .int .u64 0, .pointer none, .pointer none] t_tree_Tree) (fun h3 =>
 At (hnew h3 [.int .i64 0, .int .u64 0, .int .u64 0, .int .u64 0, .slice none 0 0] t_r14_Tree) (fun h4 =>
 LoopP (fun I5 (t6 : Int) h7 =>
 CondP (decide (t6 < (x2.len : Int))) (
 Join (fun (t43 : Unit) h44 =>
 I5 (IntKind.wrap .i64 (t6 + 1)) h44) (fun J8 =>
 (iBd t6 x2.len ∧ ∃ a9, x2.a = some a9 ∧
 ∃ v10, cAt h7 (adr a9 (t6.toNat * 2)) 0 (.string v10) ∧
 ∃ v11, cAt h7 (adr a9 (t6.toNat * 2)) 1 (.string v11) ∧
 At (hnew h7 [.string (⟨#[]⟩ : ByteArray), .string (⟨#[]⟩ : ByteArray)] t_pair_Pair) (fun h12 =>
 (WrS h12 (some (newA h7)) 0 [.string v10, .string v11] ∧
 At (hsetL h12 (newA h7) 0 [.string v10, .string v11]) (fun h13 =>
 CondP (decide (t6 < (25 : Int))) (
 ∃ v14, cAt h13 (newA h7) 0 (.string v14) ∧
 ∃ v15, cAt h13 (newA h7) 0 (.string v15) ∧
 (((0 : Int) ≤ (if 30 < (v15.size : Int) then 30 else (v15.size : Int)) ∧ (if 30 < (v15.size : Int) then 30 else (v15.size : Int)) ≤ ((v14.size : Nat) : Int)) ∧
 Bd (v14.extract 0 ((if 30 < (v15.size : Int) then 30 else (v15.size : Int)).toNat) : ByteArray) (fun s16 =>
 ∃ v17, cAt h13 (newA h7) 1 (.string v17) ∧
 ∃ v18, cAt h13 (newA h7) 1 (.string v18) ∧
 (((0 : Int) ≤ (if 30 < (v18.size : Int) then 30 else (v18.size : Int)) ∧ (if 30 < (v18.size : Int) then 30 else (v18.size : Int)) ≤ ((v17.size : Nat) : Int)) ∧
 Bd (v17.extract 0 ((if 30 < (v18.size : Int) then 30 else (v18.size : Int)).toNat) : ByteArray) (fun s19 =>
 (Wr h13 (adr (newA h7) 0) ∧
 At (hset h13 (adr (newA h7) 0) (.string s16)) (fun h20 =>
 (Wr h20 (adr (newA h7) 1) ∧
 At (hset h20 (adr (newA h7) 1) (.string s19)) (fun h21 =>
 ∃ v22, cAt h21 (newA h0) 0 (.int .i64 v22) ∧
 ∃ v23, cAt h21 (newA h0) 1 (.int .u64 v23) ∧
 ∃ v24, cAt h21 (newA h0) 2 (.int .u64 v24) ∧
 ∃ v25, cAt h21 (newA h0) 3 (.int .u64 v25) ∧
 ∃ v26, cAt h21 (newA h0) 4 (.pointer v26) ∧
 ∃ v27, cAt h21 (newA h0) 5 (.pointer v27) ∧
 ∃ v28, cAt h21 (newA h7) 0 (.string v28) ∧
 ∃ v29, cAt h21 (newA h7) 1 (.string v29) ∧
 HC PG f_tree_Tree_With [.agg #[.int .i64 v22, .int .u64 v23, .int .u64 v24, .int .u64 v25, .pointer v26, .pointer v27], .pointer none, .agg #[.string v28, .string v29]] [.agg [.int .i64, .int .u64, .int .u64, .int .u64, .ptr, .ptr], .c (.int .i64)] (fun (e30 : (T6) × Int) h31 =>
 (WrS h31 (some (newA h0)) 0 [.int .i64 e30.1.1, .int .u64 e30.1.2.1, .int .u64 e30.1.2.2.1, .int .u64 e30.1.2.2.2.1, .pointer e30.1.2.2.2.2.1, .pointer e30.1.2.2.2.2.2] ∧
 At (hsetL h31 (newA h0) 0 [.int .i64 e30.1.1, .int .u64 e30.1.2.1, .int .u64 e30.1.2.2.1, .int .u64 e30.1.2.2.2.1, .pointer e30.1.2.2.2.2.1, .pointer e30.1.2.2.2.2.2]) (fun h32 =>
 ∃ v33, cAt h32 (newA h1) 0 (.int .i64 v33) ∧
 ∃ v34, cAt h32 (newA h1) 1 (.int .u64 v34) ∧
 ∃ v35, cAt h32 (newA h1) 2 (.int .u64 v35) ∧
 ∃ v36, cAt h32 (newA h1) 3 (.int .u64 v36) ∧
 ∃ v37 : SliceV, cAt h32 (newA h1) 4 (.slice v37.a v37.len v37.cap) ∧
 ∃ v38, cAt h32 (newA h7) 0 (.string v38) ∧
 ∃ v39, cAt h32 (newA h7) 1 (.string v39) ∧
 HC PG f_r14_With [.agg #[.int .i64 v33, .int .u64 v34, .int .u64 v35, .int .u64 v36, .slice v37.a v37.len v37.cap], .agg #[.string v38, .string v39]] [.agg [.int .i64, .int .u64, .int .u64, .int .u64, .slice], .c (.int .i64)] (fun (e40 : (Int × Int × Int × Int × SliceV) × Int) h41 =>
 (WrS h41 (some (newA h1)) 0 [.int .i64 e40.1.1, .int .u64 e40.1.2.1, .int .u64 e40.1.2.2.1, .int .u64 e40.1.2.2.2.1, .slice e40.1.2.2.2.2.a e40.1.2.2.2.2.len e40.1.2.2.2.2.cap] ∧
 At (hsetL h41 (newA h1) 0 [.int .i64 e40.1.1, .int .u64 e40.1.2.1, .int .u64 e40.1.2.2.1, .int .u64 e40.1.2.2.2.1, .slice e40.1.2.2.2.2.a e40.1.2.2.2.2.len e40.1.2.2.2.2.cap]) (fun h42 =>
 J8 () h42))) h32))) h21))))))))) (
 J8 () h13))))))) (
 LoopP (fun I45 (t46 : Int) h47 =>
 CondP (decide (t46 < (x3.len : Int))) (
 Join (fun (t69 : Unit) h70 =>
 I45 (IntKind.wrap .i64 (t46 + 1)) h70) (fun J48 =>
 (iBd t46 x3.len ∧ ∃ a49, x3.a = some a49 ∧
 ∃ v50, cAt h47 a49 (t46.toNat * 1) (.string v50) ∧
 CondP (decide (t46 < (15 : Int))) (
 (((0 : Int) ≤ (if 30 < (v50.size : Int) then 30 else (v50.size : Int)) ∧ (if 30 < (v50.size : Int) then 30 else (v50.size : Int)) ≤ ((v50.size : Nat) : Int)) ∧
 Bd (v50.extract 0 ((if 30 < (v50.size : Int) then 30 else (v50.size : Int)).toNat) : ByteArray) (fun s51 =>
 ∃ v52, cAt h47 (newA h0) 0 (.int .i64 v52) ∧
 ∃ v53, cAt h47 (newA h0) 1 (.int .u64 v53) ∧
 ∃ v54, cAt h47 (newA h0) 2 (.int .u64 v54) ∧
 ∃ v55, cAt h47 (newA h0) 3 (.int .u64 v55) ∧
 ∃ v56, cAt h47 (newA h0) 4 (.pointer v56) ∧
 ∃ v57, cAt h47 (newA h0) 5 (.pointer v57) ∧
 HC PG f_tree_Tree_Without [.agg #[.int .i64 v52, .int .u64 v53, .int .u64 v54, .int .u64 v55, .pointer v56, .pointer v57], .pointer none, .string s51] [.agg [.int .i64, .int .u64, .int .u64, .int .u64, .ptr, .ptr], .c (.int .i64)] (fun (e58 : (T6) × Int) h59 =>
 (WrS h59 (some (newA h0)) 0 [.int .i64 e58.1.1, .int .u64 e58.1.2.1, .int .u64 e58.1.2.2.1, .int .u64 e58.1.2.2.2.1, .pointer e58.1.2.2.2.2.1, .pointer e58.1.2.2.2.2.2] ∧
 At (hsetL h59 (newA h0) 0 [.int .i64 e58.1.1, .int .u64 e58.1.2.1, .int .u64 e58.1.2.2.1, .int .u64 e58.1.2.2.2.1, .pointer e58.1.2.2.2.2.1, .pointer e58.1.2.2.2.2.2]) (fun h60 =>
 ∃ v61, cAt h60 (newA h1) 0 (.int .i64 v61) ∧
 ∃ v62, cAt h60 (newA h1) 1 (.int .u64 v62) ∧
 ∃ v63, cAt h60 (newA h1) 2 (.int .u64 v63) ∧
 ∃ v64, cAt h60 (newA h1) 3 (.int .u64 v64) ∧
 ∃ v65 : SliceV, cAt h60 (newA h1) 4 (.slice v65.a v65.len v65.cap) ∧
 HC PG f_r14_Without [.agg #[.int .i64 v61, .int .u64 v62, .int .u64 v63, .int .u64 v64, .slice v65.a v65.len v65.cap], .string s51] [.agg [.int .i64, .int .u64, .int .u64, .int .u64, .slice], .c (.int .i64)] (fun (e66 : (Int × Int × Int × Int × SliceV) × Int) h67 =>
 (WrS h67 (some (newA h1)) 0 [.int .i64 e66.1.1, .int .u64 e66.1.2.1, .int .u64 e66.1.2.2.1, .int .u64 e66.1.2.2.2.1, .slice e66.1.2.2.2.2.a e66.1.2.2.2.2.len e66.1.2.2.2.2.cap] ∧
 At (hsetL h67 (newA h1) 0 [.int .i64 e66.1.1, .int .u64 e66.1.2.1, .int .u64 e66.1.2.2.1, .int .u64 e66.1.2.2.2.1, .slice e66.1.2.2.2.2.a e66.1.2.2.2.2.len e66.1.2.2.2.2.cap]) (fun h68 =>
 J48 () h68))) h60))) h47))) (
 J48 () h47)))) (
 ∃ v71, cAt h47 (newA h0) 0 (.int .i64 v71) ∧
 ∃ v72, cAt h47 (newA h0) 1 (.int .u64 v72) ∧
 ∃ v73, cAt h47 (newA h0) 2 (.int .u64 v73) ∧
 ∃ v74, cAt h47 (newA h0) 3 (.int .u64 v74) ∧
 ∃ v75, cAt h47 (newA h0) 4 (.pointer v75) ∧
 ∃ v76, cAt h47 (newA h0) 5 (.pointer v76) ∧
 ∃ v77, cAt h47 (newA h1) 0 (.int .i64 v77) ∧
 ∃ v78, cAt h47 (newA h1) 1 (.int .u64 v78) ∧
 ∃ v79, cAt h47 (newA h1) 2 (.int .u64 v79) ∧
 ∃ v80, cAt h47 (newA h1) 3 (.int .u64 v80) ∧
 ∃ v81 : SliceV, cAt h47 (newA h1) 4 (.slice v81.a v81.len v81.cap) ∧
 (WrS h47 (some (newA h2)) 0 [.int .i64 v71, .int .u64 v72, .int .u64 v73, .int .u64 v74, .pointer v75, .pointer v76] ∧
 At (hsetL h47 (newA h2) 0 [.int .i64 v71, .int .u64 v72, .int .u64 v73, .int .u64 v74, .pointer v75, .pointer v76]) (fun h82 =>
 ((cAt h82 (newA h1) 0 (.int .i64 v77) ∧ cAt h82 (newA h1) 1 (.int .u64 v78) ∧ cAt h82 (newA h1) 2 (.int .u64 v79) ∧ cAt h82 (newA h1) 3 (.int .u64 v80) ∧ cAt h82 (newA h1) 4 (.slice v81.a v81.len v81.cap)) ∧
 (WrS h82 (some (newA h3)) 0 [.int .i64 v77, .int .u64 v78, .int .u64 v79, .int .u64 v80, .slice v81.a v81.len v81.cap] ∧
 At (hsetL h82 (newA h3) 0 [.int .i64 v77, .int .u64 v78, .int .u64 v79, .int .u64 v80, .slice v81.a v81.len v81.cap]) (fun h83 =>
 ∃ v84, cAt h83 (newA h2) 0 (.int .i64 v84) ∧
 ∃ v85, cAt h83 (newA h2) 1 (.int .u64 v85) ∧
 ∃ v86, cAt h83 (newA h2) 2 (.int .u64 v86) ∧
 ∃ v87, cAt h83 (newA h2) 3 (.int .u64 v87) ∧
 ∃ v88, cAt h83 (newA h2) 4 (.pointer v88) ∧
 ∃ v89, cAt h83 (newA h2) 5 (.pointer v89) ∧
 ∃ v90, cAt h83 (newA h3) 0 (.int .i64 v90) ∧
 ∃ v91, cAt h83 (newA h3) 1 (.int .u64 v91) ∧
 ∃ v92, cAt h83 (newA h3) 2 (.int .u64 v92) ∧
 ∃ v93, cAt h83 (newA h3) 3 (.int .u64 v93) ∧
 ∃ v94 : SliceV, cAt h83 (newA h3) 4 (.slice v94.a v94.len v94.cap) ∧
 K ((v84, v85, v86, v87, v88, v89), (v90, v91, v92, v93, v94)) h83))))))) 0 h7)) 0 h4))))
noncomputable def A_l17_grown : Ann := .node (.reg [2,3,4,5,8,9] (.nil)) (.node (.node (.reg [3,4,5,8,9,14,15,16] (.nil)) (.loop [3,4,5,8,9,14,15] [(16,.c (.int .i64))] (.node (.reg [3,4,5,8,9,14,15,16,17] (.nil)) (.node (.nil) (.join [3,4,5,8,9,14,15,16] [] (.node (.reg [3,4,5,8,9,10,11,14,15,16] (.nil)) (.node (.reg [3,4,5,8,9,11,14,15,16,22] (.nil)) (.node (.node (.reg [3,4,5,8,9,11,14,15,16] (.draw (dl 18 [dm [] [11] 24,dm [0] [23] 25,dm [] [11] 26,dm [2] [25] 27,dm [3] [26] 28,dm [4] [27] 29,dm [1,5] [24,28] 30,dm [] [11] 31,dm [7] [30] 32,dm [] [11] 33,dm [9] [32] 34,dm [10] [33] 35,dm [11] [34] 36,dm [8,12] [31,35] 37,dn [0,1,2,3,4,5,6,7,8,9,10] [] [11] 38,dn [0,1,2,3,4,5,6,7,8,9,10,14] [6,14] [29,37] 0,dn [0,1,2,3,4,5,6,7,8,9,10,11,12,13,14,15] [] [11] 39,dn [0,1,2,3,4,5,6,7,8,9,10,11,12,13,14,15,16] [13,16] [36,38] 0]) (tr 0 15 (.all (.last 15 (.take 16 (.all (.last 17 (.done))))))))) (.node (.reg [3,4,5,8,9,11,14,15,16] (.nil)) (.reg [3,4,5,8,9,14,15,16] (.nil)))) (.nil)))) (.reg [3,4,5,8,9,14,15,16] (.nil))))))) (.node (.node (.reg [4,5,8,9,52,53,54] (.nil)) (.loop [4,5,8,9,52,53] [(54,.c (.int .i64))] (.node (.reg [4,5,8,9,52,53,54,55] (.nil)) (.node (.nil) (.join [4,5,8,9,52,53,54] [] (.node (.reg [4,5,8,9,12,13,52,53,54] (.nil)) (.node (.reg [4,5,8,9,13,52,53,54,60] (.nil)) (.node (.node (.reg [4,5,8,9,13,52,53,54] (.nil)) (.node (.reg [4,5,8,9,13,52,53,54] (.nil)) (.reg [4,5,8,9,52,53,54] (.nil)))) (.nil)))) (.reg [4,5,8,9,52,53,54] (.nil))))))) (.node (.reg [8,9] (.draw (dl 4 [dm [] [4] 80,dm [] [5] 81,dm [0] [8,79] 0,dn [0,1,2] [1] [9,80] 0]) (.take 0 (.take 1 (.all (.last 2 (.all (.last 3 (.done))))))))) (.nil))))
theorem H_l17_grown (x0 : T6) (x1 : Int × Int × Int × Int × SliceV) (x2 : SliceV) (x3 : SliceV) {K : Tup [.agg [.int .i64, .int .u64, .int .u64, .int .u64, .ptr, .ptr], .agg [.int .i64, .int .u64, .int .u64, .int .u64, .slice]] → Heap → Prop} {h0 : Heap} (h : F_l17_grown x0 x1 x2 x3 K h0) : HC PG f_l17_grown [.agg #[.int .i64 x0.1, .int .u64 x0.2.1, .int .u64 x0.2.2.1, .int .u64 x0.2.2.2.1, .pointer x0.2.2.2.2.1, .pointer x0.2.2.2.2.2], .agg #[.int .i64 x1.1, .int .u64 x1.2.1, .int .u64 x1.2.2.1, .int .u64 x1.2.2.2.1, .slice x1.2.2.2.2.a x1.2.2.2.2.len x1.2.2.2.2.cap], .slice x2.a x2.len x2.cap, .slice x3.a x3.len x3.cap] [.agg [.int .i64, .int .u64, .int .u64, .int .u64, .ptr, .ptr], .agg [.int .i64, .int .u64, .int .u64, .int .u64, .slice]] K h0 := HC.intro (an := A_l17_grown) (c := Tryz.f7.body.getD .skip) Tryz.mixed Tryz.func7 rfl Tryz.call7 (Nat.le_of_ble_eq_true rfl) (cst (by kernel_rfl) h)
def F_diff_Of (x0 : T6) (x1 : T6) (K : (SliceV × Int) → Heap → Prop) (h0 : Heap) : Prop :=
 At (hnew h0 [.int .i64 x0.1, .int .u64 x0.2.1, .int .u64 x0.2.2.1, .int .u64 x0.2.2.2.1, .pointer x0.2.2.2.2.1, .pointer x0.2.2.2.2.2] t_tree_Tree) (fun h1 =>
 At (hnew h1 [.int .i64 x1.1, .int .u64 x1.2.1, .int .u64 x1.2.2.1, .int .u64 x1.2.2.2.1, .pointer x1.2.2.2.2.1, .pointer x1.2.2.2.2.2] t_tree_Tree) (fun h2 =>
 ∃ v3, cAt h2 (newA h0) 0 (.int .i64 v3) ∧
 ∃ v4, cAt h2 (newA h0) 1 (.int .u64 v4) ∧
 ∃ v5, cAt h2 (newA h0) 2 (.int .u64 v5) ∧
 ∃ v6, cAt h2 (newA h0) 3 (.int .u64 v6) ∧
 ∃ v7, cAt h2 (newA h0) 4 (.pointer v7) ∧
 ∃ v8, cAt h2 (newA h0) 5 (.pointer v8) ∧
 ∃ v9, cAt h2 (newA h1) 0 (.int .i64 v9) ∧
 ∃ v10, cAt h2 (newA h1) 1 (.int .u64 v10) ∧
 ∃ v11, cAt h2 (newA h1) 2 (.int .u64 v11) ∧
 ∃ v12, cAt h2 (newA h1) 3 (.int .u64 v12) ∧
 ∃ v13, cAt h2 (newA h1) 4 (.pointer v13) ∧
 ∃ v14, cAt h2 (newA h1) 5 (.pointer v14) ∧
 HC PG f_tree_Like [.agg #[.int .i64 v3, .int .u64 v4, .int .u64 v5, .int .u64 v6, .pointer v7, .pointer v8], .agg #[.int .i64 v9, .int .u64 v10, .int .u64 v11, .int .u64 v12, .pointer v13, .pointer v14]] [.c .bool] (fun (e15 : Bool) h16 =>
 CondP (!e15) (
 K (⟨none, 0, 0⟩, 11) h16) (
 ∃ v17, cAt h16 (newA h0) 0 (.int .i64 v17) ∧
 ∃ v18, cAt h16 (newA h0) 1 (.int .u64 v18) ∧
 ∃ v19, cAt h16 (newA h0) 2 (.int .u64 v19) ∧
 ∃ v20, cAt h16 (newA h0) 3 (.int .u64 v20) ∧
 ∃ v21, cAt h16 (newA h0) 4 (.pointer v21) ∧
 ∃ v22, cAt h16 (newA h0) 5 (.pointer v22) ∧
 HC PG f_tree_Tree_Hasher [.agg #[.int .i64 v17, .int .u64 v18, .int .u64 v19, .int .u64 v20, .pointer v21, .pointer v22]] [.agg [.int .u64, .int .u64, .int .u64]] (fun (e23 : Int × Int × Int) h24 =>
 At (hnew h24 [.int .u64 e23.1, .int .u64 e23.2.1, .int .u64 e23.2.2, .slice none 0 0] t_diff_set) (fun h25 =>
 Join (fun (t71 : Unit) h72 =>
 ∃ a73, some (newA h24) = some a73 ∧
 ∃ v74 : SliceV, cAt h72 a73 3 (.slice v74.a v74.len v74.cap) ∧
 HC PG f_slices_SortFunc_A_diff_Change_diff_Change [.slice v74.a v74.len v74.cap, .func (.func f_diff_Of_1) #[] #[]] [] (fun (e75 : Unit) h76 =>
 ∃ a77, some (newA h24) = some a77 ∧
 ∃ v78 : SliceV, cAt h76 a77 3 (.slice v78.a v78.len v78.cap) ∧
 K (v78, 0) h76) h72) (fun J26 =>
 ∃ v27, cAt h25 (newA h0) 0 (.int .i64 v27) ∧
 ∃ v28, cAt h25 (newA h0) 1 (.int .u64 v28) ∧
 ∃ v29, cAt h25 (newA h0) 2 (.int .u64 v29) ∧
 ∃ v30, cAt h25 (newA h0) 3 (.int .u64 v30) ∧
 ∃ v31, cAt h25 (newA h0) 4 (.pointer v31) ∧
 ∃ v32, cAt h25 (newA h0) 5 (.pointer v32) ∧
 HC PG f_tree_Tree_Kind [.agg #[.int .i64 v27, .int .u64 v28, .int .u64 v29, .int .u64 v30, .pointer v31, .pointer v32]] [.c (.int .i64)] (fun (e33 : Int) h34 =>
 CondP (e33 == (1 : Int)) (
 ∃ v35, cAt h34 (newA h0) 0 (.int .i64 v35) ∧
 ∃ v36, cAt h34 (newA h0) 1 (.int .u64 v36) ∧
 ∃ v37, cAt h34 (newA h0) 2 (.int .u64 v37) ∧
 ∃ v38, cAt h34 (newA h0) 3 (.int .u64 v38) ∧
 ∃ v39, cAt h34 (newA h0) 4 (.pointer v39) ∧
 ∃ v40, cAt h34 (newA h0) 5 (.pointer v40) ∧
 ∃ v41, cAt h34 (newA h1) 0 (.int .i64 v41) ∧
 ∃ v42, cAt h34 (newA h1) 1 (.int .u64 v42) ∧
 ∃ v43, cAt h34 (newA h1) 2 (.int .u64 v43) ∧
 ∃ v44, cAt h34 (newA h1) 3 (.int .u64 v44) ∧
 ∃ v45, cAt h34 (newA h1) 4 (.pointer v45) ∧
 ∃ v46, cAt h34 (newA h1) 5 (.pointer v46) ∧
 HC PG f_tree_Tree_Radix [.agg #[.int .i64 v35, .int .u64 v36, .int .u64 v37, .int .u64 v38, .pointer v39, .pointer v40]] [.c .ptr] (fun (e47 : Option Addr) h48 =>
 ((cAt h48 (newA h1) 0 (.int .i64 v41) ∧ cAt h48 (newA h1) 1 (.int .u64 v42) ∧ cAt h48 (newA h1) 2 (.int .u64 v43) ∧ cAt h48 (newA h1) 3 (.int .u64 v44) ∧ cAt h48 (newA h1) 4 (.pointer v45) ∧ cAt h48 (newA h1) 5 (.pointer v46)) ∧
 HC PG f_tree_Tree_Radix [.agg #[.int .i64 v41, .int .u64 v42, .int .u64 v43, .int .u64 v44, .pointer v45, .pointer v46]] [.c .ptr] (fun (e49 : Option Addr) h50 =>
 HC PG f_diff_set_trees [.pointer (some (newA h24)), .pointer e47, .pointer e49, .string (⟨#[]⟩ : ByteArray)] [] (fun (e51 : Unit) h52 =>
 J26 () h52) h50) h48)) h34) (
 ∃ v53, cAt h34 (newA h0) 0 (.int .i64 v53) ∧
 ∃ v54, cAt h34 (newA h0) 1 (.int .u64 v54) ∧
 ∃ v55, cAt h34 (newA h0) 2 (.int .u64 v55) ∧
 ∃ v56, cAt h34 (newA h0) 3 (.int .u64 v56) ∧
 ∃ v57, cAt h34 (newA h0) 4 (.pointer v57) ∧
 ∃ v58, cAt h34 (newA h0) 5 (.pointer v58) ∧
 ∃ v59, cAt h34 (newA h1) 0 (.int .i64 v59) ∧
 ∃ v60, cAt h34 (newA h1) 1 (.int .u64 v60) ∧
 ∃ v61, cAt h34 (newA h1) 2 (.int .u64 v61) ∧
 ∃ v62, cAt h34 (newA h1) 3 (.int .u64 v62) ∧
 ∃ v63, cAt h34 (newA h1) 4 (.pointer v63) ∧
 ∃ v64, cAt h34 (newA h1) 5 (.pointer v64) ∧
 HC PG f_tree_Tree_Champ [.agg #[.int .i64 v53, .int .u64 v54, .int .u64 v55, .int .u64 v56, .pointer v57, .pointer v58]] [.c .ptr] (fun (e65 : Option Addr) h66 =>
 ((cAt h66 (newA h1) 0 (.int .i64 v59) ∧ cAt h66 (newA h1) 1 (.int .u64 v60) ∧ cAt h66 (newA h1) 2 (.int .u64 v61) ∧ cAt h66 (newA h1) 3 (.int .u64 v62) ∧ cAt h66 (newA h1) 4 (.pointer v63) ∧ cAt h66 (newA h1) 5 (.pointer v64)) ∧
 HC PG f_tree_Tree_Champ [.agg #[.int .i64 v59, .int .u64 v60, .int .u64 v61, .int .u64 v62, .pointer v63, .pointer v64]] [.c .ptr] (fun (e67 : Option Addr) h68 =>
 HC PG f_diff_set_tries [.pointer (some (newA h24)), .pointer e65, .pointer e67] [] (fun (e69 : Unit) h70 =>
 J26 () h70) h68) h66)) h34)) h25))) h16)) h2))
noncomputable def A_diff_Of : Ann := .node (.reg [2,3] (.nil)) (.node (.node (.reg [2,3,10] (.nil)) (.node (.node (.reg [4,5] (.nil)) (.nil)) (.nil))) (.node (.reg [2,3,6] (.nil)) (.join [6] [] (.node (.reg [2,3,6,17] (.nil)) (.node (.reg [6] (.draw (dl 6 [dm [] [6] 19,dm [] [2] 20,dm [1] [19] 21,dm [] [3] 22,dn [2,3] [3] [21] 23,dm [0,2,4] [18,20,22] 24]) (tk [0,1,3] (.all (.last 2 (.all (.last 4 (.all (.last 5 (.done)))))))))) (.reg [6] (.draw (dl 6 [dm [] [6] 25,dm [] [2] 26,dm [1] [25] 27,dm [] [3] 28,dn [2,3] [3] [27] 29,dm [0,2,4] [24,26,28] 30]) (tk [0,1,3] (.all (.last 2 (.all (.last 4 (.all (.last 5 (.done)))))))))))) (.node (.reg [6] (.nil)) (.node (.reg [4,5] (.nil)) (.nil))))))
theorem H_diff_Of (x0 : T6) (x1 : T6) {K : Tup [.c .slice, .c (.int .i64)] → Heap → Prop} {h0 : Heap} (h : F_diff_Of x0 x1 K h0) : HC PG f_diff_Of [.agg #[.int .i64 x0.1, .int .u64 x0.2.1, .int .u64 x0.2.2.1, .int .u64 x0.2.2.2.1, .pointer x0.2.2.2.2.1, .pointer x0.2.2.2.2.2], .agg #[.int .i64 x1.1, .int .u64 x1.2.1, .int .u64 x1.2.2.1, .int .u64 x1.2.2.2.1, .pointer x1.2.2.2.2.1, .pointer x1.2.2.2.2.2]] [.c .slice, .c (.int .i64)] K h0 := HC.intro (an := A_diff_Of) (c := Tryz.f8.body.getD .skip) Tryz.mixed Tryz.func8 rfl Tryz.call8 (Nat.le_of_ble_eq_true rfl) (cst (by kernel_rfl) h)
def F_l17_few (x0 : SliceV) (x1 : Int) (x2 : Int) (K : (SliceV) → Heap → Prop) (h0 : Heap) : Prop :=
 LoopP (fun I1 (t2 : SliceV × Int) h3 =>
 CondP (decide (t2.2 < (x0.len : Int))) (
 Join (fun (t48 : SliceV) h49 =>
 I1 (t48, IntKind.wrap .i64 (t2.2 + 1)) h49) (fun J4 =>
 (iBd t2.2 x0.len ∧ ∃ a5, x0.a = some a5 ∧
 ∃ v6, cAt h3 (adr a5 (t2.2.toNat * 5)) 0 (.string v6) ∧
 ∃ v7, cAt h3 (adr a5 (t2.2.toNat * 5)) 1 (.string v7) ∧
 ∃ v8, cAt h3 (adr a5 (t2.2.toNat * 5)) 2 (.string v8) ∧
 ∃ v9, cAt h3 (adr a5 (t2.2.toNat * 5)) 3 (.bool v9) ∧
 ∃ v10, cAt h3 (adr a5 (t2.2.toNat * 5)) 4 (.bool v10) ∧
 At (hnew h3 [.string (⟨#[]⟩ : ByteArray), .string (⟨#[]⟩ : ByteArray), .string (⟨#[]⟩ : ByteArray), .bool false, .bool false] t_diff_Change) (fun h11 =>
 (WrS h11 (some (newA h3)) 0 [.string v6, .string v7, .string v8, .bool v9, .bool v10] ∧
 At (hsetL h11 (newA h3) 0 [.string v6, .string v7, .string v8, .bool v9, .bool v10]) (fun h12 =>
 CondP (decide (t2.2 ≥ (20 : Int))) (
 K t2.1 h12) (
 ∃ v13, cAt h12 (newA h3) 0 (.string v13) ∧
 ∃ v14, cAt h12 (newA h3) 0 (.string v14) ∧
 (((0 : Int) ≤ (if 30 < (v14.size : Int) then 30 else (v14.size : Int)) ∧ (if 30 < (v14.size : Int) then 30 else (v14.size : Int)) ≤ ((v13.size : Nat) : Int)) ∧
 Bd (v13.extract 0 ((if 30 < (v14.size : Int) then 30 else (v14.size : Int)).toNat) : ByteArray) (fun s15 =>
 ∃ v16, cAt h12 (newA h3) 1 (.string v16) ∧
 ∃ v17, cAt h12 (newA h3) 1 (.string v17) ∧
 (((0 : Int) ≤ (if 30 < (v17.size : Int) then 30 else (v17.size : Int)) ∧ (if 30 < (v17.size : Int) then 30 else (v17.size : Int)) ≤ ((v16.size : Nat) : Int)) ∧
 Bd (v16.extract 0 ((if 30 < (v17.size : Int) then 30 else (v17.size : Int)).toNat) : ByteArray) (fun s18 =>
 ∃ v19, cAt h12 (newA h3) 2 (.string v19) ∧
 ∃ v20, cAt h12 (newA h3) 2 (.string v20) ∧
 (((0 : Int) ≤ (if 30 < (v20.size : Int) then 30 else (v20.size : Int)) ∧ (if 30 < (v20.size : Int) then 30 else (v20.size : Int)) ≤ ((v19.size : Nat) : Int)) ∧
 Bd (v19.extract 0 ((if 30 < (v20.size : Int) then 30 else (v20.size : Int)).toNat) : ByteArray) (fun s21 =>
 (Wr h12 (adr (newA h3) 0) ∧
 At (hset h12 (adr (newA h3) 0) (.string s15)) (fun h22 =>
 (Wr h22 (adr (newA h3) 1) ∧
 At (hset h22 (adr (newA h3) 1) (.string s18)) (fun h23 =>
 (Wr h23 (adr (newA h3) 2) ∧
 At (hset h23 (adr (newA h3) 2) (.string s21)) (fun h24 =>
 Join (fun (t30 : Unit) h31 =>
 Join (fun (t37 : Unit) h38 =>
 ∃ v39, cAt h38 (newA h3) 0 (.string v39) ∧
 ∃ v40, cAt h38 (newA h3) 1 (.string v40) ∧
 ∃ v41, cAt h38 (newA h3) 2 (.string v41) ∧
 ∃ v42, cAt h38 (newA h3) 3 (.bool v42) ∧
 ∃ v43, cAt h38 (newA h3) 4 (.bool v43) ∧
 At (hnew h38 [.string v39, .string v40, .string v41, .bool v42, .bool v43] t_diff_Change) (fun h44 =>
 ∃ xs45, SRow h44 (some (newA h38)) (1 * 5) xs45 ∧
 AppP (some [.string (⟨#[]⟩ : ByteArray), .string (⟨#[]⟩ : ByteArray), .string (⟨#[]⟩ : ByteArray), .bool false, .bool false]) 5 56 t_diff_Change t2.1.a t2.1.len t2.1.cap 1 xs45 h44 (fun s46 h47 =>
 J4 s46 h47))) (fun J32 =>
 CondP (t2.2 == (IntKind.wrap .i64 ((IntKind.wrap .i64 x1) + 1))) (
 ∃ v33, cAt h31 (newA h3) 2 (.string v33) ∧
 ((4200 : Int) ≠ 0 ∧
 (((0 : Int) ≤ (Int.tmod (IntKind.wrap .i64 x2) 4200) ∧ (Int.tmod (IntKind.wrap .i64 x2) 4200) ≤ (Int.tmod (IntKind.wrap .i64 x2) 4200) ∧ (Int.tmod (IntKind.wrap .i64 x2) 4200) ≤ 9223372036854775807 ∧ 1 * (Int.tmod (IntKind.wrap .i64 x2) 4200) ≤ 2 ^ 48) ∧
 At (hnew h31 (zrow (Int.tmod (IntKind.wrap .i64 x2) 4200).toNat [.int .u8 0]) t_u8) (fun h34 =>
 (cAt h34 (newA h3) 2 (.string v33) ∧
 ∃ s35, SRow h34 (some (newA h31)) ((Int.tmod (IntKind.wrap .i64 x2) 4200).toNat) (byteVals s35) ∧
 (((v33.size + s35.size : Nat) : Int) ≤ 9223372036854775807 ∧
 (Wr h34 (adr (newA h3) 2) ∧
 At (hset h34 (adr (newA h3) 2) (.string (v33 ++ s35))) (fun h36 =>
 J32 () h36)))))))) (
 J32 () h31))) (fun J25 =>
 CondP (t2.2 == (IntKind.wrap .i64 x1)) (
 ∃ v26, cAt h24 (newA h3) 0 (.string v26) ∧
 ((300 : Int) ≠ 0 ∧
 (((0 : Int) ≤ (Int.tmod (IntKind.wrap .i64 x2) 300) ∧ (Int.tmod (IntKind.wrap .i64 x2) 300) ≤ (Int.tmod (IntKind.wrap .i64 x2) 300) ∧ (Int.tmod (IntKind.wrap .i64 x2) 300) ≤ 9223372036854775807 ∧ 1 * (Int.tmod (IntKind.wrap .i64 x2) 300) ≤ 2 ^ 48) ∧
 At (hnew h24 (zrow (Int.tmod (IntKind.wrap .i64 x2) 300).toNat [.int .u8 0]) t_u8) (fun h27 =>
 (cAt h27 (newA h3) 0 (.string v26) ∧
 ∃ s28, SRow h27 (some (newA h24)) ((Int.tmod (IntKind.wrap .i64 x2) 300).toNat) (byteVals s28) ∧
 (((v26.size + s28.size : Nat) : Int) ≤ 9223372036854775807 ∧
 (Wr h27 (adr (newA h3) 0) ∧
 At (hset h27 (adr (newA h3) 0) (.string (v26 ++ s28))) (fun h29 =>
 J25 () h29)))))))) (
 J25 () h24))))))))))))))))))))) (
 K t2.1 h3)) (⟨none, 0, 0⟩, 0) h0
noncomputable def A_l17_few : Ann := .node (.reg [0,1,2] (.nil)) (.node (.reg [0,1,2,7] (.nil)) (.node (.node (.reg [1,2,7,10,11,12] (.nil)) (.loop [1,2,10,11] [(7,.c .slice),(12,.c (.int .i64))] (.node (.reg [1,2,7,10,11,12,13] (.nil)) (.node (.nil) (.join [1,2,10,11,12] [(7,.c .slice)] (.node (.reg [1,2,7,8,9,10,11,12] (.nil)) (.node (.node (.reg [1,2,7,8,9,10,11,12,18] (.nil)) (.nil)) (.node (.reg [1,2,7,8,9,10,11,12] (.draw (dl 27 [dm [] [9] 20,dm [0] [19] 21,dm [] [9] 22,dm [2] [21] 23,dm [3] [22] 24,dm [4] [23] 25,dm [1,5] [20,24] 26,dm [] [9] 27,dm [7] [26] 28,dm [] [9] 29,dm [9] [28] 30,dm [10] [29] 31,dm [11] [30] 32,dm [8,12] [27,31] 33,dm [] [9] 34,dm [14] [33] 35,dm [] [9] 36,dm [16] [35] 37,dm [17] [36] 38,dm [18] [37] 39,dm [15,19] [34,38] 40,dn [0,1,2,3,4,5,6,7,8,9,10,14,15,16,17] [] [9] 41,dn [0,1,2,3,4,5,6,7,8,9,10,14,15,16,17,21] [6,21] [25,40] 0,dn [0,1,2,3,4,5,6,7,8,9,10,11,12,13,14,15,16,17,21,22] [] [9] 42,dn [0,1,2,3,4,5,6,7,8,9,10,11,12,13,14,15,16,17,21,22,23] [13,23] [32,41] 0,dn [0,1,2,3,4,5,6,7,8,9,10,11,12,13,14,15,16,17,18,19,20,21,22,23,24] [] [9] 43,dn [0,1,2,3,4,5,6,7,8,9,10,11,12,13,14,15,16,17,18,19,20,21,22,23,24,25] [20,25] [39,42] 0]) (tr 0 22 (.all (.last 22 (.take 23 (.all (.last 24 (.take 25 (.all (.last 26 (.done)))))))))))) (.join [1,2,7,8,9,10,11,12] [] (.node (.reg [1,2,7,8,9,10,11,12,46] (.nil)) (.node (.reg [1,2,7,8,9,10,11,12] (.draw (dl 10 [dm [] [9] 48,dm [0] [47] 49,dm [] [2] 50,dm [2] [49] 51,dm [3] [50] 52,dm [4] [51] 53,dm [5] [52] 54,dm [1,6] [48,53] 55,dn [0,1,2,3,4,5,6,7] [] [9] 56,dn [0,1,2,3,4,5,6,7,8] [7,8] [54,55] 0]) (tr 0 5 (.all (.last 5 (tr 6 3 (.all (.last 9 (.done))))))))) (.nil))) (.join [1,2,7,9,10,11,12] [] (.node (.reg [1,2,7,9,10,11,12,60] (.nil)) (.node (.reg [1,2,7,9,10,11,12] (.draw (dl 10 [dm [] [9] 62,dm [0] [61] 63,dm [] [2] 64,dm [2] [63] 65,dm [3] [64] 66,dm [4] [65] 67,dm [5] [66] 68,dm [1,6] [62,67] 69,dn [0,1,2,3,4,5,6,7] [] [9] 70,dn [0,1,2,3,4,5,6,7,8] [7,8] [68,69] 0]) (tr 0 5 (.all (.last 5 (tr 6 3 (.all (.last 9 (.done))))))))) (.nil))) (.reg [1,2,7,10,11,12] (.nil))))))) (.reg [1,2,7,10,11,12] (.nil))))))) (.node (.reg [6] (.nil)) (.nil))))
theorem H_l17_few (x0 : SliceV) (x1 : Int) (x2 : Int) {K : Tup [.c .slice] → Heap → Prop} {h0 : Heap} (h : F_l17_few x0 x1 x2 K h0) : HC PG f_l17_few [.slice x0.a x0.len x0.cap, .int .u8 x1, .int .u16 x2] [.c .slice] K h0 := HC.intro (an := A_l17_few) (c := Tryz.f9.body.getD .skip) Tryz.mixed Tryz.func9 rfl Tryz.call9 (Nat.le_of_ble_eq_true rfl) (cst (by kernel_rfl) h)
def F_r14_Like (x0 : Int × Int × Int × Int × SliceV) (x1 : Int × Int × Int × Int × SliceV) (K : (Bool) → Heap → Prop) (h0 : Heap) : Prop :=
 At (hnew h0 [.int .i64 x0.1, .int .u64 x0.2.1, .int .u64 x0.2.2.1, .int .u64 x0.2.2.2.1, .slice x0.2.2.2.2.a x0.2.2.2.2.len x0.2.2.2.2.cap] t_r14_Tree) (fun h1 =>
 At (hnew h1 [.int .i64 x1.1, .int .u64 x1.2.1, .int .u64 x1.2.2.1, .int .u64 x1.2.2.2.1, .slice x1.2.2.2.2.a x1.2.2.2.2.len x1.2.2.2.2.cap] t_r14_Tree) (fun h2 =>
 ∃ v3, cAt h2 (newA h0) 0 (.int .i64 v3) ∧
 ∃ v4, cAt h2 (newA h1) 0 (.int .i64 v4) ∧
 CondP (v3 == v4) (
 ∃ v5, cAt h2 (adr (newA h0) 1) 0 (.int .u64 v5) ∧
 ∃ v6, cAt h2 (adr (newA h0) 1) 1 (.int .u64 v6) ∧
 ∃ v7, cAt h2 (adr (newA h0) 1) 2 (.int .u64 v7) ∧
 ∃ v8, cAt h2 (adr (newA h1) 1) 0 (.int .u64 v8) ∧
 ∃ v9, cAt h2 (adr (newA h1) 1) 1 (.int .u64 v9) ∧
 ∃ v10, cAt h2 (adr (newA h1) 1) 2 (.int .u64 v10) ∧
 K ((v5 == v8) && ((v6 == v9) && ((v7 == v10) && true))) h2) (
 K false h2)))
noncomputable def A_r14_Like : Ann := .node (.reg [2,3] (.nil)) (.node (.reg [4] (.nil)) (.nil))
theorem H_r14_Like (x0 : Int × Int × Int × Int × SliceV) (x1 : Int × Int × Int × Int × SliceV) {K : Tup [.c .bool] → Heap → Prop} {h0 : Heap} (h : F_r14_Like x0 x1 K h0) : HC PG f_r14_Like [.agg #[.int .i64 x0.1, .int .u64 x0.2.1, .int .u64 x0.2.2.1, .int .u64 x0.2.2.2.1, .slice x0.2.2.2.2.a x0.2.2.2.2.len x0.2.2.2.2.cap], .agg #[.int .i64 x1.1, .int .u64 x1.2.1, .int .u64 x1.2.2.1, .int .u64 x1.2.2.2.1, .slice x1.2.2.2.2.a x1.2.2.2.2.len x1.2.2.2.2.cap]] [.c .bool] K h0 := HC.intro (an := A_r14_Like) (c := Tryz.f10.body.getD .skip) Tryz.mixed Tryz.func10 rfl Tryz.call10 (Nat.le_of_ble_eq_true rfl) (cst (by kernel_rfl) h)
def F_diff_Same (x0 : SliceV) (x1 : SliceV) (K : (Bool) → Heap → Prop) (h0 : Heap) : Prop :=
 HC PG f_slices_Equal_A_diff_Change_diff_Change [.slice x0.a x0.len x0.cap, .slice x1.a x1.len x1.cap] [.c .bool] (fun (e1 : Bool) h2 =>
 K e1 h2) h0
noncomputable def A_diff_Same : Ann := .node (.reg [0,1] (.nil)) (.node (.reg [4] (.nil)) (.nil))
theorem H_diff_Same (x0 : SliceV) (x1 : SliceV) {K : Tup [.c .bool] → Heap → Prop} {h0 : Heap} (h : F_diff_Same x0 x1 K h0) : HC PG f_diff_Same [.slice x0.a x0.len x0.cap, .slice x1.a x1.len x1.cap] [.c .bool] K h0 := HC.intro (an := A_diff_Same) (c := Tryz.f11.body.getD .skip) Tryz.mixed Tryz.func11 rfl Tryz.call11 (Nat.le_of_ble_eq_true rfl) (cst (by kernel_rfl) h)
def F_r17_Same (x0 : SliceV) (x1 : SliceV) (K : (Bool) → Heap → Prop) (h0 : Heap) : Prop :=
 CondP ((x0.len : Int) != (x1.len : Int)) (
 K false h0) (
 LoopP (fun I1 (t2 : Int) h3 =>
 CondP (decide (t2 < (x0.len : Int))) (
 (iBd t2 x0.len ∧ ∃ a4, x0.a = some a4 ∧
 ∃ v5, cAt h3 (adr a4 (t2.toNat * 5)) 0 (.string v5) ∧
 ∃ v6, cAt h3 (adr a4 (t2.toNat * 5)) 1 (.string v6) ∧
 ∃ v7, cAt h3 (adr a4 (t2.toNat * 5)) 2 (.string v7) ∧
 ∃ v8, cAt h3 (adr a4 (t2.toNat * 5)) 3 (.bool v8) ∧
 ∃ v9, cAt h3 (adr a4 (t2.toNat * 5)) 4 (.bool v9) ∧
 (iBd t2 x1.len ∧ ∃ a10, x1.a = some a10 ∧
 ∃ v11, cAt h3 (adr a10 (t2.toNat * 5)) 0 (.string v11) ∧
 ∃ v12, cAt h3 (adr a10 (t2.toNat * 5)) 1 (.string v12) ∧
 ∃ v13, cAt h3 (adr a10 (t2.toNat * 5)) 2 (.string v13) ∧
 ∃ v14, cAt h3 (adr a10 (t2.toNat * 5)) 3 (.bool v14) ∧
 ∃ v15, cAt h3 (adr a10 (t2.toNat * 5)) 4 (.bool v15) ∧
 CondP (!(((v5.toList == v11.toList) && ((v6.toList == v12.toList) && ((v7.toList == v13.toList) && ((v8 == v14) && ((v9 == v15) && true))))))) (
 K false h3) (
 I1 (IntKind.wrap .i64 (t2 + 1)) h3)))) (
 K true h3)) 0 h0)
noncomputable def A_r17_Same : Ann := .node (.reg [0,1] (.nil)) (.node (.node (.reg [0,1,10] (.nil)) (.node (.node (.reg [4] (.nil)) (.nil)) (.nil))) (.node (.node (.reg [0,1,12,13] (.nil)) (.loop [0,1,12] [(13,.c (.int .i64))] (.node (.reg [0,1,12,13,14] (.nil)) (.node (.nil) (.node (.node (.reg [0,1,5,12,13] (.nil)) (.node (.reg [0,1,12,13,24] (.draw (dl 9 [dm [] [0] 17,dm [] [5] 18,dm [0,1] [16,17] 19,dm [2] [18] 20,dm [] [1] 21,dm [] [5] 22,dm [4,5] [20,21] 23,dm [6] [22] 24,dm [3,7] [19,23] 25]) (tr 0 9 (.done)))) (.node (.node (.reg [4] (.nil)) (.nil)) (.nil)))) (.reg [0,1,12,13] (.nil))))))) (.node (.reg [4] (.nil)) (.nil))))
theorem H_r17_Same (x0 : SliceV) (x1 : SliceV) {K : Tup [.c .bool] → Heap → Prop} {h0 : Heap} (h : F_r17_Same x0 x1 K h0) : HC PG f_r17_Same [.slice x0.a x0.len x0.cap, .slice x1.a x1.len x1.cap] [.c .bool] K h0 := HC.intro (an := A_r17_Same) (c := Tryz.f12.body.getD .skip) Tryz.mixed Tryz.func12 rfl Tryz.call12 (Nat.le_of_ble_eq_true rfl) (cst (by kernel_rfl) h)
def F_l17_changes (x0 : SliceV) (K : (SliceV) → Heap → Prop) (h0 : Heap) : Prop :=
 LoopP (fun I1 (t2 : SliceV × Int) h3 =>
 CondP (decide (t2.2 < (x0.len : Int))) (
 Join (fun (t22 : SliceV) h23 =>
 I1 (t22, IntKind.wrap .i64 (t2.2 + 1)) h23) (fun J4 =>
 (iBd t2.2 x0.len ∧ ∃ a5, x0.a = some a5 ∧
 ∃ v6, cAt h3 (adr a5 (t2.2.toNat * 5)) 0 (.string v6) ∧
 ∃ v7, cAt h3 (adr a5 (t2.2.toNat * 5)) 1 (.string v7) ∧
 ∃ v8, cAt h3 (adr a5 (t2.2.toNat * 5)) 2 (.string v8) ∧
 ∃ v9, cAt h3 (adr a5 (t2.2.toNat * 5)) 3 (.bool v9) ∧
 ∃ v10, cAt h3 (adr a5 (t2.2.toNat * 5)) 4 (.bool v10) ∧
 At (hnew h3 [.string (⟨#[]⟩ : ByteArray), .string (⟨#[]⟩ : ByteArray), .string (⟨#[]⟩ : ByteArray), .bool false, .bool false] t_diff_Change) (fun h11 =>
 (WrS h11 (some (newA h3)) 0 [.string v6, .string v7, .string v8, .bool v9, .bool v10] ∧
 At (hsetL h11 (newA h3) 0 [.string v6, .string v7, .string v8, .bool v9, .bool v10]) (fun h12 =>
 ∃ v13, cAt h12 (newA h3) 0 (.string v13) ∧
 ∃ v14, cAt h12 (newA h3) 1 (.string v14) ∧
 ∃ v15, cAt h12 (newA h3) 2 (.string v15) ∧
 ∃ v16, cAt h12 (newA h3) 3 (.bool v16) ∧
 ∃ v17, cAt h12 (newA h3) 4 (.bool v17) ∧
 At (hnew h12 [.string v13, .string v14, .string v15, .bool v16, .bool v17] t_r17_Change) (fun h18 =>
 ∃ xs19, SRow h18 (some (newA h12)) (1 * 5) xs19 ∧
 AppP (some [.string (⟨#[]⟩ : ByteArray), .string (⟨#[]⟩ : ByteArray), .string (⟨#[]⟩ : ByteArray), .bool false, .bool false]) 5 56 t_r17_Change t2.1.a t2.1.len t2.1.cap 1 xs19 h18 (fun s20 h21 =>
 J4 s20 h21)))))))) (
 K t2.1 h3)) (⟨none, 0, 0⟩, 0) h0
noncomputable def A_l17_changes : Ann := .node (.reg [0] (.nil)) (.node (.reg [0,3] (.nil)) (.node (.node (.reg [3,6,7,8] (.nil)) (.loop [6,7] [(3,.c .slice),(8,.c (.int .i64))] (.node (.reg [3,6,7,8,9] (.nil)) (.node (.nil) (.join [6,7,8] [(3,.c .slice)] (.node (.reg [3,5,6,7,8] (.nil)) (.reg [3,6,7,8] (.nil))) (.reg [3,6,7,8] (.nil))))))) (.node (.reg [2] (.nil)) (.nil))))
theorem H_l17_changes (x0 : SliceV) {K : Tup [.c .slice] → Heap → Prop} {h0 : Heap} (h : F_l17_changes x0 K h0) : HC PG f_l17_changes [.slice x0.a x0.len x0.cap] [.c .slice] K h0 := HC.intro (an := A_l17_changes) (c := Tryz.f13.body.getD .skip) Tryz.mixed Tryz.func13 rfl Tryz.call13 (Nat.le_of_ble_eq_true rfl) (cst (by kernel_rfl) h)
def F_diff_Invert (x0 : SliceV) (K : (SliceV) → Heap → Prop) (h0 : Heap) : Prop :=
 LoopP (fun I1 (t2 : SliceV × Int) h3 =>
 CondP (decide (t2.2 < (x0.len : Int))) (
 Join (fun (t22 : SliceV) h23 =>
 I1 (t22, IntKind.wrap .i64 (t2.2 + 1)) h23) (fun J4 =>
 (iBd t2.2 x0.len ∧ ∃ a5, x0.a = some a5 ∧
 ∃ v6, cAt h3 (adr a5 (t2.2.toNat * 5)) 0 (.string v6) ∧
 ∃ v7, cAt h3 (adr a5 (t2.2.toNat * 5)) 1 (.string v7) ∧
 ∃ v8, cAt h3 (adr a5 (t2.2.toNat * 5)) 2 (.string v8) ∧
 ∃ v9, cAt h3 (adr a5 (t2.2.toNat * 5)) 3 (.bool v9) ∧
 ∃ v10, cAt h3 (adr a5 (t2.2.toNat * 5)) 4 (.bool v10) ∧
 At (hnew h3 [.string (⟨#[]⟩ : ByteArray), .string (⟨#[]⟩ : ByteArray), .string (⟨#[]⟩ : ByteArray), .bool false, .bool false] t_diff_Change) (fun h11 =>
 (WrS h11 (some (newA h3)) 0 [.string v6, .string v7, .string v8, .bool v9, .bool v10] ∧
 At (hsetL h11 (newA h3) 0 [.string v6, .string v7, .string v8, .bool v9, .bool v10]) (fun h12 =>
 ∃ v13, cAt h12 (newA h3) 0 (.string v13) ∧
 ∃ v14, cAt h12 (newA h3) 2 (.string v14) ∧
 ∃ v15, cAt h12 (newA h3) 1 (.string v15) ∧
 ∃ v16, cAt h12 (newA h3) 4 (.bool v16) ∧
 ∃ v17, cAt h12 (newA h3) 3 (.bool v17) ∧
 At (hnew h12 [.string v13, .string v14, .string v15, .bool v16, .bool v17] t_diff_Change) (fun h18 =>
 ∃ xs19, SRow h18 (some (newA h12)) (1 * 5) xs19 ∧
 AppP (some [.string (⟨#[]⟩ : ByteArray), .string (⟨#[]⟩ : ByteArray), .string (⟨#[]⟩ : ByteArray), .bool false, .bool false]) 5 56 t_diff_Change t2.1.a t2.1.len t2.1.cap 1 xs19 h18 (fun s20 h21 =>
 J4 s20 h21)))))))) (
 K t2.1 h3)) (⟨none, 0, 0⟩, 0) h0
noncomputable def A_diff_Invert : Ann := .node (.reg [0] (.nil)) (.node (.reg [0,3] (.nil)) (.node (.node (.reg [3,6,7,8] (.nil)) (.loop [6,7] [(3,.c .slice),(8,.c (.int .i64))] (.node (.reg [3,6,7,8,9] (.nil)) (.node (.nil) (.join [6,7,8] [(3,.c .slice)] (.node (.reg [3,5,6,7,8] (.nil)) (.reg [3,6,7,8] (.nil))) (.reg [3,6,7,8] (.nil))))))) (.node (.reg [2] (.nil)) (.nil))))
theorem H_diff_Invert (x0 : SliceV) {K : Tup [.c .slice] → Heap → Prop} {h0 : Heap} (h : F_diff_Invert x0 K h0) : HC PG f_diff_Invert [.slice x0.a x0.len x0.cap] [.c .slice] K h0 := HC.intro (an := A_diff_Invert) (c := Tryz.f14.body.getD .skip) Tryz.mixed Tryz.func14 rfl Tryz.call14 (Nat.le_of_ble_eq_true rfl) (cst (by kernel_rfl) h)
def F_build_Tree (x0 : Int) (x1 : Int × Int × Int) (x2 : SliceV) (K : ((T6) × Int) → Heap → Prop) (h0 : Heap) : Prop :=
 At (hnew h0 [.int .u64 x1.1, .int .u64 x1.2.1, .int .u64 x1.2.2] t_sip_Hasher) (fun h1 =>
 At (hnew h1 [.int .i64 0, .int .u64 0, .int .u64 0, .int .u64 0, .pointer none, .pointer none] t_tree_Tree) (fun h2 =>
 ∃ v3, cAt h2 (newA h0) 0 (.int .u64 v3) ∧
 ∃ v4, cAt h2 (newA h0) 1 (.int .u64 v4) ∧
 ∃ v5, cAt h2 (newA h0) 2 (.int .u64 v5) ∧
 HC PG f_tree_New [.int .i64 x0, .agg #[.int .u64 v3, .int .u64 v4, .int .u64 v5]] [.agg [.int .i64, .int .u64, .int .u64, .int .u64, .ptr, .ptr], .c (.int .i64)] (fun (e6 : (T6) × Int) h7 =>
 At (hnew h7 [.int .i64 0, .int .u64 0, .int .u64 0, .int .u64 0, .pointer none, .pointer none] t_tree_Tree) (fun h8 =>
 (WrS h8 (some (newA h7)) 0 [.int .i64 e6.1.1, .int .u64 e6.1.2.1, .int .u64 e6.1.2.2.1, .int .u64 e6.1.2.2.2.1, .pointer e6.1.2.2.2.2.1, .pointer e6.1.2.2.2.2.2] ∧
 At (hsetL h8 (newA h7) 0 [.int .i64 e6.1.1, .int .u64 e6.1.2.1, .int .u64 e6.1.2.2.1, .int .u64 e6.1.2.2.2.1, .pointer e6.1.2.2.2.2.1, .pointer e6.1.2.2.2.2.2]) (fun h9 =>
 CondP (e6.2 != (0 : Int)) (
 (WrS h9 (some (newA h1)) 0 [.int .i64 0, .int .u64 0, .int .u64 0, .int .u64 0, .pointer none, .pointer none] ∧
 At (hsetL h9 (newA h1) 0 [.int .i64 0, .int .u64 0, .int .u64 0, .int .u64 0, .pointer none, .pointer none]) (fun h10 =>
 ∃ v11, cAt h10 (newA h1) 0 (.int .i64 v11) ∧
 ∃ v12, cAt h10 (newA h1) 1 (.int .u64 v12) ∧
 ∃ v13, cAt h10 (newA h1) 2 (.int .u64 v13) ∧
 ∃ v14, cAt h10 (newA h1) 3 (.int .u64 v14) ∧
 ∃ v15, cAt h10 (newA h1) 4 (.pointer v15) ∧
 ∃ v16, cAt h10 (newA h1) 5 (.pointer v16) ∧
 K ((v11, v12, v13, v14, v15, v16), e6.2) h10))) (
 LoopP (fun I17 (t18 : Int) h19 =>
 CondP (decide (t18 < (x2.len : Int))) (
 (iBd t18 x2.len ∧ ∃ a20, x2.a = some a20 ∧
 ∃ v21, cAt h19 (adr a20 (t18.toNat * 2)) 0 (.string v21) ∧
 ∃ v22, cAt h19 (adr a20 (t18.toNat * 2)) 1 (.string v22) ∧
 At (hnew h19 [.string (⟨#[]⟩ : ByteArray), .string (⟨#[]⟩ : ByteArray)] t_pair_Pair) (fun h23 =>
 (WrS h23 (some (newA h19)) 0 [.string v21, .string v22] ∧
 At (hsetL h23 (newA h19) 0 [.string v21, .string v22]) (fun h24 =>
 ∃ v25, cAt h24 (newA h19) 0 (.string v25) ∧
 ∃ v26, cAt h24 (newA h19) 1 (.string v26) ∧
 HC PG f_pair_Right [.string v25, .string v26] [.c (.int .i64)] (fun (e27 : Int) h28 =>
 CondP (e27 != (0 : Int)) (
 (WrS h28 (some (newA h1)) 0 [.int .i64 0, .int .u64 0, .int .u64 0, .int .u64 0, .pointer none, .pointer none] ∧
 At (hsetL h28 (newA h1) 0 [.int .i64 0, .int .u64 0, .int .u64 0, .int .u64 0, .pointer none, .pointer none]) (fun h29 =>
 ∃ v30, cAt h29 (newA h1) 0 (.int .i64 v30) ∧
 ∃ v31, cAt h29 (newA h1) 1 (.int .u64 v31) ∧
 ∃ v32, cAt h29 (newA h1) 2 (.int .u64 v32) ∧
 ∃ v33, cAt h29 (newA h1) 3 (.int .u64 v33) ∧
 ∃ v34, cAt h29 (newA h1) 4 (.pointer v34) ∧
 ∃ v35, cAt h29 (newA h1) 5 (.pointer v35) ∧
 K ((v30, v31, v32, v33, v34, v35), e27) h29))) (
 I17 (IntKind.wrap .i64 (t18 + 1)) h28)) h24))))) (
 CondP (x0 == (1 : Int)) (
 HC PG f_build_Radix [.slice x2.a x2.len x2.cap] [.c .ptr] (fun (e36 : Option Addr) h37 =>
 HC PG f_tree_OfRadix [.pointer e36] [.agg [.int .i64, .int .u64, .int .u64, .int .u64, .ptr, .ptr]] (fun (e38 : T6) h39 =>
 (WrS h39 (some (newA h1)) 0 [.int .i64 e38.1, .int .u64 e38.2.1, .int .u64 e38.2.2.1, .int .u64 e38.2.2.2.1, .pointer e38.2.2.2.2.1, .pointer e38.2.2.2.2.2] ∧
 At (hsetL h39 (newA h1) 0 [.int .i64 e38.1, .int .u64 e38.2.1, .int .u64 e38.2.2.1, .int .u64 e38.2.2.2.1, .pointer e38.2.2.2.2.1, .pointer e38.2.2.2.2.2]) (fun h40 =>
 ∃ v41, cAt h40 (newA h1) 0 (.int .i64 v41) ∧
 ∃ v42, cAt h40 (newA h1) 1 (.int .u64 v42) ∧
 ∃ v43, cAt h40 (newA h1) 2 (.int .u64 v43) ∧
 ∃ v44, cAt h40 (newA h1) 3 (.int .u64 v44) ∧
 ∃ v45, cAt h40 (newA h1) 4 (.pointer v45) ∧
 ∃ v46, cAt h40 (newA h1) 5 (.pointer v46) ∧
 K ((v41, v42, v43, v44, v45, v46), 0) h40))) h37) h19) (
 ∃ v47, cAt h19 (newA h0) 0 (.int .u64 v47) ∧
 ∃ v48, cAt h19 (newA h0) 1 (.int .u64 v48) ∧
 ∃ v49, cAt h19 (newA h0) 2 (.int .u64 v49) ∧
 ∃ v50, cAt h19 (newA h0) 0 (.int .u64 v50) ∧
 ∃ v51, cAt h19 (newA h0) 1 (.int .u64 v51) ∧
 ∃ v52, cAt h19 (newA h0) 2 (.int .u64 v52) ∧
 HC PG f_build_Champ [.agg #[.int .u64 v50, .int .u64 v51, .int .u64 v52], .slice x2.a x2.len x2.cap] [.c .ptr] (fun (e53 : Option Addr) h54 =>
 ((cAt h54 (newA h0) 0 (.int .u64 v47) ∧ cAt h54 (newA h0) 1 (.int .u64 v48) ∧ cAt h54 (newA h0) 2 (.int .u64 v49)) ∧
 HC PG f_tree_OfChamp [.agg #[.int .u64 v47, .int .u64 v48, .int .u64 v49], .pointer e53] [.agg [.int .i64, .int .u64, .int .u64, .int .u64, .ptr, .ptr]] (fun (e55 : T6) h56 =>
 (WrS h56 (some (newA h1)) 0 [.int .i64 e55.1, .int .u64 e55.2.1, .int .u64 e55.2.2.1, .int .u64 e55.2.2.2.1, .pointer e55.2.2.2.2.1, .pointer e55.2.2.2.2.2] ∧
 At (hsetL h56 (newA h1) 0 [.int .i64 e55.1, .int .u64 e55.2.1, .int .u64 e55.2.2.1, .int .u64 e55.2.2.2.1, .pointer e55.2.2.2.2.1, .pointer e55.2.2.2.2.2]) (fun h57 =>
 ∃ v58, cAt h57 (newA h1) 0 (.int .i64 v58) ∧
 ∃ v59, cAt h57 (newA h1) 1 (.int .u64 v59) ∧
 ∃ v60, cAt h57 (newA h1) 2 (.int .u64 v60) ∧
 ∃ v61, cAt h57 (newA h1) 3 (.int .u64 v61) ∧
 ∃ v62, cAt h57 (newA h1) 4 (.pointer v62) ∧
 ∃ v63, cAt h57 (newA h1) 5 (.pointer v63) ∧
 K ((v58, v59, v60, v61, v62, v63), 0) h57))) h54)) h19))) 0 h9))))) h2))
noncomputable def A_build_Tree : Ann := .node (.reg [0,2,4,6] (.nil)) (.node (.node (.reg [0,2,4,6,9] (.nil)) (.node (.reg [0,2,4,6,9,20] (.nil)) (.node (.node (.reg [6,7] (.nil)) (.nil)) (.nil)))) (.node (.node (.reg [0,2,4,6,23,24,25] (.nil)) (.loop [0,2,4,6,23,24] [(25,.c (.int .i64))] (.node (.reg [0,2,4,6,23,24,25,26] (.nil)) (.node (.nil) (.node (.node (.reg [0,2,4,6,11,23,24,25] (.nil)) (.node (.reg [0,2,4,6,12,23,24,25] (.nil)) (.node (.reg [0,2,4,6,12,23,24,25,35] (.nil)) (.node (.node (.reg [6,7] (.nil)) (.nil)) (.nil))))) (.reg [0,2,4,6,23,24,25] (.nil))))))) (.node (.node (.reg [2,4,6,40] (.nil)) (.node (.node (.reg [6,7] (.nil)) (.nil)) (.nil))) (.node (.reg [6,7] (.draw (dl 7 [dm [] [4] 45,dm [] [4] 46,dm [] [2] 47,dm [1,2] [45,46] 48,dm [0,3] [44,47] 49,dn [0,1,2,3,4] [4] [6,48] 0,dn [0,1,2,3,4,5] [] [] 8]) (tr 0 3 (.all (.last 3 (.all (.last 4 (.all (.last 5 (.take 6 (.done))))))))))) (.nil)))))
theorem H_build_Tree (x0 : Int) (x1 : Int × Int × Int) (x2 : SliceV) {K : Tup [.agg [.int .i64, .int .u64, .int .u64, .int .u64, .ptr, .ptr], .c (.int .i64)] → Heap → Prop} {h0 : Heap} (h : F_build_Tree x0 x1 x2 K h0) : HC PG f_build_Tree [.int .i64 x0, .agg #[.int .u64 x1.1, .int .u64 x1.2.1, .int .u64 x1.2.2], .slice x2.a x2.len x2.cap] [.agg [.int .i64, .int .u64, .int .u64, .int .u64, .ptr, .ptr], .c (.int .i64)] K h0 := HC.intro (an := A_build_Tree) (c := Tryz.f20.body.getD .skip) Tryz.mixed Tryz.func20 rfl Tryz.call20 (Nat.le_of_ble_eq_true rfl) (cst (by kernel_rfl) h)
def F_tree_New (x0 : Int) (x1 : Int × Int × Int) (K : ((T6) × Int) → Heap → Prop) (h0 : Heap) : Prop :=
 At (hnew h0 [.int .u64 x1.1, .int .u64 x1.2.1, .int .u64 x1.2.2] t_sip_Hasher) (fun h1 =>
 At (hnew h1 [.int .i64 0, .int .u64 0, .int .u64 0, .int .u64 0, .pointer none, .pointer none] t_tree_Tree) (fun h2 =>
 CondP (x0 == (0 : Int)) (
 ∃ v3, cAt h2 (newA h0) 0 (.int .u64 v3) ∧
 ∃ v4, cAt h2 (newA h0) 1 (.int .u64 v4) ∧
 ∃ v5, cAt h2 (newA h0) 2 (.int .u64 v5) ∧
 HC PG f_tree_OfChamp [.agg #[.int .u64 v3, .int .u64 v4, .int .u64 v5], .pointer none] [.agg [.int .i64, .int .u64, .int .u64, .int .u64, .ptr, .ptr]] (fun (e6 : T6) h7 =>
 (WrS h7 (some (newA h1)) 0 [.int .i64 e6.1, .int .u64 e6.2.1, .int .u64 e6.2.2.1, .int .u64 e6.2.2.2.1, .pointer e6.2.2.2.2.1, .pointer e6.2.2.2.2.2] ∧
 At (hsetL h7 (newA h1) 0 [.int .i64 e6.1, .int .u64 e6.2.1, .int .u64 e6.2.2.1, .int .u64 e6.2.2.2.1, .pointer e6.2.2.2.2.1, .pointer e6.2.2.2.2.2]) (fun h8 =>
 ∃ v9, cAt h8 (newA h1) 0 (.int .i64 v9) ∧
 ∃ v10, cAt h8 (newA h1) 1 (.int .u64 v10) ∧
 ∃ v11, cAt h8 (newA h1) 2 (.int .u64 v11) ∧
 ∃ v12, cAt h8 (newA h1) 3 (.int .u64 v12) ∧
 ∃ v13, cAt h8 (newA h1) 4 (.pointer v13) ∧
 ∃ v14, cAt h8 (newA h1) 5 (.pointer v14) ∧
 K ((v9, v10, v11, v12, v13, v14), 0) h8))) h2) (
 CondP (x0 == (1 : Int)) (
 HC PG f_tree_OfRadix [.pointer none] [.agg [.int .i64, .int .u64, .int .u64, .int .u64, .ptr, .ptr]] (fun (e15 : T6) h16 =>
 (WrS h16 (some (newA h1)) 0 [.int .i64 e15.1, .int .u64 e15.2.1, .int .u64 e15.2.2.1, .int .u64 e15.2.2.2.1, .pointer e15.2.2.2.2.1, .pointer e15.2.2.2.2.2] ∧
 At (hsetL h16 (newA h1) 0 [.int .i64 e15.1, .int .u64 e15.2.1, .int .u64 e15.2.2.1, .int .u64 e15.2.2.2.1, .pointer e15.2.2.2.2.1, .pointer e15.2.2.2.2.2]) (fun h17 =>
 ∃ v18, cAt h17 (newA h1) 0 (.int .i64 v18) ∧
 ∃ v19, cAt h17 (newA h1) 1 (.int .u64 v19) ∧
 ∃ v20, cAt h17 (newA h1) 2 (.int .u64 v20) ∧
 ∃ v21, cAt h17 (newA h1) 3 (.int .u64 v21) ∧
 ∃ v22, cAt h17 (newA h1) 4 (.pointer v22) ∧
 ∃ v23, cAt h17 (newA h1) 5 (.pointer v23) ∧
 K ((v18, v19, v20, v21, v22, v23), 0) h17))) h2) (
 (WrS h2 (some (newA h1)) 0 [.int .i64 0, .int .u64 0, .int .u64 0, .int .u64 0, .pointer none, .pointer none] ∧
 At (hsetL h2 (newA h1) 0 [.int .i64 0, .int .u64 0, .int .u64 0, .int .u64 0, .pointer none, .pointer none]) (fun h24 =>
 ∃ v25, cAt h24 (newA h1) 0 (.int .i64 v25) ∧
 ∃ v26, cAt h24 (newA h1) 1 (.int .u64 v26) ∧
 ∃ v27, cAt h24 (newA h1) 2 (.int .u64 v27) ∧
 ∃ v28, cAt h24 (newA h1) 3 (.int .u64 v28) ∧
 ∃ v29, cAt h24 (newA h1) 4 (.pointer v29) ∧
 ∃ v30, cAt h24 (newA h1) 5 (.pointer v30) ∧
 K ((v25, v26, v27, v28, v29, v30), 11) h24))))))
noncomputable def A_tree_New : Ann := .node (.reg [0,3,4] (.nil)) (.node (.node (.reg [3,4,6] (.nil)) (.node (.reg [3,4,6,7] (.nil)) (.node (.node (.reg [4,5] (.nil)) (.nil)) (.node (.reg [4,11] (.nil)) (.node (.node (.reg [4,5] (.nil)) (.nil)) (.nil)))))) (.node (.reg [4,5] (.nil)) (.nil)))
theorem H_tree_New (x0 : Int) (x1 : Int × Int × Int) {K : Tup [.agg [.int .i64, .int .u64, .int .u64, .int .u64, .ptr, .ptr], .c (.int .i64)] → Heap → Prop} {h0 : Heap} (h : F_tree_New x0 x1 K h0) : HC PG f_tree_New [.int .i64 x0, .agg #[.int .u64 x1.1, .int .u64 x1.2.1, .int .u64 x1.2.2]] [.agg [.int .i64, .int .u64, .int .u64, .int .u64, .ptr, .ptr], .c (.int .i64)] K h0 := HC.intro (an := A_tree_New) (c := Tryz.f21.body.getD .skip) Tryz.mixed Tryz.func21 rfl Tryz.call21 (Nat.le_of_ble_eq_true rfl) (cst (by kernel_rfl) h)
def F_r14_New (x0 : Int) (x1 : Int × Int × Int) (K : ((Int × Int × Int × Int × SliceV) × Int) → Heap → Prop) (h0 : Heap) : Prop :=
 At (hnew h0 [.int .u64 x1.1, .int .u64 x1.2.1, .int .u64 x1.2.2] t_r06_Hasher) (fun h1 =>
 At (hnew h1 [.int .i64 0, .int .u64 0, .int .u64 0, .int .u64 0, .slice none 0 0] t_r14_Tree) (fun h2 =>
 CondP (x0 == (0 : Int)) (
 ∃ v3, cAt h2 (newA h0) 0 (.int .u64 v3) ∧
 ∃ v4, cAt h2 (newA h0) 1 (.int .u64 v4) ∧
 ∃ v5, cAt h2 (newA h0) 2 (.int .u64 v5) ∧
 (WrS h2 (some (newA h1)) 0 [.int .i64 0, .int .u64 v3, .int .u64 v4, .int .u64 v5, .slice none 0 0] ∧
 At (hsetL h2 (newA h1) 0 [.int .i64 0, .int .u64 v3, .int .u64 v4, .int .u64 v5, .slice none 0 0]) (fun h6 =>
 ∃ v7, cAt h6 (newA h1) 0 (.int .i64 v7) ∧
 ∃ v8, cAt h6 (newA h1) 1 (.int .u64 v8) ∧
 ∃ v9, cAt h6 (newA h1) 2 (.int .u64 v9) ∧
 ∃ v10, cAt h6 (newA h1) 3 (.int .u64 v10) ∧
 ∃ v11 : SliceV, cAt h6 (newA h1) 4 (.slice v11.a v11.len v11.cap) ∧
 K ((v7, v8, v9, v10, v11), 0) h6))) (
 CondP (x0 == (1 : Int)) (
 (WrS h2 (some (newA h1)) 0 [.int .i64 1, .int .u64 0, .int .u64 0, .int .u64 0, .slice none 0 0] ∧
 At (hsetL h2 (newA h1) 0 [.int .i64 1, .int .u64 0, .int .u64 0, .int .u64 0, .slice none 0 0]) (fun h12 =>
 ∃ v13, cAt h12 (newA h1) 0 (.int .i64 v13) ∧
 ∃ v14, cAt h12 (newA h1) 1 (.int .u64 v14) ∧
 ∃ v15, cAt h12 (newA h1) 2 (.int .u64 v15) ∧
 ∃ v16, cAt h12 (newA h1) 3 (.int .u64 v16) ∧
 ∃ v17 : SliceV, cAt h12 (newA h1) 4 (.slice v17.a v17.len v17.cap) ∧
 K ((v13, v14, v15, v16, v17), 0) h12))) (
 (WrS h2 (some (newA h1)) 0 [.int .i64 0, .int .u64 0, .int .u64 0, .int .u64 0, .slice none 0 0] ∧
 At (hsetL h2 (newA h1) 0 [.int .i64 0, .int .u64 0, .int .u64 0, .int .u64 0, .slice none 0 0]) (fun h18 =>
 ∃ v19, cAt h18 (newA h1) 0 (.int .i64 v19) ∧
 ∃ v20, cAt h18 (newA h1) 1 (.int .u64 v20) ∧
 ∃ v21, cAt h18 (newA h1) 2 (.int .u64 v21) ∧
 ∃ v22, cAt h18 (newA h1) 3 (.int .u64 v22) ∧
 ∃ v23 : SliceV, cAt h18 (newA h1) 4 (.slice v23.a v23.len v23.cap) ∧
 K ((v19, v20, v21, v22, v23), 11) h18))))))
noncomputable def A_r14_New : Ann := .node (.reg [0,3,4] (.nil)) (.node (.node (.reg [0,3,4,7] (.nil)) (.node (.node (.reg [4,5] (.nil)) (.nil)) (.nil))) (.node (.node (.reg [4,11] (.nil)) (.node (.node (.reg [4,5] (.nil)) (.nil)) (.nil))) (.node (.reg [4,5] (.nil)) (.nil))))
theorem H_r14_New (x0 : Int) (x1 : Int × Int × Int) {K : Tup [.agg [.int .i64, .int .u64, .int .u64, .int .u64, .slice], .c (.int .i64)] → Heap → Prop} {h0 : Heap} (h : F_r14_New x0 x1 K h0) : HC PG f_r14_New [.int .i64 x0, .agg #[.int .u64 x1.1, .int .u64 x1.2.1, .int .u64 x1.2.2]] [.agg [.int .i64, .int .u64, .int .u64, .int .u64, .slice], .c (.int .i64)] K h0 := HC.intro (an := A_r14_New) (c := Tryz.f22.body.getD .skip) Tryz.mixed Tryz.func22 rfl Tryz.call22 (Nat.le_of_ble_eq_true rfl) (cst (by kernel_rfl) h)
def F_l17_own (x0 : Int × Int × Int) (K : (Int × Int × Int) → Heap → Prop) (h0 : Heap) : Prop :=
 At (hnew h0 [.int .u64 x0.1, .int .u64 x0.2.1, .int .u64 x0.2.2] t_sip_Hasher) (fun h1 =>
 At (hnew h1 [.int .u64 0, .int .u64 0, .int .u64 0] t_r06_Hasher) (fun h2 =>
 ∃ v3, cAt h2 (adr (newA h0) 0) 0 (.int .u64 v3) ∧
 ∃ v4, cAt h2 (adr (newA h0) 0) 1 (.int .u64 v4) ∧
 ∃ v5, cAt h2 (newA h0) 2 (.int .u64 v5) ∧
 (WrS h2 (some (newA h1)) 0 [.int .u64 v3, .int .u64 v4, .int .u64 v5] ∧
 At (hsetL h2 (newA h1) 0 [.int .u64 v3, .int .u64 v4, .int .u64 v5]) (fun h6 =>
 ∃ v7, cAt h6 (newA h1) 0 (.int .u64 v7) ∧
 ∃ v8, cAt h6 (newA h1) 1 (.int .u64 v8) ∧
 ∃ v9, cAt h6 (newA h1) 2 (.int .u64 v9) ∧
 K (v7, v8, v9) h6))))
noncomputable def A_l17_own : Ann := .node (.reg [1,2] (.nil)) (.node (.reg [2] (.nil)) (.nil))
theorem H_l17_own (x0 : Int × Int × Int) {K : Tup [.agg [.int .u64, .int .u64, .int .u64]] → Heap → Prop} {h0 : Heap} (h : F_l17_own x0 K h0) : HC PG f_l17_own [.agg #[.int .u64 x0.1, .int .u64 x0.2.1, .int .u64 x0.2.2]] [.agg [.int .u64, .int .u64, .int .u64]] K h0 := HC.intro (an := A_l17_own) (c := Tryz.f23.body.getD .skip) Tryz.mixed Tryz.func23 rfl Tryz.call23 (Nat.le_of_ble_eq_true rfl) (cst (by kernel_rfl) h)
def F_tree_Tree_With (x0 : T6) (x1 : Option Addr) (x2 : ByteArray × ByteArray) (K : ((T6) × Int) → Heap → Prop) (h0 : Heap) : Prop :=
 At (hnew h0 [.int .i64 x0.1, .int .u64 x0.2.1, .int .u64 x0.2.2.1, .int .u64 x0.2.2.2.1, .pointer x0.2.2.2.2.1, .pointer x0.2.2.2.2.2] t_tree_Tree) (fun h1 =>
 At (hnew h1 [.string x2.1, .string x2.2] t_pair_Pair) (fun h2 =>
 At (hnew h2 [.int .i64 0, .int .u64 0, .int .u64 0, .int .u64 0, .pointer none, .pointer none] t_tree_Tree) (fun h3 =>
 ∃ v4, cAt h3 (newA h1) 0 (.string v4) ∧
 ∃ v5, cAt h3 (newA h1) 1 (.string v5) ∧
 HC PG f_pair_Right [.string v4, .string v5] [.c (.int .i64)] (fun (e6 : Int) h7 =>
 CondP (e6 != (0 : Int)) (
 ∃ v8, cAt h7 (newA h0) 0 (.int .i64 v8) ∧
 ∃ v9, cAt h7 (newA h0) 1 (.int .u64 v9) ∧
 ∃ v10, cAt h7 (newA h0) 2 (.int .u64 v10) ∧
 ∃ v11, cAt h7 (newA h0) 3 (.int .u64 v11) ∧
 ∃ v12, cAt h7 (newA h0) 4 (.pointer v12) ∧
 ∃ v13, cAt h7 (newA h0) 5 (.pointer v13) ∧
 (WrS h7 (some (newA h2)) 0 [.int .i64 v8, .int .u64 v9, .int .u64 v10, .int .u64 v11, .pointer v12, .pointer v13] ∧
 At (hsetL h7 (newA h2) 0 [.int .i64 v8, .int .u64 v9, .int .u64 v10, .int .u64 v11, .pointer v12, .pointer v13]) (fun h14 =>
 ∃ v15, cAt h14 (newA h2) 0 (.int .i64 v15) ∧
 ∃ v16, cAt h14 (newA h2) 1 (.int .u64 v16) ∧
 ∃ v17, cAt h14 (newA h2) 2 (.int .u64 v17) ∧
 ∃ v18, cAt h14 (newA h2) 3 (.int .u64 v18) ∧
 ∃ v19, cAt h14 (newA h2) 4 (.pointer v19) ∧
 ∃ v20, cAt h14 (newA h2) 5 (.pointer v20) ∧
 K ((v15, v16, v17, v18, v19, v20), e6) h14))) (
 ∃ v21, cAt h7 (newA h0) 0 (.int .i64 v21) ∧
 CondP (v21 == (1 : Int)) (
 ∃ v22, cAt h7 (newA h0) 5 (.pointer v22) ∧
 ∃ v23, cAt h7 (newA h1) 0 (.string v23) ∧
 ∃ v24, cAt h7 (newA h1) 1 (.string v24) ∧
 HC PG f_radix_Put [.pointer x1, .pointer v22, .agg #[.string v23, .string v24]] [.c .ptr, .c .bool] (fun (e25 : (Option Addr) × Bool) h26 =>
 (Wr h26 (adr (newA h0) 5) ∧
 At (hset h26 (adr (newA h0) 5) (.pointer e25.1)) (fun h27 =>
 ∃ v28, cAt h27 (newA h0) 0 (.int .i64 v28) ∧
 ∃ v29, cAt h27 (newA h0) 1 (.int .u64 v29) ∧
 ∃ v30, cAt h27 (newA h0) 2 (.int .u64 v30) ∧
 ∃ v31, cAt h27 (newA h0) 3 (.int .u64 v31) ∧
 ∃ v32, cAt h27 (newA h0) 4 (.pointer v32) ∧
 ∃ v33, cAt h27 (newA h0) 5 (.pointer v33) ∧
 (WrS h27 (some (newA h2)) 0 [.int .i64 v28, .int .u64 v29, .int .u64 v30, .int .u64 v31, .pointer v32, .pointer v33] ∧
 At (hsetL h27 (newA h2) 0 [.int .i64 v28, .int .u64 v29, .int .u64 v30, .int .u64 v31, .pointer v32, .pointer v33]) (fun h34 =>
 ∃ v35, cAt h34 (newA h2) 0 (.int .i64 v35) ∧
 ∃ v36, cAt h34 (newA h2) 1 (.int .u64 v36) ∧
 ∃ v37, cAt h34 (newA h2) 2 (.int .u64 v37) ∧
 ∃ v38, cAt h34 (newA h2) 3 (.int .u64 v38) ∧
 ∃ v39, cAt h34 (newA h2) 4 (.pointer v39) ∧
 ∃ v40, cAt h34 (newA h2) 5 (.pointer v40) ∧
 K ((v35, v36, v37, v38, v39, v40), 0) h34))))) h7) (
 ∃ v41, cAt h7 (adr (newA h0) 1) 0 (.int .u64 v41) ∧
 ∃ v42, cAt h7 (adr (newA h0) 1) 1 (.int .u64 v42) ∧
 ∃ v43, cAt h7 (adr (newA h0) 1) 2 (.int .u64 v43) ∧
 ∃ v44, cAt h7 (newA h0) 4 (.pointer v44) ∧
 ∃ v45, cAt h7 (newA h1) 0 (.string v45) ∧
 ∃ v46, cAt h7 (newA h1) 1 (.string v46) ∧
 HC PG f_champ_Put [.agg #[.int .u64 v41, .int .u64 v42, .int .u64 v43], .pointer x1, .pointer v44, .agg #[.string v45, .string v46]] [.c .ptr, .c .bool] (fun (e47 : (Option Addr) × Bool) h48 =>
 (Wr h48 (adr (newA h0) 4) ∧
 At (hset h48 (adr (newA h0) 4) (.pointer e47.1)) (fun h49 =>
 ∃ v50, cAt h49 (newA h0) 0 (.int .i64 v50) ∧
 ∃ v51, cAt h49 (newA h0) 1 (.int .u64 v51) ∧
 ∃ v52, cAt h49 (newA h0) 2 (.int .u64 v52) ∧
 ∃ v53, cAt h49 (newA h0) 3 (.int .u64 v53) ∧
 ∃ v54, cAt h49 (newA h0) 4 (.pointer v54) ∧
 ∃ v55, cAt h49 (newA h0) 5 (.pointer v55) ∧
 (WrS h49 (some (newA h2)) 0 [.int .i64 v50, .int .u64 v51, .int .u64 v52, .int .u64 v53, .pointer v54, .pointer v55] ∧
 At (hsetL h49 (newA h2) 0 [.int .i64 v50, .int .u64 v51, .int .u64 v52, .int .u64 v53, .pointer v54, .pointer v55]) (fun h56 =>
 ∃ v57, cAt h56 (newA h2) 0 (.int .i64 v57) ∧
 ∃ v58, cAt h56 (newA h2) 1 (.int .u64 v58) ∧
 ∃ v59, cAt h56 (newA h2) 2 (.int .u64 v59) ∧
 ∃ v60, cAt h56 (newA h2) 3 (.int .u64 v60) ∧
 ∃ v61, cAt h56 (newA h2) 4 (.pointer v61) ∧
 ∃ v62, cAt h56 (newA h2) 5 (.pointer v62) ∧
 K ((v57, v58, v59, v60, v61, v62), 0) h56))))) h7))) h3)))
noncomputable def A_tree_Tree_With : Ann := .node (.reg [1,3,5,6] (.nil)) (.node (.node (.reg [1,3,5,6,8] (.nil)) (.node (.reg [1,3,5,6,8,15] (.nil)) (.node (.node (.reg [6,7] (.nil)) (.nil)) (.nil)))) (.node (.node (.reg [1,3,5,6,20] (.nil)) (.node (.node (.reg [3,6] (.nil)) (.node (.reg [6,7] (.nil)) (.nil))) (.nil))) (.node (.reg [3,6] (.nil)) (.node (.reg [6,7] (.nil)) (.nil)))))
theorem H_tree_Tree_With (x0 : T6) (x1 : Option Addr) (x2 : ByteArray × ByteArray) {K : Tup [.agg [.int .i64, .int .u64, .int .u64, .int .u64, .ptr, .ptr], .c (.int .i64)] → Heap → Prop} {h0 : Heap} (h : F_tree_Tree_With x0 x1 x2 K h0) : HC PG f_tree_Tree_With [.agg #[.int .i64 x0.1, .int .u64 x0.2.1, .int .u64 x0.2.2.1, .int .u64 x0.2.2.2.1, .pointer x0.2.2.2.2.1, .pointer x0.2.2.2.2.2], .pointer x1, .agg #[.string x2.1, .string x2.2]] [.agg [.int .i64, .int .u64, .int .u64, .int .u64, .ptr, .ptr], .c (.int .i64)] K h0 := HC.intro (an := A_tree_Tree_With) (c := Tryz.f24.body.getD .skip) Tryz.mixed Tryz.func24 rfl Tryz.call24 (Nat.le_of_ble_eq_true rfl) (cst (by kernel_rfl) h)
def F_r14_With (x0 : Int × Int × Int × Int × SliceV) (x1 : ByteArray × ByteArray) (K : ((Int × Int × Int × Int × SliceV) × Int) → Heap → Prop) (h0 : Heap) : Prop :=
 At (hnew h0 [.int .i64 x0.1, .int .u64 x0.2.1, .int .u64 x0.2.2.1, .int .u64 x0.2.2.2.1, .slice x0.2.2.2.2.a x0.2.2.2.2.len x0.2.2.2.2.cap] t_r14_Tree) (fun h1 =>
 At (hnew h1 [.string x1.1, .string x1.2] t_r03_Pair) (fun h2 =>
 At (hnew h2 [.int .i64 0, .int .u64 0, .int .u64 0, .int .u64 0, .slice none 0 0] t_r14_Tree) (fun h3 =>
 ∃ v4, cAt h3 (newA h1) 0 (.string v4) ∧
 ∃ v5, cAt h3 (newA h1) 1 (.string v5) ∧
 HC PG f_r03_Right [.string v4, .string v5] [.c (.int .i64)] (fun (e6 : Int) h7 =>
 CondP (e6 != (0 : Int)) (
 ∃ v8, cAt h7 (newA h0) 0 (.int .i64 v8) ∧
 ∃ v9, cAt h7 (newA h0) 1 (.int .u64 v9) ∧
 ∃ v10, cAt h7 (newA h0) 2 (.int .u64 v10) ∧
 ∃ v11, cAt h7 (newA h0) 3 (.int .u64 v11) ∧
 ∃ v12 : SliceV, cAt h7 (newA h0) 4 (.slice v12.a v12.len v12.cap) ∧
 (WrS h7 (some (newA h2)) 0 [.int .i64 v8, .int .u64 v9, .int .u64 v10, .int .u64 v11, .slice v12.a v12.len v12.cap] ∧
 At (hsetL h7 (newA h2) 0 [.int .i64 v8, .int .u64 v9, .int .u64 v10, .int .u64 v11, .slice v12.a v12.len v12.cap]) (fun h13 =>
 ∃ v14, cAt h13 (newA h2) 0 (.int .i64 v14) ∧
 ∃ v15, cAt h13 (newA h2) 1 (.int .u64 v15) ∧
 ∃ v16, cAt h13 (newA h2) 2 (.int .u64 v16) ∧
 ∃ v17, cAt h13 (newA h2) 3 (.int .u64 v17) ∧
 ∃ v18 : SliceV, cAt h13 (newA h2) 4 (.slice v18.a v18.len v18.cap) ∧
 K ((v14, v15, v16, v17, v18), e6) h13))) (
 ∃ v19 : SliceV, cAt h7 (newA h0) 4 (.slice v19.a v19.len v19.cap) ∧
 ∃ v20, cAt h7 (newA h1) 0 (.string v20) ∧
 ∃ v21, cAt h7 (newA h1) 1 (.string v21) ∧
 HC PG f_r03_Put [.slice v19.a v19.len v19.cap, .agg #[.string v20, .string v21]] [.c .slice] (fun (e22 : SliceV) h23 =>
 (Wr h23 (adr (newA h0) 4) ∧
 At (hset h23 (adr (newA h0) 4) (.slice e22.a e22.len e22.cap)) (fun h24 =>
 ∃ v25, cAt h24 (newA h0) 0 (.int .i64 v25) ∧
 ∃ v26, cAt h24 (newA h0) 1 (.int .u64 v26) ∧
 ∃ v27, cAt h24 (newA h0) 2 (.int .u64 v27) ∧
 ∃ v28, cAt h24 (newA h0) 3 (.int .u64 v28) ∧
 ∃ v29 : SliceV, cAt h24 (newA h0) 4 (.slice v29.a v29.len v29.cap) ∧
 (WrS h24 (some (newA h2)) 0 [.int .i64 v25, .int .u64 v26, .int .u64 v27, .int .u64 v28, .slice v29.a v29.len v29.cap] ∧
 At (hsetL h24 (newA h2) 0 [.int .i64 v25, .int .u64 v26, .int .u64 v27, .int .u64 v28, .slice v29.a v29.len v29.cap]) (fun h30 =>
 ∃ v31, cAt h30 (newA h2) 0 (.int .i64 v31) ∧
 ∃ v32, cAt h30 (newA h2) 1 (.int .u64 v32) ∧
 ∃ v33, cAt h30 (newA h2) 2 (.int .u64 v33) ∧
 ∃ v34, cAt h30 (newA h2) 3 (.int .u64 v34) ∧
 ∃ v35 : SliceV, cAt h30 (newA h2) 4 (.slice v35.a v35.len v35.cap) ∧
 K ((v31, v32, v33, v34, v35), 0) h30))))) h7)) h3)))
noncomputable def A_r14_With : Ann := .node (.reg [2,3,4] (.nil)) (.node (.node (.reg [2,3,4,6] (.nil)) (.node (.reg [2,3,4,6,13] (.nil)) (.node (.node (.reg [4,5] (.nil)) (.nil)) (.nil)))) (.node (.reg [2,4] (.nil)) (.node (.reg [4,5] (.nil)) (.nil))))
theorem H_r14_With (x0 : Int × Int × Int × Int × SliceV) (x1 : ByteArray × ByteArray) {K : Tup [.agg [.int .i64, .int .u64, .int .u64, .int .u64, .slice], .c (.int .i64)] → Heap → Prop} {h0 : Heap} (h : F_r14_With x0 x1 K h0) : HC PG f_r14_With [.agg #[.int .i64 x0.1, .int .u64 x0.2.1, .int .u64 x0.2.2.1, .int .u64 x0.2.2.2.1, .slice x0.2.2.2.2.a x0.2.2.2.2.len x0.2.2.2.2.cap], .agg #[.string x1.1, .string x1.2]] [.agg [.int .i64, .int .u64, .int .u64, .int .u64, .slice], .c (.int .i64)] K h0 := HC.intro (an := A_r14_With) (c := Tryz.f25.body.getD .skip) Tryz.mixed Tryz.func25 rfl Tryz.call25 (Nat.le_of_ble_eq_true rfl) (cst (by kernel_rfl) h)
def F_tree_Like (x0 : T6) (x1 : T6) (K : (Bool) → Heap → Prop) (h0 : Heap) : Prop :=
 At (hnew h0 [.int .i64 x0.1, .int .u64 x0.2.1, .int .u64 x0.2.2.1, .int .u64 x0.2.2.2.1, .pointer x0.2.2.2.2.1, .pointer x0.2.2.2.2.2] t_tree_Tree) (fun h1 =>
 At (hnew h1 [.int .i64 x1.1, .int .u64 x1.2.1, .int .u64 x1.2.2.1, .int .u64 x1.2.2.2.1, .pointer x1.2.2.2.2.1, .pointer x1.2.2.2.2.2] t_tree_Tree) (fun h2 =>
 ∃ v3, cAt h2 (newA h0) 0 (.int .i64 v3) ∧
 ∃ v4, cAt h2 (newA h1) 0 (.int .i64 v4) ∧
 CondP (v3 == v4) (
 ∃ v5, cAt h2 (adr (newA h0) 1) 0 (.int .u64 v5) ∧
 ∃ v6, cAt h2 (adr (newA h0) 1) 1 (.int .u64 v6) ∧
 ∃ v7, cAt h2 (adr (newA h0) 1) 2 (.int .u64 v7) ∧
 ∃ v8, cAt h2 (adr (newA h1) 1) 0 (.int .u64 v8) ∧
 ∃ v9, cAt h2 (adr (newA h1) 1) 1 (.int .u64 v9) ∧
 ∃ v10, cAt h2 (adr (newA h1) 1) 2 (.int .u64 v10) ∧
 K ((((v5 == v8) && ((v6 == v9) && true))) && ((v7 == v10) && true)) h2) (
 K false h2)))
noncomputable def A_tree_Like : Ann := .node (.reg [2,3] (.nil)) (.node (.reg [4] (.nil)) (.nil))
theorem H_tree_Like (x0 : T6) (x1 : T6) {K : Tup [.c .bool] → Heap → Prop} {h0 : Heap} (h : F_tree_Like x0 x1 K h0) : HC PG f_tree_Like [.agg #[.int .i64 x0.1, .int .u64 x0.2.1, .int .u64 x0.2.2.1, .int .u64 x0.2.2.2.1, .pointer x0.2.2.2.2.1, .pointer x0.2.2.2.2.2], .agg #[.int .i64 x1.1, .int .u64 x1.2.1, .int .u64 x1.2.2.1, .int .u64 x1.2.2.2.1, .pointer x1.2.2.2.2.1, .pointer x1.2.2.2.2.2]] [.c .bool] K h0 := HC.intro (an := A_tree_Like) (c := Tryz.f28.body.getD .skip) Tryz.mixed Tryz.func28 rfl Tryz.call28 (Nat.le_of_ble_eq_true rfl) (cst (by kernel_rfl) h)
def F_tree_Tree_Hasher (x0 : T6) (K : (Int × Int × Int) → Heap → Prop) (h0 : Heap) : Prop :=
 At (hnew h0 [.int .i64 x0.1, .int .u64 x0.2.1, .int .u64 x0.2.2.1, .int .u64 x0.2.2.2.1, .pointer x0.2.2.2.2.1, .pointer x0.2.2.2.2.2] t_tree_Tree) (fun h1 =>
 At (hnew h1 [.int .u64 0, .int .u64 0, .int .u64 0] t_sip_Hasher) (fun h2 =>
 ∃ v3, cAt h2 (adr (newA h0) 1) 0 (.int .u64 v3) ∧
 ∃ v4, cAt h2 (adr (newA h0) 1) 1 (.int .u64 v4) ∧
 ∃ v5, cAt h2 (adr (newA h0) 1) 2 (.int .u64 v5) ∧
 (WrS h2 (some (newA h1)) 0 [.int .u64 v3, .int .u64 v4, .int .u64 v5] ∧
 At (hsetL h2 (newA h1) 0 [.int .u64 v3, .int .u64 v4, .int .u64 v5]) (fun h6 =>
 ∃ v7, cAt h6 (newA h1) 0 (.int .u64 v7) ∧
 ∃ v8, cAt h6 (newA h1) 1 (.int .u64 v8) ∧
 ∃ v9, cAt h6 (newA h1) 2 (.int .u64 v9) ∧
 K (v7, v8, v9) h6))))
noncomputable def A_tree_Tree_Hasher : Ann := .node (.reg [1,2] (.nil)) (.node (.reg [2] (.nil)) (.nil))
theorem H_tree_Tree_Hasher (x0 : T6) {K : Tup [.agg [.int .u64, .int .u64, .int .u64]] → Heap → Prop} {h0 : Heap} (h : F_tree_Tree_Hasher x0 K h0) : HC PG f_tree_Tree_Hasher [.agg #[.int .i64 x0.1, .int .u64 x0.2.1, .int .u64 x0.2.2.1, .int .u64 x0.2.2.2.1, .pointer x0.2.2.2.2.1, .pointer x0.2.2.2.2.2]] [.agg [.int .u64, .int .u64, .int .u64]] K h0 := HC.intro (an := A_tree_Tree_Hasher) (c := Tryz.f29.body.getD .skip) Tryz.mixed Tryz.func29 rfl Tryz.call29 (Nat.le_of_ble_eq_true rfl) (cst (by kernel_rfl) h)
def F_tree_Tree_Kind (x0 : T6) (K : (Int) → Heap → Prop) (h0 : Heap) : Prop :=
 At (hnew h0 [.int .i64 x0.1, .int .u64 x0.2.1, .int .u64 x0.2.2.1, .int .u64 x0.2.2.2.1, .pointer x0.2.2.2.2.1, .pointer x0.2.2.2.2.2] t_tree_Tree) (fun h1 =>
 ∃ v2, cAt h1 (newA h0) 0 (.int .i64 v2) ∧
 K v2 h1)
noncomputable def A_tree_Tree_Kind : Ann := .node (.reg [1] (.nil)) (.node (.reg [2] (.nil)) (.nil))
theorem H_tree_Tree_Kind (x0 : T6) {K : Tup [.c (.int .i64)] → Heap → Prop} {h0 : Heap} (h : F_tree_Tree_Kind x0 K h0) : HC PG f_tree_Tree_Kind [.agg #[.int .i64 x0.1, .int .u64 x0.2.1, .int .u64 x0.2.2.1, .int .u64 x0.2.2.2.1, .pointer x0.2.2.2.2.1, .pointer x0.2.2.2.2.2]] [.c (.int .i64)] K h0 := HC.intro (an := A_tree_Tree_Kind) (c := Tryz.f30.body.getD .skip) Tryz.mixed Tryz.func30 rfl Tryz.call30 (Nat.le_of_ble_eq_true rfl) (cst (by kernel_rfl) h)
def F_diff_set_trees (x0 : Option Addr) (x1 : Option Addr) (x2 : Option Addr) (x3 : ByteArray) (K : (Unit) → Heap → Prop) (h0 : Heap) : Prop :=
 (True ∧ (∀ x y : Addr, x1 = some x → x2 = some y → plainPtr h0 x ∧ plainPtr h0 y) ∧
 CondP (x1 == x2) (
 K () h0) (
 Join (fun (t6 : Bool) h7 =>
 CondP t6 (
 HC PG f_diff_some [.pointer x1, .string x3] [.c .slice] (fun (e8 : SliceV) h9 =>
 HC PG f_diff_some [.pointer x2, .string x3] [.c .slice] (fun (e10 : SliceV) h11 =>
 HC PG f_diff_set_lists [.pointer x0, .slice e8.a e8.len e8.cap, .slice e10.a e10.len e10.cap] [] (fun (e12 : Unit) h13 =>
 K () h13) h11) h9) h7) (
 HC PG f_radix_Node_Label [.pointer x1] [.c .str] (fun (e14 : ByteArray) h15 =>
 (((x3.size + e14.size : Nat) : Int) ≤ 9223372036854775807 ∧
 HC PG f_diff_own [.pointer x1, .string (x3 ++ e14)] [.c .slice] (fun (e16 : SliceV) h17 =>
 HC PG f_diff_own [.pointer x2, .string (x3 ++ e14)] [.c .slice] (fun (e18 : SliceV) h19 =>
 HC PG f_diff_set_lists [.pointer x0, .slice e16.a e16.len e16.cap, .slice e18.a e18.len e18.cap] [] (fun (e20 : Unit) h21 =>
 HC PG f_radix_Node_Kids [.pointer x1] [.c .slice] (fun (e22 : SliceV) h23 =>
 HC PG f_radix_Node_Kids [.pointer x2] [.c .slice] (fun (e24 : SliceV) h25 =>
 LoopP (fun I26 (t27 : SliceV × SliceV) h28 =>
 Join (fun (t30 : Bool) h31 =>
 CondP t30 (
 Join (fun (t43 : Bool) h44 =>
 CondP t43 (
 (iBd 0 t27.1.len ∧ ∃ a45, t27.1.a = some a45 ∧
 ∃ v46, cAt h44 a45 ((0 : Int).toNat * 1) (.pointer v46) ∧
 HC PG f_diff_set_trees [.pointer x0, .pointer v46, .pointer none, .string (x3 ++ e14)] [] (fun (e47 : Unit) h48 =>
 (((0 : Int) ≤ (1 : Int) ∧ (1 : Int) ≤ ((t27.1.len : Nat) : Int)) ∧
 Bd (subAddr t27.1.a ((1 : Int).toNat) t27.1.cap 1 : Option Addr) (fun a49 => Bd (t27.1.len - ((1 : Int).toNat) : Nat) (fun n50 => Bd (t27.1.cap - ((1 : Int).toNat) : Nat) (fun n51 =>
 I26 (⟨a49, n50, n51⟩, t27.2) h48))))) h44)) (
 Join (fun (t63 : Bool) h64 =>
 CondP t63 (
 (iBd 0 t27.2.len ∧ ∃ a65, t27.2.a = some a65 ∧
 ∃ v66, cAt h64 a65 ((0 : Int).toNat * 1) (.pointer v66) ∧
 HC PG f_diff_set_trees [.pointer x0, .pointer none, .pointer v66, .string (x3 ++ e14)] [] (fun (e67 : Unit) h68 =>
 (((0 : Int) ≤ (1 : Int) ∧ (1 : Int) ≤ ((t27.2.len : Nat) : Int)) ∧
 Bd (subAddr t27.2.a ((1 : Int).toNat) t27.2.cap 1 : Option Addr) (fun a69 => Bd (t27.2.len - ((1 : Int).toNat) : Nat) (fun n70 => Bd (t27.2.cap - ((1 : Int).toNat) : Nat) (fun n71 =>
 I26 (t27.1, ⟨a69, n70, n71⟩) h68))))) h64)) (
 (iBd 0 t27.1.len ∧ ∃ a72, t27.1.a = some a72 ∧
 ∃ v73, cAt h64 a72 ((0 : Int).toNat * 1) (.pointer v73) ∧
 (iBd 0 t27.2.len ∧ ∃ a74, t27.2.a = some a74 ∧
 ∃ v75, cAt h64 a74 ((0 : Int).toNat * 1) (.pointer v75) ∧
 HC PG f_diff_set_trees [.pointer x0, .pointer v73, .pointer v75, .string (x3 ++ e14)] [] (fun (e76 : Unit) h77 =>
 (((0 : Int) ≤ (1 : Int) ∧ (1 : Int) ≤ ((t27.1.len : Nat) : Int)) ∧
 Bd (subAddr t27.1.a ((1 : Int).toNat) t27.1.cap 1 : Option Addr) (fun a78 => Bd (t27.1.len - ((1 : Int).toNat) : Nat) (fun n79 => Bd (t27.1.cap - ((1 : Int).toNat) : Nat) (fun n80 =>
 (((0 : Int) ≤ (1 : Int) ∧ (1 : Int) ≤ ((t27.2.len : Nat) : Int)) ∧
 Bd (subAddr t27.2.a ((1 : Int).toNat) t27.2.cap 1 : Option Addr) (fun a81 => Bd (t27.2.len - ((1 : Int).toNat) : Nat) (fun n82 => Bd (t27.2.cap - ((1 : Int).toNat) : Nat) (fun n83 =>
 I26 (⟨a78, n79, n80⟩, ⟨a81, n82, n83⟩) h77))))))))) h64)))) (fun J52 =>
 CondP ((t27.1.len : Int) == (0 : Int)) (
 J52 true h44) (
 (iBd 0 t27.2.len ∧ ∃ a53, t27.2.a = some a53 ∧
 ∃ v54, cAt h44 a53 ((0 : Int).toNat * 1) (.pointer v54) ∧
 (iBd 0 t27.1.len ∧ ∃ a55, t27.1.a = some a55 ∧
 ∃ v56, cAt h44 a55 ((0 : Int).toNat * 1) (.pointer v56) ∧
 HC PG f_radix_Node_Label [.pointer v54] [.c .str] (fun (e57 : ByteArray) h58 =>
 (cAt h58 a55 ((0 : Int).toNat * 1) (.pointer v56) ∧
 ∃ b59, (0 : Int) ≤ (0 : Int) ∧ e57[(0 : Int).toNat]? = some b59 ∧
 HC PG f_radix_Node_Label [.pointer v56] [.c .str] (fun (e60 : ByteArray) h61 =>
 ∃ b62, (0 : Int) ≤ (0 : Int) ∧ e60[(0 : Int).toNat]? = some b62 ∧
 J52 (decide ((b59.toNat : Int) < (b62.toNat : Int))) h61) h58)) h44)))))) (fun J32 =>
 CondP ((t27.2.len : Int) == (0 : Int)) (
 J32 true h31) (
 CondP (decide ((t27.1.len : Int) > (0 : Int))) (
 (iBd 0 t27.1.len ∧ ∃ a33, t27.1.a = some a33 ∧
 ∃ v34, cAt h31 a33 ((0 : Int).toNat * 1) (.pointer v34) ∧
 (iBd 0 t27.2.len ∧ ∃ a35, t27.2.a = some a35 ∧
 ∃ v36, cAt h31 a35 ((0 : Int).toNat * 1) (.pointer v36) ∧
 HC PG f_radix_Node_Label [.pointer v34] [.c .str] (fun (e37 : ByteArray) h38 =>
 (cAt h38 a35 ((0 : Int).toNat * 1) (.pointer v36) ∧
 ∃ b39, (0 : Int) ≤ (0 : Int) ∧ e37[(0 : Int).toNat]? = some b39 ∧
 HC PG f_radix_Node_Label [.pointer v36] [.c .str] (fun (e40 : ByteArray) h41 =>
 ∃ b42, (0 : Int) ≤ (0 : Int) ∧ e40[(0 : Int).toNat]? = some b42 ∧
 J32 (decide ((b39.toNat : Int) < (b42.toNat : Int))) h41) h38)) h31))) (
 J32 false h31)))) (
 K () h31)) (fun J29 =>
 CondP (decide ((t27.1.len : Int) > (0 : Int))) (
 J29 true h28) (
 J29 (decide ((t27.2.len : Int) > (0 : Int))) h28))) (e22, e24) h25) h23) h21) h19) h17) h15)) h7)) (fun J1 =>
 CondP x1.isNone (
 J1 true h0) (
 CondP x2.isNone (
 J1 true h0) (
 HC PG f_radix_Node_Label [.pointer x1] [.c .str] (fun (e2 : ByteArray) h3 =>
 HC PG f_radix_Node_Label [.pointer x2] [.c .str] (fun (e4 : ByteArray) h5 =>
 J1 (!(e2.toList == e4.toList)) h5) h3) h0)))))
noncomputable def A_diff_set_trees : Ann := .node (.node (.reg [0,1,2,3,11] (.nil)) (.node (.nil) (.join [0,1,2,3] [(15,.c .bool)] (.reg [0,1,2,3,15] (.nil)) (.node (.node (.reg [] (.nil)) (.nil)) (.nil))))) (.node (.reg [0,1,2,8] (.nil)) (.node (.reg [0,1,2,8] (.nil)) (.node (.reg [0,8,9,10] (.nil)) (.loop [0,8] [(9,.c .slice),(10,.c .slice)] (.node (.join [0,8,9,10] [(60,.c .bool)] (.reg [0,8,9,10,60] (.nil)) (.nil)) (.join [0,8,9,10] [(74,.c .bool)] (.reg [0,8,9,10,74] (.draw (dl 22 [dm [] [10] 76,dm [0] [75] 77,dm [1] [76] 78,dm [2] [77] 79,dm [3] [9,78] 80,dm [3,4] [78,79] 81,dm [3,5] [78,80] 82,dm [3,6] [78,81] 83,dm [7] [9,82] 84,dm [7,8] [82,83] 85,dm [7,9] [82,84] 86,dm [7,10] [82,85] 87,dm [7,11] [82,86] 88,dm [7] [10,82] 89,dm [7,13] [82,88] 90,dm [7,14] [82,89] 91,dn [7,11,15] [7,15] [82,90] 92,dm [7,16] [82,91] 93,dm [7,12,17] [82,87,92] 94,dm [3,7,18] [78,82,93] 95,dm [3,19] [78,94] 96,dn [16,20] [20] [95] 75]) (tr 0 4 (.split 78 (tr 4 18 (.done)) (tr 4 4 (.split 82 (tk [8,9,10,13,14,15] (.all (.last 11 (.take 12 (.all (.last 16 (tr 17 5 (.done)))))))) (tr 8 14 (.done)))))))) (.node (.node (.reg [0,8,9,10] (.nil)) (.reg [0,8,9,10] (.nil))) (.join [0,8,9,10] [(104,.c .bool)] (.reg [0,8,9,10,104] (.draw (dl 17 [dm [] [9] 106,dm [0] [105] 107,dm [1] [106] 108,dm [2] [107] 109,dm [3] [10,108] 110,dm [3,4] [108,109] 111,dm [3,5] [108,110] 112,dm [3,6] [108,111] 113,dm [3,7] [108,112] 114,dm [3] [9,108] 115,dm [3,9] [108,114] 116,dm [3,10] [108,115] 117,dn [3,7,11] [3,11] [108,116] 118,dm [3,12] [108,117] 119,dm [3,8,13] [108,113,118] 120,dm [3,14] [108,119] 121,dn [12,15] [15] [120] 105]) (tr 0 4 (.split 108 (tr 4 13 (.done)) (tk [4,5,6,9,10,11] (.all (.last 7 (.take 8 (.all (.last 12 (tr 13 4 (.done)))))))))))) (.node (.node (.reg [0,8,9,10] (.nil)) (.reg [0,8,9,10] (.nil))) (.node (.reg [0,8,9,10] (.draw (dl 9 [dm [] [0] 62,dm [] [9] 63,dm [1] [62] 64,dm [2] [63] 65,dm [] [10] 66,dm [4] [65] 67,dm [5] [66] 68,dm [] [8] 69,dm [0,3,6,7] [61,64,67,68] 70]) (tr 0 8 (.all (.last 8 (.done)))))) (.reg [0,8,9,10] (.draw (dl 6 [dm [] [9] 71,dm [0] [70] 72,dm [] [10] 73,dm [2] [72] 74,dm [0,1] [71] 10,dn [0,1,2,3,4] [2,3] [73] 11]) (tr 0 6 (.done))))))))))))))
theorem H_diff_set_trees (x0 : Option Addr) (x1 : Option Addr) (x2 : Option Addr) (x3 : ByteArray) {K : Tup [] → Heap → Prop} {h0 : Heap} (h : F_diff_set_trees x0 x1 x2 x3 K h0) : HC PG f_diff_set_trees [.pointer x0, .pointer x1, .pointer x2, .string x3] [] K h0 := HC.intro (an := A_diff_set_trees) (c := Tryz.f31.body.getD .skip) Tryz.mixed Tryz.func31 rfl Tryz.call31 (Nat.le_of_ble_eq_true rfl) (cst (by kernel_rfl) h)
def F_tree_Tree_Radix (x0 : T6) (K : (Option Addr) → Heap → Prop) (h0 : Heap) : Prop :=
 At (hnew h0 [.int .i64 x0.1, .int .u64 x0.2.1, .int .u64 x0.2.2.1, .int .u64 x0.2.2.2.1, .pointer x0.2.2.2.2.1, .pointer x0.2.2.2.2.2] t_tree_Tree) (fun h1 =>
 ∃ v2, cAt h1 (newA h0) 5 (.pointer v2) ∧
 K v2 h1)
noncomputable def A_tree_Tree_Radix : Ann := .node (.reg [1] (.nil)) (.node (.reg [2] (.nil)) (.nil))
theorem H_tree_Tree_Radix (x0 : T6) {K : Tup [.c .ptr] → Heap → Prop} {h0 : Heap} (h : F_tree_Tree_Radix x0 K h0) : HC PG f_tree_Tree_Radix [.agg #[.int .i64 x0.1, .int .u64 x0.2.1, .int .u64 x0.2.2.1, .int .u64 x0.2.2.2.1, .pointer x0.2.2.2.2.1, .pointer x0.2.2.2.2.2]] [.c .ptr] K h0 := HC.intro (an := A_tree_Tree_Radix) (c := Tryz.f32.body.getD .skip) Tryz.mixed Tryz.func32 rfl Tryz.call32 (Nat.le_of_ble_eq_true rfl) (cst (by kernel_rfl) h)
def F_diff_set_tries (x0 : Option Addr) (x1 : Option Addr) (x2 : Option Addr) (K : (Unit) → Heap → Prop) (h0 : Heap) : Prop :=
 (True ∧ (∀ x y : Addr, x1 = some x → x2 = some y → plainPtr h0 x ∧ plainPtr h0 y) ∧
 CondP (x1 == x2) (
 K () h0) (
 HC PG f_node_Node_IsBucket [.pointer x1] [.c .bool] (fun (e1 : Bool) h2 =>
 CondP e1 (
 HC PG f_node_Node_Pairs [.pointer x1] [.c .slice] (fun (e3 : SliceV) h4 =>
 HC PG f_node_Node_Pairs [.pointer x2] [.c .slice] (fun (e5 : SliceV) h6 =>
 HC PG f_diff_set_lists [.pointer x0, .slice e3.a e3.len e3.cap, .slice e5.a e5.len e5.cap] [] (fun (e7 : Unit) h8 =>
 K () h8) h6) h4) h2) (
 LoopP (fun I9 (t10 : Int) h11 =>
 CondP (decide (t10 < (32 : Int))) (
 Join (fun (t28 : Unit) h29 =>
 I9 (IntKind.wrap .i64 (t10 + 1)) h29) (fun J12 =>
 HC PG f_node_Node_Kid [.pointer x1, .int .i64 t10] [.c .ptr, .c .bool] (fun (e13 : (Option Addr) × Bool) h14 =>
 HC PG f_node_Node_Kid [.pointer x2, .int .i64 t10] [.c .ptr, .c .bool] (fun (e15 : (Option Addr) × Bool) h16 =>
 Join (fun (t18 : Bool) h19 =>
 CondP t18 (
 HC PG f_diff_set_tries [.pointer x0, .pointer e13.1, .pointer e15.1] [] (fun (e20 : Unit) h21 =>
 J12 () h21) h19) (
 HC PG f_diff_slot [.pointer x1, .int .i64 t10] [.c .slice] (fun (e22 : SliceV) h23 =>
 HC PG f_diff_slot [.pointer x2, .int .i64 t10] [.c .slice] (fun (e24 : SliceV) h25 =>
 HC PG f_diff_set_lists [.pointer x0, .slice e22.a e22.len e22.cap, .slice e24.a e24.len e24.cap] [] (fun (e26 : Unit) h27 =>
 J12 () h27) h25) h23) h19)) (fun J17 =>
 CondP e13.2 (
 J17 e15.2 h16) (
 J17 false h16))) h14) h11)) (
 K () h11)) 0 h2)) h0))
noncomputable def A_diff_set_tries : Ann := .node (.node (.reg [0,1,2,13] (.nil)) (.nil)) (.node (.node (.reg [0,1,2,15] (.nil)) (.node (.node (.reg [] (.nil)) (.nil)) (.nil))) (.node (.reg [0,1,2,22] (.nil)) (.loop [0,1,2] [(22,.c (.int .i64))] (.node (.reg [0,1,2,22,23] (.nil)) (.node (.nil) (.join [0,1,2,22] [] (.node (.reg [0,1,2,6,22] (.nil)) (.node (.reg [0,1,2,6,7,8,22] (.nil)) (.node (.reg [0,1,2,6,7,8,9,10,22] (.nil)) (.node (.join [0,1,2,6,7,9,22] [(40,.c .bool)] (.reg [0,1,2,6,7,9,22,40] (.nil)) (.node (.node (.reg [0,1,2,22] (.nil)) (.nil)) (.nil))) (.reg [0,1,2,22] (.nil)))))) (.reg [0,1,2,22] (.nil))))))))
theorem H_diff_set_tries (x0 : Option Addr) (x1 : Option Addr) (x2 : Option Addr) {K : Tup [] → Heap → Prop} {h0 : Heap} (h : F_diff_set_tries x0 x1 x2 K h0) : HC PG f_diff_set_tries [.pointer x0, .pointer x1, .pointer x2] [] K h0 := HC.intro (an := A_diff_set_tries) (c := Tryz.f33.body.getD .skip) Tryz.mixed Tryz.func33 rfl Tryz.call33 (Nat.le_of_ble_eq_true rfl) (cst (by kernel_rfl) h)
def F_tree_Tree_Champ (x0 : T6) (K : (Option Addr) → Heap → Prop) (h0 : Heap) : Prop :=
 At (hnew h0 [.int .i64 x0.1, .int .u64 x0.2.1, .int .u64 x0.2.2.1, .int .u64 x0.2.2.2.1, .pointer x0.2.2.2.2.1, .pointer x0.2.2.2.2.2] t_tree_Tree) (fun h1 =>
 Join (fun (t5 : Bool) h6 =>
 CondP t5 (
 HC PG f_champ_Empty [] [.c .ptr] (fun (e7 : Option Addr) h8 =>
 K e7 h8) h6) (
 ∃ v9, cAt h6 (newA h0) 4 (.pointer v9) ∧
 K v9 h6)) (fun J2 =>
 ∃ v3, cAt h1 (newA h0) 0 (.int .i64 v3) ∧
 CondP (v3 == (0 : Int)) (
 ∃ v4, cAt h1 (newA h0) 4 (.pointer v4) ∧
 J2 v4.isNone h1) (
 J2 false h1)))
noncomputable def A_tree_Tree_Champ : Ann := .node (.reg [1] (.nil)) (.node (.join [1] [(10,.c .bool)] (.reg [1,10] (.nil)) (.node (.node (.reg [2] (.nil)) (.nil)) (.nil))) (.node (.reg [2] (.nil)) (.nil)))
theorem H_tree_Tree_Champ (x0 : T6) {K : Tup [.c .ptr] → Heap → Prop} {h0 : Heap} (h : F_tree_Tree_Champ x0 K h0) : HC PG f_tree_Tree_Champ [.agg #[.int .i64 x0.1, .int .u64 x0.2.1, .int .u64 x0.2.2.1, .int .u64 x0.2.2.2.1, .pointer x0.2.2.2.2.1, .pointer x0.2.2.2.2.2]] [.c .ptr] K h0 := HC.intro (an := A_tree_Tree_Champ) (c := Tryz.f34.body.getD .skip) Tryz.mixed Tryz.func34 rfl Tryz.call34 (Nat.le_of_ble_eq_true rfl) (cst (by kernel_rfl) h)
def F_slices_SortFunc_A_diff_Change_diff_Change (x0 : SliceV) (x1 : Value) (K : (Unit) → Heap → Prop) (h0 : Heap) : Prop :=
 HC PG f_math_bits_Len [.int .u64 (IntKind.wrap .u64 (x0.len : Int))] [.c (.int .i64)] (fun (e1 : Int) h2 =>
 HC PG f_slices_pdqsortCmpFunc_diff_Change [.slice x0.a x0.len x0.cap, .int .i64 0, .int .i64 (x0.len : Int), .int .i64 e1, x1] [] (fun (e3 : Unit) h4 =>
 K () h4) h2) h0
noncomputable def A_slices_SortFunc_A_diff_Change_diff_Change : Ann := .node (.reg [0,1,4] (.nil)) (.reg [] (.nil))
theorem H_slices_SortFunc_A_diff_Change_diff_Change (x0 : SliceV) (x1 : Value) {K : Tup [] → Heap → Prop} {h0 : Heap} (h : F_slices_SortFunc_A_diff_Change_diff_Change x0 x1 K h0) : HC PG f_slices_SortFunc_A_diff_Change_diff_Change [.slice x0.a x0.len x0.cap, x1] [] K h0 := HC.intro (an := A_slices_SortFunc_A_diff_Change_diff_Change) (c := Tryz.f35.body.getD .skip) Tryz.mixed Tryz.func35 rfl Tryz.call35 (Nat.le_of_ble_eq_true rfl) (cst (by kernel_rfl) h)
def F_diff_Of_1 (x0 : ByteArray × ByteArray × ByteArray × Bool × Bool) (x1 : ByteArray × ByteArray × ByteArray × Bool × Bool) (K : (Int) → Heap → Prop) (h0 : Heap) : Prop :=
 At (hnew h0 [.string x0.1, .string x0.2.1, .string x0.2.2.1, .bool x0.2.2.2.1, .bool x0.2.2.2.2] t_diff_Change) (fun h1 =>
 At (hnew h1 [.string x1.1, .string x1.2.1, .string x1.2.2.1, .bool x1.2.2.2.1, .bool x1.2.2.2.2] t_diff_Change) (fun h2 =>
 ∃ v3, cAt h2 (newA h0) 0 (.string v3) ∧
 ∃ v4, cAt h2 (newA h1) 0 (.string v4) ∧
 HC PG f_cmp_Compare_str [.string v3, .string v4] [.c (.int .i64)] (fun (e5 : Int) h6 =>
 K e5 h6) h2))
noncomputable def A_diff_Of_1 : Ann := .node (.reg [2,3] (.nil)) (.node (.reg [4] (.nil)) (.nil))
theorem H_diff_Of_1 (x0 : ByteArray × ByteArray × ByteArray × Bool × Bool) (x1 : ByteArray × ByteArray × ByteArray × Bool × Bool) {K : Tup [.c (.int .i64)] → Heap → Prop} {h0 : Heap} (h : F_diff_Of_1 x0 x1 K h0) : HC PG f_diff_Of_1 [.agg #[.string x0.1, .string x0.2.1, .string x0.2.2.1, .bool x0.2.2.2.1, .bool x0.2.2.2.2], .agg #[.string x1.1, .string x1.2.1, .string x1.2.2.1, .bool x1.2.2.2.1, .bool x1.2.2.2.2]] [.c (.int .i64)] K h0 := HC.intro (an := A_diff_Of_1) (c := Tryz.f36.body.getD .skip) Tryz.mixed Tryz.func36 rfl Tryz.call36 (Nat.le_of_ble_eq_true rfl) (cst (by kernel_rfl) h)
def F_cmp_Compare_str (x0 : ByteArray) (x1 : ByteArray) (K : (Int) → Heap → Prop) (h0 : Heap) : Prop :=
 HC PG f_cmp_isNaN_str [.string x0] [.c .bool] (fun (e1 : Bool) h2 =>
 HC PG f_cmp_isNaN_str [.string x1] [.c .bool] (fun (e3 : Bool) h4 =>
 CondP e1 (
 CondP e3 (
 K 0 h4) (
 K (-1) h4)) (
 CondP e3 (
 K 1 h4) (
 CondP (Op.bytesLess x0.toList x1.toList) (
 K (-1) h4) (
 CondP (!(Op.bytesLess x0.toList x1.toList || x0.toList == x1.toList)) (
 K 1 h4) (
 K 0 h4))))) h2) h0
noncomputable def A_cmp_Compare_str : Ann := .node (.reg [0,1] (.nil)) (.node (.reg [0,1,5] (.nil)) (.node (.reg [0,1,5,6] (.nil)) (.node (.node (.reg [0,1,6,11] (.nil)) (.node (.node (.node (.reg [12] (.nil)) (.node (.node (.reg [4] (.nil)) (.nil)) (.nil))) (.node (.reg [4] (.nil)) (.nil))) (.nil))) (.node (.node (.reg [0,1,13] (.nil)) (.node (.node (.reg [4] (.nil)) (.nil)) (.nil))) (.node (.node (.reg [0,1,16] (.nil)) (.node (.node (.reg [4] (.nil)) (.nil)) (.nil))) (.node (.node (.reg [19] (.nil)) (.node (.node (.reg [4] (.nil)) (.nil)) (.nil))) (.node (.reg [4] (.nil)) (.nil))))))))
theorem H_cmp_Compare_str (x0 : ByteArray) (x1 : ByteArray) {K : Tup [.c (.int .i64)] → Heap → Prop} {h0 : Heap} (h : F_cmp_Compare_str x0 x1 K h0) : HC PG f_cmp_Compare_str [.string x0, .string x1] [.c (.int .i64)] K h0 := HC.intro (an := A_cmp_Compare_str) (c := Tryz.f37.body.getD .skip) Tryz.mixed Tryz.func37 rfl Tryz.call37 (Nat.le_of_ble_eq_true rfl) (cst (by kernel_rfl) h)
def F_slices_Equal_A_diff_Change_diff_Change (x0 : SliceV) (x1 : SliceV) (K : (Bool) → Heap → Prop) (h0 : Heap) : Prop :=
 CondP ((x0.len : Int) != (x1.len : Int)) (
 K false h0) (
 LoopP (fun I1 (t2 : Int) h3 =>
 CondP (decide (t2 < (x0.len : Int))) (
 (iBd t2 x0.len ∧ ∃ a4, x0.a = some a4 ∧
 ∃ v5, cAt h3 (adr a4 (t2.toNat * 5)) 0 (.string v5) ∧
 ∃ v6, cAt h3 (adr a4 (t2.toNat * 5)) 1 (.string v6) ∧
 ∃ v7, cAt h3 (adr a4 (t2.toNat * 5)) 2 (.string v7) ∧
 ∃ v8, cAt h3 (adr a4 (t2.toNat * 5)) 3 (.bool v8) ∧
 ∃ v9, cAt h3 (adr a4 (t2.toNat * 5)) 4 (.bool v9) ∧
 (iBd t2 x1.len ∧ ∃ a10, x1.a = some a10 ∧
 ∃ v11, cAt h3 (adr a10 (t2.toNat * 5)) 0 (.string v11) ∧
 ∃ v12, cAt h3 (adr a10 (t2.toNat * 5)) 1 (.string v12) ∧
 ∃ v13, cAt h3 (adr a10 (t2.toNat * 5)) 2 (.string v13) ∧
 ∃ v14, cAt h3 (adr a10 (t2.toNat * 5)) 3 (.bool v14) ∧
 ∃ v15, cAt h3 (adr a10 (t2.toNat * 5)) 4 (.bool v15) ∧
 CondP (!(((v5.toList == v11.toList) && ((v6.toList == v12.toList) && ((v7.toList == v13.toList) && ((v8 == v14) && ((v9 == v15) && true))))))) (
 K false h3) (
 I1 (IntKind.wrap .i64 (t2 + 1)) h3)))) (
 K true h3)) 0 h0)
noncomputable def A_slices_Equal_A_diff_Change_diff_Change : Ann := .node (.reg [0,1] (.nil)) (.node (.node (.reg [0,1,10] (.nil)) (.node (.node (.reg [4] (.nil)) (.nil)) (.nil))) (.node (.node (.reg [0,1,12,13] (.nil)) (.loop [0,1,12] [(13,.c (.int .i64))] (.node (.reg [0,1,12,13,14] (.nil)) (.node (.nil) (.node (.node (.reg [0,1,5,12,13] (.nil)) (.node (.reg [0,1,12,13,24] (.draw (dl 9 [dm [] [0] 17,dm [] [5] 18,dm [0,1] [16,17] 19,dm [2] [18] 20,dm [] [1] 21,dm [] [5] 22,dm [4,5] [20,21] 23,dm [6] [22] 24,dm [3,7] [19,23] 25]) (tr 0 9 (.done)))) (.node (.node (.reg [4] (.nil)) (.nil)) (.nil)))) (.reg [0,1,12,13] (.nil))))))) (.node (.reg [4] (.nil)) (.nil))))
theorem H_slices_Equal_A_diff_Change_diff_Change (x0 : SliceV) (x1 : SliceV) {K : Tup [.c .bool] → Heap → Prop} {h0 : Heap} (h : F_slices_Equal_A_diff_Change_diff_Change x0 x1 K h0) : HC PG f_slices_Equal_A_diff_Change_diff_Change [.slice x0.a x0.len x0.cap, .slice x1.a x1.len x1.cap] [.c .bool] K h0 := HC.intro (an := A_slices_Equal_A_diff_Change_diff_Change) (c := Tryz.f38.body.getD .skip) Tryz.mixed Tryz.func38 rfl Tryz.call38 (Nat.le_of_ble_eq_true rfl) (cst (by kernel_rfl) h)
def F_pair_Right (x0 : ByteArray) (x1 : ByteArray) (K : (Int) → Heap → Prop) (h0 : Heap) : Prop :=
 CondP (decide ((x0.size : Int) > (256 : Int))) (
 K 2 h0) (
 CondP (decide ((x1.size : Int) > (4096 : Int))) (
 K 3 h0) (
 K 0 h0))
noncomputable def A_pair_Right : Ann := .node (.reg [0,1] (.nil)) (.node (.node (.reg [1,5] (.nil)) (.node (.node (.reg [4] (.nil)) (.nil)) (.node (.reg [9] (.nil)) (.node (.node (.reg [4] (.nil)) (.nil)) (.nil))))) (.node (.reg [4] (.nil)) (.nil)))
theorem H_pair_Right (x0 : ByteArray) (x1 : ByteArray) {K : Tup [.c (.int .i64)] → Heap → Prop} {h0 : Heap} (h : F_pair_Right x0 x1 K h0) : HC PG f_pair_Right [.string x0, .string x1] [.c (.int .i64)] K h0 := HC.intro (an := A_pair_Right) (c := Tryz.f42.body.getD .skip) Tryz.mixed Tryz.func42 rfl Tryz.call42 (Nat.le_of_ble_eq_true rfl) (cst (by kernel_rfl) h)
def F_tree_OfRadix (x0 : Option Addr) (K : (T6) → Heap → Prop) (h0 : Heap) : Prop :=
 At (hnew h0 [.int .i64 0, .int .u64 0, .int .u64 0, .int .u64 0, .pointer none, .pointer none] t_tree_Tree) (fun h1 =>
 Join (fun (t5 : Option Addr) h6 =>
 (WrS h6 (some (newA h0)) 0 [.int .i64 1, .int .u64 0, .int .u64 0, .int .u64 0, .pointer none, .pointer t5] ∧
 At (hsetL h6 (newA h0) 0 [.int .i64 1, .int .u64 0, .int .u64 0, .int .u64 0, .pointer none, .pointer t5]) (fun h7 =>
 ∃ v8, cAt h7 (newA h0) 0 (.int .i64 v8) ∧
 ∃ v9, cAt h7 (newA h0) 1 (.int .u64 v9) ∧
 ∃ v10, cAt h7 (newA h0) 2 (.int .u64 v10) ∧
 ∃ v11, cAt h7 (newA h0) 3 (.int .u64 v11) ∧
 ∃ v12, cAt h7 (newA h0) 4 (.pointer v12) ∧
 ∃ v13, cAt h7 (newA h0) 5 (.pointer v13) ∧
 K (v8, v9, v10, v11, v12, v13) h7))) (fun J2 =>
 CondP x0.isNone (
 HC PG f_radix_Empty [] [.c .ptr] (fun (e3 : Option Addr) h4 =>
 J2 e3 h4) h1) (
 J2 x0 h1)))
noncomputable def A_tree_OfRadix : Ann := .node (.reg [0,2] (.nil)) (.join [2] [(0,.c .ptr)] (.node (.reg [0,2,4] (.nil)) (.node (.reg [0,2] (.nil)) (.nil))) (.node (.reg [2] (.nil)) (.nil)))
theorem H_tree_OfRadix (x0 : Option Addr) {K : Tup [.agg [.int .i64, .int .u64, .int .u64, .int .u64, .ptr, .ptr]] → Heap → Prop} {h0 : Heap} (h : F_tree_OfRadix x0 K h0) : HC PG f_tree_OfRadix [.pointer x0] [.agg [.int .i64, .int .u64, .int .u64, .int .u64, .ptr, .ptr]] K h0 := HC.intro (an := A_tree_OfRadix) (c := Tryz.f43.body.getD .skip) Tryz.mixed Tryz.func43 rfl Tryz.call43 (Nat.le_of_ble_eq_true rfl) (cst (by kernel_rfl) h)
def F_build_Radix (x0 : SliceV) (K : (Option Addr) → Heap → Prop) (h0 : Heap) : Prop :=
 HC PG f_pair_Sorted [.slice x0.a x0.len x0.cap] [.c .slice] (fun (e1 : SliceV) h2 =>
 Join (fun (t6 : ByteArray × Bool) h7 =>
 Join (fun (t11 : SliceV × ByteArray) h12 =>
 HC PG f_build_kids [.slice t11.1.a t11.1.len t11.1.cap, .int .i64 0] [.c .slice] (fun (e13 : SliceV) h14 =>
 HC PG f_radix_Make [.string (⟨#[]⟩ : ByteArray), .bool t6.2, .string t11.2, .slice e13.a e13.len e13.cap] [.c .ptr] (fun (e15 : Option Addr) h16 =>
 K e15 h16) h14) h12) (fun J8 =>
 CondP t6.2 (
 (iBd 0 e1.len ∧ ∃ a9, e1.a = some a9 ∧
 ∃ v10, cAt h7 (adr a9 ((0 : Int).toNat * 2)) 1 (.string v10) ∧
 (((0 : Int) ≤ (1 : Int) ∧ (1 : Int) ≤ ((e1.len : Nat) : Int)) ∧
 J8 (⟨subAddr e1.a ((1 : Int).toNat) e1.cap 2, e1.len - ((1 : Int).toNat), e1.cap - ((1 : Int).toNat)⟩, v10) h7))) (
 J8 (e1, t6.1) h7))) (fun J3 =>
 CondP (decide ((e1.len : Int) > (0 : Int))) (
 (iBd 0 e1.len ∧ ∃ a4, e1.a = some a4 ∧
 ∃ v5, cAt h2 (adr a4 ((0 : Int).toNat * 2)) 0 (.string v5) ∧
 J3 ((⟨#[]⟩ : ByteArray), v5.toList == (⟨#[]⟩ : ByteArray).toList) h2)) (
 J3 ((⟨#[]⟩ : ByteArray), false) h2))) h0
noncomputable def A_build_Radix : Ann := .node (.reg [0] (.nil)) (.node (.reg [0] (.nil)) (.join [0] [(3,.c .str),(4,.c .bool)] (.reg [0,3,4] (.draw (dl 12 [dm [] [0] 8,dm [0] [7] 9,dm [1] [8] 10,dm [2] [9] 11,dm [3] [0,10] 12,dm [3,4] [10,11] 13,dm [3,5] [10,12] 14,dm [3,6] [10,13] 15,dm [3,7] [10,14] 16,dm [3,8] [10,15] 17,dn [3] [] [] 4,dn [0,1,2,3,4,5,6,7,8,9,10] [9] [16] 5]) (tk [0,1,2,3,10] (.split 10 (tk [4,5,6,7,8,9,11] (.done)) (tk [4,5,6,7,8,9,11] (.done)))))) (.join [4] [(0,.c .slice),(3,.c .str)] (.node (.reg [0,3,4,17] (.nil)) (.node (.reg [0,3,4] (.draw (dl 8 [dm [] [0] 19,dm [0] [18] 20,dm [1] [19] 21,dm [2] [20] 22,dm [] [0] 23,dm [4] [22] 24,dn [0,1,2,3] [3] [21] 4,dn [0,1,2,3,4,5,6] [0,4,5] [23] 1]) (tr 0 8 (.done)))) (.nil))) (.node (.reg [2] (.nil)) (.nil)))))
theorem H_build_Radix (x0 : SliceV) {K : Tup [.c .ptr] → Heap → Prop} {h0 : Heap} (h : F_build_Radix x0 K h0) : HC PG f_build_Radix [.slice x0.a x0.len x0.cap] [.c .ptr] K h0 := HC.intro (an := A_build_Radix) (c := Tryz.f44.body.getD .skip) Tryz.mixed Tryz.func44 rfl Tryz.call44 (Nat.le_of_ble_eq_true rfl) (cst (by kernel_rfl) h)
def F_tree_OfChamp (x0 : Int × Int × Int) (x1 : Option Addr) (K : (T6) → Heap → Prop) (h0 : Heap) : Prop :=
 At (hnew h0 [.int .u64 x0.1, .int .u64 x0.2.1, .int .u64 x0.2.2] t_sip_Hasher) (fun h1 =>
 At (hnew h1 [.int .i64 0, .int .u64 0, .int .u64 0, .int .u64 0, .pointer none, .pointer none] t_tree_Tree) (fun h2 =>
 Join (fun (t6 : Option Addr) h7 =>
 ∃ v8, cAt h7 (newA h0) 0 (.int .u64 v8) ∧
 ∃ v9, cAt h7 (newA h0) 1 (.int .u64 v9) ∧
 ∃ v10, cAt h7 (newA h0) 2 (.int .u64 v10) ∧
 (WrS h7 (some (newA h1)) 0 [.int .i64 0, .int .u64 v8, .int .u64 v9, .int .u64 v10, .pointer t6, .pointer none] ∧
 At (hsetL h7 (newA h1) 0 [.int .i64 0, .int .u64 v8, .int .u64 v9, .int .u64 v10, .pointer t6, .pointer none]) (fun h11 =>
 ∃ v12, cAt h11 (newA h1) 0 (.int .i64 v12) ∧
 ∃ v13, cAt h11 (newA h1) 1 (.int .u64 v13) ∧
 ∃ v14, cAt h11 (newA h1) 2 (.int .u64 v14) ∧
 ∃ v15, cAt h11 (newA h1) 3 (.int .u64 v15) ∧
 ∃ v16, cAt h11 (newA h1) 4 (.pointer v16) ∧
 ∃ v17, cAt h11 (newA h1) 5 (.pointer v17) ∧
 K (v12, v13, v14, v15, v16, v17) h11))) (fun J3 =>
 CondP x1.isNone (
 HC PG f_champ_Empty [] [.c .ptr] (fun (e4 : Option Addr) h5 =>
 J3 e4 h5) h2) (
 J3 x1 h2))))
noncomputable def A_tree_OfChamp : Ann := .node (.reg [1,2,4] (.nil)) (.join [2,4] [(1,.c .ptr)] (.node (.reg [1,2,4,6] (.nil)) (.node (.reg [1,2,4] (.nil)) (.nil))) (.node (.reg [4] (.nil)) (.nil)))
theorem H_tree_OfChamp (x0 : Int × Int × Int) (x1 : Option Addr) {K : Tup [.agg [.int .i64, .int .u64, .int .u64, .int .u64, .ptr, .ptr]] → Heap → Prop} {h0 : Heap} (h : F_tree_OfChamp x0 x1 K h0) : HC PG f_tree_OfChamp [.agg #[.int .u64 x0.1, .int .u64 x0.2.1, .int .u64 x0.2.2], .pointer x1] [.agg [.int .i64, .int .u64, .int .u64, .int .u64, .ptr, .ptr]] K h0 := HC.intro (an := A_tree_OfChamp) (c := Tryz.f45.body.getD .skip) Tryz.mixed Tryz.func45 rfl Tryz.call45 (Nat.le_of_ble_eq_true rfl) (cst (by kernel_rfl) h)
def F_build_Champ (x0 : Int × Int × Int) (x1 : SliceV) (K : (Option Addr) → Heap → Prop) (h0 : Heap) : Prop :=
 At (hnew h0 [.int .u64 x0.1, .int .u64 x0.2.1, .int .u64 x0.2.2] t_sip_Hasher) (fun h1 =>
 HC PG f_pair_Sorted [.slice x1.a x1.len x1.cap] [.c .slice] (fun (e2 : SliceV) h3 =>
 LoopP (fun I4 (t5 : SliceV × Int) h6 =>
 CondP (decide (t5.2 < (e2.len : Int))) (
 Join (fun (t25 : SliceV) h26 =>
 I4 (t25, IntKind.wrap .i64 (t5.2 + 1)) h26) (fun J7 =>
 (iBd t5.2 e2.len ∧ ∃ a8, e2.a = some a8 ∧
 ∃ v9, cAt h6 (adr a8 (t5.2.toNat * 2)) 0 (.string v9) ∧
 ∃ v10, cAt h6 (adr a8 (t5.2.toNat * 2)) 1 (.string v10) ∧
 At (hnew h6 [.string (⟨#[]⟩ : ByteArray), .string (⟨#[]⟩ : ByteArray)] t_pair_Pair) (fun h11 =>
 (WrS h11 (some (newA h6)) 0 [.string v9, .string v10] ∧
 At (hsetL h11 (newA h6) 0 [.string v9, .string v10]) (fun h12 =>
 ∃ v13, cAt h12 (newA h6) 0 (.string v13) ∧
 ∃ v14, cAt h12 (newA h6) 1 (.string v14) ∧
 ∃ v15, cAt h12 (newA h0) 0 (.int .u64 v15) ∧
 ∃ v16, cAt h12 (newA h0) 1 (.int .u64 v16) ∧
 ∃ v17, cAt h12 (newA h0) 2 (.int .u64 v17) ∧
 ∃ v18, cAt h12 (newA h6) 0 (.string v18) ∧
 HC PG f_sip_Hasher_Hash [.agg #[.int .u64 v15, .int .u64 v16, .int .u64 v17], .string v18] [.c (.int .u64)] (fun (e19 : Int) h20 =>
 ((cAt h20 (newA h6) 0 (.string v13) ∧ cAt h20 (newA h6) 1 (.string v14)) ∧
 At (hnew h20 [.string v13, .string v14, .int .u64 e19] t_build_hashed) (fun h21 =>
 ∃ xs22, SRow h21 (some (newA h20)) (1 * 3) xs22 ∧
 AppP (some [.string (⟨#[]⟩ : ByteArray), .string (⟨#[]⟩ : ByteArray), .int .u64 0]) 3 40 t_build_hashed t5.1.a t5.1.len t5.1.cap 1 xs22 h21 (fun s23 h24 =>
 J7 s23 h24)))) h12)))))) (
 HC PG f_build_trie [.slice t5.1.a t5.1.len t5.1.cap, .int .i64 0] [.c .ptr] (fun (e27 : Option Addr) h28 =>
 K e27 h28) h6)) (⟨none, 0, 0⟩, 0) h3) h1)
noncomputable def A_build_Champ : Ann := .node (.reg [1,2] (.nil)) (.node (.reg [1,2,5] (.nil)) (.node (.node (.reg [2,5,9,10,11] (.nil)) (.loop [2,9,10] [(5,.c .slice),(11,.c (.int .i64))] (.node (.reg [2,5,9,10,11,12] (.nil)) (.node (.nil) (.join [2,9,10,11] [(5,.c .slice)] (.node (.reg [2,5,7,9,10,11] (.nil)) (.reg [2,5,9,10,11] (.draw (dl 10 [dm [] [5] 16,dm [] [7] 17,dm [] [2] 18,dm [] [7] 19,dm [3] [18] 20,dm [2,4] [17,19] 21,dm [1,5] [16,20] 22,dm [6] [21] 23,dn [0,5,7] [0,7] [15,22] 24,dn [0,1,2,3,4,5,6,7,8] [0,8] [23] 6]) (tr 0 5 (.all (.lastT 5 (.take 6 (.all (.lastT 7 (.all (.lastT 8 (.take 9 (.done))))))))))))) (.reg [2,5,9,10,11] (.nil))))))) (.node (.reg [4] (.nil)) (.nil))))
theorem H_build_Champ (x0 : Int × Int × Int) (x1 : SliceV) {K : Tup [.c .ptr] → Heap → Prop} {h0 : Heap} (h : F_build_Champ x0 x1 K h0) : HC PG f_build_Champ [.agg #[.int .u64 x0.1, .int .u64 x0.2.1, .int .u64 x0.2.2], .slice x1.a x1.len x1.cap] [.c .ptr] K h0 := HC.intro (an := A_build_Champ) (c := Tryz.f46.body.getD .skip) Tryz.mixed Tryz.func46 rfl Tryz.call46 (Nat.le_of_ble_eq_true rfl) (cst (by kernel_rfl) h)
def F_radix_Put (x0 : Option Addr) (x1 : Option Addr) (x2 : ByteArray × ByteArray) (K : ((Option Addr) × Bool) → Heap → Prop) (h0 : Heap) : Prop :=
 At (hnew h0 [.string x2.1, .string x2.2] t_pair_Pair) (fun h1 =>
 ∃ v2, cAt h1 (newA h0) 0 (.string v2) ∧
 ∃ v3, cAt h1 (newA h0) 1 (.string v3) ∧
 HC PG f_radix_some [.pointer x1] [.c .ptr] (fun (e4 : Option Addr) h5 =>
 (cAt h5 (newA h0) 1 (.string v3) ∧
 (cAt h5 (newA h0) 0 (.string v2) ∧
 HC PG f_radix_Node_put [.pointer e4, .pointer x0, .string v2, .string v3] [.c .ptr, .c .bool, .c .bool] (fun (e6 : (Option Addr) × Bool × Bool) h7 =>
 K (e6.1, e6.2.1) h7) h5))) h1)
noncomputable def A_radix_Put : Ann := .node (.reg [0,1,5] (.nil)) (.node (.reg [8,9] (.draw (dl 15 [dm [] [1] 13,dm [0] [12] 14,dm [] [0] 15,dm [] [5] 16,dm [3] [15] 17,dm [] [5] 18,dm [5] [17] 19,dm [1,2,4,6] [13,14,16,18] 20,dm [7] [19] 12,dm [8] [11] 21,dm [8] [11] 22,dm [8] [11] 23,dn [0,1,2,3,4,5,6,7,8,9] [9] [20] 9,dn [0,1,2,3,4,5,6,7,8,9,10,12] [10] [21] 10,dn [0,1,2,3,4,5,6,7,8,9,10,11,12,13] [11] [22] 11]) (tk [0,2,3,4,5,6] (.all (.last 1 (.all (.last 7 (tr 8 7 (.done))))))))) (.node (.reg [6,7] (.nil)) (.nil)))
theorem H_radix_Put (x0 : Option Addr) (x1 : Option Addr) (x2 : ByteArray × ByteArray) {K : Tup [.c .ptr, .c .bool] → Heap → Prop} {h0 : Heap} (h : F_radix_Put x0 x1 x2 K h0) : HC PG f_radix_Put [.pointer x0, .pointer x1, .agg #[.string x2.1, .string x2.2]] [.c .ptr, .c .bool] K h0 := HC.intro (an := A_radix_Put) (c := Tryz.f47.body.getD .skip) Tryz.mixed Tryz.func47 rfl Tryz.call47 (Nat.le_of_ble_eq_true rfl) (cst (by kernel_rfl) h)
def F_champ_Put (x0 : Int × Int × Int) (x1 : Option Addr) (x2 : Option Addr) (x3 : ByteArray × ByteArray) (K : ((Option Addr) × Bool) → Heap → Prop) (h0 : Heap) : Prop :=
 At (hnew h0 [.int .u64 x0.1, .int .u64 x0.2.1, .int .u64 x0.2.2] t_sip_Hasher) (fun h1 =>
 At (hnew h1 [.string x3.1, .string x3.2] t_pair_Pair) (fun h2 =>
 ∃ v3, cAt h2 (newA h0) 0 (.int .u64 v3) ∧
 ∃ v4, cAt h2 (newA h0) 1 (.int .u64 v4) ∧
 ∃ v5, cAt h2 (newA h0) 2 (.int .u64 v5) ∧
 ∃ v6, cAt h2 (newA h1) 0 (.string v6) ∧
 ∃ v7, cAt h2 (newA h0) 0 (.int .u64 v7) ∧
 ∃ v8, cAt h2 (newA h0) 1 (.int .u64 v8) ∧
 ∃ v9, cAt h2 (newA h0) 2 (.int .u64 v9) ∧
 ∃ v10, cAt h2 (newA h1) 0 (.string v10) ∧
 ((HC PG f_sip_Hasher_Hash [.agg #[.int .u64 v7, .int .u64 v8, .int .u64 v9], .string v10] [.c (.int .u64)] (fun (e11 : Int) h12 =>
 (cAt h12 (newA h1) 0 (.string v6) ∧
 ((cAt h12 (newA h0) 0 (.int .u64 v3) ∧ cAt h12 (newA h0) 1 (.int .u64 v4) ∧ cAt h12 (newA h0) 2 (.int .u64 v5)) ∧
 At (hnew h12 [.int .u64 0, .int .u64 0, .int .u64 0, .pointer none, .string (⟨#[]⟩ : ByteArray), .int .u64 0] t_champ_work) (fun h13 =>
 (cAt h13 (newA h1) 0 (.string v6) ∧
 ((cAt h13 (newA h0) 0 (.int .u64 v3) ∧ cAt h13 (newA h0) 1 (.int .u64 v4) ∧ cAt h13 (newA h0) 2 (.int .u64 v5)) ∧
 (WrS h13 (some (newA h12)) 0 [.int .u64 v3, .int .u64 v4, .int .u64 v5, .pointer x1, .string v6, .int .u64 e11] ∧
 At (hsetL h13 (newA h12) 0 [.int .u64 v3, .int .u64 v4, .int .u64 v5, .pointer x1, .string v6, .int .u64 e11]) (fun h14 =>
 ∃ v15, cAt h14 (newA h12) 0 (.int .u64 v15) ∧
 ∃ v16, cAt h14 (newA h12) 1 (.int .u64 v16) ∧
 ∃ v17, cAt h14 (newA h12) 2 (.int .u64 v17) ∧
 ∃ v18, cAt h14 (newA h12) 3 (.pointer v18) ∧
 ∃ v19, cAt h14 (newA h12) 4 (.string v19) ∧
 ∃ v20, cAt h14 (newA h12) 5 (.int .u64 v20) ∧
 ∃ v21, cAt h14 (newA h1) 0 (.string v21) ∧
 ∃ v22, cAt h14 (newA h1) 1 (.string v22) ∧
 HC PG f_champ_some [.pointer x2] [.c .ptr] (fun (e23 : Option Addr) h24 =>
 ((cAt h24 (newA h1) 0 (.string v21) ∧ cAt h24 (newA h1) 1 (.string v22)) ∧
 ((cAt h24 (newA h12) 0 (.int .u64 v15) ∧ cAt h24 (newA h12) 1 (.int .u64 v16) ∧ cAt h24 (newA h12) 2 (.int .u64 v17) ∧ cAt h24 (newA h12) 3 (.pointer v18) ∧ cAt h24 (newA h12) 4 (.string v19) ∧ cAt h24 (newA h12) 5 (.int .u64 v20)) ∧
 HC PG f_champ_work_put [.agg #[.int .u64 v15, .int .u64 v16, .int .u64 v17, .pointer v18, .string v19, .int .u64 v20], .pointer e23, .agg #[.string v21, .string v22], .int .i64 0] [.c .ptr, .c .bool, .c .bool] (fun (e25 : (Option Addr) × Bool × Bool) h26 =>
 K (e25.1, e25.2.1) h26) h24))) h14)))))))) h2) ∧
 At (hnew h2 [.int .u64 0, .int .u64 0, .int .u64 0, .pointer none, .string (⟨#[]⟩ : ByteArray), .int .u64 0] t_champ_work) (fun h27 =>
 (cAt h27 (newA h1) 0 (.string v10) ∧
 ((cAt h27 (newA h0) 0 (.int .u64 v7) ∧ cAt h27 (newA h0) 1 (.int .u64 v8) ∧ cAt h27 (newA h0) 2 (.int .u64 v9)) ∧
 (cAt h27 (newA h1) 0 (.string v6) ∧
 ((cAt h27 (newA h0) 0 (.int .u64 v3) ∧ cAt h27 (newA h0) 1 (.int .u64 v4) ∧ cAt h27 (newA h0) 2 (.int .u64 v5)) ∧
 HC PG f_sip_Hasher_Hash [.agg #[.int .u64 v7, .int .u64 v8, .int .u64 v9], .string v10] [.c (.int .u64)] (fun (e28 : Int) h29 =>
 (cAt h29 (newA h1) 0 (.string v6) ∧
 ((cAt h29 (newA h0) 0 (.int .u64 v3) ∧ cAt h29 (newA h0) 1 (.int .u64 v4) ∧ cAt h29 (newA h0) 2 (.int .u64 v5)) ∧
 (WrS h29 (some (newA h2)) 0 [.int .u64 v3, .int .u64 v4, .int .u64 v5, .pointer x1, .string v6, .int .u64 e28] ∧
 At (hsetL h29 (newA h2) 0 [.int .u64 v3, .int .u64 v4, .int .u64 v5, .pointer x1, .string v6, .int .u64 e28]) (fun h30 =>
 ∃ v31, cAt h30 (newA h2) 0 (.int .u64 v31) ∧
 ∃ v32, cAt h30 (newA h2) 1 (.int .u64 v32) ∧
 ∃ v33, cAt h30 (newA h2) 2 (.int .u64 v33) ∧
 ∃ v34, cAt h30 (newA h2) 3 (.pointer v34) ∧
 ∃ v35, cAt h30 (newA h2) 4 (.string v35) ∧
 ∃ v36, cAt h30 (newA h2) 5 (.int .u64 v36) ∧
 ∃ v37, cAt h30 (newA h1) 0 (.string v37) ∧
 ∃ v38, cAt h30 (newA h1) 1 (.string v38) ∧
 HC PG f_champ_some [.pointer x2] [.c .ptr] (fun (e39 : Option Addr) h40 =>
 ((cAt h40 (newA h1) 0 (.string v37) ∧ cAt h40 (newA h1) 1 (.string v38)) ∧
 ((cAt h40 (newA h2) 0 (.int .u64 v31) ∧ cAt h40 (newA h2) 1 (.int .u64 v32) ∧ cAt h40 (newA h2) 2 (.int .u64 v33) ∧ cAt h40 (newA h2) 3 (.pointer v34) ∧ cAt h40 (newA h2) 4 (.string v35) ∧ cAt h40 (newA h2) 5 (.int .u64 v36)) ∧
 HC PG f_champ_work_put [.agg #[.int .u64 v31, .int .u64 v32, .int .u64 v33, .pointer v34, .string v35, .int .u64 v36], .pointer e39, .agg #[.string v37, .string v38], .int .i64 0] [.c .ptr, .c .bool, .c .bool] (fun (e41 : (Option Addr) × Bool × Bool) h42 =>
 K (e41.1, e41.2.1) h42) h40))) h30))))) h27))))))))
noncomputable def A_champ_Put : Ann := .node (.reg [1,2,4,7] (.nil)) (.node (.reg [2,7,10] (.draw (dl 11 [dm [] [4] 15,dm [] [1] 16,dm [] [7] 17,dm [2] [16] 18,dm [] [4] 19,dm [] [7] 20,dm [5] [19] 21,dm [4,6] [18,20] 22,dm [0,1,3,7] [14,15,17,21] 23,dm [] [] 11,dn [0,1,2,3,4,5,6,7,8,9] [8,9] [10,22] 0]) (tr 0 7 (.all (.pick 7 (.take 8 (.all (.lastT 9 (.all (.lastT 10 (.done)))))) (.last 9 (.all (.lastT 7 (.take 8 (.all (.lastT 10 (.done)))))))))))) (.node (.reg [11,12] (.draw (dl 12 [dm [] [10] 25,dm [] [2] 26,dm [1] [25] 27,dm [] [7] 28,dm [0,2,3] [24,26,27] 29,dm [4] [28] 24,dm [5] [23] 30,dm [5] [23] 31,dm [5] [23] 32,dn [0,1,2,3,4,5,6] [6] [29] 12,dn [0,1,2,3,4,5,6,7,9] [7] [30] 13,dn [0,1,2,3,4,5,6,7,8,9,10] [8] [31] 14]) (tk [0,1,3] (.all (.lastT 2 (.all (.lastT 4 (tr 5 7 (.done))))))))) (.node (.reg [8,9] (.nil)) (.nil))))
theorem H_champ_Put (x0 : Int × Int × Int) (x1 : Option Addr) (x2 : Option Addr) (x3 : ByteArray × ByteArray) {K : Tup [.c .ptr, .c .bool] → Heap → Prop} {h0 : Heap} (h : F_champ_Put x0 x1 x2 x3 K h0) : HC PG f_champ_Put [.agg #[.int .u64 x0.1, .int .u64 x0.2.1, .int .u64 x0.2.2], .pointer x1, .pointer x2, .agg #[.string x3.1, .string x3.2]] [.c .ptr, .c .bool] K h0 := HC.intro (an := A_champ_Put) (c := Tryz.f48.body.getD .skip) Tryz.mixed Tryz.func48 rfl Tryz.call48 (Nat.le_of_ble_eq_true rfl) (cst (by kernel_rfl) h)
def F_r03_Right (x0 : ByteArray) (x1 : ByteArray) (K : (Int) → Heap → Prop) (h0 : Heap) : Prop :=
 CondP (decide ((x0.size : Int) > (256 : Int))) (
 K 2 h0) (
 CondP (decide ((x1.size : Int) > (4096 : Int))) (
 K 3 h0) (
 K 0 h0))
noncomputable def A_r03_Right : Ann := .node (.reg [0,1] (.nil)) (.node (.node (.reg [1,7] (.nil)) (.node (.node (.reg [4] (.nil)) (.nil)) (.nil))) (.node (.node (.reg [10] (.nil)) (.node (.node (.reg [4] (.nil)) (.nil)) (.nil))) (.node (.reg [4] (.nil)) (.nil))))
theorem H_r03_Right (x0 : ByteArray) (x1 : ByteArray) {K : Tup [.c (.int .i64)] → Heap → Prop} {h0 : Heap} (h : F_r03_Right x0 x1 K h0) : HC PG f_r03_Right [.string x0, .string x1] [.c (.int .i64)] K h0 := HC.intro (an := A_r03_Right) (c := Tryz.f49.body.getD .skip) Tryz.mixed Tryz.func49 rfl Tryz.call49 (Nat.le_of_ble_eq_true rfl) (cst (by kernel_rfl) h)
def F_r03_Put (x0 : SliceV) (x1 : ByteArray × ByteArray) (K : (SliceV) → Heap → Prop) (h0 : Heap) : Prop :=
 At (hnew h0 [.string x1.1, .string x1.2] t_r03_Pair) (fun h1 =>
 ∃ v2, cAt h1 (newA h0) 0 (.string v2) ∧
 HC PG f_r03_Drop [.slice x0.a x0.len x0.cap, .string v2] [.c .slice] (fun (e3 : SliceV) h4 =>
 LoopP (fun I5 (t6 : SliceV × Bool × Int) h7 =>
 CondP (decide (t6.2.2 < (e3.len : Int))) (
 Join (fun (t36 : SliceV × Bool) h37 =>
 I5 (t36.1, t36.2, IntKind.wrap .i64 (t6.2.2 + 1)) h37) (fun J8 =>
 (iBd t6.2.2 e3.len ∧ ∃ a9, e3.a = some a9 ∧
 ∃ v10, cAt h7 (adr a9 (t6.2.2.toNat * 2)) 0 (.string v10) ∧
 ∃ v11, cAt h7 (adr a9 (t6.2.2.toNat * 2)) 1 (.string v11) ∧
 At (hnew h7 [.string (⟨#[]⟩ : ByteArray), .string (⟨#[]⟩ : ByteArray)] t_r03_Pair) (fun h12 =>
 (WrS h12 (some (newA h7)) 0 [.string v10, .string v11] ∧
 At (hsetL h12 (newA h7) 0 [.string v10, .string v11]) (fun h13 =>
 Join (fun (t28 : SliceV × Bool) h29 =>
 ∃ v30, cAt h29 (newA h7) 0 (.string v30) ∧
 ∃ v31, cAt h29 (newA h7) 1 (.string v31) ∧
 At (hnew h29 [.string v30, .string v31] t_r03_Pair) (fun h32 =>
 ∃ xs33, SRow h32 (some (newA h29)) (1 * 2) xs33 ∧
 AppP (some [.string (⟨#[]⟩ : ByteArray), .string (⟨#[]⟩ : ByteArray)]) 2 32 t_r03_Pair t28.1.a t28.1.len t28.1.cap 1 xs33 h32 (fun s34 h35 =>
 J8 (s34, t28.2) h35))) (fun J14 =>
 Join (fun (t20 : Bool) h21 =>
 CondP t20 (
 ∃ v22, cAt h21 (newA h0) 0 (.string v22) ∧
 ∃ v23, cAt h21 (newA h0) 1 (.string v23) ∧
 At (hnew h21 [.string v22, .string v23] t_r03_Pair) (fun h24 =>
 ∃ xs25, SRow h24 (some (newA h21)) (1 * 2) xs25 ∧
 AppP (some [.string (⟨#[]⟩ : ByteArray), .string (⟨#[]⟩ : ByteArray)]) 2 32 t_r03_Pair t6.1.a t6.1.len t6.1.cap 1 xs25 h24 (fun s26 h27 =>
 J14 (s26, true) h27))) (
 J14 (t6.1, t6.2.1) h21)) (fun J15 =>
 CondP (!t6.2.1) (
 ∃ v16, cAt h13 (newA h0) 0 (.string v16) ∧
 ∃ v17, cAt h13 (newA h7) 0 (.string v17) ∧
 HC PG f_r03_Less [.string v16, .string v17] [.c .bool] (fun (e18 : Bool) h19 =>
 J15 e18 h19) h13) (
 J15 false h13))))))))) (
 CondP (!t6.2.1) (
 ∃ v38, cAt h7 (newA h0) 0 (.string v38) ∧
 ∃ v39, cAt h7 (newA h0) 1 (.string v39) ∧
 At (hnew h7 [.string v38, .string v39] t_r03_Pair) (fun h40 =>
 ∃ xs41, SRow h40 (some (newA h7)) (1 * 2) xs41 ∧
 AppP (some [.string (⟨#[]⟩ : ByteArray), .string (⟨#[]⟩ : ByteArray)]) 2 32 t_r03_Pair t6.1.a t6.1.len t6.1.cap 1 xs41 h40 (fun s42 h43 =>
 K s42 h43))) (
 K t6.1 h7))) (⟨none, 0, 0⟩, false, 0) h4) h1)
noncomputable def A_r03_Put : Ann := .node (.reg [0,3] (.nil)) (.node (.reg [0,3,5] (.nil)) (.node (.reg [0,3,5,6] (.nil)) (.node (.node (.reg [3,5,6,12,13,14] (.nil)) (.loop [3,12,13] [(5,.c .slice),(6,.c .bool),(14,.c (.int .i64))] (.node (.reg [3,5,6,12,13,14,15] (.nil)) (.node (.nil) (.join [3,12,13,14] [(5,.c .slice),(6,.c .bool)] (.node (.reg [3,5,6,8,12,13,14] (.nil)) (.join [3,8,12,13,14] [(5,.c .slice),(6,.c .bool)] (.join [3,5,6,8,12,13,14] [(26,.c .bool)] (.reg [3,5,6,8,12,13,14,26] (.nil)) (.node (.reg [3,5,6,8,12,13,14] (.nil)) (.nil))) (.reg [3,5,6,12,13,14] (.nil)))) (.reg [3,5,6,12,13,14] (.nil))))))) (.node (.node (.reg [3,5,37] (.nil)) (.node (.reg [5] (.nil)) (.nil))) (.node (.reg [4] (.nil)) (.nil))))))
theorem H_r03_Put (x0 : SliceV) (x1 : ByteArray × ByteArray) {K : Tup [.c .slice] → Heap → Prop} {h0 : Heap} (h : F_r03_Put x0 x1 K h0) : HC PG f_r03_Put [.slice x0.a x0.len x0.cap, .agg #[.string x1.1, .string x1.2]] [.c .slice] K h0 := HC.intro (an := A_r03_Put) (c := Tryz.f50.body.getD .skip) Tryz.mixed Tryz.func50 rfl Tryz.call50 (Nat.le_of_ble_eq_true rfl) (cst (by kernel_rfl) h)
def F_r03_Drop (x0 : SliceV) (x1 : ByteArray) (K : (SliceV) → Heap → Prop) (h0 : Heap) : Prop :=
 LoopP (fun I1 (t2 : SliceV × Int) h3 =>
 CondP (decide (t2.2 < (x0.len : Int))) (
 Join (fun (t17 : SliceV) h18 =>
 I1 (t17, IntKind.wrap .i64 (t2.2 + 1)) h18) (fun J4 =>
 (iBd t2.2 x0.len ∧ ∃ a5, x0.a = some a5 ∧
 ∃ v6, cAt h3 (adr a5 (t2.2.toNat * 2)) 0 (.string v6) ∧
 ∃ v7, cAt h3 (adr a5 (t2.2.toNat * 2)) 1 (.string v7) ∧
 At (hnew h3 [.string (⟨#[]⟩ : ByteArray), .string (⟨#[]⟩ : ByteArray)] t_r03_Pair) (fun h8 =>
 (WrS h8 (some (newA h3)) 0 [.string v6, .string v7] ∧
 At (hsetL h8 (newA h3) 0 [.string v6, .string v7]) (fun h9 =>
 ∃ v10, cAt h9 (newA h3) 0 (.string v10) ∧
 CondP (!(v10.toList == x1.toList)) (
 ∃ v11, cAt h9 (newA h3) 0 (.string v11) ∧
 ∃ v12, cAt h9 (newA h3) 1 (.string v12) ∧
 At (hnew h9 [.string v11, .string v12] t_r03_Pair) (fun h13 =>
 ∃ xs14, SRow h13 (some (newA h9)) (1 * 2) xs14 ∧
 AppP (some [.string (⟨#[]⟩ : ByteArray), .string (⟨#[]⟩ : ByteArray)]) 2 32 t_r03_Pair t2.1.a t2.1.len t2.1.cap 1 xs14 h13 (fun s15 h16 =>
 J4 s15 h16))) (
 J4 t2.1 h9))))))) (
 K t2.1 h3)) (⟨none, 0, 0⟩, 0) h0
noncomputable def A_r03_Drop : Ann := .node (.reg [0,1] (.nil)) (.node (.reg [0,1,5] (.nil)) (.node (.node (.reg [1,5,8,9,10] (.nil)) (.loop [1,8,9] [(5,.c .slice),(10,.c (.int .i64))] (.node (.reg [1,5,8,9,10,11] (.nil)) (.node (.nil) (.join [1,8,9,10] [(5,.c .slice)] (.node (.reg [1,5,7,8,9,10] (.nil)) (.node (.reg [1,5,7,8,9,10,17] (.nil)) (.node (.reg [1,5,8,9,10] (.nil)) (.nil)))) (.reg [1,5,8,9,10] (.nil))))))) (.node (.reg [4] (.nil)) (.nil))))
theorem H_r03_Drop (x0 : SliceV) (x1 : ByteArray) {K : Tup [.c .slice] → Heap → Prop} {h0 : Heap} (h : F_r03_Drop x0 x1 K h0) : HC PG f_r03_Drop [.slice x0.a x0.len x0.cap, .string x1] [.c .slice] K h0 := HC.intro (an := A_r03_Drop) (c := Tryz.f54.body.getD .skip) Tryz.mixed Tryz.func54 rfl Tryz.call54 (Nat.le_of_ble_eq_true rfl) (cst (by kernel_rfl) h)
def F_radix_Node_Label (x0 : Option Addr) (K : (ByteArray) → Heap → Prop) (h0 : Heap) : Prop :=
 CondP x0.isNone (
 K (⟨#[]⟩ : ByteArray) h0) (
 ∃ a1, x0 = some a1 ∧
 ∃ v2, cAt h0 a1 0 (.string v2) ∧
 K v2 h0)
noncomputable def A_radix_Node_Label : Ann := .node (.reg [0] (.nil)) (.node (.node (.reg [0,4] (.nil)) (.node (.node (.reg [2] (.nil)) (.nil)) (.nil))) (.node (.reg [2] (.nil)) (.nil)))
theorem H_radix_Node_Label (x0 : Option Addr) {K : Tup [.c .str] → Heap → Prop} {h0 : Heap} (h : F_radix_Node_Label x0 K h0) : HC PG f_radix_Node_Label [.pointer x0] [.c .str] K h0 := HC.intro (an := A_radix_Node_Label) (c := Tryz.f55.body.getD .skip) Tryz.mixed Tryz.func55 rfl Tryz.call55 (Nat.le_of_ble_eq_true rfl) (cst (by kernel_rfl) h)
def F_diff_set_lists (x0 : Option Addr) (x1 : SliceV) (x2 : SliceV) (K : (Unit) → Heap → Prop) (h0 : Heap) : Prop :=
 LoopP (fun I1 (t2 : SliceV × SliceV) h3 =>
 Join (fun (t5 : Bool) h6 =>
 CondP t5 (
 Join (fun (t12 : Bool) h13 =>
 CondP t12 (
 Join (fun (t27 : Unit) h28 =>
 (((0 : Int) ≤ (1 : Int) ∧ (1 : Int) ≤ ((t2.1.len : Nat) : Int)) ∧
 Bd (subAddr t2.1.a ((1 : Int).toNat) t2.1.cap 2 : Option Addr) (fun a29 => Bd (t2.1.len - ((1 : Int).toNat) : Nat) (fun n30 => Bd (t2.1.cap - ((1 : Int).toNat) : Nat) (fun n31 =>
 I1 (⟨a29, n30, n31⟩, t2.2) h28))))) (fun J14 =>
 ∃ a15, x0 = some a15 ∧
 ∃ v16 : SliceV, cAt h13 a15 3 (.slice v16.a v16.len v16.cap) ∧
 (iBd 0 t2.1.len ∧ ∃ a17, t2.1.a = some a17 ∧
 ∃ v18, cAt h13 (adr a17 ((0 : Int).toNat * 2)) 0 (.string v18) ∧
 (iBd 0 t2.1.len ∧ ∃ a19, t2.1.a = some a19 ∧
 ∃ v20, cAt h13 (adr a19 ((0 : Int).toNat * 2)) 1 (.string v20) ∧
 At (hnew h13 [.string v18, .string v20, .string (⟨#[]⟩ : ByteArray), .bool true, .bool false] t_diff_Change) (fun h21 =>
 (cAt h21 a15 3 (.slice v16.a v16.len v16.cap) ∧
 ∃ xs22, SRow h21 (some (newA h13)) (1 * 5) xs22 ∧
 AppP (some [.string (⟨#[]⟩ : ByteArray), .string (⟨#[]⟩ : ByteArray), .string (⟨#[]⟩ : ByteArray), .bool false, .bool false]) 5 56 t_diff_Change v16.a v16.len v16.cap 1 xs22 h21 (fun s23 h24 =>
 ∃ a25, x0 = some a25 ∧
 (Wr h24 (adr a25 3) ∧
 At (hset h24 (adr a25 3) (.slice s23.a s23.len s23.cap)) (fun h26 =>
 J14 () h26))))))))) (
 Join (fun (t37 : Bool) h38 =>
 CondP t37 (
 Join (fun (t52 : Unit) h53 =>
 (((0 : Int) ≤ (1 : Int) ∧ (1 : Int) ≤ ((t2.2.len : Nat) : Int)) ∧
 Bd (subAddr t2.2.a ((1 : Int).toNat) t2.2.cap 2 : Option Addr) (fun a54 => Bd (t2.2.len - ((1 : Int).toNat) : Nat) (fun n55 => Bd (t2.2.cap - ((1 : Int).toNat) : Nat) (fun n56 =>
 I1 (t2.1, ⟨a54, n55, n56⟩) h53))))) (fun J39 =>
 ∃ a40, x0 = some a40 ∧
 ∃ v41 : SliceV, cAt h38 a40 3 (.slice v41.a v41.len v41.cap) ∧
 (iBd 0 t2.2.len ∧ ∃ a42, t2.2.a = some a42 ∧
 ∃ v43, cAt h38 (adr a42 ((0 : Int).toNat * 2)) 0 (.string v43) ∧
 (iBd 0 t2.2.len ∧ ∃ a44, t2.2.a = some a44 ∧
 ∃ v45, cAt h38 (adr a44 ((0 : Int).toNat * 2)) 1 (.string v45) ∧
 At (hnew h38 [.string v43, .string (⟨#[]⟩ : ByteArray), .string v45, .bool false, .bool true] t_diff_Change) (fun h46 =>
 (cAt h46 a40 3 (.slice v41.a v41.len v41.cap) ∧
 ∃ xs47, SRow h46 (some (newA h38)) (1 * 5) xs47 ∧
 AppP (some [.string (⟨#[]⟩ : ByteArray), .string (⟨#[]⟩ : ByteArray), .string (⟨#[]⟩ : ByteArray), .bool false, .bool false]) 5 56 t_diff_Change v41.a v41.len v41.cap 1 xs47 h46 (fun s48 h49 =>
 ∃ a50, x0 = some a50 ∧
 (Wr h49 (adr a50 3) ∧
 At (hset h49 (adr a50 3) (.slice s48.a s48.len s48.cap)) (fun h51 =>
 J39 () h51))))))))) (
 Join (fun (t76 : Unit) h77 =>
 (((0 : Int) ≤ (1 : Int) ∧ (1 : Int) ≤ ((t2.1.len : Nat) : Int)) ∧
 Bd (subAddr t2.1.a ((1 : Int).toNat) t2.1.cap 2 : Option Addr) (fun a78 => Bd (t2.1.len - ((1 : Int).toNat) : Nat) (fun n79 => Bd (t2.1.cap - ((1 : Int).toNat) : Nat) (fun n80 =>
 (((0 : Int) ≤ (1 : Int) ∧ (1 : Int) ≤ ((t2.2.len : Nat) : Int)) ∧
 Bd (subAddr t2.2.a ((1 : Int).toNat) t2.2.cap 2 : Option Addr) (fun a81 => Bd (t2.2.len - ((1 : Int).toNat) : Nat) (fun n82 => Bd (t2.2.cap - ((1 : Int).toNat) : Nat) (fun n83 =>
 I1 (⟨a78, n79, n80⟩, ⟨a81, n82, n83⟩) h77))))))))) (fun J57 =>
 (iBd 0 t2.1.len ∧ ∃ a58, t2.1.a = some a58 ∧
 ∃ v59, cAt h38 (adr a58 ((0 : Int).toNat * 2)) 1 (.string v59) ∧
 (iBd 0 t2.2.len ∧ ∃ a60, t2.2.a = some a60 ∧
 ∃ v61, cAt h38 (adr a60 ((0 : Int).toNat * 2)) 1 (.string v61) ∧
 CondP (!(v59.toList == v61.toList)) (
 ∃ a62, x0 = some a62 ∧
 ∃ v63 : SliceV, cAt h38 a62 3 (.slice v63.a v63.len v63.cap) ∧
 (iBd 0 t2.1.len ∧ ∃ a64, t2.1.a = some a64 ∧
 ∃ v65, cAt h38 (adr a64 ((0 : Int).toNat * 2)) 0 (.string v65) ∧
 (iBd 0 t2.1.len ∧ ∃ a66, t2.1.a = some a66 ∧
 ∃ v67, cAt h38 (adr a66 ((0 : Int).toNat * 2)) 1 (.string v67) ∧
 (iBd 0 t2.2.len ∧ ∃ a68, t2.2.a = some a68 ∧
 ∃ v69, cAt h38 (adr a68 ((0 : Int).toNat * 2)) 1 (.string v69) ∧
 At (hnew h38 [.string v65, .string v67, .string v69, .bool true, .bool true] t_diff_Change) (fun h70 =>
 (cAt h70 a62 3 (.slice v63.a v63.len v63.cap) ∧
 ∃ xs71, SRow h70 (some (newA h38)) (1 * 5) xs71 ∧
 AppP (some [.string (⟨#[]⟩ : ByteArray), .string (⟨#[]⟩ : ByteArray), .string (⟨#[]⟩ : ByteArray), .bool false, .bool false]) 5 56 t_diff_Change v63.a v63.len v63.cap 1 xs71 h70 (fun s72 h73 =>
 ∃ a74, x0 = some a74 ∧
 (Wr h73 (adr a74 3) ∧
 At (hset h73 (adr a74 3) (.slice s72.a s72.len s72.cap)) (fun h75 =>
 J57 () h75))))))))) (
 J57 () h38)))))) (fun J32 =>
 CondP ((t2.1.len : Int) == (0 : Int)) (
 J32 true h13) (
 (iBd 0 t2.2.len ∧ ∃ a33, t2.2.a = some a33 ∧
 ∃ v34, cAt h13 (adr a33 ((0 : Int).toNat * 2)) 0 (.string v34) ∧
 (iBd 0 t2.1.len ∧ ∃ a35, t2.1.a = some a35 ∧
 ∃ v36, cAt h13 (adr a35 ((0 : Int).toNat * 2)) 0 (.string v36) ∧
 J32 (Op.bytesLess v34.toList v36.toList) h13)))))) (fun J7 =>
 CondP ((t2.2.len : Int) == (0 : Int)) (
 J7 true h6) (
 CondP (decide ((t2.1.len : Int) > (0 : Int))) (
 (iBd 0 t2.1.len ∧ ∃ a8, t2.1.a = some a8 ∧
 ∃ v9, cAt h6 (adr a8 ((0 : Int).toNat * 2)) 0 (.string v9) ∧
 (iBd 0 t2.2.len ∧ ∃ a10, t2.2.a = some a10 ∧
 ∃ v11, cAt h6 (adr a10 ((0 : Int).toNat * 2)) 0 (.string v11) ∧
 J7 (Op.bytesLess v9.toList v11.toList) h6))) (
 J7 false h6)))) (
 K () h6)) (fun J4 =>
 CondP (decide ((t2.1.len : Int) > (0 : Int))) (
 J4 true h3) (
 J4 (decide ((t2.2.len : Int) > (0 : Int))) h3))) (x1, x2) h0
noncomputable def A_diff_set_lists : Ann := .loop [0] [(1,.c .slice),(2,.c .slice)] (.node (.join [0,1,2] [(13,.c .bool)] (.reg [0,1,2,13] (.nil)) (.nil)) (.join [0,1,2] [(49,.c .bool)] (.reg [0,1,2,49] (.draw (dl 20 [dm [] [2] 51,dm [0] [50] 52,dm [1] [51] 53,dm [2] [52] 54,dm [3] [1,53] 55,dm [3,4] [53,54] 56,dm [3,5] [53,55] 57,dm [3,6] [53,56] 58,dm [7] [1,57] 59,dm [7,8] [57,58] 60,dm [7,9] [57,59] 61,dm [7,10] [57,60] 62,dm [7] [2,57] 63,dm [7,12] [57,62] 64,dm [7,13] [57,63] 65,dm [7,14] [57,64] 66,dm [7,11,15] [57,61,65] 67,dm [3,7,16] [53,57,66] 68,dm [3,17] [53,67] 69,dn [7,18] [18] [68] 50]) (tr 0 4 (.split 53 (tr 4 16 (.done)) (tr 4 4 (.split 57 (tr 8 12 (.done)) (tr 8 12 (.done)))))))) (.node (.join [0,1,2] [] (.reg [0,1,2] (.draw (dl 19 [dm [] [0] 70,dm [] [0] 71,dm [1] [70] 72,dm [2] [71] 73,dm [3] [72] 74,dm [] [1] 75,dm [5] [74] 76,dm [6] [75] 77,dm [7] [76] 78,dm [] [1] 79,dm [9] [78] 80,dm [10] [79] 81,dm [11] [80] 82,dm [8,12] [77,81] 83,dm [13] [82] 84,dm [4,14] [73,83] 85,dn [0,1,2,3,4,5,6,7,8,9,10,11,12,13,14,15] [0] [69] 86,dn [0,1,2,3,4,5,6,7,8,9,10,11,12,13,14,15,16] [16] [85] 87,dn [0,1,2,3,4,5,6,7,8,9,10,11,12,13,14,15,17] [15,17] [84,86] 0]) (tr 0 14 (.all (.lastT 14 (.all (.lastT 15 (.take 16 (.take 17 (.all (.lastT 18 (.done)))))))))))) (.reg [0,1,2] (.nil))) (.join [0,1,2] [(89,.c .bool)] (.reg [0,1,2,89] (.draw (dl 15 [dm [] [1] 91,dm [0] [90] 92,dm [1] [91] 93,dm [2] [92] 94,dm [3] [2,93] 95,dm [3,4] [93,94] 96,dm [3,5] [93,95] 97,dm [3,6] [93,96] 98,dm [3] [1,93] 99,dm [3,8] [93,98] 100,dm [3,9] [93,99] 101,dm [3,10] [93,100] 102,dm [3,7,11] [93,97,101] 103,dm [3,12] [93,102] 104,dn [3,13] [13] [103] 90]) (tr 0 4 (.split 93 (tr 4 11 (.done)) (tr 4 11 (.done)))))) (.node (.join [0,1,2] [] (.reg [0,1,2] (.draw (dl 19 [dm [] [0] 105,dm [] [0] 106,dm [1] [105] 107,dm [2] [106] 108,dm [3] [107] 109,dm [] [2] 110,dm [5] [109] 111,dm [6] [110] 112,dm [7] [111] 113,dm [] [2] 114,dm [9] [113] 115,dm [10] [114] 116,dm [11] [115] 117,dm [8,12] [112,116] 118,dm [13] [117] 119,dm [4,14] [108,118] 120,dn [0,1,2,3,4,5,6,7,8,9,10,11,12,13,14,15] [0] [104] 121,dn [0,1,2,3,4,5,6,7,8,9,10,11,12,13,14,15,16] [16] [120] 122,dn [0,1,2,3,4,5,6,7,8,9,10,11,12,13,14,15,17] [15,17] [119,121] 0]) (tr 0 14 (.all (.lastT 14 (.all (.lastT 15 (.take 16 (.take 17 (.all (.lastT 18 (.done)))))))))))) (.reg [0,1,2] (.nil))) (.join [0,1,2] [] (.node (.reg [0,1,2,22] (.draw (dl 9 [dm [] [1] 15,dm [0] [14] 16,dm [1] [15] 17,dm [2] [16] 18,dm [] [2] 19,dm [4] [18] 20,dm [5] [19] 21,dm [6] [20] 22,dm [3,7] [17,21] 23]) (tr 0 9 (.done)))) (.node (.reg [0,1,2] (.draw (dl 23 [dm [] [0] 24,dm [] [0] 25,dm [1] [24] 26,dm [2] [25] 27,dm [3] [26] 28,dm [] [1] 29,dm [5] [28] 30,dm [6] [29] 31,dm [7] [30] 32,dm [] [1] 33,dm [9] [32] 34,dm [10] [33] 35,dm [11] [34] 36,dm [] [2] 37,dm [13] [36] 38,dm [14] [37] 39,dm [15] [38] 40,dm [8,12,16] [31,35,39] 41,dm [17] [40] 42,dm [4,18] [27,41] 43,dn [0,1,2,3,4,5,6,7,8,9,10,11,12,13,14,15,16,17,18,19] [0] [23] 44,dn [0,1,2,3,4,5,6,7,8,9,10,11,12,13,14,15,16,17,18,19,20] [20] [43] 45,dn [0,1,2,3,4,5,6,7,8,9,10,11,12,13,14,15,16,17,18,19,21] [19,21] [42,44] 0]) (tr 0 18 (.all (.lastT 18 (.all (.lastT 19 (.take 20 (.take 21 (.all (.lastT 22 (.done)))))))))))) (.nil))) (.reg [0,1,2] (.draw (dl 6 [dm [] [1] 46,dm [0] [45] 47,dm [] [2] 48,dm [2] [47] 49,dm [0,1] [46] 2,dn [0,1,2,3,4] [2,3] [48] 3]) (tr 0 6 (.done))))))))))
theorem H_diff_set_lists (x0 : Option Addr) (x1 : SliceV) (x2 : SliceV) {K : Tup [] → Heap → Prop} {h0 : Heap} (h : F_diff_set_lists x0 x1 x2 K h0) : HC PG f_diff_set_lists [.pointer x0, .slice x1.a x1.len x1.cap, .slice x2.a x2.len x2.cap] [] K h0 := HC.intro (an := A_diff_set_lists) (c := Tryz.f56.body.getD .skip) Tryz.mixed Tryz.func56 rfl Tryz.call56 (Nat.le_of_ble_eq_true rfl) (cst (by kernel_rfl) h)
def F_diff_some (x0 : Option Addr) (x1 : ByteArray) (K : (SliceV) → Heap → Prop) (h0 : Heap) : Prop :=
 CondP x0.isNone (
 K ⟨none, 0, 0⟩ h0) (
 HC PG f_radix_Node_Label [.pointer x0] [.c .str] (fun (e1 : ByteArray) h2 =>
 (((x1.size + e1.size : Nat) : Int) ≤ 9223372036854775807 ∧
 Join (fun (t10 : SliceV) h11 =>
 HC PG f_radix_Node_Kids [.pointer x0] [.c .slice] (fun (e12 : SliceV) h13 =>
 LoopP (fun I14 (t15 : SliceV × Int) h16 =>
 CondP (decide (t15.2 < (e12.len : Int))) (
 Join (fun (t25 : SliceV) h26 =>
 I14 (t25, IntKind.wrap .i64 (t15.2 + 1)) h26) (fun J17 =>
 (iBd t15.2 e12.len ∧ ∃ a18, e12.a = some a18 ∧
 ∃ v19, cAt h16 a18 (t15.2.toNat * 1) (.pointer v19) ∧
 HC PG f_diff_some [.pointer v19, .string (x1 ++ e1)] [.c .slice] (fun (e20 : SliceV) h21 =>
 ∃ xs22, SRow h21 e20.a (e20.len * 2) xs22 ∧
 AppP (some [.string (⟨#[]⟩ : ByteArray), .string (⟨#[]⟩ : ByteArray)]) 2 32 t_pair_Pair t15.1.a t15.1.len t15.1.cap e20.len xs22 h21 (fun s23 h24 =>
 J17 s23 h24)) h16))) (
 K t15.1 h16)) (t10, 0) h13) h11) (fun J3 =>
 HC PG f_radix_Node_Value [.pointer x0] [.c .str, .c .bool] (fun (e4 : ByteArray × Bool) h5 =>
 CondP e4.2 (
 At (hnew h5 [.string (x1 ++ e1), .string e4.1] t_pair_Pair) (fun h6 =>
 ∃ xs7, SRow h6 (some (newA h5)) (1 * 2) xs7 ∧
 AppP (some [.string (⟨#[]⟩ : ByteArray), .string (⟨#[]⟩ : ByteArray)]) 2 32 t_pair_Pair none 0 0 1 xs7 h6 (fun s8 h9 =>
 J3 s8 h9))) (
 J3 ⟨none, 0, 0⟩ h5)) h2))) h0)
noncomputable def A_diff_some : Ann := .node (.reg [0,1] (.nil)) (.node (.node (.reg [0,1,12] (.nil)) (.node (.node (.reg [4] (.nil)) (.nil)) (.nil))) (.node (.reg [0,5] (.nil)) (.node (.reg [0,5,6] (.nil)) (.join [0,5] [(6,.c .slice)] (.node (.reg [0,5,6,7,8] (.nil)) (.node (.reg [0,5,6,7,22] (.nil)) (.node (.reg [0,5,6] (.nil)) (.nil)))) (.node (.node (.reg [5,6,30,31,32] (.nil)) (.loop [5,30,31] [(6,.c .slice),(32,.c (.int .i64))] (.node (.reg [5,6,30,31,32,33] (.nil)) (.node (.nil) (.join [5,30,31,32] [(6,.c .slice)] (.node (.reg [5,6,10,30,31,32] (.nil)) (.reg [5,6,30,31,32] (.nil))) (.reg [5,6,30,31,32] (.nil))))))) (.node (.reg [4] (.nil)) (.nil)))))))
theorem H_diff_some (x0 : Option Addr) (x1 : ByteArray) {K : Tup [.c .slice] → Heap → Prop} {h0 : Heap} (h : F_diff_some x0 x1 K h0) : HC PG f_diff_some [.pointer x0, .string x1] [.c .slice] K h0 := HC.intro (an := A_diff_some) (c := Tryz.f57.body.getD .skip) Tryz.mixed Tryz.func57 rfl Tryz.call57 (Nat.le_of_ble_eq_true rfl) (cst (by kernel_rfl) h)
def F_diff_own (x0 : Option Addr) (x1 : ByteArray) (K : (SliceV) → Heap → Prop) (h0 : Heap) : Prop :=
 HC PG f_radix_Node_Value [.pointer x0] [.c .str, .c .bool] (fun (e1 : ByteArray × Bool) h2 =>
 CondP (!e1.2) (
 K ⟨none, 0, 0⟩ h2) (
 At (hnew h2 [.string x1, .string e1.1] t_pair_Pair) (fun h3 =>
 K ⟨some (newA h2), 1, 1⟩ h3))) h0
noncomputable def A_diff_own : Ann := .node (.reg [0,1] (.nil)) (.node (.reg [1,5,6] (.nil)) (.node (.node (.reg [1,5,13] (.nil)) (.node (.node (.reg [4] (.nil)) (.nil)) (.nil))) (.node (.reg [4] (.nil)) (.nil))))
theorem H_diff_own (x0 : Option Addr) (x1 : ByteArray) {K : Tup [.c .slice] → Heap → Prop} {h0 : Heap} (h : F_diff_own x0 x1 K h0) : HC PG f_diff_own [.pointer x0, .string x1] [.c .slice] K h0 := HC.intro (an := A_diff_own) (c := Tryz.f58.body.getD .skip) Tryz.mixed Tryz.func58 rfl Tryz.call58 (Nat.le_of_ble_eq_true rfl) (cst (by kernel_rfl) h)
def F_radix_Node_Kids (x0 : Option Addr) (K : (SliceV) → Heap → Prop) (h0 : Heap) : Prop :=
 CondP x0.isNone (
 K ⟨none, 0, 0⟩ h0) (
 ∃ a1, x0 = some a1 ∧
 ∃ v2 : SliceV, cAt h0 a1 3 (.slice v2.a v2.len v2.cap) ∧
 HC PG f_slices_Clone_A_P_radix_Node_P_radix_Node [.slice v2.a v2.len v2.cap] [.c .slice] (fun (e3 : SliceV) h4 =>
 K e3 h4) h0)
noncomputable def A_radix_Node_Kids : Ann := .node (.reg [0] (.nil)) (.node (.node (.reg [0,4] (.nil)) (.node (.node (.reg [2] (.nil)) (.nil)) (.nil))) (.node (.reg [2] (.nil)) (.nil)))
theorem H_radix_Node_Kids (x0 : Option Addr) {K : Tup [.c .slice] → Heap → Prop} {h0 : Heap} (h : F_radix_Node_Kids x0 K h0) : HC PG f_radix_Node_Kids [.pointer x0] [.c .slice] K h0 := HC.intro (an := A_radix_Node_Kids) (c := Tryz.f59.body.getD .skip) Tryz.mixed Tryz.func59 rfl Tryz.call59 (Nat.le_of_ble_eq_true rfl) (cst (by kernel_rfl) h)
def F_node_Node_IsBucket (x0 : Option Addr) (K : (Bool) → Heap → Prop) (h0 : Heap) : Prop :=
 CondP (!(x0.isNone)) (
 ∃ a1, x0 = some a1 ∧
 ∃ v2, cAt h0 a1 4 (.bool v2) ∧
 K v2 h0) (
 K false h0)
noncomputable def A_node_Node_IsBucket : Ann := .node (.reg [0] (.nil)) (.node (.reg [2] (.nil)) (.nil))
theorem H_node_Node_IsBucket (x0 : Option Addr) {K : Tup [.c .bool] → Heap → Prop} {h0 : Heap} (h : F_node_Node_IsBucket x0 K h0) : HC PG f_node_Node_IsBucket [.pointer x0] [.c .bool] K h0 := HC.intro (an := A_node_Node_IsBucket) (c := Tryz.f60.body.getD .skip) Tryz.mixed Tryz.func60 rfl Tryz.call60 (Nat.le_of_ble_eq_true rfl) (cst (by kernel_rfl) h)
def F_node_Node_Pairs (x0 : Option Addr) (K : (SliceV) → Heap → Prop) (h0 : Heap) : Prop :=
 CondP x0.isNone (
 K ⟨none, 0, 0⟩ h0) (
 ∃ a1, x0 = some a1 ∧
 ∃ v2 : SliceV, cAt h0 (adr a1 0) 2 (.slice v2.a v2.len v2.cap) ∧
 HC PG f_slices_Clone_A_pair_Pair_pair_Pair [.slice v2.a v2.len v2.cap] [.c .slice] (fun (e3 : SliceV) h4 =>
 K e3 h4) h0)
noncomputable def A_node_Node_Pairs : Ann := .node (.reg [0] (.nil)) (.node (.node (.reg [0,4] (.nil)) (.node (.node (.reg [2] (.nil)) (.nil)) (.nil))) (.node (.reg [2] (.nil)) (.nil)))
theorem H_node_Node_Pairs (x0 : Option Addr) {K : Tup [.c .slice] → Heap → Prop} {h0 : Heap} (h : F_node_Node_Pairs x0 K h0) : HC PG f_node_Node_Pairs [.pointer x0] [.c .slice] K h0 := HC.intro (an := A_node_Node_Pairs) (c := Tryz.f61.body.getD .skip) Tryz.mixed Tryz.func61 rfl Tryz.call61 (Nat.le_of_ble_eq_true rfl) (cst (by kernel_rfl) h)
def F_node_Node_Kid (x0 : Option Addr) (x1 : Int) (K : ((Option Addr) × Bool) → Heap → Prop) (h0 : Heap) : Prop :=
 HC PG f_node_Node_Nodes [.pointer x0] [.c (.int .u32)] (fun (e1 : Int) h2 =>
 HC PG f_chunk_Bits_Has [.int .u32 e1, .int .i64 x1] [.c .bool] (fun (e3 : Bool) h4 =>
 CondP (!e3) (
 K (none, false) h4) (
 ∃ a5, x0 = some a5 ∧
 ∃ v6 : SliceV, cAt h4 (adr a5 0) 3 (.slice v6.a v6.len v6.cap) ∧
 ∃ a7, x0 = some a7 ∧
 ∃ v8, cAt h4 (adr a7 0) 1 (.int .u32 v8) ∧
 HC PG f_chunk_Bits_Rank [.int .u32 v8, .int .i64 x1] [.c (.int .i64)] (fun (e9 : Int) h10 =>
 (cAt h10 (adr a5 0) 3 (.slice v6.a v6.len v6.cap) ∧
 (iBd e9 v6.len ∧ ∃ a11, v6.a = some a11 ∧
 ∃ v12, cAt h10 a11 (e9.toNat * 1) (.pointer v12) ∧
 K (v12, true) h10))) h4)) h2) h0
noncomputable def A_node_Node_Kid : Ann := .node (.reg [0,1] (.nil)) (.node (.node (.reg [0,1,10] (.nil)) (.node (.node (.reg [4,5] (.nil)) (.nil)) (.nil))) (.node (.reg [4,5] (.draw (dl 16 [dm [] [0] 12,dm [0] [11] 13,dm [1] [12] 14,dm [2] [13] 15,dm [3] [14] 16,dm [] [0] 17,dm [5] [16] 18,dm [6] [17] 19,dm [7] [18] 20,dm [8] [19] 21,dm [] [1] 22,dm [9,10] [20,21] 23,dm [4,11] [15,22] 24,dm [12] [23] 25,dn [0,1,2,3,4,5,6,7,8,9,10,11,12,13] [13] [24] 5,dn [0,1,2,3,4,5,6,7,8,9,10,11,12,13,14] [] [] 6]) (tr 0 11 (.all (.last 11 (tr 12 4 (.done))))))) (.nil)))
theorem H_node_Node_Kid (x0 : Option Addr) (x1 : Int) {K : Tup [.c .ptr, .c .bool] → Heap → Prop} {h0 : Heap} (h : F_node_Node_Kid x0 x1 K h0) : HC PG f_node_Node_Kid [.pointer x0, .int .i64 x1] [.c .ptr, .c .bool] K h0 := HC.intro (an := A_node_Node_Kid) (c := Tryz.f62.body.getD .skip) Tryz.mixed Tryz.func62 rfl Tryz.call62 (Nat.le_of_ble_eq_true rfl) (cst (by kernel_rfl) h)
def F_diff_slot (x0 : Option Addr) (x1 : Int) (K : (SliceV) → Heap → Prop) (h0 : Heap) : Prop :=
 HC PG f_node_Node_Pair [.pointer x0, .int .i64 x1] [.agg [.str, .str], .c .bool] (fun (e1 : (ByteArray × ByteArray) × Bool) h2 =>
 At (hnew h2 [.string (⟨#[]⟩ : ByteArray), .string (⟨#[]⟩ : ByteArray)] t_pair_Pair) (fun h3 =>
 (WrS h3 (some (newA h2)) 0 [.string e1.1.1, .string e1.1.2] ∧
 At (hsetL h3 (newA h2) 0 [.string e1.1.1, .string e1.1.2]) (fun h4 =>
 CondP e1.2 (
 ∃ v5, cAt h4 (newA h2) 0 (.string v5) ∧
 ∃ v6, cAt h4 (newA h2) 1 (.string v6) ∧
 At (hnew h4 [.string v5, .string v6] t_pair_Pair) (fun h7 =>
 K ⟨some (newA h4), 1, 1⟩ h7)) (
 HC PG f_node_Node_Kid [.pointer x0, .int .i64 x1] [.c .ptr, .c .bool] (fun (e8 : (Option Addr) × Bool) h9 =>
 HC PG f_walk_Sorted [.pointer e8.1] [.c .slice] (fun (e10 : SliceV) h11 =>
 K e10 h11) h9) h4))))) h0
noncomputable def A_diff_slot : Ann := .node (.reg [0,1] (.nil)) (.node (.node (.reg [0,1,5,6] (.nil)) (.node (.reg [0,1,5,15] (.nil)) (.node (.node (.reg [4] (.nil)) (.nil)) (.nil)))) (.node (.reg [7] (.nil)) (.node (.reg [4] (.nil)) (.nil))))
theorem H_diff_slot (x0 : Option Addr) (x1 : Int) {K : Tup [.c .slice] → Heap → Prop} {h0 : Heap} (h : F_diff_slot x0 x1 K h0) : HC PG f_diff_slot [.pointer x0, .int .i64 x1] [.c .slice] K h0 := HC.intro (an := A_diff_slot) (c := Tryz.f63.body.getD .skip) Tryz.mixed Tryz.func63 rfl Tryz.call63 (Nat.le_of_ble_eq_true rfl) (cst (by kernel_rfl) h)
def F_champ_Empty  (K : (Option Addr) → Heap → Prop) (h0 : Heap) : Prop :=
 HC PG f_node_Inner [] [.c .ptr] (fun (e1 : Option Addr) h2 =>
 K e1 h2) h0
noncomputable def A_champ_Empty : Ann := .node (.reg [] (.nil)) (.node (.reg [0] (.nil)) (.nil))
theorem H_champ_Empty  {K : Tup [.c .ptr] → Heap → Prop} {h0 : Heap} (h : F_champ_Empty  K h0) : HC PG f_champ_Empty [] [.c .ptr] K h0 := HC.intro (an := A_champ_Empty) (c := Tryz.f64.body.getD .skip) Tryz.mixed Tryz.func64 rfl Tryz.call64 (Nat.le_of_ble_eq_true rfl) (cst (by kernel_rfl) h)
def F_slices_pdqsortCmpFunc_diff_Change (x0 : SliceV) (x1 : Int) (x2 : Int) (x3 : Int) (x4 : Value) (K : (Unit) → Heap → Prop) (h0 : Heap) : Prop :=
 LoopP (fun I1 (t2 : Int × Int × Int × Bool × Bool) h3 =>
 CondP (decide ((IntKind.wrap .i64 (t2.2.1 - t2.1)) ≤ (12 : Int))) (
 HC PG f_slices_insertionSortCmpFunc_diff_Change [.slice x0.a x0.len x0.cap, .int .i64 t2.1, .int .i64 t2.2.1, x4] [] (fun (e4 : Unit) h5 =>
 K () h5) h3) (
 CondP (t2.2.2.1 == (0 : Int)) (
 HC PG f_slices_heapSortCmpFunc_diff_Change [.slice x0.a x0.len x0.cap, .int .i64 t2.1, .int .i64 t2.2.1, x4] [] (fun (e6 : Unit) h7 =>
 K () h7) h3) (
 Join (fun (t11 : Int) h12 =>
 HC PG f_slices_choosePivotCmpFunc_diff_Change [.slice x0.a x0.len x0.cap, .int .i64 t2.1, .int .i64 t2.2.1, x4] [.c (.int .i64), .c (.int .i64)] (fun (e13 : Int × Int) h14 =>
 Join (fun (t19 : Int × Int) h20 =>
 Join (fun (t27 : Unit) h28 =>
 Join (fun (t44 : Bool) h45 =>
 CondP t44 (
 HC PG f_slices_partitionEqualCmpFunc_diff_Change [.slice x0.a x0.len x0.cap, .int .i64 t2.1, .int .i64 t2.2.1, .int .i64 t19.1, x4] [.c (.int .i64)] (fun (e46 : Int) h47 =>
 I1 (e46, t2.2.1, t11, t2.2.2.2.1, t2.2.2.2.2) h47) h45) (
 HC PG f_slices_partitionCmpFunc_diff_Change [.slice x0.a x0.len x0.cap, .int .i64 t2.1, .int .i64 t2.2.1, .int .i64 t19.1, x4] [.c (.int .i64), .c .bool] (fun (e48 : Int × Bool) h49 =>
 ((8 : Int) ≠ 0 ∧
 CondP (decide ((IntKind.wrap .i64 (e48.1 - t2.1)) < (IntKind.wrap .i64 (t2.2.1 - e48.1)))) (
 HC PG f_slices_pdqsortCmpFunc_diff_Change [.slice x0.a x0.len x0.cap, .int .i64 t2.1, .int .i64 e48.1, .int .i64 t11, x4] [] (fun (e50 : Unit) h51 =>
 I1 (IntKind.wrap .i64 (e48.1 + 1), t2.2.1, t11, decide ((IntKind.wrap .i64 (e48.1 - t2.1)) ≥ (IntKind.wrap .i64 (Int.tdiv (IntKind.wrap .i64 (t2.2.1 - t2.1)) 8))), e48.2) h51) h49) (
 HC PG f_slices_pdqsortCmpFunc_diff_Change [.slice x0.a x0.len x0.cap, .int .i64 (IntKind.wrap .i64 (e48.1 + 1)), .int .i64 t2.2.1, .int .i64 t11, x4] [] (fun (e52 : Unit) h53 =>
 I1 (t2.1, e48.1, t11, decide ((IntKind.wrap .i64 (t2.2.1 - e48.1)) ≥ (IntKind.wrap .i64 (Int.tdiv (IntKind.wrap .i64 (t2.2.1 - t2.1)) 8))), e48.2) h53) h49))) h45)) (fun J29 =>
 CondP (decide (t2.1 > (0 : Int))) (
 (iBd (IntKind.wrap .i64 (t2.1 - 1)) x0.len ∧ ∃ a30, x0.a = some a30 ∧
 ∃ v31, cAt h28 (adr a30 ((IntKind.wrap .i64 (t2.1 - 1)).toNat * 5)) 0 (.string v31) ∧
 ∃ v32, cAt h28 (adr a30 ((IntKind.wrap .i64 (t2.1 - 1)).toNat * 5)) 1 (.string v32) ∧
 ∃ v33, cAt h28 (adr a30 ((IntKind.wrap .i64 (t2.1 - 1)).toNat * 5)) 2 (.string v33) ∧
 ∃ v34, cAt h28 (adr a30 ((IntKind.wrap .i64 (t2.1 - 1)).toNat * 5)) 3 (.bool v34) ∧
 ∃ v35, cAt h28 (adr a30 ((IntKind.wrap .i64 (t2.1 - 1)).toNat * 5)) 4 (.bool v35) ∧
 (iBd t19.1 x0.len ∧ ∃ a36, x0.a = some a36 ∧
 ∃ v37, cAt h28 (adr a36 (t19.1.toNat * 5)) 0 (.string v37) ∧
 ∃ v38, cAt h28 (adr a36 (t19.1.toNat * 5)) 1 (.string v38) ∧
 ∃ v39, cAt h28 (adr a36 (t19.1.toNat * 5)) 2 (.string v39) ∧
 ∃ v40, cAt h28 (adr a36 (t19.1.toNat * 5)) 3 (.bool v40) ∧
 ∃ v41, cAt h28 (adr a36 (t19.1.toNat * 5)) 4 (.bool v41) ∧
 HV PG x4 [.agg #[.string v31, .string v32, .string v33, .bool v34, .bool v35], .agg #[.string v37, .string v38, .string v39, .bool v40, .bool v41]] [.c (.int .i64)] (fun (e42 : Int) h43 =>
 J29 (!(decide (e42 < (0 : Int)))) h43) h28))) (
 J29 false h28))) (fun J21 =>
 Join (fun (t23 : Bool) h24 =>
 CondP t23 (
 HC PG f_slices_partialInsertionSortCmpFunc_diff_Change [.slice x0.a x0.len x0.cap, .int .i64 t2.1, .int .i64 t2.2.1, x4] [.c .bool] (fun (e25 : Bool) h26 =>
 CondP e25 (
 K () h26) (
 J21 () h26)) h24) (
 J21 () h24)) (fun J22 =>
 CondP t2.2.2.2.1 (
 CondP t2.2.2.2.2 (
 J22 (t19.2 == (1 : Int)) h20) (
 J22 false h20)) (
 J22 false h20)))) (fun J15 =>
 CondP (e13.2 == (2 : Int)) (
 HC PG f_slices_reverseRangeCmpFunc_diff_Change [.slice x0.a x0.len x0.cap, .int .i64 t2.1, .int .i64 t2.2.1, x4] [] (fun (e16 : Unit) h17 =>
 Bd (IntKind.wrap .i64 ((IntKind.wrap .i64 (t2.2.1 - 1)) - (IntKind.wrap .i64 (e13.1 - t2.1))) : Int) (fun n18 =>
 J15 (n18, 1) h17)) h14) (
 J15 (e13.1, e13.2) h14))) h12) (fun J8 =>
 CondP (!t2.2.2.2.1) (
 HC PG f_slices_breakPatternsCmpFunc_diff_Change [.slice x0.a x0.len x0.cap, .int .i64 t2.1, .int .i64 t2.2.1, x4] [] (fun (e9 : Unit) h10 =>
 J8 (IntKind.wrap .i64 (t2.2.2.1 - 1)) h10) h3) (
 J8 t2.2.2.1 h3))))) (x1, x2, x3, true, true) h0
noncomputable def A_slices_pdqsortCmpFunc_diff_Change : Ann := .node (.reg [0,1,2,3,4,10] (.nil)) (.node (.reg [0,1,2,3,4,10,11] (.nil)) (.loop [0,4] [(1,.c (.int .i64)),(2,.c (.int .i64)),(3,.c (.int .i64)),(10,.c .bool),(11,.c .bool)] (.node (.reg [0,1,2,3,4,10,11,12] (.nil)) (.node (.node (.reg [0,1,2,3,4,10,11,12,25] (.nil)) (.node (.node (.reg [] (.nil)) (.nil)) (.nil))) (.node (.node (.reg [0,1,2,3,4,10,11,12,32] (.nil)) (.node (.node (.reg [] (.nil)) (.nil)) (.nil))) (.join [0,1,2,4,10,11,12] [(3,.c (.int .i64))] (.node (.reg [0,1,2,3,4,10,11,12,39] (.nil)) (.node (.node (.reg [0,1,2,3,4,10,11,12] (.nil)) (.reg [0,1,2,3,4,10,11,12] (.nil))) (.nil))) (.node (.reg [0,1,2,3,4,10,11,12,13,14] (.nil)) (.join [0,1,2,3,4,10,11,12] [(13,.c (.int .i64)),(14,.c (.int .i64))] (.node (.reg [0,1,2,3,4,10,11,12,13,14,56] (.nil)) (.node (.node (.reg [0,1,2,3,4,10,11,12,13] (.nil)) (.node (.reg [0,1,2,3,4,10,11,12,13] (.nil)) (.reg [0,1,2,3,4,10,11,12,13,14] (.nil)))) (.nil))) (.join [0,1,2,3,4,10,11,12,13] [] (.join [0,1,2,3,4,10,11,12,13] [(75,.c .bool)] (.reg [0,1,2,3,4,10,11,12,13,75] (.nil)) (.node (.node (.reg [0,1,2,3,4,10,11,12,13,80] (.nil)) (.nil)) (.nil))) (.node (.join [0,1,2,3,4,10,11,12,13] [(97,.c .bool)] (.reg [0,1,2,3,4,10,11,12,13,97] (.draw (dl 17 [dm [] [1] 82,dm [0] [81] 83,dm [1] [82] 84,dm [2] [4,83] 85,dm [2] [0,83] 86,dm [2] [1,83] 87,dm [2,5] [83,86] 88,dm [2,4,6] [83,85,87] 89,dm [2,7] [83,88] 90,dm [2] [0,83] 91,dm [2] [13,83] 92,dm [2,9,10] [83,90,91] 93,dm [2,11] [83,92] 94,dm [2,3,8,12] [83,84,89,93] 95,dm [2,13] [83,94] 96,dm [2,14] [83,95] 97,dm [2,15] [83,96] 98]) (tr 0 3 (.split 83 (tr 3 10 (.all (.last 13 (tr 14 3 (.done))))) (tr 3 14 (.done)))))) (.node (.node (.reg [0,2,3,4,10,11,15] (.nil)) (.node (.reg [0,1,2,3,4,10,11] (.nil)) (.nil))) (.nil))) (.node (.reg [0,1,2,3,4,12,16,17] (.nil)) (.node (.reg [0,1,2,3,4,11,12,16] (.nil)) (.node (.reg [0,1,2,3,4,11,12,16,18,19] (.nil)) (.node (.reg [0,1,2,3,4,11,16,18,19,20] (.nil)) (.node (.reg [0,1,2,3,4,11,16,18,19,20,125] (.nil)) (.node (.node (.reg [0,1,2,3,4,10,11,16] (.nil)) (.node (.reg [0,2,3,4,10,11,16] (.nil)) (.reg [0,1,2,3,4,10,11] (.nil)))) (.node (.reg [0,1,2,3,4,10,11,16] (.nil)) (.node (.reg [0,1,3,4,10,11,16] (.nil)) (.reg [0,1,2,3,4,10,11] (.nil))))))))))))))))))))
theorem H_slices_pdqsortCmpFunc_diff_Change (x0 : SliceV) (x1 : Int) (x2 : Int) (x3 : Int) (x4 : Value) {K : Tup [] → Heap → Prop} {h0 : Heap} (h : F_slices_pdqsortCmpFunc_diff_Change x0 x1 x2 x3 x4 K h0) : HC PG f_slices_pdqsortCmpFunc_diff_Change [.slice x0.a x0.len x0.cap, .int .i64 x1, .int .i64 x2, .int .i64 x3, x4] [] K h0 := HC.intro (an := A_slices_pdqsortCmpFunc_diff_Change) (c := Tryz.f65.body.getD .skip) Tryz.mixed Tryz.func65 rfl Tryz.call65 (Nat.le_of_ble_eq_true rfl) (cst (by kernel_rfl) h)
def F_math_bits_Len (x0 : Int) (K : (Int) → Heap → Prop) (h0 : Heap) : Prop :=
 HC PG f_math_bits_Len64 [.int .u64 x0] [.c (.int .i64)] (fun (e3 : Int) h4 =>
 K e3 h4) h0
noncomputable def A_math_bits_Len : Ann := .node (.reg [0] (.nil)) (.node (.node (.node (.reg [2] (.nil)) (.nil)) (.nil)) (.node (.reg [2] (.nil)) (.nil)))
theorem H_math_bits_Len (x0 : Int) {K : Tup [.c (.int .i64)] → Heap → Prop} {h0 : Heap} (h : F_math_bits_Len x0 K h0) : HC PG f_math_bits_Len [.int .u64 x0] [.c (.int .i64)] K h0 := HC.intro (an := A_math_bits_Len) (c := Tryz.f66.body.getD .skip) Tryz.mixed Tryz.func66 rfl Tryz.call66 (Nat.le_of_ble_eq_true rfl) (cst (by kernel_rfl) h)
def F_cmp_isNaN_str (x0 : ByteArray) (K : (Bool) → Heap → Prop) (h0 : Heap) : Prop :=
 K (!(x0.toList == x0.toList)) h0
noncomputable def A_cmp_isNaN_str : Ann := .node (.reg [0] (.nil)) (.node (.reg [2] (.nil)) (.nil))
theorem H_cmp_isNaN_str (x0 : ByteArray) {K : Tup [.c .bool] → Heap → Prop} {h0 : Heap} (h : F_cmp_isNaN_str x0 K h0) : HC PG f_cmp_isNaN_str [.string x0] [.c .bool] K h0 := HC.intro (an := A_cmp_isNaN_str) (c := Tryz.f67.body.getD .skip) Tryz.mixed Tryz.func67 rfl Tryz.call67 (Nat.le_of_ble_eq_true rfl) (cst (by kernel_rfl) h)
def F_walk_Sorted (x0 : Option Addr) (K : (SliceV) → Heap → Prop) (h0 : Heap) : Prop :=
 HC PG f_walk_All [.pointer x0] [.c .raw] (fun (e1 : Value) h2 =>
 HC PG f_slices_Collect_pair_Pair [e1] [.c .slice] (fun (e3 : SliceV) h4 =>
 HC PG f_pair_Sorted [.slice e3.a e3.len e3.cap] [.c .slice] (fun (e5 : SliceV) h6 =>
 K e5 h6) h4) h2) h0
noncomputable def A_walk_Sorted : Ann := .node (.reg [0] (.nil)) (.node (.reg [2] (.nil)) (.nil))
theorem H_walk_Sorted (x0 : Option Addr) {K : Tup [.c .slice] → Heap → Prop} {h0 : Heap} (h : F_walk_Sorted x0 K h0) : HC PG f_walk_Sorted [.pointer x0] [.c .slice] K h0 := HC.intro (an := A_walk_Sorted) (c := Tryz.f72.body.getD .skip) Tryz.mixed Tryz.func72 rfl Tryz.call72 (Nat.le_of_ble_eq_true rfl) (cst (by kernel_rfl) h)
def F_radix_Empty  (K : (Option Addr) → Heap → Prop) (h0 : Heap) : Prop :=
 At (hnew h0 [.string (⟨#[]⟩ : ByteArray), .bool false, .string (⟨#[]⟩ : ByteArray), .slice none 0 0, .pointer none] t_radix_Node) (fun h1 =>
 K (some (newA h0)) h1)
noncomputable def A_radix_Empty : Ann := .node (.reg [] (.nil)) (.node (.reg [0] (.nil)) (.nil))
theorem H_radix_Empty  {K : Tup [.c .ptr] → Heap → Prop} {h0 : Heap} (h : F_radix_Empty  K h0) : HC PG f_radix_Empty [] [.c .ptr] K h0 := HC.intro (an := A_radix_Empty) (c := Tryz.f73.body.getD .skip) Tryz.mixed Tryz.func73 rfl Tryz.call73 (Nat.le_of_ble_eq_true rfl) (cst (by kernel_rfl) h)
def F_pair_Sorted (x0 : SliceV) (K : (SliceV) → Heap → Prop) (h0 : Heap) : Prop :=
 HC PG f_slices_Clone_A_pair_Pair_pair_Pair [.slice x0.a x0.len x0.cap] [.c .slice] (fun (e1 : SliceV) h2 =>
 HC PG f_slices_SortStableFunc_A_pair_Pair_pair_Pair [.slice e1.a e1.len e1.cap, .func (.func f_pair_Sorted_1) #[] #[]] [] (fun (e3 : Unit) h4 =>
 LoopP (fun I5 (t6 : Int × Int) h7 =>
 CondP (decide (t6.2 < (e1.len : Int))) (
 Join (fun (t24 : Int) h25 =>
 I5 (t24, IntKind.wrap .i64 (t6.2 + 1)) h25) (fun J8 =>
 (iBd t6.2 e1.len ∧ ∃ a9, e1.a = some a9 ∧
 ∃ v10, cAt h7 (adr a9 (t6.2.toNat * 2)) 0 (.string v10) ∧
 ∃ v11, cAt h7 (adr a9 (t6.2.toNat * 2)) 1 (.string v11) ∧
 At (hnew h7 [.string (⟨#[]⟩ : ByteArray), .string (⟨#[]⟩ : ByteArray)] t_pair_Pair) (fun h12 =>
 (WrS h12 (some (newA h7)) 0 [.string v10, .string v11] ∧
 At (hsetL h12 (newA h7) 0 [.string v10, .string v11]) (fun h13 =>
 Join (fun (t18 : Bool) h19 =>
 CondP t18 (
 J8 t6.1 h19) (
 ∃ v20, cAt h19 (newA h7) 0 (.string v20) ∧
 ∃ v21, cAt h19 (newA h7) 1 (.string v21) ∧
 (iBd t6.1 e1.len ∧ ∃ a22, e1.a = some a22 ∧
 (WrS h19 (some (adr a22 (t6.1.toNat * 2))) 0 [.string v20, .string v21] ∧
 At (hsetL h19 (adr a22 (t6.1.toNat * 2)) 0 [.string v20, .string v21]) (fun h23 =>
 J8 (IntKind.wrap .i64 (t6.1 + 1)) h23))))) (fun J14 =>
 CondP (decide ((IntKind.wrap .i64 (t6.2 + 1)) < (e1.len : Int))) (
 (iBd (IntKind.wrap .i64 (t6.2 + 1)) e1.len ∧ ∃ a15, e1.a = some a15 ∧
 ∃ v16, cAt h13 (adr a15 ((IntKind.wrap .i64 (t6.2 + 1)).toNat * 2)) 0 (.string v16) ∧
 ∃ v17, cAt h13 (newA h7) 0 (.string v17) ∧
 J14 (v16.toList == v17.toList) h13)) (
 J14 false h13)))))))) (
 (((0 : Int) ≤ t6.1 ∧ t6.1 ≤ ((e1.cap : Nat) : Int)) ∧
 K ⟨subAddr e1.a 0 e1.cap 2, t6.1.toNat - 0, e1.cap - 0⟩ h7))) (0, 0) h4) h2) h0
noncomputable def A_pair_Sorted : Ann := .node (.reg [0] (.nil)) (.node (.reg [3] (.nil)) (.node (.reg [3] (.nil)) (.node (.reg [3,4] (.nil)) (.node (.node (.reg [3,4,11,12,13] (.nil)) (.loop [3,11,12] [(4,.c (.int .i64)),(13,.c (.int .i64))] (.node (.reg [3,4,11,12,13,14] (.nil)) (.node (.nil) (.join [3,11,12,13] [(4,.c (.int .i64))] (.node (.reg [3,4,5,6,11,12,13] (.nil)) (.node (.join [3,4,6,11,12,13] [(33,.c .bool)] (.reg [3,4,6,11,12,13,33] (.draw (dl 16 [dm [] [5] 19,dm [0] [18] 20,dm [] [3] 21,dm [2] [20] 22,dm [1,3] [19,21] 23,dm [4] [22] 24,dm [5] [3,23] 25,dm [5] [5,23] 26,dm [5,7] [23,25] 27,dm [5,6,8] [23,24,26] 28,dm [5,9] [23,27] 29,dm [5,10] [23,28] 30,dm [5] [6,23] 31,dm [5,12] [23,30] 32,dm [5,11,13] [23,29,31] 33,dm [5,14] [23,32] 34]) (tr 0 6 (.split 23 (tr 6 10 (.done)) (tr 6 10 (.done)))))) (.nil)) (.node (.reg [3,4,11,12,13] (.nil)) (.reg [3,4,11,12,13] (.nil))))) (.reg [3,4,11,12,13] (.nil))))))) (.node (.reg [2] (.nil)) (.nil))))))
theorem H_pair_Sorted (x0 : SliceV) {K : Tup [.c .slice] → Heap → Prop} {h0 : Heap} (h : F_pair_Sorted x0 K h0) : HC PG f_pair_Sorted [.slice x0.a x0.len x0.cap] [.c .slice] K h0 := HC.intro (an := A_pair_Sorted) (c := Tryz.f74.body.getD .skip) Tryz.mixed Tryz.func74 rfl Tryz.call74 (Nat.le_of_ble_eq_true rfl) (cst (by kernel_rfl) h)
def F_radix_Make (x0 : ByteArray) (x1 : Bool) (x2 : ByteArray) (x3 : SliceV) (K : (Option Addr) → Heap → Prop) (h0 : Heap) : Prop :=
 At (hnew h0 [.string x0, .bool x1, .string (⟨#[]⟩ : ByteArray), .slice none 0 0, .pointer none] t_radix_Node) (fun h1 =>
 Join (fun (t5 : Unit) h6 =>
 LoopP (fun I7 (t8 : Int) h9 =>
 CondP (decide (t8 < (x3.len : Int))) (
 Join (fun (t21 : Unit) h22 =>
 I7 (IntKind.wrap .i64 (t8 + 1)) h22) (fun J10 =>
 (iBd t8 x3.len ∧ ∃ a11, x3.a = some a11 ∧
 ∃ v12, cAt h9 a11 (t8.toNat * 1) (.pointer v12) ∧
 CondP (!(v12.isNone)) (
 ∃ a13, some (newA h0) = some a13 ∧
 ∃ v14 : SliceV, cAt h9 a13 3 (.slice v14.a v14.len v14.cap) ∧
 At (hnew h9 [.pointer v12] t_P_radix_Node) (fun h15 =>
 ∃ xs16, SRow h15 (some (newA h9)) (1 * 1) xs16 ∧
 AppP (some [.pointer none]) 1 8 t_P_radix_Node v14.a v14.len v14.cap 1 xs16 h15 (fun s17 h18 =>
 ∃ a19, some (newA h0) = some a19 ∧
 (Wr h18 (adr a19 3) ∧
 At (hset h18 (adr a19 3) (.slice s17.a s17.len s17.cap)) (fun h20 =>
 J10 () h20))))) (
 J10 () h9)))) (
 K (some (newA h0)) h9)) 0 h6) (fun J2 =>
 CondP x1 (
 ∃ a3, some (newA h0) = some a3 ∧
 (Wr h1 (adr a3 2) ∧
 At (hset h1 (adr a3 2) (.string x2)) (fun h4 =>
 J2 () h4))) (
 J2 () h1)))
noncomputable def A_radix_Make : Ann := .node (.reg [0,1,2,3] (.nil)) (.node (.reg [1,2,3,9] (.nil)) (.join [3,9] [] (.node (.reg [2,3,9,16] (.nil)) (.node (.reg [3,9] (.nil)) (.nil))) (.node (.node (.reg [9,21,22,23] (.nil)) (.loop [9,21,22] [(23,.c (.int .i64))] (.node (.reg [9,21,22,23,24] (.nil)) (.node (.nil) (.join [9,21,22,23] [] (.node (.reg [9,11,21,22,23] (.nil)) (.node (.reg [9,11,21,22,23,28] (.nil)) (.node (.reg [9,21,22,23] (.nil)) (.nil)))) (.reg [9,21,22,23] (.nil))))))) (.node (.reg [8] (.nil)) (.nil)))))
theorem H_radix_Make (x0 : ByteArray) (x1 : Bool) (x2 : ByteArray) (x3 : SliceV) {K : Tup [.c .ptr] → Heap → Prop} {h0 : Heap} (h : F_radix_Make x0 x1 x2 x3 K h0) : HC PG f_radix_Make [.string x0, .bool x1, .string x2, .slice x3.a x3.len x3.cap] [.c .ptr] K h0 := HC.intro (an := A_radix_Make) (c := Tryz.f75.body.getD .skip) Tryz.mixed Tryz.func75 rfl Tryz.call75 (Nat.le_of_ble_eq_true rfl) (cst (by kernel_rfl) h)
def F_build_kids (x0 : SliceV) (x1 : Int) (K : (SliceV) → Heap → Prop) (h0 : Heap) : Prop :=
 At (hnew h0 [.int .i64 x1] t_int) (fun h1 =>
 LoopP (fun I2 (t3 : SliceV × SliceV) h4 =>
 CondP (decide ((t3.1.len : Int) > (0 : Int))) (
 (iBd 0 t3.1.len ∧ ∃ a5, t3.1.a = some a5 ∧
 ∃ v6, cAt h4 (adr a5 ((0 : Int).toNat * 2)) 0 (.string v6) ∧
 ∃ v7, hcell h4 (newA h0) = some (.int .i64 v7) ∧
 ∃ b8, (0 : Int) ≤ v7 ∧ v6[v7.toNat]? = some b8 ∧
 At (hnew h4 [.int .u8 0] t_u8) (fun h9 =>
 (hcell h9 (newA h0) = some (.int .i64 v7) ∧
 (cAt h9 (adr a5 ((0 : Int).toNat * 2)) 0 (.string v6) ∧
 (Wr h9 (newA h4) ∧
 At (hset h9 (newA h4) (.int .u8 (b8.toNat : Int))) (fun h10 =>
 HC PG f_slices_IndexFunc_A_pair_Pair_pair_Pair [.slice t3.1.a t3.1.len t3.1.cap, .func (.func f_build_kids_1) #[] #[.pointer (some (newA h0)), .pointer (some (newA h4))]] [.c (.int .i64)] (fun (e11 : Int) h12 =>
 Join (fun (t14 : Int) h15 =>
 Join (fun (t24 : SliceV) h25 =>
 (((0 : Int) ≤ t14 ∧ t14 ≤ ((t3.1.len : Nat) : Int)) ∧
 I2 (⟨subAddr t3.1.a t14.toNat t3.1.cap 2, t3.1.len - t14.toNat, t3.1.cap - t14.toNat⟩, t24) h25)) (fun J16 =>
 (((0 : Int) ≤ t14 ∧ t14 ≤ ((t3.1.cap : Nat) : Int)) ∧
 ∃ v17, hcell h15 (newA h0) = some (.int .i64 v17) ∧
 HC PG f_build_branch [.slice (subAddr t3.1.a 0 t3.1.cap 2) (t14.toNat - 0) (t3.1.cap - 0), .int .i64 v17] [.c .ptr] (fun (e18 : Option Addr) h19 =>
 At (hnew h19 [.pointer e18] t_P_radix_Node) (fun h20 =>
 ∃ xs21, SRow h20 (some (newA h19)) (1 * 1) xs21 ∧
 AppP (some [.pointer none]) 1 8 t_P_radix_Node t3.2.a t3.2.len t3.2.cap 1 xs21 h20 (fun s22 h23 =>
 J16 s22 h23))) h15))) (fun J13 =>
 CondP (decide (e11 < (0 : Int))) (
 J13 (t3.1.len : Int) h12) (
 J13 e11 h12))) h10))))))) (
 K t3.2 h4)) (x0, ⟨none, 0, 0⟩) h1)
noncomputable def A_build_kids : Ann := .node (.reg [0,3] (.nil)) (.node (.reg [0,3,5] (.nil)) (.node (.loop [3] [(0,.c .slice),(5,.c .slice)] (.node (.node (.reg [0,3,5,10] (.nil)) (.nil)) (.node (.reg [0,3,5,6] (.draw (dl 8 [dm [] [0] 12,dm [0] [11] 13,dm [1] [12] 14,dm [2] [13] 15,dm [] [3] 16,dm [3,4] [14,15] 17,dm [] [] 7,dn [0,1,2,3,4,5,6] [5,6] [6,16] 0]) (tr 0 6 (.all (.last 6 (.all (.last 7 (.done)))))))) (.node (.reg [0,3,5,7] (.nil)) (.join [0,3,5] [(7,.c (.int .i64))] (.node (.reg [0,3,5,7,21] (.nil)) (.node (.reg [0,3,5,7] (.nil)) (.nil))) (.join [0,3,7] [(5,.c .slice)] (.reg [0,3,5,7] (.draw (dl 9 [dm [] [5] 25,dm [] [0] 26,dm [] [7] 27,dm [1,2] [25,26] 28,dm [] [3] 29,dm [3,4] [27,28] 30,dm [5] [29] 31,dn [0,5,6] [0,6] [24,30] 32,dn [0,1,2,3,4,5,6,7] [0,7] [31] 6]) (tr 0 5 (.all (.last 5 (.all (.last 6 (.all (.last 7 (.take 8 (.done))))))))))) (.reg [0,3,5] (.nil)))))))) (.node (.reg [4] (.nil)) (.nil))))
theorem H_build_kids (x0 : SliceV) (x1 : Int) {K : Tup [.c .slice] → Heap → Prop} {h0 : Heap} (h : F_build_kids x0 x1 K h0) : HC PG f_build_kids [.slice x0.a x0.len x0.cap, .int .i64 x1] [.c .slice] K h0 := HC.intro (an := A_build_kids) (c := Tryz.f76.body.getD .skip) Tryz.mixed Tryz.func76 rfl Tryz.call76 (Nat.le_of_ble_eq_true rfl) (cst (by kernel_rfl) h)
def F_sip_Hasher_Hash (x0 : Int × Int × Int) (x1 : ByteArray) (K : (Int) → Heap → Prop) (h0 : Heap) : Prop :=
 At (hnew h0 [.int .u64 x0.1, .int .u64 x0.2.1, .int .u64 x0.2.2] t_sip_Hasher) (fun h1 =>
 ∃ v2, cAt h1 (adr (newA h0) 0) 0 (.int .u64 v2) ∧
 ∃ v3, cAt h1 (adr (newA h0) 0) 1 (.int .u64 v3) ∧
 ∃ v4, cAt h1 (newA h0) 2 (.int .u64 v4) ∧
 HC PG f_sip_Sum [.agg #[.int .u64 v2, .int .u64 v3], .string x1] [.c (.int .u64)] (fun (e5 : Int) h6 =>
 (cAt h6 (newA h0) 2 (.int .u64 v4) ∧
 Bd (IntKind.wrap .u64 (BitVec.ofInt (IntKind.bits .u64) e5 &&& BitVec.ofInt (IntKind.bits .u64) v4).toNat : Int) (fun n7 =>
 K n7 h6))) h1)
noncomputable def A_sip_Hasher_Hash : Ann := .node (.reg [1,2] (.nil)) (.node (.reg [4] (.draw (dl 8 [dm [] [2] 6,dm [0] [5] 7,dm [] [1] 8,dm [1,2] [6,7] 9,dm [] [2] 10,dm [4] [9] 11,dm [3,5] [8,10] 12,dn [0,1,2,3,4,5,6] [6] [11] 5]) (tk [0,1,2,4,5] (.all (.last 3 (.take 6 (.take 7 (.done)))))))) (.nil))
theorem H_sip_Hasher_Hash (x0 : Int × Int × Int) (x1 : ByteArray) {K : Tup [.c (.int .u64)] → Heap → Prop} {h0 : Heap} (h : F_sip_Hasher_Hash x0 x1 K h0) : HC PG f_sip_Hasher_Hash [.agg #[.int .u64 x0.1, .int .u64 x0.2.1, .int .u64 x0.2.2], .string x1] [.c (.int .u64)] K h0 := HC.intro (an := A_sip_Hasher_Hash) (c := Tryz.f77.body.getD .skip) Tryz.mixed Tryz.func77 rfl Tryz.call77 (Nat.le_of_ble_eq_true rfl) (cst (by kernel_rfl) h)
def F_build_trie (x0 : SliceV) (x1 : Int) (K : (Option Addr) → Heap → Prop) (h0 : Heap) : Prop :=
 At (hnew h0 [.int .i64 x1] t_int) (fun h1 =>
 ∃ v2, hcell h1 (newA h0) = some (.int .i64 v2) ∧
 CondP (v2 == (13 : Int)) (
 HC PG f_node_Bucket [] [.c .ptr] (fun (e3 : Option Addr) h4 =>
 LoopP (fun I5 (t6 : (Option Addr) × Int) h7 =>
 CondP (decide (t6.2 < (x0.len : Int))) (
 (iBd t6.2 x0.len ∧ ∃ a8, x0.a = some a8 ∧
 ∃ v9, cAt h7 (adr a8 (t6.2.toNat * 3)) 0 (.string v9) ∧
 ∃ v10, cAt h7 (adr a8 (t6.2.toNat * 3)) 1 (.string v10) ∧
 ∃ v11, cAt h7 (adr a8 (t6.2.toNat * 3)) 2 (.int .u64 v11) ∧
 At (hnew h7 [.string (⟨#[]⟩ : ByteArray), .string (⟨#[]⟩ : ByteArray), .int .u64 0] t_build_hashed) (fun h12 =>
 (WrS h12 (some (newA h7)) 0 [.string v9, .string v10, .int .u64 v11] ∧
 At (hsetL h12 (newA h7) 0 [.string v9, .string v10, .int .u64 v11]) (fun h13 =>
 ∃ v14, cAt h13 (adr (newA h7) 0) 0 (.string v14) ∧
 ∃ v15, cAt h13 (adr (newA h7) 0) 1 (.string v15) ∧
 HC PG f_node_Node_Put [.pointer t6.1, .pointer none, .agg #[.string v14, .string v15]] [.c .ptr] (fun (e16 : Option Addr) h17 =>
 I5 (e16, IntKind.wrap .i64 (t6.2 + 1)) h17) h13))))) (
 K t6.1 h7)) (e3, 0) h4) h1) (
 At (hnew h1 [Value.nilFunc] t_func_build_hashed_int) (fun h18 =>
 (Wr h18 (newA h1) ∧
 At (hset h18 (newA h1) (.func (.func f_build_trie_1) #[] #[.pointer (some (newA h0))])) (fun h19 =>
 HC PG f_slices_Clone_A_build_hashed_build_hashed [.slice x0.a x0.len x0.cap] [.c .slice] (fun (e20 : SliceV) h21 =>
 HC PG f_slices_SortStableFunc_A_build_hashed_build_hashed [.slice e20.a e20.len e20.cap, .func (.func f_build_trie_2) #[] #[.pointer (some (newA h1))]] [] (fun (e22 : Unit) h23 =>
 HC PG f_node_Inner [] [.c .ptr] (fun (e24 : Option Addr) h25 =>
 LoopP (fun I26 (t27 : SliceV × (Option Addr)) h28 =>
 CondP (decide ((t27.1.len : Int) > (0 : Int))) (
 ∃ v29, hcell h28 (newA h1) = some (v29) ∧
 (iBd 0 t27.1.len ∧ ∃ a30, t27.1.a = some a30 ∧
 ∃ v31, cAt h28 (adr a30 ((0 : Int).toNat * 3)) 0 (.string v31) ∧
 ∃ v32, cAt h28 (adr a30 ((0 : Int).toNat * 3)) 1 (.string v32) ∧
 ∃ v33, cAt h28 (adr a30 ((0 : Int).toNat * 3)) 2 (.int .u64 v33) ∧
 ((HV PG v29 [.agg #[.string v31, .string v32, .int .u64 v33]] [.c (.int .i64)] (fun (e34 : Int) h35 =>
 At (hnew h35 [.int .i64 0] t_int) (fun h36 =>
 (Wr h36 (newA h35) ∧
 At (hset h36 (newA h35) (.int .i64 e34)) (fun h37 =>
 HC PG f_slices_IndexFunc_A_build_hashed_build_hashed [.slice t27.1.a t27.1.len t27.1.cap, .func (.func f_build_trie_3) #[] #[.pointer (some (newA h1)), .pointer (some (newA h35))]] [.c (.int .i64)] (fun (e38 : Int) h39 =>
 Join (fun (t41 : Int) h42 =>
 Join (fun (t56 : Option Addr) h57 =>
 (((0 : Int) ≤ t41 ∧ t41 ≤ ((t27.1.len : Nat) : Int)) ∧
 I26 (⟨subAddr t27.1.a t41.toNat t27.1.cap 3, t27.1.len - t41.toNat, t27.1.cap - t41.toNat⟩, t56) h57)) (fun J43 =>
 CondP (t41 == (1 : Int)) (
 ∃ v44, hcell h42 (newA h35) = some (.int .i64 v44) ∧
 (iBd 0 t27.1.len ∧ ∃ a45, t27.1.a = some a45 ∧
 ∃ v46, cAt h42 (adr (adr a45 ((0 : Int).toNat * 3)) 0) 0 (.string v46) ∧
 ∃ v47, cAt h42 (adr (adr a45 ((0 : Int).toNat * 3)) 0) 1 (.string v47) ∧
 HC PG f_node_Node_SetPair [.pointer t27.2, .pointer none, .int .i64 v44, .agg #[.string v46, .string v47]] [.c .ptr] (fun (e48 : Option Addr) h49 =>
 J43 e48 h49) h42)) (
 ∃ v50, hcell h42 (newA h35) = some (.int .i64 v50) ∧
 (((0 : Int) ≤ t41 ∧ t41 ≤ ((t27.1.cap : Nat) : Int)) ∧
 ∃ v51, hcell h42 (newA h0) = some (.int .i64 v51) ∧
 HC PG f_build_trie [.slice (subAddr t27.1.a 0 t27.1.cap 3) (t41.toNat - 0) (t27.1.cap - 0), .int .i64 (IntKind.wrap .i64 (v51 + 1))] [.c .ptr] (fun (e52 : Option Addr) h53 =>
 (hcell h53 (newA h0) = some (.int .i64 v51) ∧
 (hcell h53 (newA h35) = some (.int .i64 v50) ∧
 HC PG f_node_Node_SetKid [.pointer t27.2, .pointer none, .int .i64 v50, .pointer e52] [.c .ptr] (fun (e54 : Option Addr) h55 =>
 (hcell h55 (newA h0) = some (.int .i64 v51) ∧
 J43 e54 h55)) h53))) h42)))) (fun J40 =>
 CondP (decide (e38 < (0 : Int))) (
 J40 (t27.1.len : Int) h39) (
 J40 e38 h39))) h37)))) h28) ∧
 At (hnew h28 [.int .i64 0] t_int) (fun h58 =>
 ((cAt h58 (adr a30 ((0 : Int).toNat * 3)) 0 (.string v31) ∧ cAt h58 (adr a30 ((0 : Int).toNat * 3)) 1 (.string v32) ∧ cAt h58 (adr a30 ((0 : Int).toNat * 3)) 2 (.int .u64 v33)) ∧
 (hcell h58 (newA h1) = some (v29) ∧
 HV PG v29 [.agg #[.string v31, .string v32, .int .u64 v33]] [.c (.int .i64)] (fun (e59 : Int) h60 =>
 (Wr h60 (newA h28) ∧
 At (hset h60 (newA h28) (.int .i64 e59)) (fun h61 =>
 HC PG f_slices_IndexFunc_A_build_hashed_build_hashed [.slice t27.1.a t27.1.len t27.1.cap, .func (.func f_build_trie_3) #[] #[.pointer (some (newA h1)), .pointer (some (newA h28))]] [.c (.int .i64)] (fun (e62 : Int) h63 =>
 Join (fun (t65 : Int) h66 =>
 Join (fun (t80 : Option Addr) h81 =>
 (((0 : Int) ≤ t65 ∧ t65 ≤ ((t27.1.len : Nat) : Int)) ∧
 I26 (⟨subAddr t27.1.a t65.toNat t27.1.cap 3, t27.1.len - t65.toNat, t27.1.cap - t65.toNat⟩, t80) h81)) (fun J67 =>
 CondP (t65 == (1 : Int)) (
 ∃ v68, hcell h66 (newA h28) = some (.int .i64 v68) ∧
 (iBd 0 t27.1.len ∧ ∃ a69, t27.1.a = some a69 ∧
 ∃ v70, cAt h66 (adr (adr a69 ((0 : Int).toNat * 3)) 0) 0 (.string v70) ∧
 ∃ v71, cAt h66 (adr (adr a69 ((0 : Int).toNat * 3)) 0) 1 (.string v71) ∧
 HC PG f_node_Node_SetPair [.pointer t27.2, .pointer none, .int .i64 v68, .agg #[.string v70, .string v71]] [.c .ptr] (fun (e72 : Option Addr) h73 =>
 J67 e72 h73) h66)) (
 ∃ v74, hcell h66 (newA h28) = some (.int .i64 v74) ∧
 (((0 : Int) ≤ t65 ∧ t65 ≤ ((t27.1.cap : Nat) : Int)) ∧
 ∃ v75, hcell h66 (newA h0) = some (.int .i64 v75) ∧
 HC PG f_build_trie [.slice (subAddr t27.1.a 0 t27.1.cap 3) (t65.toNat - 0) (t27.1.cap - 0), .int .i64 (IntKind.wrap .i64 (v75 + 1))] [.c .ptr] (fun (e76 : Option Addr) h77 =>
 (hcell h77 (newA h0) = some (.int .i64 v75) ∧
 (hcell h77 (newA h28) = some (.int .i64 v74) ∧
 HC PG f_node_Node_SetKid [.pointer t27.2, .pointer none, .int .i64 v74, .pointer e76] [.c .ptr] (fun (e78 : Option Addr) h79 =>
 (hcell h79 (newA h0) = some (.int .i64 v75) ∧
 J67 e78 h79)) h77))) h66)))) (fun J64 =>
 CondP (decide (e62 < (0 : Int))) (
 J64 (t27.1.len : Int) h63) (
 J64 e62 h63))) h61))) h58)))))) (
 K t27.2 h28)) (e20, e24) h25) h23) h21) h19)))))
noncomputable def A_build_trie : Ann := .node (.reg [0,3] (.nil)) (.node (.node (.reg [0,3,13] (.nil)) (.node (.node (.reg [0,5] (.nil)) (.node (.node (.reg [5,15,16,17] (.nil)) (.loop [15,16] [(5,.c .ptr),(17,.c (.int .i64))] (.node (.reg [5,15,16,17,18] (.nil)) (.node (.nil) (.node (.node (.reg [5,7,15,16,17] (.nil)) (.reg [5,15,16,17] (.nil))) (.reg [5,15,16,17] (.nil))))))) (.node (.reg [4] (.nil)) (.nil)))) (.nil))) (.node (.reg [0,3,8] (.nil)) (.node (.reg [0,3,8] (.nil)) (.node (.reg [0,3,8] (.nil)) (.node (.reg [0,3,8,9] (.nil)) (.node (.loop [3,8] [(0,.c .slice),(9,.c .ptr)] (.node (.node (.reg [0,3,8,9,36] (.nil)) (.nil)) (.node (.reg [0,3,8,9,10] (.draw (dl 7 [dm [] [8] 38,dm [] [0] 39,dm [1] [38] 40,dm [2] [39] 41,dm [0,3] [37,40] 42,dm [] [] 11,dn [0,1,2,3,4,5] [4,5] [10,41] 0]) (tr 0 4 (.all (.pick 4 (.all (.last 5 (.all (.last 6 (.done))))) (.last 5 (.all (.last 4 (.all (.last 6 (.done))))))))))) (.node (.reg [0,3,8,9,10,11] (.nil)) (.join [0,3,8,9,10] [(11,.c (.int .i64))] (.node (.reg [0,3,8,9,10,11,46] (.nil)) (.node (.reg [0,3,8,9,10,11] (.nil)) (.nil))) (.join [0,3,8,11] [(9,.c .ptr)] (.node (.reg [0,3,8,9,10,11,50] (.nil)) (.node (.reg [0,3,8,9,11] (.draw (dl 8 [dm [] [9] 52,dm [] [10] 53,dm [] [0] 54,dm [2] [53] 55,dm [3] [54] 56,dm [4] [55] 57,dm [0,1,5] [51,52,56] 58,dn [0,1,2,3,4,5,6] [0,6] [57] 10]) (tr 0 6 (.all (.last 6 (.take 7 (.done))))))) (.reg [0,3,8,9,11] (.draw (dl 10 [dm [] [9] 59,dm [] [10] 60,dm [] [0] 61,dm [] [11] 62,dm [2,3] [60,61] 63,dm [] [3] 64,dm [5] [63] 65,dm [4,6] [62,64] 66,dm [0,1,7] [58,59,65] 67,dn [0,1,2,3,4,5,6,7,8] [0,8] [66] 10]) (tr 0 7 (.all (.last 7 (.all (.last 8 (.take 9 (.done))))))))))) (.reg [0,3,8,9] (.nil)))))))) (.node (.reg [4] (.nil)) (.nil))))))))
theorem H_build_trie (x0 : SliceV) (x1 : Int) {K : Tup [.c .ptr] → Heap → Prop} {h0 : Heap} (h : F_build_trie x0 x1 K h0) : HC PG f_build_trie [.slice x0.a x0.len x0.cap, .int .i64 x1] [.c .ptr] K h0 := HC.intro (an := A_build_trie) (c := Tryz.f78.body.getD .skip) Tryz.mixed Tryz.func78 rfl Tryz.call78 (Nat.le_of_ble_eq_true rfl) (cst (by kernel_rfl) h)
def F_radix_some (x0 : Option Addr) (K : (Option Addr) → Heap → Prop) (h0 : Heap) : Prop :=
 CondP x0.isNone (
 HC PG f_radix_Empty [] [.c .ptr] (fun (e1 : Option Addr) h2 =>
 K e1 h2) h0) (
 K x0 h0)
noncomputable def A_radix_some : Ann := .node (.reg [0] (.nil)) (.node (.node (.reg [0,4] (.nil)) (.node (.node (.reg [2] (.nil)) (.nil)) (.nil))) (.node (.reg [2] (.nil)) (.nil)))
theorem H_radix_some (x0 : Option Addr) {K : Tup [.c .ptr] → Heap → Prop} {h0 : Heap} (h : F_radix_some x0 K h0) : HC PG f_radix_some [.pointer x0] [.c .ptr] K h0 := HC.intro (an := A_radix_some) (c := Tryz.f79.body.getD .skip) Tryz.mixed Tryz.func79 rfl Tryz.call79 (Nat.le_of_ble_eq_true rfl) (cst (by kernel_rfl) h)
end Go.Proofs
