/- A part of the proof that the named laws of this program answer true, whatever the input. -/
import Derived.Test.YtfbbjmjfkopdnaaGreatTreeF
set_option maxRecDepth 100000
set_option linter.unusedVariables false
namespace Go.Proofs
open Go.Lift
def F_slices_insertionSortCmpFunc_build_hashed (x0 : SliceV) (x1 : Int) (x2 : Int) (x3 : Value) (K : (Unit) → Heap → Prop) (h0 : Heap) : Prop :=
 LoopP (fun I1 (t2 : Int) h3 =>
 CondP (decide (t2 < x2)) (
 LoopP (fun I4 (t5 : Int) h6 =>
 Join (fun (t18 : Bool) h19 =>
 CondP t18 (
 (iBd (IntKind.wrap .i64 (t5 - 1)) x0.len ∧ ∃ a20, x0.a = some a20 ∧
 ∃ v21, cAt h19 (adr a20 ((IntKind.wrap .i64 (t5 - 1)).toNat * 3)) 0 (.string v21) ∧
 ∃ v22, cAt h19 (adr a20 ((IntKind.wrap .i64 (t5 - 1)).toNat * 3)) 1 (.string v22) ∧
 ∃ v23, cAt h19 (adr a20 ((IntKind.wrap .i64 (t5 - 1)).toNat * 3)) 2 (.int .u64 v23) ∧
 (iBd t5 x0.len ∧ ∃ a24, x0.a = some a24 ∧
 ∃ v25, cAt h19 (adr a24 (t5.toNat * 3)) 0 (.string v25) ∧
 ∃ v26, cAt h19 (adr a24 (t5.toNat * 3)) 1 (.string v26) ∧
 ∃ v27, cAt h19 (adr a24 (t5.toNat * 3)) 2 (.int .u64 v27) ∧
 (iBd t5 x0.len ∧ ∃ a28, x0.a = some a28 ∧
 (WrS h19 (some (adr a28 (t5.toNat * 3))) 0 [.string v21, .string v22, .int .u64 v23] ∧
 At (hsetL h19 (adr a28 (t5.toNat * 3)) 0 [.string v21, .string v22, .int .u64 v23]) (fun h29 =>
 (iBd (IntKind.wrap .i64 (t5 - 1)) x0.len ∧ ∃ a30, x0.a = some a30 ∧
 (WrS h29 (some (adr a30 ((IntKind.wrap .i64 (t5 - 1)).toNat * 3))) 0 [.string v25, .string v26, .int .u64 v27] ∧
 At (hsetL h29 (adr a30 ((IntKind.wrap .i64 (t5 - 1)).toNat * 3)) 0 [.string v25, .string v26, .int .u64 v27]) (fun h31 =>
 I4 (IntKind.wrap .i64 (t5 - 1)) h31))))))))) (
 I1 (IntKind.wrap .i64 (t2 + 1)) h19)) (fun J7 =>
 CondP (decide (t5 > x1)) (
 (iBd t5 x0.len ∧ ∃ a8, x0.a = some a8 ∧
 ∃ v9, cAt h6 (adr a8 (t5.toNat * 3)) 0 (.string v9) ∧
 ∃ v10, cAt h6 (adr a8 (t5.toNat * 3)) 1 (.string v10) ∧
 ∃ v11, cAt h6 (adr a8 (t5.toNat * 3)) 2 (.int .u64 v11) ∧
 (iBd (IntKind.wrap .i64 (t5 - 1)) x0.len ∧ ∃ a12, x0.a = some a12 ∧
 ∃ v13, cAt h6 (adr a12 ((IntKind.wrap .i64 (t5 - 1)).toNat * 3)) 0 (.string v13) ∧
 ∃ v14, cAt h6 (adr a12 ((IntKind.wrap .i64 (t5 - 1)).toNat * 3)) 1 (.string v14) ∧
 ∃ v15, cAt h6 (adr a12 ((IntKind.wrap .i64 (t5 - 1)).toNat * 3)) 2 (.int .u64 v15) ∧
 HV PG x3 [.agg #[.string v9, .string v10, .int .u64 v11], .agg #[.string v13, .string v14, .int .u64 v15]] [.c (.int .i64)] (fun (e16 : Int) h17 =>
 J7 (decide (e16 < (0 : Int))) h17) h6))) (
 J7 false h6))) t2 h3) (
 K () h3)) (IntKind.wrap .i64 (x1 + 1)) h0
noncomputable def A_slices_insertionSortCmpFunc_build_hashed : Ann := .node (.reg [0,1,2,3,8] (.nil)) (.loop [0,1,2,3] [(8,.c (.int .i64))] (.node (.node (.reg [0,1,2,3,8,14] (.nil)) (.nil)) (.node (.node (.reg [0,1,2,3,8,9] (.nil)) (.loop [0,1,2,3,8] [(9,.c (.int .i64))] (.node (.join [0,1,2,3,8,9] [(34,.c .bool)] (.reg [0,1,2,3,8,9,34] (.draw (dl 17 [dm [] [9] 19,dm [] [1] 20,dm [0,1] [18,19] 21,dm [2] [20] 22,dm [3] [3,21] 23,dm [3] [0,21] 24,dm [3] [9,21] 25,dm [3,5,6] [21,23,24] 26,dm [3,7] [21,25] 27,dm [3] [0,21] 28,dm [3] [9,21] 29,dm [3,10] [21,28] 30,dm [3,9,11] [21,27,29] 31,dm [3,12] [21,30] 32,dm [3,4,8,13] [21,22,26,31] 33,dm [3,14] [21,32] 34,dm [3,15] [21,33] 35]) (tr 0 4 (.split 21 (tr 4 10 (.all (.last 14 (.take 15 (.take 16 (.done)))))) (tr 4 13 (.done)))))) (.nil)) (.node (.reg [0,1,2,3,8,9] (.draw (dl 18 [dm [] [0] 38,dm [] [9] 39,dm [] [0] 40,dm [] [9] 41,dm [3] [40] 42,dm [] [0] 43,dm [] [9] 44,dm [6] [43] 45,dm [5,7] [42,44] 46,dm [8] [45] 47,dm [] [0] 48,dm [] [9] 49,dm [10,11] [47,48] 50,dm [12] [49] 51,dn [0,1,5,6,7,8,9,13] [0,1] [37,38] 52,dn [0,1,5,6,7,8,9,13,14] [9,14] [46,51] 0,dn [0,1,2,3,4,5,6,7,8,9,10,11,12,13,14,15] [2,4] [39,41] 53,dn [0,1,2,3,4,5,6,7,8,9,10,11,12,13,14,15,16] [13,16] [50,52] 0]) (tr 0 15 (.all (.last 15 (.take 16 (.all (.last 17 (.done))))))))) (.reg [0,1,2,3,8,9] (.nil)))))) (.reg [0,1,2,3,8] (.nil)))))
theorem H_slices_insertionSortCmpFunc_build_hashed (x0 : SliceV) (x1 : Int) (x2 : Int) (x3 : Value) {K : Tup [] → Heap → Prop} {h0 : Heap} (h : F_slices_insertionSortCmpFunc_build_hashed x0 x1 x2 x3 K h0) : HC PG f_slices_insertionSortCmpFunc_build_hashed [.slice x0.a x0.len x0.cap, .int .i64 x1, .int .i64 x2, x3] [] K h0 := HC.intro (an := A_slices_insertionSortCmpFunc_build_hashed) (c := Tryz.f195.body.getD .skip) Tryz.mixed Tryz.func195 rfl Tryz.call195 (Nat.le_of_ble_eq_true rfl) (cst (by kernel_rfl) h)
def F_slices_symMergeCmpFunc_build_hashed (x0 : SliceV) (x1 : Int) (x2 : Int) (x3 : Int) (x4 : Value) (K : (Unit) → Heap → Prop) (h0 : Heap) : Prop :=
 CondP ((IntKind.wrap .i64 (x2 - x1)) == (1 : Int)) (
 LoopP (fun I1 (t2 : Int × Int) h3 =>
 CondP (decide (t2.1 < t2.2)) (
 ((0 : Int) ≤ (1 : Int) ∧
 Bd (Int.fdiv (IntKind.wrap .u64 (IntKind.wrap .i64 (t2.1 + t2.2))) (2 ^ (min (1 : Int).toNat (IntKind.bits .u64))) : Int) (fun n4 =>
 (iBd (IntKind.wrap .i64 n4) x0.len ∧ ∃ a5, x0.a = some a5 ∧
 ∃ v6, cAt h3 (adr a5 ((IntKind.wrap .i64 n4).toNat * 3)) 0 (.string v6) ∧
 ∃ v7, cAt h3 (adr a5 ((IntKind.wrap .i64 n4).toNat * 3)) 1 (.string v7) ∧
 ∃ v8, cAt h3 (adr a5 ((IntKind.wrap .i64 n4).toNat * 3)) 2 (.int .u64 v8) ∧
 (iBd x1 x0.len ∧ ∃ a9, x0.a = some a9 ∧
 ∃ v10, cAt h3 (adr a9 (x1.toNat * 3)) 0 (.string v10) ∧
 ∃ v11, cAt h3 (adr a9 (x1.toNat * 3)) 1 (.string v11) ∧
 ∃ v12, cAt h3 (adr a9 (x1.toNat * 3)) 2 (.int .u64 v12) ∧
 HV PG x4 [.agg #[.string v6, .string v7, .int .u64 v8], .agg #[.string v10, .string v11, .int .u64 v12]] [.c (.int .i64)] (fun (e13 : Int) h14 =>
 CondP (decide (e13 < (0 : Int))) (
 I1 (IntKind.wrap .i64 ((IntKind.wrap .i64 n4) + 1), t2.2) h14) (
 I1 (t2.1, IntKind.wrap .i64 n4) h14)) h3))))) (
 LoopP (fun I15 (t16 : Int) h17 =>
 CondP (decide (t16 < (IntKind.wrap .i64 (t2.1 - 1)))) (
 (iBd (IntKind.wrap .i64 (t16 + 1)) x0.len ∧ ∃ a18, x0.a = some a18 ∧
 ∃ v19, cAt h17 (adr a18 ((IntKind.wrap .i64 (t16 + 1)).toNat * 3)) 0 (.string v19) ∧
 ∃ v20, cAt h17 (adr a18 ((IntKind.wrap .i64 (t16 + 1)).toNat * 3)) 1 (.string v20) ∧
 ∃ v21, cAt h17 (adr a18 ((IntKind.wrap .i64 (t16 + 1)).toNat * 3)) 2 (.int .u64 v21) ∧
 (iBd t16 x0.len ∧ ∃ a22, x0.a = some a22 ∧
 ∃ v23, cAt h17 (adr a22 (t16.toNat * 3)) 0 (.string v23) ∧
 ∃ v24, cAt h17 (adr a22 (t16.toNat * 3)) 1 (.string v24) ∧
 ∃ v25, cAt h17 (adr a22 (t16.toNat * 3)) 2 (.int .u64 v25) ∧
 (iBd t16 x0.len ∧ ∃ a26, x0.a = some a26 ∧
 (WrS h17 (some (adr a26 (t16.toNat * 3))) 0 [.string v19, .string v20, .int .u64 v21] ∧
 At (hsetL h17 (adr a26 (t16.toNat * 3)) 0 [.string v19, .string v20, .int .u64 v21]) (fun h27 =>
 (iBd (IntKind.wrap .i64 (t16 + 1)) x0.len ∧ ∃ a28, x0.a = some a28 ∧
 (WrS h27 (some (adr a28 ((IntKind.wrap .i64 (t16 + 1)).toNat * 3))) 0 [.string v23, .string v24, .int .u64 v25] ∧
 At (hsetL h27 (adr a28 ((IntKind.wrap .i64 (t16 + 1)).toNat * 3)) 0 [.string v23, .string v24, .int .u64 v25]) (fun h29 =>
 I15 (IntKind.wrap .i64 (t16 + 1)) h29))))))))) (
 K () h17)) x1 h3)) (x2, x3) h0) (
 CondP ((IntKind.wrap .i64 (x3 - x2)) == (1 : Int)) (
 LoopP (fun I30 (t31 : Int × Int) h32 =>
 CondP (decide (t31.1 < t31.2)) (
 ((0 : Int) ≤ (1 : Int) ∧
 Bd (Int.fdiv (IntKind.wrap .u64 (IntKind.wrap .i64 (t31.1 + t31.2))) (2 ^ (min (1 : Int).toNat (IntKind.bits .u64))) : Int) (fun n33 =>
 (iBd x2 x0.len ∧ ∃ a34, x0.a = some a34 ∧
 ∃ v35, cAt h32 (adr a34 (x2.toNat * 3)) 0 (.string v35) ∧
 ∃ v36, cAt h32 (adr a34 (x2.toNat * 3)) 1 (.string v36) ∧
 ∃ v37, cAt h32 (adr a34 (x2.toNat * 3)) 2 (.int .u64 v37) ∧
 (iBd (IntKind.wrap .i64 n33) x0.len ∧ ∃ a38, x0.a = some a38 ∧
 ∃ v39, cAt h32 (adr a38 ((IntKind.wrap .i64 n33).toNat * 3)) 0 (.string v39) ∧
 ∃ v40, cAt h32 (adr a38 ((IntKind.wrap .i64 n33).toNat * 3)) 1 (.string v40) ∧
 ∃ v41, cAt h32 (adr a38 ((IntKind.wrap .i64 n33).toNat * 3)) 2 (.int .u64 v41) ∧
 HV PG x4 [.agg #[.string v35, .string v36, .int .u64 v37], .agg #[.string v39, .string v40, .int .u64 v41]] [.c (.int .i64)] (fun (e42 : Int) h43 =>
 CondP (!(decide (e42 < (0 : Int)))) (
 I30 (IntKind.wrap .i64 ((IntKind.wrap .i64 n33) + 1), t31.2) h43) (
 I30 (t31.1, IntKind.wrap .i64 n33) h43)) h32))))) (
 LoopP (fun I44 (t45 : Int) h46 =>
 CondP (decide (t45 > t31.1)) (
 (iBd (IntKind.wrap .i64 (t45 - 1)) x0.len ∧ ∃ a47, x0.a = some a47 ∧
 ∃ v48, cAt h46 (adr a47 ((IntKind.wrap .i64 (t45 - 1)).toNat * 3)) 0 (.string v48) ∧
 ∃ v49, cAt h46 (adr a47 ((IntKind.wrap .i64 (t45 - 1)).toNat * 3)) 1 (.string v49) ∧
 ∃ v50, cAt h46 (adr a47 ((IntKind.wrap .i64 (t45 - 1)).toNat * 3)) 2 (.int .u64 v50) ∧
 (iBd t45 x0.len ∧ ∃ a51, x0.a = some a51 ∧
 ∃ v52, cAt h46 (adr a51 (t45.toNat * 3)) 0 (.string v52) ∧
 ∃ v53, cAt h46 (adr a51 (t45.toNat * 3)) 1 (.string v53) ∧
 ∃ v54, cAt h46 (adr a51 (t45.toNat * 3)) 2 (.int .u64 v54) ∧
 (iBd t45 x0.len ∧ ∃ a55, x0.a = some a55 ∧
 (WrS h46 (some (adr a55 (t45.toNat * 3))) 0 [.string v48, .string v49, .int .u64 v50] ∧
 At (hsetL h46 (adr a55 (t45.toNat * 3)) 0 [.string v48, .string v49, .int .u64 v50]) (fun h56 =>
 (iBd (IntKind.wrap .i64 (t45 - 1)) x0.len ∧ ∃ a57, x0.a = some a57 ∧
 (WrS h56 (some (adr a57 ((IntKind.wrap .i64 (t45 - 1)).toNat * 3))) 0 [.string v52, .string v53, .int .u64 v54] ∧
 At (hsetL h56 (adr a57 ((IntKind.wrap .i64 (t45 - 1)).toNat * 3)) 0 [.string v52, .string v53, .int .u64 v54]) (fun h58 =>
 I44 (IntKind.wrap .i64 (t45 - 1)) h58))))))))) (
 K () h46)) x2 h32)) (x1, x2) h0) (
 ((0 : Int) ≤ (1 : Int) ∧
 Bd (Int.fdiv (IntKind.wrap .u64 (IntKind.wrap .i64 (x1 + x3))) (2 ^ (min (1 : Int).toNat (IntKind.bits .u64))) : Int) (fun n59 =>
 Join (fun (t62 : Int × Int) h63 =>
 Bd (IntKind.wrap .i64 ((IntKind.wrap .i64 ((IntKind.wrap .i64 n59) + x2)) - 1) : Int) (fun n64 =>
 LoopP (fun I65 (t66 : Int × Int) h67 =>
 CondP (decide (t66.1 < t66.2)) (
 ((0 : Int) ≤ (1 : Int) ∧
 Bd (Int.fdiv (IntKind.wrap .u64 (IntKind.wrap .i64 (t66.1 + t66.2))) (2 ^ (min (1 : Int).toNat (IntKind.bits .u64))) : Int) (fun n68 =>
 (iBd (IntKind.wrap .i64 (n64 - (IntKind.wrap .i64 n68))) x0.len ∧ ∃ a69, x0.a = some a69 ∧
 ∃ v70, cAt h67 (adr a69 ((IntKind.wrap .i64 (n64 - (IntKind.wrap .i64 n68))).toNat * 3)) 0 (.string v70) ∧
 ∃ v71, cAt h67 (adr a69 ((IntKind.wrap .i64 (n64 - (IntKind.wrap .i64 n68))).toNat * 3)) 1 (.string v71) ∧
 ∃ v72, cAt h67 (adr a69 ((IntKind.wrap .i64 (n64 - (IntKind.wrap .i64 n68))).toNat * 3)) 2 (.int .u64 v72) ∧
 (iBd (IntKind.wrap .i64 n68) x0.len ∧ ∃ a73, x0.a = some a73 ∧
 ∃ v74, cAt h67 (adr a73 ((IntKind.wrap .i64 n68).toNat * 3)) 0 (.string v74) ∧
 ∃ v75, cAt h67 (adr a73 ((IntKind.wrap .i64 n68).toNat * 3)) 1 (.string v75) ∧
 ∃ v76, cAt h67 (adr a73 ((IntKind.wrap .i64 n68).toNat * 3)) 2 (.int .u64 v76) ∧
 HV PG x4 [.agg #[.string v70, .string v71, .int .u64 v72], .agg #[.string v74, .string v75, .int .u64 v76]] [.c (.int .i64)] (fun (e77 : Int) h78 =>
 CondP (!(decide (e77 < (0 : Int)))) (
 I65 (IntKind.wrap .i64 ((IntKind.wrap .i64 n68) + 1), t66.2) h78) (
 I65 (t66.1, IntKind.wrap .i64 n68) h78)) h67))))) (
 Bd (IntKind.wrap .i64 ((IntKind.wrap .i64 ((IntKind.wrap .i64 n59) + x2)) - t66.1) : Int) (fun n79 =>
 Join (fun (t86 : Unit) h87 =>
 Join (fun (t94 : Unit) h95 =>
 Join (fun (t97 : Bool) h98 =>
 CondP t97 (
 HC PG f_slices_symMergeCmpFunc_build_hashed [.slice x0.a x0.len x0.cap, .int .i64 (IntKind.wrap .i64 n59), .int .i64 n79, .int .i64 x3, x4] [] (fun (e99 : Unit) h100 =>
 K () h100) h98) (
 K () h98)) (fun J96 =>
 CondP (decide ((IntKind.wrap .i64 n59) < n79)) (
 J96 (decide (n79 < x3)) h95) (
 J96 false h95))) (fun J88 =>
 Join (fun (t90 : Bool) h91 =>
 CondP t90 (
 HC PG f_slices_symMergeCmpFunc_build_hashed [.slice x0.a x0.len x0.cap, .int .i64 x1, .int .i64 t66.1, .int .i64 (IntKind.wrap .i64 n59), x4] [] (fun (e92 : Unit) h93 =>
 J88 () h93) h91) (
 J88 () h91)) (fun J89 =>
 CondP (decide (x1 < t66.1)) (
 J89 (decide (t66.1 < (IntKind.wrap .i64 n59))) h87) (
 J89 false h87)))) (fun J80 =>
 Join (fun (t82 : Bool) h83 =>
 CondP t82 (
 HC PG f_slices_rotateCmpFunc_build_hashed [.slice x0.a x0.len x0.cap, .int .i64 t66.1, .int .i64 x2, .int .i64 n79, x4] [] (fun (e84 : Unit) h85 =>
 J80 () h85) h83) (
 J80 () h83)) (fun J81 =>
 CondP (decide (t66.1 < x2)) (
 J81 (decide (x2 < n79)) h67) (
 J81 false h67)))))) (t62.1, t62.2) h63)) (fun J60 =>
 CondP (decide (x2 > (IntKind.wrap .i64 n59))) (
 Bd (IntKind.wrap .i64 ((IntKind.wrap .i64 ((IntKind.wrap .i64 n59) + x2)) - x3) : Int) (fun n61 =>
 J60 (n61, IntKind.wrap .i64 n59) h0)) (
 J60 (x1, x2) h0))))))
noncomputable def A_slices_symMergeCmpFunc_build_hashed : Ann := .node (.node (.reg [0,1,2,3,4,28] (.nil)) (.node (.node (.reg [0,1,3,4,10] (.nil)) (.node (.reg [0,1,4,10,11] (.nil)) (.node (.loop [0,1,4] [(10,.c (.int .i64)),(11,.c (.int .i64))] (.node (.node (.reg [0,1,4,10,11,33] (.nil)) (.nil)) (.node (.reg [0,1,4,10,11,12] (.nil)) (.node (.reg [0,1,4,10,11,12,50] (.draw (dl 11 [dm [] [4] 41,dm [] [0] 42,dm [] [12] 43,dm [1,2] [41,42] 44,dm [3] [43] 45,dm [] [0] 46,dm [] [1] 47,dm [5,6] [45,46] 48,dm [7] [47] 49,dm [0,4,8] [40,44,48] 50,dm [9] [49] 51]) (tr 0 9 (.all (.last 9 (.take 10 (.done))))))) (.node (.reg [0,1,4,10,11] (.nil)) (.reg [0,1,4,10,11] (.nil))))))) (.node (.node (.reg [0,10,13] (.nil)) (.loop [0,10] [(13,.c (.int .i64))] (.node (.node (.reg [0,10,13,58] (.nil)) (.nil)) (.node (.reg [0,10,13] (.draw (dl 18 [dm [] [0] 62,dm [] [13] 63,dm [] [0] 64,dm [] [13] 65,dm [3] [64] 66,dm [] [0] 67,dm [] [13] 68,dm [6] [67] 69,dm [5,7] [66,68] 70,dm [8] [69] 71,dm [] [0] 72,dm [] [13] 73,dm [10,11] [71,72] 74,dm [12] [73] 75,dn [0,1,5,6,7,8,9,13] [0,1] [61,62] 76,dn [0,1,5,6,7,8,9,13,14] [9,14] [70,75] 0,dn [0,1,2,3,4,5,6,7,8,9,10,11,12,13,14,15] [2,4] [63,65] 77,dn [0,1,2,3,4,5,6,7,8,9,10,11,12,13,14,15,16] [13,16] [74,76] 0]) (tr 0 15 (.all (.last 15 (.take 16 (.all (.last 17 (.done))))))))) (.reg [0,10,13] (.nil)))))) (.nil))))) (.nil))) (.node (.node (.reg [0,1,2,3,4,80] (.nil)) (.node (.node (.reg [0,2,4,14] (.nil)) (.node (.reg [0,2,4,14,15] (.nil)) (.node (.loop [0,2,4] [(14,.c (.int .i64)),(15,.c (.int .i64))] (.node (.node (.reg [0,2,4,14,15,85] (.nil)) (.nil)) (.node (.reg [0,2,4,14,15,16] (.nil)) (.node (.reg [0,2,4,14,15,16,103] (.draw (dl 12 [dm [] [4] 93,dm [] [0] 94,dm [] [2] 95,dm [1,2] [93,94] 96,dm [3] [95] 97,dm [] [0] 98,dm [] [16] 99,dm [5,6] [97,98] 100,dm [7] [99] 101,dm [0,4,8] [92,96,100] 102,dm [9] [101] 103,dm [10] [102] 104]) (tr 0 9 (.all (.last 9 (.take 10 (.take 11 (.done)))))))) (.node (.reg [0,2,4,14,15] (.nil)) (.reg [0,2,4,14,15] (.nil))))))) (.node (.node (.reg [0,14,17] (.nil)) (.loop [0,14] [(17,.c (.int .i64))] (.node (.node (.reg [0,14,17,110] (.nil)) (.nil)) (.node (.reg [0,14,17] (.draw (dl 18 [dm [] [0] 114,dm [] [17] 115,dm [] [0] 116,dm [] [17] 117,dm [3] [116] 118,dm [] [0] 119,dm [] [17] 120,dm [6] [119] 121,dm [5,7] [118,120] 122,dm [8] [121] 123,dm [] [0] 124,dm [] [17] 125,dm [10,11] [123,124] 126,dm [12] [125] 127,dn [0,1,5,6,7,8,9,13] [0,1] [113,114] 128,dn [0,1,5,6,7,8,9,13,14] [9,14] [122,127] 0,dn [0,1,2,3,4,5,6,7,8,9,10,11,12,13,14,15] [2,4] [115,117] 129,dn [0,1,2,3,4,5,6,7,8,9,10,11,12,13,14,15,16] [13,16] [126,128] 0]) (tr 0 15 (.all (.last 15 (.take 16 (.all (.last 17 (.done))))))))) (.reg [0,14,17] (.nil)))))) (.nil))))) (.nil))) (.node (.reg [0,1,2,3,4,18] (.nil)) (.node (.reg [0,1,2,3,4,18,19] (.nil)) (.node (.reg [0,1,2,3,4,18,19] (.nil)) (.join [0,1,2,3,4,18,19] [(20,.c (.int .i64)),(21,.c (.int .i64))] (.node (.reg [0,1,2,3,4,18,19,140] (.nil)) (.node (.node (.reg [0,1,2,3,4,18,19,20] (.nil)) (.reg [0,1,2,3,4,18,19,20,21] (.nil))) (.node (.reg [0,1,2,3,4,18,19,20] (.nil)) (.reg [0,1,2,3,4,18,19,20,21] (.nil))))) (.node (.reg [0,1,2,3,4,18,19,20,21,22] (.nil)) (.node (.loop [0,1,2,3,4,18,19,22] [(20,.c (.int .i64)),(21,.c (.int .i64))] (.node (.node (.reg [0,1,2,3,4,18,19,20,21,22,151] (.nil)) (.nil)) (.node (.reg [0,1,2,3,4,18,19,20,21,22,23] (.nil)) (.node (.reg [0,1,2,3,4,18,19,20,21,22,23,171] (.draw (dl 14 [dm [] [4] 159,dm [] [0] 160,dm [] [22] 161,dm [] [23] 162,dm [2,3] [160,161] 163,dm [1,4] [159,162] 164,dm [5] [163] 165,dm [] [0] 166,dm [] [23] 167,dm [7,8] [165,166] 168,dm [9] [167] 169,dm [0,6,10] [158,164,168] 170,dm [11] [169] 171,dm [12] [170] 172]) (tr 0 11 (.all (.last 11 (.take 12 (.take 13 (.done)))))))) (.node (.reg [0,1,2,3,4,18,19,20,21,22] (.nil)) (.reg [0,1,2,3,4,18,19,20,21,22] (.nil))))))) (.node (.reg [0,1,2,3,4,18,20,24] (.nil)) (.join [0,1,3,4,18,20,24] [] (.join [0,1,2,3,4,18,20,24] [(185,.c .bool)] (.reg [0,1,2,3,4,18,20,24,185] (.nil)) (.node (.reg [0,1,3,4,18,20,24] (.nil)) (.nil))) (.join [0,3,4,18,24] [] (.join [0,1,3,4,18,20,24] [(199,.c .bool)] (.reg [0,1,3,4,18,20,24,199] (.nil)) (.node (.reg [0,3,4,18,24] (.nil)) (.nil))) (.join [0,3,4,18,24] [(213,.c .bool)] (.reg [0,3,4,18,24,213] (.nil)) (.node (.reg [] (.nil)) (.nil)))))))))))))
theorem H_slices_symMergeCmpFunc_build_hashed (x0 : SliceV) (x1 : Int) (x2 : Int) (x3 : Int) (x4 : Value) {K : Tup [] → Heap → Prop} {h0 : Heap} (h : F_slices_symMergeCmpFunc_build_hashed x0 x1 x2 x3 x4 K h0) : HC PG f_slices_symMergeCmpFunc_build_hashed [.slice x0.a x0.len x0.cap, .int .i64 x1, .int .i64 x2, .int .i64 x3, x4] [] K h0 := HC.intro (an := A_slices_symMergeCmpFunc_build_hashed) (c := Tryz.f196.body.getD .skip) Tryz.mixed Tryz.func196 rfl Tryz.call196 (Nat.le_of_ble_eq_true rfl) (cst (by kernel_rfl) h)
def F_slices_Delete_A_pair_Pair_pair_Pair (x0 : SliceV) (x1 : Int) (x2 : Int) (K : (SliceV) → Heap → Prop) (h0 : Heap) : Prop :=
 (((0 : Int) ≤ (x0.len : Int) ∧ (x0.len : Int) ≤ ((x0.cap : Nat) : Int)) ∧
 (((0 : Int) ≤ x2 ∧ x2 ≤ (((x0.len : Int).toNat : Nat) : Int)) ∧
 (((0 : Int) ≤ x1 ∧ x1 ≤ ((x2.toNat : Nat) : Int)) ∧
 CondP (x1 == x2) (
 K x0 h0) (
 Join (fun (t5 : SliceV) h6 =>
 (((0 : Int) ≤ (x0.len : Int) ∧ (x0.len : Int) ≤ ((t5.cap : Nat) : Int)) ∧
 (((0 : Int) ≤ (t5.len : Int) ∧ (t5.len : Int) ≤ (((x0.len : Int).toNat : Nat) : Int)) ∧
 Bd (subAddr t5.a ((t5.len : Int).toNat) t5.cap 2 : Option Addr) (fun a7 => Bd (((x0.len : Int).toNat) - ((t5.len : Int).toNat) : Nat) (fun n8 => Bd (t5.cap - ((t5.len : Int).toNat) : Nat) (fun n9 =>
 (WrS h6 a7 0 (zrow n8 [.string (⟨#[]⟩ : ByteArray), .string (⟨#[]⟩ : ByteArray)]) ∧
 At (hsetS h6 a7 0 (zrow n8 [.string (⟨#[]⟩ : ByteArray), .string (⟨#[]⟩ : ByteArray)])) (fun h10 =>
 K t5 h10)))))))) (fun J1 =>
 (((0 : Int) ≤ x1 ∧ x1 ≤ ((x0.cap : Nat) : Int)) ∧
 (((0 : Int) ≤ x2 ∧ x2 ≤ ((x0.len : Nat) : Int)) ∧
 ∃ xs2, SRow h0 (subAddr x0.a x2.toNat x0.cap 2) ((x0.len - x2.toNat) * 2) xs2 ∧
 AppP (some [.string (⟨#[]⟩ : ByteArray), .string (⟨#[]⟩ : ByteArray)]) 2 32 t_pair_Pair (subAddr x0.a 0 x0.cap 2) (x1.toNat - 0) (x0.cap - 0) (x0.len - x2.toNat) xs2 h0 (fun s3 h4 =>
 J1 s3 h4))))))))
noncomputable def A_slices_Delete_A_pair_Pair_pair_Pair : Ann := .node (.reg [0,1,2] (.nil)) (.node (.reg [0,1,2] (.nil)) (.node (.node (.reg [0,1,2,16] (.nil)) (.node (.node (.reg [6] (.nil)) (.nil)) (.nil))) (.node (.reg [0,1,2,7] (.nil)) (.join [7] [(0,.c .slice)] (.reg [0,7] (.draw (dl 8 [dm [] [0] 21,dm [] [1] 22,dm [0,1] [20,21] 23,dm [] [0] 24,dm [] [2] 25,dm [3,4] [23,24] 26,dm [2,5] [22,25] 27,dn [0,1,2,3,4,5,6] [0,3,6] [26] 1]) (tr 0 6 (.all (.last 6 (.take 7 (.done))))))) (.node (.reg [0] (.nil)) (.node (.reg [6] (.nil)) (.nil)))))))
theorem H_slices_Delete_A_pair_Pair_pair_Pair (x0 : SliceV) (x1 : Int) (x2 : Int) {K : Tup [.c .slice] → Heap → Prop} {h0 : Heap} (h : F_slices_Delete_A_pair_Pair_pair_Pair x0 x1 x2 K h0) : HC PG f_slices_Delete_A_pair_Pair_pair_Pair [.slice x0.a x0.len x0.cap, .int .i64 x1, .int .i64 x2] [.c .slice] K h0 := HC.intro (an := A_slices_Delete_A_pair_Pair_pair_Pair) (c := Tryz.f197.body.getD .skip) Tryz.mixed Tryz.func197 rfl Tryz.call197 (Nat.le_of_ble_eq_true rfl) (cst (by kernel_rfl) h)
def F_slices_Delete_A_P_node_Node_P_node_Node (x0 : SliceV) (x1 : Int) (x2 : Int) (K : (SliceV) → Heap → Prop) (h0 : Heap) : Prop :=
 (((0 : Int) ≤ (x0.len : Int) ∧ (x0.len : Int) ≤ ((x0.cap : Nat) : Int)) ∧
 (((0 : Int) ≤ x2 ∧ x2 ≤ (((x0.len : Int).toNat : Nat) : Int)) ∧
 (((0 : Int) ≤ x1 ∧ x1 ≤ ((x2.toNat : Nat) : Int)) ∧
 CondP (x1 == x2) (
 K x0 h0) (
 Join (fun (t5 : SliceV) h6 =>
 (((0 : Int) ≤ (x0.len : Int) ∧ (x0.len : Int) ≤ ((t5.cap : Nat) : Int)) ∧
 (((0 : Int) ≤ (t5.len : Int) ∧ (t5.len : Int) ≤ (((x0.len : Int).toNat : Nat) : Int)) ∧
 Bd (subAddr t5.a ((t5.len : Int).toNat) t5.cap 1 : Option Addr) (fun a7 => Bd (((x0.len : Int).toNat) - ((t5.len : Int).toNat) : Nat) (fun n8 => Bd (t5.cap - ((t5.len : Int).toNat) : Nat) (fun n9 =>
 (WrS h6 a7 0 (zrow n8 [.pointer none]) ∧
 At (hsetS h6 a7 0 (zrow n8 [.pointer none])) (fun h10 =>
 K t5 h10)))))))) (fun J1 =>
 (((0 : Int) ≤ x1 ∧ x1 ≤ ((x0.cap : Nat) : Int)) ∧
 (((0 : Int) ≤ x2 ∧ x2 ≤ ((x0.len : Nat) : Int)) ∧
 ∃ xs2, SRow h0 (subAddr x0.a x2.toNat x0.cap 1) ((x0.len - x2.toNat) * 1) xs2 ∧
 AppP (some [.pointer none]) 1 8 t_P_node_Node (subAddr x0.a 0 x0.cap 1) (x1.toNat - 0) (x0.cap - 0) (x0.len - x2.toNat) xs2 h0 (fun s3 h4 =>
 J1 s3 h4))))))))
noncomputable def A_slices_Delete_A_P_node_Node_P_node_Node : Ann := .node (.reg [0,1,2] (.nil)) (.node (.reg [0,1,2] (.nil)) (.node (.node (.reg [0,1,2,16] (.nil)) (.node (.node (.reg [6] (.nil)) (.nil)) (.nil))) (.node (.reg [0,1,2,7] (.nil)) (.join [7] [(0,.c .slice)] (.reg [0,7] (.draw (dl 8 [dm [] [0] 21,dm [] [1] 22,dm [0,1] [20,21] 23,dm [] [0] 24,dm [] [2] 25,dm [3,4] [23,24] 26,dm [2,5] [22,25] 27,dn [0,1,2,3,4,5,6] [0,3,6] [26] 1]) (tr 0 6 (.all (.last 6 (.take 7 (.done))))))) (.node (.reg [0] (.nil)) (.node (.reg [6] (.nil)) (.nil)))))))
theorem H_slices_Delete_A_P_node_Node_P_node_Node (x0 : SliceV) (x1 : Int) (x2 : Int) {K : Tup [.c .slice] → Heap → Prop} {h0 : Heap} (h : F_slices_Delete_A_P_node_Node_P_node_Node x0 x1 x2 K h0) : HC PG f_slices_Delete_A_P_node_Node_P_node_Node [.slice x0.a x0.len x0.cap, .int .i64 x1, .int .i64 x2] [.c .slice] K h0 := HC.intro (an := A_slices_Delete_A_P_node_Node_P_node_Node) (c := Tryz.f198.body.getD .skip) Tryz.mixed Tryz.func198 rfl Tryz.call198 (Nat.le_of_ble_eq_true rfl) (cst (by kernel_rfl) h)
def F_chunk_Bits_Without (x0 : Int) (x1 : Int) (K : (Int) → Heap → Prop) (h0 : Heap) : Prop :=
 HC PG f_chunk_right [.int .i64 x1] [.c .bool] (fun (e1 : Bool) h2 =>
 CondP (!e1) (
 K x0 h2) (
 ((0 : Int) ≤ x1 ∧
 Bd (IntKind.wrap .u32 (BitVec.ofInt (IntKind.bits .u32) x0 &&& ~~~ BitVec.ofInt (IntKind.bits .u32) (IntKind.wrap .u32 (1 * 2 ^ (min (x1 : Int).toNat (IntKind.bits .u32))))).toNat : Int) (fun n3 =>
 K n3 h2)))) h0
noncomputable def A_chunk_Bits_Without : Ann := .node (.reg [0,1] (.nil)) (.node (.node (.reg [0,1,7] (.nil)) (.node (.node (.reg [4] (.nil)) (.nil)) (.nil))) (.node (.reg [4] (.nil)) (.nil)))
theorem H_chunk_Bits_Without (x0 : Int) (x1 : Int) {K : Tup [.c (.int .u32)] → Heap → Prop} {h0 : Heap} (h : F_chunk_Bits_Without x0 x1 K h0) : HC PG f_chunk_Bits_Without [.int .u32 x0, .int .i64 x1] [.c (.int .u32)] K h0 := HC.intro (an := A_chunk_Bits_Without) (c := Tryz.f199.body.getD .skip) Tryz.mixed Tryz.func199 rfl Tryz.call199 (Nat.le_of_ble_eq_true rfl) (cst (by kernel_rfl) h)
def F_slices_BinarySearchFunc_A_pair_Pair_pair_Pair_str (x0 : SliceV) (x1 : ByteArray) (x2 : Value) (K : (Int × Bool) → Heap → Prop) (h0 : Heap) : Prop :=
 LoopP (fun I1 (t2 : Int × Int) h3 =>
 CondP (decide (t2.1 < t2.2)) (
 ((0 : Int) ≤ (1 : Int) ∧
 Bd (Int.fdiv (IntKind.wrap .u64 (IntKind.wrap .i64 (t2.1 + t2.2))) (2 ^ (min (1 : Int).toNat (IntKind.bits .u64))) : Int) (fun n4 =>
 (iBd (IntKind.wrap .i64 n4) x0.len ∧ ∃ a5, x0.a = some a5 ∧
 ∃ v6, cAt h3 (adr a5 ((IntKind.wrap .i64 n4).toNat * 2)) 0 (.string v6) ∧
 ∃ v7, cAt h3 (adr a5 ((IntKind.wrap .i64 n4).toNat * 2)) 1 (.string v7) ∧
 HV PG x2 [.agg #[.string v6, .string v7], .string x1] [.c (.int .i64)] (fun (e8 : Int) h9 =>
 CondP (decide (e8 < (0 : Int))) (
 I1 (IntKind.wrap .i64 ((IntKind.wrap .i64 n4) + 1), t2.2) h9) (
 I1 (t2.1, IntKind.wrap .i64 n4) h9)) h3)))) (
 CondP (decide (t2.1 < (x0.len : Int))) (
 (iBd t2.1 x0.len ∧ ∃ a10, x0.a = some a10 ∧
 ∃ v11, cAt h3 (adr a10 (t2.1.toNat * 2)) 0 (.string v11) ∧
 ∃ v12, cAt h3 (adr a10 (t2.1.toNat * 2)) 1 (.string v12) ∧
 HV PG x2 [.agg #[.string v11, .string v12], .string x1] [.c (.int .i64)] (fun (e13 : Int) h14 =>
 K (t2.1, e13 == (0 : Int)) h14) h3)) (
 K (t2.1, false) h3))) (0, (x0.len : Int)) h0
noncomputable def A_slices_BinarySearchFunc_A_pair_Pair_pair_Pair_str : Ann := .node (.reg [0,1,2] (.nil)) (.node (.reg [0,1,2,8] (.nil)) (.node (.reg [0,1,2,8,9,10] (.nil)) (.node (.loop [0,1,2,8] [(9,.c (.int .i64)),(10,.c (.int .i64))] (.node (.node (.reg [0,1,2,8,9,10,17] (.nil)) (.nil)) (.node (.reg [0,1,2,8,9,10,11] (.nil)) (.node (.reg [0,1,2,8,9,10,11,31] (.nil)) (.node (.reg [0,1,2,8,9,10] (.nil)) (.reg [0,1,2,8,9,10] (.nil))))))) (.node (.reg [6,7] (.nil)) (.nil)))))
theorem H_slices_BinarySearchFunc_A_pair_Pair_pair_Pair_str (x0 : SliceV) (x1 : ByteArray) (x2 : Value) {K : Tup [.c (.int .i64), .c .bool] → Heap → Prop} {h0 : Heap} (h : F_slices_BinarySearchFunc_A_pair_Pair_pair_Pair_str x0 x1 x2 K h0) : HC PG f_slices_BinarySearchFunc_A_pair_Pair_pair_Pair_str [.slice x0.a x0.len x0.cap, .string x1, x2] [.c (.int .i64), .c .bool] K h0 := HC.intro (an := A_slices_BinarySearchFunc_A_pair_Pair_pair_Pair_str) (c := Tryz.f205.body.getD .skip) Tryz.mixed Tryz.func205 rfl Tryz.call205 (Nat.le_of_ble_eq_true rfl) (cst (by kernel_rfl) h)
def F_node_Node_Kids (x0 : Option Addr) (K : (SliceV) → Heap → Prop) (h0 : Heap) : Prop :=
 CondP x0.isNone (
 K ⟨none, 0, 0⟩ h0) (
 ∃ a1, x0 = some a1 ∧
 ∃ v2 : SliceV, cAt h0 (adr a1 0) 3 (.slice v2.a v2.len v2.cap) ∧
 HC PG f_slices_Clone_A_P_node_Node_P_node_Node [.slice v2.a v2.len v2.cap] [.c .slice] (fun (e3 : SliceV) h4 =>
 K e3 h4) h0)
noncomputable def A_node_Node_Kids : Ann := .node (.reg [0] (.nil)) (.node (.node (.reg [0,4] (.nil)) (.node (.node (.reg [2] (.nil)) (.nil)) (.nil))) (.node (.reg [2] (.nil)) (.nil)))
theorem H_node_Node_Kids (x0 : Option Addr) {K : Tup [.c .slice] → Heap → Prop} {h0 : Heap} (h : F_node_Node_Kids x0 K h0) : HC PG f_node_Node_Kids [.pointer x0] [.c .slice] K h0 := HC.intro (an := A_node_Node_Kids) (c := Tryz.f209.body.getD .skip) Tryz.mixed Tryz.func209 rfl Tryz.call209 (Nat.le_of_ble_eq_true rfl) (cst (by kernel_rfl) h)
def F_slices_rotateCmpFunc_pair_Pair (x0 : SliceV) (x1 : Int) (x2 : Int) (x3 : Int) (x4 : Value) (K : (Unit) → Heap → Prop) (h0 : Heap) : Prop :=
 LoopP (fun I1 (t2 : Int × Int) h3 =>
 CondP (t2.1 != t2.2) (
 CondP (decide (t2.1 > t2.2)) (
 HC PG f_slices_swapRangeCmpFunc_pair_Pair [.slice x0.a x0.len x0.cap, .int .i64 (IntKind.wrap .i64 (x2 - t2.1)), .int .i64 x2, .int .i64 t2.2, x4] [] (fun (e4 : Unit) h5 =>
 I1 (IntKind.wrap .i64 (t2.1 - t2.2), t2.2) h5) h3) (
 HC PG f_slices_swapRangeCmpFunc_pair_Pair [.slice x0.a x0.len x0.cap, .int .i64 (IntKind.wrap .i64 (x2 - t2.1)), .int .i64 (IntKind.wrap .i64 ((IntKind.wrap .i64 (x2 + t2.2)) - t2.1)), .int .i64 t2.1, x4] [] (fun (e6 : Unit) h7 =>
 I1 (t2.1, IntKind.wrap .i64 (t2.2 - t2.1)) h7) h3)) (
 HC PG f_slices_swapRangeCmpFunc_pair_Pair [.slice x0.a x0.len x0.cap, .int .i64 (IntKind.wrap .i64 (x2 - t2.1)), .int .i64 x2, .int .i64 t2.1, x4] [] (fun (e8 : Unit) h9 =>
 K () h9) h3)) (IntKind.wrap .i64 (x2 - x1), IntKind.wrap .i64 (x3 - x2)) h0
noncomputable def A_slices_rotateCmpFunc_pair_Pair : Ann := .node (.reg [0,2,3,4,10] (.nil)) (.node (.reg [0,2,4,10,11] (.nil)) (.node (.loop [0,2,4] [(10,.c (.int .i64)),(11,.c (.int .i64))] (.node (.node (.reg [0,2,4,10,11,20] (.nil)) (.nil)) (.node (.reg [0,2,4,10,11,23] (.nil)) (.node (.node (.reg [0,2,4,10,11] (.nil)) (.reg [0,2,4,10,11] (.nil))) (.node (.reg [0,2,4,10,11] (.nil)) (.reg [0,2,4,10,11] (.nil))))))) (.reg [] (.nil))))
theorem H_slices_rotateCmpFunc_pair_Pair (x0 : SliceV) (x1 : Int) (x2 : Int) (x3 : Int) (x4 : Value) {K : Tup [] → Heap → Prop} {h0 : Heap} (h : F_slices_rotateCmpFunc_pair_Pair x0 x1 x2 x3 x4 K h0) : HC PG f_slices_rotateCmpFunc_pair_Pair [.slice x0.a x0.len x0.cap, .int .i64 x1, .int .i64 x2, .int .i64 x3, x4] [] K h0 := HC.intro (an := A_slices_rotateCmpFunc_pair_Pair) (c := Tryz.f210.body.getD .skip) Tryz.mixed Tryz.func210 rfl Tryz.call210 (Nat.le_of_ble_eq_true rfl) (cst (by kernel_rfl) h)
def F_slices_Grow_A_pair_Pair_pair_Pair (x0 : SliceV) (x1 : Int) (K : (SliceV) → Heap → Prop) (h0 : Heap) : Prop :=
 Join (fun (t2 : Unit) h3 =>
 Bd (IntKind.wrap .i64 (x1 - (IntKind.wrap .i64 ((x0.cap : Int) - (x0.len : Int)))) : Int) (fun n4 =>
 CondP (decide (n4 > (0 : Int))) (
 (((0 : Int) ≤ (x0.cap : Int) ∧ (x0.cap : Int) ≤ ((x0.cap : Nat) : Int)) ∧
 (((0 : Int) ≤ n4 ∧ n4 * ((32 : Nat) : Int) ≤ 2 ^ 48 ∧ n4 ≤ 9223372036854775807 ∧ (((((x0.cap : Int).toNat) - 0) + n4.toNat : Nat) : Int) ≤ 9223372036854775807) ∧
 AppP (some [.string (⟨#[]⟩ : ByteArray), .string (⟨#[]⟩ : ByteArray)]) 2 32 t_pair_Pair (subAddr x0.a 0 x0.cap 2) (((x0.cap : Int).toNat) - 0) (x0.cap - 0) n4.toNat (zrow n4.toNat [.string (⟨#[]⟩ : ByteArray), .string (⟨#[]⟩ : ByteArray)]) h3 (fun s5 h6 =>
 (((0 : Int) ≤ (x0.len : Int) ∧ (x0.len : Int) ≤ ((s5.cap : Nat) : Int)) ∧
 K ⟨subAddr s5.a 0 s5.cap 2, ((x0.len : Int).toNat) - 0, s5.cap - 0⟩ h6))))) (
 K x0 h3))) (fun J1 =>
 CondP (decide (x1 < (0 : Int))) (
 False) (
 J1 () h0))
noncomputable def A_slices_Grow_A_pair_Pair_pair_Pair : Ann := .node (.reg [0,1] (.nil)) (.join [0,1] [] (.node (.reg [0,1,6] (.nil)) (.node (.reg [] (.nil)) (.nil))) (.node (.node (.reg [0,1] (.nil)) (.node (.reg [0,1,16] (.nil)) (.node (.reg [0] (.nil)) (.nil)))) (.node (.reg [4] (.nil)) (.nil))))
theorem H_slices_Grow_A_pair_Pair_pair_Pair (x0 : SliceV) (x1 : Int) {K : Tup [.c .slice] → Heap → Prop} {h0 : Heap} (h : F_slices_Grow_A_pair_Pair_pair_Pair x0 x1 K h0) : HC PG f_slices_Grow_A_pair_Pair_pair_Pair [.slice x0.a x0.len x0.cap, .int .i64 x1] [.c .slice] K h0 := HC.intro (an := A_slices_Grow_A_pair_Pair_pair_Pair) (c := Tryz.f211.body.getD .skip) Tryz.mixed Tryz.func211 rfl Tryz.call211 (Nat.le_of_ble_eq_true rfl) (cst (by kernel_rfl) h)
def F_slices_rotateCmpFunc_build_hashed (x0 : SliceV) (x1 : Int) (x2 : Int) (x3 : Int) (x4 : Value) (K : (Unit) → Heap → Prop) (h0 : Heap) : Prop :=
 LoopP (fun I1 (t2 : Int × Int) h3 =>
 CondP (t2.1 != t2.2) (
 CondP (decide (t2.1 > t2.2)) (
 HC PG f_slices_swapRangeCmpFunc_build_hashed [.slice x0.a x0.len x0.cap, .int .i64 (IntKind.wrap .i64 (x2 - t2.1)), .int .i64 x2, .int .i64 t2.2, x4] [] (fun (e4 : Unit) h5 =>
 I1 (IntKind.wrap .i64 (t2.1 - t2.2), t2.2) h5) h3) (
 HC PG f_slices_swapRangeCmpFunc_build_hashed [.slice x0.a x0.len x0.cap, .int .i64 (IntKind.wrap .i64 (x2 - t2.1)), .int .i64 (IntKind.wrap .i64 ((IntKind.wrap .i64 (x2 + t2.2)) - t2.1)), .int .i64 t2.1, x4] [] (fun (e6 : Unit) h7 =>
 I1 (t2.1, IntKind.wrap .i64 (t2.2 - t2.1)) h7) h3)) (
 HC PG f_slices_swapRangeCmpFunc_build_hashed [.slice x0.a x0.len x0.cap, .int .i64 (IntKind.wrap .i64 (x2 - t2.1)), .int .i64 x2, .int .i64 t2.1, x4] [] (fun (e8 : Unit) h9 =>
 K () h9) h3)) (IntKind.wrap .i64 (x2 - x1), IntKind.wrap .i64 (x3 - x2)) h0
noncomputable def A_slices_rotateCmpFunc_build_hashed : Ann := .node (.reg [0,2,3,4,10] (.nil)) (.node (.reg [0,2,4,10,11] (.nil)) (.node (.loop [0,2,4] [(10,.c (.int .i64)),(11,.c (.int .i64))] (.node (.node (.reg [0,2,4,10,11,20] (.nil)) (.nil)) (.node (.reg [0,2,4,10,11,23] (.nil)) (.node (.node (.reg [0,2,4,10,11] (.nil)) (.reg [0,2,4,10,11] (.nil))) (.node (.reg [0,2,4,10,11] (.nil)) (.reg [0,2,4,10,11] (.nil))))))) (.reg [] (.nil))))
theorem H_slices_rotateCmpFunc_build_hashed (x0 : SliceV) (x1 : Int) (x2 : Int) (x3 : Int) (x4 : Value) {K : Tup [] → Heap → Prop} {h0 : Heap} (h : F_slices_rotateCmpFunc_build_hashed x0 x1 x2 x3 x4 K h0) : HC PG f_slices_rotateCmpFunc_build_hashed [.slice x0.a x0.len x0.cap, .int .i64 x1, .int .i64 x2, .int .i64 x3, x4] [] K h0 := HC.intro (an := A_slices_rotateCmpFunc_build_hashed) (c := Tryz.f212.body.getD .skip) Tryz.mixed Tryz.func212 rfl Tryz.call212 (Nat.le_of_ble_eq_true rfl) (cst (by kernel_rfl) h)
def F_slices_swapRangeCmpFunc_pair_Pair (x0 : SliceV) (x1 : Int) (x2 : Int) (x3 : Int) (x4 : Value) (K : (Unit) → Heap → Prop) (h0 : Heap) : Prop :=
 LoopP (fun I1 (t2 : Int) h3 =>
 CondP (decide (t2 < x3)) (
 (iBd (IntKind.wrap .i64 (x2 + t2)) x0.len ∧ ∃ a4, x0.a = some a4 ∧
 ∃ v5, cAt h3 (adr a4 ((IntKind.wrap .i64 (x2 + t2)).toNat * 2)) 0 (.string v5) ∧
 ∃ v6, cAt h3 (adr a4 ((IntKind.wrap .i64 (x2 + t2)).toNat * 2)) 1 (.string v6) ∧
 (iBd (IntKind.wrap .i64 (x1 + t2)) x0.len ∧ ∃ a7, x0.a = some a7 ∧
 ∃ v8, cAt h3 (adr a7 ((IntKind.wrap .i64 (x1 + t2)).toNat * 2)) 0 (.string v8) ∧
 ∃ v9, cAt h3 (adr a7 ((IntKind.wrap .i64 (x1 + t2)).toNat * 2)) 1 (.string v9) ∧
 (iBd (IntKind.wrap .i64 (x1 + t2)) x0.len ∧ ∃ a10, x0.a = some a10 ∧
 (WrS h3 (some (adr a10 ((IntKind.wrap .i64 (x1 + t2)).toNat * 2))) 0 [.string v5, .string v6] ∧
 At (hsetL h3 (adr a10 ((IntKind.wrap .i64 (x1 + t2)).toNat * 2)) 0 [.string v5, .string v6]) (fun h11 =>
 (iBd (IntKind.wrap .i64 (x2 + t2)) x0.len ∧ ∃ a12, x0.a = some a12 ∧
 (WrS h11 (some (adr a12 ((IntKind.wrap .i64 (x2 + t2)).toNat * 2))) 0 [.string v8, .string v9] ∧
 At (hsetL h11 (adr a12 ((IntKind.wrap .i64 (x2 + t2)).toNat * 2)) 0 [.string v8, .string v9]) (fun h13 =>
 I1 (IntKind.wrap .i64 (t2 + 1)) h13))))))))) (
 K () h3)) 0 h0
noncomputable def A_slices_swapRangeCmpFunc_pair_Pair : Ann := .node (.reg [0,1,2,3,10] (.nil)) (.loop [0,1,2,3] [(10,.c (.int .i64))] (.node (.node (.reg [0,1,2,3,10,13] (.nil)) (.nil)) (.node (.reg [0,1,2,3,10] (.draw (dl 24 [dm [] [0] 17,dm [] [1] 18,dm [] [10] 19,dm [1,2] [17,18] 20,dm [] [0] 21,dm [] [2] 22,dm [] [10] 23,dm [5,6] [21,22] 24,dm [] [0] 25,dm [] [2] 26,dm [] [10] 27,dm [9,10] [25,26] 28,dm [8,11] [24,27] 29,dm [12] [28] 30,dm [] [0] 31,dm [] [1] 32,dm [] [10] 33,dm [15,16] [31,32] 34,dm [14,17] [30,33] 35,dm [18] [34] 36,dn [0,1,2,3,8,9,10,11,12,13,19] [0,3] [16,19] 37,dn [0,1,2,3,8,9,10,11,12,13,19,20] [13,20] [29,36] 0,dn [0,1,2,3,4,5,6,7,8,9,10,11,12,13,14,15,16,17,18,19,20,21] [4,7] [20,23] 38,dn [0,1,2,3,4,5,6,7,8,9,10,11,12,13,14,15,16,17,18,19,20,21,22] [19,22] [35,37] 0]) (tr 0 21 (.all (.last 21 (.take 22 (.all (.last 23 (.done))))))))) (.reg [0,1,2,3,10] (.nil)))))
theorem H_slices_swapRangeCmpFunc_pair_Pair (x0 : SliceV) (x1 : Int) (x2 : Int) (x3 : Int) (x4 : Value) {K : Tup [] → Heap → Prop} {h0 : Heap} (h : F_slices_swapRangeCmpFunc_pair_Pair x0 x1 x2 x3 x4 K h0) : HC PG f_slices_swapRangeCmpFunc_pair_Pair [.slice x0.a x0.len x0.cap, .int .i64 x1, .int .i64 x2, .int .i64 x3, x4] [] K h0 := HC.intro (an := A_slices_swapRangeCmpFunc_pair_Pair) (c := Tryz.f217.body.getD .skip) Tryz.mixed Tryz.func217 rfl Tryz.call217 (Nat.le_of_ble_eq_true rfl) (cst (by kernel_rfl) h)
def F_slices_swapRangeCmpFunc_build_hashed (x0 : SliceV) (x1 : Int) (x2 : Int) (x3 : Int) (x4 : Value) (K : (Unit) → Heap → Prop) (h0 : Heap) : Prop :=
 LoopP (fun I1 (t2 : Int) h3 =>
 CondP (decide (t2 < x3)) (
 (iBd (IntKind.wrap .i64 (x2 + t2)) x0.len ∧ ∃ a4, x0.a = some a4 ∧
 ∃ v5, cAt h3 (adr a4 ((IntKind.wrap .i64 (x2 + t2)).toNat * 3)) 0 (.string v5) ∧
 ∃ v6, cAt h3 (adr a4 ((IntKind.wrap .i64 (x2 + t2)).toNat * 3)) 1 (.string v6) ∧
 ∃ v7, cAt h3 (adr a4 ((IntKind.wrap .i64 (x2 + t2)).toNat * 3)) 2 (.int .u64 v7) ∧
 (iBd (IntKind.wrap .i64 (x1 + t2)) x0.len ∧ ∃ a8, x0.a = some a8 ∧
 ∃ v9, cAt h3 (adr a8 ((IntKind.wrap .i64 (x1 + t2)).toNat * 3)) 0 (.string v9) ∧
 ∃ v10, cAt h3 (adr a8 ((IntKind.wrap .i64 (x1 + t2)).toNat * 3)) 1 (.string v10) ∧
 ∃ v11, cAt h3 (adr a8 ((IntKind.wrap .i64 (x1 + t2)).toNat * 3)) 2 (.int .u64 v11) ∧
 (iBd (IntKind.wrap .i64 (x1 + t2)) x0.len ∧ ∃ a12, x0.a = some a12 ∧
 (WrS h3 (some (adr a12 ((IntKind.wrap .i64 (x1 + t2)).toNat * 3))) 0 [.string v5, .string v6, .int .u64 v7] ∧
 At (hsetL h3 (adr a12 ((IntKind.wrap .i64 (x1 + t2)).toNat * 3)) 0 [.string v5, .string v6, .int .u64 v7]) (fun h13 =>
 (iBd (IntKind.wrap .i64 (x2 + t2)) x0.len ∧ ∃ a14, x0.a = some a14 ∧
 (WrS h13 (some (adr a14 ((IntKind.wrap .i64 (x2 + t2)).toNat * 3))) 0 [.string v9, .string v10, .int .u64 v11] ∧
 At (hsetL h13 (adr a14 ((IntKind.wrap .i64 (x2 + t2)).toNat * 3)) 0 [.string v9, .string v10, .int .u64 v11]) (fun h15 =>
 I1 (IntKind.wrap .i64 (t2 + 1)) h15))))))))) (
 K () h3)) 0 h0
noncomputable def A_slices_swapRangeCmpFunc_build_hashed : Ann := .node (.reg [0,1,2,3,10] (.nil)) (.loop [0,1,2,3] [(10,.c (.int .i64))] (.node (.node (.reg [0,1,2,3,10,13] (.nil)) (.nil)) (.node (.reg [0,1,2,3,10] (.draw (dl 24 [dm [] [0] 17,dm [] [1] 18,dm [] [10] 19,dm [1,2] [17,18] 20,dm [] [0] 21,dm [] [2] 22,dm [] [10] 23,dm [5,6] [21,22] 24,dm [] [0] 25,dm [] [2] 26,dm [] [10] 27,dm [9,10] [25,26] 28,dm [8,11] [24,27] 29,dm [12] [28] 30,dm [] [0] 31,dm [] [1] 32,dm [] [10] 33,dm [15,16] [31,32] 34,dm [14,17] [30,33] 35,dm [18] [34] 36,dn [0,1,2,3,8,9,10,11,12,13,19] [0,3] [16,19] 37,dn [0,1,2,3,8,9,10,11,12,13,19,20] [13,20] [29,36] 0,dn [0,1,2,3,4,5,6,7,8,9,10,11,12,13,14,15,16,17,18,19,20,21] [4,7] [20,23] 38,dn [0,1,2,3,4,5,6,7,8,9,10,11,12,13,14,15,16,17,18,19,20,21,22] [19,22] [35,37] 0]) (tr 0 21 (.all (.last 21 (.take 22 (.all (.last 23 (.done))))))))) (.reg [0,1,2,3,10] (.nil)))))
theorem H_slices_swapRangeCmpFunc_build_hashed (x0 : SliceV) (x1 : Int) (x2 : Int) (x3 : Int) (x4 : Value) {K : Tup [] → Heap → Prop} {h0 : Heap} (h : F_slices_swapRangeCmpFunc_build_hashed x0 x1 x2 x3 x4 K h0) : HC PG f_slices_swapRangeCmpFunc_build_hashed [.slice x0.a x0.len x0.cap, .int .i64 x1, .int .i64 x2, .int .i64 x3, x4] [] K h0 := HC.intro (an := A_slices_swapRangeCmpFunc_build_hashed) (c := Tryz.f218.body.getD .skip) Tryz.mixed Tryz.func218 rfl Tryz.call218 (Nat.le_of_ble_eq_true rfl) (cst (by kernel_rfl) h)
end Go.Proofs
