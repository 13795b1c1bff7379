/- A part of the proof that the named laws of this program answer true, whatever the input. -/
import Derived.Test.YtcnejdpagpafgaaGraphF
set_option maxRecDepth 100000
set_option linter.unusedVariables false
namespace Go.Proofs
open Go.Lift
/-- (*quickset/graph.Graph).Put$1 -/
def F_graph_Graph_Put_1 (x0 : Int) (y0 : Addr) (K : (Bool) → Heap → Prop) (h0 : Heap) : Prop :=
  ∃ v1 : Int, hcell h0 y0 = some (.int .u32 v1) ∧
  K (decide (x0 ≥ v1)) h0
def A_graph_Graph_Put_1 : Ann := .node (.reg [0, 1] (.nil)) (.node (.reg [3] (.nil)) (.nil))
theorem E_graph_Graph_Put_1 (x0 : Int) (y0 : Addr) (K : Tup [.c .bool] → Heap → Prop) (h0 : Heap) : F_graph_Graph_Put_1 x0 y0 K h0 = sBody PG Try.f46 (Try.f46.body.getD .skip) A_graph_Graph_Put_1 [.int .u32 x0, .pointer (some y0)] [.c .bool] K h0 := by kernel_rfl
theorem H_graph_Graph_Put_1 (x0 : Int) (y0 : Addr) {K : Tup [.c .bool] → Heap → Prop} {h0 : Heap} (h : F_graph_Graph_Put_1 x0 y0 K h0) : HC PG f_graph_Graph_Put_1 [.int .u32 x0, .pointer (some y0)] [.c .bool] K h0 := HC.intro Try.mixed Try.func46 rfl Try.call46 (Nat.le_of_ble_eq_true rfl) ((E_graph_Graph_Put_1 x0 y0 K h0) ▸ h)
/-- maps.Clone[map[uint32][]uint32,uint32,[]uint32] -/
def F_maps_Clone_M_u32_A_u32_u32_A_u32 (x0 : Option Nat) (K : (Option Nat) → Heap → Prop) (h0 : Heap) : Prop :=
  CondP x0.isNone (
   K none h0) (
   HC PG f_maps_clone [.iface t_M_u32_A_u32 (.map x0)] [.c .raw] (fun (e1 : Value) h2 =>
    ∃ y3 : Option Nat, e1 = .iface t_M_u32_A_u32 (.map y3) ∧
    K y3 h2) h0)
def A_maps_Clone_M_u32_A_u32_u32_A_u32 : Ann := .node (.reg [0] (.nil)) (.node (.node (.reg [0, 4] (.nil)) (.node (.node (.reg [2] (.nil)) (.nil)) (.nil))) (.node (.reg [2] (.nil)) (.nil)))
theorem E_maps_Clone_M_u32_A_u32_u32_A_u32 (x0 : Option Nat) (K : Tup [.c .map] → Heap → Prop) (h0 : Heap) : F_maps_Clone_M_u32_A_u32_u32_A_u32 x0 K h0 = sBody PG Try.f47 (Try.f47.body.getD .skip) A_maps_Clone_M_u32_A_u32_u32_A_u32 [.map x0] [.c .map] K h0 := by kernel_rfl
theorem H_maps_Clone_M_u32_A_u32_u32_A_u32 (x0 : Option Nat) {K : Tup [.c .map] → Heap → Prop} {h0 : Heap} (h : F_maps_Clone_M_u32_A_u32_u32_A_u32 x0 K h0) : HC PG f_maps_Clone_M_u32_A_u32_u32_A_u32 [.map x0] [.c .map] K h0 := HC.intro Try.mixed Try.func47 rfl Try.call47 (Nat.le_of_ble_eq_true rfl) ((E_maps_Clone_M_u32_A_u32_u32_A_u32 x0 K h0) ▸ h)
/-- slices.Index[[]uint32,uint32] -/
def F_slices_Index_A_u32_u32 (x0 : SliceV) (x1 : Int) (K : (Int) → Heap → Prop) (h0 : Heap) : Prop :=
  LoopP (fun I1 (t2 : Int) h3 => -- (8)
   CondP (decide (t2 < (x0.len : Int))) (
    (((0 : Int) ≤ t2 ∧ t2 < ((x0.len : Nat) : Int)) ∧ ∃ a4 : Addr, x0.a = some a4 ∧
     ∃ v5 : Int, hcell h3 (adr a4 (t2.toNat * 1)) = some (.int .u32 v5) ∧
     CondP (x1 == v5) (
      K t2 h3) (
      I1 (IntKind.wrap .i64 (t2 + 1)) h3))) (
    K (-1) h3)) 0 h0
def A_slices_Index_A_u32_u32 : Ann := .node (.reg [0, 1] (.nil)) (.node (.node (.reg [0, 1, 7, 8] (.nil)) (.loop [0, 1, 7] [(8, .c (.int .i64))] (.node (.reg [0, 1, 7, 8, 9] (.nil)) (.node (.nil) (.node (.node (.reg [0, 1, 5, 7, 8] (.nil)) (.node (.reg [0, 1, 5, 7, 8, 16] (.nil)) (.node (.node (.reg [4] (.nil)) (.nil)) (.nil)))) (.reg [0, 1, 7, 8] (.nil))))))) (.node (.reg [4] (.nil)) (.nil)))
theorem E_slices_Index_A_u32_u32 (x0 : SliceV) (x1 : Int) (K : Tup [.c (.int .i64)] → Heap → Prop) (h0 : Heap) : F_slices_Index_A_u32_u32 x0 x1 K h0 = sBody PG Try.f48 (Try.f48.body.getD .skip) A_slices_Index_A_u32_u32 [.slice x0.a x0.len x0.cap, .int .u32 x1] [.c (.int .i64)] K h0 := by kernel_rfl
theorem H_slices_Index_A_u32_u32 (x0 : SliceV) (x1 : Int) {K : Tup [.c (.int .i64)] → Heap → Prop} {h0 : Heap} (h : F_slices_Index_A_u32_u32 x0 x1 K h0) : HC PG f_slices_Index_A_u32_u32 [.slice x0.a x0.len x0.cap, .int .u32 x1] [.c (.int .i64)] K h0 := HC.intro Try.mixed Try.func48 rfl Try.call48 (Nat.le_of_ble_eq_true rfl) ((E_slices_Index_A_u32_u32 x0 x1 K h0) ▸ h)
/-- cmp.Less[uint32] -/
def F_cmp_Less_u32 (x0 : Int) (x1 : Int) (K : (Bool) → Heap → Prop) (h0 : Heap) : Prop :=
  HC PG f_cmp_isNaN_u32 [.int .u32 x0] [.c .bool] (fun (e1 : Bool) h2 =>
   CondP e1 (
    HC PG f_cmp_isNaN_u32 [.int .u32 x1] [.c .bool] (fun (e3 : Bool) h4 =>
     CondP (!e3) (
      K true h4) (
      K (decide (x0 < x1)) h4)) h2) (
    K (decide (x0 < x1)) h2)) h0
def A_cmp_Less_u32 : Ann := .node (.reg [0, 1] (.nil)) (.node (.reg [4] (.nil)) (.nil))
theorem E_cmp_Less_u32 (x0 : Int) (x1 : Int) (K : Tup [.c .bool] → Heap → Prop) (h0 : Heap) : F_cmp_Less_u32 x0 x1 K h0 = sBody PG Try.f49 (Try.f49.body.getD .skip) A_cmp_Less_u32 [.int .u32 x0, .int .u32 x1] [.c .bool] K h0 := by kernel_rfl
theorem H_cmp_Less_u32 (x0 : Int) (x1 : Int) {K : Tup [.c .bool] → Heap → Prop} {h0 : Heap} (h : F_cmp_Less_u32 x0 x1 K h0) : HC PG f_cmp_Less_u32 [.int .u32 x0, .int .u32 x1] [.c .bool] K h0 := HC.intro Try.mixed Try.func49 rfl Try.call49 (Nat.le_of_ble_eq_true rfl) ((E_cmp_Less_u32 x0 x1 K h0) ▸ h)
/-- (*quickset/graph.Graph).fits$1 -/
def F_graph_Graph_fits_1 (x0 : Int) (y0 : Addr) (K : (Bool) → Heap → Prop) (h0 : Heap) : Prop :=
  ∃ v1 : Option Addr, hcell h0 y0 = some (.pointer v1) ∧
  HC PG f_graph_Graph_Has [.pointer v1, .int .u32 x0] [.c .bool] (fun (e2 : Bool) h3 =>
   K (!e2) h3) h0
def A_graph_Graph_fits_1 : Ann := .node (.reg [0, 1] (.nil)) (.node (.reg [3] (.nil)) (.nil))
theorem E_graph_Graph_fits_1 (x0 : Int) (y0 : Addr) (K : Tup [.c .bool] → Heap → Prop) (h0 : Heap) : F_graph_Graph_fits_1 x0 y0 K h0 = sBody PG Try.f50 (Try.f50.body.getD .skip) A_graph_Graph_fits_1 [.int .u32 x0, .pointer (some y0)] [.c .bool] K h0 := by kernel_rfl
theorem H_graph_Graph_fits_1 (x0 : Int) (y0 : Addr) {K : Tup [.c .bool] → Heap → Prop} {h0 : Heap} (h : F_graph_Graph_fits_1 x0 y0 K h0) : HC PG f_graph_Graph_fits_1 [.int .u32 x0, .pointer (some y0)] [.c .bool] K h0 := HC.intro Try.mixed Try.func50 rfl Try.call50 (Nat.le_of_ble_eq_true rfl) ((E_graph_Graph_fits_1 x0 y0 K h0) ▸ h)
/-- slices.Collect[uint32] -/
def F_slices_Collect_u32 (x0 : Value) (K : (SliceV) → Heap → Prop) (h0 : Heap) : Prop :=
  HC PG f_slices_AppendSeq_A_u32_u32 [.slice none 0 0, x0] [.c .slice] (fun (e1 : SliceV) h2 =>
   K e1 h2) h0
def A_slices_Collect_u32 : Ann := .node (.reg [0] (.nil)) (.node (.reg [2] (.nil)) (.nil))
theorem E_slices_Collect_u32 (x0 : Value) (K : Tup [.c .slice] → Heap → Prop) (h0 : Heap) : F_slices_Collect_u32 x0 K h0 = sBody PG Try.f51 (Try.f51.body.getD .skip) A_slices_Collect_u32 [x0] [.c .slice] K h0 := by kernel_rfl
theorem H_slices_Collect_u32 (x0 : Value) {K : Tup [.c .slice] → Heap → Prop} {h0 : Heap} (h : F_slices_Collect_u32 x0 K h0) : HC PG f_slices_Collect_u32 [x0] [.c .slice] K h0 := HC.intro Try.mixed Try.func51 rfl Try.call51 (Nat.le_of_ble_eq_true rfl) ((E_slices_Collect_u32 x0 K h0) ▸ h)
/-- slices.Sort[[]uint32,uint32] -/
def F_slices_Sort_A_u32_u32 (x0 : SliceV) (K : (Unit) → Heap → Prop) (h0 : Heap) : Prop :=
  HC PG f_math_bits_Len [.int .u64 (IntKind.wrap .u64 (x0.len : Int))] [.c (.int .i64)] (fun (e1 : Int) h2 =>
   HC PG f_slices_pdqsortOrdered_u32 [.slice x0.a x0.len x0.cap, .int .i64 0, .int .i64 (x0.len : Int), .int .i64 e1] [] (fun (e3 : Unit) h4 =>
    K () h4) h2) h0
def A_slices_Sort_A_u32_u32 : Ann := .node (.reg [0, 2] (.nil)) (.reg [] (.nil))
theorem E_slices_Sort_A_u32_u32 (x0 : SliceV) (K : Tup [] → Heap → Prop) (h0 : Heap) : F_slices_Sort_A_u32_u32 x0 K h0 = sBody PG Try.f52 (Try.f52.body.getD .skip) A_slices_Sort_A_u32_u32 [.slice x0.a x0.len x0.cap] [] K h0 := by kernel_rfl
theorem H_slices_Sort_A_u32_u32 (x0 : SliceV) {K : Tup [] → Heap → Prop} {h0 : Heap} (h : F_slices_Sort_A_u32_u32 x0 K h0) : HC PG f_slices_Sort_A_u32_u32 [.slice x0.a x0.len x0.cap] [] K h0 := HC.intro Try.mixed Try.func52 rfl Try.call52 (Nat.le_of_ble_eq_true rfl) ((E_slices_Sort_A_u32_u32 x0 K h0) ▸ h)
/-- maps.Keys[map[uint32]int,uint32,int]$1 -/
def F_maps_Keys_M_u32_int_u32_int_1 (x0 : Value) (y0 : Addr) (K : (Unit) → Heap → Prop) (h0 : Heap) : Prop :=
  ∃ v1 : Option Nat, hcell h0 y0 = some (.map v1) ∧
  ∃ c2 : Nat, (v1 = none ∧ c2 = 0 ∨ ∃ r es, v1 = some r ∧ h0[r]? = some (.map es c2)) ∧
  At (Array.push h0 (.mapIter v1 c2 #[] c2)) (fun h3 =>
   LoopP (fun I4 (t5 : Unit) h6 => -- 
    NextP (newA h0) h6 (
     K () h6) (fun e7 h8 =>
     (newA h0).off = 0 ∧ ∃ (e14 : MapEntry) (k15 : Int) (y16 : Int), IterAt h8 (newA h0).block e14 ∧ e14.key = .int .u32 k15 ∧ e14.val = .int .i64 y16 ∧
     HV PG x0 [.int .u32 k15] [.c .bool] (fun (e17 : Bool) h18 =>
      CondP (!e17) (
       K () h18) (
       I4 () h18)) h8)) () h3)
def A_maps_Keys_M_u32_int_u32_int_1 : Ann := .node (.reg [0, 5] (.nil)) (.loop [0, 5] [] (.node (.reg [0, 5, 7] (.nil)) (.node (.nil) (.node (.reg [0, 3, 5] (.kinds (.c (.int .u32)) (.c (.int .i64)))) (.node (.reg [0, 5, 13] (.nil)) (.nil))))))
theorem E_maps_Keys_M_u32_int_u32_int_1 (x0 : Value) (y0 : Addr) (K : Tup [] → Heap → Prop) (h0 : Heap) : F_maps_Keys_M_u32_int_u32_int_1 x0 y0 K h0 = sBody PG Try.f53 (Try.f53.body.getD .skip) A_maps_Keys_M_u32_int_u32_int_1 [x0, .pointer (some y0)] [] K h0 := by kernel_rfl
theorem H_maps_Keys_M_u32_int_u32_int_1 (x0 : Value) (y0 : Addr) {K : Tup [] → Heap → Prop} {h0 : Heap} (h : F_maps_Keys_M_u32_int_u32_int_1 x0 y0 K h0) : HC PG f_maps_Keys_M_u32_int_u32_int_1 [x0, .pointer (some y0)] [] K h0 := HC.intro Try.mixed Try.func53 rfl Try.call53 (Nat.le_of_ble_eq_true rfl) ((E_maps_Keys_M_u32_int_u32_int_1 x0 y0 K h0) ▸ h)
theorem HE_maps_Keys_M_u32_int_u32_int_1 (x0 : Value) (y0 : Addr) {K : Tup [] → Heap → Prop} {h0 : Heap} (h : F_maps_Keys_M_u32_int_u32_int_1 x0 y0 K h0) : HE PG f_maps_Keys_M_u32_int_u32_int_1 [x0, .pointer (some y0)] [] K h0 := HE.intro Try.mixed Try.func53 rfl Try.call53 (Nat.le_of_ble_eq_true rfl) ((E_maps_Keys_M_u32_int_u32_int_1 x0 y0 K h0) ▸ h)
/-- quickset/quicksetref20.err -/
def F_r20_err (x0 : SliceV) (K : (Int) → Heap → Prop) (h0 : Heap) : Prop :=
  Join (fun (t6 : Bool) h7 => -- (19)
   CondP t6 (
    K 1 h7) (
    K 0 h7)) (fun J1 =>
   CondP (decide ((x0.len : Int) > (2 : Int))) (
    J1 true h0) (
    CondP ((x0.len : Int) == (2 : Int)) (
     (((0 : Int) ≤ (0 : Int) ∧ (0 : Int) < ((x0.len : Nat) : Int)) ∧ ∃ a2 : Addr, x0.a = some a2 ∧
      ∃ v3 : Int, hcell h0 (adr a2 ((0 : Int).toNat * 1)) = some (.int .u32 v3) ∧
      (((0 : Int) ≤ (1 : Int) ∧ (1 : Int) < ((x0.len : Nat) : Int)) ∧ ∃ a4 : Addr, x0.a = some a4 ∧
       ∃ v5 : Int, hcell h0 (adr a4 ((1 : Int).toNat * 1)) = some (.int .u32 v5) ∧
       J1 (v3 == v5) h0))) (
     J1 false h0)))
def A_r20_err : Ann := .node (.reg [0] (.nil)) (.node (.join [] [(19, .c .bool)] (.reg [19] (.draw [.mk 0 131071 1 8, .mk 1 131070 8 16, .mk 2 131069 16 32, .mk 4 131067 32 64, .mk 8 131063 65 128, .mk 24 131047 192 256, .mk 40 131031 320 512, .mk 72 130999 576 1024, .mk 128 130943 1025 2048, .mk 384 130687 3072 4096, .mk 640 130431 5120 8192, .mk 128 130943 1025 16384, .mk 2176 128895 17408 32768, .mk 4224 126847 33792 65536, .mk 9344 121727 74752 131072, .mk 16520 114551 132160 262144, .mk 32776 98295 262208 524288] (.take 0 (.take 1 (.take 2 (.take 3 (.split 6 (.take 4 (.take 5 (.take 6 (.take 7 (.take 8 (.take 9 (.take 10 (.take 11 (.take 12 (.take 13 (.take 14 (.take 15 (.take 16 (.done)))))))))))))) (.take 4 (.take 5 (.take 6 (.take 7 (.split 10 (.take 8 (.take 9 (.take 10 (.take 11 (.take 12 (.take 13 (.take 14 (.take 15 (.take 16 (.done)))))))))) (.take 8 (.take 9 (.take 10 (.take 11 (.take 12 (.take 13 (.take 14 (.take 15 (.take 16 (.done)))))))))))))))))))))) (.node (.node (.reg [2] (.nil)) (.nil)) (.nil))) (.node (.reg [2] (.nil)) (.nil)))
theorem E_r20_err (x0 : SliceV) (K : Tup [.c (.int .i64)] → Heap → Prop) (h0 : Heap) : F_r20_err x0 K h0 = sBody PG Try.f54 (Try.f54.body.getD .skip) A_r20_err [.slice x0.a x0.len x0.cap] [.c (.int .i64)] K h0 := by kernel_rfl
theorem H_r20_err (x0 : SliceV) {K : Tup [.c (.int .i64)] → Heap → Prop} {h0 : Heap} (h : F_r20_err x0 K h0) : HC PG f_r20_err [.slice x0.a x0.len x0.cap] [.c (.int .i64)] K h0 := HC.intro Try.mixed Try.func54 rfl Try.call54 (Nat.le_of_ble_eq_true rfl) ((E_r20_err x0 K h0) ▸ h)
/-- quickset/quicksetref20.Find -/
def F_r20_Find (x0 : Option Addr) (x1 : Int) (K : (Int) → Heap → Prop) (h0 : Heap) : Prop :=
  ∃ a1 : Addr, x0 = some a1 ∧
  ∃ v2 : SliceV, hcell h0 (adr a1 0) = some (.slice v2.a v2.len v2.cap) ∧
  LoopP (fun I3 (t4 : Int) h5 => -- (12)
   CondP (decide (t4 < (v2.len : Int))) (
    (((0 : Int) ≤ t4 ∧ t4 < ((v2.len : Nat) : Int)) ∧ ∃ a6 : Addr, v2.a = some a6 ∧
     ∃ v7 : Int, hcell h5 (adr (adr a6 (t4.toNat * 2)) 0) = some (.int .u32 v7) ∧
     ∃ v8 : SliceV, hcell h5 (adr (adr a6 (t4.toNat * 2)) 1) = some (.slice v8.a v8.len v8.cap) ∧
     At (hnew h5 [.int .u32 0, .slice none 0 0] t_r20_Version) (fun h9 =>
      (WrS h9 (some (newA h5)) 0 [.int .u32 v7, .slice v8.a v8.len v8.cap] ∧
       At (hsetL h9 (newA h5) 0 [.int .u32 v7, .slice v8.a v8.len v8.cap]) (fun h10 =>
        ∃ v11 : Int, hcell h10 (adr (newA h5) 0) = some (.int .u32 v11) ∧
        CondP (v11 == x1) (
         K t4 h10) (
         I3 (IntKind.wrap .i64 (t4 + 1)) h10)))))) (
    K (-1) h5)) 0 h0
def A_r20_Find : Ann := .node (.reg [0, 1] (.nil)) (.node (.node (.reg [1, 10, 11, 12] (.nil)) (.loop [1, 10, 11] [(12, .c (.int .i64))] (.node (.reg [1, 10, 11, 12, 13] (.nil)) (.node (.nil) (.node (.node (.reg [1, 5, 6, 10, 11, 12] (.nil)) (.node (.reg [1, 5, 10, 11, 12, 20] (.nil)) (.node (.node (.reg [4] (.nil)) (.nil)) (.nil)))) (.reg [1, 10, 11, 12] (.nil))))))) (.node (.reg [4] (.nil)) (.nil)))
theorem E_r20_Find (x0 : Option Addr) (x1 : Int) (K : Tup [.c (.int .i64)] → Heap → Prop) (h0 : Heap) : F_r20_Find x0 x1 K h0 = sBody PG Try.f55 (Try.f55.body.getD .skip) A_r20_Find [.pointer x0, .int .u32 x1] [.c (.int .i64)] K h0 := by kernel_rfl
theorem H_r20_Find (x0 : Option Addr) (x1 : Int) {K : Tup [.c (.int .i64)] → Heap → Prop} {h0 : Heap} (h : F_r20_Find x0 x1 K h0) : HC PG f_r20_Find [.pointer x0, .int .u32 x1] [.c (.int .i64)] K h0 := HC.intro Try.mixed Try.func55 rfl Try.call55 (Nat.le_of_ble_eq_true rfl) ((E_r20_Find x0 x1 K h0) ▸ h)
/-- quickset/quicksetref20.there -/
def F_r20_there (x0 : Option Addr) (x1 : SliceV) (K : (Int) → Heap → Prop) (h0 : Heap) : Prop :=
  LoopP (fun I1 (t2 : Int) h3 => -- (9)
   CondP (decide (t2 < (x1.len : Int))) (
    (((0 : Int) ≤ t2 ∧ t2 < ((x1.len : Nat) : Int)) ∧ ∃ a4 : Addr, x1.a = some a4 ∧
     ∃ v5 : Int, hcell h3 (adr a4 (t2.toNat * 1)) = some (.int .u32 v5) ∧
     HC PG f_r20_Find [.pointer x0, .int .u32 v5] [.c (.int .i64)] (fun (e6 : Int) h7 =>
      CondP (decide (e6 < (0 : Int))) (
       K 4 h7) (
       I1 (IntKind.wrap .i64 (t2 + 1)) h7)) h3)) (
    ∃ a8 : Addr, x0 = some a8 ∧
    ∃ v9 : SliceV, hcell h3 (adr a8 0) = some (.slice v9.a v9.len v9.cap) ∧
    CondP (decide ((v9.len : Int) ≥ (1024 : Int))) (
     K 6 h3) (
     K 0 h3))) 0 h0
def A_r20_there : Ann := .node (.reg [0, 1] (.nil)) (.node (.node (.reg [0, 7, 8, 9] (.nil)) (.loop [0, 7, 8] [(9, .c (.int .i64))] (.node (.reg [0, 7, 8, 9, 10] (.nil)) (.node (.nil) (.node (.node (.reg [0, 6, 7, 8, 9] (.nil)) (.node (.reg [0, 7, 8, 9, 16] (.nil)) (.node (.node (.reg [4] (.nil)) (.nil)) (.nil)))) (.reg [0, 7, 8, 9] (.nil))))))) (.node (.node (.reg [23] (.nil)) (.node (.node (.reg [4] (.nil)) (.nil)) (.nil))) (.node (.reg [4] (.nil)) (.nil))))
theorem E_r20_there (x0 : Option Addr) (x1 : SliceV) (K : Tup [.c (.int .i64)] → Heap → Prop) (h0 : Heap) : F_r20_there x0 x1 K h0 = sBody PG Try.f56 (Try.f56.body.getD .skip) A_r20_there [.pointer x0, .slice x1.a x1.len x1.cap] [.c (.int .i64)] K h0 := by kernel_rfl
theorem H_r20_there (x0 : Option Addr) (x1 : SliceV) {K : Tup [.c (.int .i64)] → Heap → Prop} {h0 : Heap} (h : F_r20_there x0 x1 K h0) : HC PG f_r20_there [.pointer x0, .slice x1.a x1.len x1.cap] [.c (.int .i64)] K h0 := HC.intro Try.mixed Try.func56 rfl Try.call56 (Nat.le_of_ble_eq_true rfl) ((E_r20_there x0 x1 K h0) ▸ h)
/-- quickset/quicksetref20.insert -/
def F_r20_insert (x0 : Option Addr) (x1 : Int) (x2 : SliceV) (K : (Unit) → Heap → Prop) (h0 : Heap) : Prop :=
  LoopP (fun I1 (t2 : Int) h3 => -- i(6)
   Join (fun (t11 : Bool) h12 => -- (26)
    CondP t11 (
     I1 (IntKind.wrap .i64 (t2 + 1)) h12) (
     Join (fun (t24 : SliceV) h25 => -- rest(7)
      Join (fun (t38 : Unit) h39 => -- 
       ∃ a40 : Addr, x0 = some a40 ∧
       ∃ v41 : Int, hcell h39 (adr a40 1) = some (.int .u32 v41) ∧
       CondP (decide (v41 ≤ x1)) (
        ∃ a42 : Addr, x0 = some a42 ∧
        (Wr h39 (adr a42 1) ∧
         At (hset h39 (adr a42 1) (.int .u32 (IntKind.wrap .u32 (x1 + 1)))) (fun h43 =>
          K () h43))) (
        K () h39)) (fun J26 =>
       At (hnew h25 [] t_r20_Version) (fun h27 =>
        ∃ a28 : Addr, x0 = some a28 ∧
        ∃ v29 : SliceV, hcell h27 (adr a28 0) = some (.slice v29.a v29.len v29.cap) ∧
        (((0 : Int) ≤ t2 ∧ t2 ≤ ((v29.cap : Nat) : Int)) ∧
         ∃ xs30, SRow h27 (subAddr v29.a 0 v29.cap 2) ((t2.toNat - 0) * 2) xs30 ∧
         AppP (some [.int .u32 0, .slice none 0 0]) 2 32 t_r20_Version (some (newA h25)) 0 0 (t2.toNat - 0) xs30 h27 (fun s31 h32 =>
          ∃ xs33, SRow h32 t24.a (t24.len * 2) xs33 ∧
          AppP (some [.int .u32 0, .slice none 0 0]) 2 32 t_r20_Version s31.a s31.len s31.cap t24.len xs33 h32 (fun s34 h35 =>
           ∃ a36 : Addr, x0 = some a36 ∧
           (Wr h35 (adr a36 0) ∧
            At (hset h35 (adr a36 0) (.slice s34.a s34.len s34.cap)) (fun h37 =>
             J26 () h37)))))))) (fun J13 =>
      ∃ a14 : Addr, x0 = some a14 ∧
      ∃ v15 : SliceV, hcell h12 (adr a14 0) = some (.slice v15.a v15.len v15.cap) ∧
      (((0 : Int) ≤ t2 ∧ t2 ≤ ((v15.len : Nat) : Int)) ∧
       At (hnew h12 [] t_u32) (fun h16 =>
        (hcell h16 (adr a14 0) = some (.slice v15.a v15.len v15.cap) ∧
         ∃ xs17, SRow h16 x2.a (x2.len * 1) xs17 ∧
         AppP (some [.int .u32 0]) 1 4 t_u32 (some (newA h12)) 0 0 x2.len xs17 h16 (fun s18 h19 =>
          (hcell h19 (adr a14 0) = some (.slice v15.a v15.len v15.cap) ∧
           (hcell h19 (adr a14 0) = some (.slice v15.a v15.len v15.cap) ∧
            At (hnew h19 [.int .u32 x1, .slice s18.a s18.len s18.cap] t_r20_Version) (fun h20 =>
             (hcell h20 (adr a14 0) = some (.slice v15.a v15.len v15.cap) ∧
              ∃ xs21, SRow h20 (subAddr v15.a t2.toNat v15.cap 2) ((v15.len - t2.toNat) * 2) xs21 ∧
              AppP (some [.int .u32 0, .slice none 0 0]) 2 32 t_r20_Version (some (newA h19)) 1 1 (v15.len - t2.toNat) xs21 h20 (fun s22 h23 =>
               (hcell h23 (adr a14 0) = some (.slice v15.a v15.len v15.cap) ∧
                J13 s22 h23))))))))))))) (fun J4 =>
    ∃ a5 : Addr, x0 = some a5 ∧
    ∃ v6 : SliceV, hcell h3 (adr a5 0) = some (.slice v6.a v6.len v6.cap) ∧
    CondP (decide (t2 < (v6.len : Int))) (
     ∃ a7 : Addr, x0 = some a7 ∧
     ∃ v8 : SliceV, hcell h3 (adr a7 0) = some (.slice v8.a v8.len v8.cap) ∧
     (((0 : Int) ≤ t2 ∧ t2 < ((v8.len : Nat) : Int)) ∧ ∃ a9 : Addr, v8.a = some a9 ∧
      ∃ v10 : Int, hcell h3 (adr (adr a9 (t2.toNat * 2)) 0) = some (.int .u32 v10) ∧
      J4 (decide (v10 < x1)) h3)) (
     J4 false h3))) 0 h0
def A_r20_insert : Ann := .node (.reg [0, 1, 2, 6] (.nil)) (.node (.loop [0, 1, 2] [(6, .c (.int .i64))] (.node (.join [0, 1, 2, 6] [(26, .c .bool)] (.reg [0, 1, 2, 6, 26] (.nil)) (.nil)) (.reg [0, 1, 2, 6] (.nil)))) (.join [0, 1, 6] [(7, .c .slice)] (.reg [0, 1, 6, 7] (.draw [.mk 0 16383 2 536870912, .mk 0 16383 0 1073741824, .mk 0 16383 4 2147483648, .mk 6 16377 3221225472 4294967296, .mk 9 16374 4831838208 8589934592, .mk 16 16367 8589934592 17179869184, .mk 0 16383 1 34359738368, .mk 64 16319 34359738368 68719476736, .mk 128 16255 68719476736 137438953472, .mk 256 16127 137438953472 274877906944, .mk 0 16383 64 549755813888, .mk 1536 14847 824633720832 1099511627776, .mk 2088 14303 1116691496960 2199023255552, .mk 8191 12287 2199023255552 128] (.take 0 (.take 2 (.take 6 (.take 7 (.take 8 (.take 9 (.take 10 (.take 11 (.all (.last 1 (.all (.last 3 (.all (.last 4 (.all (.last 5 (.all (.last 12 (.take 13 (.done)))))))))))))))))))))) (.join [0, 1] [] (.reg [0, 1] (.nil)) (.node (.reg [0, 1, 60] (.nil)) (.node (.reg [] (.nil)) (.nil))))))
theorem E_r20_insert (x0 : Option Addr) (x1 : Int) (x2 : SliceV) (K : Tup [] → Heap → Prop) (h0 : Heap) : F_r20_insert x0 x1 x2 K h0 = sBody PG Try.f57 (Try.f57.body.getD .skip) A_r20_insert [.pointer x0, .int .u32 x1, .slice x2.a x2.len x2.cap] [] K h0 := by kernel_rfl
theorem H_r20_insert (x0 : Option Addr) (x1 : Int) (x2 : SliceV) {K : Tup [] → Heap → Prop} {h0 : Heap} (h : F_r20_insert x0 x1 x2 K h0) : HC PG f_r20_insert [.pointer x0, .int .u32 x1, .slice x2.a x2.len x2.cap] [] K h0 := HC.intro Try.mixed Try.func57 rfl Try.call57 (Nat.le_of_ble_eq_true rfl) ((E_r20_insert x0 x1 x2 K h0) ▸ h)
/-- maps.Keys[map[uint32][]uint32,uint32,[]uint32]$1 -/
def F_maps_Keys_M_u32_A_u32_u32_A_u32_1 (x0 : Value) (y0 : Addr) (K : (Unit) → Heap → Prop) (h0 : Heap) : Prop :=
  ∃ v1 : Option Nat, hcell h0 y0 = some (.map v1) ∧
  ∃ c2 : Nat, (v1 = none ∧ c2 = 0 ∨ ∃ r es, v1 = some r ∧ h0[r]? = some (.map es c2)) ∧
  At (Array.push h0 (.mapIter v1 c2 #[] c2)) (fun h3 =>
   LoopP (fun I4 (t5 : Unit) h6 => -- 
    NextP (newA h0) h6 (
     K () h6) (fun e7 h8 =>
     (newA h0).off = 0 ∧ ∃ (e14 : MapEntry) (k15 : Int) (y16 : SliceV), IterAt h8 (newA h0).block e14 ∧ e14.key = .int .u32 k15 ∧ e14.val = .slice y16.a y16.len y16.cap ∧
     HV PG x0 [.int .u32 k15] [.c .bool] (fun (e17 : Bool) h18 =>
      CondP (!e17) (
       K () h18) (
       I4 () h18)) h8)) () h3)
def A_maps_Keys_M_u32_A_u32_u32_A_u32_1 : Ann := .node (.reg [0, 5] (.nil)) (.loop [0, 5] [] (.node (.reg [0, 5, 7] (.nil)) (.node (.nil) (.node (.reg [0, 3, 5] (.kinds (.c (.int .u32)) (.c .slice))) (.node (.reg [0, 5, 13] (.nil)) (.nil))))))
theorem E_maps_Keys_M_u32_A_u32_u32_A_u32_1 (x0 : Value) (y0 : Addr) (K : Tup [] → Heap → Prop) (h0 : Heap) : F_maps_Keys_M_u32_A_u32_u32_A_u32_1 x0 y0 K h0 = sBody PG Try.f58 (Try.f58.body.getD .skip) A_maps_Keys_M_u32_A_u32_u32_A_u32_1 [x0, .pointer (some y0)] [] K h0 := by kernel_rfl
theorem H_maps_Keys_M_u32_A_u32_u32_A_u32_1 (x0 : Value) (y0 : Addr) {K : Tup [] → Heap → Prop} {h0 : Heap} (h : F_maps_Keys_M_u32_A_u32_u32_A_u32_1 x0 y0 K h0) : HC PG f_maps_Keys_M_u32_A_u32_u32_A_u32_1 [x0, .pointer (some y0)] [] K h0 := HC.intro Try.mixed Try.func58 rfl Try.call58 (Nat.le_of_ble_eq_true rfl) ((E_maps_Keys_M_u32_A_u32_u32_A_u32_1 x0 y0 K h0) ▸ h)
theorem HE_maps_Keys_M_u32_A_u32_u32_A_u32_1 (x0 : Value) (y0 : Addr) {K : Tup [] → Heap → Prop} {h0 : Heap} (h : F_maps_Keys_M_u32_A_u32_u32_A_u32_1 x0 y0 K h0) : HE PG f_maps_Keys_M_u32_A_u32_u32_A_u32_1 [x0, .pointer (some y0)] [] K h0 := HE.intro Try.mixed Try.func58 rfl Try.call58 (Nat.le_of_ble_eq_true rfl) ((E_maps_Keys_M_u32_A_u32_u32_A_u32_1 x0 y0 K h0) ▸ h)
/-- slices.IndexFunc[[]uint32,uint32] -/
def F_slices_IndexFunc_A_u32_u32 (x0 : SliceV) (x1 : Value) (K : (Int) → Heap → Prop) (h0 : Heap) : Prop :=
  LoopP (fun I1 (t2 : Int) h3 => -- (8)
   CondP (decide (t2 < (x0.len : Int))) (
    (((0 : Int) ≤ t2 ∧ t2 < ((x0.len : Nat) : Int)) ∧ ∃ a4 : Addr, x0.a = some a4 ∧
     ∃ v5 : Int, hcell h3 (adr a4 (t2.toNat * 1)) = some (.int .u32 v5) ∧
     HV PG x1 [.int .u32 v5] [.c .bool] (fun (e6 : Bool) h7 =>
      CondP e6 (
       K t2 h7) (
       I1 (IntKind.wrap .i64 (t2 + 1)) h7)) h3)) (
    K (-1) h3)) 0 h0
def A_slices_IndexFunc_A_u32_u32 : Ann := .node (.reg [0, 1] (.nil)) (.node (.node (.reg [0, 1, 7, 8] (.nil)) (.loop [0, 1, 7] [(8, .c (.int .i64))] (.node (.reg [0, 1, 7, 8, 9] (.nil)) (.node (.nil) (.node (.node (.reg [0, 1, 5, 7, 8] (.nil)) (.node (.reg [0, 1, 5, 7, 8, 16] (.nil)) (.node (.node (.reg [4] (.nil)) (.nil)) (.nil)))) (.reg [0, 1, 7, 8] (.nil))))))) (.node (.reg [4] (.nil)) (.nil)))
theorem E_slices_IndexFunc_A_u32_u32 (x0 : SliceV) (x1 : Value) (K : Tup [.c (.int .i64)] → Heap → Prop) (h0 : Heap) : F_slices_IndexFunc_A_u32_u32 x0 x1 K h0 = sBody PG Try.f59 (Try.f59.body.getD .skip) A_slices_IndexFunc_A_u32_u32 [.slice x0.a x0.len x0.cap, x1] [.c (.int .i64)] K h0 := by kernel_rfl
theorem H_slices_IndexFunc_A_u32_u32 (x0 : SliceV) (x1 : Value) {K : Tup [.c (.int .i64)] → Heap → Prop} {h0 : Heap} (h : F_slices_IndexFunc_A_u32_u32 x0 x1 K h0) : HC PG f_slices_IndexFunc_A_u32_u32 [.slice x0.a x0.len x0.cap, x1] [.c (.int .i64)] K h0 := HC.intro Try.mixed Try.func59 rfl Try.call59 (Nat.le_of_ble_eq_true rfl) ((E_slices_IndexFunc_A_u32_u32 x0 x1 K h0) ▸ h)
/-- cmp.isNaN[uint32] -/
def F_cmp_isNaN_u32 (x0 : Int) (K : (Bool) → Heap → Prop) (h0 : Heap) : Prop :=
  K (x0 != x0) h0
def A_cmp_isNaN_u32 : Ann := .node (.reg [0] (.nil)) (.node (.reg [2] (.nil)) (.nil))
theorem E_cmp_isNaN_u32 (x0 : Int) (K : Tup [.c .bool] → Heap → Prop) (h0 : Heap) : F_cmp_isNaN_u32 x0 K h0 = sBody PG Try.f61 (Try.f61.body.getD .skip) A_cmp_isNaN_u32 [.int .u32 x0] [.c .bool] K h0 := by kernel_rfl
theorem H_cmp_isNaN_u32 (x0 : Int) {K : Tup [.c .bool] → Heap → Prop} {h0 : Heap} (h : F_cmp_isNaN_u32 x0 K h0) : HC PG f_cmp_isNaN_u32 [.int .u32 x0] [.c .bool] K h0 := HC.intro Try.mixed Try.func61 rfl Try.call61 (Nat.le_of_ble_eq_true rfl) ((E_cmp_isNaN_u32 x0 K h0) ▸ h)
/-- slices.AppendSeq[[]uint32,uint32] -/
def F_slices_AppendSeq_A_u32_u32 (x0 : SliceV) (x1 : Value) (K : (SliceV) → Heap → Prop) (h0 : Heap) : Prop :=
  At (hnew h0 [.slice x0.a x0.len x0.cap] t_A_u32) (fun h1 =>
   RangeP PG x1 [.c (.int .u32)] h1 (fun rdy2 bz3 (x4 : Int) k5 h6 =>
    (h6[(Array.size h1 + 1)]? = some rdy2 ∧ At (Array.setIfInBounds h6 (Array.size h1 + 1) bz3) (fun h8 =>
      ∃ v10 : SliceV, hcell h8 (newA h0) = some (.slice v10.a v10.len v10.cap) ∧
      At (hnew h8 [.int .u32 x4] t_u32) (fun h11 =>
       ∃ xs12, SRow h11 (some (newA h8)) (1 * 1) xs12 ∧
       AppP (some [.int .u32 0]) 1 4 t_u32 v10.a v10.len v10.cap 1 xs12 h11 (fun s13 h14 =>
        (Wr h14 (newA h0) ∧
         At (hset h14 (newA h0) (.slice s13.a s13.len s13.cap)) (fun h15 =>
          k5 none h15))))))) (fun h16 =>
    ∃ v19 : SliceV, hcell h16 (newA h0) = some (.slice v19.a v19.len v19.cap) ∧
    (h16[(Array.size h1)]? = some (.deferred (some [])) ∧ At (Array.setIfInBounds h16 (Array.size h1) (.deferred none)) (fun h20 =>
      K v19 h20))) (fun i9 h17 =>
    bif Nat.beq i9 0 then (
     ∃ v21 : SliceV, hcell h17 (newA h0) = some (.slice v21.a v21.len v21.cap) ∧
     (h17[(Array.size h1)]? = some (.deferred (some [])) ∧ At (Array.setIfInBounds h17 (Array.size h1) (.deferred none)) (fun h22 =>
       K v21 h22))) else (
     False)) (fun h18 =>
    (h18[(Array.size h1)]? = some (.deferred (some [])) ∧ At (Array.setIfInBounds h18 (Array.size h1) (.deferred none)) (fun h23 =>
      K ⟨none, 0, 0⟩ h23))))
def A_slices_AppendSeq_A_u32_u32 : Ann := .node (.reg [1, 2, 4] (.nil)) (.node (.node (.reg [2, 4, 6] (.nil)) (.rf [.c (.int .u32)] (.reg [2, 5] (.nil)) (.reg [] (.nil)))) (.node (.reg [4] (.nil)) (.nil)))
theorem E_slices_AppendSeq_A_u32_u32 (x0 : SliceV) (x1 : Value) (K : Tup [.c .slice] → Heap → Prop) (h0 : Heap) : F_slices_AppendSeq_A_u32_u32 x0 x1 K h0 = sBodyM PG Try.f62 (Try.f62.body.getD .skip) A_slices_AppendSeq_A_u32_u32 [.slice x0.a x0.len x0.cap, x1] [.c .slice] K h0 := by kernel_rfl
theorem H_slices_AppendSeq_A_u32_u32 (x0 : SliceV) (x1 : Value) {K : Tup [.c .slice] → Heap → Prop} {h0 : Heap} (h : F_slices_AppendSeq_A_u32_u32 x0 x1 K h0) : HC PG f_slices_AppendSeq_A_u32_u32 [.slice x0.a x0.len x0.cap, x1] [.c .slice] K h0 := HC.introM Try.mixed Try.func62 rfl Try.call62 (Nat.le_of_ble_eq_true rfl) ((E_slices_AppendSeq_A_u32_u32 x0 x1 K h0) ▸ h)
/-- slices.pdqsortOrdered[uint32] -/
def F_slices_pdqsortOrdered_u32 (x0 : SliceV) (x1 : Int) (x2 : Int) (x3 : Int) (K : (Unit) → Heap → Prop) (h0 : Heap) : Prop :=
  LoopP (fun I1 (t2 : Int × Int × Int × Bool × Bool) h3 => -- a(1), b(2), limit(3), wasBalanced(8), wasPartitioned(9)
   CondP (decide ((IntKind.wrap .i64 (t2.2.1 - t2.1)) ≤ (12 : Int))) (
    HC PG f_slices_insertionSortOrdered_u32 [.slice x0.a x0.len x0.cap, .int .i64 t2.1, .int .i64 t2.2.1] [] (fun (e4 : Unit) h5 =>
     K () h5) h3) (
    CondP (t2.2.2.1 == (0 : Int)) (
     HC PG f_slices_heapSortOrdered_u32 [.slice x0.a x0.len x0.cap, .int .i64 t2.1, .int .i64 t2.2.1] [] (fun (e6 : Unit) h7 =>
      K () h7) h3) (
     Join (fun (t11 : Int) h12 => -- limit(3)
      HC PG f_slices_choosePivotOrdered_u32 [.slice x0.a x0.len x0.cap, .int .i64 t2.1, .int .i64 t2.2.1] [.c (.int .i64), .c (.int .i64)] (fun (e13 : Int × Int) h14 =>
       Join (fun (t19 : Int × Int) h20 => -- pivot(11), hint(12)
        Join (fun (t27 : Unit) h28 => -- 
         Join (fun (t36 : Bool) h37 => -- (87)
          CondP t36 (
           HC PG f_slices_partitionEqualOrdered_u32 [.slice x0.a x0.len x0.cap, .int .i64 t2.1, .int .i64 t2.2.1, .int .i64 t19.1] [.c (.int .i64)] (fun (e38 : Int) h39 =>
            I1 (e38, t2.2.1, t11, t2.2.2.2.1, t2.2.2.2.2) h39) h37) (
           HC PG f_slices_partitionOrdered_u32 [.slice x0.a x0.len x0.cap, .int .i64 t2.1, .int .i64 t2.2.1, .int .i64 t19.1] [.c (.int .i64), .c .bool] (fun (e40 : Int × Bool) h41 =>
            ((8 : Int) ≠ 0 ∧
             CondP (decide ((IntKind.wrap .i64 (e40.1 - t2.1)) < (IntKind.wrap .i64 (t2.2.1 - e40.1)))) (
              HC PG f_slices_pdqsortOrdered_u32 [.slice x0.a x0.len x0.cap, .int .i64 t2.1, .int .i64 e40.1, .int .i64 t11] [] (fun (e42 : Unit) h43 =>
               I1 (IntKind.wrap .i64 (e40.1 + 1), t2.2.1, t11, decide ((IntKind.wrap .i64 (e40.1 - t2.1)) ≥ (IntKind.wrap .i64 (Int.tdiv (IntKind.wrap .i64 (t2.2.1 - t2.1)) 8))), e40.2) h43) h41) (
              HC PG f_slices_pdqsortOrdered_u32 [.slice x0.a x0.len x0.cap, .int .i64 (IntKind.wrap .i64 (e40.1 + 1)), .int .i64 t2.2.1, .int .i64 t11] [] (fun (e44 : Unit) h45 =>
               I1 (t2.1, e40.1, t11, decide ((IntKind.wrap .i64 (t2.2.1 - e40.1)) ≥ (IntKind.wrap .i64 (Int.tdiv (IntKind.wrap .i64 (t2.2.1 - t2.1)) 8))), e40.2) h45) h41))) h37)) (fun J29 =>
          CondP (decide (t2.1 > (0 : Int))) (
           (((0 : Int) ≤ (IntKind.wrap .i64 (t2.1 - 1)) ∧ (IntKind.wrap .i64 (t2.1 - 1)) < ((x0.len : Nat) : Int)) ∧ ∃ a30 : Addr, x0.a = some a30 ∧
            ∃ v31 : Int, hcell h28 (adr a30 ((IntKind.wrap .i64 (t2.1 - 1)).toNat * 1)) = some (.int .u32 v31) ∧
            (((0 : Int) ≤ t19.1 ∧ t19.1 < ((x0.len : Nat) : Int)) ∧ ∃ a32 : Addr, x0.a = some a32 ∧
             ∃ v33 : Int, hcell h28 (adr a32 (t19.1.toNat * 1)) = some (.int .u32 v33) ∧
             HC PG f_cmp_Less_u32 [.int .u32 v31, .int .u32 v33] [.c .bool] (fun (e34 : Bool) h35 =>
              J29 (!e34) h35) h28))) (
           J29 false h28))) (fun J21 =>
         Join (fun (t23 : Bool) h24 => -- (68)
          CondP t23 (
           HC PG f_slices_partialInsertionSortOrdered_u32 [.slice x0.a x0.len x0.cap, .int .i64 t2.1, .int .i64 t2.2.1] [.c .bool] (fun (e25 : Bool) h26 =>
            CondP e25 (
             K () h26) (
             J21 () h26)) h24) (
           J21 () h24)) (fun J22 =>
          CondP t2.2.2.2.1 (
           CondP t2.2.2.2.2 (
            J22 (t19.2 == (1 : Int)) h20) (
            J22 false h20)) (
           J22 false h20)))) (fun J15 =>
        CondP (e13.2 == (2 : Int)) (
         HC PG f_slices_reverseRangeOrdered_u32 [.slice x0.a x0.len x0.cap, .int .i64 t2.1, .int .i64 t2.2.1] [] (fun (e16 : Unit) h17 =>
          Bd (IntKind.wrap .i64 ((IntKind.wrap .i64 (t2.2.1 - 1)) - (IntKind.wrap .i64 (e13.1 - t2.1))) : Int) (fun n18 =>
           J15 (n18, 1) h17)) h14) (
         J15 (e13.1, e13.2) h14))) h12) (fun J8 =>
      CondP (!t2.2.2.2.1) (
       HC PG f_slices_breakPatternsOrdered_u32 [.slice x0.a x0.len x0.cap, .int .i64 t2.1, .int .i64 t2.2.1] [] (fun (e9 : Unit) h10 =>
        J8 (IntKind.wrap .i64 (t2.2.2.1 - 1)) h10) h3) (
       J8 t2.2.2.1 h3))))) (x1, x2, x3, true, true) h0
def A_slices_pdqsortOrdered_u32 : Ann := .node (.reg [0, 1, 2, 3, 8] (.nil)) (.node (.reg [0, 1, 2, 3, 8, 9] (.nil)) (.loop [0] [(1, .c (.int .i64)), (2, .c (.int .i64)), (3, .c (.int .i64)), (8, .c .bool), (9, .c .bool)] (.node (.reg [0, 1, 2, 3, 8, 9, 10] (.nil)) (.node (.node (.reg [0, 1, 2, 3, 8, 9, 10, 23] (.nil)) (.node (.node (.reg [] (.nil)) (.nil)) (.nil))) (.node (.node (.reg [0, 1, 2, 3, 8, 9, 10, 29] (.nil)) (.node (.node (.reg [] (.nil)) (.nil)) (.nil))) (.join [0, 1, 2, 8, 9, 10] [(3, .c (.int .i64))] (.node (.reg [0, 1, 2, 3, 8, 9, 10, 35] (.nil)) (.node (.node (.reg [0, 1, 2, 3, 8, 9, 10] (.nil)) (.reg [0, 1, 2, 3, 8, 9, 10] (.nil))) (.nil))) (.node (.reg [0, 1, 2, 3, 8, 9, 10, 11, 12] (.nil)) (.join [0, 1, 2, 3, 8, 9, 10] [(11, .c (.int .i64)), (12, .c (.int .i64))] (.node (.reg [0, 1, 2, 3, 8, 9, 10, 11, 12, 50] (.nil)) (.node (.node (.reg [0, 1, 2, 3, 8, 9, 10, 11] (.nil)) (.node (.reg [0, 1, 2, 3, 8, 9, 10, 11] (.nil)) (.reg [0, 1, 2, 3, 8, 9, 10, 11, 12] (.nil)))) (.nil))) (.join [0, 1, 2, 3, 8, 9, 10, 11] [] (.join [0, 1, 2, 3, 8, 9, 10, 11] [(68, .c .bool)] (.reg [0, 1, 2, 3, 8, 9, 10, 11, 68] (.nil)) (.node (.node (.reg [0, 1, 2, 3, 8, 9, 10, 11, 72] (.nil)) (.nil)) (.nil))) (.node (.join [0, 1, 2, 3, 8, 9, 10, 11] [(87, .c .bool)] (.reg [0, 1, 2, 3, 8, 9, 10, 11, 87] (.draw [.mk 0 32767 2 9444732965739290427392, .mk 1 32766 9444732965739290427392 18889465931478580854784, .mk 2 32765 18889465931478580854784 37778931862957161709568, .mk 4 32763 37778931862957161709569 75557863725914323419136, .mk 4 32763 37778931862957161709570 151115727451828646838272, .mk 20 32747 188894659314785808547840 302231454903657293676544, .mk 44 32723 415568250492528778805248 604462909807314587353088, .mk 68 32699 642241841670271749062656 1208925819614629174706176, .mk 4 32763 37778931862957161709569 2417851639229258349412352, .mk 4 32763 37778931862957161711616 4835703278458516698824704, .mk 772 31995 7291333849550732209946624 9671406556917033397649408, .mk 1028 31739 9709185488779990559358976 19342813113834066795298816, .mk 2180 30587 20589517865311653131714560 38685626227668133590597632, .mk 4100 28667 38723405159531090752307200 77371252455336267181195264, .mk 8196 24571 77409031387199224342904832 154742504910672534362390528] (.take 0 (.take 1 (.take 2 (.split 75 (.take 3 (.take 4 (.take 5 (.take 6 (.take 7 (.take 8 (.take 9 (.take 10 (.take 11 (.all (.last 12 (.take 13 (.take 14 (.done)))))))))))))) (.take 3 (.take 4 (.take 5 (.take 6 (.take 7 (.take 8 (.take 9 (.take 10 (.take 11 (.take 12 (.take 13 (.take 14 (.done))))))))))))))))))) (.node (.node (.reg [0, 2, 3, 8, 9, 13] (.nil)) (.node (.reg [0, 1, 2, 3, 8, 9] (.nil)) (.nil))) (.nil))) (.node (.reg [0, 1, 2, 3, 10, 14, 15] (.nil)) (.node (.reg [0, 1, 2, 3, 9, 10, 14] (.nil)) (.node (.reg [0, 1, 2, 3, 9, 10, 14, 16, 17] (.nil)) (.node (.reg [0, 1, 2, 3, 9, 14, 16, 17, 18] (.nil)) (.node (.reg [0, 1, 2, 3, 9, 14, 16, 17, 18, 113] (.nil)) (.node (.node (.reg [0, 1, 2, 3, 8, 9, 14] (.nil)) (.node (.reg [0, 2, 3, 8, 9, 14] (.nil)) (.reg [0, 1, 2, 3, 8, 9] (.nil)))) (.node (.reg [0, 1, 2, 3, 8, 9, 14] (.nil)) (.node (.reg [0, 1, 3, 8, 9, 14] (.nil)) (.reg [0, 1, 2, 3, 8, 9] (.nil))))))))))))))))))))
theorem E_slices_pdqsortOrdered_u32 (x0 : SliceV) (x1 : Int) (x2 : Int) (x3 : Int) (K : Tup [] → Heap → Prop) (h0 : Heap) : F_slices_pdqsortOrdered_u32 x0 x1 x2 x3 K h0 = sBody PG Try.f63 (Try.f63.body.getD .skip) A_slices_pdqsortOrdered_u32 [.slice x0.a x0.len x0.cap, .int .i64 x1, .int .i64 x2, .int .i64 x3] [] K h0 := by kernel_rfl
theorem H_slices_pdqsortOrdered_u32 (x0 : SliceV) (x1 : Int) (x2 : Int) (x3 : Int) {K : Tup [] → Heap → Prop} {h0 : Heap} (h : F_slices_pdqsortOrdered_u32 x0 x1 x2 x3 K h0) : HC PG f_slices_pdqsortOrdered_u32 [.slice x0.a x0.len x0.cap, .int .i64 x1, .int .i64 x2, .int .i64 x3] [] K h0 := HC.intro Try.mixed Try.func63 rfl Try.call63 (Nat.le_of_ble_eq_true rfl) ((E_slices_pdqsortOrdered_u32 x0 x1 x2 x3 K h0) ▸ h)
/-- math/bits.Len -/
def F_math_bits_Len (x0 : Int) (K : (Int) → Heap → Prop) (h0 : Heap) : Prop :=
  HC PG f_math_bits_Len64 [.int .u64 x0] [.c (.int .i64)] (fun (e3 : Int) h4 =>
   K e3 h4) h0
def A_math_bits_Len : Ann := .node (.reg [0] (.nil)) (.node (.node (.node (.reg [2] (.nil)) (.nil)) (.nil)) (.node (.reg [2] (.nil)) (.nil)))
theorem E_math_bits_Len (x0 : Int) (K : Tup [.c (.int .i64)] → Heap → Prop) (h0 : Heap) : F_math_bits_Len x0 K h0 = sBody PG Try.f64 (Try.f64.body.getD .skip) A_math_bits_Len [.int .u64 x0] [.c (.int .i64)] K h0 := by kernel_rfl
theorem H_math_bits_Len (x0 : Int) {K : Tup [.c (.int .i64)] → Heap → Prop} {h0 : Heap} (h : F_math_bits_Len x0 K h0) : HC PG f_math_bits_Len [.int .u64 x0] [.c (.int .i64)] K h0 := HC.intro Try.mixed Try.func64 rfl Try.call64 (Nat.le_of_ble_eq_true rfl) ((E_math_bits_Len x0 K h0) ▸ h)
/-- slices.insertionSortOrdered[uint32] -/
def F_slices_insertionSortOrdered_u32 (x0 : SliceV) (x1 : Int) (x2 : Int) (K : (Unit) → Heap → Prop) (h0 : Heap) : Prop :=
  LoopP (fun I1 (t2 : Int) h3 => -- i(6)
   CondP (decide (t2 < x2)) (
    LoopP (fun I4 (t5 : Int) h6 => -- j(7)
     Join (fun (t14 : Bool) h15 => -- (30)
      CondP t14 (
       (((0 : Int) ≤ (IntKind.wrap .i64 (t5 - 1)) ∧ (IntKind.wrap .i64 (t5 - 1)) < ((x0.len : Nat) : Int)) ∧ ∃ a16 : Addr, x0.a = some a16 ∧
        ∃ v17 : Int, hcell h15 (adr a16 ((IntKind.wrap .i64 (t5 - 1)).toNat * 1)) = some (.int .u32 v17) ∧
        (((0 : Int) ≤ t5 ∧ t5 < ((x0.len : Nat) : Int)) ∧ ∃ a18 : Addr, x0.a = some a18 ∧
         ∃ v19 : Int, hcell h15 (adr a18 (t5.toNat * 1)) = some (.int .u32 v19) ∧
         (((0 : Int) ≤ t5 ∧ t5 < ((x0.len : Nat) : Int)) ∧ ∃ a20 : Addr, x0.a = some a20 ∧
          (Wr h15 (adr a20 (t5.toNat * 1)) ∧
           At (hset h15 (adr a20 (t5.toNat * 1)) (.int .u32 v17)) (fun h21 =>
            (((0 : Int) ≤ (IntKind.wrap .i64 (t5 - 1)) ∧ (IntKind.wrap .i64 (t5 - 1)) < ((x0.len : Nat) : Int)) ∧ ∃ a22 : Addr, x0.a = some a22 ∧
             (Wr h21 (adr a22 ((IntKind.wrap .i64 (t5 - 1)).toNat * 1)) ∧
              At (hset h21 (adr a22 ((IntKind.wrap .i64 (t5 - 1)).toNat * 1)) (.int .u32 v19)) (fun h23 =>
               I4 (IntKind.wrap .i64 (t5 - 1)) h23))))))))) (
       I1 (IntKind.wrap .i64 (t2 + 1)) h15)) (fun J7 =>
      CondP (decide (t5 > x1)) (
       (((0 : Int) ≤ t5 ∧ t5 < ((x0.len : Nat) : Int)) ∧ ∃ a8 : Addr, x0.a = some a8 ∧
        ∃ v9 : Int, hcell h6 (adr a8 (t5.toNat * 1)) = some (.int .u32 v9) ∧
        (((0 : Int) ≤ (IntKind.wrap .i64 (t5 - 1)) ∧ (IntKind.wrap .i64 (t5 - 1)) < ((x0.len : Nat) : Int)) ∧ ∃ a10 : Addr, x0.a = some a10 ∧
         ∃ v11 : Int, hcell h6 (adr a10 ((IntKind.wrap .i64 (t5 - 1)).toNat * 1)) = some (.int .u32 v11) ∧
         HC PG f_cmp_Less_u32 [.int .u32 v9, .int .u32 v11] [.c .bool] (fun (e12 : Bool) h13 =>
          J7 e12 h13) h6))) (
       J7 false h6))) t2 h3) (
    K () h3)) (IntKind.wrap .i64 (x1 + 1)) h0
def A_slices_insertionSortOrdered_u32 : Ann := .node (.reg [0, 1, 2, 6] (.nil)) (.loop [0, 1, 2] [(6, .c (.int .i64))] (.node (.node (.reg [0, 1, 2, 6, 12] (.nil)) (.nil)) (.node (.node (.reg [0, 1, 2, 6, 7] (.nil)) (.loop [0, 1, 2, 6] [(7, .c (.int .i64))] (.node (.join [0, 1, 2, 6, 7] [(30, .c .bool)] (.reg [0, 1, 2, 6, 7, 30] (.draw [.mk 0 32767 128 65536, .mk 0 32767 2 131072, .mk 3 32764 196608 262144, .mk 4 32763 262144 524288, .mk 8 32759 524289 1048576, .mk 8 32759 524416 2097152, .mk 56 32711 3670016 4194304, .mk 72 32695 4718592 8388608, .mk 8 32759 524289 16777216, .mk 8 32759 524416 33554432, .mk 520 32247 34078720 67108864, .mk 1288 31479 84410368 134217728, .mk 2056 30711 134742016 268435456, .mk 4232 28535 277348352 536870912, .mk 8200 24567 537395200 1073741824] (.take 0 (.take 1 (.take 2 (.take 3 (.split 19 (.take 4 (.take 5 (.take 6 (.take 7 (.take 8 (.take 9 (.take 10 (.take 11 (.take 12 (.all (.last 13 (.take 14 (.done))))))))))))) (.take 4 (.take 5 (.take 6 (.take 7 (.take 8 (.take 9 (.take 10 (.take 11 (.take 12 (.take 13 (.take 14 (.done))))))))))))))))))) (.nil)) (.node (.reg [0, 1, 2, 6, 7] (.draw [.mk 0 262143 1 8589934592, .mk 0 262143 128 17179869184, .mk 0 262143 1 34359738368, .mk 0 262143 128 68719476736, .mk 8 262135 68719476736 137438953472, .mk 0 262143 1 274877906944, .mk 0 262143 128 549755813888, .mk 64 262079 549755813888 1099511627776, .mk 160 261983 1374389534720 2199023255552, .mk 256 261887 2199023255552 4398046511104, .mk 0 262143 1 8796093022208, .mk 0 262143 128 17592186044416, .mk 3072 259071 26388279066624 35184372088832, .mk 4096 258047 35184372088832 70368744177664, .mk 9187 262140 25769803776 140737488355328, .mk 25571 245247 145135534866432 0, .mk 65535 262123 171798691840 281474976710656, .mk 131071 188415 351843720888320 0] (.take 0 (.take 1 (.take 2 (.take 3 (.take 4 (.take 5 (.take 6 (.take 7 (.take 8 (.take 9 (.take 10 (.take 11 (.take 12 (.take 13 (.take 14 (.all (.last 15 (.take 16 (.all (.last 17 (.done))))))))))))))))))))))) (.reg [0, 1, 2, 6, 7] (.nil)))))) (.reg [0, 1, 2, 6] (.nil)))))
theorem E_slices_insertionSortOrdered_u32 (x0 : SliceV) (x1 : Int) (x2 : Int) (K : Tup [] → Heap → Prop) (h0 : Heap) : F_slices_insertionSortOrdered_u32 x0 x1 x2 K h0 = sBody PG Try.f65 (Try.f65.body.getD .skip) A_slices_insertionSortOrdered_u32 [.slice x0.a x0.len x0.cap, .int .i64 x1, .int .i64 x2] [] K h0 := by kernel_rfl
theorem H_slices_insertionSortOrdered_u32 (x0 : SliceV) (x1 : Int) (x2 : Int) {K : Tup [] → Heap → Prop} {h0 : Heap} (h : F_slices_insertionSortOrdered_u32 x0 x1 x2 K h0) : HC PG f_slices_insertionSortOrdered_u32 [.slice x0.a x0.len x0.cap, .int .i64 x1, .int .i64 x2] [] K h0 := HC.intro Try.mixed Try.func65 rfl Try.call65 (Nat.le_of_ble_eq_true rfl) ((E_slices_insertionSortOrdered_u32 x0 x1 x2 K h0) ▸ h)
/-- slices.heapSortOrdered[uint32] -/
def F_slices_heapSortOrdered_u32 (x0 : SliceV) (x1 : Int) (x2 : Int) (K : (Unit) → Heap → Prop) (h0 : Heap) : Prop :=
  ((2 : Int) ≠ 0 ∧
   Bd (IntKind.wrap .i64 (Int.tdiv (IntKind.wrap .i64 ((IntKind.wrap .i64 (x2 - x1)) - 1)) 2) : Int) (fun n1 =>
    LoopP (fun I2 (t3 : Int) h4 => -- i(9)
     CondP (decide (t3 ≥ (0 : Int))) (
      HC PG f_slices_siftDownOrdered_u32 [.slice x0.a x0.len x0.cap, .int .i64 t3, .int .i64 (IntKind.wrap .i64 (x2 - x1)), .int .i64 x1] [] (fun (e5 : Unit) h6 =>
       I2 (IntKind.wrap .i64 (t3 - 1)) h6) h4) (
      LoopP (fun I7 (t8 : Int) h9 => -- i(10)
       CondP (decide (t8 ≥ (0 : Int))) (
        (((0 : Int) ≤ (IntKind.wrap .i64 (x1 + t8)) ∧ (IntKind.wrap .i64 (x1 + t8)) < ((x0.len : Nat) : Int)) ∧ ∃ a10 : Addr, x0.a = some a10 ∧
         ∃ v11 : Int, hcell h9 (adr a10 ((IntKind.wrap .i64 (x1 + t8)).toNat * 1)) = some (.int .u32 v11) ∧
         (((0 : Int) ≤ x1 ∧ x1 < ((x0.len : Nat) : Int)) ∧ ∃ a12 : Addr, x0.a = some a12 ∧
          ∃ v13 : Int, hcell h9 (adr a12 (x1.toNat * 1)) = some (.int .u32 v13) ∧
          (((0 : Int) ≤ x1 ∧ x1 < ((x0.len : Nat) : Int)) ∧ ∃ a14 : Addr, x0.a = some a14 ∧
           (Wr h9 (adr a14 (x1.toNat * 1)) ∧
            At (hset h9 (adr a14 (x1.toNat * 1)) (.int .u32 v11)) (fun h15 =>
             (((0 : Int) ≤ (IntKind.wrap .i64 (x1 + t8)) ∧ (IntKind.wrap .i64 (x1 + t8)) < ((x0.len : Nat) : Int)) ∧ ∃ a16 : Addr, x0.a = some a16 ∧
              (Wr h15 (adr a16 ((IntKind.wrap .i64 (x1 + t8)).toNat * 1)) ∧
               At (hset h15 (adr a16 ((IntKind.wrap .i64 (x1 + t8)).toNat * 1)) (.int .u32 v13)) (fun h17 =>
                HC PG f_slices_siftDownOrdered_u32 [.slice x0.a x0.len x0.cap, .int .i64 0, .int .i64 t8, .int .i64 x1] [] (fun (e18 : Unit) h19 =>
                 I7 (IntKind.wrap .i64 (t8 - 1)) h19) h17))))))))) (
        K () h9)) (IntKind.wrap .i64 ((IntKind.wrap .i64 (x2 - x1)) - 1)) h4)) n1 h0))
def A_slices_heapSortOrdered_u32 : Ann := .node (.reg [0, 1, 2, 6] (.nil)) (.node (.reg [0, 1, 2, 6, 7] (.nil)) (.node (.reg [0, 6, 7, 8] (.nil)) (.node (.node (.reg [0, 6, 7, 8, 9] (.nil)) (.loop [0, 6, 7, 8] [(9, .c (.int .i64))] (.node (.node (.reg [0, 6, 7, 8, 9, 19] (.nil)) (.nil)) (.node (.reg [0, 6, 7, 8, 9] (.nil)) (.reg [0, 6, 7, 8, 9] (.nil)))))) (.node (.reg [0, 6, 7, 10] (.nil)) (.loop [0, 6, 7] [(10, .c (.int .i64))] (.node (.node (.reg [0, 6, 7, 10, 30] (.nil)) (.nil)) (.node (.node (.reg [0, 6, 7, 10] (.draw [.mk 0 1048575 1 8589934592, .mk 0 1048575 64 17179869184, .mk 0 1048575 1 34359738368, .mk 0 1048575 64 68719476736, .mk 0 1048575 1024 137438953472, .mk 24 1048551 206158430208 274877906944, .mk 0 1048575 1 549755813888, .mk 0 1048575 64 1099511627776, .mk 0 1048575 1024 2199023255552, .mk 384 1048191 3298534883328 4398046511104, .mk 576 1047999 4947802324992 8796093022208, .mk 1024 1047551 8796093022208 17592186044416, .mk 0 1048575 1 35184372088832, .mk 0 1048575 64 70368744177664, .mk 12288 1036287 105553116266496 140737488355328, .mk 16384 1032191 140737488355328 281474976710656, .mk 36803 1048572 25769803776 562949953421312, .mk 102339 980991 580542139465728 0, .mk 262143 1048539 309237645312 1125899906842624, .mk 524287 753663 1407374883553280 0] (.take 0 (.take 1 (.take 2 (.take 3 (.take 4 (.take 5 (.take 6 (.take 7 (.take 8 (.take 9 (.take 10 (.take 11 (.take 12 (.take 13 (.take 14 (.take 15 (.take 16 (.all (.last 17 (.take 18 (.all (.last 19 (.done))))))))))))))))))))))))) (.reg [0, 6, 7, 10] (.nil))) (.reg [0, 6, 7, 10] (.nil)))))))))
theorem E_slices_heapSortOrdered_u32 (x0 : SliceV) (x1 : Int) (x2 : Int) (K : Tup [] → Heap → Prop) (h0 : Heap) : F_slices_heapSortOrdered_u32 x0 x1 x2 K h0 = sBody PG Try.f66 (Try.f66.body.getD .skip) A_slices_heapSortOrdered_u32 [.slice x0.a x0.len x0.cap, .int .i64 x1, .int .i64 x2] [] K h0 := by kernel_rfl
theorem H_slices_heapSortOrdered_u32 (x0 : SliceV) (x1 : Int) (x2 : Int) {K : Tup [] → Heap → Prop} {h0 : Heap} (h : F_slices_heapSortOrdered_u32 x0 x1 x2 K h0) : HC PG f_slices_heapSortOrdered_u32 [.slice x0.a x0.len x0.cap, .int .i64 x1, .int .i64 x2] [] K h0 := HC.intro Try.mixed Try.func66 rfl Try.call66 (Nat.le_of_ble_eq_true rfl) ((E_slices_heapSortOrdered_u32 x0 x1 x2 K h0) ▸ h)
/-- slices.breakPatternsOrdered[uint32] -/
def F_slices_breakPatternsOrdered_u32 (x0 : SliceV) (x1 : Int) (x2 : Int) (K : (Unit) → Heap → Prop) (h0 : Heap) : Prop :=
  CondP (decide ((IntKind.wrap .i64 (x2 - x1)) ≥ (8 : Int))) (
   At (hnew h0 [.int .u64 0] t_slices_xorshift) (fun h1 =>
    (Wr h1 (newA h0) ∧
     At (hset h1 (newA h0) (.int .u64 (IntKind.wrap .u64 (IntKind.wrap .i64 (x2 - x1))))) (fun h2 =>
      HC PG f_slices_nextPowerOfTwo [.int .i64 (IntKind.wrap .i64 (x2 - x1))] [.c (.int .u64)] (fun (e3 : Int) h4 =>
       ((4 : Int) ≠ 0 ∧
        Bd (IntKind.wrap .i64 ((IntKind.wrap .i64 (Int.tdiv (IntKind.wrap .i64 (x2 - x1)) 4)) * 2) : Int) (fun n5 =>
         LoopP (fun I6 (t7 : Int) h8 => -- idx(9)
          ((4 : Int) ≠ 0 ∧
           Bd (IntKind.wrap .i64 ((IntKind.wrap .i64 (Int.tdiv (IntKind.wrap .i64 (x2 - x1)) 4)) * 2) : Int) (fun n9 =>
            CondP (decide (t7 ≤ (IntKind.wrap .i64 ((IntKind.wrap .i64 (x1 + n9)) + 1)))) (
             HC PG f_slices_xorshift_Next [.pointer (some (newA h0))] [.c (.int .u64)] (fun (e10 : Int) h11 =>
              Bd (IntKind.wrap .u64 (BitVec.ofInt (IntKind.bits .u64) e10 &&& BitVec.ofInt (IntKind.bits .u64) (IntKind.wrap .u64 (e3 - 1))).toNat : Int) (fun n12 =>
               Join (fun (t15 : Int) h16 => -- other(10)
                (((0 : Int) ≤ (IntKind.wrap .i64 (x1 + t15)) ∧ (IntKind.wrap .i64 (x1 + t15)) < ((x0.len : Nat) : Int)) ∧ ∃ a17 : Addr, x0.a = some a17 ∧
                 ∃ v18 : Int, hcell h16 (adr a17 ((IntKind.wrap .i64 (x1 + t15)).toNat * 1)) = some (.int .u32 v18) ∧
                 (((0 : Int) ≤ t7 ∧ t7 < ((x0.len : Nat) : Int)) ∧ ∃ a19 : Addr, x0.a = some a19 ∧
                  ∃ v20 : Int, hcell h16 (adr a19 (t7.toNat * 1)) = some (.int .u32 v20) ∧
                  (((0 : Int) ≤ t7 ∧ t7 < ((x0.len : Nat) : Int)) ∧ ∃ a21 : Addr, x0.a = some a21 ∧
                   (Wr h16 (adr a21 (t7.toNat * 1)) ∧
                    At (hset h16 (adr a21 (t7.toNat * 1)) (.int .u32 v18)) (fun h22 =>
                     (((0 : Int) ≤ (IntKind.wrap .i64 (x1 + t15)) ∧ (IntKind.wrap .i64 (x1 + t15)) < ((x0.len : Nat) : Int)) ∧ ∃ a23 : Addr, x0.a = some a23 ∧
                      (Wr h22 (adr a23 ((IntKind.wrap .i64 (x1 + t15)).toNat * 1)) ∧
                       At (hset h22 (adr a23 ((IntKind.wrap .i64 (x1 + t15)).toNat * 1)) (.int .u32 v20)) (fun h24 =>
                        I6 (IntKind.wrap .i64 (t7 + 1)) h24))))))))) (fun J13 =>
                CondP (decide ((IntKind.wrap .i64 n12) ≥ (IntKind.wrap .i64 (x2 - x1)))) (
                 Bd (IntKind.wrap .i64 ((IntKind.wrap .i64 n12) - (IntKind.wrap .i64 (x2 - x1))) : Int) (fun n14 =>
                  J13 n14 h11)) (
                 J13 (IntKind.wrap .i64 n12) h11)))) h8) (
             K () h8)))) (IntKind.wrap .i64 ((IntKind.wrap .i64 (x1 + n5)) - 1)) h4))) h2)))) (
   K () h0)
def A_slices_breakPatternsOrdered_u32 : Ann := .node (.reg [0, 1, 6] (.nil)) (.node (.reg [0, 1, 6, 15] (.nil)) (.node (.node (.reg [0, 1, 6, 7] (.nil)) (.node (.reg [0, 1, 6, 7, 8] (.nil)) (.node (.reg [0, 1, 6, 7, 8, 9] (.nil)) (.loop [0, 1, 6, 7, 8] [(9, .c (.int .i64))] (.node (.node (.reg [0, 1, 6, 7, 8, 9, 33] (.nil)) (.nil)) (.node (.node (.reg [0, 1, 6, 7, 8, 9, 10] (.nil)) (.join [0, 1, 6, 7, 8, 9] [(10, .c (.int .i64))] (.node (.reg [0, 1, 6, 7, 8, 9, 10, 43] (.nil)) (.node (.reg [0, 1, 6, 7, 8, 9, 10] (.nil)) (.nil))) (.reg [0, 1, 6, 7, 8, 9] (.draw [.mk 0 1048575 1 140737488355328, .mk 0 1048575 512 281474976710656, .mk 0 1048575 1 562949953421312, .mk 0 1048575 2 1125899906842624, .mk 0 1048575 1024 2251799813685248, .mk 24 1048551 3377699720527872 4503599627370496, .mk 0 1048575 1 9007199254740992, .mk 0 1048575 2 18014398509481984, .mk 0 1048575 1024 36028797018963968, .mk 384 1048191 54043195528445952 72057594037927936, .mk 576 1047999 81064793292668928 144115188075855872, .mk 1024 1047551 144115188075855872 288230376151711744, .mk 0 1048575 1 576460752303423488, .mk 0 1048575 512 1152921504606846976, .mk 12288 1036287 1729382256910270464 2305843009213693952, .mk 16384 1032191 2305843009213693952 4611686018427387904, .mk 36803 1048572 422212465065984 9223372036854775808, .mk 102339 980991 9511602413006487552 0, .mk 262143 1048539 5066549580791808 18446744073709551616, .mk 524287 753663 23058430092136939520 0] (.take 0 (.take 1 (.take 2 (.take 3 (.take 4 (.take 5 (.take 6 (.take 7 (.take 8 (.take 9 (.take 10 (.take 11 (.take 12 (.take 13 (.take 14 (.take 15 (.take 16 (.all (.last 17 (.take 18 (.all (.last 19 (.done))))))))))))))))))))))))))) (.reg [0, 1, 6, 7, 8, 9] (.nil)))))))) (.nil)))
theorem E_slices_breakPatternsOrdered_u32 (x0 : SliceV) (x1 : Int) (x2 : Int) (K : Tup [] → Heap → Prop) (h0 : Heap) : F_slices_breakPatternsOrdered_u32 x0 x1 x2 K h0 = sBody PG Try.f67 (Try.f67.body.getD .skip) A_slices_breakPatternsOrdered_u32 [.slice x0.a x0.len x0.cap, .int .i64 x1, .int .i64 x2] [] K h0 := by kernel_rfl
theorem H_slices_breakPatternsOrdered_u32 (x0 : SliceV) (x1 : Int) (x2 : Int) {K : Tup [] → Heap → Prop} {h0 : Heap} (h : F_slices_breakPatternsOrdered_u32 x0 x1 x2 K h0) : HC PG f_slices_breakPatternsOrdered_u32 [.slice x0.a x0.len x0.cap, .int .i64 x1, .int .i64 x2] [] K h0 := HC.intro Try.mixed Try.func67 rfl Try.call67 (Nat.le_of_ble_eq_true rfl) ((E_slices_breakPatternsOrdered_u32 x0 x1 x2 K h0) ▸ h)
/-- slices.choosePivotOrdered[uint32] -/
def F_slices_choosePivotOrdered_u32 (x0 : SliceV) (x1 : Int) (x2 : Int) (K : (Int × Int) → Heap → Prop) (h0 : Heap) : Prop :=
  At (hnew h0 [.int .i64 0] t_int) (fun h1 =>
   ((4 : Int) ≠ 0 ∧
    Bd (IntKind.wrap .i64 ((IntKind.wrap .i64 (Int.tdiv (IntKind.wrap .i64 (x2 - x1)) 4)) * 1) : Int) (fun n2 =>
     ((4 : Int) ≠ 0 ∧
      Bd (IntKind.wrap .i64 ((IntKind.wrap .i64 (Int.tdiv (IntKind.wrap .i64 (x2 - x1)) 4)) * 2) : Int) (fun n3 =>
       ((4 : Int) ≠ 0 ∧
        Bd (IntKind.wrap .i64 ((IntKind.wrap .i64 (Int.tdiv (IntKind.wrap .i64 (x2 - x1)) 4)) * 3) : Int) (fun n4 =>
         Join (fun (t17 : Int) h18 => -- j(11)
          ∃ v19 : Int, hcell h18 (newA h0) = some (.int .i64 v19) ∧
          CondP (v19 == (0 : Int)) (
           K (t17, 1) h18) (
           CondP (v19 == (12 : Int)) (
            K (t17, 2) h18) (
            K (t17, 0) h18))) (fun J5 =>
          CondP (decide ((IntKind.wrap .i64 (x2 - x1)) ≥ (8 : Int))) (
           Join (fun (t13 : Int × Int × Int) h14 => -- i(10), j(11), k(12)
            HC PG f_slices_medianOrdered_u32 [.slice x0.a x0.len x0.cap, .int .i64 t13.1, .int .i64 t13.2.1, .int .i64 t13.2.2, .pointer (some (newA h0))] [.c (.int .i64)] (fun (e15 : Int) h16 =>
             J5 e15 h16) h14) (fun J6 =>
            CondP (decide ((IntKind.wrap .i64 (x2 - x1)) ≥ (50 : Int))) (
             HC PG f_slices_medianAdjacentOrdered_u32 [.slice x0.a x0.len x0.cap, .int .i64 (IntKind.wrap .i64 (x1 + n2)), .pointer (some (newA h0))] [.c (.int .i64)] (fun (e7 : Int) h8 =>
              HC PG f_slices_medianAdjacentOrdered_u32 [.slice x0.a x0.len x0.cap, .int .i64 (IntKind.wrap .i64 (x1 + n3)), .pointer (some (newA h0))] [.c (.int .i64)] (fun (e9 : Int) h10 =>
               HC PG f_slices_medianAdjacentOrdered_u32 [.slice x0.a x0.len x0.cap, .int .i64 (IntKind.wrap .i64 (x1 + n4)), .pointer (some (newA h0))] [.c (.int .i64)] (fun (e11 : Int) h12 =>
                J6 (e7, e9, e11) h12) h10) h8) h1) (
             J6 (IntKind.wrap .i64 (x1 + n2), IntKind.wrap .i64 (x1 + n3), IntKind.wrap .i64 (x1 + n4)) h1))) (
           J5 (IntKind.wrap .i64 (x1 + n3)) h1)))))))))
def A_slices_choosePivotOrdered_u32 : Ann := .node (.reg [0, 1, 2] (.nil)) (.node (.reg [0, 1, 8] (.nil)) (.node (.reg [0, 1, 8, 9] (.nil)) (.node (.reg [0, 1, 8, 9, 10] (.nil)) (.node (.reg [0, 1, 8, 9, 10, 11] (.nil)) (.node (.reg [0, 8, 9, 10, 11, 12] (.nil)) (.join [9] [(11, .c (.int .i64))] (.node (.reg [0, 8, 9, 10, 11, 12, 32] (.nil)) (.node (.join [0, 9] [(10, .c (.int .i64)), (11, .c (.int .i64)), (12, .c (.int .i64))] (.node (.reg [0, 9, 10, 11, 12, 34] (.nil)) (.node (.node (.reg [0, 9, 10, 11, 12] (.nil)) (.node (.reg [0, 9, 10, 11, 12] (.nil)) (.reg [0, 9, 10, 11, 12] (.nil)))) (.nil))) (.reg [9, 11] (.nil))) (.nil))) (.node (.reg [11, 49] (.nil)) (.node (.reg [11, 49, 51] (.nil)) (.node (.node (.reg [6, 7] (.nil)) (.nil)) (.node (.reg [11, 54] (.nil)) (.node (.node (.reg [6, 7] (.nil)) (.nil)) (.node (.reg [6, 7] (.nil)) (.nil)))))))))))))
theorem E_slices_choosePivotOrdered_u32 (x0 : SliceV) (x1 : Int) (x2 : Int) (K : Tup [.c (.int .i64), .c (.int .i64)] → Heap → Prop) (h0 : Heap) : F_slices_choosePivotOrdered_u32 x0 x1 x2 K h0 = sBody PG Try.f68 (Try.f68.body.getD .skip) A_slices_choosePivotOrdered_u32 [.slice x0.a x0.len x0.cap, .int .i64 x1, .int .i64 x2] [.c (.int .i64), .c (.int .i64)] K h0 := by kernel_rfl
theorem H_slices_choosePivotOrdered_u32 (x0 : SliceV) (x1 : Int) (x2 : Int) {K : Tup [.c (.int .i64), .c (.int .i64)] → Heap → Prop} {h0 : Heap} (h : F_slices_choosePivotOrdered_u32 x0 x1 x2 K h0) : HC PG f_slices_choosePivotOrdered_u32 [.slice x0.a x0.len x0.cap, .int .i64 x1, .int .i64 x2] [.c (.int .i64), .c (.int .i64)] K h0 := HC.intro Try.mixed Try.func68 rfl Try.call68 (Nat.le_of_ble_eq_true rfl) ((E_slices_choosePivotOrdered_u32 x0 x1 x2 K h0) ▸ h)
/-- slices.reverseRangeOrdered[uint32] -/
def F_slices_reverseRangeOrdered_u32 (x0 : SliceV) (x1 : Int) (x2 : Int) (K : (Unit) → Heap → Prop) (h0 : Heap) : Prop :=
  LoopP (fun I1 (t2 : Int × Int) h3 => -- i(6), j(7)
   CondP (decide (t2.1 < t2.2)) (
    (((0 : Int) ≤ t2.2 ∧ t2.2 < ((x0.len : Nat) : Int)) ∧ ∃ a4 : Addr, x0.a = some a4 ∧
     ∃ v5 : Int, hcell h3 (adr a4 (t2.2.toNat * 1)) = some (.int .u32 v5) ∧
     (((0 : Int) ≤ t2.1 ∧ t2.1 < ((x0.len : Nat) : Int)) ∧ ∃ a6 : Addr, x0.a = some a6 ∧
      ∃ v7 : Int, hcell h3 (adr a6 (t2.1.toNat * 1)) = some (.int .u32 v7) ∧
      (((0 : Int) ≤ t2.1 ∧ t2.1 < ((x0.len : Nat) : Int)) ∧ ∃ a8 : Addr, x0.a = some a8 ∧
       (Wr h3 (adr a8 (t2.1.toNat * 1)) ∧
        At (hset h3 (adr a8 (t2.1.toNat * 1)) (.int .u32 v5)) (fun h9 =>
         (((0 : Int) ≤ t2.2 ∧ t2.2 < ((x0.len : Nat) : Int)) ∧ ∃ a10 : Addr, x0.a = some a10 ∧
          (Wr h9 (adr a10 (t2.2.toNat * 1)) ∧
           At (hset h9 (adr a10 (t2.2.toNat * 1)) (.int .u32 v7)) (fun h11 =>
            I1 (IntKind.wrap .i64 (t2.1 + 1), IntKind.wrap .i64 (t2.2 - 1)) h11))))))))) (
    K () h3)) (x1, IntKind.wrap .i64 (x2 - 1)) h0
def A_slices_reverseRangeOrdered_u32 : Ann := .node (.reg [0, 2, 6] (.nil)) (.node (.reg [0, 6, 7] (.nil)) (.loop [0] [(6, .c (.int .i64)), (7, .c (.int .i64))] (.node (.node (.reg [0, 6, 7, 13] (.nil)) (.nil)) (.node (.reg [0, 6, 7] (.draw [.mk 0 65535 1 16384, .mk 0 65535 64 32768, .mk 0 65535 1 65536, .mk 0 65535 128 131072, .mk 0 65535 1 262144, .mk 0 65535 128 524288, .mk 48 65487 786432 1048576, .mk 64 65471 1048576 2097152, .mk 0 65535 1 4194304, .mk 0 65535 64 8388608, .mk 768 64767 12582912 16777216, .mk 1024 64511 16777216 33554432, .mk 2291 65532 49152 67108864, .mk 6387 61311 69206016 0, .mk 16383 65523 196608 134217728, .mk 32767 47103 167772160 0] (.take 0 (.take 1 (.take 2 (.take 3 (.take 4 (.take 5 (.take 6 (.take 7 (.take 8 (.take 9 (.take 10 (.take 11 (.take 12 (.all (.last 13 (.take 14 (.all (.last 15 (.done))))))))))))))))))))) (.node (.reg [0, 6, 7] (.nil)) (.reg [0, 6, 7] (.nil)))))))
theorem E_slices_reverseRangeOrdered_u32 (x0 : SliceV) (x1 : Int) (x2 : Int) (K : Tup [] → Heap → Prop) (h0 : Heap) : F_slices_reverseRangeOrdered_u32 x0 x1 x2 K h0 = sBody PG Try.f69 (Try.f69.body.getD .skip) A_slices_reverseRangeOrdered_u32 [.slice x0.a x0.len x0.cap, .int .i64 x1, .int .i64 x2] [] K h0 := by kernel_rfl
theorem H_slices_reverseRangeOrdered_u32 (x0 : SliceV) (x1 : Int) (x2 : Int) {K : Tup [] → Heap → Prop} {h0 : Heap} (h : F_slices_reverseRangeOrdered_u32 x0 x1 x2 K h0) : HC PG f_slices_reverseRangeOrdered_u32 [.slice x0.a x0.len x0.cap, .int .i64 x1, .int .i64 x2] [] K h0 := HC.intro Try.mixed Try.func69 rfl Try.call69 (Nat.le_of_ble_eq_true rfl) ((E_slices_reverseRangeOrdered_u32 x0 x1 x2 K h0) ▸ h)
/-- slices.partialInsertionSortOrdered[uint32] -/
def F_slices_partialInsertionSortOrdered_u32 (x0 : SliceV) (x1 : Int) (x2 : Int) (K : (Bool) → Heap → Prop) (h0 : Heap) : Prop :=
  LoopP (fun I1 (t2 : Int × Int) h3 => -- i(7), j(8)
   CondP (decide (t2.2 < (5 : Int))) (
    Join (fun (t62 : Int) h63 => -- i(7)
     I1 (t62, IntKind.wrap .i64 (t2.2 + 1)) h63) (fun J4 =>
     LoopP (fun I5 (t6 : Int) h7 => -- i(7)
      Join (fun (t15 : Bool) h16 => -- (32)
       CondP t15 (
        I5 (IntKind.wrap .i64 (t6 + 1)) h16) (
        CondP (t6 == x2) (
         K true h16) (
         CondP (decide ((IntKind.wrap .i64 (x2 - x1)) < (50 : Int))) (
          K false h16) (
          (((0 : Int) ≤ (IntKind.wrap .i64 (t6 - 1)) ∧ (IntKind.wrap .i64 (t6 - 1)) < ((x0.len : Nat) : Int)) ∧ ∃ a17 : Addr, x0.a = some a17 ∧
           ∃ v18 : Int, hcell h16 (adr a17 ((IntKind.wrap .i64 (t6 - 1)).toNat * 1)) = some (.int .u32 v18) ∧
           (((0 : Int) ≤ t6 ∧ t6 < ((x0.len : Nat) : Int)) ∧ ∃ a19 : Addr, x0.a = some a19 ∧
            ∃ v20 : Int, hcell h16 (adr a19 (t6.toNat * 1)) = some (.int .u32 v20) ∧
            (((0 : Int) ≤ t6 ∧ t6 < ((x0.len : Nat) : Int)) ∧ ∃ a21 : Addr, x0.a = some a21 ∧
             (Wr h16 (adr a21 (t6.toNat * 1)) ∧
              At (hset h16 (adr a21 (t6.toNat * 1)) (.int .u32 v18)) (fun h22 =>
               (((0 : Int) ≤ (IntKind.wrap .i64 (t6 - 1)) ∧ (IntKind.wrap .i64 (t6 - 1)) < ((x0.len : Nat) : Int)) ∧ ∃ a23 : Addr, x0.a = some a23 ∧
                (Wr h22 (adr a23 ((IntKind.wrap .i64 (t6 - 1)).toNat * 1)) ∧
                 At (hset h22 (adr a23 ((IntKind.wrap .i64 (t6 - 1)).toNat * 1)) (.int .u32 v20)) (fun h24 =>
                  Join (fun (t43 : Unit) h44 => -- 
                   CondP (decide ((IntKind.wrap .i64 (x2 - t6)) ≥ (2 : Int))) (
                    LoopP (fun I45 (t46 : Int) h47 => -- j(10)
                     CondP (decide (t46 < x2)) (
                      (((0 : Int) ≤ t46 ∧ t46 < ((x0.len : Nat) : Int)) ∧ ∃ a48 : Addr, x0.a = some a48 ∧
                       ∃ v49 : Int, hcell h47 (adr a48 (t46.toNat * 1)) = some (.int .u32 v49) ∧
                       (((0 : Int) ≤ (IntKind.wrap .i64 (t46 - 1)) ∧ (IntKind.wrap .i64 (t46 - 1)) < ((x0.len : Nat) : Int)) ∧ ∃ a50 : Addr, x0.a = some a50 ∧
                        ∃ v51 : Int, hcell h47 (adr a50 ((IntKind.wrap .i64 (t46 - 1)).toNat * 1)) = some (.int .u32 v51) ∧
                        HC PG f_cmp_Less_u32 [.int .u32 v49, .int .u32 v51] [.c .bool] (fun (e52 : Bool) h53 =>
                         CondP (!e52) (
                          J4 t6 h53) (
                          (((0 : Int) ≤ (IntKind.wrap .i64 (t46 - 1)) ∧ (IntKind.wrap .i64 (t46 - 1)) < ((x0.len : Nat) : Int)) ∧ ∃ a54 : Addr, x0.a = some a54 ∧
                           ∃ v55 : Int, hcell h53 (adr a54 ((IntKind.wrap .i64 (t46 - 1)).toNat * 1)) = some (.int .u32 v55) ∧
                           (((0 : Int) ≤ t46 ∧ t46 < ((x0.len : Nat) : Int)) ∧ ∃ a56 : Addr, x0.a = some a56 ∧
                            ∃ v57 : Int, hcell h53 (adr a56 (t46.toNat * 1)) = some (.int .u32 v57) ∧
                            (((0 : Int) ≤ t46 ∧ t46 < ((x0.len : Nat) : Int)) ∧ ∃ a58 : Addr, x0.a = some a58 ∧
                             (Wr h53 (adr a58 (t46.toNat * 1)) ∧
                              At (hset h53 (adr a58 (t46.toNat * 1)) (.int .u32 v55)) (fun h59 =>
                               (((0 : Int) ≤ (IntKind.wrap .i64 (t46 - 1)) ∧ (IntKind.wrap .i64 (t46 - 1)) < ((x0.len : Nat) : Int)) ∧ ∃ a60 : Addr, x0.a = some a60 ∧
                                (Wr h59 (adr a60 ((IntKind.wrap .i64 (t46 - 1)).toNat * 1)) ∧
                                 At (hset h59 (adr a60 ((IntKind.wrap .i64 (t46 - 1)).toNat * 1)) (.int .u32 v57)) (fun h61 =>
                                  I45 (IntKind.wrap .i64 (t46 + 1)) h61)))))))))) h47))) (
                      J4 t6 h47)) (IntKind.wrap .i64 (t6 + 1)) h44) (
                    J4 t6 h44)) (fun J25 =>
                   CondP (decide ((IntKind.wrap .i64 (t6 - x1)) ≥ (2 : Int))) (
                    LoopP (fun I26 (t27 : Int) h28 => -- j(9)
                     CondP (decide (t27 ≥ (1 : Int))) (
                      (((0 : Int) ≤ t27 ∧ t27 < ((x0.len : Nat) : Int)) ∧ ∃ a29 : Addr, x0.a = some a29 ∧
                       ∃ v30 : Int, hcell h28 (adr a29 (t27.toNat * 1)) = some (.int .u32 v30) ∧
                       (((0 : Int) ≤ (IntKind.wrap .i64 (t27 - 1)) ∧ (IntKind.wrap .i64 (t27 - 1)) < ((x0.len : Nat) : Int)) ∧ ∃ a31 : Addr, x0.a = some a31 ∧
                        ∃ v32 : Int, hcell h28 (adr a31 ((IntKind.wrap .i64 (t27 - 1)).toNat * 1)) = some (.int .u32 v32) ∧
                        HC PG f_cmp_Less_u32 [.int .u32 v30, .int .u32 v32] [.c .bool] (fun (e33 : Bool) h34 =>
                         CondP (!e33) (
                          J25 () h34) (
                          (((0 : Int) ≤ (IntKind.wrap .i64 (t27 - 1)) ∧ (IntKind.wrap .i64 (t27 - 1)) < ((x0.len : Nat) : Int)) ∧ ∃ a35 : Addr, x0.a = some a35 ∧
                           ∃ v36 : Int, hcell h34 (adr a35 ((IntKind.wrap .i64 (t27 - 1)).toNat * 1)) = some (.int .u32 v36) ∧
                           (((0 : Int) ≤ t27 ∧ t27 < ((x0.len : Nat) : Int)) ∧ ∃ a37 : Addr, x0.a = some a37 ∧
                            ∃ v38 : Int, hcell h34 (adr a37 (t27.toNat * 1)) = some (.int .u32 v38) ∧
                            (((0 : Int) ≤ t27 ∧ t27 < ((x0.len : Nat) : Int)) ∧ ∃ a39 : Addr, x0.a = some a39 ∧
                             (Wr h34 (adr a39 (t27.toNat * 1)) ∧
                              At (hset h34 (adr a39 (t27.toNat * 1)) (.int .u32 v36)) (fun h40 =>
                               (((0 : Int) ≤ (IntKind.wrap .i64 (t27 - 1)) ∧ (IntKind.wrap .i64 (t27 - 1)) < ((x0.len : Nat) : Int)) ∧ ∃ a41 : Addr, x0.a = some a41 ∧
                                (Wr h40 (adr a41 ((IntKind.wrap .i64 (t27 - 1)).toNat * 1)) ∧
                                 At (hset h40 (adr a41 ((IntKind.wrap .i64 (t27 - 1)).toNat * 1)) (.int .u32 v38)) (fun h42 =>
                                  I26 (IntKind.wrap .i64 (t27 - 1)) h42)))))))))) h28))) (
                      J25 () h28)) (IntKind.wrap .i64 (t6 - 1)) h24) (
                    J25 () h24)))))))))))))) (fun J8 =>
       CondP (decide (t6 < x2)) (
        (((0 : Int) ≤ t6 ∧ t6 < ((x0.len : Nat) : Int)) ∧ ∃ a9 : Addr, x0.a = some a9 ∧
         ∃ v10 : Int, hcell h7 (adr a9 (t6.toNat * 1)) = some (.int .u32 v10) ∧
         (((0 : Int) ≤ (IntKind.wrap .i64 (t6 - 1)) ∧ (IntKind.wrap .i64 (t6 - 1)) < ((x0.len : Nat) : Int)) ∧ ∃ a11 : Addr, x0.a = some a11 ∧
          ∃ v12 : Int, hcell h7 (adr a11 ((IntKind.wrap .i64 (t6 - 1)).toNat * 1)) = some (.int .u32 v12) ∧
          HC PG f_cmp_Less_u32 [.int .u32 v10, .int .u32 v12] [.c .bool] (fun (e13 : Bool) h14 =>
           J8 (!e13) h14) h7))) (
        J8 false h7))) t2.1 h3)) (
    K false h3)) (IntKind.wrap .i64 (x1 + 1), 0) h0
def A_slices_partialInsertionSortOrdered_u32 : Ann := .node (.reg [0, 1, 2] (.nil)) (.node (.reg [0, 1, 2, 7] (.nil)) (.node (.node (.reg [0, 1, 2, 7, 8] (.nil)) (.loop [0, 1, 2] [(7, .c (.int .i64)), (8, .c (.int .i64))] (.node (.node (.reg [0, 1, 2, 7, 8, 14] (.nil)) (.nil)) (.join [0, 1, 2, 8] [(7, .c (.int .i64))] (.node (.loop [0, 1, 2, 8] [(7, .c (.int .i64))] (.node (.join [0, 1, 2, 7, 8] [(32, .c .bool)] (.reg [0, 1, 2, 7, 8, 32] (.draw [.mk 0 65535 128 131072, .mk 0 65535 4 262144, .mk 3 65532 393216 524288, .mk 4 65531 524288 1048576, .mk 8 65527 1048577 2097152, .mk 8 65527 1048704 4194304, .mk 56 65479 7340032 8388608, .mk 72 65463 9437184 16777216, .mk 8 65527 1048577 33554432, .mk 8 65527 1048704 67108864, .mk 520 65015 68157440 134217728, .mk 1288 64247 168820736 268435456, .mk 2056 63479 269484032 536870912, .mk 4232 61303 554696704 1073741824, .mk 8200 57335 1074790400 2147483648, .mk 16392 49143 2148532224 4294967296] (.take 0 (.take 1 (.take 2 (.take 3 (.split 20 (.take 4 (.take 5 (.take 6 (.take 7 (.take 8 (.take 9 (.take 10 (.take 11 (.take 12 (.all (.last 13 (.take 14 (.take 15 (.done)))))))))))))) (.take 4 (.take 5 (.take 6 (.take 7 (.take 8 (.take 9 (.take 10 (.take 11 (.take 12 (.take 13 (.take 14 (.take 15 (.done)))))))))))))))))))) (.nil)) (.reg [0, 1, 2, 7, 8] (.nil)))) (.node (.node (.reg [0, 1, 2, 7, 8, 37] (.nil)) (.node (.node (.reg [6] (.nil)) (.nil)) (.nil))) (.node (.node (.reg [0, 1, 2, 7, 8, 41] (.nil)) (.node (.node (.reg [6] (.nil)) (.nil)) (.nil))) (.node (.reg [0, 1, 2, 7, 8] (.draw [.mk 0 262143 1 4398046511104, .mk 0 262143 128 8796093022208, .mk 0 262143 1 17592186044416, .mk 0 262143 128 35184372088832, .mk 8 262135 35184372088832 70368744177664, .mk 0 262143 1 140737488355328, .mk 0 262143 128 281474976710656, .mk 64 262079 281474976710656 562949953421312, .mk 160 261983 703687441776640 1125899906842624, .mk 256 261887 1125899906842624 2251799813685248, .mk 0 262143 1 4503599627370496, .mk 0 262143 128 9007199254740992, .mk 3072 259071 13510798882111488 18014398509481984, .mk 4096 258047 18014398509481984 36028797018963968, .mk 9187 262140 13194139533312 72057594037927936, .mk 25571 245247 74309393851613184 0, .mk 65535 262123 87960930222080 144115188075855872, .mk 131071 188415 180143985094819840 0] (.take 0 (.take 1 (.take 2 (.take 3 (.take 4 (.take 5 (.take 6 (.take 7 (.take 8 (.take 9 (.take 10 (.take 11 (.take 12 (.take 13 (.take 14 (.all (.last 15 (.take 16 (.all (.last 17 (.done))))))))))))))))))))))) (.join [0, 1, 2, 7, 8] [] (.node (.reg [0, 1, 2, 7, 8, 61] (.nil)) (.node (.node (.reg [0, 1, 2, 7, 8, 9] (.nil)) (.loop [0, 1, 2, 7, 8] [(9, .c (.int .i64))] (.node (.node (.reg [0, 1, 2, 7, 8, 9, 65] (.nil)) (.nil)) (.node (.node (.node (.reg [0, 1, 2, 7, 8, 9, 78] (.draw [.mk 0 2047 1 295147905179352825856, .mk 0 2047 512 590295810358705651712, .mk 3 2044 885443715538058477568 1180591620717411303424, .mk 4 2043 1180591620717411303424 2361183241434822606848, .mk 0 2047 1 4722366482869645213696, .mk 0 2047 512 9444732965739290427392, .mk 32 2015 9444732965739290427392 18889465931478580854784, .mk 80 1967 23611832414348226068480 37778931862957161709568, .mk 128 1919 37778931862957161709568 75557863725914323419136, .mk 264 1783 77919046967349146025984 151115727451828646838272, .mk 512 1535 151115727451828646838272 302231454903657293676544] (.take 0 (.take 1 (.take 2 (.take 3 (.take 4 (.take 5 (.take 6 (.take 7 (.take 8 (.all (.last 9 (.take 10 (.done))))))))))))))) (.nil)) (.reg [0, 1, 2, 7, 8, 9] (.draw [.mk 0 262143 1 604462909807314587353088, .mk 0 262143 512 1208925819614629174706176, .mk 0 262143 1 2417851639229258349412352, .mk 0 262143 512 4835703278458516698824704, .mk 8 262135 4835703278458516698824704 9671406556917033397649408, .mk 0 262143 1 19342813113834066795298816, .mk 0 262143 512 38685626227668133590597632, .mk 64 262079 38685626227668133590597632 77371252455336267181195264, .mk 160 261983 96714065569170333976494080 154742504910672534362390528, .mk 256 261887 154742504910672534362390528 309485009821345068724781056, .mk 0 262143 1 618970019642690137449562112, .mk 0 262143 512 1237940039285380274899124224, .mk 3072 259071 1856910058928070412348686336 2475880078570760549798248448, .mk 4096 258047 2475880078570760549798248448 4951760157141521099596496896, .mk 9187 262140 1813388729421943762059264 9903520314283042199192993792, .mk 25571 245247 10213005324104387267917774848 0, .mk 65535 262123 12089258196146291747061760 19807040628566084398385987584, .mk 131071 188415 24758800785707605497982484480 0] (.take 0 (.take 1 (.take 2 (.take 3 (.take 4 (.take 5 (.take 6 (.take 7 (.take 8 (.take 9 (.take 10 (.take 11 (.take 12 (.take 13 (.take 14 (.all (.last 15 (.take 16 (.all (.last 17 (.done)))))))))))))))))))))))) (.reg [0, 1, 2, 7, 8, 9] (.nil)))))) (.nil))) (.node (.reg [0, 1, 2, 7, 8, 98] (.nil)) (.node (.node (.reg [0, 1, 2, 7, 8, 10] (.nil)) (.loop [0, 1, 2, 7, 8] [(10, .c (.int .i64))] (.node (.node (.reg [0, 1, 2, 7, 8, 10, 103] (.nil)) (.nil)) (.node (.node (.node (.reg [0, 1, 2, 7, 8, 10, 116] (.draw [.mk 0 2047 1 81129638414606681695789005144064, .mk 0 2047 1024 162259276829213363391578010288128, .mk 3 2044 243388915243820045087367015432192 324518553658426726783156020576256, .mk 4 2043 324518553658426726783156020576256 649037107316853453566312041152512, .mk 0 2047 1 1298074214633706907132624082305024, .mk 0 2047 1024 2596148429267413814265248164610048, .mk 32 2015 2596148429267413814265248164610048 5192296858534827628530496329220096, .mk 80 1967 6490371073168534535663120411525120 10384593717069655257060992658440192, .mk 128 1919 10384593717069655257060992658440192 20769187434139310514121985316880384, .mk 264 1783 21418224541456163967688297358032896 41538374868278621028243970633760768, .mk 512 1535 41538374868278621028243970633760768 83076749736557242056487941267521536] (.take 0 (.take 1 (.take 2 (.take 3 (.take 4 (.take 5 (.take 6 (.take 7 (.take 8 (.all (.last 9 (.take 10 (.done))))))))))))))) (.nil)) (.reg [0, 1, 2, 7, 8, 10] (.draw [.mk 0 262143 1 166153499473114484112975882535043072, .mk 0 262143 1024 332306998946228968225951765070086144, .mk 0 262143 1 664613997892457936451903530140172288, .mk 0 262143 1024 1329227995784915872903807060280344576, .mk 8 262135 1329227995784915872903807060280344576 2658455991569831745807614120560689152, .mk 0 262143 1 5316911983139663491615228241121378304, .mk 0 262143 1024 10633823966279326983230456482242756608, .mk 64 262079 10633823966279326983230456482242756608 21267647932558653966460912964485513216, .mk 160 261983 26584559915698317458076141205606891520 42535295865117307932921825928971026432, .mk 256 261887 42535295865117307932921825928971026432 85070591730234615865843651857942052864, .mk 0 262143 1 170141183460469231731687303715884105728, .mk 0 262143 1024 340282366920938463463374607431768211456, .mk 3072 259071 510423550381407695195061911147652317184 680564733841876926926749214863536422912, .mk 4096 258047 680564733841876926926749214863536422912 1361129467683753853853498429727072845824, .mk 9187 262140 498460498419343452338927647605129216 2722258935367507707706996859454145691648, .mk 25571 245247 2807329527097742323572840511312087744512 0, .mk 65535 262123 3323069989462289682259517650700861440 5444517870735015415413993718908291383296, .mk 131071 188415 6805647338418769269267492148635364229120 0] (.take 0 (.take 1 (.take 2 (.take 3 (.take 4 (.take 5 (.take 6 (.take 7 (.take 8 (.take 9 (.take 10 (.take 11 (.take 12 (.take 13 (.take 14 (.all (.last 15 (.take 16 (.all (.last 17 (.done)))))))))))))))))))))))) (.reg [0, 1, 2, 7, 8, 10] (.nil)))))) (.nil)))))))) (.reg [0, 1, 2, 7, 8] (.nil)))))) (.node (.reg [6] (.nil)) (.nil))))
theorem E_slices_partialInsertionSortOrdered_u32 (x0 : SliceV) (x1 : Int) (x2 : Int) (K : Tup [.c .bool] → Heap → Prop) (h0 : Heap) : F_slices_partialInsertionSortOrdered_u32 x0 x1 x2 K h0 = sBody PG Try.f70 (Try.f70.body.getD .skip) A_slices_partialInsertionSortOrdered_u32 [.slice x0.a x0.len x0.cap, .int .i64 x1, .int .i64 x2] [.c .bool] K h0 := by kernel_rfl
theorem H_slices_partialInsertionSortOrdered_u32 (x0 : SliceV) (x1 : Int) (x2 : Int) {K : Tup [.c .bool] → Heap → Prop} {h0 : Heap} (h : F_slices_partialInsertionSortOrdered_u32 x0 x1 x2 K h0) : HC PG f_slices_partialInsertionSortOrdered_u32 [.slice x0.a x0.len x0.cap, .int .i64 x1, .int .i64 x2] [.c .bool] K h0 := HC.intro Try.mixed Try.func70 rfl Try.call70 (Nat.le_of_ble_eq_true rfl) ((E_slices_partialInsertionSortOrdered_u32 x0 x1 x2 K h0) ▸ h)
/-- slices.partitionEqualOrdered[uint32] -/
def F_slices_partitionEqualOrdered_u32 (x0 : SliceV) (x1 : Int) (x2 : Int) (x3 : Int) (K : (Int) → Heap → Prop) (h0 : Heap) : Prop :=
  (((0 : Int) ≤ x3 ∧ x3 < ((x0.len : Nat) : Int)) ∧ ∃ a1 : Addr, x0.a = some a1 ∧
   ∃ v2 : Int, hcell h0 (adr a1 (x3.toNat * 1)) = some (.int .u32 v2) ∧
   (((0 : Int) ≤ x1 ∧ x1 < ((x0.len : Nat) : Int)) ∧ ∃ a3 : Addr, x0.a = some a3 ∧
    ∃ v4 : Int, hcell h0 (adr a3 (x1.toNat * 1)) = some (.int .u32 v4) ∧
    (((0 : Int) ≤ x1 ∧ x1 < ((x0.len : Nat) : Int)) ∧ ∃ a5 : Addr, x0.a = some a5 ∧
     (Wr h0 (adr a5 (x1.toNat * 1)) ∧
      At (hset h0 (adr a5 (x1.toNat * 1)) (.int .u32 v2)) (fun h6 =>
       (((0 : Int) ≤ x3 ∧ x3 < ((x0.len : Nat) : Int)) ∧ ∃ a7 : Addr, x0.a = some a7 ∧
        (Wr h6 (adr a7 (x3.toNat * 1)) ∧
         At (hset h6 (adr a7 (x3.toNat * 1)) (.int .u32 v4)) (fun h8 =>
          LoopP (fun I9 (t10 : Int × Int) h11 => -- i(9), j(10)
           LoopP (fun I12 (t13 : Int) h14 => -- i(9)
            Join (fun (t22 : Bool) h23 => -- (43)
             CondP t22 (
              I12 (IntKind.wrap .i64 (t13 + 1)) h23) (
              LoopP (fun I24 (t25 : Int) h26 => -- j(10)
               Join (fun (t34 : Bool) h35 => -- (59)
                CondP t34 (
                 I24 (IntKind.wrap .i64 (t25 - 1)) h35) (
                 CondP (decide (t13 > t25)) (
                  K t13 h35) (
                  (((0 : Int) ≤ t25 ∧ t25 < ((x0.len : Nat) : Int)) ∧ ∃ a36 : Addr, x0.a = some a36 ∧
                   ∃ v37 : Int, hcell h35 (adr a36 (t25.toNat * 1)) = some (.int .u32 v37) ∧
                   (((0 : Int) ≤ t13 ∧ t13 < ((x0.len : Nat) : Int)) ∧ ∃ a38 : Addr, x0.a = some a38 ∧
                    ∃ v39 : Int, hcell h35 (adr a38 (t13.toNat * 1)) = some (.int .u32 v39) ∧
                    (((0 : Int) ≤ t13 ∧ t13 < ((x0.len : Nat) : Int)) ∧ ∃ a40 : Addr, x0.a = some a40 ∧
                     (Wr h35 (adr a40 (t13.toNat * 1)) ∧
                      At (hset h35 (adr a40 (t13.toNat * 1)) (.int .u32 v37)) (fun h41 =>
                       (((0 : Int) ≤ t25 ∧ t25 < ((x0.len : Nat) : Int)) ∧ ∃ a42 : Addr, x0.a = some a42 ∧
                        (Wr h41 (adr a42 (t25.toNat * 1)) ∧
                         At (hset h41 (adr a42 (t25.toNat * 1)) (.int .u32 v39)) (fun h43 =>
                          I9 (IntKind.wrap .i64 (t13 + 1), IntKind.wrap .i64 (t25 - 1)) h43))))))))))) (fun J27 =>
                CondP (decide (t13 ≤ t25)) (
                 (((0 : Int) ≤ x1 ∧ x1 < ((x0.len : Nat) : Int)) ∧ ∃ a28 : Addr, x0.a = some a28 ∧
                  ∃ v29 : Int, hcell h26 (adr a28 (x1.toNat * 1)) = some (.int .u32 v29) ∧
                  (((0 : Int) ≤ t25 ∧ t25 < ((x0.len : Nat) : Int)) ∧ ∃ a30 : Addr, x0.a = some a30 ∧
                   ∃ v31 : Int, hcell h26 (adr a30 (t25.toNat * 1)) = some (.int .u32 v31) ∧
                   HC PG f_cmp_Less_u32 [.int .u32 v29, .int .u32 v31] [.c .bool] (fun (e32 : Bool) h33 =>
                    J27 e32 h33) h26))) (
                 J27 false h26))) t10.2 h23)) (fun J15 =>
             CondP (decide (t13 ≤ t10.2)) (
              (((0 : Int) ≤ x1 ∧ x1 < ((x0.len : Nat) : Int)) ∧ ∃ a16 : Addr, x0.a = some a16 ∧
               ∃ v17 : Int, hcell h14 (adr a16 (x1.toNat * 1)) = some (.int .u32 v17) ∧
               (((0 : Int) ≤ t13 ∧ t13 < ((x0.len : Nat) : Int)) ∧ ∃ a18 : Addr, x0.a = some a18 ∧
                ∃ v19 : Int, hcell h14 (adr a18 (t13.toNat * 1)) = some (.int .u32 v19) ∧
                HC PG f_cmp_Less_u32 [.int .u32 v17, .int .u32 v19] [.c .bool] (fun (e20 : Bool) h21 =>
                 J15 (!e20) h21) h14))) (
              J15 false h14))) t10.1 h11) (IntKind.wrap .i64 (x1 + 1), IntKind.wrap .i64 (x2 - 1)) h8))))))))
def A_slices_partitionEqualOrdered_u32 : Ann := .node (.reg [0, 1, 2, 3] (.nil)) (.node (.reg [0, 1, 2] (.draw [.mk 0 65535 1 2048, .mk 0 65535 2 4096, .mk 0 65535 1 8192, .mk 0 65535 8 16384, .mk 0 65535 1 32768, .mk 0 65535 8 65536, .mk 48 65487 98304 131072, .mk 64 65471 131072 262144, .mk 0 65535 1 524288, .mk 0 65535 2 1048576, .mk 768 64767 1572864 2097152, .mk 1024 64511 2097152 4194304, .mk 2291 65532 6144 8388608, .mk 6387 61311 8650752 0, .mk 16383 65523 24576 16777216, .mk 32767 47103 20971520 0] (.take 0 (.take 1 (.take 2 (.take 3 (.take 4 (.take 5 (.take 6 (.take 7 (.take 8 (.take 9 (.take 10 (.take 11 (.take 12 (.all (.last 13 (.take 14 (.all (.last 15 (.done))))))))))))))))))))) (.node (.reg [0, 1, 9, 10] (.nil)) (.node (.loop [0, 1] [(9, .c (.int .i64)), (10, .c (.int .i64))] (.node (.loop [0, 1, 10] [(9, .c (.int .i64))] (.node (.join [0, 1, 9, 10] [(43, .c .bool)] (.reg [0, 1, 9, 10, 43] (.draw [.mk 0 32767 512 536870912, .mk 0 32767 1024 1073741824, .mk 3 32764 1610612736 2147483648, .mk 4 32763 2147483648 4294967296, .mk 8 32759 4294967297 8589934592, .mk 8 32759 4294967298 17179869184, .mk 56 32711 30064771072 34359738368, .mk 72 32695 38654705664 68719476736, .mk 8 32759 4294967297 137438953472, .mk 8 32759 4294967808 274877906944, .mk 776 31991 416611827712 549755813888, .mk 1032 31735 554050781184 1099511627776, .mk 2184 30583 1172526071808 2199023255552, .mk 4104 28663 2203318222848 4398046511104, .mk 8200 24567 4402341478400 8796093022208] (.take 0 (.take 1 (.take 2 (.take 3 (.split 32 (.take 4 (.take 5 (.take 6 (.take 7 (.take 8 (.take 9 (.take 10 (.take 11 (.all (.last 12 (.take 13 (.take 14 (.done))))))))))))) (.take 4 (.take 5 (.take 6 (.take 7 (.take 8 (.take 9 (.take 10 (.take 11 (.take 12 (.take 13 (.take 14 (.done))))))))))))))))))) (.nil)) (.reg [0, 1, 9, 10] (.nil)))) (.node (.loop [0, 1, 9] [(10, .c (.int .i64))] (.node (.join [0, 1, 9, 10] [(59, .c .bool)] (.reg [0, 1, 9, 10, 59] (.draw [.mk 0 16383 512 70368744177664, .mk 0 16383 1024 140737488355328, .mk 3 16380 211106232532992 281474976710656, .mk 4 16379 281474976710656 562949953421312, .mk 8 16375 562949953421313 1125899906842624, .mk 8 16375 562949953421314 2251799813685248, .mk 56 16327 3940649673949184 4503599627370496, .mk 72 16311 5066549580791808 9007199254740992, .mk 8 16375 562949953421313 18014398509481984, .mk 8 16375 562949953422336 36028797018963968, .mk 776 15607 54606145481867264 72057594037927936, .mk 1032 15351 72620543991349248 144115188075855872, .mk 2184 14199 153685337284018176 288230376151711744, .mk 4104 12279 288793326105133056 576460752303423488] (.take 0 (.take 1 (.take 2 (.take 3 (.split 49 (.take 4 (.take 5 (.take 6 (.take 7 (.take 8 (.take 9 (.take 10 (.take 11 (.all (.last 12 (.take 13 (.done)))))))))))) (.take 4 (.take 5 (.take 6 (.take 7 (.take 8 (.take 9 (.take 10 (.take 11 (.take 12 (.take 13 (.done)))))))))))))))))) (.nil)) (.reg [0, 1, 9, 10] (.nil)))) (.node (.node (.reg [0, 1, 9, 10, 64] (.nil)) (.nil)) (.node (.reg [0, 1, 9, 10] (.draw [.mk 0 65535 1 36893488147419103232, .mk 0 65535 512 73786976294838206464, .mk 0 65535 1 147573952589676412928, .mk 0 65535 1024 295147905179352825856, .mk 0 65535 1 590295810358705651712, .mk 0 65535 1024 1180591620717411303424, .mk 48 65487 1770887431076116955136 2361183241434822606848, .mk 64 65471 2361183241434822606848 4722366482869645213696, .mk 0 65535 1 9444732965739290427392, .mk 0 65535 512 18889465931478580854784, .mk 768 64767 28334198897217871282176 37778931862957161709568, .mk 1024 64511 37778931862957161709568 75557863725914323419136, .mk 2291 65532 110680464442257309696 151115727451828646838272, .mk 6387 61311 155838093934698292051968 0, .mk 16383 65523 442721857769029238784 302231454903657293676544, .mk 32767 47103 377789318629571617095680 0] (.take 0 (.take 1 (.take 2 (.take 3 (.take 4 (.take 5 (.take 6 (.take 7 (.take 8 (.take 9 (.take 10 (.take 11 (.take 12 (.all (.last 13 (.take 14 (.all (.last 15 (.done))))))))))))))))))))) (.node (.reg [0, 1, 9, 10] (.nil)) (.reg [0, 1, 9, 10] (.nil)))))))) (.node (.reg [8] (.nil)) (.nil)))))
theorem E_slices_partitionEqualOrdered_u32 (x0 : SliceV) (x1 : Int) (x2 : Int) (x3 : Int) (K : Tup [.c (.int .i64)] → Heap → Prop) (h0 : Heap) : F_slices_partitionEqualOrdered_u32 x0 x1 x2 x3 K h0 = sBody PG Try.f71 (Try.f71.body.getD .skip) A_slices_partitionEqualOrdered_u32 [.slice x0.a x0.len x0.cap, .int .i64 x1, .int .i64 x2, .int .i64 x3] [.c (.int .i64)] K h0 := by kernel_rfl
theorem H_slices_partitionEqualOrdered_u32 (x0 : SliceV) (x1 : Int) (x2 : Int) (x3 : Int) {K : Tup [.c (.int .i64)] → Heap → Prop} {h0 : Heap} (h : F_slices_partitionEqualOrdered_u32 x0 x1 x2 x3 K h0) : HC PG f_slices_partitionEqualOrdered_u32 [.slice x0.a x0.len x0.cap, .int .i64 x1, .int .i64 x2, .int .i64 x3] [.c (.int .i64)] K h0 := HC.intro Try.mixed Try.func71 rfl Try.call71 (Nat.le_of_ble_eq_true rfl) ((E_slices_partitionEqualOrdered_u32 x0 x1 x2 x3 K h0) ▸ h)
/-- slices.partitionOrdered[uint32] -/
def F_slices_partitionOrdered_u32 (x0 : SliceV) (x1 : Int) (x2 : Int) (x3 : Int) (K : (Int × Bool) → Heap → Prop) (h0 : Heap) : Prop :=
  (((0 : Int) ≤ x3 ∧ x3 < ((x0.len : Nat) : Int)) ∧ ∃ a1 : Addr, x0.a = some a1 ∧
   ∃ v2 : Int, hcell h0 (adr a1 (x3.toNat * 1)) = some (.int .u32 v2) ∧
   (((0 : Int) ≤ x1 ∧ x1 < ((x0.len : Nat) : Int)) ∧ ∃ a3 : Addr, x0.a = some a3 ∧
    ∃ v4 : Int, hcell h0 (adr a3 (x1.toNat * 1)) = some (.int .u32 v4) ∧
    (((0 : Int) ≤ x1 ∧ x1 < ((x0.len : Nat) : Int)) ∧ ∃ a5 : Addr, x0.a = some a5 ∧
     (Wr h0 (adr a5 (x1.toNat * 1)) ∧
      At (hset h0 (adr a5 (x1.toNat * 1)) (.int .u32 v2)) (fun h6 =>
       (((0 : Int) ≤ x3 ∧ x3 < ((x0.len : Nat) : Int)) ∧ ∃ a7 : Addr, x0.a = some a7 ∧
        (Wr h6 (adr a7 (x3.toNat * 1)) ∧
         At (hset h6 (adr a7 (x3.toNat * 1)) (.int .u32 v4)) (fun h8 =>
          LoopP (fun I9 (t10 : Int) h11 => -- i(10)
           Join (fun (t19 : Bool) h20 => -- (43)
            CondP t19 (
             I9 (IntKind.wrap .i64 (t10 + 1)) h20) (
             LoopP (fun I21 (t22 : Int) h23 => -- j(11)
              Join (fun (t31 : Bool) h32 => -- (60)
               CondP t31 (
                I21 (IntKind.wrap .i64 (t22 - 1)) h32) (
                CondP (decide (t10 > t22)) (
                 (((0 : Int) ≤ x1 ∧ x1 < ((x0.len : Nat) : Int)) ∧ ∃ a33 : Addr, x0.a = some a33 ∧
                  ∃ v34 : Int, hcell h32 (adr a33 (x1.toNat * 1)) = some (.int .u32 v34) ∧
                  (((0 : Int) ≤ t22 ∧ t22 < ((x0.len : Nat) : Int)) ∧ ∃ a35 : Addr, x0.a = some a35 ∧
                   ∃ v36 : Int, hcell h32 (adr a35 (t22.toNat * 1)) = some (.int .u32 v36) ∧
                   (((0 : Int) ≤ t22 ∧ t22 < ((x0.len : Nat) : Int)) ∧ ∃ a37 : Addr, x0.a = some a37 ∧
                    (Wr h32 (adr a37 (t22.toNat * 1)) ∧
                     At (hset h32 (adr a37 (t22.toNat * 1)) (.int .u32 v34)) (fun h38 =>
                      (((0 : Int) ≤ x1 ∧ x1 < ((x0.len : Nat) : Int)) ∧ ∃ a39 : Addr, x0.a = some a39 ∧
                       (Wr h38 (adr a39 (x1.toNat * 1)) ∧
                        At (hset h38 (adr a39 (x1.toNat * 1)) (.int .u32 v36)) (fun h40 =>
                         K (t22, true) h40))))))))) (
                 (((0 : Int) ≤ t22 ∧ t22 < ((x0.len : Nat) : Int)) ∧ ∃ a41 : Addr, x0.a = some a41 ∧
                  ∃ v42 : Int, hcell h32 (adr a41 (t22.toNat * 1)) = some (.int .u32 v42) ∧
                  (((0 : Int) ≤ t10 ∧ t10 < ((x0.len : Nat) : Int)) ∧ ∃ a43 : Addr, x0.a = some a43 ∧
                   ∃ v44 : Int, hcell h32 (adr a43 (t10.toNat * 1)) = some (.int .u32 v44) ∧
                   (((0 : Int) ≤ t10 ∧ t10 < ((x0.len : Nat) : Int)) ∧ ∃ a45 : Addr, x0.a = some a45 ∧
                    (Wr h32 (adr a45 (t10.toNat * 1)) ∧
                     At (hset h32 (adr a45 (t10.toNat * 1)) (.int .u32 v42)) (fun h46 =>
                      (((0 : Int) ≤ t22 ∧ t22 < ((x0.len : Nat) : Int)) ∧ ∃ a47 : Addr, x0.a = some a47 ∧
                       (Wr h46 (adr a47 (t22.toNat * 1)) ∧
                        At (hset h46 (adr a47 (t22.toNat * 1)) (.int .u32 v44)) (fun h48 =>
                         LoopP (fun I49 (t50 : Int × Int) h51 => -- i(10), j(11)
                          LoopP (fun I52 (t53 : Int) h54 => -- i(10)
                           Join (fun (t62 : Bool) h63 => -- (112)
                            CondP t62 (
                             I52 (IntKind.wrap .i64 (t53 + 1)) h63) (
                             LoopP (fun I64 (t65 : Int) h66 => -- j(11)
                              Join (fun (t74 : Bool) h75 => -- (129)
                               CondP t74 (
                                I64 (IntKind.wrap .i64 (t65 - 1)) h75) (
                                CondP (decide (t53 > t65)) (
                                 (((0 : Int) ≤ x1 ∧ x1 < ((x0.len : Nat) : Int)) ∧ ∃ a76 : Addr, x0.a = some a76 ∧
                                  ∃ v77 : Int, hcell h75 (adr a76 (x1.toNat * 1)) = some (.int .u32 v77) ∧
                                  (((0 : Int) ≤ t65 ∧ t65 < ((x0.len : Nat) : Int)) ∧ ∃ a78 : Addr, x0.a = some a78 ∧
                                   ∃ v79 : Int, hcell h75 (adr a78 (t65.toNat * 1)) = some (.int .u32 v79) ∧
                                   (((0 : Int) ≤ t65 ∧ t65 < ((x0.len : Nat) : Int)) ∧ ∃ a80 : Addr, x0.a = some a80 ∧
                                    (Wr h75 (adr a80 (t65.toNat * 1)) ∧
                                     At (hset h75 (adr a80 (t65.toNat * 1)) (.int .u32 v77)) (fun h81 =>
                                      (((0 : Int) ≤ x1 ∧ x1 < ((x0.len : Nat) : Int)) ∧ ∃ a82 : Addr, x0.a = some a82 ∧
                                       (Wr h81 (adr a82 (x1.toNat * 1)) ∧
                                        At (hset h81 (adr a82 (x1.toNat * 1)) (.int .u32 v79)) (fun h83 =>
                                         K (t65, false) h83))))))))) (
                                 (((0 : Int) ≤ t65 ∧ t65 < ((x0.len : Nat) : Int)) ∧ ∃ a84 : Addr, x0.a = some a84 ∧
                                  ∃ v85 : Int, hcell h75 (adr a84 (t65.toNat * 1)) = some (.int .u32 v85) ∧
                                  (((0 : Int) ≤ t53 ∧ t53 < ((x0.len : Nat) : Int)) ∧ ∃ a86 : Addr, x0.a = some a86 ∧
                                   ∃ v87 : Int, hcell h75 (adr a86 (t53.toNat * 1)) = some (.int .u32 v87) ∧
                                   (((0 : Int) ≤ t53 ∧ t53 < ((x0.len : Nat) : Int)) ∧ ∃ a88 : Addr, x0.a = some a88 ∧
                                    (Wr h75 (adr a88 (t53.toNat * 1)) ∧
                                     At (hset h75 (adr a88 (t53.toNat * 1)) (.int .u32 v85)) (fun h89 =>
                                      (((0 : Int) ≤ t65 ∧ t65 < ((x0.len : Nat) : Int)) ∧ ∃ a90 : Addr, x0.a = some a90 ∧
                                       (Wr h89 (adr a90 (t65.toNat * 1)) ∧
                                        At (hset h89 (adr a90 (t65.toNat * 1)) (.int .u32 v87)) (fun h91 =>
                                         I49 (IntKind.wrap .i64 (t53 + 1), IntKind.wrap .i64 (t65 - 1)) h91))))))))))) (fun J67 =>
                               CondP (decide (t53 ≤ t65)) (
                                (((0 : Int) ≤ t65 ∧ t65 < ((x0.len : Nat) : Int)) ∧ ∃ a68 : Addr, x0.a = some a68 ∧
                                 ∃ v69 : Int, hcell h66 (adr a68 (t65.toNat * 1)) = some (.int .u32 v69) ∧
                                 (((0 : Int) ≤ x1 ∧ x1 < ((x0.len : Nat) : Int)) ∧ ∃ a70 : Addr, x0.a = some a70 ∧
                                  ∃ v71 : Int, hcell h66 (adr a70 (x1.toNat * 1)) = some (.int .u32 v71) ∧
                                  HC PG f_cmp_Less_u32 [.int .u32 v69, .int .u32 v71] [.c .bool] (fun (e72 : Bool) h73 =>
                                   J67 (!e72) h73) h66))) (
                                J67 false h66))) t50.2 h63)) (fun J55 =>
                            CondP (decide (t53 ≤ t50.2)) (
                             (((0 : Int) ≤ t53 ∧ t53 < ((x0.len : Nat) : Int)) ∧ ∃ a56 : Addr, x0.a = some a56 ∧
                              ∃ v57 : Int, hcell h54 (adr a56 (t53.toNat * 1)) = some (.int .u32 v57) ∧
                              (((0 : Int) ≤ x1 ∧ x1 < ((x0.len : Nat) : Int)) ∧ ∃ a58 : Addr, x0.a = some a58 ∧
                               ∃ v59 : Int, hcell h54 (adr a58 (x1.toNat * 1)) = some (.int .u32 v59) ∧
                               HC PG f_cmp_Less_u32 [.int .u32 v57, .int .u32 v59] [.c .bool] (fun (e60 : Bool) h61 =>
                                J55 e60 h61) h54))) (
                             J55 false h54))) t50.1 h51) (IntKind.wrap .i64 (t10 + 1), IntKind.wrap .i64 (t22 - 1)) h48))))))))))) (fun J24 =>
               CondP (decide (t10 ≤ t22)) (
                (((0 : Int) ≤ t22 ∧ t22 < ((x0.len : Nat) : Int)) ∧ ∃ a25 : Addr, x0.a = some a25 ∧
                 ∃ v26 : Int, hcell h23 (adr a25 (t22.toNat * 1)) = some (.int .u32 v26) ∧
                 (((0 : Int) ≤ x1 ∧ x1 < ((x0.len : Nat) : Int)) ∧ ∃ a27 : Addr, x0.a = some a27 ∧
                  ∃ v28 : Int, hcell h23 (adr a27 (x1.toNat * 1)) = some (.int .u32 v28) ∧
                  HC PG f_cmp_Less_u32 [.int .u32 v26, .int .u32 v28] [.c .bool] (fun (e29 : Bool) h30 =>
                   J24 (!e29) h30) h23))) (
                J24 false h23))) (IntKind.wrap .i64 (x2 - 1)) h20)) (fun J12 =>
            CondP (decide (t10 ≤ (IntKind.wrap .i64 (x2 - 1)))) (
             (((0 : Int) ≤ t10 ∧ t10 < ((x0.len : Nat) : Int)) ∧ ∃ a13 : Addr, x0.a = some a13 ∧
              ∃ v14 : Int, hcell h11 (adr a13 (t10.toNat * 1)) = some (.int .u32 v14) ∧
              (((0 : Int) ≤ x1 ∧ x1 < ((x0.len : Nat) : Int)) ∧ ∃ a15 : Addr, x0.a = some a15 ∧
               ∃ v16 : Int, hcell h11 (adr a15 (x1.toNat * 1)) = some (.int .u32 v16) ∧
               HC PG f_cmp_Less_u32 [.int .u32 v14, .int .u32 v16] [.c .bool] (fun (e17 : Bool) h18 =>
                J12 e17 h18) h11))) (
             J12 false h11))) (IntKind.wrap .i64 (x1 + 1)) h8))))))))
def A_slices_partitionOrdered_u32 : Ann := .node (.reg [0, 1, 2, 3] (.nil)) (.node (.reg [0, 1, 2] (.draw [.mk 0 65535 1 4096, .mk 0 65535 2 8192, .mk 0 65535 1 16384, .mk 0 65535 8 32768, .mk 0 65535 1 65536, .mk 0 65535 8 131072, .mk 48 65487 196608 262144, .mk 64 65471 262144 524288, .mk 0 65535 1 1048576, .mk 0 65535 2 2097152, .mk 768 64767 3145728 4194304, .mk 1024 64511 4194304 8388608, .mk 2291 65532 12288 16777216, .mk 6387 61311 17301504 0, .mk 16383 65523 49152 33554432, .mk 32767 47103 41943040 0] (.take 0 (.take 1 (.take 2 (.take 3 (.take 4 (.take 5 (.take 6 (.take 7 (.take 8 (.take 9 (.take 10 (.take 11 (.take 12 (.all (.last 13 (.take 14 (.all (.last 15 (.done))))))))))))))))))))) (.node (.reg [0, 1, 10, 11] (.nil)) (.node (.loop [0, 1, 11] [(10, .c (.int .i64))] (.node (.join [0, 1, 10, 11] [(43, .c .bool)] (.reg [0, 1, 10, 11, 43] (.draw [.mk 0 16383 1024 1073741824, .mk 0 16383 2048 2147483648, .mk 3 16380 3221225472 4294967296, .mk 4 16379 4294967296 8589934592, .mk 8 16375 8589934593 17179869184, .mk 8 16375 8589935616 34359738368, .mk 56 16327 60129542144 68719476736, .mk 72 16311 77309411328 137438953472, .mk 8 16375 8589934593 274877906944, .mk 8 16375 8589934594 549755813888, .mk 776 15607 833223655424 1099511627776, .mk 1032 15351 1108101562368 2199023255552, .mk 2184 14199 2345052143616 4398046511104, .mk 4104 12279 4406636445696 8796093022208] (.take 0 (.take 1 (.take 2 (.take 3 (.split 33 (.take 4 (.take 5 (.take 6 (.take 7 (.take 8 (.take 9 (.take 10 (.take 11 (.all (.last 12 (.take 13 (.done)))))))))))) (.take 4 (.take 5 (.take 6 (.take 7 (.take 8 (.take 9 (.take 10 (.take 11 (.take 12 (.take 13 (.done)))))))))))))))))) (.nil)) (.reg [0, 1, 10, 11] (.nil)))) (.node (.loop [0, 1, 10] [(11, .c (.int .i64))] (.node (.join [0, 1, 10, 11] [(60, .c .bool)] (.reg [0, 1, 10, 11, 60] (.draw [.mk 0 32767 1024 70368744177664, .mk 0 32767 2048 140737488355328, .mk 3 32764 211106232532992 281474976710656, .mk 4 32763 281474976710656 562949953421312, .mk 8 32759 562949953421313 1125899906842624, .mk 8 32759 562949953423360 2251799813685248, .mk 56 32711 3940649673949184 4503599627370496, .mk 72 32695 5066549580791808 9007199254740992, .mk 8 32759 562949953421313 18014398509481984, .mk 8 32759 562949953421314 36028797018963968, .mk 776 31991 54606145481867264 72057594037927936, .mk 1032 31735 72620543991349248 144115188075855872, .mk 2184 30583 153685337284018176 288230376151711744, .mk 4104 28663 288793326105133056 576460752303423488, .mk 8200 24567 577023702256844800 1152921504606846976] (.take 0 (.take 1 (.take 2 (.take 3 (.split 49 (.take 4 (.take 5 (.take 6 (.take 7 (.take 8 (.take 9 (.take 10 (.take 11 (.all (.last 12 (.take 13 (.take 14 (.done))))))))))))) (.take 4 (.take 5 (.take 6 (.take 7 (.take 8 (.take 9 (.take 10 (.take 11 (.take 12 (.take 13 (.take 14 (.done))))))))))))))))))) (.nil)) (.reg [0, 1, 10, 11] (.nil)))) (.node (.node (.reg [0, 1, 10, 11, 65] (.nil)) (.node (.node (.reg [11] (.draw [.mk 0 65535 1 73786976294838206464, .mk 0 65535 2048 147573952589676412928, .mk 0 65535 1 295147905179352825856, .mk 0 65535 2 590295810358705651712, .mk 0 65535 1 1180591620717411303424, .mk 0 65535 2 2361183241434822606848, .mk 48 65487 3541774862152233910272 4722366482869645213696, .mk 64 65471 4722366482869645213696 9444732965739290427392, .mk 0 65535 1 18889465931478580854784, .mk 0 65535 2048 37778931862957161709568, .mk 768 64767 56668397794435742564352 75557863725914323419136, .mk 1024 64511 75557863725914323419136 151115727451828646838272, .mk 2291 65532 221360928884514619392 302231454903657293676544, .mk 6387 61311 311676187869396584103936 0, .mk 16383 65523 885443715538058477568 604462909807314587353088, .mk 32767 47103 755578637259143234191360 0] (.take 0 (.take 1 (.take 2 (.take 3 (.take 4 (.take 5 (.take 6 (.take 7 (.take 8 (.take 9 (.take 10 (.take 11 (.take 12 (.all (.last 13 (.take 14 (.all (.last 15 (.done))))))))))))))))))))) (.node (.reg [8, 9] (.nil)) (.nil))) (.nil))) (.node (.reg [0, 1, 10, 11] (.draw [.mk 0 65535 1 2417851639229258349412352, .mk 0 65535 1024 4835703278458516698824704, .mk 0 65535 1 9671406556917033397649408, .mk 0 65535 2048 19342813113834066795298816, .mk 0 65535 1 38685626227668133590597632, .mk 0 65535 2048 77371252455336267181195264, .mk 48 65487 116056878683004400771792896 154742504910672534362390528, .mk 64 65471 154742504910672534362390528 309485009821345068724781056, .mk 0 65535 1 618970019642690137449562112, .mk 0 65535 1024 1237940039285380274899124224, .mk 768 64767 1856910058928070412348686336 2475880078570760549798248448, .mk 1024 64511 2475880078570760549798248448 4951760157141521099596496896, .mk 2291 65532 7253554917687775048237056 9903520314283042199192993792, .mk 6387 61311 10213005324104387267917774848 0, .mk 16383 65523 29014219670751100192948224 19807040628566084398385987584, .mk 32767 47103 24758800785707605497982484480 0] (.take 0 (.take 1 (.take 2 (.take 3 (.take 4 (.take 5 (.take 6 (.take 7 (.take 8 (.take 9 (.take 10 (.take 11 (.take 12 (.all (.last 13 (.take 14 (.all (.last 15 (.done))))))))))))))))))))) (.node (.reg [0, 1, 10, 11] (.nil)) (.node (.reg [0, 1, 10, 11] (.nil)) (.node (.loop [0, 1] [(10, .c (.int .i64)), (11, .c (.int .i64))] (.node (.loop [0, 1, 11] [(10, .c (.int .i64))] (.node (.join [0, 1, 10, 11] [(112, .c .bool)] (.reg [0, 1, 10, 11, 112] (.draw [.mk 0 16383 1024 633825300114114700748351602688, .mk 0 16383 2048 1267650600228229401496703205376, .mk 3 16380 1901475900342344102245054808064 2535301200456458802993406410752, .mk 4 16379 2535301200456458802993406410752 5070602400912917605986812821504, .mk 8 16375 5070602400912917605986812821505 10141204801825835211973625643008, .mk 8 16375 5070602400912917605986812822528 20282409603651670423947251286016, .mk 56 16327 35494216806390423241907689750528 40564819207303340847894502572032, .mk 72 16311 45635421608216258453881315393536 81129638414606681695789005144064, .mk 8 16375 5070602400912917605986812821505 162259276829213363391578010288128, .mk 8 16375 5070602400912917605986812821506 324518553658426726783156020576256, .mk 776 15607 491848432888553007780720843685888 649037107316853453566312041152512, .mk 1032 15351 654107709717766371172298853974016 1298074214633706907132624082305024, .mk 2184 14199 1384274455449226506434399900270592 2596148429267413814265248164610048, .mk 4104 12279 2601219031668326731871234977431552 5192296858534827628530496329220096] (.take 0 (.take 1 (.take 2 (.take 3 (.split 102 (.take 4 (.take 5 (.take 6 (.take 7 (.take 8 (.take 9 (.take 10 (.take 11 (.all (.last 12 (.take 13 (.done)))))))))))) (.take 4 (.take 5 (.take 6 (.take 7 (.take 8 (.take 9 (.take 10 (.take 11 (.take 12 (.take 13 (.done)))))))))))))))))) (.nil)) (.reg [0, 1, 10, 11] (.nil)))) (.node (.loop [0, 1, 10] [(11, .c (.int .i64))] (.node (.join [0, 1, 10, 11] [(129, .c .bool)] (.reg [0, 1, 10, 11, 129] (.draw [.mk 0 32767 1024 41538374868278621028243970633760768, .mk 0 32767 2048 83076749736557242056487941267521536, .mk 3 32764 124615124604835863084731911901282304 166153499473114484112975882535043072, .mk 4 32763 166153499473114484112975882535043072 332306998946228968225951765070086144, .mk 8 32759 332306998946228968225951765070086145 664613997892457936451903530140172288, .mk 8 32759 332306998946228968225951765070088192 1329227995784915872903807060280344576, .mk 56 32711 2326148992623602777581662355490603008 2658455991569831745807614120560689152, .mk 72 32695 2990762990516060714033565885630775296 5316911983139663491615228241121378304, .mk 8 32759 332306998946228968225951765070086145 10633823966279326983230456482242756608, .mk 8 32759 332306998946228968225951765070086146 21267647932558653966460912964485513216, .mk 776 31991 32233778897784209917917321211798355968 42535295865117307932921825928971026432, .mk 1032 31735 42867602864063536901147777694041112576 85070591730234615865843651857942052864, .mk 2184 30583 90719810712320508325684831864133517312 170141183460469231731687303715884105728, .mk 4104 28663 170473490459415460699913255480954191872 340282366920938463463374607431768211456, .mk 8200 24567 340614673919884692431600559196838297600 680564733841876926926749214863536422912] (.take 0 (.take 1 (.take 2 (.take 3 (.split 118 (.take 4 (.take 5 (.take 6 (.take 7 (.take 8 (.take 9 (.take 10 (.take 11 (.all (.last 12 (.take 13 (.take 14 (.done))))))))))))) (.take 4 (.take 5 (.take 6 (.take 7 (.take 8 (.take 9 (.take 10 (.take 11 (.take 12 (.take 13 (.take 14 (.done))))))))))))))))))) (.nil)) (.reg [0, 1, 10, 11] (.nil)))) (.node (.node (.reg [0, 1, 10, 11, 134] (.nil)) (.nil)) (.node (.reg [0, 1, 10, 11] (.draw [.mk 0 65535 1 43556142965880123323311949751266331066368, .mk 0 65535 1024 87112285931760246646623899502532662132736, .mk 0 65535 1 174224571863520493293247799005065324265472, .mk 0 65535 2048 348449143727040986586495598010130648530944, .mk 0 65535 1 696898287454081973172991196020261297061888, .mk 0 65535 2048 1393796574908163946345982392040522594123776, .mk 48 65487 2090694862362245919518973588060783891185664 2787593149816327892691964784081045188247552, .mk 64 65471 2787593149816327892691964784081045188247552 5575186299632655785383929568162090376495104, .mk 0 65535 1 11150372599265311570767859136324180752990208, .mk 0 65535 1024 22300745198530623141535718272648361505980416, .mk 768 64767 33451117797795934712303577408972542258970624 44601490397061246283071436545296723011960832, .mk 1024 64511 44601490397061246283071436545296723011960832 89202980794122492566142873090593446023921664, .mk 2291 65532 130668428897640369969935849253798993199104 178405961588244985132285746181186892047843328, .mk 6387 61311 183981147887877640917669675749348982424338432 0, .mk 16383 65523 522673715590561479879743397015195972796416 356811923176489970264571492362373784095686656, .mk 32767 47103 446014903970612462830714365452967230119608320 0] (.take 0 (.take 1 (.take 2 (.take 3 (.take 4 (.take 5 (.take 6 (.take 7 (.take 8 (.take 9 (.take 10 (.take 11 (.take 12 (.all (.last 13 (.take 14 (.all (.last 15 (.done))))))))))))))))))))) (.node (.reg [0, 1, 10, 11] (.nil)) (.reg [0, 1, 10, 11] (.nil)))))))) (.node (.reg [11] (.draw [.mk 0 65535 1 11417981541647679048466287755595961091061972992, .mk 0 65535 2048 22835963083295358096932575511191922182123945984, .mk 0 65535 1 45671926166590716193865151022383844364247891968, .mk 0 65535 2 91343852333181432387730302044767688728495783936, .mk 0 65535 1 182687704666362864775460604089535377456991567872, .mk 0 65535 2 365375409332725729550921208179070754913983135744, .mk 48 65487 548063113999088594326381812268606132370974703616 730750818665451459101842416358141509827966271488, .mk 64 65471 730750818665451459101842416358141509827966271488 1461501637330902918203684832716283019655932542976, .mk 0 65535 1 2923003274661805836407369665432566039311865085952, .mk 0 65535 2048 5846006549323611672814739330865132078623730171904, .mk 768 64767 8769009823985417509222108996297698117935595257856 11692013098647223345629478661730264157247460343808, .mk 1024 64511 11692013098647223345629478661730264157247460343808 23384026197294446691258957323460528314494920687616, .mk 2291 65532 34253944624943037145398863266787883273185918976 46768052394588893382517914646921056628989841375232, .mk 6387 61311 48229554031919796300721599479637339648645773918208 0, .mk 16383 65523 137015778499772148581595453067151533092743675904 93536104789177786765035829293842113257979682750464, .mk 32767 47103 116920130986472233456294786617302641572474603438080 0] (.take 0 (.take 1 (.take 2 (.take 3 (.take 4 (.take 5 (.take 6 (.take 7 (.take 8 (.take 9 (.take 10 (.take 11 (.take 12 (.all (.last 13 (.take 14 (.all (.last 15 (.done))))))))))))))))))))) (.node (.reg [8, 9] (.nil)) (.nil))))))))))))
theorem E_slices_partitionOrdered_u32 (x0 : SliceV) (x1 : Int) (x2 : Int) (x3 : Int) (K : Tup [.c (.int .i64), .c .bool] → Heap → Prop) (h0 : Heap) : F_slices_partitionOrdered_u32 x0 x1 x2 x3 K h0 = sBody PG Try.f72 (Try.f72.body.getD .skip) A_slices_partitionOrdered_u32 [.slice x0.a x0.len x0.cap, .int .i64 x1, .int .i64 x2, .int .i64 x3] [.c (.int .i64), .c .bool] K h0 := by kernel_rfl
theorem H_slices_partitionOrdered_u32 (x0 : SliceV) (x1 : Int) (x2 : Int) (x3 : Int) {K : Tup [.c (.int .i64), .c .bool] → Heap → Prop} {h0 : Heap} (h : F_slices_partitionOrdered_u32 x0 x1 x2 x3 K h0) : HC PG f_slices_partitionOrdered_u32 [.slice x0.a x0.len x0.cap, .int .i64 x1, .int .i64 x2, .int .i64 x3] [.c (.int .i64), .c .bool] K h0 := HC.intro Try.mixed Try.func72 rfl Try.call72 (Nat.le_of_ble_eq_true rfl) ((E_slices_partitionOrdered_u32 x0 x1 x2 x3 K h0) ▸ h)
/-- math/bits.Len32 -/
def F_math_bits_Len32 (x0 : Int) (K : (Int) → Heap → Prop) (h0 : Heap) : Prop :=
  Join (fun (t2 : Int × Int) h3 => -- x(0), n(2)
   Join (fun (t5 : Int × Int) h6 => -- x(0), n(2)
    ∃ b7 : UInt8, (0 : Int) ≤ (IntKind.wrap .u8 t5.1) ∧ (⟨#[0, 1, 2, 2, 3, 3, 3, 3, 4, 4, 4, 4, 4, 4, 4, 4, 5, 5, 5, 5, 5, 5, 5, 5, 5, 5, 5, 5, 5, 5, 5, 5, 6, 6, 6, 6, 6, 6, 6, 6, 6, 6, 6, 6, 6, 6, 6, 6, 6, 6, 6, 6, 6, 6, 6, 6, 6, 6, 6, 6, 6, 6, 6, 6, 7, 7, 7, 7, 7, 7, 7, 7, 7, 7, 7, 7, 7, 7, 7, 7, 7, 7, 7, 7, 7, 7, 7, 7, 7, 7, 7, 7, 7, 7, 7, 7, 7, 7, 7, 7, 7, 7, 7, 7, 7, 7, 7, 7, 7, 7, 7, 7, 7, 7, 7, 7, 7, 7, 7, 7, 7, 7, 7, 7, 7, 7, 7, 7, 8, 8, 8, 8, 8, 8, 8, 8, 8, 8, 8, 8, 8, 8, 8, 8, 8, 8, 8, 8, 8, 8, 8, 8, 8, 8, 8, 8, 8, 8, 8, 8, 8, 8, 8, 8, 8, 8, 8, 8, 8, 8, 8, 8, 8, 8, 8, 8, 8, 8, 8, 8, 8, 8, 8, 8, 8, 8, 8, 8, 8, 8, 8, 8, 8, 8, 8, 8, 8, 8, 8, 8, 8, 8, 8, 8, 8, 8, 8, 8, 8, 8, 8, 8, 8, 8, 8, 8, 8, 8, 8, 8, 8, 8, 8, 8, 8, 8, 8, 8, 8, 8, 8, 8, 8, 8, 8, 8, 8, 8, 8, 8, 8, 8, 8, 8, 8, 8, 8, 8, 8, 8, 8, 8, 8, 8, 8, 8]⟩ : ByteArray)[(IntKind.wrap .u8 t5.1).toNat]? = some b7 ∧
    K (IntKind.wrap .i64 (t5.2 + (IntKind.wrap .i64 (b7.toNat : Int)))) h6) (fun J4 =>
    CondP (decide (t2.1 ≥ (256 : Int))) (
     ((0 : Int) ≤ (8 : Int) ∧
      J4 (Int.fdiv t2.1 (2 ^ (min (8 : Int).toNat (IntKind.bits .u32))), IntKind.wrap .i64 (t2.2 + 8)) h3)) (
     J4 (t2.1, t2.2) h3))) (fun J1 =>
   CondP (decide (x0 ≥ (65536 : Int))) (
    ((0 : Int) ≤ (16 : Int) ∧
     J1 (Int.fdiv x0 (2 ^ (min (16 : Int).toNat (IntKind.bits .u32))), 16) h0)) (
    J1 (x0, 0) h0))
def A_math_bits_Len32 : Ann := .node (.reg [0, 2] (.nil)) (.join [] [(0, .c (.int .u32)), (2, .c (.int .i64))] (.node (.reg [0, 2, 4] (.nil)) (.node (.node (.reg [0] (.nil)) (.reg [0, 2] (.nil))) (.nil))) (.join [] [(0, .c (.int .u32)), (2, .c (.int .i64))] (.node (.reg [0, 2, 8] (.nil)) (.node (.node (.reg [0, 2] (.nil)) (.reg [0, 2] (.nil))) (.nil))) (.node (.reg [2] (.nil)) (.nil))))
theorem E_math_bits_Len32 (x0 : Int) (K : Tup [.c (.int .i64)] → Heap → Prop) (h0 : Heap) : F_math_bits_Len32 x0 K h0 = sBody PG Try.f73 (Try.f73.body.getD .skip) A_math_bits_Len32 [.int .u32 x0] [.c (.int .i64)] K h0 := by kernel_rfl
theorem H_math_bits_Len32 (x0 : Int) {K : Tup [.c (.int .i64)] → Heap → Prop} {h0 : Heap} (h : F_math_bits_Len32 x0 K h0) : HC PG f_math_bits_Len32 [.int .u32 x0] [.c (.int .i64)] K h0 := HC.intro Try.mixed Try.func73 rfl Try.call73 (Nat.le_of_ble_eq_true rfl) ((E_math_bits_Len32 x0 K h0) ▸ h)
/-- math/bits.Len64 -/
def F_math_bits_Len64 (x0 : Int) (K : (Int) → Heap → Prop) (h0 : Heap) : Prop :=
  Join (fun (t2 : Int × Int) h3 => -- x(0), n(2)
   Join (fun (t5 : Int × Int) h6 => -- x(0), n(2)
    Join (fun (t8 : Int × Int) h9 => -- x(0), n(2)
     ∃ b10 : UInt8, (0 : Int) ≤ (IntKind.wrap .u8 t8.1) ∧ (⟨#[0, 1, 2, 2, 3, 3, 3, 3, 4, 4, 4, 4, 4, 4, 4, 4, 5, 5, 5, 5, 5, 5, 5, 5, 5, 5, 5, 5, 5, 5, 5, 5, 6, 6, 6, 6, 6, 6, 6, 6, 6, 6, 6, 6, 6, 6, 6, 6, 6, 6, 6, 6, 6, 6, 6, 6, 6, 6, 6, 6, 6, 6, 6, 6, 7, 7, 7, 7, 7, 7, 7, 7, 7, 7, 7, 7, 7, 7, 7, 7, 7, 7, 7, 7, 7, 7, 7, 7, 7, 7, 7, 7, 7, 7, 7, 7, 7, 7, 7, 7, 7, 7, 7, 7, 7, 7, 7, 7, 7, 7, 7, 7, 7, 7, 7, 7, 7, 7, 7, 7, 7, 7, 7, 7, 7, 7, 7, 7, 8, 8, 8, 8, 8, 8, 8, 8, 8, 8, 8, 8, 8, 8, 8, 8, 8, 8, 8, 8, 8, 8, 8, 8, 8, 8, 8, 8, 8, 8, 8, 8, 8, 8, 8, 8, 8, 8, 8, 8, 8, 8, 8, 8, 8, 8, 8, 8, 8, 8, 8, 8, 8, 8, 8, 8, 8, 8, 8, 8, 8, 8, 8, 8, 8, 8, 8, 8, 8, 8, 8, 8, 8, 8, 8, 8, 8, 8, 8, 8, 8, 8, 8, 8, 8, 8, 8, 8, 8, 8, 8, 8, 8, 8, 8, 8, 8, 8, 8, 8, 8, 8, 8, 8, 8, 8, 8, 8, 8, 8, 8, 8, 8, 8, 8, 8, 8, 8, 8, 8, 8, 8, 8, 8, 8, 8, 8, 8]⟩ : ByteArray)[(IntKind.wrap .u8 t8.1).toNat]? = some b10 ∧
     K (IntKind.wrap .i64 (t8.2 + (IntKind.wrap .i64 (b10.toNat : Int)))) h9) (fun J7 =>
     CondP (decide (t5.1 ≥ (256 : Int))) (
      ((0 : Int) ≤ (8 : Int) ∧
       J7 (Int.fdiv t5.1 (2 ^ (min (8 : Int).toNat (IntKind.bits .u64))), IntKind.wrap .i64 (t5.2 + 8)) h6)) (
      J7 (t5.1, t5.2) h6))) (fun J4 =>
    CondP (decide (t2.1 ≥ (65536 : Int))) (
     ((0 : Int) ≤ (16 : Int) ∧
      J4 (Int.fdiv t2.1 (2 ^ (min (16 : Int).toNat (IntKind.bits .u64))), IntKind.wrap .i64 (t2.2 + 16)) h3)) (
     J4 (t2.1, t2.2) h3))) (fun J1 =>
   CondP (decide (x0 ≥ (4294967296 : Int))) (
    ((0 : Int) ≤ (32 : Int) ∧
     J1 (Int.fdiv x0 (2 ^ (min (32 : Int).toNat (IntKind.bits .u64))), 32) h0)) (
    J1 (x0, 0) h0))
def A_math_bits_Len64 : Ann := .node (.reg [0, 2] (.nil)) (.join [] [(0, .c (.int .u64)), (2, .c (.int .i64))] (.node (.reg [0, 2, 4] (.nil)) (.node (.node (.reg [0] (.nil)) (.reg [0, 2] (.nil))) (.nil))) (.join [] [(0, .c (.int .u64)), (2, .c (.int .i64))] (.node (.reg [0, 2, 8] (.nil)) (.node (.node (.reg [0, 2] (.nil)) (.reg [0, 2] (.nil))) (.nil))) (.join [] [(0, .c (.int .u64)), (2, .c (.int .i64))] (.node (.reg [0, 2, 14] (.nil)) (.node (.node (.reg [0, 2] (.nil)) (.reg [0, 2] (.nil))) (.nil))) (.node (.reg [2] (.nil)) (.nil)))))
theorem E_math_bits_Len64 (x0 : Int) (K : Tup [.c (.int .i64)] → Heap → Prop) (h0 : Heap) : F_math_bits_Len64 x0 K h0 = sBody PG Try.f74 (Try.f74.body.getD .skip) A_math_bits_Len64 [.int .u64 x0] [.c (.int .i64)] K h0 := by kernel_rfl
theorem H_math_bits_Len64 (x0 : Int) {K : Tup [.c (.int .i64)] → Heap → Prop} {h0 : Heap} (h : F_math_bits_Len64 x0 K h0) : HC PG f_math_bits_Len64 [.int .u64 x0] [.c (.int .i64)] K h0 := HC.intro Try.mixed Try.func74 rfl Try.call74 (Nat.le_of_ble_eq_true rfl) ((E_math_bits_Len64 x0 K h0) ▸ h)
/-- slices.siftDownOrdered[uint32] -/
def F_slices_siftDownOrdered_u32 (x0 : SliceV) (x1 : Int) (x2 : Int) (x3 : Int) (K : (Unit) → Heap → Prop) (h0 : Heap) : Prop :=
  LoopP (fun I1 (t2 : Int) h3 => -- root(8)
   CondP (decide ((IntKind.wrap .i64 ((IntKind.wrap .i64 (2 * t2)) + 1)) ≥ x2)) (
    K () h3) (
    Join (fun (t18 : Int) h19 => -- child(9)
     (((0 : Int) ≤ (IntKind.wrap .i64 (x3 + t2)) ∧ (IntKind.wrap .i64 (x3 + t2)) < ((x0.len : Nat) : Int)) ∧ ∃ a20 : Addr, x0.a = some a20 ∧
      ∃ v21 : Int, hcell h19 (adr a20 ((IntKind.wrap .i64 (x3 + t2)).toNat * 1)) = some (.int .u32 v21) ∧
      (((0 : Int) ≤ (IntKind.wrap .i64 (x3 + t18)) ∧ (IntKind.wrap .i64 (x3 + t18)) < ((x0.len : Nat) : Int)) ∧ ∃ a22 : Addr, x0.a = some a22 ∧
       ∃ v23 : Int, hcell h19 (adr a22 ((IntKind.wrap .i64 (x3 + t18)).toNat * 1)) = some (.int .u32 v23) ∧
       HC PG f_cmp_Less_u32 [.int .u32 v21, .int .u32 v23] [.c .bool] (fun (e24 : Bool) h25 =>
        CondP (!e24) (
         K () h25) (
         (((0 : Int) ≤ (IntKind.wrap .i64 (x3 + t18)) ∧ (IntKind.wrap .i64 (x3 + t18)) < ((x0.len : Nat) : Int)) ∧ ∃ a26 : Addr, x0.a = some a26 ∧
          ∃ v27 : Int, hcell h25 (adr a26 ((IntKind.wrap .i64 (x3 + t18)).toNat * 1)) = some (.int .u32 v27) ∧
          (((0 : Int) ≤ (IntKind.wrap .i64 (x3 + t2)) ∧ (IntKind.wrap .i64 (x3 + t2)) < ((x0.len : Nat) : Int)) ∧ ∃ a28 : Addr, x0.a = some a28 ∧
           ∃ v29 : Int, hcell h25 (adr a28 ((IntKind.wrap .i64 (x3 + t2)).toNat * 1)) = some (.int .u32 v29) ∧
           (((0 : Int) ≤ (IntKind.wrap .i64 (x3 + t2)) ∧ (IntKind.wrap .i64 (x3 + t2)) < ((x0.len : Nat) : Int)) ∧ ∃ a30 : Addr, x0.a = some a30 ∧
            (Wr h25 (adr a30 ((IntKind.wrap .i64 (x3 + t2)).toNat * 1)) ∧
             At (hset h25 (adr a30 ((IntKind.wrap .i64 (x3 + t2)).toNat * 1)) (.int .u32 v27)) (fun h31 =>
              (((0 : Int) ≤ (IntKind.wrap .i64 (x3 + t18)) ∧ (IntKind.wrap .i64 (x3 + t18)) < ((x0.len : Nat) : Int)) ∧ ∃ a32 : Addr, x0.a = some a32 ∧
               (Wr h31 (adr a32 ((IntKind.wrap .i64 (x3 + t18)).toNat * 1)) ∧
                At (hset h31 (adr a32 ((IntKind.wrap .i64 (x3 + t18)).toNat * 1)) (.int .u32 v29)) (fun h33 =>
                 I1 t18 h33)))))))))) h19))) (fun J4 =>
     Join (fun (t15 : Bool) h16 => -- (36)
      CondP t15 (
       Bd (IntKind.wrap .i64 ((IntKind.wrap .i64 ((IntKind.wrap .i64 (2 * t2)) + 1)) + 1) : Int) (fun n17 =>
        J4 n17 h16)) (
       J4 (IntKind.wrap .i64 ((IntKind.wrap .i64 (2 * t2)) + 1)) h16)) (fun J5 =>
      Bd (IntKind.wrap .i64 ((IntKind.wrap .i64 ((IntKind.wrap .i64 (2 * t2)) + 1)) + 1) : Int) (fun n6 =>
       CondP (decide (n6 < x2)) (
        Bd (IntKind.wrap .i64 (x3 + (IntKind.wrap .i64 ((IntKind.wrap .i64 (2 * t2)) + 1))) : Int) (fun n7 =>
         (((0 : Int) ≤ n7 ∧ n7 < ((x0.len : Nat) : Int)) ∧ ∃ a8 : Addr, x0.a = some a8 ∧
          ∃ v9 : Int, hcell h3 (adr a8 (n7.toNat * 1)) = some (.int .u32 v9) ∧
          Bd (IntKind.wrap .i64 (x3 + (IntKind.wrap .i64 ((IntKind.wrap .i64 (2 * t2)) + 1))) : Int) (fun n10 =>
           (((0 : Int) ≤ (IntKind.wrap .i64 (n10 + 1)) ∧ (IntKind.wrap .i64 (n10 + 1)) < ((x0.len : Nat) : Int)) ∧ ∃ a11 : Addr, x0.a = some a11 ∧
            ∃ v12 : Int, hcell h3 (adr a11 ((IntKind.wrap .i64 (n10 + 1)).toNat * 1)) = some (.int .u32 v12) ∧
            HC PG f_cmp_Less_u32 [.int .u32 v9, .int .u32 v12] [.c .bool] (fun (e13 : Bool) h14 =>
             J5 e13 h14) h3))))) (
        J5 false h3)))))) x1 h0
def A_slices_siftDownOrdered_u32 : Ann := .node (.reg [0, 2, 3, 8] (.nil)) (.loop [0, 2, 3] [(8, .c (.int .i64))] (.node (.reg [0, 2, 3, 8, 9] (.nil)) (.node (.node (.reg [0, 2, 3, 8, 9, 16] (.nil)) (.nil)) (.join [0, 2, 3, 8] [(9, .c (.int .i64))] (.join [0, 2, 3, 8, 9] [(36, .c .bool)] (.reg [0, 2, 3, 8, 9, 36] (.draw [.mk 0 1048575 512 131072, .mk 1 1048574 131072 262144, .mk 0 1048575 4 524288, .mk 6 1048569 786432 1048576, .mk 8 1048567 1048576 2097152, .mk 16 1048559 2097153 4194304, .mk 16 1048559 2097160 8388608, .mk 16 1048559 2097664 16777216, .mk 208 1048367 27262976 33554432, .mk 304 1048271 39845888 67108864, .mk 528 1048047 69206016 134217728, .mk 16 1048559 2097153 268435456, .mk 16 1048559 2097160 536870912, .mk 16 1048559 2097664 1073741824, .mk 12304 1036271 1612709888 2147483648, .mk 16400 1032175 2149580800 4294967296, .mk 34832 1013743 4565499904 8589934592, .mk 65552 983023 8592031744 17179869184, .mk 132112 916463 17316184064 34359738368, .mk 262160 786415 34361835520 68719476736] (.take 0 (.take 1 (.take 2 (.take 3 (.take 4 (.split 21 (.take 5 (.take 6 (.take 7 (.take 8 (.take 9 (.take 10 (.take 11 (.take 12 (.take 13 (.take 14 (.take 15 (.take 16 (.take 17 (.all (.last 18 (.take 19 (.done))))))))))))))))) (.take 5 (.take 6 (.take 7 (.take 8 (.take 9 (.take 10 (.take 11 (.take 12 (.take 13 (.take 14 (.take 15 (.take 16 (.take 17 (.take 18 (.take 19 (.done)))))))))))))))))))))))) (.node (.reg [0, 2, 3, 8, 9] (.nil)) (.nil))) (.node (.node (.reg [0, 2, 3, 8, 9, 52] (.draw [.mk 0 16383 1 549755813888, .mk 0 16383 8 1099511627776, .mk 0 16383 256 2199023255552, .mk 6 16377 3298534883328 4398046511104, .mk 9 16374 4947802324992 8796093022208, .mk 16 16367 8796093022208 17592186044416, .mk 0 16383 1 35184372088832, .mk 0 16383 8 70368744177664, .mk 0 16383 512 140737488355328, .mk 384 15999 211106232532992 281474976710656, .mk 576 15807 316659348799488 562949953421312, .mk 1024 15359 562949953421312 1125899906842624, .mk 2080 14303 1143492092887040 2251799813685248, .mk 4096 12287 2251799813685248 4503599627370496] (.take 0 (.take 1 (.take 2 (.take 3 (.take 4 (.take 5 (.take 6 (.take 7 (.take 8 (.take 9 (.take 10 (.take 11 (.all (.last 12 (.take 13 (.done)))))))))))))))))) (.nil)) (.node (.reg [0, 2, 3, 9] (.draw [.mk 0 16777215 1 9007199254740992, .mk 0 16777215 8 18014398509481984, .mk 0 16777215 256 36028797018963968, .mk 6 16777209 54043195528445952 72057594037927936, .mk 0 16777215 1 144115188075855872, .mk 0 16777215 8 288230376151711744, .mk 0 16777215 512 576460752303423488, .mk 96 16777119 864691128455135232 1152921504606846976, .mk 0 16777215 1 2305843009213693952, .mk 0 16777215 8 4611686018427387904, .mk 0 16777215 512 9223372036854775808, .mk 1536 16775679 13835058055282163712 18446744073709551616, .mk 2304 16774911 20752587082923245568 36893488147419103232, .mk 4096 16773119 36893488147419103232 73786976294838206464, .mk 0 16777215 1 147573952589676412928, .mk 0 16777215 8 295147905179352825856, .mk 0 16777215 256 590295810358705651712, .mk 98304 16678911 885443715538058477568 1180591620717411303424, .mk 147456 16629759 1328165573307087716352 2361183241434822606848, .mk 262144 16515071 2361183241434822606848 4722366482869645213696, .mk 540431 16777206 81064793292668928 9444732965739290427392, .mk 1589007 15720447 9518519942034128633856 0, .mk 4194303 16777071 1297036692682702848 18889465931478580854784, .mk 8388607 12058623 23611832414348226068480 0] (.take 0 (.take 1 (.take 2 (.take 3 (.take 4 (.take 5 (.take 6 (.take 7 (.take 8 (.take 9 (.take 10 (.take 11 (.take 12 (.take 13 (.take 14 (.take 15 (.take 16 (.take 17 (.take 18 (.take 19 (.take 20 (.all (.last 21 (.take 22 (.all (.last 23 (.done))))))))))))))))))))))))))))) (.reg [0, 2, 3, 8] (.nil))))))))
theorem E_slices_siftDownOrdered_u32 (x0 : SliceV) (x1 : Int) (x2 : Int) (x3 : Int) (K : Tup [] → Heap → Prop) (h0 : Heap) : F_slices_siftDownOrdered_u32 x0 x1 x2 x3 K h0 = sBody PG Try.f75 (Try.f75.body.getD .skip) A_slices_siftDownOrdered_u32 [.slice x0.a x0.len x0.cap, .int .i64 x1, .int .i64 x2, .int .i64 x3] [] K h0 := by kernel_rfl
theorem H_slices_siftDownOrdered_u32 (x0 : SliceV) (x1 : Int) (x2 : Int) (x3 : Int) {K : Tup [] → Heap → Prop} {h0 : Heap} (h : F_slices_siftDownOrdered_u32 x0 x1 x2 x3 K h0) : HC PG f_slices_siftDownOrdered_u32 [.slice x0.a x0.len x0.cap, .int .i64 x1, .int .i64 x2, .int .i64 x3] [] K h0 := HC.intro Try.mixed Try.func75 rfl Try.call75 (Nat.le_of_ble_eq_true rfl) ((E_slices_siftDownOrdered_u32 x0 x1 x2 x3 K h0) ▸ h)
/-- slices.nextPowerOfTwo -/
def F_slices_nextPowerOfTwo (x0 : Int) (K : (Int) → Heap → Prop) (h0 : Heap) : Prop :=
  HC PG f_math_bits_Len [.int .u64 (IntKind.wrap .u64 x0)] [.c (.int .i64)] (fun (e1 : Int) h2 =>
   ((0 : Int) ≤ e1 ∧
    K (IntKind.wrap .u64 (1 * 2 ^ (min (e1 : Int).toNat (IntKind.bits .u64)))) h2)) h0
def A_slices_nextPowerOfTwo : Ann := .node (.reg [0] (.nil)) (.node (.reg [2] (.nil)) (.nil))
theorem E_slices_nextPowerOfTwo (x0 : Int) (K : Tup [.c (.int .u64)] → Heap → Prop) (h0 : Heap) : F_slices_nextPowerOfTwo x0 K h0 = sBody PG Try.f76 (Try.f76.body.getD .skip) A_slices_nextPowerOfTwo [.int .i64 x0] [.c (.int .u64)] K h0 := by kernel_rfl
theorem H_slices_nextPowerOfTwo (x0 : Int) {K : Tup [.c (.int .u64)] → Heap → Prop} {h0 : Heap} (h : F_slices_nextPowerOfTwo x0 K h0) : HC PG f_slices_nextPowerOfTwo [.int .i64 x0] [.c (.int .u64)] K h0 := HC.intro Try.mixed Try.func76 rfl Try.call76 (Nat.le_of_ble_eq_true rfl) ((E_slices_nextPowerOfTwo x0 K h0) ▸ h)
/-- (*slices.xorshift).Next -/
def F_slices_xorshift_Next (x0 : Option Addr) (K : (Int) → Heap → Prop) (h0 : Heap) : Prop :=
  ∃ a1 : Addr, x0 = some a1 ∧
  ∃ v2 : Int, hcell h0 a1 = some (.int .u64 v2) ∧
  ∃ a3 : Addr, x0 = some a3 ∧
  ∃ v4 : Int, hcell h0 a3 = some (.int .u64 v4) ∧
  ((0 : Int) ≤ (13 : Int) ∧
   Bd (IntKind.wrap .u64 (v4 * 2 ^ (min (13 : Int).toNat (IntKind.bits .u64))) : Int) (fun n5 =>
    Bd (IntKind.wrap .u64 (BitVec.ofInt (IntKind.bits .u64) v2 ^^^ BitVec.ofInt (IntKind.bits .u64) n5).toNat : Int) (fun n6 =>
     ∃ a7 : Addr, x0 = some a7 ∧
     (Wr h0 a7 ∧
      At (hset h0 a7 (.int .u64 n6)) (fun h8 =>
       ∃ a9 : Addr, x0 = some a9 ∧
       ∃ v10 : Int, hcell h8 a9 = some (.int .u64 v10) ∧
       ∃ a11 : Addr, x0 = some a11 ∧
       ∃ v12 : Int, hcell h8 a11 = some (.int .u64 v12) ∧
       ((0 : Int) ≤ (7 : Int) ∧
        Bd (IntKind.wrap .u64 (BitVec.ofInt (IntKind.bits .u64) v10 ^^^ BitVec.ofInt (IntKind.bits .u64) (Int.fdiv v12 (2 ^ (min (7 : Int).toNat (IntKind.bits .u64))))).toNat : Int) (fun n13 =>
         ∃ a14 : Addr, x0 = some a14 ∧
         (Wr h8 a14 ∧
          At (hset h8 a14 (.int .u64 n13)) (fun h15 =>
           ∃ a16 : Addr, x0 = some a16 ∧
           ∃ v17 : Int, hcell h15 a16 = some (.int .u64 v17) ∧
           ∃ a18 : Addr, x0 = some a18 ∧
           ∃ v19 : Int, hcell h15 a18 = some (.int .u64 v19) ∧
           ((0 : Int) ≤ (17 : Int) ∧
            Bd (IntKind.wrap .u64 (v19 * 2 ^ (min (17 : Int).toNat (IntKind.bits .u64))) : Int) (fun n20 =>
             Bd (IntKind.wrap .u64 (BitVec.ofInt (IntKind.bits .u64) v17 ^^^ BitVec.ofInt (IntKind.bits .u64) n20).toNat : Int) (fun n21 =>
              ∃ a22 : Addr, x0 = some a22 ∧
              (Wr h15 a22 ∧
               At (hset h15 a22 (.int .u64 n21)) (fun h23 =>
                ∃ a24 : Addr, x0 = some a24 ∧
                ∃ v25 : Int, hcell h23 a24 = some (.int .u64 v25) ∧
                K v25 h23))))))))))))))
def A_slices_xorshift_Next : Ann := .node (.reg [0] (.nil)) (.node (.reg [0] (.draw [.mk 0 1023 1 8, .mk 1 1022 8 16, .mk 2 1021 16 32, .mk 0 1023 1 64, .mk 8 1015 64 128, .mk 16 1007 128 256, .mk 32 991 256 512, .mk 68 955 544 1024, .mk 255 1022 8 2048, .mk 511 639 3072 0] (.take 0 (.take 1 (.take 2 (.take 3 (.take 4 (.take 5 (.take 6 (.take 7 (.take 8 (.all (.last 9 (.done)))))))))))))) (.node (.reg [0] (.draw [.mk 0 1023 1 4096, .mk 1 1022 4096 8192, .mk 2 1021 8192 16384, .mk 0 1023 1 32768, .mk 8 1015 32768 65536, .mk 16 1007 65536 131072, .mk 32 991 131072 262144, .mk 68 955 278528 524288, .mk 255 1022 4096 1048576, .mk 511 639 1572864 0] (.take 0 (.take 1 (.take 2 (.take 3 (.take 4 (.take 5 (.take 6 (.take 7 (.take 8 (.all (.last 9 (.done)))))))))))))) (.node (.reg [0] (.draw [.mk 0 1023 1 2097152, .mk 1 1022 2097152 4194304, .mk 2 1021 4194304 8388608, .mk 0 1023 1 16777216, .mk 8 1015 16777216 33554432, .mk 16 1007 33554432 67108864, .mk 32 991 67108864 134217728, .mk 68 955 142606336 268435456, .mk 255 1022 2097152 536870912, .mk 511 639 805306368 0] (.take 0 (.take 1 (.take 2 (.take 3 (.take 4 (.take 5 (.take 6 (.take 7 (.take 8 (.all (.last 9 (.done)))))))))))))) (.node (.reg [2] (.nil)) (.nil)))))
theorem E_slices_xorshift_Next (x0 : Option Addr) (K : Tup [.c (.int .u64)] → Heap → Prop) (h0 : Heap) : F_slices_xorshift_Next x0 K h0 = sBody PG Try.f77 (Try.f77.body.getD .skip) A_slices_xorshift_Next [.pointer x0] [.c (.int .u64)] K h0 := by kernel_rfl
theorem H_slices_xorshift_Next (x0 : Option Addr) {K : Tup [.c (.int .u64)] → Heap → Prop} {h0 : Heap} (h : F_slices_xorshift_Next x0 K h0) : HC PG f_slices_xorshift_Next [.pointer x0] [.c (.int .u64)] K h0 := HC.intro Try.mixed Try.func77 rfl Try.call77 (Nat.le_of_ble_eq_true rfl) ((E_slices_xorshift_Next x0 K h0) ▸ h)
/-- slices.medianAdjacentOrdered[uint32] -/
def F_slices_medianAdjacentOrdered_u32 (x0 : SliceV) (x1 : Int) (x2 : Option Addr) (K : (Int) → Heap → Prop) (h0 : Heap) : Prop :=
  HC PG f_slices_medianOrdered_u32 [.slice x0.a x0.len x0.cap, .int .i64 (IntKind.wrap .i64 (x1 - 1)), .int .i64 x1, .int .i64 (IntKind.wrap .i64 (x1 + 1)), .pointer x2] [.c (.int .i64)] (fun (e1 : Int) h2 =>
   K e1 h2) h0
def A_slices_medianAdjacentOrdered_u32 : Ann := .node (.reg [0, 1, 2] (.nil)) (.node (.reg [6] (.nil)) (.nil))
theorem E_slices_medianAdjacentOrdered_u32 (x0 : SliceV) (x1 : Int) (x2 : Option Addr) (K : Tup [.c (.int .i64)] → Heap → Prop) (h0 : Heap) : F_slices_medianAdjacentOrdered_u32 x0 x1 x2 K h0 = sBody PG Try.f78 (Try.f78.body.getD .skip) A_slices_medianAdjacentOrdered_u32 [.slice x0.a x0.len x0.cap, .int .i64 x1, .pointer x2] [.c (.int .i64)] K h0 := by kernel_rfl
theorem H_slices_medianAdjacentOrdered_u32 (x0 : SliceV) (x1 : Int) (x2 : Option Addr) {K : Tup [.c (.int .i64)] → Heap → Prop} {h0 : Heap} (h : F_slices_medianAdjacentOrdered_u32 x0 x1 x2 K h0) : HC PG f_slices_medianAdjacentOrdered_u32 [.slice x0.a x0.len x0.cap, .int .i64 x1, .pointer x2] [.c (.int .i64)] K h0 := HC.intro Try.mixed Try.func78 rfl Try.call78 (Nat.le_of_ble_eq_true rfl) ((E_slices_medianAdjacentOrdered_u32 x0 x1 x2 K h0) ▸ h)
/-- slices.medianOrdered[uint32] -/
def F_slices_medianOrdered_u32 (x0 : SliceV) (x1 : Int) (x2 : Int) (x3 : Int) (x4 : Option Addr) (K : (Int) → Heap → Prop) (h0 : Heap) : Prop :=
  HC PG f_slices_order2Ordered_u32 [.slice x0.a x0.len x0.cap, .int .i64 x1, .int .i64 x2, .pointer x4] [.c (.int .i64), .c (.int .i64)] (fun (e1 : Int × Int) h2 =>
   HC PG f_slices_order2Ordered_u32 [.slice x0.a x0.len x0.cap, .int .i64 e1.2, .int .i64 x3, .pointer x4] [.c (.int .i64), .c (.int .i64)] (fun (e3 : Int × Int) h4 =>
    HC PG f_slices_order2Ordered_u32 [.slice x0.a x0.len x0.cap, .int .i64 e1.1, .int .i64 e3.1, .pointer x4] [.c (.int .i64), .c (.int .i64)] (fun (e5 : Int × Int) h6 =>
     K e5.2 h6) h4) h2) h0
def A_slices_medianOrdered_u32 : Ann := .node (.reg [0, 1, 2, 3, 4] (.nil)) (.node (.reg [0, 1, 2, 3, 4] (.nil)) (.node (.reg [0, 1, 2, 4] (.nil)) (.node (.reg [2] (.nil)) (.node (.reg [10] (.nil)) (.nil)))))
theorem E_slices_medianOrdered_u32 (x0 : SliceV) (x1 : Int) (x2 : Int) (x3 : Int) (x4 : Option Addr) (K : Tup [.c (.int .i64)] → Heap → Prop) (h0 : Heap) : F_slices_medianOrdered_u32 x0 x1 x2 x3 x4 K h0 = sBody PG Try.f79 (Try.f79.body.getD .skip) A_slices_medianOrdered_u32 [.slice x0.a x0.len x0.cap, .int .i64 x1, .int .i64 x2, .int .i64 x3, .pointer x4] [.c (.int .i64)] K h0 := by kernel_rfl
theorem H_slices_medianOrdered_u32 (x0 : SliceV) (x1 : Int) (x2 : Int) (x3 : Int) (x4 : Option Addr) {K : Tup [.c (.int .i64)] → Heap → Prop} {h0 : Heap} (h : F_slices_medianOrdered_u32 x0 x1 x2 x3 x4 K h0) : HC PG f_slices_medianOrdered_u32 [.slice x0.a x0.len x0.cap, .int .i64 x1, .int .i64 x2, .int .i64 x3, .pointer x4] [.c (.int .i64)] K h0 := HC.intro Try.mixed Try.func79 rfl Try.call79 (Nat.le_of_ble_eq_true rfl) ((E_slices_medianOrdered_u32 x0 x1 x2 x3 x4 K h0) ▸ h)
/-- slices.order2Ordered[uint32] -/
def F_slices_order2Ordered_u32 (x0 : SliceV) (x1 : Int) (x2 : Int) (x3 : Option Addr) (K : (Int × Int) → Heap → Prop) (h0 : Heap) : Prop :=
  (((0 : Int) ≤ x2 ∧ x2 < ((x0.len : Nat) : Int)) ∧ ∃ a1 : Addr, x0.a = some a1 ∧
   ∃ v2 : Int, hcell h0 (adr a1 (x2.toNat * 1)) = some (.int .u32 v2) ∧
   (((0 : Int) ≤ x1 ∧ x1 < ((x0.len : Nat) : Int)) ∧ ∃ a3 : Addr, x0.a = some a3 ∧
    ∃ v4 : Int, hcell h0 (adr a3 (x1.toNat * 1)) = some (.int .u32 v4) ∧
    HC PG f_cmp_Less_u32 [.int .u32 v2, .int .u32 v4] [.c .bool] (fun (e5 : Bool) h6 =>
     CondP e5 (
      ∃ a7 : Addr, x3 = some a7 ∧
      ∃ v8 : Int, hcell h6 a7 = some (.int .i64 v8) ∧
      ∃ a9 : Addr, x3 = some a9 ∧
      (Wr h6 a9 ∧
       At (hset h6 a9 (.int .i64 (IntKind.wrap .i64 (v8 + 1)))) (fun h10 =>
        K (x2, x1) h10))) (
      K (x1, x2) h6)) h0))
def A_slices_order2Ordered_u32 : Ann := .node (.reg [0, 1, 2, 3] (.nil)) (.node (.node (.reg [1, 2, 3, 18] (.draw [.mk 0 511 1 1024, .mk 0 511 4 2048, .mk 3 508 3072 4096, .mk 4 507 4096 8192, .mk 0 511 1 16384, .mk 0 511 2 32768, .mk 48 463 49152 65536, .mk 64 447 65536 131072, .mk 136 375 139264 262144] (.take 0 (.take 1 (.take 2 (.take 3 (.take 4 (.take 5 (.take 6 (.take 7 (.all (.last 8 (.done))))))))))))) (.node (.node (.reg [1, 2] (.nil)) (.node (.reg [8, 9] (.nil)) (.nil))) (.nil))) (.node (.reg [8, 9] (.nil)) (.nil)))
theorem E_slices_order2Ordered_u32 (x0 : SliceV) (x1 : Int) (x2 : Int) (x3 : Option Addr) (K : Tup [.c (.int .i64), .c (.int .i64)] → Heap → Prop) (h0 : Heap) : F_slices_order2Ordered_u32 x0 x1 x2 x3 K h0 = sBody PG Try.f80 (Try.f80.body.getD .skip) A_slices_order2Ordered_u32 [.slice x0.a x0.len x0.cap, .int .i64 x1, .int .i64 x2, .pointer x3] [.c (.int .i64), .c (.int .i64)] K h0 := by kernel_rfl
theorem H_slices_order2Ordered_u32 (x0 : SliceV) (x1 : Int) (x2 : Int) (x3 : Option Addr) {K : Tup [.c (.int .i64), .c (.int .i64)] → Heap → Prop} {h0 : Heap} (h : F_slices_order2Ordered_u32 x0 x1 x2 x3 K h0) : HC PG f_slices_order2Ordered_u32 [.slice x0.a x0.len x0.cap, .int .i64 x1, .int .i64 x2, .pointer x3] [.c (.int .i64), .c (.int .i64)] K h0 := HC.intro Try.mixed Try.func80 rfl Try.call80 (Nat.le_of_ble_eq_true rfl) ((E_slices_order2Ordered_u32 x0 x1 x2 x3 K h0) ▸ h)
end Go.Proofs
