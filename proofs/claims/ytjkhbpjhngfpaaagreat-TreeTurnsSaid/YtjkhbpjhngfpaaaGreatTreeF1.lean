/- A part of the proof that the named laws of this program answer true, whatever the input. -/
import Derived.Test.YtjkhbpjhngfpaaaGreatTreeF
set_option maxRecDepth 100000
set_option linter.unusedVariables false
namespace Go.Proofs
open Go.Lift
/-- (*quickset/radix.Node).shaped -/
def F_radix_Node_shaped (x0 : Option Addr) (x1 : SliceV) (K : (SliceV) → Heap → Prop) (h0 : Heap) : Prop :=
  ∃ a1 : Addr, x0 = some a1 ∧
  ∃ v2 : ByteArray, hcell h0 (adr a1 0) = some (.string v2) ∧
  HC PG f_shape_Text [.slice x1.a x1.len x1.cap, .string v2] [.c .slice] (fun (e3 : SliceV) h4 =>
   Join (fun (t20 : SliceV) h21 => -- p(1)
    Join (fun (t32 : SliceV) h33 => -- p(1)
     ∃ a34 : Addr, x0 = some a34 ∧
     ∃ v35 : SliceV, hcell h33 (adr a34 3) = some (.slice v35.a v35.len v35.cap) ∧
     LoopP (fun I36 (t37 : SliceV × Int) h38 => -- p(1), (49)
      CondP (decide (t37.2 < (v35.len : Int))) (
       (((0 : Int) ≤ t37.2 ∧ t37.2 < ((v35.len : Nat) : Int)) ∧ ∃ a39 : Addr, v35.a = some a39 ∧
        ∃ v40 : Option Addr, hcell h38 (adr a39 (t37.2.toNat * 1)) = some (.pointer v40) ∧
        HC PG f_radix_Node_shaped [.pointer v40, .slice t37.1.a t37.1.len t37.1.cap] [.c .slice] (fun (e41 : SliceV) h42 =>
         I36 (e41, IntKind.wrap .i64 (t37.2 + 1)) h42) h38)) (
       K t37.1 h38)) (t32, 0) h33) (fun J22 =>
     ∃ a23 : Addr, x0 = some a23 ∧
     ∃ v24 : SliceV, hcell h21 (adr a23 3) = some (.slice v24.a v24.len v24.cap) ∧
     ∃ a25 : Addr, x0 = some a25 ∧
     ∃ v26 : SliceV, hcell h21 (adr a25 3) = some (.slice v26.a v26.len v26.cap) ∧
     ((0 : Int) ≤ (8 : Int) ∧
      Bd (Int.fdiv (v26.len : Int) (2 ^ (min (8 : Int).toNat (IntKind.bits .i64))) : Int) (fun n27 =>
       At (hnew h21 [.int .u8 (IntKind.wrap .u8 (v24.len : Int)), .int .u8 (IntKind.wrap .u8 n27)] t_u8) (fun h28 =>
        (hcell h28 (adr a25 3) = some (.slice v26.a v26.len v26.cap) ∧
         (hcell h28 (adr a23 3) = some (.slice v24.a v24.len v24.cap) ∧
          ∃ xs29, SRow h28 (some (newA h21)) (2 * 1) xs29 ∧
          AppP (some [.int .u8 0]) 1 1 t_u8 t20.a t20.len t20.cap 2 xs29 h28 (fun s30 h31 =>
           (hcell h31 (adr a25 3) = some (.slice v26.a v26.len v26.cap) ∧
            (hcell h31 (adr a23 3) = some (.slice v24.a v24.len v24.cap) ∧
             J22 s30 h31)))))))))) (fun J5 =>
    ∃ a6 : Addr, x0 = some a6 ∧
    ∃ v7 : Bool, hcell h4 (adr a6 1) = some (.bool v7) ∧
    CondP v7 (
     ∃ a8 : Addr, x0 = some a8 ∧
     ∃ v9 : ByteArray, hcell h4 (adr a8 2) = some (.string v9) ∧
     At (hnew h4 [.int .u8 1] t_u8) (fun h10 =>
      (hcell h10 (adr a8 2) = some (.string v9) ∧
       ∃ xs11, SRow h10 (some (newA h4)) (1 * 1) xs11 ∧
       AppP (some [.int .u8 0]) 1 1 t_u8 e3.a e3.len e3.cap 1 xs11 h10 (fun s12 h13 =>
        (hcell h13 (adr a8 2) = some (.string v9) ∧
         HC PG f_shape_Text [.slice s12.a s12.len s12.cap, .string v9] [.c .slice] (fun (e14 : SliceV) h15 =>
          J5 e14 h15) h13))))) (
     At (hnew h4 [.int .u8 0] t_u8) (fun h16 =>
      ∃ xs17, SRow h16 (some (newA h4)) (1 * 1) xs17 ∧
      AppP (some [.int .u8 0]) 1 1 t_u8 e3.a e3.len e3.cap 1 xs17 h16 (fun s18 h19 =>
       J5 s18 h19))))) h0
def A_radix_Node_shaped : Ann := .node (.reg [0, 1] (.nil)) (.node (.reg [0, 1] (.nil)) (.join [0] [(1, .c .slice)] (.node (.reg [0, 1, 16] (.nil)) (.node (.reg [0, 1] (.draw [.mk 0 511 2 131072, .mk 0 511 0 262144, .mk 3 508 393216 524288, .mk 0 511 1 1048576, .mk 8 503 1048576 2097152, .mk 16 495 2097152 4194304, .mk 32 479 4194304 8388608, .mk 68 443 8912896 16777216, .mk 255 382 16777216 2] (.take 0 (.take 3 (.take 4 (.take 5 (.take 6 (.all (.last 1 (.all (.last 2 (.all (.last 7 (.take 8 (.done))))))))))))))) (.reg [0, 1] (.nil)))) (.join [0] [(1, .c .slice)] (.reg [0, 1] (.draw [.mk 0 131071 2 268435456, .mk 0 131071 1 536870912, .mk 2 131069 536870912 1073741824, .mk 4 131067 1073741824 2147483648, .mk 8 131063 2147483648 4294967296, .mk 16 131055 4294967296 8589934592, .mk 32 131039 8589934592 17179869184, .mk 0 131071 1 34359738368, .mk 128 130943 34359738368 68719476736, .mk 256 130815 68719476736 137438953472, .mk 512 130559 137438953472 274877906944, .mk 1024 130047 274877906944 549755813888, .mk 2048 129023 549755813888 1099511627776, .mk 4096 126975 1099511627776 2199023255552, .mk 8256 122815 2216203124736 4398046511104, .mk 16385 114686 4398314946560 8796093022208, .mk 65535 98302 8796093022208 2] (.take 0 (.take 1 (.take 2 (.take 3 (.take 4 (.take 5 (.take 6 (.take 7 (.take 8 (.take 9 (.take 10 (.take 11 (.take 12 (.take 13 (.all (.last 14 (.all (.last 15 (.take 16 (.done)))))))))))))))))))))) (.node (.node (.reg [1, 47, 48, 49] (.nil)) (.loop [47, 48] [(1, .c .slice), (49, .c (.int .i64))] (.node (.reg [1, 47, 48, 49, 50] (.nil)) (.node (.nil) (.node (.node (.reg [1, 6, 47, 48, 49] (.nil)) (.reg [1, 47, 48, 49] (.nil))) (.reg [1, 47, 48, 49] (.nil))))))) (.node (.reg [4] (.nil)) (.nil))))))
theorem E_radix_Node_shaped (x0 : Option Addr) (x1 : SliceV) (K : Tup [.c .slice] → Heap → Prop) (h0 : Heap) : F_radix_Node_shaped x0 x1 K h0 = sBody PG Tryz.f93 (Tryz.f93.body.getD .skip) A_radix_Node_shaped [.pointer x0, .slice x1.a x1.len x1.cap] [.c .slice] K h0 := by kernel_rfl
theorem H_radix_Node_shaped (x0 : Option Addr) (x1 : SliceV) {K : Tup [.c .slice] → Heap → Prop} {h0 : Heap} (h : F_radix_Node_shaped x0 x1 K h0) : HC PG f_radix_Node_shaped [.pointer x0, .slice x1.a x1.len x1.cap] [.c .slice] K h0 := HC.intro Tryz.mixed Tryz.func93 rfl Tryz.call93 (Nat.le_of_ble_eq_true rfl) ((E_radix_Node_shaped x0 x1 K h0) ▸ h)
/-- quickset/shape.put -/
def F_shape_put (x0 : SliceV) (x1 : Option Addr) (x2 : Int) (K : (SliceV) → Heap → Prop) (h0 : Heap) : Prop :=
  HC PG f_node_Node_IsBucket [.pointer x1] [.c .bool] (fun (e1 : Bool) h2 =>
   CondP e1 (
    At (hnew h2 [.int .u8 1] t_u8) (fun h3 =>
     ∃ xs4, SRow h3 (some (newA h2)) (1 * 1) xs4 ∧
     AppP (some [.int .u8 0]) 1 1 t_u8 x0.a x0.len x0.cap 1 xs4 h3 (fun s5 h6 =>
      HC PG f_node_Node_Len [.pointer x1] [.c (.int .i64)] (fun (e7 : Int) h8 =>
       HC PG f_shape_lay [.slice s5.a s5.len s5.cap, .int .u64 (IntKind.wrap .u64 e7), .int .i64 2] [.c .slice] (fun (e9 : SliceV) h10 =>
        HC PG f_node_Node_Pairs [.pointer x1] [.c .slice] (fun (e11 : SliceV) h12 =>
         HC PG f_shape_pairs [.slice e9.a e9.len e9.cap, .slice e11.a e11.len e11.cap] [.c .slice] (fun (e13 : SliceV) h14 =>
          K e13 h14) h12) h10) h8) h6))) (
    Join (fun (t28 : SliceV) h29 => -- p(0)
     HC PG f_node_Node_Pairs [.pointer x1] [.c .slice] (fun (e30 : SliceV) h31 =>
      HC PG f_shape_pairs [.slice t28.a t28.len t28.cap, .slice e30.a e30.len e30.cap] [.c .slice] (fun (e32 : SliceV) h33 =>
       CondP (x2 == (13 : Int)) (
        K e32 h33) (
        HC PG f_node_Node_Kids [.pointer x1] [.c .slice] (fun (e34 : SliceV) h35 =>
         LoopP (fun I36 (t37 : SliceV × Int) h38 => -- p(0), (42)
          CondP (decide (t37.2 < (e34.len : Int))) (
           (((0 : Int) ≤ t37.2 ∧ t37.2 < ((e34.len : Nat) : Int)) ∧ ∃ a39 : Addr, e34.a = some a39 ∧
            ∃ v40 : Option Addr, hcell h38 (adr a39 (t37.2.toNat * 1)) = some (.pointer v40) ∧
            HC PG f_shape_put [.slice t37.1.a t37.1.len t37.1.cap, .pointer v40, .int .i64 (IntKind.wrap .i64 (x2 + 1))] [.c .slice] (fun (e41 : SliceV) h42 =>
             I36 (e41, IntKind.wrap .i64 (t37.2 + 1)) h42) h38)) (
           K t37.1 h38)) (e32, 0) h35) h33)) h31) h29) (fun J15 =>
     At (hnew h2 [.int .u8 0] t_u8) (fun h16 =>
      ∃ xs17, SRow h16 (some (newA h2)) (1 * 1) xs17 ∧
      AppP (some [.int .u8 0]) 1 1 t_u8 x0.a x0.len x0.cap 1 xs17 h16 (fun s18 h19 =>
       HC PG f_node_Node_Data [.pointer x1] [.c (.int .u32)] (fun (e20 : Int) h21 =>
        HC PG f_shape_lay [.slice s18.a s18.len s18.cap, .int .u64 (IntKind.wrap .u64 e20), .int .i64 4] [.c .slice] (fun (e22 : SliceV) h23 =>
         HC PG f_node_Node_Nodes [.pointer x1] [.c (.int .u32)] (fun (e24 : Int) h25 =>
          HC PG f_shape_lay [.slice e22.a e22.len e22.cap, .int .u64 (IntKind.wrap .u64 e24), .int .i64 4] [.c .slice] (fun (e26 : SliceV) h27 =>
           J15 e26 h27) h25) h23) h21) h19))))) h0
def A_shape_put : Ann := .node (.reg [0, 1, 2] (.nil)) (.node (.node (.reg [0, 1, 2, 10] (.nil)) (.node (.node (.reg [6] (.nil)) (.nil)) (.nil))) (.join [1, 2] [(0, .c .slice)] (.reg [0, 1, 2] (.nil)) (.node (.reg [0, 1, 2] (.nil)) (.node (.node (.reg [0, 1, 2, 37] (.nil)) (.node (.node (.reg [6] (.nil)) (.nil)) (.nil))) (.node (.node (.reg [0, 2, 40, 41, 42] (.nil)) (.loop [2, 40, 41] [(0, .c .slice), (42, .c (.int .i64))] (.node (.reg [0, 2, 40, 41, 42, 43] (.nil)) (.node (.nil) (.node (.node (.reg [0, 2, 8, 40, 41, 42] (.nil)) (.reg [0, 2, 40, 41, 42] (.nil))) (.reg [0, 2, 40, 41, 42] (.nil))))))) (.node (.reg [6] (.nil)) (.nil)))))))
theorem E_shape_put (x0 : SliceV) (x1 : Option Addr) (x2 : Int) (K : Tup [.c .slice] → Heap → Prop) (h0 : Heap) : F_shape_put x0 x1 x2 K h0 = sBody PG Tryz.f94 (Tryz.f94.body.getD .skip) A_shape_put [.slice x0.a x0.len x0.cap, .pointer x1, .int .i64 x2] [.c .slice] K h0 := by kernel_rfl
theorem H_shape_put (x0 : SliceV) (x1 : Option Addr) (x2 : Int) {K : Tup [.c .slice] → Heap → Prop} {h0 : Heap} (h : F_shape_put x0 x1 x2 K h0) : HC PG f_shape_put [.slice x0.a x0.len x0.cap, .pointer x1, .int .i64 x2] [.c .slice] K h0 := HC.intro Tryz.mixed Tryz.func94 rfl Tryz.call94 (Nat.le_of_ble_eq_true rfl) ((E_shape_put x0 x1 x2 K h0) ▸ h)
/-- (*quickset/sip.state).take -/
def F_sip_state_take (x0 : Option Addr) (x1 : Int) (K : (Unit) → Heap → Prop) (h0 : Heap) : Prop :=
  ∃ a1 : Addr, x0 = some a1 ∧
  (((0 : Int) ≤ (3 : Int) ∧ (3 : Int) < ((4 : Nat) : Int)) ∧
   ∃ v2 : Int, hcell h0 (adr a1 ((3 : Int).toNat * 1)) = some (.int .u64 v2) ∧
   Bd (IntKind.wrap .u64 (BitVec.ofInt (IntKind.bits .u64) v2 ^^^ BitVec.ofInt (IntKind.bits .u64) x1).toNat : Int) (fun n3 =>
    ∃ a4 : Addr, x0 = some a4 ∧
    (((0 : Int) ≤ (3 : Int) ∧ (3 : Int) < ((4 : Nat) : Int)) ∧
     (Wr h0 (adr a4 ((3 : Int).toNat * 1)) ∧
      At (hset h0 (adr a4 ((3 : Int).toNat * 1)) (.int .u64 n3)) (fun h5 =>
       HC PG f_sip_state_rounds [.pointer x0, .int .i64 2] [] (fun (e6 : Unit) h7 =>
        ∃ a8 : Addr, x0 = some a8 ∧
        (((0 : Int) ≤ (0 : Int) ∧ (0 : Int) < ((4 : Nat) : Int)) ∧
         ∃ v9 : Int, hcell h7 (adr a8 ((0 : Int).toNat * 1)) = some (.int .u64 v9) ∧
         Bd (IntKind.wrap .u64 (BitVec.ofInt (IntKind.bits .u64) v9 ^^^ BitVec.ofInt (IntKind.bits .u64) x1).toNat : Int) (fun n10 =>
          ∃ a11 : Addr, x0 = some a11 ∧
          (((0 : Int) ≤ (0 : Int) ∧ (0 : Int) < ((4 : Nat) : Int)) ∧
           (Wr h7 (adr a11 ((0 : Int).toNat * 1)) ∧
            At (hset h7 (adr a11 ((0 : Int).toNat * 1)) (.int .u64 n10)) (fun h12 =>
             K () h12)))))) h5)))))
def A_sip_state_take : Ann := .node (.reg [0, 1] (.draw [.mk 0 511 1 16, .mk 1 510 16 32, .mk 2 509 32 64, .mk 4 507 64 128, .mk 0 511 2 256, .mk 24 487 384 512, .mk 1 510 16 1024, .mk 127 447 1024 2048, .mk 191 351 2560 0] (.take 0 (.take 1 (.take 2 (.take 3 (.take 4 (.take 5 (.take 6 (.take 7 (.all (.last 8 (.done))))))))))))) (.node (.reg [0, 1] (.nil)) (.reg [] (.draw [.mk 0 511 1 16384, .mk 1 510 16384 32768, .mk 2 509 32768 65536, .mk 4 507 65536 131072, .mk 0 511 2 262144, .mk 24 487 393216 524288, .mk 1 510 16384 1048576, .mk 127 447 1048576 2097152, .mk 191 351 2621440 0] (.take 0 (.take 1 (.take 2 (.take 3 (.take 4 (.take 5 (.take 6 (.take 7 (.all (.last 8 (.done))))))))))))))
theorem E_sip_state_take (x0 : Option Addr) (x1 : Int) (K : Tup [] → Heap → Prop) (h0 : Heap) : F_sip_state_take x0 x1 K h0 = sBody PG Tryz.f95 (Tryz.f95.body.getD .skip) A_sip_state_take [.pointer x0, .int .u64 x1] [] K h0 := by kernel_rfl
theorem H_sip_state_take (x0 : Option Addr) (x1 : Int) {K : Tup [] → Heap → Prop} {h0 : Heap} (h : F_sip_state_take x0 x1 K h0) : HC PG f_sip_state_take [.pointer x0, .int .u64 x1] [] K h0 := HC.intro Tryz.mixed Tryz.func95 rfl Tryz.call95 (Nat.le_of_ble_eq_true rfl) ((E_sip_state_take x0 x1 K h0) ▸ h)
/-- quickset/sip.word -/
def F_sip_word (x0 : ByteArray) (K : (Int) → Heap → Prop) (h0 : Heap) : Prop :=
  Join (fun (t41 : Int) h42 => -- n(3)
   ∃ b43 : UInt8, (0 : Int) ≤ (0 : Int) ∧ x0[(0 : Int).toNat]? = some b43 ∧
   Bd (IntKind.wrap .u64 (BitVec.ofInt (IntKind.bits .u64) t41 ||| BitVec.ofInt (IntKind.bits .u64) (IntKind.wrap .u64 (b43.toNat : Int))).toNat : Int) (fun n44 =>
    K n44 h42)) (fun J1 =>
   Join (fun (t36 : Int) h37 => -- n(3)
    ∃ b38 : UInt8, (0 : Int) ≤ (1 : Int) ∧ x0[(1 : Int).toNat]? = some b38 ∧
    ((0 : Int) ≤ (8 : Int) ∧
     Bd (IntKind.wrap .u64 ((IntKind.wrap .u64 (b38.toNat : Int)) * 2 ^ (min (8 : Int).toNat (IntKind.bits .u64))) : Int) (fun n39 =>
      Bd (IntKind.wrap .u64 (BitVec.ofInt (IntKind.bits .u64) t36 ||| BitVec.ofInt (IntKind.bits .u64) n39).toNat : Int) (fun n40 =>
       J1 n40 h37)))) (fun J2 =>
    Join (fun (t31 : Int) h32 => -- n(3)
     ∃ b33 : UInt8, (0 : Int) ≤ (2 : Int) ∧ x0[(2 : Int).toNat]? = some b33 ∧
     ((0 : Int) ≤ (16 : Int) ∧
      Bd (IntKind.wrap .u64 ((IntKind.wrap .u64 (b33.toNat : Int)) * 2 ^ (min (16 : Int).toNat (IntKind.bits .u64))) : Int) (fun n34 =>
       Bd (IntKind.wrap .u64 (BitVec.ofInt (IntKind.bits .u64) t31 ||| BitVec.ofInt (IntKind.bits .u64) n34).toNat : Int) (fun n35 =>
        J2 n35 h32)))) (fun J3 =>
     Join (fun (t26 : Int) h27 => -- n(3)
      ∃ b28 : UInt8, (0 : Int) ≤ (3 : Int) ∧ x0[(3 : Int).toNat]? = some b28 ∧
      ((0 : Int) ≤ (24 : Int) ∧
       Bd (IntKind.wrap .u64 ((IntKind.wrap .u64 (b28.toNat : Int)) * 2 ^ (min (24 : Int).toNat (IntKind.bits .u64))) : Int) (fun n29 =>
        Bd (IntKind.wrap .u64 (BitVec.ofInt (IntKind.bits .u64) t26 ||| BitVec.ofInt (IntKind.bits .u64) n29).toNat : Int) (fun n30 =>
         J3 n30 h27)))) (fun J4 =>
      Join (fun (t21 : Int) h22 => -- n(3)
       ∃ b23 : UInt8, (0 : Int) ≤ (4 : Int) ∧ x0[(4 : Int).toNat]? = some b23 ∧
       ((0 : Int) ≤ (32 : Int) ∧
        Bd (IntKind.wrap .u64 ((IntKind.wrap .u64 (b23.toNat : Int)) * 2 ^ (min (32 : Int).toNat (IntKind.bits .u64))) : Int) (fun n24 =>
         Bd (IntKind.wrap .u64 (BitVec.ofInt (IntKind.bits .u64) t21 ||| BitVec.ofInt (IntKind.bits .u64) n24).toNat : Int) (fun n25 =>
          J4 n25 h22)))) (fun J5 =>
       Join (fun (t16 : Int) h17 => -- n(3)
        ∃ b18 : UInt8, (0 : Int) ≤ (5 : Int) ∧ x0[(5 : Int).toNat]? = some b18 ∧
        ((0 : Int) ≤ (40 : Int) ∧
         Bd (IntKind.wrap .u64 ((IntKind.wrap .u64 (b18.toNat : Int)) * 2 ^ (min (40 : Int).toNat (IntKind.bits .u64))) : Int) (fun n19 =>
          Bd (IntKind.wrap .u64 (BitVec.ofInt (IntKind.bits .u64) t16 ||| BitVec.ofInt (IntKind.bits .u64) n19).toNat : Int) (fun n20 =>
           J5 n20 h17)))) (fun J6 =>
        Join (fun (t11 : Int) h12 => -- n(3)
         ∃ b13 : UInt8, (0 : Int) ≤ (6 : Int) ∧ x0[(6 : Int).toNat]? = some b13 ∧
         ((0 : Int) ≤ (48 : Int) ∧
          Bd (IntKind.wrap .u64 ((IntKind.wrap .u64 (b13.toNat : Int)) * 2 ^ (min (48 : Int).toNat (IntKind.bits .u64))) : Int) (fun n14 =>
           Bd (IntKind.wrap .u64 (BitVec.ofInt (IntKind.bits .u64) t11 ||| BitVec.ofInt (IntKind.bits .u64) n14).toNat : Int) (fun n15 =>
            J6 n15 h12)))) (fun J7 =>
         CondP ((x0.size : Int) == (8 : Int)) (
          ∃ b8 : UInt8, (0 : Int) ≤ (7 : Int) ∧ x0[(7 : Int).toNat]? = some b8 ∧
          ((0 : Int) ≤ (56 : Int) ∧
           Bd (IntKind.wrap .u64 ((IntKind.wrap .u64 (b8.toNat : Int)) * 2 ^ (min (56 : Int).toNat (IntKind.bits .u64))) : Int) (fun n9 =>
            Bd (IntKind.wrap .u64 (BitVec.ofInt (IntKind.bits .u64) 0 ||| BitVec.ofInt (IntKind.bits .u64) n9).toNat : Int) (fun n10 =>
             J7 n10 h0)))) (
          CondP ((x0.size : Int) == (7 : Int)) (
           J7 0 h0) (
           CondP ((x0.size : Int) == (6 : Int)) (
            J6 0 h0) (
            CondP ((x0.size : Int) == (5 : Int)) (
             J5 0 h0) (
             CondP ((x0.size : Int) == (4 : Int)) (
              J4 0 h0) (
              CondP ((x0.size : Int) == (3 : Int)) (
               J3 0 h0) (
               CondP ((x0.size : Int) == (2 : Int)) (
                J2 0 h0) (
                CondP ((x0.size : Int) == (1 : Int)) (
                 J1 0 h0) (
                 K 0 h0)))))))))))))))
def A_sip_word : Ann := .node (.reg [0] (.nil)) (.node (.reg [0, 3] (.nil)) (.node (.node (.reg [0, 3, 5] (.nil)) (.join [0] [(3, .c (.int .u64))] (.join [0] [(3, .c (.int .u64))] (.join [0] [(3, .c (.int .u64))] (.join [0] [(3, .c (.int .u64))] (.join [0] [(3, .c (.int .u64))] (.join [0] [(3, .c (.int .u64))] (.join [0] [(3, .c (.int .u64))] (.node (.node (.node (.node (.reg [0, 3, 5, 6] (.nil)) (.nil)) (.node (.node (.reg [0, 3, 5, 8] (.nil)) (.nil)) (.node (.node (.reg [0, 3, 5, 10] (.nil)) (.nil)) (.node (.node (.reg [0, 3, 5, 12] (.nil)) (.nil)) (.node (.node (.reg [0, 3, 5, 14] (.nil)) (.nil)) (.node (.node (.reg [0, 3, 5, 16] (.nil)) (.nil)) (.node (.node (.reg [0, 3, 5, 18] (.nil)) (.nil)) (.node (.reg [0, 3, 20] (.nil)) (.nil))))))))) (.nil)) (.reg [0, 3] (.nil))) (.reg [0, 3] (.nil))) (.reg [0, 3] (.nil))) (.reg [0, 3] (.nil))) (.reg [0, 3] (.nil))) (.reg [0, 3] (.nil))) (.reg [0, 3] (.nil))) (.node (.reg [3] (.nil)) (.nil)))) (.node (.reg [2] (.nil)) (.nil))))
theorem E_sip_word (x0 : ByteArray) (K : Tup [.c (.int .u64)] → Heap → Prop) (h0 : Heap) : F_sip_word x0 K h0 = sBody PG Tryz.f96 (Tryz.f96.body.getD .skip) A_sip_word [.string x0] [.c (.int .u64)] K h0 := by kernel_rfl
theorem H_sip_word (x0 : ByteArray) {K : Tup [.c (.int .u64)] → Heap → Prop} {h0 : Heap} (h : F_sip_word x0 K h0) : HC PG f_sip_word [.string x0] [.c (.int .u64)] K h0 := HC.intro Tryz.mixed Tryz.func96 rfl Tryz.call96 (Nat.le_of_ble_eq_true rfl) ((E_sip_word x0 K h0) ▸ h)
/-- (*quickset/sip.state).rounds -/
def F_sip_state_rounds (x0 : Option Addr) (x1 : Int) (K : (Unit) → Heap → Prop) (h0 : Heap) : Prop :=
  LoopP (fun I1 (t2 : Int) h3 => -- (5)
   CondP (decide (t2 < x1)) (
    ∃ a4 : Addr, x0 = some a4 ∧
    (((0 : Int) ≤ (0 : Int) ∧ (0 : Int) < ((4 : Nat) : Int)) ∧
     ∃ v5 : Int, hcell h3 (adr a4 ((0 : Int).toNat * 1)) = some (.int .u64 v5) ∧
     ∃ a6 : Addr, x0 = some a6 ∧
     (((0 : Int) ≤ (1 : Int) ∧ (1 : Int) < ((4 : Nat) : Int)) ∧
      ∃ v7 : Int, hcell h3 (adr a6 ((1 : Int).toNat * 1)) = some (.int .u64 v7) ∧
      ∃ a8 : Addr, x0 = some a8 ∧
      (((0 : Int) ≤ (0 : Int) ∧ (0 : Int) < ((4 : Nat) : Int)) ∧
       (Wr h3 (adr a8 ((0 : Int).toNat * 1)) ∧
        At (hset h3 (adr a8 ((0 : Int).toNat * 1)) (.int .u64 (IntKind.wrap .u64 (v5 + v7)))) (fun h9 =>
         ∃ a10 : Addr, x0 = some a10 ∧
         (((0 : Int) ≤ (1 : Int) ∧ (1 : Int) < ((4 : Nat) : Int)) ∧
          ∃ v11 : Int, hcell h9 (adr a10 ((1 : Int).toNat * 1)) = some (.int .u64 v11) ∧
          ∃ a12 : Addr, x0 = some a12 ∧
          (((0 : Int) ≤ (0 : Int) ∧ (0 : Int) < ((4 : Nat) : Int)) ∧
           ∃ v13 : Int, hcell h9 (adr a12 ((0 : Int).toNat * 1)) = some (.int .u64 v13) ∧
           ∃ a14 : Addr, x0 = some a14 ∧
           HC PG f_math_bits_RotateLeft64 [.int .u64 v11, .int .i64 13] [.c (.int .u64)] (fun (e15 : Int) h16 =>
            (hcell h16 (adr a12 ((0 : Int).toNat * 1)) = some (.int .u64 v13) ∧
             Bd (IntKind.wrap .u64 (BitVec.ofInt (IntKind.bits .u64) e15 ^^^ BitVec.ofInt (IntKind.bits .u64) v13).toNat : Int) (fun n17 =>
              (((0 : Int) ≤ (1 : Int) ∧ (1 : Int) < ((4 : Nat) : Int)) ∧
               (Wr h16 (adr a14 ((1 : Int).toNat * 1)) ∧
                At (hset h16 (adr a14 ((1 : Int).toNat * 1)) (.int .u64 n17)) (fun h18 =>
                 ∃ a19 : Addr, x0 = some a19 ∧
                 (((0 : Int) ≤ (0 : Int) ∧ (0 : Int) < ((4 : Nat) : Int)) ∧
                  ∃ v20 : Int, hcell h18 (adr a19 ((0 : Int).toNat * 1)) = some (.int .u64 v20) ∧
                  ∃ a21 : Addr, x0 = some a21 ∧
                  HC PG f_math_bits_RotateLeft64 [.int .u64 v20, .int .i64 32] [.c (.int .u64)] (fun (e22 : Int) h23 =>
                   (((0 : Int) ≤ (0 : Int) ∧ (0 : Int) < ((4 : Nat) : Int)) ∧
                    (Wr h23 (adr a21 ((0 : Int).toNat * 1)) ∧
                     At (hset h23 (adr a21 ((0 : Int).toNat * 1)) (.int .u64 e22)) (fun h24 =>
                      ∃ a25 : Addr, x0 = some a25 ∧
                      (((0 : Int) ≤ (2 : Int) ∧ (2 : Int) < ((4 : Nat) : Int)) ∧
                       ∃ v26 : Int, hcell h24 (adr a25 ((2 : Int).toNat * 1)) = some (.int .u64 v26) ∧
                       ∃ a27 : Addr, x0 = some a27 ∧
                       (((0 : Int) ≤ (3 : Int) ∧ (3 : Int) < ((4 : Nat) : Int)) ∧
                        ∃ v28 : Int, hcell h24 (adr a27 ((3 : Int).toNat * 1)) = some (.int .u64 v28) ∧
                        ∃ a29 : Addr, x0 = some a29 ∧
                        (((0 : Int) ≤ (2 : Int) ∧ (2 : Int) < ((4 : Nat) : Int)) ∧
                         (Wr h24 (adr a29 ((2 : Int).toNat * 1)) ∧
                          At (hset h24 (adr a29 ((2 : Int).toNat * 1)) (.int .u64 (IntKind.wrap .u64 (v26 + v28)))) (fun h30 =>
                           ∃ a31 : Addr, x0 = some a31 ∧
                           (((0 : Int) ≤ (3 : Int) ∧ (3 : Int) < ((4 : Nat) : Int)) ∧
                            ∃ v32 : Int, hcell h30 (adr a31 ((3 : Int).toNat * 1)) = some (.int .u64 v32) ∧
                            ∃ a33 : Addr, x0 = some a33 ∧
                            (((0 : Int) ≤ (2 : Int) ∧ (2 : Int) < ((4 : Nat) : Int)) ∧
                             ∃ v34 : Int, hcell h30 (adr a33 ((2 : Int).toNat * 1)) = some (.int .u64 v34) ∧
                             ∃ a35 : Addr, x0 = some a35 ∧
                             HC PG f_math_bits_RotateLeft64 [.int .u64 v32, .int .i64 16] [.c (.int .u64)] (fun (e36 : Int) h37 =>
                              (hcell h37 (adr a33 ((2 : Int).toNat * 1)) = some (.int .u64 v34) ∧
                               Bd (IntKind.wrap .u64 (BitVec.ofInt (IntKind.bits .u64) e36 ^^^ BitVec.ofInt (IntKind.bits .u64) v34).toNat : Int) (fun n38 =>
                                (((0 : Int) ≤ (3 : Int) ∧ (3 : Int) < ((4 : Nat) : Int)) ∧
                                 (Wr h37 (adr a35 ((3 : Int).toNat * 1)) ∧
                                  At (hset h37 (adr a35 ((3 : Int).toNat * 1)) (.int .u64 n38)) (fun h39 =>
                                   ∃ a40 : Addr, x0 = some a40 ∧
                                   (((0 : Int) ≤ (0 : Int) ∧ (0 : Int) < ((4 : Nat) : Int)) ∧
                                    ∃ v41 : Int, hcell h39 (adr a40 ((0 : Int).toNat * 1)) = some (.int .u64 v41) ∧
                                    ∃ a42 : Addr, x0 = some a42 ∧
                                    (((0 : Int) ≤ (3 : Int) ∧ (3 : Int) < ((4 : Nat) : Int)) ∧
                                     ∃ v43 : Int, hcell h39 (adr a42 ((3 : Int).toNat * 1)) = some (.int .u64 v43) ∧
                                     ∃ a44 : Addr, x0 = some a44 ∧
                                     (((0 : Int) ≤ (0 : Int) ∧ (0 : Int) < ((4 : Nat) : Int)) ∧
                                      (Wr h39 (adr a44 ((0 : Int).toNat * 1)) ∧
                                       At (hset h39 (adr a44 ((0 : Int).toNat * 1)) (.int .u64 (IntKind.wrap .u64 (v41 + v43)))) (fun h45 =>
                                        ∃ a46 : Addr, x0 = some a46 ∧
                                        (((0 : Int) ≤ (3 : Int) ∧ (3 : Int) < ((4 : Nat) : Int)) ∧
                                         ∃ v47 : Int, hcell h45 (adr a46 ((3 : Int).toNat * 1)) = some (.int .u64 v47) ∧
                                         ∃ a48 : Addr, x0 = some a48 ∧
                                         (((0 : Int) ≤ (0 : Int) ∧ (0 : Int) < ((4 : Nat) : Int)) ∧
                                          ∃ v49 : Int, hcell h45 (adr a48 ((0 : Int).toNat * 1)) = some (.int .u64 v49) ∧
                                          ∃ a50 : Addr, x0 = some a50 ∧
                                          HC PG f_math_bits_RotateLeft64 [.int .u64 v47, .int .i64 21] [.c (.int .u64)] (fun (e51 : Int) h52 =>
                                          (hcell h52 (adr a48 ((0 : Int).toNat * 1)) = some (.int .u64 v49) ∧
                                          Bd (IntKind.wrap .u64 (BitVec.ofInt (IntKind.bits .u64) e51 ^^^ BitVec.ofInt (IntKind.bits .u64) v49).toNat : Int) (fun n53 =>
                                          (((0 : Int) ≤ (3 : Int) ∧ (3 : Int) < ((4 : Nat) : Int)) ∧
                                          (Wr h52 (adr a50 ((3 : Int).toNat * 1)) ∧
                                          At (hset h52 (adr a50 ((3 : Int).toNat * 1)) (.int .u64 n53)) (fun h54 =>
                                          ∃ a55 : Addr, x0 = some a55 ∧
                                          (((0 : Int) ≤ (2 : Int) ∧ (2 : Int) < ((4 : Nat) : Int)) ∧
                                          ∃ v56 : Int, hcell h54 (adr a55 ((2 : Int).toNat * 1)) = some (.int .u64 v56) ∧
                                          ∃ a57 : Addr, x0 = some a57 ∧
                                          (((0 : Int) ≤ (1 : Int) ∧ (1 : Int) < ((4 : Nat) : Int)) ∧
                                          ∃ v58 : Int, hcell h54 (adr a57 ((1 : Int).toNat * 1)) = some (.int .u64 v58) ∧
                                          ∃ a59 : Addr, x0 = some a59 ∧
                                          (((0 : Int) ≤ (2 : Int) ∧ (2 : Int) < ((4 : Nat) : Int)) ∧
                                          (Wr h54 (adr a59 ((2 : Int).toNat * 1)) ∧
                                          At (hset h54 (adr a59 ((2 : Int).toNat * 1)) (.int .u64 (IntKind.wrap .u64 (v56 + v58)))) (fun h60 =>
                                          ∃ a61 : Addr, x0 = some a61 ∧
                                          (((0 : Int) ≤ (1 : Int) ∧ (1 : Int) < ((4 : Nat) : Int)) ∧
                                          ∃ v62 : Int, hcell h60 (adr a61 ((1 : Int).toNat * 1)) = some (.int .u64 v62) ∧
                                          ∃ a63 : Addr, x0 = some a63 ∧
                                          (((0 : Int) ≤ (2 : Int) ∧ (2 : Int) < ((4 : Nat) : Int)) ∧
                                          ∃ v64 : Int, hcell h60 (adr a63 ((2 : Int).toNat * 1)) = some (.int .u64 v64) ∧
                                          ∃ a65 : Addr, x0 = some a65 ∧
                                          HC PG f_math_bits_RotateLeft64 [.int .u64 v62, .int .i64 17] [.c (.int .u64)] (fun (e66 : Int) h67 =>
                                          (hcell h67 (adr a63 ((2 : Int).toNat * 1)) = some (.int .u64 v64) ∧
                                          Bd (IntKind.wrap .u64 (BitVec.ofInt (IntKind.bits .u64) e66 ^^^ BitVec.ofInt (IntKind.bits .u64) v64).toNat : Int) (fun n68 =>
                                          (((0 : Int) ≤ (1 : Int) ∧ (1 : Int) < ((4 : Nat) : Int)) ∧
                                          (Wr h67 (adr a65 ((1 : Int).toNat * 1)) ∧
                                          At (hset h67 (adr a65 ((1 : Int).toNat * 1)) (.int .u64 n68)) (fun h69 =>
                                          ∃ a70 : Addr, x0 = some a70 ∧
                                          (((0 : Int) ≤ (2 : Int) ∧ (2 : Int) < ((4 : Nat) : Int)) ∧
                                          ∃ v71 : Int, hcell h69 (adr a70 ((2 : Int).toNat * 1)) = some (.int .u64 v71) ∧
                                          ∃ a72 : Addr, x0 = some a72 ∧
                                          HC PG f_math_bits_RotateLeft64 [.int .u64 v71, .int .i64 32] [.c (.int .u64)] (fun (e73 : Int) h74 =>
                                          (((0 : Int) ≤ (2 : Int) ∧ (2 : Int) < ((4 : Nat) : Int)) ∧
                                          (Wr h74 (adr a72 ((2 : Int).toNat * 1)) ∧
                                          At (hset h74 (adr a72 ((2 : Int).toNat * 1)) (.int .u64 e73)) (fun h75 =>
                                          I1 (IntKind.wrap .i64 (t2 + 1)) h75)))) h69))))))) h60))))))))))))) h45))))))))))))) h30))))))))))) h18))))))) h9)))))))) (
    K () h3)) 0 h0
def A_sip_state_rounds : Ann := .node (.reg [0, 4, 5] (.nil)) (.loop [0, 4] [(5, .c (.int .i64))] (.node (.reg [0, 4, 5, 6] (.nil)) (.node (.nil) (.node (.node (.reg [0, 4, 5] (.draw [.mk 0 4095 1 128, .mk 1 4094 128 256, .mk 2 4093 256 512, .mk 4 4091 512 1024, .mk 0 4095 1 2048, .mk 16 4079 2048 4096, .mk 32 4063 4096 8192, .mk 64 4031 8192 16384, .mk 136 3959 17408 32768, .mk 1 4094 128 65536, .mk 1023 3583 65536 131072, .mk 1535 2815 163840 0] (.take 0 (.take 1 (.take 2 (.take 3 (.take 4 (.take 5 (.take 6 (.take 7 (.take 8 (.take 9 (.take 10 (.all (.last 11 (.done)))))))))))))))) (.node (.reg [0, 4, 5] (.draw [.mk 0 16383 1 262144, .mk 0 16383 1 524288, .mk 2 16381 524288 1048576, .mk 4 16379 1048576 2097152, .mk 8 16375 2097152 4194304, .mk 16 16367 4194304 8388608, .mk 0 16383 1 16777216, .mk 64 16319 16777216 33554432, .mk 128 16255 33554432 67108864, .mk 256 16127 67108864 134217728, .mk 544 15839 142606336 268435456, .mk 1 16382 262144 536870912, .mk 4095 14335 536870912 1073741824, .mk 6143 11263 1342177280 0] (.take 0 (.take 1 (.take 2 (.take 3 (.take 4 (.take 6 (.take 7 (.take 8 (.take 9 (.take 11 (.all (.last 5 (.take 10 (.take 12 (.all (.last 13 (.done))))))))))))))))))) (.node (.reg [0, 4, 5] (.draw [.mk 0 511 1 2147483648, .mk 0 511 1 4294967296, .mk 2 509 4294967296 8589934592, .mk 4 507 8589934592 17179869184, .mk 8 503 17179869184 34359738368, .mk 16 495 34359738368 68719476736, .mk 1 510 2147483648 137438953472, .mk 127 447 137438953472 274877906944, .mk 191 351 343597383680 0] (.take 0 (.take 1 (.take 2 (.take 3 (.take 4 (.take 6 (.all (.last 5 (.take 7 (.all (.last 8 (.done)))))))))))))) (.node (.reg [0, 4, 5] (.draw [.mk 0 4095 1 549755813888, .mk 1 4094 549755813888 1099511627776, .mk 2 4093 1099511627776 2199023255552, .mk 4 4091 2199023255552 4398046511104, .mk 0 4095 1 8796093022208, .mk 16 4079 8796093022208 17592186044416, .mk 32 4063 17592186044416 35184372088832, .mk 64 4031 35184372088832 70368744177664, .mk 136 3959 74766790688768 140737488355328, .mk 1 4094 549755813888 281474976710656, .mk 1023 3583 281474976710656 562949953421312, .mk 1535 2815 703687441776640 0] (.take 0 (.take 1 (.take 2 (.take 3 (.take 4 (.take 5 (.take 6 (.take 7 (.take 8 (.take 9 (.take 10 (.all (.last 11 (.done)))))))))))))))) (.node (.reg [0, 4, 5] (.draw [.mk 0 16383 1 1125899906842624, .mk 0 16383 1 2251799813685248, .mk 2 16381 2251799813685248 4503599627370496, .mk 4 16379 4503599627370496 9007199254740992, .mk 8 16375 9007199254740992 18014398509481984, .mk 16 16367 18014398509481984 36028797018963968, .mk 0 16383 1 72057594037927936, .mk 64 16319 72057594037927936 144115188075855872, .mk 128 16255 144115188075855872 288230376151711744, .mk 256 16127 288230376151711744 576460752303423488, .mk 544 15839 612489549322387456 1152921504606846976, .mk 1 16382 1125899906842624 2305843009213693952, .mk 4095 14335 2305843009213693952 4611686018427387904, .mk 6143 11263 5764607523034234880 0] (.take 0 (.take 1 (.take 2 (.take 3 (.take 4 (.take 6 (.take 7 (.take 8 (.take 9 (.take 11 (.all (.last 5 (.take 10 (.take 12 (.all (.last 13 (.done))))))))))))))))))) (.node (.reg [0, 4, 5] (.draw [.mk 0 4095 1 9223372036854775808, .mk 1 4094 9223372036854775808 18446744073709551616, .mk 2 4093 18446744073709551616 36893488147419103232, .mk 4 4091 36893488147419103232 73786976294838206464, .mk 0 4095 1 147573952589676412928, .mk 16 4079 147573952589676412928 295147905179352825856, .mk 32 4063 295147905179352825856 590295810358705651712, .mk 64 4031 590295810358705651712 1180591620717411303424, .mk 136 3959 1254378597012249509888 2361183241434822606848, .mk 1 4094 9223372036854775808 4722366482869645213696, .mk 1023 3583 4722366482869645213696 9444732965739290427392, .mk 1535 2815 11805916207174113034240 0] (.take 0 (.take 1 (.take 2 (.take 3 (.take 4 (.take 5 (.take 6 (.take 7 (.take 8 (.take 9 (.take 10 (.all (.last 11 (.done)))))))))))))))) (.node (.reg [0, 4, 5] (.draw [.mk 0 16383 1 18889465931478580854784, .mk 0 16383 1 37778931862957161709568, .mk 2 16381 37778931862957161709568 75557863725914323419136, .mk 4 16379 75557863725914323419136 151115727451828646838272, .mk 8 16375 151115727451828646838272 302231454903657293676544, .mk 16 16367 302231454903657293676544 604462909807314587353088, .mk 0 16383 1 1208925819614629174706176, .mk 64 16319 1208925819614629174706176 2417851639229258349412352, .mk 128 16255 2417851639229258349412352 4835703278458516698824704, .mk 256 16127 4835703278458516698824704 9671406556917033397649408, .mk 544 15839 10275869466724347985002496 19342813113834066795298816, .mk 1 16382 18889465931478580854784 38685626227668133590597632, .mk 4095 14335 38685626227668133590597632 77371252455336267181195264, .mk 6143 11263 96714065569170333976494080 0] (.take 0 (.take 1 (.take 2 (.take 3 (.take 4 (.take 6 (.take 7 (.take 8 (.take 9 (.take 11 (.all (.last 5 (.take 10 (.take 12 (.all (.last 13 (.done))))))))))))))))))) (.node (.reg [0, 4, 5] (.draw [.mk 0 4095 1 154742504910672534362390528, .mk 1 4094 154742504910672534362390528 309485009821345068724781056, .mk 2 4093 309485009821345068724781056 618970019642690137449562112, .mk 4 4091 618970019642690137449562112 1237940039285380274899124224, .mk 0 4095 1 2475880078570760549798248448, .mk 16 4079 2475880078570760549798248448 4951760157141521099596496896, .mk 32 4063 4951760157141521099596496896 9903520314283042199192993792, .mk 64 4031 9903520314283042199192993792 19807040628566084398385987584, .mk 136 3959 21044980667851464673285111808 39614081257132168796771975168, .mk 1 4094 154742504910672534362390528 79228162514264337593543950336, .mk 1023 3583 79228162514264337593543950336 158456325028528675187087900672, .mk 1535 2815 198070406285660843983859875840 0] (.take 0 (.take 1 (.take 2 (.take 3 (.take 4 (.take 5 (.take 6 (.take 7 (.take 8 (.take 9 (.take 10 (.all (.last 11 (.done)))))))))))))))) (.node (.reg [0, 4, 5] (.draw [.mk 0 16383 1 316912650057057350374175801344, .mk 0 16383 1 633825300114114700748351602688, .mk 2 16381 633825300114114700748351602688 1267650600228229401496703205376, .mk 4 16379 1267650600228229401496703205376 2535301200456458802993406410752, .mk 8 16375 2535301200456458802993406410752 5070602400912917605986812821504, .mk 16 16367 5070602400912917605986812821504 10141204801825835211973625643008, .mk 0 16383 1 20282409603651670423947251286016, .mk 64 16319 20282409603651670423947251286016 40564819207303340847894502572032, .mk 128 16255 40564819207303340847894502572032 81129638414606681695789005144064, .mk 256 16127 81129638414606681695789005144064 162259276829213363391578010288128, .mk 544 15839 172400481631039198603551635931136 324518553658426726783156020576256, .mk 1 16382 316912650057057350374175801344 649037107316853453566312041152512, .mk 4095 14335 649037107316853453566312041152512 1298074214633706907132624082305024, .mk 6143 11263 1622592768292133633915780102881280 0] (.take 0 (.take 1 (.take 2 (.take 3 (.take 4 (.take 6 (.take 7 (.take 8 (.take 9 (.take 11 (.all (.last 5 (.take 10 (.take 12 (.all (.last 13 (.done))))))))))))))))))) (.reg [0, 4, 5] (.draw [.mk 0 511 1 2596148429267413814265248164610048, .mk 0 511 1 5192296858534827628530496329220096, .mk 2 509 5192296858534827628530496329220096 10384593717069655257060992658440192, .mk 4 507 10384593717069655257060992658440192 20769187434139310514121985316880384, .mk 8 503 20769187434139310514121985316880384 41538374868278621028243970633760768, .mk 16 495 41538374868278621028243970633760768 83076749736557242056487941267521536, .mk 1 510 2596148429267413814265248164610048 166153499473114484112975882535043072, .mk 127 447 166153499473114484112975882535043072 332306998946228968225951765070086144, .mk 191 351 415383748682786210282439706337607680 0] (.take 0 (.take 1 (.take 2 (.take 3 (.take 4 (.take 6 (.all (.last 5 (.take 7 (.all (.last 8 (.done))))))))))))))))))))))) (.reg [0, 4, 5] (.nil))))))
theorem E_sip_state_rounds (x0 : Option Addr) (x1 : Int) (K : Tup [] → Heap → Prop) (h0 : Heap) : F_sip_state_rounds x0 x1 K h0 = sBody PG Tryz.f97 (Tryz.f97.body.getD .skip) A_sip_state_rounds [.pointer x0, .int .i64 x1] [] K h0 := by kernel_rfl
theorem H_sip_state_rounds (x0 : Option Addr) (x1 : Int) {K : Tup [] → Heap → Prop} {h0 : Heap} (h : F_sip_state_rounds x0 x1 K h0) : HC PG f_sip_state_rounds [.pointer x0, .int .i64 x1] [] K h0 := HC.intro Tryz.mixed Tryz.func97 rfl Tryz.call97 (Nat.le_of_ble_eq_true rfl) ((E_sip_state_rounds x0 x1 K h0) ▸ h)
/-- (*quickset/node.Node).IsBucket -/
def F_node_Node_IsBucket (x0 : Option Addr) (K : (Bool) → Heap → Prop) (h0 : Heap) : Prop :=
  CondP (!(x0.isNone)) (
   ∃ a1 : Addr, x0 = some a1 ∧
   ∃ v2 : Bool, hcell h0 (adr a1 4) = some (.bool v2) ∧
   K v2 h0) (
   K false h0)
def A_node_Node_IsBucket : Ann := .node (.reg [0] (.nil)) (.node (.reg [2] (.nil)) (.nil))
theorem E_node_Node_IsBucket (x0 : Option Addr) (K : Tup [.c .bool] → Heap → Prop) (h0 : Heap) : F_node_Node_IsBucket x0 K h0 = sBody PG Tryz.f98 (Tryz.f98.body.getD .skip) A_node_Node_IsBucket [.pointer x0] [.c .bool] K h0 := by kernel_rfl
theorem H_node_Node_IsBucket (x0 : Option Addr) {K : Tup [.c .bool] → Heap → Prop} {h0 : Heap} (h : F_node_Node_IsBucket x0 K h0) : HC PG f_node_Node_IsBucket [.pointer x0] [.c .bool] K h0 := HC.intro Tryz.mixed Tryz.func98 rfl Tryz.call98 (Nat.le_of_ble_eq_true rfl) ((E_node_Node_IsBucket x0 K h0) ▸ h)
/-- (*quickset/node.Node).own -/
def F_node_Node_own (x0 : Option Addr) (x1 : Option Addr) (K : (Option Addr) → Heap → Prop) (h0 : Heap) : Prop :=
  HC PG f_node_Node_Owned [.pointer x0, .pointer x1] [.c .bool] (fun (e1 : Bool) h2 =>
   CondP e1 (
    K x0 h2) (
    ∃ a3 : Addr, x0 = some a3 ∧
    ∃ v4 : Int, hcell h2 (adr a3 0) = some (.int .u32 v4) ∧
    ∃ v5 : Int, hcell h2 (adr a3 1) = some (.int .u32 v5) ∧
    ∃ v6 : SliceV, hcell h2 (adr a3 2) = some (.slice v6.a v6.len v6.cap) ∧
    ∃ v7 : SliceV, hcell h2 (adr a3 3) = some (.slice v7.a v7.len v7.cap) ∧
    ∃ v8 : Bool, hcell h2 (adr a3 4) = some (.bool v8) ∧
    ∃ v9 : Option Addr, hcell h2 (adr a3 5) = some (.pointer v9) ∧
    At (hnew h2 [.int .u32 0, .int .u32 0, .slice none 0 0, .slice none 0 0, .bool false, .pointer none] t_node_Node) (fun h10 =>
     (WrS h10 (some (newA h2)) 0 [.int .u32 v4, .int .u32 v5, .slice v6.a v6.len v6.cap, .slice v7.a v7.len v7.cap, .bool v8, .pointer v9] ∧
      At (hsetL h10 (newA h2) 0 [.int .u32 v4, .int .u32 v5, .slice v6.a v6.len v6.cap, .slice v7.a v7.len v7.cap, .bool v8, .pointer v9]) (fun h11 =>
       ∃ a12 : Addr, x0 = some a12 ∧
       ∃ v13 : SliceV, hcell h11 (adr (adr a12 0) 2) = some (.slice v13.a v13.len v13.cap) ∧
       ∃ a14 : Addr, x0 = some a14 ∧
       ∃ v15 : SliceV, hcell h11 (adr (adr a14 0) 3) = some (.slice v15.a v15.len v15.cap) ∧
       HC PG f_slices_Clone_A_pair_Pair_pair_Pair [.slice v13.a v13.len v13.cap] [.c .slice] (fun (e16 : SliceV) h17 =>
        (hcell h17 (adr (adr a14 0) 3) = some (.slice v15.a v15.len v15.cap) ∧
         HC PG f_slices_Clone_A_P_node_Node_P_node_Node [.slice v15.a v15.len v15.cap] [.c .slice] (fun (e18 : SliceV) h19 =>
          (Wr h19 (adr (adr (newA h2) 0) 2) ∧
           At (hset h19 (adr (adr (newA h2) 0) 2) (.slice e16.a e16.len e16.cap)) (fun h20 =>
            (Wr h20 (adr (adr (newA h2) 0) 3) ∧
             At (hset h20 (adr (adr (newA h2) 0) 3) (.slice e18.a e18.len e18.cap)) (fun h21 =>
              (Wr h21 (adr (newA h2) 5) ∧
               At (hset h21 (adr (newA h2) 5) (.pointer none)) (fun h22 =>
                HC PG f_token_Token_Live [.pointer x1] [.c .bool] (fun (e23 : Bool) h24 =>
                 CondP e23 (
                  (Wr h24 (adr (newA h2) 5) ∧
                   At (hset h24 (adr (newA h2) 5) (.pointer x1)) (fun h25 =>
                    K (some (newA h2)) h25))) (
                  K (some (newA h2)) h24)) h22))))))) h17)) h11))))) h0
def A_node_Node_own : Ann := .node (.reg [0, 1] (.nil)) (.node (.node (.reg [0, 1, 8] (.nil)) (.node (.node (.reg [4] (.nil)) (.nil)) (.nil))) (.node (.reg [0, 1, 5] (.nil)) (.node (.reg [1, 5] (.draw [.mk 0 262143 1 8192, .mk 1 262142 8192 16384, .mk 2 262141 16384 32768, .mk 4 262139 32768 65536, .mk 8 262135 65536 131072, .mk 16 262127 131072 262144, .mk 0 262143 1 524288, .mk 64 262079 524288 1048576, .mk 128 262015 1048576 2097152, .mk 256 261887 2097152 4194304, .mk 512 261631 4194304 8388608, .mk 1056 261119 8388608 16777216, .mk 3135 262143 32 33554432, .mk 7231 258047 33554432 67108864, .mk 11327 253919 67371008 0, .mk 32767 262143 32 134217728, .mk 65535 229375 134217728 268435456, .mk 98303 194559 285212672 0] (.take 0 (.take 1 (.take 2 (.take 3 (.take 4 (.take 6 (.take 7 (.take 8 (.take 9 (.take 10 (.all (.last 5 (.all (.last 11 (.take 12 (.take 13 (.all (.last 14 (.take 15 (.take 16 (.all (.last 17 (.done))))))))))))))))))))))))) (.node (.reg [1, 5] (.nil)) (.node (.node (.reg [1, 5, 31] (.nil)) (.node (.reg [5] (.nil)) (.nil))) (.node (.reg [4] (.nil)) (.nil)))))))
theorem E_node_Node_own (x0 : Option Addr) (x1 : Option Addr) (K : Tup [.c .ptr] → Heap → Prop) (h0 : Heap) : F_node_Node_own x0 x1 K h0 = sBody PG Tryz.f99 (Tryz.f99.body.getD .skip) A_node_Node_own [.pointer x0, .pointer x1] [.c .ptr] K h0 := by kernel_rfl
theorem H_node_Node_own (x0 : Option Addr) (x1 : Option Addr) {K : Tup [.c .ptr] → Heap → Prop} {h0 : Heap} (h : F_node_Node_own x0 x1 K h0) : HC PG f_node_Node_own [.pointer x0, .pointer x1] [.c .ptr] K h0 := HC.intro Tryz.mixed Tryz.func99 rfl Tryz.call99 (Nat.le_of_ble_eq_true rfl) ((E_node_Node_own x0 x1 K h0) ▸ h)
/-- quickset/pair.Put -/
def F_pair_Put (x0 : SliceV) (x1 : ByteArray × ByteArray) (K : (SliceV) → Heap → Prop) (h0 : Heap) : Prop :=
  At (hnew h0 [.string x1.1, .string x1.2] t_pair_Pair) (fun h1 =>
   ∃ v2 : ByteArray, hcell h1 (adr (newA h0) 0) = some (.string v2) ∧
   HC PG f_pair_Find [.slice x0.a x0.len x0.cap, .string v2] [.c (.int .i64), .c .bool] (fun (e3 : Int × Bool) h4 =>
    (((0 : Int) ≤ e3.1 ∧ e3.1 ≤ ((x0.len : Nat) : Int)) ∧
     Join (fun (t9 : SliceV) h10 => -- rest(7)
      (((0 : Int) ≤ e3.1 ∧ e3.1 ≤ ((x0.cap : Nat) : Int)) ∧
       ∃ v11 : ByteArray, hcell h10 (adr (newA h0) 0) = some (.string v11) ∧
       ∃ v12 : ByteArray, hcell h10 (adr (newA h0) 1) = some (.string v12) ∧
       At (hnew h10 [.string v11, .string v12] t_pair_Pair) (fun h13 =>
        At (hnew h13 [.slice (subAddr x0.a 0 x0.cap 2) (e3.1.toNat - 0) (x0.cap - 0), .slice (some (newA h10)) 1 1, .slice t9.a t9.len t9.cap] t_A_pair_Pair) (fun h14 =>
         HC PG f_slices_Concat_A_pair_Pair_pair_Pair [.slice (some (newA h13)) 3 3] [.c .slice] (fun (e15 : SliceV) h16 =>
          K e15 h16) h14)))) (fun J5 =>
      CondP e3.2 (
       (((0 : Int) ≤ (IntKind.wrap .i64 (e3.1 + 1)) ∧ (IntKind.wrap .i64 (e3.1 + 1)) ≤ ((x0.len : Nat) : Int)) ∧
        Bd (subAddr x0.a ((IntKind.wrap .i64 (e3.1 + 1)).toNat) x0.cap 2 : Option Addr) (fun a6 => Bd (x0.len - ((IntKind.wrap .i64 (e3.1 + 1)).toNat) : Nat) (fun n7 => Bd (x0.cap - ((IntKind.wrap .i64 (e3.1 + 1)).toNat) : Nat) (fun n8 =>
           J5 ⟨a6, n7, n8⟩ h4))))) (
       J5 ⟨subAddr x0.a e3.1.toNat x0.cap 2, x0.len - e3.1.toNat, x0.cap - e3.1.toNat⟩ h4)))) h1)
def A_pair_Put : Ann := .node (.reg [0, 3] (.nil)) (.node (.reg [0, 3, 5, 6] (.nil)) (.node (.reg [0, 3, 5, 6, 7] (.nil)) (.join [0, 3, 5] [(7, .c .slice)] (.node (.reg [0, 3, 5, 7, 18] (.nil)) (.node (.reg [0, 3, 5, 7] (.nil)) (.nil))) (.node (.reg [4] (.draw [.mk 0 511 1 8388608, .mk 0 511 32 16777216, .mk 3 508 25165824 33554432, .mk 0 511 8 67108864, .mk 8 503 67108864 134217728, .mk 0 511 128 268435456, .mk 52 459 436207616 536870912, .mk 64 447 536870912 1073741824, .mk 255 383 1073741824 16] (.take 0 (.take 1 (.take 2 (.take 3 (.take 5 (.all (.last 4 (.all (.last 6 (.all (.last 7 (.take 8 (.done))))))))))))))) (.nil)))))
theorem E_pair_Put (x0 : SliceV) (x1 : ByteArray × ByteArray) (K : Tup [.c .slice] → Heap → Prop) (h0 : Heap) : F_pair_Put x0 x1 K h0 = sBody PG Tryz.f100 (Tryz.f100.body.getD .skip) A_pair_Put [.slice x0.a x0.len x0.cap, .agg #[.string x1.1, .string x1.2]] [.c .slice] K h0 := by kernel_rfl
theorem H_pair_Put (x0 : SliceV) (x1 : ByteArray × ByteArray) {K : Tup [.c .slice] → Heap → Prop} {h0 : Heap} (h : F_pair_Put x0 x1 K h0) : HC PG f_pair_Put [.slice x0.a x0.len x0.cap, .agg #[.string x1.1, .string x1.2]] [.c .slice] K h0 := HC.intro Tryz.mixed Tryz.func100 rfl Tryz.call100 (Nat.le_of_ble_eq_true rfl) ((E_pair_Put x0 x1 K h0) ▸ h)
/-- (*quickset/node.Node).inner -/
def F_node_Node_inner (x0 : Option Addr) (x1 : Int) (K : (Bool) → Heap → Prop) (h0 : Heap) : Prop :=
  CondP (!(x0.isNone)) (
   ∃ a1 : Addr, x0 = some a1 ∧
   ∃ v2 : Bool, hcell h0 (adr a1 4) = some (.bool v2) ∧
   CondP (!v2) (
    CondP (decide (x1 ≥ (0 : Int))) (
     K (decide (x1 < (32 : Int))) h0) (
     K false h0)) (
    K false h0)) (
   K false h0)
def A_node_Node_inner : Ann := .node (.reg [0, 1] (.nil)) (.node (.reg [4] (.nil)) (.nil))
theorem E_node_Node_inner (x0 : Option Addr) (x1 : Int) (K : Tup [.c .bool] → Heap → Prop) (h0 : Heap) : F_node_Node_inner x0 x1 K h0 = sBody PG Tryz.f103 (Tryz.f103.body.getD .skip) A_node_Node_inner [.pointer x0, .int .i64 x1] [.c .bool] K h0 := by kernel_rfl
theorem H_node_Node_inner (x0 : Option Addr) (x1 : Int) {K : Tup [.c .bool] → Heap → Prop} {h0 : Heap} (h : F_node_Node_inner x0 x1 K h0) : HC PG f_node_Node_inner [.pointer x0, .int .i64 x1] [.c .bool] K h0 := HC.intro Tryz.mixed Tryz.func103 rfl Tryz.call103 (Nat.le_of_ble_eq_true rfl) ((E_node_Node_inner x0 x1 K h0) ▸ h)
/-- (quickset/chunk.Bits).Has -/
def F_chunk_Bits_Has (x0 : Int) (x1 : Int) (K : (Bool) → Heap → Prop) (h0 : Heap) : Prop :=
  HC PG f_chunk_right [.int .i64 x1] [.c .bool] (fun (e1 : Bool) h2 =>
   CondP e1 (
    ((0 : Int) ≤ x1 ∧
     Bd (IntKind.wrap .u32 (BitVec.ofInt (IntKind.bits .u32) (Int.fdiv x0 (2 ^ (min (x1 : Int).toNat (IntKind.bits .u32)))) &&& BitVec.ofInt (IntKind.bits .u32) 1).toNat : Int) (fun n3 =>
      K (n3 == (1 : Int)) h2))) (
    K false h2)) h0
def A_chunk_Bits_Has : Ann := .node (.reg [0, 1] (.nil)) (.node (.reg [4] (.nil)) (.nil))
theorem E_chunk_Bits_Has (x0 : Int) (x1 : Int) (K : Tup [.c .bool] → Heap → Prop) (h0 : Heap) : F_chunk_Bits_Has x0 x1 K h0 = sBody PG Tryz.f104 (Tryz.f104.body.getD .skip) A_chunk_Bits_Has [.int .u32 x0, .int .i64 x1] [.c .bool] K h0 := by kernel_rfl
theorem H_chunk_Bits_Has (x0 : Int) (x1 : Int) {K : Tup [.c .bool] → Heap → Prop} {h0 : Heap} (h : F_chunk_Bits_Has x0 x1 K h0) : HC PG f_chunk_Bits_Has [.int .u32 x0, .int .i64 x1] [.c .bool] K h0 := HC.intro Tryz.mixed Tryz.func104 rfl Tryz.call104 (Nat.le_of_ble_eq_true rfl) ((E_chunk_Bits_Has x0 x1 K h0) ▸ h)
/-- (quickset/chunk.Bits).Rank -/
def F_chunk_Bits_Rank (x0 : Int) (x1 : Int) (K : (Int) → Heap → Prop) (h0 : Heap) : Prop :=
  CondP (decide (x1 ≤ (0 : Int))) (
   K 0 h0) (
   CondP (decide (x1 ≥ (32 : Int))) (
    HC PG f_chunk_Bits_Count [.int .u32 x0] [.c (.int .i64)] (fun (e1 : Int) h2 =>
     K e1 h2) h0) (
    ((0 : Int) ≤ x1 ∧
     Bd (IntKind.wrap .u32 ((IntKind.wrap .u32 (1 * 2 ^ (min (x1 : Int).toNat (IntKind.bits .u32)))) - 1) : Int) (fun n3 =>
      Bd (IntKind.wrap .u32 (BitVec.ofInt (IntKind.bits .u32) x0 &&& BitVec.ofInt (IntKind.bits .u32) n3).toNat : Int) (fun n4 =>
       HC PG f_chunk_Bits_Count [.int .u32 n4] [.c (.int .i64)] (fun (e5 : Int) h6 =>
        K e5 h6) h0)))))
def A_chunk_Bits_Rank : Ann := .node (.reg [0, 1] (.nil)) (.node (.node (.reg [0, 1, 5] (.nil)) (.node (.node (.reg [4] (.nil)) (.nil)) (.node (.reg [0, 1, 8] (.nil)) (.node (.node (.reg [4] (.nil)) (.nil)) (.nil))))) (.node (.reg [4] (.nil)) (.nil)))
theorem E_chunk_Bits_Rank (x0 : Int) (x1 : Int) (K : Tup [.c (.int .i64)] → Heap → Prop) (h0 : Heap) : F_chunk_Bits_Rank x0 x1 K h0 = sBody PG Tryz.f105 (Tryz.f105.body.getD .skip) A_chunk_Bits_Rank [.int .u32 x0, .int .i64 x1] [.c (.int .i64)] K h0 := by kernel_rfl
theorem H_chunk_Bits_Rank (x0 : Int) (x1 : Int) {K : Tup [.c (.int .i64)] → Heap → Prop} {h0 : Heap} (h : F_chunk_Bits_Rank x0 x1 K h0) : HC PG f_chunk_Bits_Rank [.int .u32 x0, .int .i64 x1] [.c (.int .i64)] K h0 := HC.intro Tryz.mixed Tryz.func105 rfl Tryz.call105 (Nat.le_of_ble_eq_true rfl) ((E_chunk_Bits_Rank x0 x1 K h0) ▸ h)
/-- (*quickset/node.slots).drop -/
def F_node_slots_drop (x0 : Option Addr) (x1 : Int) (K : (Unit) → Heap → Prop) (h0 : Heap) : Prop :=
  Join (fun (t16 : Unit) h17 => -- 
   Join (fun (t33 : Unit) h34 => -- 
    ∃ a35 : Addr, x0 = some a35 ∧
    ∃ v36 : Int, hcell h34 (adr a35 0) = some (.int .u32 v36) ∧
    ∃ a37 : Addr, x0 = some a37 ∧
    ∃ v38 : Int, hcell h34 (adr a37 1) = some (.int .u32 v38) ∧
    HC PG f_chunk_Bits_Without [.int .u32 v36, .int .i64 x1] [.c (.int .u32)] (fun (e39 : Int) h40 =>
     (hcell h40 (adr a37 1) = some (.int .u32 v38) ∧
      HC PG f_chunk_Bits_Without [.int .u32 v38, .int .i64 x1] [.c (.int .u32)] (fun (e41 : Int) h42 =>
       ∃ a43 : Addr, x0 = some a43 ∧
       (Wr h42 (adr a43 0) ∧
        At (hset h42 (adr a43 0) (.int .u32 e39)) (fun h44 =>
         ∃ a45 : Addr, x0 = some a45 ∧
         (Wr h44 (adr a45 1) ∧
          At (hset h44 (adr a45 1) (.int .u32 e41)) (fun h46 =>
           K () h46))))) h40)) h34) (fun J18 =>
    ∃ a19 : Addr, x0 = some a19 ∧
    ∃ v20 : Int, hcell h17 (adr a19 1) = some (.int .u32 v20) ∧
    HC PG f_chunk_Bits_Has [.int .u32 v20, .int .i64 x1] [.c .bool] (fun (e21 : Bool) h22 =>
     CondP e21 (
      ∃ a23 : Addr, x0 = some a23 ∧
      ∃ v24 : Int, hcell h22 (adr a23 1) = some (.int .u32 v24) ∧
      HC PG f_chunk_Bits_Rank [.int .u32 v24, .int .i64 x1] [.c (.int .i64)] (fun (e25 : Int) h26 =>
       ∃ a27 : Addr, x0 = some a27 ∧
       ∃ v28 : SliceV, hcell h26 (adr a27 3) = some (.slice v28.a v28.len v28.cap) ∧
       HC PG f_slices_Delete_A_P_node_Node_P_node_Node [.slice v28.a v28.len v28.cap, .int .i64 e25, .int .i64 (IntKind.wrap .i64 (e25 + 1))] [.c .slice] (fun (e29 : SliceV) h30 =>
        ∃ a31 : Addr, x0 = some a31 ∧
        (Wr h30 (adr a31 3) ∧
         At (hset h30 (adr a31 3) (.slice e29.a e29.len e29.cap)) (fun h32 =>
          J18 () h32))) h26) h22) (
      J18 () h22)) h17)) (fun J1 =>
   ∃ a2 : Addr, x0 = some a2 ∧
   ∃ v3 : Int, hcell h0 (adr a2 0) = some (.int .u32 v3) ∧
   HC PG f_chunk_Bits_Has [.int .u32 v3, .int .i64 x1] [.c .bool] (fun (e4 : Bool) h5 =>
    CondP e4 (
     ∃ a6 : Addr, x0 = some a6 ∧
     ∃ v7 : Int, hcell h5 (adr a6 0) = some (.int .u32 v7) ∧
     HC PG f_chunk_Bits_Rank [.int .u32 v7, .int .i64 x1] [.c (.int .i64)] (fun (e8 : Int) h9 =>
      ∃ a10 : Addr, x0 = some a10 ∧
      ∃ v11 : SliceV, hcell h9 (adr a10 2) = some (.slice v11.a v11.len v11.cap) ∧
      HC PG f_slices_Delete_A_pair_Pair_pair_Pair [.slice v11.a v11.len v11.cap, .int .i64 e8, .int .i64 (IntKind.wrap .i64 (e8 + 1))] [.c .slice] (fun (e12 : SliceV) h13 =>
       ∃ a14 : Addr, x0 = some a14 ∧
       (Wr h13 (adr a14 2) ∧
        At (hset h13 (adr a14 2) (.slice e12.a e12.len e12.cap)) (fun h15 =>
         J1 () h15))) h9) h5) (
     J1 () h5)) h0)
def A_node_slots_drop : Ann := .join [0, 1] [] (.node (.reg [0, 1, 11] (.nil)) (.node (.node (.reg [0, 1, 4] (.nil)) (.reg [0, 1] (.nil))) (.nil))) (.join [0, 1] [] (.node (.reg [0, 1, 34] (.nil)) (.node (.node (.reg [0, 1, 5] (.nil)) (.reg [0, 1] (.nil))) (.nil))) (.reg [] (.draw [.mk 0 1048575 1 4503599627370496, .mk 0 1048575 1 9007199254740992, .mk 0 1048575 1 18014398509481984, .mk 4 1048571 18014398509481984 36028797018963968, .mk 8 1048567 36028797018963968 72057594037927936, .mk 16 1048559 72057594037927936 144115188075855872, .mk 0 1048575 2 288230376151711744, .mk 96 1048479 432345564227567616 576460752303423488, .mk 0 1048575 1 1152921504606846976, .mk 256 1048319 1152921504606846976 2305843009213693952, .mk 512 1048063 2305843009213693952 4611686018427387904, .mk 1024 1047551 4611686018427387904 9223372036854775808, .mk 0 1048575 2 18446744073709551616, .mk 6272 1042431 27670116110564327424 36893488147419103232, .mk 10493 1048574 4503599627370496 73786976294838206464, .mk 26877 1032191 73786976294838206464 147573952589676412928, .mk 43261 1015679 148150413341979836416 0, .mk 131071 1048573 9007199254740992 295147905179352825856, .mk 262143 917503 295147905179352825856 590295810358705651712, .mk 393215 778239 627189298506124754944 0] (.take 0 (.take 1 (.take 2 (.take 3 (.take 4 (.take 5 (.take 6 (.take 8 (.take 9 (.take 10 (.take 11 (.take 12 (.all (.last 7 (.all (.last 13 (.take 14 (.take 15 (.all (.last 16 (.take 17 (.take 18 (.all (.last 19 (.done))))))))))))))))))))))))))))
theorem E_node_slots_drop (x0 : Option Addr) (x1 : Int) (K : Tup [] → Heap → Prop) (h0 : Heap) : F_node_slots_drop x0 x1 K h0 = sBody PG Tryz.f106 (Tryz.f106.body.getD .skip) A_node_slots_drop [.pointer x0, .int .i64 x1] [] K h0 := by kernel_rfl
theorem H_node_slots_drop (x0 : Option Addr) (x1 : Int) {K : Tup [] → Heap → Prop} {h0 : Heap} (h : F_node_slots_drop x0 x1 K h0) : HC PG f_node_slots_drop [.pointer x0, .int .i64 x1] [] K h0 := HC.intro Tryz.mixed Tryz.func106 rfl Tryz.call106 (Nat.le_of_ble_eq_true rfl) ((E_node_slots_drop x0 x1 K h0) ▸ h)
/-- slices.Insert[[]quickset/pair.Pair,quickset/pair.Pair] -/
def F_slices_Insert_A_pair_Pair_pair_Pair (x0 : SliceV) (x1 : Int) (x2 : SliceV) (K : (SliceV) → Heap → Prop) (h0 : Heap) : Prop :=
  (((0 : Int) ≤ x1 ∧ x1 ≤ ((x0.len : Nat) : Int)) ∧
   CondP ((x2.len : Int) == (0 : Int)) (
    K x0 h0) (
    CondP (x1 == (x0.len : Int)) (
     ∃ xs1, SRow h0 x2.a (x2.len * 2) xs1 ∧
     AppP (some [.string (⟨#[]⟩ : ByteArray), .string (⟨#[]⟩ : ByteArray)]) 2 32 t_pair_Pair x0.a x0.len x0.cap x2.len xs1 h0 (fun s2 h3 =>
      K s2 h3)) (
     CondP (decide ((IntKind.wrap .i64 ((x0.len : Int) + (x2.len : Int))) > (x0.cap : Int))) (
      Join (fun (t8 : SliceV) h9 => -- s2(9)
       (((0 : Int) ≤ x1 ∧ x1 ≤ ((t8.len : Nat) : Int)) ∧
        ∃ xs10, SRow h9 x2.a (Nat.min x2.len (t8.len - x1.toNat) * 2) xs10 ∧ WrS h9 (subAddr t8.a x1.toNat t8.cap 2) 0 xs10 ∧ oneCell xs10 = true ∧
        At (hsetS h9 (subAddr t8.a x1.toNat t8.cap 2) 0 xs10) (fun h11 =>
         (((0 : Int) ≤ (IntKind.wrap .i64 (x1 + (x2.len : Int))) ∧ (IntKind.wrap .i64 (x1 + (x2.len : Int))) ≤ ((t8.len : Nat) : Int)) ∧
          Bd (subAddr t8.a ((IntKind.wrap .i64 (x1 + (x2.len : Int))).toNat) t8.cap 2 : Option Addr) (fun a12 => Bd (t8.len - ((IntKind.wrap .i64 (x1 + (x2.len : Int))).toNat) : Nat) (fun n13 => Bd (t8.cap - ((IntKind.wrap .i64 (x1 + (x2.len : Int))).toNat) : Nat) (fun n14 =>
             (((0 : Int) ≤ x1 ∧ x1 ≤ ((x0.len : Nat) : Int)) ∧
              ∃ xs15, SRow h11 (subAddr x0.a x1.toNat x0.cap 2) (Nat.min (x0.len - x1.toNat) n13 * 2) xs15 ∧ WrS h11 a12 0 xs15 ∧ oneCell xs15 = true ∧
              At (hsetS h11 a12 0 xs15) (fun h16 =>
               K t8 h16))))))))) (fun J4 =>
       (((0 : Int) ≤ x1 ∧ x1 ≤ ((x0.cap : Nat) : Int)) ∧
        Bd (IntKind.wrap .i64 ((IntKind.wrap .i64 ((x0.len : Int) + (x2.len : Int))) - x1) : Int) (fun n5 =>
         (((0 : Int) ≤ n5 ∧ n5 * ((32 : Nat) : Int) ≤ 2 ^ 48 ∧ n5 ≤ 9223372036854775807 ∧ (((x1.toNat - 0) + n5.toNat : Nat) : Int) ≤ 9223372036854775807) ∧
          AppP (some [.string (⟨#[]⟩ : ByteArray), .string (⟨#[]⟩ : ByteArray)]) 2 32 t_pair_Pair (subAddr x0.a 0 x0.cap 2) (x1.toNat - 0) (x0.cap - 0) n5.toNat (zrow n5.toNat [.string (⟨#[]⟩ : ByteArray), .string (⟨#[]⟩ : ByteArray)]) h0 (fun s6 h7 =>
           J4 s6 h7)))))) (
      (((0 : Int) ≤ (IntKind.wrap .i64 ((x0.len : Int) + (x2.len : Int))) ∧ (IntKind.wrap .i64 ((x0.len : Int) + (x2.len : Int))) ≤ ((x0.cap : Nat) : Int)) ∧
       Bd (subAddr x0.a 0 x0.cap 2 : Option Addr) (fun a17 => Bd (((IntKind.wrap .i64 ((x0.len : Int) + (x2.len : Int))).toNat) - 0 : Nat) (fun n18 => Bd (x0.cap - 0 : Nat) (fun n19 =>
          (((0 : Int) ≤ (IntKind.wrap .i64 (x1 + (x2.len : Int))) ∧ (IntKind.wrap .i64 (x1 + (x2.len : Int))) ≤ ((n18 : Nat) : Int)) ∧
           Bd (subAddr a17 ((IntKind.wrap .i64 (x1 + (x2.len : Int))).toNat) n19 2 : Option Addr) (fun a20 => Bd (n18 - ((IntKind.wrap .i64 (x1 + (x2.len : Int))).toNat) : Nat) (fun n21 => Bd (n19 - ((IntKind.wrap .i64 (x1 + (x2.len : Int))).toNat) : Nat) (fun n22 =>
              HC PG f_slices_overlaps_pair_Pair [.slice x2.a x2.len x2.cap, .slice a20 n21 n22] [.c .bool] (fun (e23 : Bool) h24 =>
               CondP (!e23) (
                (((0 : Int) ≤ (IntKind.wrap .i64 (x1 + (x2.len : Int))) ∧ (IntKind.wrap .i64 (x1 + (x2.len : Int))) ≤ ((n18 : Nat) : Int)) ∧
                 Bd (subAddr a17 ((IntKind.wrap .i64 (x1 + (x2.len : Int))).toNat) n19 2 : Option Addr) (fun a25 => Bd (n18 - ((IntKind.wrap .i64 (x1 + (x2.len : Int))).toNat) : Nat) (fun n26 => Bd (n19 - ((IntKind.wrap .i64 (x1 + (x2.len : Int))).toNat) : Nat) (fun n27 =>
                    (((0 : Int) ≤ x1 ∧ x1 ≤ ((n18 : Nat) : Int)) ∧
                     ∃ xs28, SRow h24 (subAddr a17 x1.toNat n19 2) (Nat.min (n18 - x1.toNat) n26 * 2) xs28 ∧ WrS h24 a25 0 xs28 ∧ oneCell xs28 = true ∧
                     At (hsetS h24 a25 0 xs28) (fun h29 =>
                      (((0 : Int) ≤ x1 ∧ x1 ≤ ((n18 : Nat) : Int)) ∧
                       ∃ xs30, SRow h29 x2.a (Nat.min x2.len (n18 - x1.toNat) * 2) xs30 ∧ WrS h29 (subAddr a17 x1.toNat n19 2) 0 xs30 ∧ oneCell xs30 = true ∧
                       At (hsetS h29 (subAddr a17 x1.toNat n19 2) 0 xs30) (fun h31 =>
                        K ⟨a17, n18, n19⟩ h31))))))))) (
                (((0 : Int) ≤ (x0.len : Int) ∧ (x0.len : Int) ≤ ((n18 : Nat) : Int)) ∧
                 ∃ xs32, SRow h24 x2.a (Nat.min x2.len (n18 - ((x0.len : Int).toNat)) * 2) xs32 ∧ WrS h24 (subAddr a17 ((x0.len : Int).toNat) n19 2) 0 xs32 ∧ oneCell xs32 = true ∧
                 At (hsetS h24 (subAddr a17 ((x0.len : Int).toNat) n19 2) 0 xs32) (fun h33 =>
                  (((0 : Int) ≤ x1 ∧ x1 ≤ ((n18 : Nat) : Int)) ∧
                   HC PG f_slices_rotateRight_pair_Pair [.slice (subAddr a17 x1.toNat n19 2) (n18 - x1.toNat) (n19 - x1.toNat), .int .i64 (x2.len : Int)] [] (fun (e34 : Unit) h35 =>
                    K ⟨a17, n18, n19⟩ h35) h33))))) h0))))))))))))
def A_slices_Insert_A_pair_Pair_pair_Pair : Ann := .node (.reg [0, 1, 2] (.nil)) (.node (.reg [0, 1, 2] (.nil)) (.node (.reg [0, 1, 2, 7] (.nil)) (.node (.node (.reg [0, 1, 2, 7, 16] (.nil)) (.node (.node (.reg [6] (.nil)) (.nil)) (.nil))) (.node (.reg [0, 1, 2, 7, 8] (.nil)) (.node (.node (.reg [0, 1, 2, 7, 8, 22] (.nil)) (.node (.node (.reg [6] (.nil)) (.nil)) (.nil))) (.node (.node (.reg [0, 1, 2, 7, 8, 31] (.nil)) (.node (.join [0, 1, 2, 7] [(9, .c .slice)] (.reg [0, 1, 2, 7, 9] (.nil)) (.node (.reg [0, 1, 7, 9] (.nil)) (.node (.reg [9] (.draw [.mk 0 511 512 70368744177664, .mk 0 511 2 140737488355328, .mk 0 511 128 281474976710656, .mk 6 505 422212465065984 562949953421312, .mk 9 502 633318697598976 1125899906842624, .mk 0 511 1 2251799813685248, .mk 0 511 2 4503599627370496, .mk 96 415 6755399441055744 9007199254740992, .mk 144 367 10133099161583616 18014398509481984] (.take 0 (.take 1 (.take 2 (.take 3 (.take 4 (.take 5 (.take 6 (.take 7 (.all (.last 8 (.done))))))))))))) (.node (.reg [6] (.nil)) (.nil))))) (.nil))) (.node (.reg [0, 1, 2, 7, 8] (.nil)) (.node (.node (.reg [0, 1, 2, 7, 8, 68] (.nil)) (.node (.node (.reg [0, 1, 2] (.draw [.mk 0 511 1 590295810358705651712, .mk 0 511 2 1180591620717411303424, .mk 0 511 128 2361183241434822606848, .mk 6 505 3541774862152233910272 4722366482869645213696, .mk 9 502 5312662293228350865408 9444732965739290427392, .mk 0 511 1 18889465931478580854784, .mk 0 511 2 37778931862957161709568, .mk 96 415 56668397794435742564352 75557863725914323419136, .mk 144 367 85002596691653613846528 151115727451828646838272] (.take 0 (.take 1 (.take 2 (.take 3 (.take 4 (.take 5 (.take 6 (.take 7 (.all (.last 8 (.done))))))))))))) (.node (.reg [0] (.nil)) (.node (.reg [6] (.nil)) (.nil)))) (.nil))) (.node (.reg [0, 1, 7] (.nil)) (.node (.reg [0] (.nil)) (.node (.reg [6] (.nil)) (.nil))))))))))))
theorem E_slices_Insert_A_pair_Pair_pair_Pair (x0 : SliceV) (x1 : Int) (x2 : SliceV) (K : Tup [.c .slice] → Heap → Prop) (h0 : Heap) : F_slices_Insert_A_pair_Pair_pair_Pair x0 x1 x2 K h0 = sBody PG Tryz.f107 (Tryz.f107.body.getD .skip) A_slices_Insert_A_pair_Pair_pair_Pair [.slice x0.a x0.len x0.cap, .int .i64 x1, .slice x2.a x2.len x2.cap] [.c .slice] K h0 := by kernel_rfl
theorem H_slices_Insert_A_pair_Pair_pair_Pair (x0 : SliceV) (x1 : Int) (x2 : SliceV) {K : Tup [.c .slice] → Heap → Prop} {h0 : Heap} (h : F_slices_Insert_A_pair_Pair_pair_Pair x0 x1 x2 K h0) : HC PG f_slices_Insert_A_pair_Pair_pair_Pair [.slice x0.a x0.len x0.cap, .int .i64 x1, .slice x2.a x2.len x2.cap] [.c .slice] K h0 := HC.intro Tryz.mixed Tryz.func107 rfl Tryz.call107 (Nat.le_of_ble_eq_true rfl) ((E_slices_Insert_A_pair_Pair_pair_Pair x0 x1 x2 K h0) ▸ h)
/-- (quickset/chunk.Bits).With -/
def F_chunk_Bits_With (x0 : Int) (x1 : Int) (K : (Int) → Heap → Prop) (h0 : Heap) : Prop :=
  HC PG f_chunk_right [.int .i64 x1] [.c .bool] (fun (e1 : Bool) h2 =>
   CondP (!e1) (
    K x0 h2) (
    ((0 : Int) ≤ x1 ∧
     Bd (IntKind.wrap .u32 (BitVec.ofInt (IntKind.bits .u32) x0 ||| BitVec.ofInt (IntKind.bits .u32) (IntKind.wrap .u32 (1 * 2 ^ (min (x1 : Int).toNat (IntKind.bits .u32))))).toNat : Int) (fun n3 =>
      K n3 h2)))) h0
def A_chunk_Bits_With : Ann := .node (.reg [0, 1] (.nil)) (.node (.node (.reg [0, 1, 7] (.nil)) (.node (.node (.reg [4] (.nil)) (.nil)) (.nil))) (.node (.reg [4] (.nil)) (.nil)))
theorem E_chunk_Bits_With (x0 : Int) (x1 : Int) (K : Tup [.c (.int .u32)] → Heap → Prop) (h0 : Heap) : F_chunk_Bits_With x0 x1 K h0 = sBody PG Tryz.f108 (Tryz.f108.body.getD .skip) A_chunk_Bits_With [.int .u32 x0, .int .i64 x1] [.c (.int .u32)] K h0 := by kernel_rfl
theorem H_chunk_Bits_With (x0 : Int) (x1 : Int) {K : Tup [.c (.int .u32)] → Heap → Prop} {h0 : Heap} (h : F_chunk_Bits_With x0 x1 K h0) : HC PG f_chunk_Bits_With [.int .u32 x0, .int .i64 x1] [.c (.int .u32)] K h0 := HC.intro Tryz.mixed Tryz.func108 rfl Tryz.call108 (Nat.le_of_ble_eq_true rfl) ((E_chunk_Bits_With x0 x1 K h0) ▸ h)
/-- (*quickset/node.Node).Clear -/
def F_node_Node_Clear (x0 : Option Addr) (x1 : Option Addr) (x2 : Int) (K : (Option Addr) → Heap → Prop) (h0 : Heap) : Prop :=
  HC PG f_node_Node_inner [.pointer x0, .int .i64 x2] [.c .bool] (fun (e1 : Bool) h2 =>
   CondP (!e1) (
    K x0 h2) (
    HC PG f_node_Node_own [.pointer x0, .pointer x1] [.c .ptr] (fun (e3 : Option Addr) h4 =>
     ∃ a5 : Addr, e3 = some a5 ∧
     HC PG f_node_slots_drop [.pointer (some (adr a5 0)), .int .i64 x2] [] (fun (e6 : Unit) h7 =>
      K e3 h7) h4) h2)) h0
def A_node_Node_Clear : Ann := .node (.reg [0, 1, 2] (.nil)) (.node (.node (.reg [0, 1, 2, 11] (.nil)) (.node (.node (.reg [6] (.nil)) (.nil)) (.nil))) (.node (.reg [2, 7] (.nil)) (.node (.reg [7] (.nil)) (.node (.reg [6] (.nil)) (.nil)))))
theorem E_node_Node_Clear (x0 : Option Addr) (x1 : Option Addr) (x2 : Int) (K : Tup [.c .ptr] → Heap → Prop) (h0 : Heap) : F_node_Node_Clear x0 x1 x2 K h0 = sBody PG Tryz.f109 (Tryz.f109.body.getD .skip) A_node_Node_Clear [.pointer x0, .pointer x1, .int .i64 x2] [.c .ptr] K h0 := by kernel_rfl
theorem H_node_Node_Clear (x0 : Option Addr) (x1 : Option Addr) (x2 : Int) {K : Tup [.c .ptr] → Heap → Prop} {h0 : Heap} (h : F_node_Node_Clear x0 x1 x2 K h0) : HC PG f_node_Node_Clear [.pointer x0, .pointer x1, .int .i64 x2] [.c .ptr] K h0 := HC.intro Tryz.mixed Tryz.func109 rfl Tryz.call109 (Nat.le_of_ble_eq_true rfl) ((E_node_Node_Clear x0 x1 x2 K h0) ▸ h)
/-- slices.Insert[[]*quickset/node.Node,*quickset/node.Node] -/
def F_slices_Insert_A_P_node_Node_P_node_Node (x0 : SliceV) (x1 : Int) (x2 : SliceV) (K : (SliceV) → Heap → Prop) (h0 : Heap) : Prop :=
  (((0 : Int) ≤ x1 ∧ x1 ≤ ((x0.len : Nat) : Int)) ∧
   CondP ((x2.len : Int) == (0 : Int)) (
    K x0 h0) (
    CondP (x1 == (x0.len : Int)) (
     ∃ xs1, SRow h0 x2.a (x2.len * 1) xs1 ∧
     AppP (some [.pointer none]) 1 8 t_P_node_Node x0.a x0.len x0.cap x2.len xs1 h0 (fun s2 h3 =>
      K s2 h3)) (
     CondP (decide ((IntKind.wrap .i64 ((x0.len : Int) + (x2.len : Int))) > (x0.cap : Int))) (
      Join (fun (t8 : SliceV) h9 => -- s2(9)
       (((0 : Int) ≤ x1 ∧ x1 ≤ ((t8.len : Nat) : Int)) ∧
        ∃ xs10, SRow h9 x2.a (Nat.min x2.len (t8.len - x1.toNat) * 1) xs10 ∧ WrS h9 (subAddr t8.a x1.toNat t8.cap 1) 0 xs10 ∧ oneCell xs10 = true ∧
        At (hsetS h9 (subAddr t8.a x1.toNat t8.cap 1) 0 xs10) (fun h11 =>
         (((0 : Int) ≤ (IntKind.wrap .i64 (x1 + (x2.len : Int))) ∧ (IntKind.wrap .i64 (x1 + (x2.len : Int))) ≤ ((t8.len : Nat) : Int)) ∧
          Bd (subAddr t8.a ((IntKind.wrap .i64 (x1 + (x2.len : Int))).toNat) t8.cap 1 : Option Addr) (fun a12 => Bd (t8.len - ((IntKind.wrap .i64 (x1 + (x2.len : Int))).toNat) : Nat) (fun n13 => Bd (t8.cap - ((IntKind.wrap .i64 (x1 + (x2.len : Int))).toNat) : Nat) (fun n14 =>
             (((0 : Int) ≤ x1 ∧ x1 ≤ ((x0.len : Nat) : Int)) ∧
              ∃ xs15, SRow h11 (subAddr x0.a x1.toNat x0.cap 1) (Nat.min (x0.len - x1.toNat) n13 * 1) xs15 ∧ WrS h11 a12 0 xs15 ∧ oneCell xs15 = true ∧
              At (hsetS h11 a12 0 xs15) (fun h16 =>
               K t8 h16))))))))) (fun J4 =>
       (((0 : Int) ≤ x1 ∧ x1 ≤ ((x0.cap : Nat) : Int)) ∧
        Bd (IntKind.wrap .i64 ((IntKind.wrap .i64 ((x0.len : Int) + (x2.len : Int))) - x1) : Int) (fun n5 =>
         (((0 : Int) ≤ n5 ∧ n5 * ((8 : Nat) : Int) ≤ 2 ^ 48 ∧ n5 ≤ 9223372036854775807 ∧ (((x1.toNat - 0) + n5.toNat : Nat) : Int) ≤ 9223372036854775807) ∧
          AppP (some [.pointer none]) 1 8 t_P_node_Node (subAddr x0.a 0 x0.cap 1) (x1.toNat - 0) (x0.cap - 0) n5.toNat (zrow n5.toNat [.pointer none]) h0 (fun s6 h7 =>
           J4 s6 h7)))))) (
      (((0 : Int) ≤ (IntKind.wrap .i64 ((x0.len : Int) + (x2.len : Int))) ∧ (IntKind.wrap .i64 ((x0.len : Int) + (x2.len : Int))) ≤ ((x0.cap : Nat) : Int)) ∧
       Bd (subAddr x0.a 0 x0.cap 1 : Option Addr) (fun a17 => Bd (((IntKind.wrap .i64 ((x0.len : Int) + (x2.len : Int))).toNat) - 0 : Nat) (fun n18 => Bd (x0.cap - 0 : Nat) (fun n19 =>
          (((0 : Int) ≤ (IntKind.wrap .i64 (x1 + (x2.len : Int))) ∧ (IntKind.wrap .i64 (x1 + (x2.len : Int))) ≤ ((n18 : Nat) : Int)) ∧
           Bd (subAddr a17 ((IntKind.wrap .i64 (x1 + (x2.len : Int))).toNat) n19 1 : Option Addr) (fun a20 => Bd (n18 - ((IntKind.wrap .i64 (x1 + (x2.len : Int))).toNat) : Nat) (fun n21 => Bd (n19 - ((IntKind.wrap .i64 (x1 + (x2.len : Int))).toNat) : Nat) (fun n22 =>
              HC PG f_slices_overlaps_P_node_Node [.slice x2.a x2.len x2.cap, .slice a20 n21 n22] [.c .bool] (fun (e23 : Bool) h24 =>
               CondP (!e23) (
                (((0 : Int) ≤ (IntKind.wrap .i64 (x1 + (x2.len : Int))) ∧ (IntKind.wrap .i64 (x1 + (x2.len : Int))) ≤ ((n18 : Nat) : Int)) ∧
                 Bd (subAddr a17 ((IntKind.wrap .i64 (x1 + (x2.len : Int))).toNat) n19 1 : Option Addr) (fun a25 => Bd (n18 - ((IntKind.wrap .i64 (x1 + (x2.len : Int))).toNat) : Nat) (fun n26 => Bd (n19 - ((IntKind.wrap .i64 (x1 + (x2.len : Int))).toNat) : Nat) (fun n27 =>
                    (((0 : Int) ≤ x1 ∧ x1 ≤ ((n18 : Nat) : Int)) ∧
                     ∃ xs28, SRow h24 (subAddr a17 x1.toNat n19 1) (Nat.min (n18 - x1.toNat) n26 * 1) xs28 ∧ WrS h24 a25 0 xs28 ∧ oneCell xs28 = true ∧
                     At (hsetS h24 a25 0 xs28) (fun h29 =>
                      (((0 : Int) ≤ x1 ∧ x1 ≤ ((n18 : Nat) : Int)) ∧
                       ∃ xs30, SRow h29 x2.a (Nat.min x2.len (n18 - x1.toNat) * 1) xs30 ∧ WrS h29 (subAddr a17 x1.toNat n19 1) 0 xs30 ∧ oneCell xs30 = true ∧
                       At (hsetS h29 (subAddr a17 x1.toNat n19 1) 0 xs30) (fun h31 =>
                        K ⟨a17, n18, n19⟩ h31))))))))) (
                (((0 : Int) ≤ (x0.len : Int) ∧ (x0.len : Int) ≤ ((n18 : Nat) : Int)) ∧
                 ∃ xs32, SRow h24 x2.a (Nat.min x2.len (n18 - ((x0.len : Int).toNat)) * 1) xs32 ∧ WrS h24 (subAddr a17 ((x0.len : Int).toNat) n19 1) 0 xs32 ∧ oneCell xs32 = true ∧
                 At (hsetS h24 (subAddr a17 ((x0.len : Int).toNat) n19 1) 0 xs32) (fun h33 =>
                  (((0 : Int) ≤ x1 ∧ x1 ≤ ((n18 : Nat) : Int)) ∧
                   HC PG f_slices_rotateRight_P_node_Node [.slice (subAddr a17 x1.toNat n19 1) (n18 - x1.toNat) (n19 - x1.toNat), .int .i64 (x2.len : Int)] [] (fun (e34 : Unit) h35 =>
                    K ⟨a17, n18, n19⟩ h35) h33))))) h0))))))))))))
def A_slices_Insert_A_P_node_Node_P_node_Node : Ann := .node (.reg [0, 1, 2] (.nil)) (.node (.reg [0, 1, 2] (.nil)) (.node (.reg [0, 1, 2, 7] (.nil)) (.node (.node (.reg [0, 1, 2, 7, 16] (.nil)) (.node (.node (.reg [6] (.nil)) (.nil)) (.nil))) (.node (.reg [0, 1, 2, 7, 8] (.nil)) (.node (.node (.reg [0, 1, 2, 7, 8, 22] (.nil)) (.node (.node (.reg [6] (.nil)) (.nil)) (.nil))) (.node (.node (.reg [0, 1, 2, 7, 8, 31] (.nil)) (.node (.join [0, 1, 2, 7] [(9, .c .slice)] (.reg [0, 1, 2, 7, 9] (.nil)) (.node (.reg [0, 1, 7, 9] (.nil)) (.node (.reg [9] (.draw [.mk 0 511 512 70368744177664, .mk 0 511 2 140737488355328, .mk 0 511 128 281474976710656, .mk 6 505 422212465065984 562949953421312, .mk 9 502 633318697598976 1125899906842624, .mk 0 511 1 2251799813685248, .mk 0 511 2 4503599627370496, .mk 96 415 6755399441055744 9007199254740992, .mk 144 367 10133099161583616 18014398509481984] (.take 0 (.take 1 (.take 2 (.take 3 (.take 4 (.take 5 (.take 6 (.take 7 (.all (.last 8 (.done))))))))))))) (.node (.reg [6] (.nil)) (.nil))))) (.nil))) (.node (.reg [0, 1, 2, 7, 8] (.nil)) (.node (.node (.reg [0, 1, 2, 7, 8, 68] (.nil)) (.node (.node (.reg [0, 1, 2] (.draw [.mk 0 511 1 590295810358705651712, .mk 0 511 2 1180591620717411303424, .mk 0 511 128 2361183241434822606848, .mk 6 505 3541774862152233910272 4722366482869645213696, .mk 9 502 5312662293228350865408 9444732965739290427392, .mk 0 511 1 18889465931478580854784, .mk 0 511 2 37778931862957161709568, .mk 96 415 56668397794435742564352 75557863725914323419136, .mk 144 367 85002596691653613846528 151115727451828646838272] (.take 0 (.take 1 (.take 2 (.take 3 (.take 4 (.take 5 (.take 6 (.take 7 (.all (.last 8 (.done))))))))))))) (.node (.reg [0] (.nil)) (.node (.reg [6] (.nil)) (.nil)))) (.nil))) (.node (.reg [0, 1, 7] (.nil)) (.node (.reg [0] (.nil)) (.node (.reg [6] (.nil)) (.nil))))))))))))
theorem E_slices_Insert_A_P_node_Node_P_node_Node (x0 : SliceV) (x1 : Int) (x2 : SliceV) (K : Tup [.c .slice] → Heap → Prop) (h0 : Heap) : F_slices_Insert_A_P_node_Node_P_node_Node x0 x1 x2 K h0 = sBody PG Tryz.f110 (Tryz.f110.body.getD .skip) A_slices_Insert_A_P_node_Node_P_node_Node [.slice x0.a x0.len x0.cap, .int .i64 x1, .slice x2.a x2.len x2.cap] [.c .slice] K h0 := by kernel_rfl
theorem H_slices_Insert_A_P_node_Node_P_node_Node (x0 : SliceV) (x1 : Int) (x2 : SliceV) {K : Tup [.c .slice] → Heap → Prop} {h0 : Heap} (h : F_slices_Insert_A_P_node_Node_P_node_Node x0 x1 x2 K h0) : HC PG f_slices_Insert_A_P_node_Node_P_node_Node [.slice x0.a x0.len x0.cap, .int .i64 x1, .slice x2.a x2.len x2.cap] [.c .slice] K h0 := HC.intro Tryz.mixed Tryz.func110 rfl Tryz.call110 (Nat.le_of_ble_eq_true rfl) ((E_slices_Insert_A_P_node_Node_P_node_Node x0 x1 x2 K h0) ▸ h)
/-- quickset/twig.Common -/
def F_twig_Common (x0 : ByteArray) (x1 : ByteArray) (K : (Int) → Heap → Prop) (h0 : Heap) : Prop :=
  Bd (if (x1.size : Int) < (x0.size : Int) then (x1.size : Int) else (x0.size : Int) : Int) (fun n1 =>
   LoopP (fun I2 (t3 : Int) h4 => -- (13)
    CondP (decide (t3 < n1)) (
     ∃ b5 : UInt8, (0 : Int) ≤ t3 ∧ x0[t3.toNat]? = some b5 ∧
     ∃ b6 : UInt8, (0 : Int) ≤ t3 ∧ x1[t3.toNat]? = some b6 ∧
     CondP ((b5.toNat : Int) != (b6.toNat : Int)) (
      K t3 h4) (
      I2 (IntKind.wrap .i64 (t3 + 1)) h4)) (
     K n1 h4)) 0 h0)
def A_twig_Common : Ann := .node (.reg [0, 1] (.nil)) (.node (.reg [0, 1, 5] (.nil)) (.node (.node (.reg [0, 1, 5, 12, 13] (.nil)) (.loop [0, 1, 5, 12] [(13, .c (.int .i64))] (.node (.reg [0, 1, 5, 12, 13, 14] (.nil)) (.node (.nil) (.node (.node (.reg [0, 1, 5, 6, 12, 13] (.nil)) (.node (.reg [0, 1, 5, 6, 12, 13, 22] (.draw [.mk 0 127 1 65536, .mk 0 127 64 131072, .mk 3 124 196608 262144, .mk 0 127 2 524288, .mk 0 127 64 1048576, .mk 24 103 1572864 2097152, .mk 36 91 2359296 4194304] (.take 0 (.take 1 (.take 2 (.take 3 (.take 4 (.take 5 (.take 6 (.done)))))))))) (.node (.node (.reg [4] (.nil)) (.nil)) (.nil)))) (.reg [0, 1, 5, 12, 13] (.nil))))))) (.node (.reg [4] (.nil)) (.nil))))
theorem E_twig_Common (x0 : ByteArray) (x1 : ByteArray) (K : Tup [.c (.int .i64)] → Heap → Prop) (h0 : Heap) : F_twig_Common x0 x1 K h0 = sBody PG Tryz.f111 (Tryz.f111.body.getD .skip) A_twig_Common [.string x0, .string x1] [.c (.int .i64)] K h0 := by kernel_rfl
theorem H_twig_Common (x0 : ByteArray) (x1 : ByteArray) {K : Tup [.c (.int .i64)] → Heap → Prop} {h0 : Heap} (h : F_twig_Common x0 x1 K h0) : HC PG f_twig_Common [.string x0, .string x1] [.c (.int .i64)] K h0 := HC.intro Tryz.mixed Tryz.func111 rfl Tryz.call111 (Nat.le_of_ble_eq_true rfl) ((E_twig_Common x0 x1 K h0) ▸ h)
/-- cmp.isNaN[string] -/
def F_cmp_isNaN_str (x0 : ByteArray) (K : (Bool) → Heap → Prop) (h0 : Heap) : Prop :=
  K (!(x0.toList == x0.toList)) h0
def A_cmp_isNaN_str : Ann := .node (.reg [0] (.nil)) (.node (.reg [2] (.nil)) (.nil))
theorem E_cmp_isNaN_str (x0 : ByteArray) (K : Tup [.c .bool] → Heap → Prop) (h0 : Heap) : F_cmp_isNaN_str x0 K h0 = sBody PG Tryz.f114 (Tryz.f114.body.getD .skip) A_cmp_isNaN_str [.string x0] [.c .bool] K h0 := by kernel_rfl
theorem H_cmp_isNaN_str (x0 : ByteArray) {K : Tup [.c .bool] → Heap → Prop} {h0 : Heap} (h : F_cmp_isNaN_str x0 K h0) : HC PG f_cmp_isNaN_str [.string x0] [.c .bool] K h0 := HC.intro Tryz.mixed Tryz.func114 rfl Tryz.call114 (Nat.le_of_ble_eq_true rfl) ((E_cmp_isNaN_str x0 K h0) ▸ h)
/-- slices.AppendSeq[[]quickset/pair.Pair,quickset/pair.Pair] -/
def F_slices_AppendSeq_A_pair_Pair_pair_Pair (x0 : SliceV) (x1 : Value) (K : (SliceV) → Heap → Prop) (h0 : Heap) : Prop :=
  At (hnew h0 [.slice x0.a x0.len x0.cap] t_A_pair_Pair) (fun h1 =>
   RangeP PG x1 [.agg [.str, .str]] h1 (fun rdy2 bz3 (x4 : ByteArray × ByteArray) k5 h6 =>
    At (hnew h6 [.string (⟨#[]⟩ : ByteArray), .string (⟨#[]⟩ : ByteArray)] t_pair_Pair) (fun h10 =>
     (WrS h10 (some (newA h6)) 0 [.string x4.1, .string x4.2] ∧
      At (hsetL h10 (newA h6) 0 [.string x4.1, .string x4.2]) (fun h11 =>
       (h11[(Array.size h1 + 1)]? = some rdy2 ∧ At (Array.setIfInBounds h11 (Array.size h1 + 1) bz3) (fun h8 =>
         ∃ v12 : SliceV, hcell h8 (newA h0) = some (.slice v12.a v12.len v12.cap) ∧
         ∃ v13 : ByteArray, hcell h8 (adr (newA h6) 0) = some (.string v13) ∧
         ∃ v14 : ByteArray, hcell h8 (adr (newA h6) 1) = some (.string v14) ∧
         At (hnew h8 [.string v13, .string v14] t_pair_Pair) (fun h15 =>
          ∃ xs16, SRow h15 (some (newA h8)) (1 * 2) xs16 ∧
          AppP (some [.string (⟨#[]⟩ : ByteArray), .string (⟨#[]⟩ : ByteArray)]) 2 32 t_pair_Pair v12.a v12.len v12.cap 1 xs16 h15 (fun s17 h18 =>
           (Wr h18 (newA h0) ∧
            At (hset h18 (newA h0) (.slice s17.a s17.len s17.cap)) (fun h19 =>
             k5 none h19)))))))))) (fun h20 =>
    ∃ v23 : SliceV, hcell h20 (newA h0) = some (.slice v23.a v23.len v23.cap) ∧
    (h20[(Array.size h1)]? = some (.deferred (some [])) ∧ At (Array.setIfInBounds h20 (Array.size h1) (.deferred none)) (fun h24 =>
      K v23 h24))) (fun i9 h21 =>
    bif Nat.beq i9 0 then (
     ∃ v25 : SliceV, hcell h21 (newA h0) = some (.slice v25.a v25.len v25.cap) ∧
     (h21[(Array.size h1)]? = some (.deferred (some [])) ∧ At (Array.setIfInBounds h21 (Array.size h1) (.deferred none)) (fun h26 =>
       K v25 h26))) else (
     False)) (fun h22 =>
    (h22[(Array.size h1)]? = some (.deferred (some [])) ∧ At (Array.setIfInBounds h22 (Array.size h1) (.deferred none)) (fun h27 =>
      K ⟨none, 0, 0⟩ h27))))
def A_slices_AppendSeq_A_pair_Pair_pair_Pair : Ann := .node (.reg [1, 2, 4] (.nil)) (.node (.node (.reg [2, 4, 6] (.nil)) (.rf [.agg [.str, .str]] (.reg [2, 5] (.nil)) (.reg [] (.nil)))) (.node (.reg [4] (.nil)) (.nil)))
theorem E_slices_AppendSeq_A_pair_Pair_pair_Pair (x0 : SliceV) (x1 : Value) (K : Tup [.c .slice] → Heap → Prop) (h0 : Heap) : F_slices_AppendSeq_A_pair_Pair_pair_Pair x0 x1 K h0 = sBodyM PG Tryz.f115 (Tryz.f115.body.getD .skip) A_slices_AppendSeq_A_pair_Pair_pair_Pair [.slice x0.a x0.len x0.cap, x1] [.c .slice] K h0 := by kernel_rfl
theorem H_slices_AppendSeq_A_pair_Pair_pair_Pair (x0 : SliceV) (x1 : Value) {K : Tup [.c .slice] → Heap → Prop} {h0 : Heap} (h : F_slices_AppendSeq_A_pair_Pair_pair_Pair x0 x1 K h0) : HC PG f_slices_AppendSeq_A_pair_Pair_pair_Pair [.slice x0.a x0.len x0.cap, x1] [.c .slice] K h0 := HC.introM Tryz.mixed Tryz.func115 rfl Tryz.call115 (Nat.le_of_ble_eq_true rfl) ((E_slices_AppendSeq_A_pair_Pair_pair_Pair x0 x1 K h0) ▸ h)
/-- quickset/span.Each$1 -/
def F_span_Each_1 (x0 : Value) (y0 : Addr) (y1 : Addr) (y2 : Addr) (K : (Unit) → Heap → Prop) (h0 : Heap) : Prop :=
  ∃ v1 : Option Addr, hcell h0 y0 = some (.pointer v1) ∧
  ∃ v2 : ByteArray, hcell h0 (adr y1 0) = some (.string v2) ∧
  ∃ v3 : ByteArray, hcell h0 (adr y1 1) = some (.string v3) ∧
  ∃ v4 : Bool, hcell h0 (adr y1 2) = some (.bool v4) ∧
  ∃ v5 : Bool, hcell h0 y2 = some (.bool v5) ∧
  HC PG f_span_New [.pointer v1, .agg #[.string v2, .string v3, .bool v4], .bool v5] [.c .ptr] (fun (e6 : Option Addr) h7 =>
   LoopP (fun I8 (t9 : Unit) h10 => -- 
    HC PG f_span_Cursor_Next [.pointer e6] [.agg [.str, .str], .c .bool] (fun (e11 : (ByteArray × ByteArray) × Bool) h12 =>
     At (hnew h12 [.string (⟨#[]⟩ : ByteArray), .string (⟨#[]⟩ : ByteArray)] t_pair_Pair) (fun h13 =>
      (WrS h13 (some (newA h12)) 0 [.string e11.1.1, .string e11.1.2] ∧
       At (hsetL h13 (newA h12) 0 [.string e11.1.1, .string e11.1.2]) (fun h14 =>
        Join (fun (t20 : Bool) h21 => -- (24)
         CondP t20 (
          K () h21) (
          I8 () h21)) (fun J15 =>
         CondP (!e11.2) (
          J15 true h14) (
          ∃ v16 : ByteArray, hcell h14 (adr (newA h12) 0) = some (.string v16) ∧
          ∃ v17 : ByteArray, hcell h14 (adr (newA h12) 1) = some (.string v17) ∧
          HV PG x0 [.agg #[.string v16, .string v17]] [.c .bool] (fun (e18 : Bool) h19 =>
           J15 (!e18) h19) h14)))))) h10) () h7) h0
def A_span_Each_1 : Ann := .node (.reg [0, 5] (.nil)) (.loop [0, 5] [] (.node (.reg [0, 5, 6, 7] (.nil)) (.join [0, 5] [(24, .c .bool)] (.reg [0, 5, 24] (.nil)) (.nil))))
theorem E_span_Each_1 (x0 : Value) (y0 : Addr) (y1 : Addr) (y2 : Addr) (K : Tup [] → Heap → Prop) (h0 : Heap) : F_span_Each_1 x0 y0 y1 y2 K h0 = sBody PG Tryz.f116 (Tryz.f116.body.getD .skip) A_span_Each_1 [x0, .pointer (some y0), .pointer (some y1), .pointer (some y2)] [] K h0 := by kernel_rfl
theorem H_span_Each_1 (x0 : Value) (y0 : Addr) (y1 : Addr) (y2 : Addr) {K : Tup [] → Heap → Prop} {h0 : Heap} (h : F_span_Each_1 x0 y0 y1 y2 K h0) : HC PG f_span_Each_1 [x0, .pointer (some y0), .pointer (some y1), .pointer (some y2)] [] K h0 := HC.intro Tryz.mixed Tryz.func116 rfl Tryz.call116 (Nat.le_of_ble_eq_true rfl) ((E_span_Each_1 x0 y0 y1 y2 K h0) ▸ h)
theorem HE_span_Each_1 (x0 : Value) (y0 : Addr) (y1 : Addr) (y2 : Addr) {K : Tup [] → Heap → Prop} {h0 : Heap} (h : F_span_Each_1 x0 y0 y1 y2 K h0) : HE PG f_span_Each_1 [x0, .pointer (some y0), .pointer (some y1), .pointer (some y2)] [] K h0 := HE.intro Tryz.mixed Tryz.func116 rfl Tryz.call116 (Nat.le_of_ble_eq_true rfl) ((E_span_Each_1 x0 y0 y1 y2 K h0) ▸ h)
/-- quickset/span.New -/
def F_span_New (x0 : Option Addr) (x1 : ByteArray × ByteArray × Bool) (x2 : Bool) (K : (Option Addr) → Heap → Prop) (h0 : Heap) : Prop :=
  At (hnew h0 [.string x1.1, .string x1.2.1, .bool x1.2.2] t_span_Span) (fun h1 =>
   ∃ v2 : ByteArray, hcell h1 (adr (newA h0) 0) = some (.string v2) ∧
   ∃ v3 : ByteArray, hcell h1 (adr (newA h0) 1) = some (.string v3) ∧
   ∃ v4 : Bool, hcell h1 (adr (newA h0) 2) = some (.bool v4) ∧
   At (hnew h1 [.slice none 0 0, .string v2, .string v3, .bool v4, .bool x2] t_span_Cursor) (fun h5 =>
    CondP (!(x0.isNone)) (
     ∃ a6 : Addr, some (newA h1) = some a6 ∧
     ∃ v7 : SliceV, hcell h5 (adr a6 0) = some (.slice v7.a v7.len v7.cap) ∧
     At (hnew h5 [.pointer x0, .string (⟨#[]⟩ : ByteArray), .bool false] t_span_work) (fun h8 =>
      ∃ xs9, SRow h8 (some (newA h5)) (1 * 3) xs9 ∧
      AppP (some [.pointer none, .string (⟨#[]⟩ : ByteArray), .bool false]) 3 32 t_span_work v7.a v7.len v7.cap 1 xs9 h8 (fun s10 h11 =>
       ∃ a12 : Addr, some (newA h1) = some a12 ∧
       (Wr h11 (adr a12 0) ∧
        At (hset h11 (adr a12 0) (.slice s10.a s10.len s10.cap)) (fun h13 =>
         K (some (newA h1)) h13))))) (
     K (some (newA h1)) h5)))
def A_span_New : Ann := .node (.reg [0, 2, 4] (.nil)) (.node (.reg [0, 7] (.nil)) (.node (.node (.reg [0, 7, 13] (.nil)) (.node (.reg [7] (.nil)) (.nil))) (.node (.reg [6] (.nil)) (.nil))))
theorem E_span_New (x0 : Option Addr) (x1 : ByteArray × ByteArray × Bool) (x2 : Bool) (K : Tup [.c .ptr] → Heap → Prop) (h0 : Heap) : F_span_New x0 x1 x2 K h0 = sBody PG Tryz.f117 (Tryz.f117.body.getD .skip) A_span_New [.pointer x0, .agg #[.string x1.1, .string x1.2.1, .bool x1.2.2], .bool x2] [.c .ptr] K h0 := by kernel_rfl
theorem H_span_New (x0 : Option Addr) (x1 : ByteArray × ByteArray × Bool) (x2 : Bool) {K : Tup [.c .ptr] → Heap → Prop} {h0 : Heap} (h : F_span_New x0 x1 x2 K h0) : HC PG f_span_New [.pointer x0, .agg #[.string x1.1, .string x1.2.1, .bool x1.2.2], .bool x2] [.c .ptr] K h0 := HC.intro Tryz.mixed Tryz.func117 rfl Tryz.call117 (Nat.le_of_ble_eq_true rfl) ((E_span_New x0 x1 x2 K h0) ▸ h)
/-- (*quickset/span.Cursor).Next -/
def F_span_Cursor_Next (x0 : Option Addr) (K : ((ByteArray × ByteArray) × Bool) → Heap → Prop) (h0 : Heap) : Prop :=
  At (hnew h0 [.string (⟨#[]⟩ : ByteArray), .string (⟨#[]⟩ : ByteArray)] t_pair_Pair) (fun h1 =>
   CondP x0.isNone (
    (WrS h1 (some (newA h0)) 0 [.string (⟨#[]⟩ : ByteArray), .string (⟨#[]⟩ : ByteArray)] ∧
     At (hsetL h1 (newA h0) 0 [.string (⟨#[]⟩ : ByteArray), .string (⟨#[]⟩ : ByteArray)]) (fun h2 =>
      ∃ v3 : ByteArray, hcell h2 (adr (newA h0) 0) = some (.string v3) ∧
      ∃ v4 : ByteArray, hcell h2 (adr (newA h0) 1) = some (.string v4) ∧
      K ((v3, v4), false) h2))) (
    LoopP (fun I5 (t6 : Unit) h7 => -- 
     ∃ a8 : Addr, x0 = some a8 ∧
     ∃ v9 : SliceV, hcell h7 (adr a8 0) = some (.slice v9.a v9.len v9.cap) ∧
     CondP (decide ((v9.len : Int) > (0 : Int))) (
      ∃ a10 : Addr, x0 = some a10 ∧
      ∃ v11 : SliceV, hcell h7 (adr a10 0) = some (.slice v11.a v11.len v11.cap) ∧
      ∃ a12 : Addr, x0 = some a12 ∧
      ∃ v13 : SliceV, hcell h7 (adr a12 0) = some (.slice v13.a v13.len v13.cap) ∧
      (((0 : Int) ≤ (IntKind.wrap .i64 ((v13.len : Int) - 1)) ∧ (IntKind.wrap .i64 ((v13.len : Int) - 1)) < ((v11.len : Nat) : Int)) ∧ ∃ a14 : Addr, v11.a = some a14 ∧
       ∃ v15 : Option Addr, hcell h7 (adr (adr a14 ((IntKind.wrap .i64 ((v13.len : Int) - 1)).toNat * 3)) 0) = some (.pointer v15) ∧
       ∃ v16 : ByteArray, hcell h7 (adr (adr a14 ((IntKind.wrap .i64 ((v13.len : Int) - 1)).toNat * 3)) 1) = some (.string v16) ∧
       ∃ v17 : Bool, hcell h7 (adr (adr a14 ((IntKind.wrap .i64 ((v13.len : Int) - 1)).toNat * 3)) 2) = some (.bool v17) ∧
       At (hnew h7 [.pointer none, .string (⟨#[]⟩ : ByteArray), .bool false] t_span_work) (fun h18 =>
        ((hcell h18 (adr (adr a14 ((IntKind.wrap .i64 ((v13.len : Int) - 1)).toNat * 3)) 0) = some (.pointer v15) ∧ hcell h18 (adr (adr a14 ((IntKind.wrap .i64 ((v13.len : Int) - 1)).toNat * 3)) 1) = some (.string v16) ∧ hcell h18 (adr (adr a14 ((IntKind.wrap .i64 ((v13.len : Int) - 1)).toNat * 3)) 2) = some (.bool v17)) ∧
         (hcell h18 (adr a12 0) = some (.slice v13.a v13.len v13.cap) ∧
          (hcell h18 (adr a10 0) = some (.slice v11.a v11.len v11.cap) ∧
           (WrS h18 (some (newA h7)) 0 [.pointer v15, .string v16, .bool v17] ∧
            At (hsetL h18 (newA h7) 0 [.pointer v15, .string v16, .bool v17]) (fun h19 =>
             ∃ a20 : Addr, x0 = some a20 ∧
             ∃ v21 : SliceV, hcell h19 (adr a20 0) = some (.slice v21.a v21.len v21.cap) ∧
             ∃ a22 : Addr, x0 = some a22 ∧
             ∃ v23 : SliceV, hcell h19 (adr a22 0) = some (.slice v23.a v23.len v23.cap) ∧
             (((0 : Int) ≤ (IntKind.wrap .i64 ((v23.len : Int) - 1)) ∧ (IntKind.wrap .i64 ((v23.len : Int) - 1)) ≤ ((v21.cap : Nat) : Int)) ∧
              Bd (subAddr v21.a 0 v21.cap 3 : Option Addr) (fun a24 => Bd (((IntKind.wrap .i64 ((v23.len : Int) - 1)).toNat) - 0 : Nat) (fun n25 => Bd (v21.cap - 0 : Nat) (fun n26 =>
                 ∃ a27 : Addr, x0 = some a27 ∧
                 (Wr h19 (adr a27 0) ∧
                  At (hset h19 (adr a27 0) (.slice a24 n25 n26)) (fun h28 =>
                   ∃ v29 : Bool, hcell h28 (adr (newA h7) 2) = some (.bool v29) ∧
                   CondP (!v29) (
                    ∃ v30 : Option Addr, hcell h28 (adr (newA h7) 0) = some (.pointer v30) ∧
                    ∃ v31 : ByteArray, hcell h28 (adr (newA h7) 1) = some (.string v31) ∧
                    ∃ v32 : Bool, hcell h28 (adr (newA h7) 2) = some (.bool v32) ∧
                    HC PG f_span_Cursor_push [.pointer x0, .agg #[.pointer v30, .string v31, .bool v32]] [] (fun (e33 : Unit) h34 =>
                     I5 () h34) h28) (
                    ∃ v35 : ByteArray, hcell h28 (adr (newA h7) 1) = some (.string v35) ∧
                    ∃ v36 : Option Addr, hcell h28 (adr (newA h7) 0) = some (.pointer v36) ∧
                    HC PG f_radix_Node_Label [.pointer v36] [.c .str] (fun (e37 : ByteArray) h38 =>
                     (hcell h38 (adr (newA h7) 1) = some (.string v35) ∧
                      (((v35.size + e37.size : Nat) : Int) ≤ 9223372036854775807 ∧
                       ∃ v39 : Option Addr, hcell h38 (adr (newA h7) 0) = some (.pointer v39) ∧
                       HC PG f_radix_Node_Value [.pointer v39] [.c .str, .c .bool] (fun (e40 : ByteArray × Bool) h41 =>
                        Join (fun (t49 : Bool) h50 => -- (69)
                         CondP t49 (
                          (WrS h50 (some (newA h0)) 0 [.string (v35 ++ e37), .string e40.1] ∧
                           At (hsetL h50 (newA h0) 0 [.string (v35 ++ e37), .string e40.1]) (fun h51 =>
                            ∃ v52 : ByteArray, hcell h51 (adr (newA h0) 0) = some (.string v52) ∧
                            ∃ v53 : ByteArray, hcell h51 (adr (newA h0) 1) = some (.string v53) ∧
                            K ((v52, v53), true) h51))) (
                          I5 () h50)) (fun J42 =>
                         CondP e40.2 (
                          ∃ a43 : Addr, x0 = some a43 ∧
                          ∃ v44 : ByteArray, hcell h41 (adr (adr a43 1) 0) = some (.string v44) ∧
                          ∃ v45 : ByteArray, hcell h41 (adr (adr a43 1) 1) = some (.string v45) ∧
                          ∃ v46 : Bool, hcell h41 (adr (adr a43 1) 2) = some (.bool v46) ∧
                          HC PG f_span_Span_Has [.agg #[.string v44, .string v45, .bool v46], .string (v35 ++ e37)] [.c .bool] (fun (e47 : Bool) h48 =>
                           J42 e47 h48) h41) (
                          J42 false h41))) h38))) h28))))))))))))))) (
      (WrS h7 (some (newA h0)) 0 [.string (⟨#[]⟩ : ByteArray), .string (⟨#[]⟩ : ByteArray)] ∧
       At (hsetL h7 (newA h0) 0 [.string (⟨#[]⟩ : ByteArray), .string (⟨#[]⟩ : ByteArray)]) (fun h54 =>
        ∃ v55 : ByteArray, hcell h54 (adr (newA h0) 0) = some (.string v55) ∧
        ∃ v56 : ByteArray, hcell h54 (adr (newA h0) 1) = some (.string v56) ∧
        K ((v55, v56), false) h54)))) () h1))
def A_span_Cursor_Next : Ann := .node (.reg [0, 2] (.nil)) (.node (.node (.reg [0, 2, 9] (.nil)) (.node (.node (.reg [2, 3] (.nil)) (.nil)) (.nil))) (.node (.loop [0, 2] [] (.node (.node (.reg [0, 2, 16] (.nil)) (.nil)) (.node (.reg [0, 2, 4] (.draw [.mk 0 16383 1 131072, .mk 1 16382 131072 262144, .mk 2 16381 262144 524288, .mk 4 16379 524288 1048576, .mk 0 16383 1 2097152, .mk 16 16367 2097152 4194304, .mk 32 16351 4194304 8388608, .mk 64 16319 8388608 16777216, .mk 128 16255 16777216 33554432, .mk 256 16127 33554432 67108864, .mk 520 15863 68157440 134217728, .mk 1024 15359 134217728 268435456, .mk 0 16383 0 16, .mk 8191 10239 268435472 0] (.take 0 (.take 1 (.take 2 (.take 3 (.take 4 (.take 5 (.take 6 (.take 7 (.take 8 (.take 9 (.take 10 (.take 11 (.all (.last 12 (.all (.last 13 (.done))))))))))))))))))) (.node (.reg [0, 2, 4] (.draw [.mk 0 32767 1 536870912, .mk 0 32767 1 1073741824, .mk 2 32765 1073741824 2147483648, .mk 4 32763 2147483648 4294967296, .mk 8 32759 4294967296 8589934592, .mk 0 32767 1 17179869184, .mk 32 32735 17179869184 34359738368, .mk 64 32703 34359738368 68719476736, .mk 128 32639 68719476736 137438953472, .mk 256 32511 137438953472 274877906944, .mk 512 32255 274877906944 549755813888, .mk 1040 31727 558345748480 1099511627776, .mk 4095 32766 536870912 2199023255552, .mk 8191 28671 2199023255552 4398046511104, .mk 12287 22527 5497558138880 0] (.take 0 (.take 1 (.take 2 (.take 3 (.take 4 (.take 5 (.take 6 (.take 7 (.take 8 (.take 9 (.take 10 (.take 11 (.take 12 (.take 13 (.all (.last 14 (.done))))))))))))))))))) (.node (.node (.reg [0, 2, 4, 45] (.nil)) (.node (.node (.reg [0, 2] (.nil)) (.nil)) (.nil))) (.node (.reg [0, 2, 4, 5] (.draw [.mk 0 127 16 562949953421312, .mk 1 126 562949953421312 1125899906842624, .mk 0 127 16 2251799813685248, .mk 4 123 2251799813685248 4503599627370496, .mk 8 119 4503599627370496 9007199254740992, .mk 18 109 10133099161583616 18014398509481984, .mk 63 95 18014398509481984 32] (.take 0 (.take 1 (.take 2 (.take 3 (.all (.last 4 (.take 5 (.take 6 (.done))))))))))) (.node (.reg [0, 2, 5, 6, 7] (.nil)) (.join [0, 2, 5, 6] [(69, .c .bool)] (.reg [0, 2, 5, 6, 69] (.nil)) (.node (.node (.reg [2, 3] (.nil)) (.nil)) (.nil)))))))))) (.node (.reg [2, 3] (.nil)) (.nil))))
theorem E_span_Cursor_Next (x0 : Option Addr) (K : Tup [.agg [.str, .str], .c .bool] → Heap → Prop) (h0 : Heap) : F_span_Cursor_Next x0 K h0 = sBody PG Tryz.f118 (Tryz.f118.body.getD .skip) A_span_Cursor_Next [.pointer x0] [.agg [.str, .str], .c .bool] K h0 := by kernel_rfl
theorem H_span_Cursor_Next (x0 : Option Addr) {K : Tup [.agg [.str, .str], .c .bool] → Heap → Prop} {h0 : Heap} (h : F_span_Cursor_Next x0 K h0) : HC PG f_span_Cursor_Next [.pointer x0] [.agg [.str, .str], .c .bool] K h0 := HC.intro Tryz.mixed Tryz.func118 rfl Tryz.call118 (Nat.le_of_ble_eq_true rfl) ((E_span_Cursor_Next x0 K h0) ▸ h)
/-- (*quickset/radix.Node).Value -/
def F_radix_Node_Value (x0 : Option Addr) (K : (ByteArray × Bool) → Heap → Prop) (h0 : Heap) : Prop :=
  CondP x0.isNone (
   K ((⟨#[]⟩ : ByteArray), false) h0) (
   ∃ a1 : Addr, x0 = some a1 ∧
   ∃ v2 : ByteArray, hcell h0 (adr a1 2) = some (.string v2) ∧
   ∃ a3 : Addr, x0 = some a3 ∧
   ∃ v4 : Bool, hcell h0 (adr a3 1) = some (.bool v4) ∧
   K (v2, v4) h0)
def A_radix_Node_Value : Ann := .node (.reg [0] (.nil)) (.node (.node (.reg [0, 5] (.nil)) (.node (.node (.reg [2, 3] (.nil)) (.nil)) (.nil))) (.node (.reg [2, 3] (.draw [.mk 0 1023 1 64, .mk 1 1022 64 128, .mk 2 1021 128 256, .mk 4 1019 256 512, .mk 0 1023 1 1024, .mk 16 1007 1024 2048, .mk 32 991 2048 4096, .mk 64 959 4096 8192, .mk 15 1015 512 4, .mk 511 895 8192 8] (.take 0 (.take 1 (.take 2 (.take 3 (.take 4 (.take 5 (.take 6 (.take 7 (.take 8 (.take 9 (.done))))))))))))) (.nil)))
theorem E_radix_Node_Value (x0 : Option Addr) (K : Tup [.c .str, .c .bool] → Heap → Prop) (h0 : Heap) : F_radix_Node_Value x0 K h0 = sBody PG Tryz.f122 (Tryz.f122.body.getD .skip) A_radix_Node_Value [.pointer x0] [.c .str, .c .bool] K h0 := by kernel_rfl
theorem H_radix_Node_Value (x0 : Option Addr) {K : Tup [.c .str, .c .bool] → Heap → Prop} {h0 : Heap} (h : F_radix_Node_Value x0 K h0) : HC PG f_radix_Node_Value [.pointer x0] [.c .str, .c .bool] K h0 := HC.intro Tryz.mixed Tryz.func122 rfl Tryz.call122 (Nat.le_of_ble_eq_true rfl) ((E_radix_Node_Value x0 K h0) ▸ h)
/-- (*quickset/radix.Node).Kids -/
def F_radix_Node_Kids (x0 : Option Addr) (K : (SliceV) → Heap → Prop) (h0 : Heap) : Prop :=
  CondP x0.isNone (
   K ⟨none, 0, 0⟩ h0) (
   ∃ a1 : Addr, x0 = some a1 ∧
   ∃ v2 : SliceV, hcell h0 (adr a1 3) = some (.slice v2.a v2.len v2.cap) ∧
   HC PG f_slices_Clone_A_P_radix_Node_P_radix_Node [.slice v2.a v2.len v2.cap] [.c .slice] (fun (e3 : SliceV) h4 =>
    K e3 h4) h0)
def A_radix_Node_Kids : Ann := .node (.reg [0] (.nil)) (.node (.node (.reg [0, 4] (.nil)) (.node (.node (.reg [2] (.nil)) (.nil)) (.nil))) (.node (.reg [2] (.nil)) (.nil)))
theorem E_radix_Node_Kids (x0 : Option Addr) (K : Tup [.c .slice] → Heap → Prop) (h0 : Heap) : F_radix_Node_Kids x0 K h0 = sBody PG Tryz.f123 (Tryz.f123.body.getD .skip) A_radix_Node_Kids [.pointer x0] [.c .slice] K h0 := by kernel_rfl
theorem H_radix_Node_Kids (x0 : Option Addr) {K : Tup [.c .slice] → Heap → Prop} {h0 : Heap} (h : F_radix_Node_Kids x0 K h0) : HC PG f_radix_Node_Kids [.pointer x0] [.c .slice] K h0 := HC.intro Tryz.mixed Tryz.func123 rfl Tryz.call123 (Nat.le_of_ble_eq_true rfl) ((E_radix_Node_Kids x0 K h0) ▸ h)
/-- (*quickset/node.Node).Pairs -/
def F_node_Node_Pairs (x0 : Option Addr) (K : (SliceV) → Heap → Prop) (h0 : Heap) : Prop :=
  CondP x0.isNone (
   K ⟨none, 0, 0⟩ h0) (
   ∃ a1 : Addr, x0 = some a1 ∧
   ∃ v2 : SliceV, hcell h0 (adr (adr a1 0) 2) = some (.slice v2.a v2.len v2.cap) ∧
   HC PG f_slices_Clone_A_pair_Pair_pair_Pair [.slice v2.a v2.len v2.cap] [.c .slice] (fun (e3 : SliceV) h4 =>
    K e3 h4) h0)
def A_node_Node_Pairs : Ann := .node (.reg [0] (.nil)) (.node (.node (.reg [0, 4] (.nil)) (.node (.node (.reg [2] (.nil)) (.nil)) (.nil))) (.node (.reg [2] (.nil)) (.nil)))
theorem E_node_Node_Pairs (x0 : Option Addr) (K : Tup [.c .slice] → Heap → Prop) (h0 : Heap) : F_node_Node_Pairs x0 K h0 = sBody PG Tryz.f124 (Tryz.f124.body.getD .skip) A_node_Node_Pairs [.pointer x0] [.c .slice] K h0 := by kernel_rfl
theorem H_node_Node_Pairs (x0 : Option Addr) {K : Tup [.c .slice] → Heap → Prop} {h0 : Heap} (h : F_node_Node_Pairs x0 K h0) : HC PG f_node_Node_Pairs [.pointer x0] [.c .slice] K h0 := HC.intro Tryz.mixed Tryz.func124 rfl Tryz.call124 (Nat.le_of_ble_eq_true rfl) ((E_node_Node_Pairs x0 K h0) ▸ h)
/-- (*quickset/node.Node).Kids -/
def F_node_Node_Kids (x0 : Option Addr) (K : (SliceV) → Heap → Prop) (h0 : Heap) : Prop :=
  CondP x0.isNone (
   K ⟨none, 0, 0⟩ h0) (
   ∃ a1 : Addr, x0 = some a1 ∧
   ∃ v2 : SliceV, hcell h0 (adr (adr a1 0) 3) = some (.slice v2.a v2.len v2.cap) ∧
   HC PG f_slices_Clone_A_P_node_Node_P_node_Node [.slice v2.a v2.len v2.cap] [.c .slice] (fun (e3 : SliceV) h4 =>
    K e3 h4) h0)
def A_node_Node_Kids : Ann := .node (.reg [0] (.nil)) (.node (.node (.reg [0, 4] (.nil)) (.node (.node (.reg [2] (.nil)) (.nil)) (.nil))) (.node (.reg [2] (.nil)) (.nil)))
theorem E_node_Node_Kids (x0 : Option Addr) (K : Tup [.c .slice] → Heap → Prop) (h0 : Heap) : F_node_Node_Kids x0 K h0 = sBody PG Tryz.f125 (Tryz.f125.body.getD .skip) A_node_Node_Kids [.pointer x0] [.c .slice] K h0 := by kernel_rfl
theorem H_node_Node_Kids (x0 : Option Addr) {K : Tup [.c .slice] → Heap → Prop} {h0 : Heap} (h : F_node_Node_Kids x0 K h0) : HC PG f_node_Node_Kids [.pointer x0] [.c .slice] K h0 := HC.intro Tryz.mixed Tryz.func125 rfl Tryz.call125 (Nat.le_of_ble_eq_true rfl) ((E_node_Node_Kids x0 K h0) ▸ h)
/-- quickset/quicksetref03.Drop -/
def F_r03_Drop (x0 : SliceV) (x1 : ByteArray) (K : (SliceV) → Heap → Prop) (h0 : Heap) : Prop :=
  LoopP (fun I1 (t2 : SliceV × Int) h3 => -- out(5), (10)
   CondP (decide (t2.2 < (x0.len : Int))) (
    Join (fun (t17 : SliceV) h18 => -- out(5)
     I1 (t17, IntKind.wrap .i64 (t2.2 + 1)) h18) (fun J4 =>
     (((0 : Int) ≤ t2.2 ∧ t2.2 < ((x0.len : Nat) : Int)) ∧ ∃ a5 : Addr, x0.a = some a5 ∧
      ∃ v6 : ByteArray, hcell h3 (adr (adr a5 (t2.2.toNat * 2)) 0) = some (.string v6) ∧
      ∃ v7 : ByteArray, hcell h3 (adr (adr a5 (t2.2.toNat * 2)) 1) = some (.string v7) ∧
      At (hnew h3 [.string (⟨#[]⟩ : ByteArray), .string (⟨#[]⟩ : ByteArray)] t_r03_Pair) (fun h8 =>
       (WrS h8 (some (newA h3)) 0 [.string v6, .string v7] ∧
        At (hsetL h8 (newA h3) 0 [.string v6, .string v7]) (fun h9 =>
         ∃ v10 : ByteArray, hcell h9 (adr (newA h3) 0) = some (.string v10) ∧
         CondP (!(v10.toList == x1.toList)) (
          ∃ v11 : ByteArray, hcell h9 (adr (newA h3) 0) = some (.string v11) ∧
          ∃ v12 : ByteArray, hcell h9 (adr (newA h3) 1) = some (.string v12) ∧
          At (hnew h9 [.string v11, .string v12] t_r03_Pair) (fun h13 =>
           ∃ xs14, SRow h13 (some (newA h9)) (1 * 2) xs14 ∧
           AppP (some [.string (⟨#[]⟩ : ByteArray), .string (⟨#[]⟩ : ByteArray)]) 2 32 t_r03_Pair t2.1.a t2.1.len t2.1.cap 1 xs14 h13 (fun s15 h16 =>
            J4 s15 h16))) (
          J4 t2.1 h9))))))) (
    K t2.1 h3)) (⟨none, 0, 0⟩, 0) h0
def A_r03_Drop : Ann := .node (.reg [0, 1] (.nil)) (.node (.reg [0, 1, 5] (.nil)) (.node (.node (.reg [1, 5, 8, 9, 10] (.nil)) (.loop [1, 8, 9] [(5, .c .slice), (10, .c (.int .i64))] (.node (.reg [1, 5, 8, 9, 10, 11] (.nil)) (.node (.nil) (.join [1, 8, 9, 10] [(5, .c .slice)] (.node (.reg [1, 5, 7, 8, 9, 10] (.nil)) (.node (.reg [1, 5, 7, 8, 9, 10, 17] (.nil)) (.node (.reg [1, 5, 8, 9, 10] (.nil)) (.nil)))) (.reg [1, 5, 8, 9, 10] (.nil))))))) (.node (.reg [4] (.nil)) (.nil))))
theorem E_r03_Drop (x0 : SliceV) (x1 : ByteArray) (K : Tup [.c .slice] → Heap → Prop) (h0 : Heap) : F_r03_Drop x0 x1 K h0 = sBody PG Tryz.f126 (Tryz.f126.body.getD .skip) A_r03_Drop [.slice x0.a x0.len x0.cap, .string x1] [.c .slice] K h0 := by kernel_rfl
theorem H_r03_Drop (x0 : SliceV) (x1 : ByteArray) {K : Tup [.c .slice] → Heap → Prop} {h0 : Heap} (h : F_r03_Drop x0 x1 K h0) : HC PG f_r03_Drop [.slice x0.a x0.len x0.cap, .string x1] [.c .slice] K h0 := HC.intro Tryz.mixed Tryz.func126 rfl Tryz.call126 (Nat.le_of_ble_eq_true rfl) ((E_r03_Drop x0 x1 K h0) ▸ h)
/-- (*quickset/radix.Node).own -/
def F_radix_Node_own (x0 : Option Addr) (x1 : Option Addr) (K : (Option Addr) → Heap → Prop) (h0 : Heap) : Prop :=
  HC PG f_radix_Node_Owned [.pointer x0, .pointer x1] [.c .bool] (fun (e1 : Bool) h2 =>
   CondP e1 (
    K x0 h2) (
    ∃ a3 : Addr, x0 = some a3 ∧
    ∃ v4 : ByteArray, hcell h2 (adr a3 0) = some (.string v4) ∧
    ∃ v5 : Bool, hcell h2 (adr a3 1) = some (.bool v5) ∧
    ∃ v6 : ByteArray, hcell h2 (adr a3 2) = some (.string v6) ∧
    ∃ v7 : SliceV, hcell h2 (adr a3 3) = some (.slice v7.a v7.len v7.cap) ∧
    ∃ v8 : Option Addr, hcell h2 (adr a3 4) = some (.pointer v8) ∧
    At (hnew h2 [.string (⟨#[]⟩ : ByteArray), .bool false, .string (⟨#[]⟩ : ByteArray), .slice none 0 0, .pointer none] t_radix_Node) (fun h9 =>
     (WrS h9 (some (newA h2)) 0 [.string v4, .bool v5, .string v6, .slice v7.a v7.len v7.cap, .pointer v8] ∧
      At (hsetL h9 (newA h2) 0 [.string v4, .bool v5, .string v6, .slice v7.a v7.len v7.cap, .pointer v8]) (fun h10 =>
       ∃ a11 : Addr, x0 = some a11 ∧
       ∃ v12 : SliceV, hcell h10 (adr a11 3) = some (.slice v12.a v12.len v12.cap) ∧
       HC PG f_slices_Clone_A_P_radix_Node_P_radix_Node [.slice v12.a v12.len v12.cap] [.c .slice] (fun (e13 : SliceV) h14 =>
        (Wr h14 (adr (newA h2) 3) ∧
         At (hset h14 (adr (newA h2) 3) (.slice e13.a e13.len e13.cap)) (fun h15 =>
          (Wr h15 (adr (newA h2) 4) ∧
           At (hset h15 (adr (newA h2) 4) (.pointer none)) (fun h16 =>
            HC PG f_token_Token_Live [.pointer x1] [.c .bool] (fun (e17 : Bool) h18 =>
             CondP e17 (
              (Wr h18 (adr (newA h2) 4) ∧
               At (hset h18 (adr (newA h2) 4) (.pointer x1)) (fun h19 =>
                K (some (newA h2)) h19))) (
              K (some (newA h2)) h18)) h16))))) h10))))) h0
def A_radix_Node_own : Ann := .node (.reg [0, 1] (.nil)) (.node (.node (.reg [0, 1, 8] (.nil)) (.node (.node (.reg [4] (.nil)) (.nil)) (.nil))) (.node (.reg [0, 1, 5] (.nil)) (.node (.reg [1, 5] (.nil)) (.node (.reg [1, 5] (.nil)) (.node (.node (.reg [1, 5, 21] (.nil)) (.node (.reg [5] (.nil)) (.nil))) (.node (.reg [4] (.nil)) (.nil)))))))
theorem E_radix_Node_own (x0 : Option Addr) (x1 : Option Addr) (K : Tup [.c .ptr] → Heap → Prop) (h0 : Heap) : F_radix_Node_own x0 x1 K h0 = sBody PG Tryz.f127 (Tryz.f127.body.getD .skip) A_radix_Node_own [.pointer x0, .pointer x1] [.c .ptr] K h0 := by kernel_rfl
theorem H_radix_Node_own (x0 : Option Addr) (x1 : Option Addr) {K : Tup [.c .ptr] → Heap → Prop} {h0 : Heap} (h : F_radix_Node_own x0 x1 K h0) : HC PG f_radix_Node_own [.pointer x0, .pointer x1] [.c .ptr] K h0 := HC.intro Tryz.mixed Tryz.func127 rfl Tryz.call127 (Nat.le_of_ble_eq_true rfl) ((E_radix_Node_own x0 x1 K h0) ▸ h)
/-- (*quickset/radix.Node).valued -/
def F_radix_Node_valued (x0 : Option Addr) (x1 : ByteArray) (K : (Option Addr) → Heap → Prop) (h0 : Heap) : Prop :=
  ∃ a1 : Addr, x0 = some a1 ∧
  (Wr h0 (adr a1 1) ∧
   At (hset h0 (adr a1 1) (.bool true)) (fun h2 =>
    ∃ a3 : Addr, x0 = some a3 ∧
    (Wr h2 (adr a3 2) ∧
     At (hset h2 (adr a3 2) (.string x1)) (fun h4 =>
      K x0 h4))))
def A_radix_Node_valued : Ann := .node (.reg [0, 1] (.nil)) (.node (.reg [0] (.nil)) (.node (.reg [4] (.nil)) (.nil)))
theorem E_radix_Node_valued (x0 : Option Addr) (x1 : ByteArray) (K : Tup [.c .ptr] → Heap → Prop) (h0 : Heap) : F_radix_Node_valued x0 x1 K h0 = sBody PG Tryz.f128 (Tryz.f128.body.getD .skip) A_radix_Node_valued [.pointer x0, .string x1] [.c .ptr] K h0 := by kernel_rfl
theorem H_radix_Node_valued (x0 : Option Addr) (x1 : ByteArray) {K : Tup [.c .ptr] → Heap → Prop} {h0 : Heap} (h : F_radix_Node_valued x0 x1 K h0) : HC PG f_radix_Node_valued [.pointer x0, .string x1] [.c .ptr] K h0 := HC.intro Tryz.mixed Tryz.func128 rfl Tryz.call128 (Nat.le_of_ble_eq_true rfl) ((E_radix_Node_valued x0 x1 K h0) ▸ h)
/-- (*quickset/radix.Node).find -/
def F_radix_Node_find (x0 : Option Addr) (x1 : Int) (K : (Int × Bool) → Heap → Prop) (h0 : Heap) : Prop :=
  ∃ a1 : Addr, x0 = some a1 ∧
  ∃ v2 : SliceV, hcell h0 (adr a1 3) = some (.slice v2.a v2.len v2.cap) ∧
  HC PG f_slices_BinarySearchFunc_A_P_radix_Node_P_radix_Node_byte [.slice v2.a v2.len v2.cap, .int .u8 x1, .func (.func f_radix_Node_find_1) #[] #[]] [.c (.int .i64), .c .bool] (fun (e3 : Int × Bool) h4 =>
   K (e3.1, e3.2) h4) h0
def A_radix_Node_find : Ann := .node (.reg [0, 1] (.nil)) (.node (.reg [4, 5] (.nil)) (.nil))
theorem E_radix_Node_find (x0 : Option Addr) (x1 : Int) (K : Tup [.c (.int .i64), .c .bool] → Heap → Prop) (h0 : Heap) : F_radix_Node_find x0 x1 K h0 = sBody PG Tryz.f129 (Tryz.f129.body.getD .skip) A_radix_Node_find [.pointer x0, .int .u8 x1] [.c (.int .i64), .c .bool] K h0 := by kernel_rfl
theorem H_radix_Node_find (x0 : Option Addr) (x1 : Int) {K : Tup [.c (.int .i64), .c .bool] → Heap → Prop} {h0 : Heap} (h : F_radix_Node_find x0 x1 K h0) : HC PG f_radix_Node_find [.pointer x0, .int .u8 x1] [.c (.int .i64), .c .bool] K h0 := HC.intro Tryz.mixed Tryz.func129 rfl Tryz.call129 (Nat.le_of_ble_eq_true rfl) ((E_radix_Node_find x0 x1 K h0) ▸ h)
/-- slices.Insert[[]*quickset/radix.Node,*quickset/radix.Node] -/
def F_slices_Insert_A_P_radix_Node_P_radix_Node (x0 : SliceV) (x1 : Int) (x2 : SliceV) (K : (SliceV) → Heap → Prop) (h0 : Heap) : Prop :=
  (((0 : Int) ≤ x1 ∧ x1 ≤ ((x0.len : Nat) : Int)) ∧
   CondP ((x2.len : Int) == (0 : Int)) (
    K x0 h0) (
    CondP (x1 == (x0.len : Int)) (
     ∃ xs1, SRow h0 x2.a (x2.len * 1) xs1 ∧
     AppP (some [.pointer none]) 1 8 t_P_radix_Node x0.a x0.len x0.cap x2.len xs1 h0 (fun s2 h3 =>
      K s2 h3)) (
     CondP (decide ((IntKind.wrap .i64 ((x0.len : Int) + (x2.len : Int))) > (x0.cap : Int))) (
      Join (fun (t8 : SliceV) h9 => -- s2(9)
       (((0 : Int) ≤ x1 ∧ x1 ≤ ((t8.len : Nat) : Int)) ∧
        ∃ xs10, SRow h9 x2.a (Nat.min x2.len (t8.len - x1.toNat) * 1) xs10 ∧ WrS h9 (subAddr t8.a x1.toNat t8.cap 1) 0 xs10 ∧ oneCell xs10 = true ∧
        At (hsetS h9 (subAddr t8.a x1.toNat t8.cap 1) 0 xs10) (fun h11 =>
         (((0 : Int) ≤ (IntKind.wrap .i64 (x1 + (x2.len : Int))) ∧ (IntKind.wrap .i64 (x1 + (x2.len : Int))) ≤ ((t8.len : Nat) : Int)) ∧
          Bd (subAddr t8.a ((IntKind.wrap .i64 (x1 + (x2.len : Int))).toNat) t8.cap 1 : Option Addr) (fun a12 => Bd (t8.len - ((IntKind.wrap .i64 (x1 + (x2.len : Int))).toNat) : Nat) (fun n13 => Bd (t8.cap - ((IntKind.wrap .i64 (x1 + (x2.len : Int))).toNat) : Nat) (fun n14 =>
             (((0 : Int) ≤ x1 ∧ x1 ≤ ((x0.len : Nat) : Int)) ∧
              ∃ xs15, SRow h11 (subAddr x0.a x1.toNat x0.cap 1) (Nat.min (x0.len - x1.toNat) n13 * 1) xs15 ∧ WrS h11 a12 0 xs15 ∧ oneCell xs15 = true ∧
              At (hsetS h11 a12 0 xs15) (fun h16 =>
               K t8 h16))))))))) (fun J4 =>
       (((0 : Int) ≤ x1 ∧ x1 ≤ ((x0.cap : Nat) : Int)) ∧
        Bd (IntKind.wrap .i64 ((IntKind.wrap .i64 ((x0.len : Int) + (x2.len : Int))) - x1) : Int) (fun n5 =>
         (((0 : Int) ≤ n5 ∧ n5 * ((8 : Nat) : Int) ≤ 2 ^ 48 ∧ n5 ≤ 9223372036854775807 ∧ (((x1.toNat - 0) + n5.toNat : Nat) : Int) ≤ 9223372036854775807) ∧
          AppP (some [.pointer none]) 1 8 t_P_radix_Node (subAddr x0.a 0 x0.cap 1) (x1.toNat - 0) (x0.cap - 0) n5.toNat (zrow n5.toNat [.pointer none]) h0 (fun s6 h7 =>
           J4 s6 h7)))))) (
      (((0 : Int) ≤ (IntKind.wrap .i64 ((x0.len : Int) + (x2.len : Int))) ∧ (IntKind.wrap .i64 ((x0.len : Int) + (x2.len : Int))) ≤ ((x0.cap : Nat) : Int)) ∧
       Bd (subAddr x0.a 0 x0.cap 1 : Option Addr) (fun a17 => Bd (((IntKind.wrap .i64 ((x0.len : Int) + (x2.len : Int))).toNat) - 0 : Nat) (fun n18 => Bd (x0.cap - 0 : Nat) (fun n19 =>
          (((0 : Int) ≤ (IntKind.wrap .i64 (x1 + (x2.len : Int))) ∧ (IntKind.wrap .i64 (x1 + (x2.len : Int))) ≤ ((n18 : Nat) : Int)) ∧
           Bd (subAddr a17 ((IntKind.wrap .i64 (x1 + (x2.len : Int))).toNat) n19 1 : Option Addr) (fun a20 => Bd (n18 - ((IntKind.wrap .i64 (x1 + (x2.len : Int))).toNat) : Nat) (fun n21 => Bd (n19 - ((IntKind.wrap .i64 (x1 + (x2.len : Int))).toNat) : Nat) (fun n22 =>
              HC PG f_slices_overlaps_P_radix_Node [.slice x2.a x2.len x2.cap, .slice a20 n21 n22] [.c .bool] (fun (e23 : Bool) h24 =>
               CondP (!e23) (
                (((0 : Int) ≤ (IntKind.wrap .i64 (x1 + (x2.len : Int))) ∧ (IntKind.wrap .i64 (x1 + (x2.len : Int))) ≤ ((n18 : Nat) : Int)) ∧
                 Bd (subAddr a17 ((IntKind.wrap .i64 (x1 + (x2.len : Int))).toNat) n19 1 : Option Addr) (fun a25 => Bd (n18 - ((IntKind.wrap .i64 (x1 + (x2.len : Int))).toNat) : Nat) (fun n26 => Bd (n19 - ((IntKind.wrap .i64 (x1 + (x2.len : Int))).toNat) : Nat) (fun n27 =>
                    (((0 : Int) ≤ x1 ∧ x1 ≤ ((n18 : Nat) : Int)) ∧
                     ∃ xs28, SRow h24 (subAddr a17 x1.toNat n19 1) (Nat.min (n18 - x1.toNat) n26 * 1) xs28 ∧ WrS h24 a25 0 xs28 ∧ oneCell xs28 = true ∧
                     At (hsetS h24 a25 0 xs28) (fun h29 =>
                      (((0 : Int) ≤ x1 ∧ x1 ≤ ((n18 : Nat) : Int)) ∧
                       ∃ xs30, SRow h29 x2.a (Nat.min x2.len (n18 - x1.toNat) * 1) xs30 ∧ WrS h29 (subAddr a17 x1.toNat n19 1) 0 xs30 ∧ oneCell xs30 = true ∧
                       At (hsetS h29 (subAddr a17 x1.toNat n19 1) 0 xs30) (fun h31 =>
                        K ⟨a17, n18, n19⟩ h31))))))))) (
                (((0 : Int) ≤ (x0.len : Int) ∧ (x0.len : Int) ≤ ((n18 : Nat) : Int)) ∧
                 ∃ xs32, SRow h24 x2.a (Nat.min x2.len (n18 - ((x0.len : Int).toNat)) * 1) xs32 ∧ WrS h24 (subAddr a17 ((x0.len : Int).toNat) n19 1) 0 xs32 ∧ oneCell xs32 = true ∧
                 At (hsetS h24 (subAddr a17 ((x0.len : Int).toNat) n19 1) 0 xs32) (fun h33 =>
                  (((0 : Int) ≤ x1 ∧ x1 ≤ ((n18 : Nat) : Int)) ∧
                   HC PG f_slices_rotateRight_P_radix_Node [.slice (subAddr a17 x1.toNat n19 1) (n18 - x1.toNat) (n19 - x1.toNat), .int .i64 (x2.len : Int)] [] (fun (e34 : Unit) h35 =>
                    K ⟨a17, n18, n19⟩ h35) h33))))) h0))))))))))))
def A_slices_Insert_A_P_radix_Node_P_radix_Node : Ann := .node (.reg [0, 1, 2] (.nil)) (.node (.reg [0, 1, 2] (.nil)) (.node (.reg [0, 1, 2, 7] (.nil)) (.node (.node (.reg [0, 1, 2, 7, 16] (.nil)) (.node (.node (.reg [6] (.nil)) (.nil)) (.nil))) (.node (.reg [0, 1, 2, 7, 8] (.nil)) (.node (.node (.reg [0, 1, 2, 7, 8, 22] (.nil)) (.node (.node (.reg [6] (.nil)) (.nil)) (.nil))) (.node (.node (.reg [0, 1, 2, 7, 8, 31] (.nil)) (.node (.join [0, 1, 2, 7] [(9, .c .slice)] (.reg [0, 1, 2, 7, 9] (.nil)) (.node (.reg [0, 1, 7, 9] (.nil)) (.node (.reg [9] (.draw [.mk 0 511 512 70368744177664, .mk 0 511 2 140737488355328, .mk 0 511 128 281474976710656, .mk 6 505 422212465065984 562949953421312, .mk 9 502 633318697598976 1125899906842624, .mk 0 511 1 2251799813685248, .mk 0 511 2 4503599627370496, .mk 96 415 6755399441055744 9007199254740992, .mk 144 367 10133099161583616 18014398509481984] (.take 0 (.take 1 (.take 2 (.take 3 (.take 4 (.take 5 (.take 6 (.take 7 (.all (.last 8 (.done))))))))))))) (.node (.reg [6] (.nil)) (.nil))))) (.nil))) (.node (.reg [0, 1, 2, 7, 8] (.nil)) (.node (.node (.reg [0, 1, 2, 7, 8, 68] (.nil)) (.node (.node (.reg [0, 1, 2] (.draw [.mk 0 511 1 590295810358705651712, .mk 0 511 2 1180591620717411303424, .mk 0 511 128 2361183241434822606848, .mk 6 505 3541774862152233910272 4722366482869645213696, .mk 9 502 5312662293228350865408 9444732965739290427392, .mk 0 511 1 18889465931478580854784, .mk 0 511 2 37778931862957161709568, .mk 96 415 56668397794435742564352 75557863725914323419136, .mk 144 367 85002596691653613846528 151115727451828646838272] (.take 0 (.take 1 (.take 2 (.take 3 (.take 4 (.take 5 (.take 6 (.take 7 (.all (.last 8 (.done))))))))))))) (.node (.reg [0] (.nil)) (.node (.reg [6] (.nil)) (.nil)))) (.nil))) (.node (.reg [0, 1, 7] (.nil)) (.node (.reg [0] (.nil)) (.node (.reg [6] (.nil)) (.nil))))))))))))
theorem E_slices_Insert_A_P_radix_Node_P_radix_Node (x0 : SliceV) (x1 : Int) (x2 : SliceV) (K : Tup [.c .slice] → Heap → Prop) (h0 : Heap) : F_slices_Insert_A_P_radix_Node_P_radix_Node x0 x1 x2 K h0 = sBody PG Tryz.f130 (Tryz.f130.body.getD .skip) A_slices_Insert_A_P_radix_Node_P_radix_Node [.slice x0.a x0.len x0.cap, .int .i64 x1, .slice x2.a x2.len x2.cap] [.c .slice] K h0 := by kernel_rfl
theorem H_slices_Insert_A_P_radix_Node_P_radix_Node (x0 : SliceV) (x1 : Int) (x2 : SliceV) {K : Tup [.c .slice] → Heap → Prop} {h0 : Heap} (h : F_slices_Insert_A_P_radix_Node_P_radix_Node x0 x1 x2 K h0) : HC PG f_slices_Insert_A_P_radix_Node_P_radix_Node [.slice x0.a x0.len x0.cap, .int .i64 x1, .slice x2.a x2.len x2.cap] [.c .slice] K h0 := HC.intro Tryz.mixed Tryz.func130 rfl Tryz.call130 (Nat.le_of_ble_eq_true rfl) ((E_slices_Insert_A_P_radix_Node_P_radix_Node x0 x1 x2 K h0) ▸ h)
/-- quickset/radix.fresh -/
def F_radix_fresh (x0 : Option Addr) (x1 : ByteArray) (x2 : ByteArray) (K : (Option Addr) → Heap → Prop) (h0 : Heap) : Prop :=
  At (hnew h0 [.string (⟨#[]⟩ : ByteArray), .bool false, .string (⟨#[]⟩ : ByteArray), .slice none 0 0, .pointer none] t_radix_Node) (fun h1 =>
   HC PG f_radix_Node_own [.pointer (some (newA h0)), .pointer x0] [.c .ptr] (fun (e2 : Option Addr) h3 =>
    HC PG f_radix_Node_named [.pointer e2, .string x1] [.c .ptr] (fun (e4 : Option Addr) h5 =>
     HC PG f_radix_Node_valued [.pointer e4, .string x2] [.c .ptr] (fun (e6 : Option Addr) h7 =>
      K e6 h7) h5) h3) h1)
def A_radix_fresh : Ann := .node (.reg [0, 1, 2] (.nil)) (.node (.reg [6] (.nil)) (.nil))
theorem E_radix_fresh (x0 : Option Addr) (x1 : ByteArray) (x2 : ByteArray) (K : Tup [.c .ptr] → Heap → Prop) (h0 : Heap) : F_radix_fresh x0 x1 x2 K h0 = sBody PG Tryz.f131 (Tryz.f131.body.getD .skip) A_radix_fresh [.pointer x0, .string x1, .string x2] [.c .ptr] K h0 := by kernel_rfl
theorem H_radix_fresh (x0 : Option Addr) (x1 : ByteArray) (x2 : ByteArray) {K : Tup [.c .ptr] → Heap → Prop} {h0 : Heap} (h : F_radix_fresh x0 x1 x2 K h0) : HC PG f_radix_fresh [.pointer x0, .string x1, .string x2] [.c .ptr] K h0 := HC.intro Tryz.mixed Tryz.func131 rfl Tryz.call131 (Nat.le_of_ble_eq_true rfl) ((E_radix_fresh x0 x1 x2 K h0) ▸ h)
/-- (*quickset/radix.Node).split -/
def F_radix_Node_split (x0 : Option Addr) (x1 : Option Addr) (x2 : Int) (K : (Option Addr) → Heap → Prop) (h0 : Heap) : Prop :=
  ∃ a1 : Addr, x0 = some a1 ∧
  ∃ v2 : ByteArray, hcell h0 (adr a1 0) = some (.string v2) ∧
  (((0 : Int) ≤ x2 ∧ x2 ≤ ((v2.size : Nat) : Int)) ∧
   (hcell h0 (adr a1 0) = some (.string v2) ∧
    At (hnew h0 [.string (⟨#[]⟩ : ByteArray), .bool false, .string (⟨#[]⟩ : ByteArray), .slice none 0 0, .pointer none] t_radix_Node) (fun h3 =>
     (hcell h3 (adr a1 0) = some (.string v2) ∧
      HC PG f_radix_Node_own [.pointer (some (newA h0)), .pointer x1] [.c .ptr] (fun (e4 : Option Addr) h5 =>
       (hcell h5 (adr a1 0) = some (.string v2) ∧
        HC PG f_radix_Node_named [.pointer e4, .string (v2.extract 0 x2.toNat)] [.c .ptr] (fun (e6 : Option Addr) h7 =>
         (hcell h7 (adr a1 0) = some (.string v2) ∧
          HC PG f_radix_Node_own [.pointer x0, .pointer x1] [.c .ptr] (fun (e8 : Option Addr) h9 =>
           ∃ a10 : Addr, e8 = some a10 ∧
           ∃ v11 : ByteArray, hcell h9 (adr a10 0) = some (.string v11) ∧
           (((0 : Int) ≤ x2 ∧ x2 ≤ ((v11.size : Nat) : Int)) ∧
            HC PG f_radix_Node_named [.pointer e8, .string (v11.extract x2.toNat v11.size)] [.c .ptr] (fun (e12 : Option Addr) h13 =>
             At (hnew h13 [.pointer e12] t_P_radix_Node) (fun h14 =>
              ∃ a15 : Addr, e6 = some a15 ∧
              (Wr h14 (adr a15 3) ∧
               At (hset h14 (adr a15 3) (.slice (some (newA h13)) 1 1)) (fun h16 =>
                K e6 h16)))) h9)) h7)) h5)) h3))))
def A_radix_Node_split : Ann := .node (.reg [0, 1, 2] (.nil)) (.node (.reg [0, 1, 2, 7] (.draw [.mk 0 4095 0 512, .mk 1 4094 512 1024, .mk 0 4095 2 2048, .mk 6 4089 3072 4096, .mk 0 4095 1 8192, .mk 16 4079 8192 16384, .mk 32 4063 16384 32768, .mk 64 4031 32768 65536, .mk 0 4095 4 131072, .mk 384 3711 196608 262144, .mk 520 3575 266240 524288, .mk 2047 3071 524288 128] (.take 2 (.take 4 (.take 5 (.take 6 (.take 7 (.take 8 (.take 9 (.all (.last 0 (.all (.last 1 (.all (.last 3 (.all (.last 10 (.take 11 (.done))))))))))))))))))) (.node (.reg [2, 7, 8] (.nil)) (.node (.reg [7] (.nil)) (.node (.reg [6] (.nil)) (.nil)))))
theorem E_radix_Node_split (x0 : Option Addr) (x1 : Option Addr) (x2 : Int) (K : Tup [.c .ptr] → Heap → Prop) (h0 : Heap) : F_radix_Node_split x0 x1 x2 K h0 = sBody PG Tryz.f132 (Tryz.f132.body.getD .skip) A_radix_Node_split [.pointer x0, .pointer x1, .int .i64 x2] [.c .ptr] K h0 := by kernel_rfl
theorem H_radix_Node_split (x0 : Option Addr) (x1 : Option Addr) (x2 : Int) {K : Tup [.c .ptr] → Heap → Prop} {h0 : Heap} (h : F_radix_Node_split x0 x1 x2 K h0) : HC PG f_radix_Node_split [.pointer x0, .pointer x1, .int .i64 x2] [.c .ptr] K h0 := HC.intro Tryz.mixed Tryz.func132 rfl Tryz.call132 (Nat.le_of_ble_eq_true rfl) ((E_radix_Node_split x0 x1 x2 K h0) ▸ h)
/-- quickset/champ.in -/
def F_champ_in (x0 : Option Addr) (x1 : ByteArray) (K : (ByteArray × Bool) → Heap → Prop) (h0 : Heap) : Prop :=
  HC PG f_node_Node_Pairs [.pointer x0] [.c .slice] (fun (e1 : SliceV) h2 =>
   HC PG f_pair_Find [.slice e1.a e1.len e1.cap, .string x1] [.c (.int .i64), .c .bool] (fun (e3 : Int × Bool) h4 =>
    CondP (!e3.2) (
     K ((⟨#[]⟩ : ByteArray), false) h4) (
     (((0 : Int) ≤ e3.1 ∧ e3.1 < ((e1.len : Nat) : Int)) ∧ ∃ a5 : Addr, e1.a = some a5 ∧
      ∃ v6 : ByteArray, hcell h4 (adr (adr a5 (e3.1.toNat * 2)) 1) = some (.string v6) ∧
      K (v6, true) h4))) h2) h0
def A_champ_in : Ann := .node (.reg [0, 1] (.nil)) (.node (.reg [1, 6] (.nil)) (.node (.reg [6, 7, 8] (.nil)) (.node (.node (.reg [6, 7, 18] (.nil)) (.node (.node (.reg [4, 5] (.nil)) (.nil)) (.nil))) (.node (.reg [4, 5] (.nil)) (.nil)))))
theorem E_champ_in (x0 : Option Addr) (x1 : ByteArray) (K : Tup [.c .str, .c .bool] → Heap → Prop) (h0 : Heap) : F_champ_in x0 x1 K h0 = sBody PG Tryz.f133 (Tryz.f133.body.getD .skip) A_champ_in [.pointer x0, .string x1] [.c .str, .c .bool] K h0 := by kernel_rfl
theorem H_champ_in (x0 : Option Addr) (x1 : ByteArray) {K : Tup [.c .str, .c .bool] → Heap → Prop} {h0 : Heap} (h : F_champ_in x0 x1 K h0) : HC PG f_champ_in [.pointer x0, .string x1] [.c .str, .c .bool] K h0 := HC.intro Tryz.mixed Tryz.func133 rfl Tryz.call133 (Nat.le_of_ble_eq_true rfl) ((E_champ_in x0 x1 K h0) ▸ h)
/-- (*quickset/node.Node).Pair -/
def F_node_Node_Pair (x0 : Option Addr) (x1 : Int) (K : ((ByteArray × ByteArray) × Bool) → Heap → Prop) (h0 : Heap) : Prop :=
  At (hnew h0 [.string (⟨#[]⟩ : ByteArray), .string (⟨#[]⟩ : ByteArray)] t_pair_Pair) (fun h1 =>
   HC PG f_node_Node_Data [.pointer x0] [.c (.int .u32)] (fun (e2 : Int) h3 =>
    HC PG f_chunk_Bits_Has [.int .u32 e2, .int .i64 x1] [.c .bool] (fun (e4 : Bool) h5 =>
     CondP (!e4) (
      (WrS h5 (some (newA h0)) 0 [.string (⟨#[]⟩ : ByteArray), .string (⟨#[]⟩ : ByteArray)] ∧
       At (hsetL h5 (newA h0) 0 [.string (⟨#[]⟩ : ByteArray), .string (⟨#[]⟩ : ByteArray)]) (fun h6 =>
        ∃ v7 : ByteArray, hcell h6 (adr (newA h0) 0) = some (.string v7) ∧
        ∃ v8 : ByteArray, hcell h6 (adr (newA h0) 1) = some (.string v8) ∧
        K ((v7, v8), false) h6))) (
      ∃ a9 : Addr, x0 = some a9 ∧
      ∃ v10 : SliceV, hcell h5 (adr (adr a9 0) 2) = some (.slice v10.a v10.len v10.cap) ∧
      ∃ a11 : Addr, x0 = some a11 ∧
      ∃ v12 : Int, hcell h5 (adr (adr a11 0) 0) = some (.int .u32 v12) ∧
      HC PG f_chunk_Bits_Rank [.int .u32 v12, .int .i64 x1] [.c (.int .i64)] (fun (e13 : Int) h14 =>
       (hcell h14 (adr (adr a9 0) 2) = some (.slice v10.a v10.len v10.cap) ∧
        (((0 : Int) ≤ e13 ∧ e13 < ((v10.len : Nat) : Int)) ∧ ∃ a15 : Addr, v10.a = some a15 ∧
         ∃ v16 : ByteArray, hcell h14 (adr (adr a15 (e13.toNat * 2)) 0) = some (.string v16) ∧
         ∃ v17 : ByteArray, hcell h14 (adr (adr a15 (e13.toNat * 2)) 1) = some (.string v17) ∧
         (WrS h14 (some (newA h0)) 0 [.string v16, .string v17] ∧
          At (hsetL h14 (newA h0) 0 [.string v16, .string v17]) (fun h18 =>
           ∃ v19 : ByteArray, hcell h18 (adr (newA h0) 0) = some (.string v19) ∧
           ∃ v20 : ByteArray, hcell h18 (adr (newA h0) 1) = some (.string v20) ∧
           K ((v19, v20), true) h18))))) h5)) h3) h1)
def A_node_Node_Pair : Ann := .node (.reg [0, 1, 4] (.nil)) (.node (.node (.reg [0, 1, 4, 10] (.nil)) (.node (.node (.reg [4, 5] (.nil)) (.nil)) (.nil))) (.node (.reg [4, 5] (.draw [.mk 0 65535 1 4096, .mk 1 65534 4096 8192, .mk 2 65533 8192 16384, .mk 4 65531 16384 32768, .mk 8 65527 32768 65536, .mk 0 65535 1 131072, .mk 32 65503 131072 262144, .mk 64 65471 262144 524288, .mk 128 65407 524288 1048576, .mk 256 65279 1048576 2097152, .mk 0 65535 2 4194304, .mk 1536 63999 6291456 8388608, .mk 2064 63471 8454144 16777216, .mk 4096 61439 16777216 33554432, .mk 16383 57343 33554448 0, .mk 32767 65535 0 32] (.take 0 (.take 1 (.take 2 (.take 3 (.take 4 (.take 5 (.take 6 (.take 7 (.take 8 (.take 9 (.take 10 (.all (.last 11 (.take 12 (.take 13 (.all (.last 14 (.take 15 (.done))))))))))))))))))))) (.nil)))
theorem E_node_Node_Pair (x0 : Option Addr) (x1 : Int) (K : Tup [.agg [.str, .str], .c .bool] → Heap → Prop) (h0 : Heap) : F_node_Node_Pair x0 x1 K h0 = sBody PG Tryz.f134 (Tryz.f134.body.getD .skip) A_node_Node_Pair [.pointer x0, .int .i64 x1] [.agg [.str, .str], .c .bool] K h0 := by kernel_rfl
theorem H_node_Node_Pair (x0 : Option Addr) (x1 : Int) {K : Tup [.agg [.str, .str], .c .bool] → Heap → Prop} {h0 : Heap} (h : F_node_Node_Pair x0 x1 K h0) : HC PG f_node_Node_Pair [.pointer x0, .int .i64 x1] [.agg [.str, .str], .c .bool] K h0 := HC.intro Tryz.mixed Tryz.func134 rfl Tryz.call134 (Nat.le_of_ble_eq_true rfl) ((E_node_Node_Pair x0 x1 K h0) ▸ h)
/-- (quickset/champ.work).both -/
def F_champ_work_both (x0 : Int × Int × Int × (Option Addr) × ByteArray × Int) (x1 : ByteArray × ByteArray) (x2 : ByteArray × ByteArray) (x3 : Int) (K : (Option Addr) → Heap → Prop) (h0 : Heap) : Prop :=
  At (hnew h0 [.int .u64 x0.1, .int .u64 x0.2.1, .int .u64 x0.2.2.1, .pointer x0.2.2.2.1, .string x0.2.2.2.2.1, .int .u64 x0.2.2.2.2.2] t_champ_work) (fun h1 =>
   At (hnew h1 [.string x1.1, .string x1.2] t_pair_Pair) (fun h2 =>
    At (hnew h2 [.string x2.1, .string x2.2] t_pair_Pair) (fun h3 =>
     CondP (x3 == (13 : Int)) (
      ∃ v4 : Option Addr, hcell h3 (adr (newA h0) 3) = some (.pointer v4) ∧
      ∃ v5 : ByteArray, hcell h3 (adr (newA h1) 0) = some (.string v5) ∧
      ∃ v6 : ByteArray, hcell h3 (adr (newA h1) 1) = some (.string v6) ∧
      ∃ v7 : Option Addr, hcell h3 (adr (newA h0) 3) = some (.pointer v7) ∧
      ∃ v8 : ByteArray, hcell h3 (adr (newA h2) 0) = some (.string v8) ∧
      ∃ v9 : ByteArray, hcell h3 (adr (newA h2) 1) = some (.string v9) ∧
      HC PG f_node_Bucket [] [.c .ptr] (fun (e10 : Option Addr) h11 =>
       ((hcell h11 (adr (newA h2) 0) = some (.string v8) ∧ hcell h11 (adr (newA h2) 1) = some (.string v9)) ∧
        (hcell h11 (adr (newA h0) 3) = some (.pointer v7) ∧
         ((hcell h11 (adr (newA h1) 0) = some (.string v5) ∧ hcell h11 (adr (newA h1) 1) = some (.string v6)) ∧
          (hcell h11 (adr (newA h0) 3) = some (.pointer v4) ∧
           HC PG f_node_Node_Put [.pointer e10, .pointer v4, .agg #[.string v5, .string v6]] [.c .ptr] (fun (e12 : Option Addr) h13 =>
            ((hcell h13 (adr (newA h2) 0) = some (.string v8) ∧ hcell h13 (adr (newA h2) 1) = some (.string v9)) ∧
             (hcell h13 (adr (newA h0) 3) = some (.pointer v7) ∧
              HC PG f_node_Node_Put [.pointer e12, .pointer v7, .agg #[.string v8, .string v9]] [.c .ptr] (fun (e14 : Option Addr) h15 =>
               K e14 h15) h13))) h11))))) h3) (
      ∃ v16 : Int, hcell h3 (adr (adr (newA h0) 0) 0) = some (.int .u64 v16) ∧
      ∃ v17 : Int, hcell h3 (adr (adr (newA h0) 0) 1) = some (.int .u64 v17) ∧
      ∃ v18 : Int, hcell h3 (adr (adr (newA h0) 0) 2) = some (.int .u64 v18) ∧
      ∃ v19 : ByteArray, hcell h3 (adr (newA h1) 0) = some (.string v19) ∧
      ∃ v20 : Int, hcell h3 (adr (newA h0) 5) = some (.int .u64 v20) ∧
      HC PG f_sip_Hasher_Hash [.agg #[.int .u64 v16, .int .u64 v17, .int .u64 v18], .string v19] [.c (.int .u64)] (fun (e21 : Int) h22 =>
       (hcell h22 (adr (newA h0) 5) = some (.int .u64 v20) ∧
        HC PG f_chunk_At [.int .u64 e21, .int .i64 x3] [.c (.int .i64)] (fun (e23 : Int) h24 =>
         (hcell h24 (adr (newA h0) 5) = some (.int .u64 v20) ∧
          HC PG f_chunk_At [.int .u64 v20, .int .i64 x3] [.c (.int .i64)] (fun (e25 : Int) h26 =>
           CondP (e23 == e25) (
            ∃ v27 : Option Addr, hcell h26 (adr (newA h0) 3) = some (.pointer v27) ∧
            ∃ v28 : Int, hcell h26 (adr (newA h0) 0) = some (.int .u64 v28) ∧
            ∃ v29 : Int, hcell h26 (adr (newA h0) 1) = some (.int .u64 v29) ∧
            ∃ v30 : Int, hcell h26 (adr (newA h0) 2) = some (.int .u64 v30) ∧
            ∃ v31 : Option Addr, hcell h26 (adr (newA h0) 3) = some (.pointer v31) ∧
            ∃ v32 : ByteArray, hcell h26 (adr (newA h0) 4) = some (.string v32) ∧
            ∃ v33 : Int, hcell h26 (adr (newA h0) 5) = some (.int .u64 v33) ∧
            ∃ v34 : ByteArray, hcell h26 (adr (newA h1) 0) = some (.string v34) ∧
            ∃ v35 : ByteArray, hcell h26 (adr (newA h1) 1) = some (.string v35) ∧
            ∃ v36 : ByteArray, hcell h26 (adr (newA h2) 0) = some (.string v36) ∧
            ∃ v37 : ByteArray, hcell h26 (adr (newA h2) 1) = some (.string v37) ∧
            HC PG f_node_Inner [] [.c .ptr] (fun (e38 : Option Addr) h39 =>
             ((hcell h39 (adr (newA h2) 0) = some (.string v36) ∧ hcell h39 (adr (newA h2) 1) = some (.string v37)) ∧
              ((hcell h39 (adr (newA h1) 0) = some (.string v34) ∧ hcell h39 (adr (newA h1) 1) = some (.string v35)) ∧
               ((hcell h39 (adr (newA h0) 0) = some (.int .u64 v28) ∧ hcell h39 (adr (newA h0) 1) = some (.int .u64 v29) ∧ hcell h39 (adr (newA h0) 2) = some (.int .u64 v30) ∧ hcell h39 (adr (newA h0) 3) = some (.pointer v31) ∧ hcell h39 (adr (newA h0) 4) = some (.string v32) ∧ hcell h39 (adr (newA h0) 5) = some (.int .u64 v33)) ∧
                (hcell h39 (adr (newA h0) 3) = some (.pointer v27) ∧
                 HC PG f_champ_work_both [.agg #[.int .u64 v28, .int .u64 v29, .int .u64 v30, .pointer v31, .string v32, .int .u64 v33], .agg #[.string v34, .string v35], .agg #[.string v36, .string v37], .int .i64 (IntKind.wrap .i64 (x3 + 1))] [.c .ptr] (fun (e40 : Option Addr) h41 =>
                  (hcell h41 (adr (newA h0) 3) = some (.pointer v27) ∧
                   HC PG f_node_Node_SetKid [.pointer e38, .pointer v27, .int .i64 e23, .pointer e40] [.c .ptr] (fun (e42 : Option Addr) h43 =>
                    K e42 h43) h41)) h39))))) h26) (
            ∃ v44 : Option Addr, hcell h26 (adr (newA h0) 3) = some (.pointer v44) ∧
            ∃ v45 : ByteArray, hcell h26 (adr (newA h1) 0) = some (.string v45) ∧
            ∃ v46 : ByteArray, hcell h26 (adr (newA h1) 1) = some (.string v46) ∧
            ∃ v47 : Option Addr, hcell h26 (adr (newA h0) 3) = some (.pointer v47) ∧
            ∃ v48 : ByteArray, hcell h26 (adr (newA h2) 0) = some (.string v48) ∧
            ∃ v49 : ByteArray, hcell h26 (adr (newA h2) 1) = some (.string v49) ∧
            HC PG f_node_Inner [] [.c .ptr] (fun (e50 : Option Addr) h51 =>
             ((hcell h51 (adr (newA h2) 0) = some (.string v48) ∧ hcell h51 (adr (newA h2) 1) = some (.string v49)) ∧
              (hcell h51 (adr (newA h0) 3) = some (.pointer v47) ∧
               ((hcell h51 (adr (newA h1) 0) = some (.string v45) ∧ hcell h51 (adr (newA h1) 1) = some (.string v46)) ∧
                (hcell h51 (adr (newA h0) 3) = some (.pointer v44) ∧
                 HC PG f_node_Node_SetPair [.pointer e50, .pointer v44, .int .i64 e23, .agg #[.string v45, .string v46]] [.c .ptr] (fun (e52 : Option Addr) h53 =>
                  ((hcell h53 (adr (newA h2) 0) = some (.string v48) ∧ hcell h53 (adr (newA h2) 1) = some (.string v49)) ∧
                   (hcell h53 (adr (newA h0) 3) = some (.pointer v47) ∧
                    HC PG f_node_Node_SetPair [.pointer e52, .pointer v47, .int .i64 e25, .agg #[.string v48, .string v49]] [.c .ptr] (fun (e54 : Option Addr) h55 =>
                     K e54 h55) h53))) h51))))) h26)) h24)) h22)) h3))))
def A_champ_work_both : Ann := .node (.reg [3, 4, 5, 6] (.nil)) (.node (.node (.reg [3, 4, 5, 6, 12] (.nil)) (.node (.node (.reg [8] (.draw [.mk 0 1023 0 8192, .mk 0 1023 16 16384, .mk 2 1021 16384 32768, .mk 0 1023 32 65536, .mk 13 1010 106496 131072, .mk 0 1023 16 262144, .mk 32 991 262144 524288, .mk 0 1023 64 1048576, .mk 208 815 1703936 2097152, .mk 511 767 2097152 256] (.take 1 (.take 2 (.take 3 (.take 5 (.take 6 (.take 7 (.all (.last 0 (.all (.last 4 (.all (.last 8 (.take 9 (.done)))))))))))))))) (.nil)) (.nil))) (.node (.reg [3, 4, 5, 6, 9, 10] (.draw [.mk 0 8191 16 4194304, .mk 1 8190 4194304 8388608, .mk 0 8191 32 16777216, .mk 4 8187 16777216 33554432, .mk 10 8181 41943040 67108864, .mk 0 8191 8 134217728, .mk 48 8143 201326592 268435456, .mk 0 8191 16 536870912, .mk 128 8063 536870912 1073741824, .mk 0 8191 8 2147483648, .mk 832 7423 3221225472 4294967296, .mk 1151 8127 268435456 512, .mk 4095 7167 4294967296 1024] (.take 0 (.take 1 (.take 2 (.take 3 (.take 5 (.take 7 (.take 8 (.take 9 (.all (.last 4 (.all (.last 6 (.all (.last 10 (.take 11 (.take 12 (.done))))))))))))))))))) (.node (.node (.reg [3, 4, 5, 6, 9, 10, 35] (.nil)) (.node (.node (.reg [8] (.draw [.mk 0 4095 0 68719476736, .mk 0 4095 16 137438953472, .mk 2 4093 137438953472 274877906944, .mk 0 4095 512 549755813888, .mk 0 4095 16 1099511627776, .mk 0 4095 32 2199023255552, .mk 0 4095 64 4398046511104, .mk 0 4095 8 8796093022208, .mk 128 3967 8796093022208 17592186044416, .mk 369 3727 25288767438848 35184372088832, .mk 525 3570 36077725286400 70368744177664, .mk 2047 3071 70368744177664 256] (.take 1 (.take 2 (.take 3 (.take 4 (.take 5 (.take 6 (.take 7 (.take 8 (.all (.last 0 (.all (.last 9 (.all (.last 10 (.take 11 (.done)))))))))))))))))) (.nil)) (.nil))) (.node (.reg [8] (.draw [.mk 0 4095 0 140737488355328, .mk 0 4095 16 281474976710656, .mk 2 4093 281474976710656 562949953421312, .mk 0 4095 512 1125899906842624, .mk 0 4095 32 2251799813685248, .mk 29 4066 4081387162304512 4503599627370496, .mk 0 4095 16 9007199254740992, .mk 64 4031 9007199254740992 18014398509481984, .mk 0 4095 1024 36028797018963968, .mk 0 4095 64 72057594037927936, .mk 928 3167 130604389193744384 144115188075855872, .mk 2047 3071 144115188075855872 256] (.take 1 (.take 2 (.take 3 (.take 4 (.take 6 (.take 7 (.take 8 (.take 9 (.all (.last 0 (.all (.last 5 (.all (.last 10 (.take 11 (.done)))))))))))))))))) (.nil)))))
theorem E_champ_work_both (x0 : Int × Int × Int × (Option Addr) × ByteArray × Int) (x1 : ByteArray × ByteArray) (x2 : ByteArray × ByteArray) (x3 : Int) (K : Tup [.c .ptr] → Heap → Prop) (h0 : Heap) : F_champ_work_both x0 x1 x2 x3 K h0 = sBody PG Tryz.f135 (Tryz.f135.body.getD .skip) A_champ_work_both [.agg #[.int .u64 x0.1, .int .u64 x0.2.1, .int .u64 x0.2.2.1, .pointer x0.2.2.2.1, .string x0.2.2.2.2.1, .int .u64 x0.2.2.2.2.2], .agg #[.string x1.1, .string x1.2], .agg #[.string x2.1, .string x2.2], .int .i64 x3] [.c .ptr] K h0 := by kernel_rfl
theorem H_champ_work_both (x0 : Int × Int × Int × (Option Addr) × ByteArray × Int) (x1 : ByteArray × ByteArray) (x2 : ByteArray × ByteArray) (x3 : Int) {K : Tup [.c .ptr] → Heap → Prop} {h0 : Heap} (h : F_champ_work_both x0 x1 x2 x3 K h0) : HC PG f_champ_work_both [.agg #[.int .u64 x0.1, .int .u64 x0.2.1, .int .u64 x0.2.2.1, .pointer x0.2.2.2.1, .string x0.2.2.2.2.1, .int .u64 x0.2.2.2.2.2], .agg #[.string x1.1, .string x1.2], .agg #[.string x2.1, .string x2.2], .int .i64 x3] [.c .ptr] K h0 := HC.intro Tryz.mixed Tryz.func135 rfl Tryz.call135 (Nat.le_of_ble_eq_true rfl) ((E_champ_work_both x0 x1 x2 x3 K h0) ▸ h)
/-- (*quickset/node.Node).Kid -/
def F_node_Node_Kid (x0 : Option Addr) (x1 : Int) (K : ((Option Addr) × Bool) → Heap → Prop) (h0 : Heap) : Prop :=
  HC PG f_node_Node_Nodes [.pointer x0] [.c (.int .u32)] (fun (e1 : Int) h2 =>
   HC PG f_chunk_Bits_Has [.int .u32 e1, .int .i64 x1] [.c .bool] (fun (e3 : Bool) h4 =>
    CondP (!e3) (
     K (none, false) h4) (
     ∃ a5 : Addr, x0 = some a5 ∧
     ∃ v6 : SliceV, hcell h4 (adr (adr a5 0) 3) = some (.slice v6.a v6.len v6.cap) ∧
     ∃ a7 : Addr, x0 = some a7 ∧
     ∃ v8 : Int, hcell h4 (adr (adr a7 0) 1) = some (.int .u32 v8) ∧
     HC PG f_chunk_Bits_Rank [.int .u32 v8, .int .i64 x1] [.c (.int .i64)] (fun (e9 : Int) h10 =>
      (hcell h10 (adr (adr a5 0) 3) = some (.slice v6.a v6.len v6.cap) ∧
       (((0 : Int) ≤ e9 ∧ e9 < ((v6.len : Nat) : Int)) ∧ ∃ a11 : Addr, v6.a = some a11 ∧
        ∃ v12 : Option Addr, hcell h10 (adr a11 (e9.toNat * 1)) = some (.pointer v12) ∧
        K (v12, true) h10))) h4)) h2) h0
def A_node_Node_Kid : Ann := .node (.reg [0, 1] (.nil)) (.node (.node (.reg [0, 1, 10] (.nil)) (.node (.node (.reg [4, 5] (.nil)) (.nil)) (.nil))) (.node (.reg [4, 5] (.draw [.mk 0 65535 1 2048, .mk 1 65534 2048 4096, .mk 2 65533 4096 8192, .mk 4 65531 8192 16384, .mk 8 65527 16384 32768, .mk 0 65535 1 65536, .mk 32 65503 65536 131072, .mk 64 65471 131072 262144, .mk 128 65407 262144 524288, .mk 256 65279 524288 1048576, .mk 0 65535 2 2097152, .mk 1536 63999 3145728 4194304, .mk 2064 63471 4227072 8388608, .mk 4096 61439 8388608 16777216, .mk 16383 57343 16777216 16, .mk 32767 65535 0 32] (.take 0 (.take 1 (.take 2 (.take 3 (.take 4 (.take 5 (.take 6 (.take 7 (.take 8 (.take 9 (.take 10 (.all (.last 11 (.take 12 (.take 13 (.take 14 (.take 15 (.done)))))))))))))))))))) (.nil)))
theorem E_node_Node_Kid (x0 : Option Addr) (x1 : Int) (K : Tup [.c .ptr, .c .bool] → Heap → Prop) (h0 : Heap) : F_node_Node_Kid x0 x1 K h0 = sBody PG Tryz.f136 (Tryz.f136.body.getD .skip) A_node_Node_Kid [.pointer x0, .int .i64 x1] [.c .ptr, .c .bool] K h0 := by kernel_rfl
theorem H_node_Node_Kid (x0 : Option Addr) (x1 : Int) {K : Tup [.c .ptr, .c .bool] → Heap → Prop} {h0 : Heap} (h : F_node_Node_Kid x0 x1 K h0) : HC PG f_node_Node_Kid [.pointer x0, .int .i64 x1] [.c .ptr, .c .bool] K h0 := HC.intro Tryz.mixed Tryz.func136 rfl Tryz.call136 (Nat.le_of_ble_eq_true rfl) ((E_node_Node_Kid x0 x1 K h0) ▸ h)
/-- quickset/twig.Cut -/
def F_twig_Cut (x0 : ByteArray) (x1 : ByteArray) (K : (ByteArray × Bool) → Heap → Prop) (h0 : Heap) : Prop :=
  HC PG f_twig_Begins [.string x0, .string x1] [.c .bool] (fun (e1 : Bool) h2 =>
   CondP (!e1) (
    K ((⟨#[]⟩ : ByteArray), false) h2) (
    (((0 : Int) ≤ (x1.size : Int) ∧ (x1.size : Int) ≤ ((x0.size : Nat) : Int)) ∧
     K (x0.extract ((x1.size : Int).toNat) x0.size, true) h2))) h0
def A_twig_Cut : Ann := .node (.reg [0, 1] (.nil)) (.node (.node (.reg [0, 1, 9] (.nil)) (.node (.node (.reg [4, 5] (.nil)) (.nil)) (.nil))) (.node (.reg [4, 5] (.nil)) (.nil)))
theorem E_twig_Cut (x0 : ByteArray) (x1 : ByteArray) (K : Tup [.c .str, .c .bool] → Heap → Prop) (h0 : Heap) : F_twig_Cut x0 x1 K h0 = sBody PG Tryz.f137 (Tryz.f137.body.getD .skip) A_twig_Cut [.string x0, .string x1] [.c .str, .c .bool] K h0 := by kernel_rfl
theorem H_twig_Cut (x0 : ByteArray) (x1 : ByteArray) {K : Tup [.c .str, .c .bool] → Heap → Prop} {h0 : Heap} (h : F_twig_Cut x0 x1 K h0) : HC PG f_twig_Cut [.string x0, .string x1] [.c .str, .c .bool] K h0 := HC.intro Tryz.mixed Tryz.func137 rfl Tryz.call137 (Nat.le_of_ble_eq_true rfl) ((E_twig_Cut x0 x1 K h0) ▸ h)
/-- (*quickset/radix.Node).mend -/
def F_radix_Node_mend (x0 : Option Addr) (x1 : Option Addr) (K : (Option Addr) → Heap → Prop) (h0 : Heap) : Prop :=
  Join (fun (t6 : Bool) h7 => -- (6)
   CondP t6 (
    K x0 h7) (
    ∃ a8 : Addr, x0 = some a8 ∧
    ∃ v9 : SliceV, hcell h7 (adr a8 3) = some (.slice v9.a v9.len v9.cap) ∧
    CondP ((v9.len : Int) == (0 : Int)) (
     K none h7) (
     ∃ a10 : Addr, x0 = some a10 ∧
     ∃ v11 : SliceV, hcell h7 (adr a10 3) = some (.slice v11.a v11.len v11.cap) ∧
     (((0 : Int) ≤ (0 : Int) ∧ (0 : Int) < ((v11.len : Nat) : Int)) ∧ ∃ a12 : Addr, v11.a = some a12 ∧
      ∃ v13 : Option Addr, hcell h7 (adr a12 ((0 : Int).toNat * 1)) = some (.pointer v13) ∧
      HC PG f_radix_Node_own [.pointer v13, .pointer x1] [.c .ptr] (fun (e14 : Option Addr) h15 =>
       ∃ a16 : Addr, x0 = some a16 ∧
       ∃ v17 : ByteArray, hcell h15 (adr a16 0) = some (.string v17) ∧
       ∃ a18 : Addr, e14 = some a18 ∧
       ∃ v19 : ByteArray, hcell h15 (adr a18 0) = some (.string v19) ∧
       (((v17.size + v19.size : Nat) : Int) ≤ 9223372036854775807 ∧
        HC PG f_radix_Node_named [.pointer e14, .string (v17 ++ v19)] [.c .ptr] (fun (e20 : Option Addr) h21 =>
         K e20 h21) h15)) h7)))) (fun J1 =>
   ∃ a2 : Addr, x0 = some a2 ∧
   ∃ v3 : Bool, hcell h0 (adr a2 1) = some (.bool v3) ∧
   CondP v3 (
    J1 true h0) (
    ∃ a4 : Addr, x0 = some a4 ∧
    ∃ v5 : SliceV, hcell h0 (adr a4 3) = some (.slice v5.a v5.len v5.cap) ∧
    J1 (decide ((v5.len : Int) ≥ (2 : Int))) h0))
def A_radix_Node_mend : Ann := .node (.reg [0, 1] (.nil)) (.node (.join [0, 1] [(6, .c .bool)] (.reg [0, 1, 6] (.nil)) (.node (.node (.reg [4] (.nil)) (.nil)) (.node (.reg [0, 1, 20] (.nil)) (.node (.node (.reg [4] (.nil)) (.nil)) (.nil))))) (.node (.reg [0, 5] (.nil)) (.node (.reg [4] (.draw [.mk 0 4095 32 34359738368, .mk 0 4095 1 68719476736, .mk 2 4093 68719476736 137438953472, .mk 4 4091 137438953472 274877906944, .mk 8 4087 274877906944 549755813888, .mk 0 4095 32 1099511627776, .mk 32 4063 1099511627776 2199023255552, .mk 64 4031 2199023255552 4398046511104, .mk 128 3967 4398046511104 8796093022208, .mk 272 3823 9345848836096 17592186044416, .mk 513 3582 17626545782784 35184372088832, .mk 2047 3071 35184372088832 16] (.take 0 (.take 1 (.take 2 (.take 3 (.take 4 (.take 5 (.take 6 (.take 7 (.take 8 (.take 9 (.all (.lastT 10 (.take 11 (.done)))))))))))))))) (.nil))))
theorem E_radix_Node_mend (x0 : Option Addr) (x1 : Option Addr) (K : Tup [.c .ptr] → Heap → Prop) (h0 : Heap) : F_radix_Node_mend x0 x1 K h0 = sBody PG Tryz.f138 (Tryz.f138.body.getD .skip) A_radix_Node_mend [.pointer x0, .pointer x1] [.c .ptr] K h0 := by kernel_rfl
theorem H_radix_Node_mend (x0 : Option Addr) (x1 : Option Addr) {K : Tup [.c .ptr] → Heap → Prop} {h0 : Heap} (h : F_radix_Node_mend x0 x1 K h0) : HC PG f_radix_Node_mend [.pointer x0, .pointer x1] [.c .ptr] K h0 := HC.intro Tryz.mixed Tryz.func138 rfl Tryz.call138 (Nat.le_of_ble_eq_true rfl) ((E_radix_Node_mend x0 x1 K h0) ▸ h)
/-- slices.Delete[[]*quickset/radix.Node,*quickset/radix.Node] -/
def F_slices_Delete_A_P_radix_Node_P_radix_Node (x0 : SliceV) (x1 : Int) (x2 : Int) (K : (SliceV) → Heap → Prop) (h0 : Heap) : Prop :=
  (((0 : Int) ≤ (x0.len : Int) ∧ (x0.len : Int) ≤ ((x0.cap : Nat) : Int)) ∧
   (((0 : Int) ≤ x2 ∧ x2 ≤ (((x0.len : Int).toNat : Nat) : Int)) ∧
    (((0 : Int) ≤ x1 ∧ x1 ≤ ((x2.toNat : Nat) : Int)) ∧
     CondP (x1 == x2) (
      K x0 h0) (
      Join (fun (t5 : SliceV) h6 => -- s(0)
       (((0 : Int) ≤ (x0.len : Int) ∧ (x0.len : Int) ≤ ((t5.cap : Nat) : Int)) ∧
        (((0 : Int) ≤ (t5.len : Int) ∧ (t5.len : Int) ≤ (((x0.len : Int).toNat : Nat) : Int)) ∧
         Bd (subAddr t5.a ((t5.len : Int).toNat) t5.cap 1 : Option Addr) (fun a7 => Bd (((x0.len : Int).toNat) - ((t5.len : Int).toNat) : Nat) (fun n8 => Bd (t5.cap - ((t5.len : Int).toNat) : Nat) (fun n9 =>
            (WrS h6 a7 0 (zrow n8 [.pointer none]) ∧
             At (hsetS h6 a7 0 (zrow n8 [.pointer none])) (fun h10 =>
              K t5 h10)))))))) (fun J1 =>
       (((0 : Int) ≤ x1 ∧ x1 ≤ ((x0.cap : Nat) : Int)) ∧
        (((0 : Int) ≤ x2 ∧ x2 ≤ ((x0.len : Nat) : Int)) ∧
         ∃ xs2, SRow h0 (subAddr x0.a x2.toNat x0.cap 1) ((x0.len - x2.toNat) * 1) xs2 ∧
         AppP (some [.pointer none]) 1 8 t_P_radix_Node (subAddr x0.a 0 x0.cap 1) (x1.toNat - 0) (x0.cap - 0) (x0.len - x2.toNat) xs2 h0 (fun s3 h4 =>
          J1 s3 h4))))))))
def A_slices_Delete_A_P_radix_Node_P_radix_Node : Ann := .node (.reg [0, 1, 2] (.nil)) (.node (.reg [0, 1, 2] (.nil)) (.node (.node (.reg [0, 1, 2, 16] (.nil)) (.node (.node (.reg [6] (.nil)) (.nil)) (.nil))) (.node (.reg [0, 1, 2, 7] (.nil)) (.join [7] [(0, .c .slice)] (.reg [0, 7] (.draw [.mk 0 255 1 1048576, .mk 0 255 2 2097152, .mk 3 252 3145728 4194304, .mk 0 255 1 8388608, .mk 0 255 4 16777216, .mk 24 231 25165824 33554432, .mk 36 219 37748736 67108864, .mk 127 182 67108864 1] (.take 0 (.take 1 (.take 2 (.take 3 (.take 4 (.take 5 (.all (.last 6 (.take 7 (.done)))))))))))) (.node (.reg [0] (.nil)) (.node (.reg [6] (.nil)) (.nil)))))))
theorem E_slices_Delete_A_P_radix_Node_P_radix_Node (x0 : SliceV) (x1 : Int) (x2 : Int) (K : Tup [.c .slice] → Heap → Prop) (h0 : Heap) : F_slices_Delete_A_P_radix_Node_P_radix_Node x0 x1 x2 K h0 = sBody PG Tryz.f139 (Tryz.f139.body.getD .skip) A_slices_Delete_A_P_radix_Node_P_radix_Node [.slice x0.a x0.len x0.cap, .int .i64 x1, .int .i64 x2] [.c .slice] K h0 := by kernel_rfl
theorem H_slices_Delete_A_P_radix_Node_P_radix_Node (x0 : SliceV) (x1 : Int) (x2 : Int) {K : Tup [.c .slice] → Heap → Prop} {h0 : Heap} (h : F_slices_Delete_A_P_radix_Node_P_radix_Node x0 x1 x2 K h0) : HC PG f_slices_Delete_A_P_radix_Node_P_radix_Node [.slice x0.a x0.len x0.cap, .int .i64 x1, .int .i64 x2] [.c .slice] K h0 := HC.intro Tryz.mixed Tryz.func139 rfl Tryz.call139 (Nat.le_of_ble_eq_true rfl) ((E_slices_Delete_A_P_radix_Node_P_radix_Node x0 x1 x2 K h0) ▸ h)
/-- (*quickset/node.Node).Drop -/
def F_node_Node_Drop (x0 : Option Addr) (x1 : Option Addr) (x2 : ByteArray) (K : (Option Addr) → Heap → Prop) (h0 : Heap) : Prop :=
  HC PG f_node_Node_IsBucket [.pointer x0] [.c .bool] (fun (e1 : Bool) h2 =>
   CondP (!e1) (
    K x0 h2) (
    HC PG f_node_Node_own [.pointer x0, .pointer x1] [.c .ptr] (fun (e3 : Option Addr) h4 =>
     ∃ a5 : Addr, e3 = some a5 ∧
     ∃ v6 : SliceV, hcell h4 (adr (adr a5 0) 2) = some (.slice v6.a v6.len v6.cap) ∧
     HC PG f_pair_Drop [.slice v6.a v6.len v6.cap, .string x2] [.c .slice] (fun (e7 : SliceV) h8 =>
      ∃ a9 : Addr, e3 = some a9 ∧
      (Wr h8 (adr (adr a9 0) 2) ∧
       At (hset h8 (adr (adr a9 0) 2) (.slice e7.a e7.len e7.cap)) (fun h10 =>
        K e3 h10))) h4) h2)) h0
def A_node_Node_Drop : Ann := .node (.reg [0, 1, 2] (.nil)) (.node (.node (.reg [0, 1, 2, 10] (.nil)) (.node (.node (.reg [6] (.nil)) (.nil)) (.nil))) (.node (.reg [2, 7] (.nil)) (.node (.reg [7] (.nil)) (.node (.reg [6] (.nil)) (.nil)))))
theorem E_node_Node_Drop (x0 : Option Addr) (x1 : Option Addr) (x2 : ByteArray) (K : Tup [.c .ptr] → Heap → Prop) (h0 : Heap) : F_node_Node_Drop x0 x1 x2 K h0 = sBody PG Tryz.f140 (Tryz.f140.body.getD .skip) A_node_Node_Drop [.pointer x0, .pointer x1, .string x2] [.c .ptr] K h0 := by kernel_rfl
theorem H_node_Node_Drop (x0 : Option Addr) (x1 : Option Addr) (x2 : ByteArray) {K : Tup [.c .ptr] → Heap → Prop} {h0 : Heap} (h : F_node_Node_Drop x0 x1 x2 K h0) : HC PG f_node_Node_Drop [.pointer x0, .pointer x1, .string x2] [.c .ptr] K h0 := HC.intro Tryz.mixed Tryz.func140 rfl Tryz.call140 (Nat.le_of_ble_eq_true rfl) ((E_node_Node_Drop x0 x1 x2 K h0) ▸ h)
/-- quickset/champ.alone -/
def F_champ_alone (x0 : Option Addr) (K : ((ByteArray × ByteArray) × Bool) → Heap → Prop) (h0 : Heap) : Prop :=
  At (hnew h0 [.string (⟨#[]⟩ : ByteArray), .string (⟨#[]⟩ : ByteArray)] t_pair_Pair) (fun h1 =>
   Join (fun (t7 : Bool) h8 => -- (11)
    CondP t7 (
     (WrS h8 (some (newA h0)) 0 [.string (⟨#[]⟩ : ByteArray), .string (⟨#[]⟩ : ByteArray)] ∧
      At (hsetL h8 (newA h0) 0 [.string (⟨#[]⟩ : ByteArray), .string (⟨#[]⟩ : ByteArray)]) (fun h9 =>
       ∃ v10 : ByteArray, hcell h9 (adr (newA h0) 0) = some (.string v10) ∧
       ∃ v11 : ByteArray, hcell h9 (adr (newA h0) 1) = some (.string v11) ∧
       K ((v10, v11), false) h9))) (
     HC PG f_node_Node_Pairs [.pointer x0] [.c .slice] (fun (e12 : SliceV) h13 =>
      (((0 : Int) ≤ (0 : Int) ∧ (0 : Int) < ((e12.len : Nat) : Int)) ∧ ∃ a14 : Addr, e12.a = some a14 ∧
       ∃ v15 : ByteArray, hcell h13 (adr (adr a14 ((0 : Int).toNat * 2)) 0) = some (.string v15) ∧
       ∃ v16 : ByteArray, hcell h13 (adr (adr a14 ((0 : Int).toNat * 2)) 1) = some (.string v16) ∧
       (WrS h13 (some (newA h0)) 0 [.string v15, .string v16] ∧
        At (hsetL h13 (newA h0) 0 [.string v15, .string v16]) (fun h17 =>
         ∃ v18 : ByteArray, hcell h17 (adr (newA h0) 0) = some (.string v18) ∧
         ∃ v19 : ByteArray, hcell h17 (adr (newA h0) 1) = some (.string v19) ∧
         K ((v18, v19), true) h17)))) h8)) (fun J2 =>
    HC PG f_node_Node_Len [.pointer x0] [.c (.int .i64)] (fun (e3 : Int) h4 =>
     CondP (e3 != (1 : Int)) (
      J2 true h4) (
      HC PG f_node_Node_Nodes [.pointer x0] [.c (.int .u32)] (fun (e5 : Int) h6 =>
       J2 (e5 != (0 : Int)) h6) h4)) h1))
def A_champ_alone : Ann := .node (.reg [0, 2] (.nil)) (.node (.join [0, 2] [(11, .c .bool)] (.reg [0, 2, 11] (.nil)) (.node (.node (.reg [2, 3] (.nil)) (.nil)) (.nil))) (.node (.reg [2, 3] (.nil)) (.nil)))
theorem E_champ_alone (x0 : Option Addr) (K : Tup [.agg [.str, .str], .c .bool] → Heap → Prop) (h0 : Heap) : F_champ_alone x0 K h0 = sBody PG Tryz.f141 (Tryz.f141.body.getD .skip) A_champ_alone [.pointer x0] [.agg [.str, .str], .c .bool] K h0 := by kernel_rfl
theorem H_champ_alone (x0 : Option Addr) {K : Tup [.agg [.str, .str], .c .bool] → Heap → Prop} {h0 : Heap} (h : F_champ_alone x0 K h0) : HC PG f_champ_alone [.pointer x0] [.agg [.str, .str], .c .bool] K h0 := HC.intro Tryz.mixed Tryz.func141 rfl Tryz.call141 (Nat.le_of_ble_eq_true rfl) ((E_champ_alone x0 K h0) ▸ h)
/-- quickset/shape.Text -/
def F_shape_Text (x0 : SliceV) (x1 : ByteArray) (K : (SliceV) → Heap → Prop) (h0 : Heap) : Prop :=
  (((0 : Int) ≤ (x0.len : Int) ∧ (x0.len : Int) ≤ ((x0.cap : Nat) : Int)) ∧
   (((0 : Int) ≤ (x0.len : Int) ∧ (x0.len : Int) ≤ (((x0.len : Int).toNat : Nat) : Int)) ∧
    HC PG f_shape_lay [.slice (subAddr x0.a 0 ((x0.len : Int).toNat) 1) (((x0.len : Int).toNat) - 0) (((x0.len : Int).toNat) - 0), .int .u64 (IntKind.wrap .u64 (x1.size : Int)), .int .i64 2] [.c .slice] (fun (e1 : SliceV) h2 =>
     AppP (some [.int .u8 0]) 1 1 t_u8 e1.a e1.len e1.cap x1.size (byteVals x1) h2 (fun s3 h4 =>
      K s3 h4)) h0))
def A_shape_Text : Ann := .node (.reg [0, 1] (.nil)) (.node (.reg [4] (.nil)) (.nil))
theorem E_shape_Text (x0 : SliceV) (x1 : ByteArray) (K : Tup [.c .slice] → Heap → Prop) (h0 : Heap) : F_shape_Text x0 x1 K h0 = sBody PG Tryz.f142 (Tryz.f142.body.getD .skip) A_shape_Text [.slice x0.a x0.len x0.cap, .string x1] [.c .slice] K h0 := by kernel_rfl
theorem H_shape_Text (x0 : SliceV) (x1 : ByteArray) {K : Tup [.c .slice] → Heap → Prop} {h0 : Heap} (h : F_shape_Text x0 x1 K h0) : HC PG f_shape_Text [.slice x0.a x0.len x0.cap, .string x1] [.c .slice] K h0 := HC.intro Tryz.mixed Tryz.func142 rfl Tryz.call142 (Nat.le_of_ble_eq_true rfl) ((E_shape_Text x0 x1 K h0) ▸ h)
/-- quickset/shape.pairs -/
def F_shape_pairs (x0 : SliceV) (x1 : SliceV) (K : (SliceV) → Heap → Prop) (h0 : Heap) : Prop :=
  LoopP (fun I1 (t2 : SliceV × Int) h3 => -- p(0), (9)
   CondP (decide (t2.2 < (x1.len : Int))) (
    (((0 : Int) ≤ t2.2 ∧ t2.2 < ((x1.len : Nat) : Int)) ∧ ∃ a4 : Addr, x1.a = some a4 ∧
     ∃ v5 : ByteArray, hcell h3 (adr (adr a4 (t2.2.toNat * 2)) 0) = some (.string v5) ∧
     ∃ v6 : ByteArray, hcell h3 (adr (adr a4 (t2.2.toNat * 2)) 1) = some (.string v6) ∧
     At (hnew h3 [.string (⟨#[]⟩ : ByteArray), .string (⟨#[]⟩ : ByteArray)] t_pair_Pair) (fun h7 =>
      (WrS h7 (some (newA h3)) 0 [.string v5, .string v6] ∧
       At (hsetL h7 (newA h3) 0 [.string v5, .string v6]) (fun h8 =>
        ∃ v9 : ByteArray, hcell h8 (adr (newA h3) 0) = some (.string v9) ∧
        ∃ v10 : ByteArray, hcell h8 (adr (newA h3) 1) = some (.string v10) ∧
        HC PG f_shape_Text [.slice t2.1.a t2.1.len t2.1.cap, .string v9] [.c .slice] (fun (e11 : SliceV) h12 =>
         (hcell h12 (adr (newA h3) 1) = some (.string v10) ∧
          HC PG f_shape_Text [.slice e11.a e11.len e11.cap, .string v10] [.c .slice] (fun (e13 : SliceV) h14 =>
           I1 (e13, IntKind.wrap .i64 (t2.2 + 1)) h14) h12)) h8))))) (
    K t2.1 h3)) (x0, 0) h0
def A_shape_pairs : Ann := .node (.reg [0, 1] (.nil)) (.node (.node (.reg [0, 7, 8, 9] (.nil)) (.loop [7, 8] [(0, .c .slice), (9, .c (.int .i64))] (.node (.reg [0, 7, 8, 9, 10] (.nil)) (.node (.nil) (.node (.node (.reg [0, 6, 7, 8, 9] (.nil)) (.reg [0, 7, 8, 9] (.draw [.mk 0 255 1 8192, .mk 0 255 64 16384, .mk 2 253 16384 32768, .mk 5 250 40960 65536, .mk 0 255 64 131072, .mk 16 239 131072 262144, .mk 40 215 327680 524288, .mk 127 190 524288 1] (.take 0 (.take 1 (.take 2 (.take 4 (.take 5 (.all (.last 3 (.all (.last 6 (.take 7 (.done)))))))))))))) (.reg [0, 7, 8, 9] (.nil))))))) (.node (.reg [4] (.nil)) (.nil)))
theorem E_shape_pairs (x0 : SliceV) (x1 : SliceV) (K : Tup [.c .slice] → Heap → Prop) (h0 : Heap) : F_shape_pairs x0 x1 K h0 = sBody PG Tryz.f143 (Tryz.f143.body.getD .skip) A_shape_pairs [.slice x0.a x0.len x0.cap, .slice x1.a x1.len x1.cap] [.c .slice] K h0 := by kernel_rfl
theorem H_shape_pairs (x0 : SliceV) (x1 : SliceV) {K : Tup [.c .slice] → Heap → Prop} {h0 : Heap} (h : F_shape_pairs x0 x1 K h0) : HC PG f_shape_pairs [.slice x0.a x0.len x0.cap, .slice x1.a x1.len x1.cap] [.c .slice] K h0 := HC.intro Tryz.mixed Tryz.func143 rfl Tryz.call143 (Nat.le_of_ble_eq_true rfl) ((E_shape_pairs x0 x1 K h0) ▸ h)
/-- quickset/shape.lay -/
def F_shape_lay (x0 : SliceV) (x1 : Int) (x2 : Int) (K : (SliceV) → Heap → Prop) (h0 : Heap) : Prop :=
  LoopP (fun I1 (t2 : SliceV × Int) h3 => -- p(0), (9)
   CondP (decide (t2.2 < x2)) (
    Join (fun (t10 : SliceV) h11 => -- p(0)
     I1 (t10, IntKind.wrap .i64 (t2.2 + 1)) h11) (fun J4 =>
     ((0 : Int) ≤ (IntKind.wrap .i64 (8 * t2.2)) ∧
      Bd (Int.fdiv x1 (2 ^ (min (IntKind.wrap .i64 (8 * t2.2) : Int).toNat (IntKind.bits .u64))) : Int) (fun n5 =>
       At (hnew h3 [.int .u8 (IntKind.wrap .u8 n5)] t_u8) (fun h6 =>
        ∃ xs7, SRow h6 (some (newA h3)) (1 * 1) xs7 ∧
        AppP (some [.int .u8 0]) 1 1 t_u8 t2.1.a t2.1.len t2.1.cap 1 xs7 h6 (fun s8 h9 =>
         J4 s8 h9)))))) (
    K t2.1 h3)) (x0, 0) h0
def A_shape_lay : Ann := .node (.reg [0, 1, 2] (.nil)) (.node (.node (.reg [0, 1, 8, 9] (.nil)) (.loop [1, 8] [(0, .c .slice), (9, .c (.int .i64))] (.node (.reg [0, 1, 8, 9, 10] (.nil)) (.node (.nil) (.join [1, 8, 9] [(0, .c .slice)] (.node (.reg [0, 1, 7, 8, 9] (.nil)) (.reg [0, 1, 8, 9] (.nil))) (.reg [0, 1, 8, 9] (.nil))))))) (.node (.reg [6] (.nil)) (.nil)))
theorem E_shape_lay (x0 : SliceV) (x1 : Int) (x2 : Int) (K : Tup [.c .slice] → Heap → Prop) (h0 : Heap) : F_shape_lay x0 x1 x2 K h0 = sBody PG Tryz.f144 (Tryz.f144.body.getD .skip) A_shape_lay [.slice x0.a x0.len x0.cap, .int .u64 x1, .int .i64 x2] [.c .slice] K h0 := by kernel_rfl
theorem H_shape_lay (x0 : SliceV) (x1 : Int) (x2 : Int) {K : Tup [.c .slice] → Heap → Prop} {h0 : Heap} (h : F_shape_lay x0 x1 x2 K h0) : HC PG f_shape_lay [.slice x0.a x0.len x0.cap, .int .u64 x1, .int .i64 x2] [.c .slice] K h0 := HC.intro Tryz.mixed Tryz.func144 rfl Tryz.call144 (Nat.le_of_ble_eq_true rfl) ((E_shape_lay x0 x1 x2 K h0) ▸ h)
/-- (*quickset/node.Node).Len -/
def F_node_Node_Len (x0 : Option Addr) (K : (Int) → Heap → Prop) (h0 : Heap) : Prop :=
  CondP x0.isNone (
   K 0 h0) (
   ∃ a1 : Addr, x0 = some a1 ∧
   ∃ v2 : SliceV, hcell h0 (adr (adr a1 0) 2) = some (.slice v2.a v2.len v2.cap) ∧
   ∃ a3 : Addr, x0 = some a3 ∧
   ∃ v4 : SliceV, hcell h0 (adr (adr a3 0) 3) = some (.slice v4.a v4.len v4.cap) ∧
   K (IntKind.wrap .i64 ((v2.len : Int) + (v4.len : Int))) h0)
def A_node_Node_Len : Ann := .node (.reg [0] (.nil)) (.node (.node (.reg [0, 4] (.nil)) (.node (.node (.reg [2] (.nil)) (.nil)) (.nil))) (.node (.reg [2] (.draw [.mk 0 16383 1 32, .mk 1 16382 32 64, .mk 2 16381 64 128, .mk 4 16379 128 256, .mk 8 16375 256 512, .mk 16 16367 512 1024, .mk 0 16383 1 2048, .mk 64 16319 2048 4096, .mk 128 16255 4096 8192, .mk 256 16127 8192 16384, .mk 512 15871 16384 32768, .mk 1024 15359 32768 65536, .mk 2080 14303 66560 131072, .mk 8191 12287 131072 4] (.take 0 (.take 1 (.take 2 (.take 3 (.take 4 (.take 5 (.take 6 (.take 7 (.take 8 (.take 9 (.take 10 (.take 11 (.take 12 (.take 13 (.done))))))))))))))))) (.nil)))
theorem E_node_Node_Len (x0 : Option Addr) (K : Tup [.c (.int .i64)] → Heap → Prop) (h0 : Heap) : F_node_Node_Len x0 K h0 = sBody PG Tryz.f145 (Tryz.f145.body.getD .skip) A_node_Node_Len [.pointer x0] [.c (.int .i64)] K h0 := by kernel_rfl
theorem H_node_Node_Len (x0 : Option Addr) {K : Tup [.c (.int .i64)] → Heap → Prop} {h0 : Heap} (h : F_node_Node_Len x0 K h0) : HC PG f_node_Node_Len [.pointer x0] [.c (.int .i64)] K h0 := HC.intro Tryz.mixed Tryz.func145 rfl Tryz.call145 (Nat.le_of_ble_eq_true rfl) ((E_node_Node_Len x0 K h0) ▸ h)
/-- (*quickset/node.Node).Data -/
def F_node_Node_Data (x0 : Option Addr) (K : (Int) → Heap → Prop) (h0 : Heap) : Prop :=
  CondP x0.isNone (
   K 0 h0) (
   ∃ a1 : Addr, x0 = some a1 ∧
   ∃ v2 : Int, hcell h0 (adr (adr a1 0) 0) = some (.int .u32 v2) ∧
   K v2 h0)
def A_node_Node_Data : Ann := .node (.reg [0] (.nil)) (.node (.node (.reg [0, 4] (.nil)) (.node (.node (.reg [2] (.nil)) (.nil)) (.nil))) (.node (.reg [2] (.nil)) (.nil)))
theorem E_node_Node_Data (x0 : Option Addr) (K : Tup [.c (.int .u32)] → Heap → Prop) (h0 : Heap) : F_node_Node_Data x0 K h0 = sBody PG Tryz.f146 (Tryz.f146.body.getD .skip) A_node_Node_Data [.pointer x0] [.c (.int .u32)] K h0 := by kernel_rfl
theorem H_node_Node_Data (x0 : Option Addr) {K : Tup [.c (.int .u32)] → Heap → Prop} {h0 : Heap} (h : F_node_Node_Data x0 K h0) : HC PG f_node_Node_Data [.pointer x0] [.c (.int .u32)] K h0 := HC.intro Tryz.mixed Tryz.func146 rfl Tryz.call146 (Nat.le_of_ble_eq_true rfl) ((E_node_Node_Data x0 K h0) ▸ h)
/-- (*quickset/node.Node).Nodes -/
def F_node_Node_Nodes (x0 : Option Addr) (K : (Int) → Heap → Prop) (h0 : Heap) : Prop :=
  CondP x0.isNone (
   K 0 h0) (
   ∃ a1 : Addr, x0 = some a1 ∧
   ∃ v2 : Int, hcell h0 (adr (adr a1 0) 1) = some (.int .u32 v2) ∧
   K v2 h0)
def A_node_Node_Nodes : Ann := .node (.reg [0] (.nil)) (.node (.node (.reg [0, 4] (.nil)) (.node (.node (.reg [2] (.nil)) (.nil)) (.nil))) (.node (.reg [2] (.nil)) (.nil)))
theorem E_node_Node_Nodes (x0 : Option Addr) (K : Tup [.c (.int .u32)] → Heap → Prop) (h0 : Heap) : F_node_Node_Nodes x0 K h0 = sBody PG Tryz.f147 (Tryz.f147.body.getD .skip) A_node_Node_Nodes [.pointer x0] [.c (.int .u32)] K h0 := by kernel_rfl
theorem H_node_Node_Nodes (x0 : Option Addr) {K : Tup [.c (.int .u32)] → Heap → Prop} {h0 : Heap} (h : F_node_Node_Nodes x0 K h0) : HC PG f_node_Node_Nodes [.pointer x0] [.c (.int .u32)] K h0 := HC.intro Tryz.mixed Tryz.func147 rfl Tryz.call147 (Nat.le_of_ble_eq_true rfl) ((E_node_Node_Nodes x0 K h0) ▸ h)
/-- math/bits.RotateLeft64 -/
def F_math_bits_RotateLeft64 (x0 : Int) (x1 : Int) (K : (Int) → Heap → Prop) (h0 : Heap) : Prop :=
  Bd (IntKind.wrap .u64 (BitVec.ofInt (IntKind.bits .u64) (IntKind.wrap .u64 x1) &&& BitVec.ofInt (IntKind.bits .u64) 63).toNat : Int) (fun n1 =>
   ((0 : Int) ≤ n1 ∧
    Bd (IntKind.wrap .u64 (x0 * 2 ^ (min (n1 : Int).toNat (IntKind.bits .u64))) : Int) (fun n2 =>
     ((0 : Int) ≤ (IntKind.wrap .u64 (64 - n1)) ∧
      Bd (Int.fdiv x0 (2 ^ (min (IntKind.wrap .u64 (64 - n1) : Int).toNat (IntKind.bits .u64))) : Int) (fun n3 =>
       Bd (IntKind.wrap .u64 (BitVec.ofInt (IntKind.bits .u64) n2 ||| BitVec.ofInt (IntKind.bits .u64) n3).toNat : Int) (fun n4 =>
        K n4 h0))))))
def A_math_bits_RotateLeft64 : Ann := .node (.reg [0, 1] (.nil)) (.node (.reg [0, 5] (.nil)) (.node (.reg [4] (.nil)) (.nil)))
theorem E_math_bits_RotateLeft64 (x0 : Int) (x1 : Int) (K : Tup [.c (.int .u64)] → Heap → Prop) (h0 : Heap) : F_math_bits_RotateLeft64 x0 x1 K h0 = sBody PG Tryz.f148 (Tryz.f148.body.getD .skip) A_math_bits_RotateLeft64 [.int .u64 x0, .int .i64 x1] [.c (.int .u64)] K h0 := by kernel_rfl
theorem H_math_bits_RotateLeft64 (x0 : Int) (x1 : Int) {K : Tup [.c (.int .u64)] → Heap → Prop} {h0 : Heap} (h : F_math_bits_RotateLeft64 x0 x1 K h0) : HC PG f_math_bits_RotateLeft64 [.int .u64 x0, .int .i64 x1] [.c (.int .u64)] K h0 := HC.intro Tryz.mixed Tryz.func148 rfl Tryz.call148 (Nat.le_of_ble_eq_true rfl) ((E_math_bits_RotateLeft64 x0 x1 K h0) ▸ h)
/-- (*quickset/node.Node).Owned -/
def F_node_Node_Owned (x0 : Option Addr) (x1 : Option Addr) (K : (Bool) → Heap → Prop) (h0 : Heap) : Prop :=
  CondP (!(x0.isNone)) (
   HC PG f_token_Token_Live [.pointer x1] [.c .bool] (fun (e1 : Bool) h2 =>
    CondP e1 (
     ∃ a3 : Addr, x0 = some a3 ∧
     ∃ v4 : Option Addr, hcell h2 (adr a3 5) = some (.pointer v4) ∧
     (True ∧ (∀ x y : Addr, v4 = some x → x1 = some y → plainPtr h2 x ∧ plainPtr h2 y) ∧
      K (v4 == x1) h2)) (
     K false h2)) h0) (
   K false h0)
def A_node_Node_Owned : Ann := .node (.reg [0, 1] (.nil)) (.node (.reg [4] (.nil)) (.nil))
theorem E_node_Node_Owned (x0 : Option Addr) (x1 : Option Addr) (K : Tup [.c .bool] → Heap → Prop) (h0 : Heap) : F_node_Node_Owned x0 x1 K h0 = sBody PG Tryz.f149 (Tryz.f149.body.getD .skip) A_node_Node_Owned [.pointer x0, .pointer x1] [.c .bool] K h0 := by kernel_rfl
theorem H_node_Node_Owned (x0 : Option Addr) (x1 : Option Addr) {K : Tup [.c .bool] → Heap → Prop} {h0 : Heap} (h : F_node_Node_Owned x0 x1 K h0) : HC PG f_node_Node_Owned [.pointer x0, .pointer x1] [.c .bool] K h0 := HC.intro Tryz.mixed Tryz.func149 rfl Tryz.call149 (Nat.le_of_ble_eq_true rfl) ((E_node_Node_Owned x0 x1 K h0) ▸ h)
/-- slices.Clone[[]*quickset/node.Node,*quickset/node.Node] -/
def F_slices_Clone_A_P_node_Node_P_node_Node (x0 : SliceV) (K : (SliceV) → Heap → Prop) (h0 : Heap) : Prop :=
  CondP x0.a.isNone (
   K ⟨none, 0, 0⟩ h0) (
   At (hnew h0 [] t_P_node_Node) (fun h1 =>
    ∃ xs2, SRow h1 x0.a (x0.len * 1) xs2 ∧
    AppP (some [.pointer none]) 1 8 t_P_node_Node (some (newA h0)) 0 0 x0.len xs2 h1 (fun s3 h4 =>
     K s3 h4)))
def A_slices_Clone_A_P_node_Node_P_node_Node : Ann := .node (.reg [0] (.nil)) (.node (.node (.reg [0, 4] (.nil)) (.node (.node (.reg [2] (.nil)) (.nil)) (.nil))) (.node (.reg [2] (.nil)) (.nil)))
theorem E_slices_Clone_A_P_node_Node_P_node_Node (x0 : SliceV) (K : Tup [.c .slice] → Heap → Prop) (h0 : Heap) : F_slices_Clone_A_P_node_Node_P_node_Node x0 K h0 = sBody PG Tryz.f150 (Tryz.f150.body.getD .skip) A_slices_Clone_A_P_node_Node_P_node_Node [.slice x0.a x0.len x0.cap] [.c .slice] K h0 := by kernel_rfl
theorem H_slices_Clone_A_P_node_Node_P_node_Node (x0 : SliceV) {K : Tup [.c .slice] → Heap → Prop} {h0 : Heap} (h : F_slices_Clone_A_P_node_Node_P_node_Node x0 K h0) : HC PG f_slices_Clone_A_P_node_Node_P_node_Node [.slice x0.a x0.len x0.cap] [.c .slice] K h0 := HC.intro Tryz.mixed Tryz.func150 rfl Tryz.call150 (Nat.le_of_ble_eq_true rfl) ((E_slices_Clone_A_P_node_Node_P_node_Node x0 K h0) ▸ h)
/-- (*quickset/token.Token).Live -/
def F_token_Token_Live (x0 : Option Addr) (K : (Bool) → Heap → Prop) (h0 : Heap) : Prop :=
  CondP (!(x0.isNone)) (
   ∃ a1 : Addr, x0 = some a1 ∧
   ∃ v2 : Bool, hcell h0 (adr a1 2) = some (.bool v2) ∧
   K v2 h0) (
   K false h0)
def A_token_Token_Live : Ann := .node (.reg [0] (.nil)) (.node (.reg [2] (.nil)) (.nil))
theorem E_token_Token_Live (x0 : Option Addr) (K : Tup [.c .bool] → Heap → Prop) (h0 : Heap) : F_token_Token_Live x0 K h0 = sBody PG Tryz.f151 (Tryz.f151.body.getD .skip) A_token_Token_Live [.pointer x0] [.c .bool] K h0 := by kernel_rfl
theorem H_token_Token_Live (x0 : Option Addr) {K : Tup [.c .bool] → Heap → Prop} {h0 : Heap} (h : F_token_Token_Live x0 K h0) : HC PG f_token_Token_Live [.pointer x0] [.c .bool] K h0 := HC.intro Tryz.mixed Tryz.func151 rfl Tryz.call151 (Nat.le_of_ble_eq_true rfl) ((E_token_Token_Live x0 K h0) ▸ h)
/-- quickset/pair.Find -/
def F_pair_Find (x0 : SliceV) (x1 : ByteArray) (K : (Int × Bool) → Heap → Prop) (h0 : Heap) : Prop :=
  HC PG f_slices_BinarySearchFunc_A_pair_Pair_pair_Pair_str [.slice x0.a x0.len x0.cap, .string x1, .func (.func f_pair_order) #[] #[]] [.c (.int .i64), .c .bool] (fun (e1 : Int × Bool) h2 =>
   K (e1.1, e1.2) h2) h0
def A_pair_Find : Ann := .node (.reg [0, 1] (.nil)) (.node (.reg [4, 5] (.nil)) (.nil))
theorem E_pair_Find (x0 : SliceV) (x1 : ByteArray) (K : Tup [.c (.int .i64), .c .bool] → Heap → Prop) (h0 : Heap) : F_pair_Find x0 x1 K h0 = sBody PG Tryz.f152 (Tryz.f152.body.getD .skip) A_pair_Find [.slice x0.a x0.len x0.cap, .string x1] [.c (.int .i64), .c .bool] K h0 := by kernel_rfl
theorem H_pair_Find (x0 : SliceV) (x1 : ByteArray) {K : Tup [.c (.int .i64), .c .bool] → Heap → Prop} {h0 : Heap} (h : F_pair_Find x0 x1 K h0) : HC PG f_pair_Find [.slice x0.a x0.len x0.cap, .string x1] [.c (.int .i64), .c .bool] K h0 := HC.intro Tryz.mixed Tryz.func152 rfl Tryz.call152 (Nat.le_of_ble_eq_true rfl) ((E_pair_Find x0 x1 K h0) ▸ h)
/-- slices.Concat[[]quickset/pair.Pair,quickset/pair.Pair] -/
def F_slices_Concat_A_pair_Pair_pair_Pair (x0 : SliceV) (K : (SliceV) → Heap → Prop) (h0 : Heap) : Prop :=
  LoopP (fun I1 (t2 : Int × Int) h3 => -- size(3), (11)
   CondP (decide (t2.2 < (x0.len : Int))) (
    Join (fun (t7 : Int) h8 => -- size(3)
     I1 (t7, IntKind.wrap .i64 (t2.2 + 1)) h8) (fun J4 =>
     (((0 : Int) ≤ t2.2 ∧ t2.2 < ((x0.len : Nat) : Int)) ∧ ∃ a5 : Addr, x0.a = some a5 ∧
      ∃ v6 : SliceV, hcell h3 (adr a5 (t2.2.toNat * 1)) = some (.slice v6.a v6.len v6.cap) ∧
      CondP (decide ((IntKind.wrap .i64 (t2.1 + (v6.len : Int))) < (0 : Int))) (
       False) (
       J4 (IntKind.wrap .i64 (t2.1 + (v6.len : Int))) h3)))) (
    HC PG f_slices_Grow_A_pair_Pair_pair_Pair [.slice none 0 0, .int .i64 t2.1] [.c .slice] (fun (e9 : SliceV) h10 =>
     LoopP (fun I11 (t12 : SliceV × Int) h13 => -- newslice(6), (27)
      CondP (decide (t12.2 < (x0.len : Int))) (
       Join (fun (t20 : SliceV) h21 => -- newslice(6)
        I11 (t20, IntKind.wrap .i64 (t12.2 + 1)) h21) (fun J14 =>
        (((0 : Int) ≤ t12.2 ∧ t12.2 < ((x0.len : Nat) : Int)) ∧ ∃ a15 : Addr, x0.a = some a15 ∧
         ∃ v16 : SliceV, hcell h13 (adr a15 (t12.2.toNat * 1)) = some (.slice v16.a v16.len v16.cap) ∧
         ∃ xs17, SRow h13 v16.a (v16.len * 2) xs17 ∧
         AppP (some [.string (⟨#[]⟩ : ByteArray), .string (⟨#[]⟩ : ByteArray)]) 2 32 t_pair_Pair t12.1.a t12.1.len t12.1.cap v16.len xs17 h13 (fun s18 h19 =>
          J14 s18 h19)))) (
       K t12.1 h13)) (e9, 0) h10) h3)) (0, 0) h0
def A_slices_Concat_A_pair_Pair_pair_Pair : Ann := .node (.reg [0] (.nil)) (.node (.reg [0, 3] (.nil)) (.node (.node (.reg [0, 3, 9, 10, 11] (.nil)) (.loop [0, 9, 10] [(3, .c (.int .i64)), (11, .c (.int .i64))] (.node (.reg [0, 3, 9, 10, 11, 12] (.nil)) (.node (.nil) (.join [0, 9, 10, 11] [(3, .c (.int .i64))] (.node (.reg [0, 3, 5, 9, 10, 11] (.nil)) (.node (.reg [0, 3, 9, 10, 11] (.nil)) (.node (.reg [0, 3, 9, 10, 11, 20] (.nil)) (.node (.reg [] (.nil)) (.nil))))) (.reg [0, 3, 9, 10, 11] (.nil))))))) (.node (.reg [0, 6] (.nil)) (.node (.node (.reg [6, 25, 26, 27] (.nil)) (.loop [25, 26] [(6, .c .slice), (27, .c (.int .i64))] (.node (.reg [6, 25, 26, 27, 28] (.nil)) (.node (.nil) (.join [25, 26, 27] [(6, .c .slice)] (.node (.reg [6, 8, 25, 26, 27] (.nil)) (.reg [6, 25, 26, 27] (.nil))) (.reg [6, 25, 26, 27] (.nil))))))) (.node (.reg [2] (.nil)) (.nil))))))
theorem E_slices_Concat_A_pair_Pair_pair_Pair (x0 : SliceV) (K : Tup [.c .slice] → Heap → Prop) (h0 : Heap) : F_slices_Concat_A_pair_Pair_pair_Pair x0 K h0 = sBody PG Tryz.f153 (Tryz.f153.body.getD .skip) A_slices_Concat_A_pair_Pair_pair_Pair [.slice x0.a x0.len x0.cap] [.c .slice] K h0 := by kernel_rfl
theorem H_slices_Concat_A_pair_Pair_pair_Pair (x0 : SliceV) {K : Tup [.c .slice] → Heap → Prop} {h0 : Heap} (h : F_slices_Concat_A_pair_Pair_pair_Pair x0 K h0) : HC PG f_slices_Concat_A_pair_Pair_pair_Pair [.slice x0.a x0.len x0.cap] [.c .slice] K h0 := HC.intro Tryz.mixed Tryz.func153 rfl Tryz.call153 (Nat.le_of_ble_eq_true rfl) ((E_slices_Concat_A_pair_Pair_pair_Pair x0 K h0) ▸ h)
/-- quickset/chunk.right -/
def F_chunk_right (x0 : Int) (K : (Bool) → Heap → Prop) (h0 : Heap) : Prop :=
  CondP (decide (x0 ≥ (0 : Int))) (
   K (decide (x0 < (32 : Int))) h0) (
   K false h0)
def A_chunk_right : Ann := .node (.reg [0] (.nil)) (.node (.reg [2] (.nil)) (.nil))
theorem E_chunk_right (x0 : Int) (K : Tup [.c .bool] → Heap → Prop) (h0 : Heap) : F_chunk_right x0 K h0 = sBody PG Tryz.f156 (Tryz.f156.body.getD .skip) A_chunk_right [.int .i64 x0] [.c .bool] K h0 := by kernel_rfl
theorem H_chunk_right (x0 : Int) {K : Tup [.c .bool] → Heap → Prop} {h0 : Heap} (h : F_chunk_right x0 K h0) : HC PG f_chunk_right [.int .i64 x0] [.c .bool] K h0 := HC.intro Tryz.mixed Tryz.func156 rfl Tryz.call156 (Nat.le_of_ble_eq_true rfl) ((E_chunk_right x0 K h0) ▸ h)
/-- (quickset/chunk.Bits).Count -/
def F_chunk_Bits_Count (x0 : Int) (K : (Int) → Heap → Prop) (h0 : Heap) : Prop :=
  HC PG f_math_bits_OnesCount32 [.int .u32 x0] [.c (.int .i64)] (fun (e1 : Int) h2 =>
   K e1 h2) h0
def A_chunk_Bits_Count : Ann := .node (.reg [0] (.nil)) (.node (.reg [2] (.nil)) (.nil))
theorem E_chunk_Bits_Count (x0 : Int) (K : Tup [.c (.int .i64)] → Heap → Prop) (h0 : Heap) : F_chunk_Bits_Count x0 K h0 = sBody PG Tryz.f157 (Tryz.f157.body.getD .skip) A_chunk_Bits_Count [.int .u32 x0] [.c (.int .i64)] K h0 := by kernel_rfl
theorem H_chunk_Bits_Count (x0 : Int) {K : Tup [.c (.int .i64)] → Heap → Prop} {h0 : Heap} (h : F_chunk_Bits_Count x0 K h0) : HC PG f_chunk_Bits_Count [.int .u32 x0] [.c (.int .i64)] K h0 := HC.intro Tryz.mixed Tryz.func157 rfl Tryz.call157 (Nat.le_of_ble_eq_true rfl) ((E_chunk_Bits_Count x0 K h0) ▸ h)
/-- slices.Delete[[]quickset/pair.Pair,quickset/pair.Pair] -/
def F_slices_Delete_A_pair_Pair_pair_Pair (x0 : SliceV) (x1 : Int) (x2 : Int) (K : (SliceV) → Heap → Prop) (h0 : Heap) : Prop :=
  (((0 : Int) ≤ (x0.len : Int) ∧ (x0.len : Int) ≤ ((x0.cap : Nat) : Int)) ∧
   (((0 : Int) ≤ x2 ∧ x2 ≤ (((x0.len : Int).toNat : Nat) : Int)) ∧
    (((0 : Int) ≤ x1 ∧ x1 ≤ ((x2.toNat : Nat) : Int)) ∧
     CondP (x1 == x2) (
      K x0 h0) (
      Join (fun (t5 : SliceV) h6 => -- s(0)
       (((0 : Int) ≤ (x0.len : Int) ∧ (x0.len : Int) ≤ ((t5.cap : Nat) : Int)) ∧
        (((0 : Int) ≤ (t5.len : Int) ∧ (t5.len : Int) ≤ (((x0.len : Int).toNat : Nat) : Int)) ∧
         Bd (subAddr t5.a ((t5.len : Int).toNat) t5.cap 2 : Option Addr) (fun a7 => Bd (((x0.len : Int).toNat) - ((t5.len : Int).toNat) : Nat) (fun n8 => Bd (t5.cap - ((t5.len : Int).toNat) : Nat) (fun n9 =>
            (WrS h6 a7 0 (zrow n8 [.string (⟨#[]⟩ : ByteArray), .string (⟨#[]⟩ : ByteArray)]) ∧
             At (hsetS h6 a7 0 (zrow n8 [.string (⟨#[]⟩ : ByteArray), .string (⟨#[]⟩ : ByteArray)])) (fun h10 =>
              K t5 h10)))))))) (fun J1 =>
       (((0 : Int) ≤ x1 ∧ x1 ≤ ((x0.cap : Nat) : Int)) ∧
        (((0 : Int) ≤ x2 ∧ x2 ≤ ((x0.len : Nat) : Int)) ∧
         ∃ xs2, SRow h0 (subAddr x0.a x2.toNat x0.cap 2) ((x0.len - x2.toNat) * 2) xs2 ∧
         AppP (some [.string (⟨#[]⟩ : ByteArray), .string (⟨#[]⟩ : ByteArray)]) 2 32 t_pair_Pair (subAddr x0.a 0 x0.cap 2) (x1.toNat - 0) (x0.cap - 0) (x0.len - x2.toNat) xs2 h0 (fun s3 h4 =>
          J1 s3 h4))))))))
def A_slices_Delete_A_pair_Pair_pair_Pair : Ann := .node (.reg [0, 1, 2] (.nil)) (.node (.reg [0, 1, 2] (.nil)) (.node (.node (.reg [0, 1, 2, 16] (.nil)) (.node (.node (.reg [6] (.nil)) (.nil)) (.nil))) (.node (.reg [0, 1, 2, 7] (.nil)) (.join [7] [(0, .c .slice)] (.reg [0, 7] (.draw [.mk 0 255 1 1048576, .mk 0 255 2 2097152, .mk 3 252 3145728 4194304, .mk 0 255 1 8388608, .mk 0 255 4 16777216, .mk 24 231 25165824 33554432, .mk 36 219 37748736 67108864, .mk 127 182 67108864 1] (.take 0 (.take 1 (.take 2 (.take 3 (.take 4 (.take 5 (.all (.last 6 (.take 7 (.done)))))))))))) (.node (.reg [0] (.nil)) (.node (.reg [6] (.nil)) (.nil)))))))
theorem E_slices_Delete_A_pair_Pair_pair_Pair (x0 : SliceV) (x1 : Int) (x2 : Int) (K : Tup [.c .slice] → Heap → Prop) (h0 : Heap) : F_slices_Delete_A_pair_Pair_pair_Pair x0 x1 x2 K h0 = sBody PG Tryz.f158 (Tryz.f158.body.getD .skip) A_slices_Delete_A_pair_Pair_pair_Pair [.slice x0.a x0.len x0.cap, .int .i64 x1, .int .i64 x2] [.c .slice] K h0 := by kernel_rfl
theorem H_slices_Delete_A_pair_Pair_pair_Pair (x0 : SliceV) (x1 : Int) (x2 : Int) {K : Tup [.c .slice] → Heap → Prop} {h0 : Heap} (h : F_slices_Delete_A_pair_Pair_pair_Pair x0 x1 x2 K h0) : HC PG f_slices_Delete_A_pair_Pair_pair_Pair [.slice x0.a x0.len x0.cap, .int .i64 x1, .int .i64 x2] [.c .slice] K h0 := HC.intro Tryz.mixed Tryz.func158 rfl Tryz.call158 (Nat.le_of_ble_eq_true rfl) ((E_slices_Delete_A_pair_Pair_pair_Pair x0 x1 x2 K h0) ▸ h)
/-- slices.Delete[[]*quickset/node.Node,*quickset/node.Node] -/
def F_slices_Delete_A_P_node_Node_P_node_Node (x0 : SliceV) (x1 : Int) (x2 : Int) (K : (SliceV) → Heap → Prop) (h0 : Heap) : Prop :=
  (((0 : Int) ≤ (x0.len : Int) ∧ (x0.len : Int) ≤ ((x0.cap : Nat) : Int)) ∧
   (((0 : Int) ≤ x2 ∧ x2 ≤ (((x0.len : Int).toNat : Nat) : Int)) ∧
    (((0 : Int) ≤ x1 ∧ x1 ≤ ((x2.toNat : Nat) : Int)) ∧
     CondP (x1 == x2) (
      K x0 h0) (
      Join (fun (t5 : SliceV) h6 => -- s(0)
       (((0 : Int) ≤ (x0.len : Int) ∧ (x0.len : Int) ≤ ((t5.cap : Nat) : Int)) ∧
        (((0 : Int) ≤ (t5.len : Int) ∧ (t5.len : Int) ≤ (((x0.len : Int).toNat : Nat) : Int)) ∧
         Bd (subAddr t5.a ((t5.len : Int).toNat) t5.cap 1 : Option Addr) (fun a7 => Bd (((x0.len : Int).toNat) - ((t5.len : Int).toNat) : Nat) (fun n8 => Bd (t5.cap - ((t5.len : Int).toNat) : Nat) (fun n9 =>
            (WrS h6 a7 0 (zrow n8 [.pointer none]) ∧
             At (hsetS h6 a7 0 (zrow n8 [.pointer none])) (fun h10 =>
              K t5 h10)))))))) (fun J1 =>
       (((0 : Int) ≤ x1 ∧ x1 ≤ ((x0.cap : Nat) : Int)) ∧
        (((0 : Int) ≤ x2 ∧ x2 ≤ ((x0.len : Nat) : Int)) ∧
         ∃ xs2, SRow h0 (subAddr x0.a x2.toNat x0.cap 1) ((x0.len - x2.toNat) * 1) xs2 ∧
         AppP (some [.pointer none]) 1 8 t_P_node_Node (subAddr x0.a 0 x0.cap 1) (x1.toNat - 0) (x0.cap - 0) (x0.len - x2.toNat) xs2 h0 (fun s3 h4 =>
          J1 s3 h4))))))))
def A_slices_Delete_A_P_node_Node_P_node_Node : Ann := .node (.reg [0, 1, 2] (.nil)) (.node (.reg [0, 1, 2] (.nil)) (.node (.node (.reg [0, 1, 2, 16] (.nil)) (.node (.node (.reg [6] (.nil)) (.nil)) (.nil))) (.node (.reg [0, 1, 2, 7] (.nil)) (.join [7] [(0, .c .slice)] (.reg [0, 7] (.draw [.mk 0 255 1 1048576, .mk 0 255 2 2097152, .mk 3 252 3145728 4194304, .mk 0 255 1 8388608, .mk 0 255 4 16777216, .mk 24 231 25165824 33554432, .mk 36 219 37748736 67108864, .mk 127 182 67108864 1] (.take 0 (.take 1 (.take 2 (.take 3 (.take 4 (.take 5 (.all (.last 6 (.take 7 (.done)))))))))))) (.node (.reg [0] (.nil)) (.node (.reg [6] (.nil)) (.nil)))))))
theorem E_slices_Delete_A_P_node_Node_P_node_Node (x0 : SliceV) (x1 : Int) (x2 : Int) (K : Tup [.c .slice] → Heap → Prop) (h0 : Heap) : F_slices_Delete_A_P_node_Node_P_node_Node x0 x1 x2 K h0 = sBody PG Tryz.f159 (Tryz.f159.body.getD .skip) A_slices_Delete_A_P_node_Node_P_node_Node [.slice x0.a x0.len x0.cap, .int .i64 x1, .int .i64 x2] [.c .slice] K h0 := by kernel_rfl
theorem H_slices_Delete_A_P_node_Node_P_node_Node (x0 : SliceV) (x1 : Int) (x2 : Int) {K : Tup [.c .slice] → Heap → Prop} {h0 : Heap} (h : F_slices_Delete_A_P_node_Node_P_node_Node x0 x1 x2 K h0) : HC PG f_slices_Delete_A_P_node_Node_P_node_Node [.slice x0.a x0.len x0.cap, .int .i64 x1, .int .i64 x2] [.c .slice] K h0 := HC.intro Tryz.mixed Tryz.func159 rfl Tryz.call159 (Nat.le_of_ble_eq_true rfl) ((E_slices_Delete_A_P_node_Node_P_node_Node x0 x1 x2 K h0) ▸ h)
/-- (quickset/chunk.Bits).Without -/
def F_chunk_Bits_Without (x0 : Int) (x1 : Int) (K : (Int) → Heap → Prop) (h0 : Heap) : Prop :=
  HC PG f_chunk_right [.int .i64 x1] [.c .bool] (fun (e1 : Bool) h2 =>
   CondP (!e1) (
    K x0 h2) (
    ((0 : Int) ≤ x1 ∧
     Bd (IntKind.wrap .u32 (BitVec.ofInt (IntKind.bits .u32) x0 &&& ~~~ BitVec.ofInt (IntKind.bits .u32) (IntKind.wrap .u32 (1 * 2 ^ (min (x1 : Int).toNat (IntKind.bits .u32))))).toNat : Int) (fun n3 =>
      K n3 h2)))) h0
def A_chunk_Bits_Without : Ann := .node (.reg [0, 1] (.nil)) (.node (.node (.reg [0, 1, 7] (.nil)) (.node (.node (.reg [4] (.nil)) (.nil)) (.nil))) (.node (.reg [4] (.nil)) (.nil)))
theorem E_chunk_Bits_Without (x0 : Int) (x1 : Int) (K : Tup [.c (.int .u32)] → Heap → Prop) (h0 : Heap) : F_chunk_Bits_Without x0 x1 K h0 = sBody PG Tryz.f160 (Tryz.f160.body.getD .skip) A_chunk_Bits_Without [.int .u32 x0, .int .i64 x1] [.c (.int .u32)] K h0 := by kernel_rfl
theorem H_chunk_Bits_Without (x0 : Int) (x1 : Int) {K : Tup [.c (.int .u32)] → Heap → Prop} {h0 : Heap} (h : F_chunk_Bits_Without x0 x1 K h0) : HC PG f_chunk_Bits_Without [.int .u32 x0, .int .i64 x1] [.c (.int .u32)] K h0 := HC.intro Tryz.mixed Tryz.func160 rfl Tryz.call160 (Nat.le_of_ble_eq_true rfl) ((E_chunk_Bits_Without x0 x1 K h0) ▸ h)
/-- (*quickset/span.Cursor).push -/
def F_span_Cursor_push (x0 : Option Addr) (x1 : (Option Addr) × ByteArray × Bool) (K : (Unit) → Heap → Prop) (h0 : Heap) : Prop :=
  At (hnew h0 [.pointer x1.1, .string x1.2.1, .bool x1.2.2] t_span_work) (fun h1 =>
   ∃ v2 : ByteArray, hcell h1 (adr (newA h0) 1) = some (.string v2) ∧
   ∃ v3 : Option Addr, hcell h1 (adr (newA h0) 0) = some (.pointer v3) ∧
   HC PG f_radix_Node_Label [.pointer v3] [.c .str] (fun (e4 : ByteArray) h5 =>
    (hcell h5 (adr (newA h0) 1) = some (.string v2) ∧
     (((v2.size + e4.size : Nat) : Int) ≤ 9223372036854775807 ∧
      ∃ a6 : Addr, x0 = some a6 ∧
      ∃ v7 : ByteArray, hcell h5 (adr (adr a6 1) 0) = some (.string v7) ∧
      ∃ v8 : ByteArray, hcell h5 (adr (adr a6 1) 1) = some (.string v8) ∧
      ∃ v9 : Bool, hcell h5 (adr (adr a6 1) 2) = some (.bool v9) ∧
      HC PG f_span_Span_past [.agg #[.string v7, .string v8, .bool v9], .string (v2 ++ e4)] [.c .bool] (fun (e10 : Bool) h11 =>
       CondP e10 (
        K () h11) (
        ∃ v12 : Option Addr, hcell h11 (adr (newA h0) 0) = some (.pointer v12) ∧
        ∃ v13 : ByteArray, hcell h11 (adr (newA h0) 1) = some (.string v13) ∧
        At (hnew h11 [.pointer v12, .string v13, .bool true] t_span_work) (fun h14 =>
         ∃ v15 : Option Addr, hcell h14 (adr (newA h0) 0) = some (.pointer v15) ∧
         HC PG f_radix_Node_Kids [.pointer v15] [.c .slice] (fun (e16 : SliceV) h17 =>
          LoopP (fun I18 (t19 : SliceV × Int) h20 => -- l(5), (30)
           CondP (decide (t19.2 < (e16.len : Int))) (
            Join (fun (t28 : SliceV) h29 => -- l(5)
             I18 (t28, IntKind.wrap .i64 (t19.2 + 1)) h29) (fun J21 =>
             (((0 : Int) ≤ t19.2 ∧ t19.2 < ((e16.len : Nat) : Int)) ∧ ∃ a22 : Addr, e16.a = some a22 ∧
              ∃ v23 : Option Addr, hcell h20 (adr a22 (t19.2.toNat * 1)) = some (.pointer v23) ∧
              At (hnew h20 [.pointer v23, .string (v2 ++ e4), .bool false] t_span_work) (fun h24 =>
               ∃ xs25, SRow h24 (some (newA h20)) (1 * 3) xs25 ∧
               AppP (some [.pointer none, .string (⟨#[]⟩ : ByteArray), .bool false]) 3 32 t_span_work t19.1.a t19.1.len t19.1.cap 1 xs25 h24 (fun s26 h27 =>
                J21 s26 h27))))) (
            Join (fun (t35 : Unit) h36 => -- 
             ∃ a37 : Addr, x0 = some a37 ∧
             ∃ v38 : SliceV, hcell h36 (adr a37 0) = some (.slice v38.a v38.len v38.cap) ∧
             ∃ xs39, SRow h36 t19.1.a (t19.1.len * 3) xs39 ∧
             AppP (some [.pointer none, .string (⟨#[]⟩ : ByteArray), .bool false]) 3 32 t_span_work v38.a v38.len v38.cap t19.1.len xs39 h36 (fun s40 h41 =>
              ∃ a42 : Addr, x0 = some a42 ∧
              (Wr h41 (adr a42 0) ∧
               At (hset h41 (adr a42 0) (.slice s40.a s40.len s40.cap)) (fun h43 =>
                K () h43)))) (fun J30 =>
             ∃ a31 : Addr, x0 = some a31 ∧
             ∃ v32 : Bool, hcell h20 (adr a31 4) = some (.bool v32) ∧
             CondP (!v32) (
              HC PG f_slices_Reverse_A_span_work_span_work [.slice t19.1.a t19.1.len t19.1.cap] [] (fun (e33 : Unit) h34 =>
               J30 () h34) h20) (
              J30 () h20)))) (⟨some (newA h11), 1, 1⟩, 0) h17) h14))) h5))) h1)
def A_span_Cursor_push : Ann := .node (.reg [0, 3] (.nil)) (.node (.reg [0, 3, 4] (.draw [.mk 0 127 8 256, .mk 1 126 256 512, .mk 0 127 8 1024, .mk 4 123 1024 2048, .mk 8 119 2048 4096, .mk 18 109 4608 8192, .mk 63 95 8192 16] (.take 0 (.take 1 (.take 2 (.take 3 (.all (.last 4 (.take 5 (.take 6 (.done))))))))))) (.node (.node (.reg [0, 3, 4, 19] (.nil)) (.nil)) (.node (.reg [0, 3, 4, 5] (.nil)) (.node (.node (.reg [0, 4, 5, 28, 29, 30] (.nil)) (.loop [0, 4, 28, 29] [(5, .c .slice), (30, .c (.int .i64))] (.node (.reg [0, 4, 5, 28, 29, 30, 31] (.nil)) (.node (.nil) (.join [0, 4, 28, 29, 30] [(5, .c .slice)] (.node (.reg [0, 4, 5, 7, 28, 29, 30] (.nil)) (.reg [0, 4, 5, 28, 29, 30] (.nil))) (.reg [0, 4, 5, 28, 29, 30] (.nil))))))) (.join [0, 5] [] (.node (.reg [0, 5, 45] (.nil)) (.node (.reg [0, 5] (.nil)) (.nil))) (.reg [] (.nil)))))))
theorem E_span_Cursor_push (x0 : Option Addr) (x1 : (Option Addr) × ByteArray × Bool) (K : Tup [] → Heap → Prop) (h0 : Heap) : F_span_Cursor_push x0 x1 K h0 = sBody PG Tryz.f166 (Tryz.f166.body.getD .skip) A_span_Cursor_push [.pointer x0, .agg #[.pointer x1.1, .string x1.2.1, .bool x1.2.2]] [] K h0 := by kernel_rfl
theorem H_span_Cursor_push (x0 : Option Addr) (x1 : (Option Addr) × ByteArray × Bool) {K : Tup [] → Heap → Prop} {h0 : Heap} (h : F_span_Cursor_push x0 x1 K h0) : HC PG f_span_Cursor_push [.pointer x0, .agg #[.pointer x1.1, .string x1.2.1, .bool x1.2.2]] [] K h0 := HC.intro Tryz.mixed Tryz.func166 rfl Tryz.call166 (Nat.le_of_ble_eq_true rfl) ((E_span_Cursor_push x0 x1 K h0) ▸ h)
/-- (*quickset/radix.Node).Label -/
def F_radix_Node_Label (x0 : Option Addr) (K : (ByteArray) → Heap → Prop) (h0 : Heap) : Prop :=
  CondP x0.isNone (
   K (⟨#[]⟩ : ByteArray) h0) (
   ∃ a1 : Addr, x0 = some a1 ∧
   ∃ v2 : ByteArray, hcell h0 (adr a1 0) = some (.string v2) ∧
   K v2 h0)
def A_radix_Node_Label : Ann := .node (.reg [0] (.nil)) (.node (.node (.reg [0, 4] (.nil)) (.node (.node (.reg [2] (.nil)) (.nil)) (.nil))) (.node (.reg [2] (.nil)) (.nil)))
theorem E_radix_Node_Label (x0 : Option Addr) (K : Tup [.c .str] → Heap → Prop) (h0 : Heap) : F_radix_Node_Label x0 K h0 = sBody PG Tryz.f167 (Tryz.f167.body.getD .skip) A_radix_Node_Label [.pointer x0] [.c .str] K h0 := by kernel_rfl
theorem H_radix_Node_Label (x0 : Option Addr) {K : Tup [.c .str] → Heap → Prop} {h0 : Heap} (h : F_radix_Node_Label x0 K h0) : HC PG f_radix_Node_Label [.pointer x0] [.c .str] K h0 := HC.intro Tryz.mixed Tryz.func167 rfl Tryz.call167 (Nat.le_of_ble_eq_true rfl) ((E_radix_Node_Label x0 K h0) ▸ h)
/-- (quickset/span.Span).Has -/
def F_span_Span_Has (x0 : ByteArray × ByteArray × Bool) (x1 : ByteArray) (K : (Bool) → Heap → Prop) (h0 : Heap) : Prop :=
  At (hnew h0 [.string x0.1, .string x0.2.1, .bool x0.2.2] t_span_Span) (fun h1 =>
   ∃ v2 : ByteArray, hcell h1 (adr (newA h0) 0) = some (.string v2) ∧
   CondP (!(Op.bytesLess x1.toList v2.toList)) (
    ∃ v3 : Bool, hcell h1 (adr (newA h0) 2) = some (.bool v3) ∧
    CondP v3 (
     K true h1) (
     ∃ v4 : ByteArray, hcell h1 (adr (newA h0) 1) = some (.string v4) ∧
     K (Op.bytesLess x1.toList v4.toList) h1)) (
    K false h1))
def A_span_Span_Has : Ann := .node (.reg [1, 2] (.nil)) (.node (.reg [4] (.nil)) (.nil))
theorem E_span_Span_Has (x0 : ByteArray × ByteArray × Bool) (x1 : ByteArray) (K : Tup [.c .bool] → Heap → Prop) (h0 : Heap) : F_span_Span_Has x0 x1 K h0 = sBody PG Tryz.f168 (Tryz.f168.body.getD .skip) A_span_Span_Has [.agg #[.string x0.1, .string x0.2.1, .bool x0.2.2], .string x1] [.c .bool] K h0 := by kernel_rfl
theorem H_span_Span_Has (x0 : ByteArray × ByteArray × Bool) (x1 : ByteArray) {K : Tup [.c .bool] → Heap → Prop} {h0 : Heap} (h : F_span_Span_Has x0 x1 K h0) : HC PG f_span_Span_Has [.agg #[.string x0.1, .string x0.2.1, .bool x0.2.2], .string x1] [.c .bool] K h0 := HC.intro Tryz.mixed Tryz.func168 rfl Tryz.call168 (Nat.le_of_ble_eq_true rfl) ((E_span_Span_Has x0 x1 K h0) ▸ h)
/-- slices.Clone[[]*quickset/radix.Node,*quickset/radix.Node] -/
def F_slices_Clone_A_P_radix_Node_P_radix_Node (x0 : SliceV) (K : (SliceV) → Heap → Prop) (h0 : Heap) : Prop :=
  CondP x0.a.isNone (
   K ⟨none, 0, 0⟩ h0) (
   At (hnew h0 [] t_P_radix_Node) (fun h1 =>
    ∃ xs2, SRow h1 x0.a (x0.len * 1) xs2 ∧
    AppP (some [.pointer none]) 1 8 t_P_radix_Node (some (newA h0)) 0 0 x0.len xs2 h1 (fun s3 h4 =>
     K s3 h4)))
def A_slices_Clone_A_P_radix_Node_P_radix_Node : Ann := .node (.reg [0] (.nil)) (.node (.node (.reg [0, 4] (.nil)) (.node (.node (.reg [2] (.nil)) (.nil)) (.nil))) (.node (.reg [2] (.nil)) (.nil)))
theorem E_slices_Clone_A_P_radix_Node_P_radix_Node (x0 : SliceV) (K : Tup [.c .slice] → Heap → Prop) (h0 : Heap) : F_slices_Clone_A_P_radix_Node_P_radix_Node x0 K h0 = sBody PG Tryz.f170 (Tryz.f170.body.getD .skip) A_slices_Clone_A_P_radix_Node_P_radix_Node [.slice x0.a x0.len x0.cap] [.c .slice] K h0 := by kernel_rfl
theorem H_slices_Clone_A_P_radix_Node_P_radix_Node (x0 : SliceV) {K : Tup [.c .slice] → Heap → Prop} {h0 : Heap} (h : F_slices_Clone_A_P_radix_Node_P_radix_Node x0 K h0) : HC PG f_slices_Clone_A_P_radix_Node_P_radix_Node [.slice x0.a x0.len x0.cap] [.c .slice] K h0 := HC.intro Tryz.mixed Tryz.func170 rfl Tryz.call170 (Nat.le_of_ble_eq_true rfl) ((E_slices_Clone_A_P_radix_Node_P_radix_Node x0 K h0) ▸ h)
/-- (*quickset/radix.Node).Owned -/
def F_radix_Node_Owned (x0 : Option Addr) (x1 : Option Addr) (K : (Bool) → Heap → Prop) (h0 : Heap) : Prop :=
  CondP (!(x0.isNone)) (
   HC PG f_token_Token_Live [.pointer x1] [.c .bool] (fun (e1 : Bool) h2 =>
    CondP e1 (
     ∃ a3 : Addr, x0 = some a3 ∧
     ∃ v4 : Option Addr, hcell h2 (adr a3 4) = some (.pointer v4) ∧
     (True ∧ (∀ x y : Addr, v4 = some x → x1 = some y → plainPtr h2 x ∧ plainPtr h2 y) ∧
      K (v4 == x1) h2)) (
     K false h2)) h0) (
   K false h0)
def A_radix_Node_Owned : Ann := .node (.reg [0, 1] (.nil)) (.node (.reg [4] (.nil)) (.nil))
theorem E_radix_Node_Owned (x0 : Option Addr) (x1 : Option Addr) (K : Tup [.c .bool] → Heap → Prop) (h0 : Heap) : F_radix_Node_Owned x0 x1 K h0 = sBody PG Tryz.f171 (Tryz.f171.body.getD .skip) A_radix_Node_Owned [.pointer x0, .pointer x1] [.c .bool] K h0 := by kernel_rfl
theorem H_radix_Node_Owned (x0 : Option Addr) (x1 : Option Addr) {K : Tup [.c .bool] → Heap → Prop} {h0 : Heap} (h : F_radix_Node_Owned x0 x1 K h0) : HC PG f_radix_Node_Owned [.pointer x0, .pointer x1] [.c .bool] K h0 := HC.intro Tryz.mixed Tryz.func171 rfl Tryz.call171 (Nat.le_of_ble_eq_true rfl) ((E_radix_Node_Owned x0 x1 K h0) ▸ h)
/-- slices.BinarySearchFunc[[]*quickset/radix.Node,*quickset/radix.Node,byte] -/
def F_slices_BinarySearchFunc_A_P_radix_Node_P_radix_Node_byte (x0 : SliceV) (x1 : Int) (x2 : Value) (K : (Int × Bool) → Heap → Prop) (h0 : Heap) : Prop :=
  LoopP (fun I1 (t2 : Int × Int) h3 => -- i(9), j(10)
   CondP (decide (t2.1 < t2.2)) (
    ((0 : Int) ≤ (1 : Int) ∧
     Bd (Int.fdiv (IntKind.wrap .u64 (IntKind.wrap .i64 (t2.1 + t2.2))) (2 ^ (min (1 : Int).toNat (IntKind.bits .u64))) : Int) (fun n4 =>
      (((0 : Int) ≤ (IntKind.wrap .i64 n4) ∧ (IntKind.wrap .i64 n4) < ((x0.len : Nat) : Int)) ∧ ∃ a5 : Addr, x0.a = some a5 ∧
       ∃ v6 : Option Addr, hcell h3 (adr a5 ((IntKind.wrap .i64 n4).toNat * 1)) = some (.pointer v6) ∧
       HV PG x2 [.pointer v6, .int .u8 x1] [.c (.int .i64)] (fun (e7 : Int) h8 =>
        CondP (decide (e7 < (0 : Int))) (
         I1 (IntKind.wrap .i64 ((IntKind.wrap .i64 n4) + 1), t2.2) h8) (
         I1 (t2.1, IntKind.wrap .i64 n4) h8)) h3)))) (
    CondP (decide (t2.1 < (x0.len : Int))) (
     (((0 : Int) ≤ t2.1 ∧ t2.1 < ((x0.len : Nat) : Int)) ∧ ∃ a9 : Addr, x0.a = some a9 ∧
      ∃ v10 : Option Addr, hcell h3 (adr a9 (t2.1.toNat * 1)) = some (.pointer v10) ∧
      HV PG x2 [.pointer v10, .int .u8 x1] [.c (.int .i64)] (fun (e11 : Int) h12 =>
       K (t2.1, e11 == (0 : Int)) h12) h3)) (
     K (t2.1, false) h3))) (0, (x0.len : Int)) h0
def A_slices_BinarySearchFunc_A_P_radix_Node_P_radix_Node_byte : Ann := .node (.reg [0, 1, 2] (.nil)) (.node (.reg [0, 1, 2, 8] (.nil)) (.node (.reg [0, 1, 2, 8, 9, 10] (.nil)) (.node (.loop [0, 1, 2, 8] [(9, .c (.int .i64)), (10, .c (.int .i64))] (.node (.node (.reg [0, 1, 2, 8, 9, 10, 17] (.nil)) (.nil)) (.node (.reg [0, 1, 2, 8, 9, 10, 11] (.nil)) (.node (.reg [0, 1, 2, 8, 9, 10, 11, 31] (.nil)) (.node (.reg [0, 1, 2, 8, 9, 10] (.nil)) (.reg [0, 1, 2, 8, 9, 10] (.nil))))))) (.node (.reg [6, 7] (.nil)) (.nil)))))
theorem E_slices_BinarySearchFunc_A_P_radix_Node_P_radix_Node_byte (x0 : SliceV) (x1 : Int) (x2 : Value) (K : Tup [.c (.int .i64), .c .bool] → Heap → Prop) (h0 : Heap) : F_slices_BinarySearchFunc_A_P_radix_Node_P_radix_Node_byte x0 x1 x2 K h0 = sBody PG Tryz.f172 (Tryz.f172.body.getD .skip) A_slices_BinarySearchFunc_A_P_radix_Node_P_radix_Node_byte [.slice x0.a x0.len x0.cap, .int .u8 x1, x2] [.c (.int .i64), .c .bool] K h0 := by kernel_rfl
theorem H_slices_BinarySearchFunc_A_P_radix_Node_P_radix_Node_byte (x0 : SliceV) (x1 : Int) (x2 : Value) {K : Tup [.c (.int .i64), .c .bool] → Heap → Prop} {h0 : Heap} (h : F_slices_BinarySearchFunc_A_P_radix_Node_P_radix_Node_byte x0 x1 x2 K h0) : HC PG f_slices_BinarySearchFunc_A_P_radix_Node_P_radix_Node_byte [.slice x0.a x0.len x0.cap, .int .u8 x1, x2] [.c (.int .i64), .c .bool] K h0 := HC.intro Tryz.mixed Tryz.func172 rfl Tryz.call172 (Nat.le_of_ble_eq_true rfl) ((E_slices_BinarySearchFunc_A_P_radix_Node_P_radix_Node_byte x0 x1 x2 K h0) ▸ h)
/-- (*quickset/radix.Node).find$1 -/
def F_radix_Node_find_1 (x0 : Option Addr) (x1 : Int) (K : (Int) → Heap → Prop) (h0 : Heap) : Prop :=
  ∃ a1 : Addr, x0 = some a1 ∧
  ∃ v2 : ByteArray, hcell h0 (adr a1 0) = some (.string v2) ∧
  ∃ b3 : UInt8, (0 : Int) ≤ (0 : Int) ∧ v2[(0 : Int).toNat]? = some b3 ∧
  Bd (IntKind.wrap .i64 ((IntKind.wrap .i64 (b3.toNat : Int)) - (IntKind.wrap .i64 x1)) : Int) (fun n4 =>
   K n4 h0)
def A_radix_Node_find_1 : Ann := .node (.reg [0, 1] (.nil)) (.node (.reg [4] (.nil)) (.nil))
theorem E_radix_Node_find_1 (x0 : Option Addr) (x1 : Int) (K : Tup [.c (.int .i64)] → Heap → Prop) (h0 : Heap) : F_radix_Node_find_1 x0 x1 K h0 = sBody PG Tryz.f173 (Tryz.f173.body.getD .skip) A_radix_Node_find_1 [.pointer x0, .int .u8 x1] [.c (.int .i64)] K h0 := by kernel_rfl
theorem H_radix_Node_find_1 (x0 : Option Addr) (x1 : Int) {K : Tup [.c (.int .i64)] → Heap → Prop} {h0 : Heap} (h : F_radix_Node_find_1 x0 x1 K h0) : HC PG f_radix_Node_find_1 [.pointer x0, .int .u8 x1] [.c (.int .i64)] K h0 := HC.intro Tryz.mixed Tryz.func173 rfl Tryz.call173 (Nat.le_of_ble_eq_true rfl) ((E_radix_Node_find_1 x0 x1 K h0) ▸ h)
/-- (*quickset/radix.Node).named -/
def F_radix_Node_named (x0 : Option Addr) (x1 : ByteArray) (K : (Option Addr) → Heap → Prop) (h0 : Heap) : Prop :=
  ∃ a1 : Addr, x0 = some a1 ∧
  (Wr h0 (adr a1 0) ∧
   At (hset h0 (adr a1 0) (.string x1)) (fun h2 =>
    K x0 h2))
def A_radix_Node_named : Ann := .node (.reg [0, 1] (.nil)) (.node (.reg [0] (.nil)) (.node (.reg [4] (.nil)) (.nil)))
theorem E_radix_Node_named (x0 : Option Addr) (x1 : ByteArray) (K : Tup [.c .ptr] → Heap → Prop) (h0 : Heap) : F_radix_Node_named x0 x1 K h0 = sBody PG Tryz.f176 (Tryz.f176.body.getD .skip) A_radix_Node_named [.pointer x0, .string x1] [.c .ptr] K h0 := by kernel_rfl
theorem H_radix_Node_named (x0 : Option Addr) (x1 : ByteArray) {K : Tup [.c .ptr] → Heap → Prop} {h0 : Heap} (h : F_radix_Node_named x0 x1 K h0) : HC PG f_radix_Node_named [.pointer x0, .string x1] [.c .ptr] K h0 := HC.intro Tryz.mixed Tryz.func176 rfl Tryz.call176 (Nat.le_of_ble_eq_true rfl) ((E_radix_Node_named x0 x1 K h0) ▸ h)
/-- quickset/twig.Begins -/
def F_twig_Begins (x0 : ByteArray) (x1 : ByteArray) (K : (Bool) → Heap → Prop) (h0 : Heap) : Prop :=
  HC PG f_strs_HasPrefix [.string x0, .string x1] [.c .bool] (fun (e1 : Bool) h2 =>
   K e1 h2) h0
def A_twig_Begins : Ann := .node (.reg [0, 1] (.nil)) (.node (.reg [4] (.nil)) (.nil))
theorem E_twig_Begins (x0 : ByteArray) (x1 : ByteArray) (K : Tup [.c .bool] → Heap → Prop) (h0 : Heap) : F_twig_Begins x0 x1 K h0 = sBody PG Tryz.f177 (Tryz.f177.body.getD .skip) A_twig_Begins [.string x0, .string x1] [.c .bool] K h0 := by kernel_rfl
theorem H_twig_Begins (x0 : ByteArray) (x1 : ByteArray) {K : Tup [.c .bool] → Heap → Prop} {h0 : Heap} (h : F_twig_Begins x0 x1 K h0) : HC PG f_twig_Begins [.string x0, .string x1] [.c .bool] K h0 := HC.intro Tryz.mixed Tryz.func177 rfl Tryz.call177 (Nat.le_of_ble_eq_true rfl) ((E_twig_Begins x0 x1 K h0) ▸ h)
/-- quickset/pair.Drop -/
def F_pair_Drop (x0 : SliceV) (x1 : ByteArray) (K : (SliceV) → Heap → Prop) (h0 : Heap) : Prop :=
  HC PG f_pair_Find [.slice x0.a x0.len x0.cap, .string x1] [.c (.int .i64), .c .bool] (fun (e1 : Int × Bool) h2 =>
   CondP (!e1.2) (
    HC PG f_slices_Clone_A_pair_Pair_pair_Pair [.slice x0.a x0.len x0.cap] [.c .slice] (fun (e3 : SliceV) h4 =>
     K e3 h4) h2) (
    (((0 : Int) ≤ e1.1 ∧ e1.1 ≤ ((x0.cap : Nat) : Int)) ∧
     (((0 : Int) ≤ (IntKind.wrap .i64 (e1.1 + 1)) ∧ (IntKind.wrap .i64 (e1.1 + 1)) ≤ ((x0.len : Nat) : Int)) ∧
      Bd (subAddr x0.a ((IntKind.wrap .i64 (e1.1 + 1)).toNat) x0.cap 2 : Option Addr) (fun a5 => Bd (x0.len - ((IntKind.wrap .i64 (e1.1 + 1)).toNat) : Nat) (fun n6 => Bd (x0.cap - ((IntKind.wrap .i64 (e1.1 + 1)).toNat) : Nat) (fun n7 =>
         At (hnew h2 [.slice (subAddr x0.a 0 x0.cap 2) (e1.1.toNat - 0) (x0.cap - 0), .slice a5 n6 n7] t_A_pair_Pair) (fun h8 =>
          HC PG f_slices_Concat_A_pair_Pair_pair_Pair [.slice (some (newA h2)) 2 2] [.c .slice] (fun (e9 : SliceV) h10 =>
           K e9 h10) h8)))))))) h0
def A_pair_Drop : Ann := .node (.reg [0, 1] (.nil)) (.node (.reg [0, 5, 6] (.nil)) (.node (.node (.reg [0, 5, 14] (.nil)) (.node (.node (.reg [4] (.nil)) (.nil)) (.nil))) (.node (.reg [4] (.draw [.mk 0 1023 1 131072, .mk 0 1023 32 262144, .mk 3 1020 393216 524288, .mk 0 1023 1 1048576, .mk 0 1023 32 2097152, .mk 16 1007 2097152 4194304, .mk 40 983 5242880 8388608, .mk 68 955 8912896 16777216, .mk 128 895 16777216 33554432, .mk 511 767 33554432 16] (.take 0 (.take 1 (.take 2 (.take 3 (.take 4 (.take 5 (.take 6 (.all (.last 7 (.all (.last 8 (.take 9 (.done))))))))))))))) (.nil))))
theorem E_pair_Drop (x0 : SliceV) (x1 : ByteArray) (K : Tup [.c .slice] → Heap → Prop) (h0 : Heap) : F_pair_Drop x0 x1 K h0 = sBody PG Tryz.f178 (Tryz.f178.body.getD .skip) A_pair_Drop [.slice x0.a x0.len x0.cap, .string x1] [.c .slice] K h0 := by kernel_rfl
theorem H_pair_Drop (x0 : SliceV) (x1 : ByteArray) {K : Tup [.c .slice] → Heap → Prop} {h0 : Heap} (h : F_pair_Drop x0 x1 K h0) : HC PG f_pair_Drop [.slice x0.a x0.len x0.cap, .string x1] [.c .slice] K h0 := HC.intro Tryz.mixed Tryz.func178 rfl Tryz.call178 (Nat.le_of_ble_eq_true rfl) ((E_pair_Drop x0 x1 K h0) ▸ h)
/-- slices.BinarySearchFunc[[]quickset/pair.Pair,quickset/pair.Pair,string] -/
def F_slices_BinarySearchFunc_A_pair_Pair_pair_Pair_str (x0 : SliceV) (x1 : ByteArray) (x2 : Value) (K : (Int × Bool) → Heap → Prop) (h0 : Heap) : Prop :=
  LoopP (fun I1 (t2 : Int × Int) h3 => -- i(9), j(10)
   CondP (decide (t2.1 < t2.2)) (
    ((0 : Int) ≤ (1 : Int) ∧
     Bd (Int.fdiv (IntKind.wrap .u64 (IntKind.wrap .i64 (t2.1 + t2.2))) (2 ^ (min (1 : Int).toNat (IntKind.bits .u64))) : Int) (fun n4 =>
      (((0 : Int) ≤ (IntKind.wrap .i64 n4) ∧ (IntKind.wrap .i64 n4) < ((x0.len : Nat) : Int)) ∧ ∃ a5 : Addr, x0.a = some a5 ∧
       ∃ v6 : ByteArray, hcell h3 (adr (adr a5 ((IntKind.wrap .i64 n4).toNat * 2)) 0) = some (.string v6) ∧
       ∃ v7 : ByteArray, hcell h3 (adr (adr a5 ((IntKind.wrap .i64 n4).toNat * 2)) 1) = some (.string v7) ∧
       HV PG x2 [.agg #[.string v6, .string v7], .string x1] [.c (.int .i64)] (fun (e8 : Int) h9 =>
        CondP (decide (e8 < (0 : Int))) (
         I1 (IntKind.wrap .i64 ((IntKind.wrap .i64 n4) + 1), t2.2) h9) (
         I1 (t2.1, IntKind.wrap .i64 n4) h9)) h3)))) (
    CondP (decide (t2.1 < (x0.len : Int))) (
     (((0 : Int) ≤ t2.1 ∧ t2.1 < ((x0.len : Nat) : Int)) ∧ ∃ a10 : Addr, x0.a = some a10 ∧
      ∃ v11 : ByteArray, hcell h3 (adr (adr a10 (t2.1.toNat * 2)) 0) = some (.string v11) ∧
      ∃ v12 : ByteArray, hcell h3 (adr (adr a10 (t2.1.toNat * 2)) 1) = some (.string v12) ∧
      HV PG x2 [.agg #[.string v11, .string v12], .string x1] [.c (.int .i64)] (fun (e13 : Int) h14 =>
       K (t2.1, e13 == (0 : Int)) h14) h3)) (
     K (t2.1, false) h3))) (0, (x0.len : Int)) h0
def A_slices_BinarySearchFunc_A_pair_Pair_pair_Pair_str : Ann := .node (.reg [0, 1, 2] (.nil)) (.node (.reg [0, 1, 2, 8] (.nil)) (.node (.reg [0, 1, 2, 8, 9, 10] (.nil)) (.node (.loop [0, 1, 2, 8] [(9, .c (.int .i64)), (10, .c (.int .i64))] (.node (.node (.reg [0, 1, 2, 8, 9, 10, 17] (.nil)) (.nil)) (.node (.reg [0, 1, 2, 8, 9, 10, 11] (.nil)) (.node (.reg [0, 1, 2, 8, 9, 10, 11, 31] (.nil)) (.node (.reg [0, 1, 2, 8, 9, 10] (.nil)) (.reg [0, 1, 2, 8, 9, 10] (.nil))))))) (.node (.reg [6, 7] (.nil)) (.nil)))))
theorem E_slices_BinarySearchFunc_A_pair_Pair_pair_Pair_str (x0 : SliceV) (x1 : ByteArray) (x2 : Value) (K : Tup [.c (.int .i64), .c .bool] → Heap → Prop) (h0 : Heap) : F_slices_BinarySearchFunc_A_pair_Pair_pair_Pair_str x0 x1 x2 K h0 = sBody PG Tryz.f179 (Tryz.f179.body.getD .skip) A_slices_BinarySearchFunc_A_pair_Pair_pair_Pair_str [.slice x0.a x0.len x0.cap, .string x1, x2] [.c (.int .i64), .c .bool] K h0 := by kernel_rfl
theorem H_slices_BinarySearchFunc_A_pair_Pair_pair_Pair_str (x0 : SliceV) (x1 : ByteArray) (x2 : Value) {K : Tup [.c (.int .i64), .c .bool] → Heap → Prop} {h0 : Heap} (h : F_slices_BinarySearchFunc_A_pair_Pair_pair_Pair_str x0 x1 x2 K h0) : HC PG f_slices_BinarySearchFunc_A_pair_Pair_pair_Pair_str [.slice x0.a x0.len x0.cap, .string x1, x2] [.c (.int .i64), .c .bool] K h0 := HC.intro Tryz.mixed Tryz.func179 rfl Tryz.call179 (Nat.le_of_ble_eq_true rfl) ((E_slices_BinarySearchFunc_A_pair_Pair_pair_Pair_str x0 x1 x2 K h0) ▸ h)
/-- slices.Grow[[]quickset/pair.Pair,quickset/pair.Pair] -/
def F_slices_Grow_A_pair_Pair_pair_Pair (x0 : SliceV) (x1 : Int) (K : (SliceV) → Heap → Prop) (h0 : Heap) : Prop :=
  Join (fun (t2 : Unit) h3 => -- 
   Bd (IntKind.wrap .i64 (x1 - (IntKind.wrap .i64 ((x0.cap : Int) - (x0.len : Int)))) : Int) (fun n4 =>
    CondP (decide (n4 > (0 : Int))) (
     (((0 : Int) ≤ (x0.cap : Int) ∧ (x0.cap : Int) ≤ ((x0.cap : Nat) : Int)) ∧
      (((0 : Int) ≤ n4 ∧ n4 * ((32 : Nat) : Int) ≤ 2 ^ 48 ∧ n4 ≤ 9223372036854775807 ∧ (((((x0.cap : Int).toNat) - 0) + n4.toNat : Nat) : Int) ≤ 9223372036854775807) ∧
       AppP (some [.string (⟨#[]⟩ : ByteArray), .string (⟨#[]⟩ : ByteArray)]) 2 32 t_pair_Pair (subAddr x0.a 0 x0.cap 2) (((x0.cap : Int).toNat) - 0) (x0.cap - 0) n4.toNat (zrow n4.toNat [.string (⟨#[]⟩ : ByteArray), .string (⟨#[]⟩ : ByteArray)]) h3 (fun s5 h6 =>
        (((0 : Int) ≤ (x0.len : Int) ∧ (x0.len : Int) ≤ ((s5.cap : Nat) : Int)) ∧
         K ⟨subAddr s5.a 0 s5.cap 2, ((x0.len : Int).toNat) - 0, s5.cap - 0⟩ h6))))) (
     K x0 h3))) (fun J1 =>
   CondP (decide (x1 < (0 : Int))) (
    False) (
    J1 () h0))
def A_slices_Grow_A_pair_Pair_pair_Pair : Ann := .node (.reg [0, 1] (.nil)) (.join [0, 1] [] (.node (.reg [0, 1, 6] (.nil)) (.node (.reg [] (.nil)) (.nil))) (.node (.node (.reg [0, 1] (.nil)) (.node (.reg [0, 1, 16] (.nil)) (.node (.reg [0] (.nil)) (.nil)))) (.node (.reg [4] (.nil)) (.nil))))
theorem E_slices_Grow_A_pair_Pair_pair_Pair (x0 : SliceV) (x1 : Int) (K : Tup [.c .slice] → Heap → Prop) (h0 : Heap) : F_slices_Grow_A_pair_Pair_pair_Pair x0 x1 K h0 = sBody PG Tryz.f180 (Tryz.f180.body.getD .skip) A_slices_Grow_A_pair_Pair_pair_Pair [.slice x0.a x0.len x0.cap, .int .i64 x1] [.c .slice] K h0 := by kernel_rfl
theorem H_slices_Grow_A_pair_Pair_pair_Pair (x0 : SliceV) (x1 : Int) {K : Tup [.c .slice] → Heap → Prop} {h0 : Heap} (h : F_slices_Grow_A_pair_Pair_pair_Pair x0 x1 K h0) : HC PG f_slices_Grow_A_pair_Pair_pair_Pair [.slice x0.a x0.len x0.cap, .int .i64 x1] [.c .slice] K h0 := HC.intro Tryz.mixed Tryz.func180 rfl Tryz.call180 (Nat.le_of_ble_eq_true rfl) ((E_slices_Grow_A_pair_Pair_pair_Pair x0 x1 K h0) ▸ h)
/-- math/bits.OnesCount32 -/
def F_math_bits_OnesCount32 (x0 : Int) (K : (Int) → Heap → Prop) (h0 : Heap) : Prop :=
  ((0 : Int) ≤ (24 : Int) ∧
   ∃ b1 : UInt8, (0 : Int) ≤ (Int.fdiv x0 (2 ^ (min (24 : Int).toNat (IntKind.bits .u32)))) ∧ (⟨#[0, 1, 1, 2, 1, 2, 2, 3, 1, 2, 2, 3, 2, 3, 3, 4, 1, 2, 2, 3, 2, 3, 3, 4, 2, 3, 3, 4, 3, 4, 4, 5, 1, 2, 2, 3, 2, 3, 3, 4, 2, 3, 3, 4, 3, 4, 4, 5, 2, 3, 3, 4, 3, 4, 4, 5, 3, 4, 4, 5, 4, 5, 5, 6, 1, 2, 2, 3, 2, 3, 3, 4, 2, 3, 3, 4, 3, 4, 4, 5, 2, 3, 3, 4, 3, 4, 4, 5, 3, 4, 4, 5, 4, 5, 5, 6, 2, 3, 3, 4, 3, 4, 4, 5, 3, 4, 4, 5, 4, 5, 5, 6, 3, 4, 4, 5, 4, 5, 5, 6, 4, 5, 5, 6, 5, 6, 6, 7, 1, 2, 2, 3, 2, 3, 3, 4, 2, 3, 3, 4, 3, 4, 4, 5, 2, 3, 3, 4, 3, 4, 4, 5, 3, 4, 4, 5, 4, 5, 5, 6, 2, 3, 3, 4, 3, 4, 4, 5, 3, 4, 4, 5, 4, 5, 5, 6, 3, 4, 4, 5, 4, 5, 5, 6, 4, 5, 5, 6, 5, 6, 6, 7, 2, 3, 3, 4, 3, 4, 4, 5, 3, 4, 4, 5, 4, 5, 5, 6, 3, 4, 4, 5, 4, 5, 5, 6, 4, 5, 5, 6, 5, 6, 6, 7, 3, 4, 4, 5, 4, 5, 5, 6, 4, 5, 5, 6, 5, 6, 6, 7, 4, 5, 5, 6, 5, 6, 6, 7, 5, 6, 6, 7, 6, 7, 7, 8]⟩ : ByteArray)[(Int.fdiv x0 (2 ^ (min (24 : Int).toNat (IntKind.bits .u32)))).toNat]? = some b1 ∧
   ((0 : Int) ≤ (16 : Int) ∧
    Bd (IntKind.wrap .u32 (BitVec.ofInt (IntKind.bits .u32) (Int.fdiv x0 (2 ^ (min (16 : Int).toNat (IntKind.bits .u32)))) &&& BitVec.ofInt (IntKind.bits .u32) 255).toNat : Int) (fun n2 =>
     ∃ b3 : UInt8, (0 : Int) ≤ n2 ∧ (⟨#[0, 1, 1, 2, 1, 2, 2, 3, 1, 2, 2, 3, 2, 3, 3, 4, 1, 2, 2, 3, 2, 3, 3, 4, 2, 3, 3, 4, 3, 4, 4, 5, 1, 2, 2, 3, 2, 3, 3, 4, 2, 3, 3, 4, 3, 4, 4, 5, 2, 3, 3, 4, 3, 4, 4, 5, 3, 4, 4, 5, 4, 5, 5, 6, 1, 2, 2, 3, 2, 3, 3, 4, 2, 3, 3, 4, 3, 4, 4, 5, 2, 3, 3, 4, 3, 4, 4, 5, 3, 4, 4, 5, 4, 5, 5, 6, 2, 3, 3, 4, 3, 4, 4, 5, 3, 4, 4, 5, 4, 5, 5, 6, 3, 4, 4, 5, 4, 5, 5, 6, 4, 5, 5, 6, 5, 6, 6, 7, 1, 2, 2, 3, 2, 3, 3, 4, 2, 3, 3, 4, 3, 4, 4, 5, 2, 3, 3, 4, 3, 4, 4, 5, 3, 4, 4, 5, 4, 5, 5, 6, 2, 3, 3, 4, 3, 4, 4, 5, 3, 4, 4, 5, 4, 5, 5, 6, 3, 4, 4, 5, 4, 5, 5, 6, 4, 5, 5, 6, 5, 6, 6, 7, 2, 3, 3, 4, 3, 4, 4, 5, 3, 4, 4, 5, 4, 5, 5, 6, 3, 4, 4, 5, 4, 5, 5, 6, 4, 5, 5, 6, 5, 6, 6, 7, 3, 4, 4, 5, 4, 5, 5, 6, 4, 5, 5, 6, 5, 6, 6, 7, 4, 5, 5, 6, 5, 6, 6, 7, 5, 6, 6, 7, 6, 7, 7, 8]⟩ : ByteArray)[n2.toNat]? = some b3 ∧
     ((0 : Int) ≤ (8 : Int) ∧
      Bd (IntKind.wrap .u32 (BitVec.ofInt (IntKind.bits .u32) (Int.fdiv x0 (2 ^ (min (8 : Int).toNat (IntKind.bits .u32)))) &&& BitVec.ofInt (IntKind.bits .u32) 255).toNat : Int) (fun n4 =>
       ∃ b5 : UInt8, (0 : Int) ≤ n4 ∧ (⟨#[0, 1, 1, 2, 1, 2, 2, 3, 1, 2, 2, 3, 2, 3, 3, 4, 1, 2, 2, 3, 2, 3, 3, 4, 2, 3, 3, 4, 3, 4, 4, 5, 1, 2, 2, 3, 2, 3, 3, 4, 2, 3, 3, 4, 3, 4, 4, 5, 2, 3, 3, 4, 3, 4, 4, 5, 3, 4, 4, 5, 4, 5, 5, 6, 1, 2, 2, 3, 2, 3, 3, 4, 2, 3, 3, 4, 3, 4, 4, 5, 2, 3, 3, 4, 3, 4, 4, 5, 3, 4, 4, 5, 4, 5, 5, 6, 2, 3, 3, 4, 3, 4, 4, 5, 3, 4, 4, 5, 4, 5, 5, 6, 3, 4, 4, 5, 4, 5, 5, 6, 4, 5, 5, 6, 5, 6, 6, 7, 1, 2, 2, 3, 2, 3, 3, 4, 2, 3, 3, 4, 3, 4, 4, 5, 2, 3, 3, 4, 3, 4, 4, 5, 3, 4, 4, 5, 4, 5, 5, 6, 2, 3, 3, 4, 3, 4, 4, 5, 3, 4, 4, 5, 4, 5, 5, 6, 3, 4, 4, 5, 4, 5, 5, 6, 4, 5, 5, 6, 5, 6, 6, 7, 2, 3, 3, 4, 3, 4, 4, 5, 3, 4, 4, 5, 4, 5, 5, 6, 3, 4, 4, 5, 4, 5, 5, 6, 4, 5, 5, 6, 5, 6, 6, 7, 3, 4, 4, 5, 4, 5, 5, 6, 4, 5, 5, 6, 5, 6, 6, 7, 4, 5, 5, 6, 5, 6, 6, 7, 5, 6, 6, 7, 6, 7, 7, 8]⟩ : ByteArray)[n4.toNat]? = some b5 ∧
       Bd (IntKind.wrap .u8 ((IntKind.wrap .u8 ((b1.toNat : Int) + (b3.toNat : Int))) + (b5.toNat : Int)) : Int) (fun n6 =>
        Bd (IntKind.wrap .u32 (BitVec.ofInt (IntKind.bits .u32) x0 &&& BitVec.ofInt (IntKind.bits .u32) 255).toNat : Int) (fun n7 =>
         ∃ b8 : UInt8, (0 : Int) ≤ n7 ∧ (⟨#[0, 1, 1, 2, 1, 2, 2, 3, 1, 2, 2, 3, 2, 3, 3, 4, 1, 2, 2, 3, 2, 3, 3, 4, 2, 3, 3, 4, 3, 4, 4, 5, 1, 2, 2, 3, 2, 3, 3, 4, 2, 3, 3, 4, 3, 4, 4, 5, 2, 3, 3, 4, 3, 4, 4, 5, 3, 4, 4, 5, 4, 5, 5, 6, 1, 2, 2, 3, 2, 3, 3, 4, 2, 3, 3, 4, 3, 4, 4, 5, 2, 3, 3, 4, 3, 4, 4, 5, 3, 4, 4, 5, 4, 5, 5, 6, 2, 3, 3, 4, 3, 4, 4, 5, 3, 4, 4, 5, 4, 5, 5, 6, 3, 4, 4, 5, 4, 5, 5, 6, 4, 5, 5, 6, 5, 6, 6, 7, 1, 2, 2, 3, 2, 3, 3, 4, 2, 3, 3, 4, 3, 4, 4, 5, 2, 3, 3, 4, 3, 4, 4, 5, 3, 4, 4, 5, 4, 5, 5, 6, 2, 3, 3, 4, 3, 4, 4, 5, 3, 4, 4, 5, 4, 5, 5, 6, 3, 4, 4, 5, 4, 5, 5, 6, 4, 5, 5, 6, 5, 6, 6, 7, 2, 3, 3, 4, 3, 4, 4, 5, 3, 4, 4, 5, 4, 5, 5, 6, 3, 4, 4, 5, 4, 5, 5, 6, 4, 5, 5, 6, 5, 6, 6, 7, 3, 4, 4, 5, 4, 5, 5, 6, 4, 5, 5, 6, 5, 6, 6, 7, 4, 5, 5, 6, 5, 6, 6, 7, 5, 6, 6, 7, 6, 7, 7, 8]⟩ : ByteArray)[n7.toNat]? = some b8 ∧
         K (IntKind.wrap .i64 (IntKind.wrap .u8 (n6 + (b8.toNat : Int)))) h0)))))))
def A_math_bits_OnesCount32 : Ann := .node (.reg [0] (.nil)) (.node (.reg [2] (.draw [.mk 0 524287 1 8, .mk 1 524286 8 16, .mk 2 524285 16 32, .mk 0 524287 1 64, .mk 8 524279 64 128, .mk 16 524271 128 256, .mk 32 524255 256 512, .mk 68 524219 544 1024, .mk 0 524287 1 2048, .mk 256 524031 2048 4096, .mk 512 523775 4096 8192, .mk 1024 523263 8192 16384, .mk 2176 522111 17408 32768, .mk 0 524287 1 65536, .mk 8192 516095 65536 131072, .mk 16384 507903 131072 262144, .mk 36864 487423 294912 524288, .mk 65536 458751 524288 1048576, .mk 262143 393215 1048576 4] (.take 0 (.take 1 (.take 2 (.take 3 (.take 4 (.take 5 (.take 6 (.take 7 (.take 8 (.take 9 (.take 10 (.take 11 (.take 12 (.take 13 (.take 14 (.take 15 (.take 16 (.take 17 (.take 18 (.done)))))))))))))))))))))) (.nil))
theorem E_math_bits_OnesCount32 (x0 : Int) (K : Tup [.c (.int .i64)] → Heap → Prop) (h0 : Heap) : F_math_bits_OnesCount32 x0 K h0 = sBody PG Tryz.f182 (Tryz.f182.body.getD .skip) A_math_bits_OnesCount32 [.int .u32 x0] [.c (.int .i64)] K h0 := by kernel_rfl
theorem H_math_bits_OnesCount32 (x0 : Int) {K : Tup [.c (.int .i64)] → Heap → Prop} {h0 : Heap} (h : F_math_bits_OnesCount32 x0 K h0) : HC PG f_math_bits_OnesCount32 [.int .u32 x0] [.c (.int .i64)] K h0 := HC.intro Tryz.mixed Tryz.func182 rfl Tryz.call182 (Nat.le_of_ble_eq_true rfl) ((E_math_bits_OnesCount32 x0 K h0) ▸ h)
/-- (quickset/span.Span).past -/
def F_span_Span_past (x0 : ByteArray × ByteArray × Bool) (x1 : ByteArray) (K : (Bool) → Heap → Prop) (h0 : Heap) : Prop :=
  At (hnew h0 [.string x0.1, .string x0.2.1, .bool x0.2.2] t_span_Span) (fun h1 =>
   Join (fun (t5 : Bool) h6 => -- (13)
    CondP t5 (
     K true h6) (
     ∃ v7 : ByteArray, hcell h6 (adr (newA h0) 0) = some (.string v7) ∧
     CondP (Op.bytesLess x1.toList v7.toList) (
      ∃ v8 : ByteArray, hcell h6 (adr (newA h0) 0) = some (.string v8) ∧
      HC PG f_twig_Begins [.string v8, .string x1] [.c .bool] (fun (e9 : Bool) h10 =>
       K (!e9) h10) h6) (
      K false h6))) (fun J2 =>
    ∃ v3 : Bool, hcell h1 (adr (newA h0) 2) = some (.bool v3) ∧
    CondP (!v3) (
     ∃ v4 : ByteArray, hcell h1 (adr (newA h0) 1) = some (.string v4) ∧
     J2 (!(Op.bytesLess x1.toList v4.toList)) h1) (
     J2 false h1)))
def A_span_Span_past : Ann := .node (.reg [1, 2] (.nil)) (.node (.join [1, 2] [(13, .c .bool)] (.reg [1, 2, 13] (.nil)) (.node (.node (.reg [4] (.nil)) (.nil)) (.nil))) (.node (.reg [4] (.nil)) (.nil)))
theorem E_span_Span_past (x0 : ByteArray × ByteArray × Bool) (x1 : ByteArray) (K : Tup [.c .bool] → Heap → Prop) (h0 : Heap) : F_span_Span_past x0 x1 K h0 = sBody PG Tryz.f186 (Tryz.f186.body.getD .skip) A_span_Span_past [.agg #[.string x0.1, .string x0.2.1, .bool x0.2.2], .string x1] [.c .bool] K h0 := by kernel_rfl
theorem H_span_Span_past (x0 : ByteArray × ByteArray × Bool) (x1 : ByteArray) {K : Tup [.c .bool] → Heap → Prop} {h0 : Heap} (h : F_span_Span_past x0 x1 K h0) : HC PG f_span_Span_past [.agg #[.string x0.1, .string x0.2.1, .bool x0.2.2], .string x1] [.c .bool] K h0 := HC.intro Tryz.mixed Tryz.func186 rfl Tryz.call186 (Nat.le_of_ble_eq_true rfl) ((E_span_Span_past x0 x1 K h0) ▸ h)
/-- slices.Reverse[[]quickset/span.work,quickset/span.work] -/
def F_slices_Reverse_A_span_work_span_work (x0 : SliceV) (K : (Unit) → Heap → Prop) (h0 : Heap) : Prop :=
  LoopP (fun I1 (t2 : Int × Int) h3 => -- i(2), j(3)
   CondP (decide (t2.1 < t2.2)) (
    (((0 : Int) ≤ t2.2 ∧ t2.2 < ((x0.len : Nat) : Int)) ∧ ∃ a4 : Addr, x0.a = some a4 ∧
     ∃ v5 : Option Addr, hcell h3 (adr (adr a4 (t2.2.toNat * 3)) 0) = some (.pointer v5) ∧
     ∃ v6 : ByteArray, hcell h3 (adr (adr a4 (t2.2.toNat * 3)) 1) = some (.string v6) ∧
     ∃ v7 : Bool, hcell h3 (adr (adr a4 (t2.2.toNat * 3)) 2) = some (.bool v7) ∧
     (((0 : Int) ≤ t2.1 ∧ t2.1 < ((x0.len : Nat) : Int)) ∧ ∃ a8 : Addr, x0.a = some a8 ∧
      ∃ v9 : Option Addr, hcell h3 (adr (adr a8 (t2.1.toNat * 3)) 0) = some (.pointer v9) ∧
      ∃ v10 : ByteArray, hcell h3 (adr (adr a8 (t2.1.toNat * 3)) 1) = some (.string v10) ∧
      ∃ v11 : Bool, hcell h3 (adr (adr a8 (t2.1.toNat * 3)) 2) = some (.bool v11) ∧
      (((0 : Int) ≤ t2.1 ∧ t2.1 < ((x0.len : Nat) : Int)) ∧ ∃ a12 : Addr, x0.a = some a12 ∧
       (WrS h3 (some (adr a12 (t2.1.toNat * 3))) 0 [.pointer v5, .string v6, .bool v7] ∧
        At (hsetL h3 (adr a12 (t2.1.toNat * 3)) 0 [.pointer v5, .string v6, .bool v7]) (fun h13 =>
         (((0 : Int) ≤ t2.2 ∧ t2.2 < ((x0.len : Nat) : Int)) ∧ ∃ a14 : Addr, x0.a = some a14 ∧
          (WrS h13 (some (adr a14 (t2.2.toNat * 3))) 0 [.pointer v9, .string v10, .bool v11] ∧
           At (hsetL h13 (adr a14 (t2.2.toNat * 3)) 0 [.pointer v9, .string v10, .bool v11]) (fun h15 =>
            I1 (IntKind.wrap .i64 (t2.1 + 1), IntKind.wrap .i64 (t2.2 - 1)) h15))))))))) (
    K () h3)) (0, IntKind.wrap .i64 ((x0.len : Int) - 1)) h0
def A_slices_Reverse_A_span_work_span_work : Ann := .node (.reg [0, 2, 3] (.nil)) (.loop [0] [(2, .c (.int .i64)), (3, .c (.int .i64))] (.node (.node (.reg [0, 2, 3, 9] (.nil)) (.nil)) (.node (.reg [0, 2, 3] (.draw [.mk 0 65535 1 16384, .mk 0 65535 4 32768, .mk 0 65535 1 65536, .mk 0 65535 8 131072, .mk 0 65535 1 262144, .mk 0 65535 8 524288, .mk 48 65487 786432 1048576, .mk 64 65471 1048576 2097152, .mk 0 65535 1 4194304, .mk 0 65535 4 8388608, .mk 768 64767 12582912 16777216, .mk 1024 64511 16777216 33554432, .mk 2291 65532 49152 67108864, .mk 6387 61311 69206016 0, .mk 16383 65523 196608 134217728, .mk 32767 47103 167772160 0] (.take 0 (.take 1 (.take 2 (.take 3 (.take 4 (.take 5 (.take 6 (.take 7 (.take 8 (.take 9 (.take 10 (.take 11 (.take 12 (.all (.last 13 (.take 14 (.all (.last 15 (.done))))))))))))))))))))) (.reg [0, 2, 3] (.nil)))))
theorem E_slices_Reverse_A_span_work_span_work (x0 : SliceV) (K : Tup [] → Heap → Prop) (h0 : Heap) : F_slices_Reverse_A_span_work_span_work x0 K h0 = sBody PG Tryz.f187 (Tryz.f187.body.getD .skip) A_slices_Reverse_A_span_work_span_work [.slice x0.a x0.len x0.cap] [] K h0 := by kernel_rfl
theorem H_slices_Reverse_A_span_work_span_work (x0 : SliceV) {K : Tup [] → Heap → Prop} {h0 : Heap} (h : F_slices_Reverse_A_span_work_span_work x0 K h0) : HC PG f_slices_Reverse_A_span_work_span_work [.slice x0.a x0.len x0.cap] [] K h0 := HC.intro Tryz.mixed Tryz.func187 rfl Tryz.call187 (Nat.le_of_ble_eq_true rfl) ((E_slices_Reverse_A_span_work_span_work x0 K h0) ▸ h)
/-- strings.HasPrefix -/
def F_strs_HasPrefix (x0 : ByteArray) (x1 : ByteArray) (K : (Bool) → Heap → Prop) (h0 : Heap) : Prop :=
  HC PG f_internal_strslite_HasPrefix [.string x0, .string x1] [.c .bool] (fun (e1 : Bool) h2 =>
   K e1 h2) h0
def A_strs_HasPrefix : Ann := .node (.reg [0, 1] (.nil)) (.node (.reg [4] (.nil)) (.nil))
theorem E_strs_HasPrefix (x0 : ByteArray) (x1 : ByteArray) (K : Tup [.c .bool] → Heap → Prop) (h0 : Heap) : F_strs_HasPrefix x0 x1 K h0 = sBody PG Tryz.f189 (Tryz.f189.body.getD .skip) A_strs_HasPrefix [.string x0, .string x1] [.c .bool] K h0 := by kernel_rfl
theorem H_strs_HasPrefix (x0 : ByteArray) (x1 : ByteArray) {K : Tup [.c .bool] → Heap → Prop} {h0 : Heap} (h : F_strs_HasPrefix x0 x1 K h0) : HC PG f_strs_HasPrefix [.string x0, .string x1] [.c .bool] K h0 := HC.intro Tryz.mixed Tryz.func189 rfl Tryz.call189 (Nat.le_of_ble_eq_true rfl) ((E_strs_HasPrefix x0 x1 K h0) ▸ h)
/-- internal/stringslite.HasPrefix -/
def F_internal_strslite_HasPrefix (x0 : ByteArray) (x1 : ByteArray) (K : (Bool) → Heap → Prop) (h0 : Heap) : Prop :=
  CondP (decide ((x0.size : Int) ≥ (x1.size : Int))) (
   (((0 : Int) ≤ (x1.size : Int) ∧ (x1.size : Int) ≤ ((x0.size : Nat) : Int)) ∧
    K ((x0.extract 0 ((x1.size : Int).toNat)).toList == x1.toList) h0)) (
   K false h0)
def A_internal_strslite_HasPrefix : Ann := .node (.reg [0, 1] (.nil)) (.node (.reg [4] (.nil)) (.nil))
theorem E_internal_strslite_HasPrefix (x0 : ByteArray) (x1 : ByteArray) (K : Tup [.c .bool] → Heap → Prop) (h0 : Heap) : F_internal_strslite_HasPrefix x0 x1 K h0 = sBody PG Tryz.f194 (Tryz.f194.body.getD .skip) A_internal_strslite_HasPrefix [.string x0, .string x1] [.c .bool] K h0 := by kernel_rfl
theorem H_internal_strslite_HasPrefix (x0 : ByteArray) (x1 : ByteArray) {K : Tup [.c .bool] → Heap → Prop} {h0 : Heap} (h : F_internal_strslite_HasPrefix x0 x1 K h0) : HC PG f_internal_strslite_HasPrefix [.string x0, .string x1] [.c .bool] K h0 := HC.intro Tryz.mixed Tryz.func194 rfl Tryz.call194 (Nat.le_of_ble_eq_true rfl) ((E_internal_strslite_HasPrefix x0 x1 K h0) ▸ h)
end Go.Proofs
