/- A part of the proof that the named laws of this program answer true, whatever the input. -/
import Derived.Test.YtjkhbpjhngfpaaaGreatTreeF
set_option maxRecDepth 100000
set_option linter.unusedVariables false
namespace Go.Proofs
open Go.Lift
def F_sip_word (x0 : ByteArray) (K : (Int) → Heap → Prop) (h0 : Heap) : Prop :=
 Join (fun (t41 : Int) h42 =>
 ∃ b43, (0 : Int) ≤ (0 : Int) ∧ x0[(0 : Int).toNat]? = some b43 ∧
 Bd (IntKind.wrap .u64 (BitVec.ofInt (IntKind.bits .u64) t41 ||| BitVec.ofInt (IntKind.bits .u64) (IntKind.wrap .u64 (b43.toNat : Int))).toNat : Int) (fun n44 =>
 K n44 h42)) (fun J1 =>
 Join (fun (t36 : Int) h37 =>
 ∃ b38, (0 : Int) ≤ (1 : Int) ∧ x0[(1 : Int).toNat]? = some b38 ∧
 ((0 : Int) ≤ (8 : Int) ∧
 Bd (IntKind.wrap .u64 ((IntKind.wrap .u64 (b38.toNat : Int)) * 2 ^ (min (8 : Int).toNat (IntKind.bits .u64))) : Int) (fun n39 =>
 Bd (IntKind.wrap .u64 (BitVec.ofInt (IntKind.bits .u64) t36 ||| BitVec.ofInt (IntKind.bits .u64) n39).toNat : Int) (fun n40 =>
 J1 n40 h37)))) (fun J2 =>
 Join (fun (t31 : Int) h32 =>
 ∃ b33, (0 : Int) ≤ (2 : Int) ∧ x0[(2 : Int).toNat]? = some b33 ∧
 ((0 : Int) ≤ (16 : Int) ∧
 Bd (IntKind.wrap .u64 ((IntKind.wrap .u64 (b33.toNat : Int)) * 2 ^ (min (16 : Int).toNat (IntKind.bits .u64))) : Int) (fun n34 =>
 Bd (IntKind.wrap .u64 (BitVec.ofInt (IntKind.bits .u64) t31 ||| BitVec.ofInt (IntKind.bits .u64) n34).toNat : Int) (fun n35 =>
 J2 n35 h32)))) (fun J3 =>
 Join (fun (t26 : Int) h27 =>
 ∃ b28, (0 : Int) ≤ (3 : Int) ∧ x0[(3 : Int).toNat]? = some b28 ∧
 ((0 : Int) ≤ (24 : Int) ∧
 Bd (IntKind.wrap .u64 ((IntKind.wrap .u64 (b28.toNat : Int)) * 2 ^ (min (24 : Int).toNat (IntKind.bits .u64))) : Int) (fun n29 =>
 Bd (IntKind.wrap .u64 (BitVec.ofInt (IntKind.bits .u64) t26 ||| BitVec.ofInt (IntKind.bits .u64) n29).toNat : Int) (fun n30 =>
 J3 n30 h27)))) (fun J4 =>
 Join (fun (t21 : Int) h22 =>
 ∃ b23, (0 : Int) ≤ (4 : Int) ∧ x0[(4 : Int).toNat]? = some b23 ∧
 ((0 : Int) ≤ (32 : Int) ∧
 Bd (IntKind.wrap .u64 ((IntKind.wrap .u64 (b23.toNat : Int)) * 2 ^ (min (32 : Int).toNat (IntKind.bits .u64))) : Int) (fun n24 =>
 Bd (IntKind.wrap .u64 (BitVec.ofInt (IntKind.bits .u64) t21 ||| BitVec.ofInt (IntKind.bits .u64) n24).toNat : Int) (fun n25 =>
 J4 n25 h22)))) (fun J5 =>
 Join (fun (t16 : Int) h17 =>
 ∃ b18, (0 : Int) ≤ (5 : Int) ∧ x0[(5 : Int).toNat]? = some b18 ∧
 ((0 : Int) ≤ (40 : Int) ∧
 Bd (IntKind.wrap .u64 ((IntKind.wrap .u64 (b18.toNat : Int)) * 2 ^ (min (40 : Int).toNat (IntKind.bits .u64))) : Int) (fun n19 =>
 Bd (IntKind.wrap .u64 (BitVec.ofInt (IntKind.bits .u64) t16 ||| BitVec.ofInt (IntKind.bits .u64) n19).toNat : Int) (fun n20 =>
 J5 n20 h17)))) (fun J6 =>
 Join (fun (t11 : Int) h12 =>
 ∃ b13, (0 : Int) ≤ (6 : Int) ∧ x0[(6 : Int).toNat]? = some b13 ∧
 ((0 : Int) ≤ (48 : Int) ∧
 Bd (IntKind.wrap .u64 ((IntKind.wrap .u64 (b13.toNat : Int)) * 2 ^ (min (48 : Int).toNat (IntKind.bits .u64))) : Int) (fun n14 =>
 Bd (IntKind.wrap .u64 (BitVec.ofInt (IntKind.bits .u64) t11 ||| BitVec.ofInt (IntKind.bits .u64) n14).toNat : Int) (fun n15 =>
 J6 n15 h12)))) (fun J7 =>
 CondP ((x0.size : Int) == (8 : Int)) (
 ∃ b8, (0 : Int) ≤ (7 : Int) ∧ x0[(7 : Int).toNat]? = some b8 ∧
 ((0 : Int) ≤ (56 : Int) ∧
 Bd (IntKind.wrap .u64 ((IntKind.wrap .u64 (b8.toNat : Int)) * 2 ^ (min (56 : Int).toNat (IntKind.bits .u64))) : Int) (fun n9 =>
 Bd (IntKind.wrap .u64 (BitVec.ofInt (IntKind.bits .u64) 0 ||| BitVec.ofInt (IntKind.bits .u64) n9).toNat : Int) (fun n10 =>
 J7 n10 h0)))) (
 CondP ((x0.size : Int) == (7 : Int)) (
 J7 0 h0) (
 CondP ((x0.size : Int) == (6 : Int)) (
 J6 0 h0) (
 CondP ((x0.size : Int) == (5 : Int)) (
 J5 0 h0) (
 CondP ((x0.size : Int) == (4 : Int)) (
 J4 0 h0) (
 CondP ((x0.size : Int) == (3 : Int)) (
 J3 0 h0) (
 CondP ((x0.size : Int) == (2 : Int)) (
 J2 0 h0) (
 CondP ((x0.size : Int) == (1 : Int)) (
 J1 0 h0) (
 K 0 h0)))))))))))))))
def A_sip_word : Ann := .node (.reg [0] (.nil)) (.node (.reg [0, 3] (.nil)) (.node (.node (.reg [0, 3, 5] (.nil)) (.join [0] [(3, .c (.int .u64))] (.join [0] [(3, .c (.int .u64))] (.join [0] [(3, .c (.int .u64))] (.join [0] [(3, .c (.int .u64))] (.join [0] [(3, .c (.int .u64))] (.join [0] [(3, .c (.int .u64))] (.join [0] [(3, .c (.int .u64))] (.node (.node (.node (.node (.reg [0, 3, 5, 6] (.nil)) (.nil)) (.node (.node (.reg [0, 3, 5, 8] (.nil)) (.nil)) (.node (.node (.reg [0, 3, 5, 10] (.nil)) (.nil)) (.node (.node (.reg [0, 3, 5, 12] (.nil)) (.nil)) (.node (.node (.reg [0, 3, 5, 14] (.nil)) (.nil)) (.node (.node (.reg [0, 3, 5, 16] (.nil)) (.nil)) (.node (.node (.reg [0, 3, 5, 18] (.nil)) (.nil)) (.node (.reg [0, 3, 20] (.nil)) (.nil))))))))) (.nil)) (.reg [0, 3] (.nil))) (.reg [0, 3] (.nil))) (.reg [0, 3] (.nil))) (.reg [0, 3] (.nil))) (.reg [0, 3] (.nil))) (.reg [0, 3] (.nil))) (.reg [0, 3] (.nil))) (.node (.reg [3] (.nil)) (.nil)))) (.node (.reg [2] (.nil)) (.nil))))
theorem H_sip_word (x0 : ByteArray) {K : Tup [.c (.int .u64)] → Heap → Prop} {h0 : Heap} (h : F_sip_word x0 K h0) : HC PG f_sip_word [.string x0] [.c (.int .u64)] K h0 := HC.intro (an := A_sip_word) (c := Tryz.f96.body.getD .skip) Tryz.mixed Tryz.func96 rfl Tryz.call96 (Nat.le_of_ble_eq_true rfl) (cst (by kernel_rfl) h)
def F_sip_state_rounds (x0 : Option Addr) (x1 : Int) (K : (Unit) → Heap → Prop) (h0 : Heap) : Prop :=
 LoopP (fun I1 (t2 : Int) h3 =>
 CondP (decide (t2 < x1)) (
 ∃ a4, x0 = some a4 ∧
 (((0 : Int) ≤ (0 : Int) ∧ (0 : Int) < ((4 : Nat) : Int)) ∧
 ∃ v5, hcell h3 (adr a4 ((0 : Int).toNat * 1)) = some (.int .u64 v5) ∧
 ∃ a6, x0 = some a6 ∧
 (((0 : Int) ≤ (1 : Int) ∧ (1 : Int) < ((4 : Nat) : Int)) ∧
 ∃ v7, hcell h3 (adr a6 ((1 : Int).toNat * 1)) = some (.int .u64 v7) ∧
 ∃ a8, x0 = some a8 ∧
 (((0 : Int) ≤ (0 : Int) ∧ (0 : Int) < ((4 : Nat) : Int)) ∧
 (Wr h3 (adr a8 ((0 : Int).toNat * 1)) ∧
 At (hset h3 (adr a8 ((0 : Int).toNat * 1)) (.int .u64 (IntKind.wrap .u64 (v5 + v7)))) (fun h9 =>
 ∃ a10, x0 = some a10 ∧
 (((0 : Int) ≤ (1 : Int) ∧ (1 : Int) < ((4 : Nat) : Int)) ∧
 ∃ v11, hcell h9 (adr a10 ((1 : Int).toNat * 1)) = some (.int .u64 v11) ∧
 ∃ a12, x0 = some a12 ∧
 (((0 : Int) ≤ (0 : Int) ∧ (0 : Int) < ((4 : Nat) : Int)) ∧
 ∃ v13, hcell h9 (adr a12 ((0 : Int).toNat * 1)) = some (.int .u64 v13) ∧
 ∃ a14, x0 = some a14 ∧
 HC PG f_math_bits_RotateLeft64 [.int .u64 v11, .int .i64 13] [.c (.int .u64)] (fun (e15 : Int) h16 =>
 (hcell h16 (adr a12 ((0 : Int).toNat * 1)) = some (.int .u64 v13) ∧
 Bd (IntKind.wrap .u64 (BitVec.ofInt (IntKind.bits .u64) e15 ^^^ BitVec.ofInt (IntKind.bits .u64) v13).toNat : Int) (fun n17 =>
 (((0 : Int) ≤ (1 : Int) ∧ (1 : Int) < ((4 : Nat) : Int)) ∧
 (Wr h16 (adr a14 ((1 : Int).toNat * 1)) ∧
 At (hset h16 (adr a14 ((1 : Int).toNat * 1)) (.int .u64 n17)) (fun h18 =>
 ∃ a19, x0 = some a19 ∧
 (((0 : Int) ≤ (0 : Int) ∧ (0 : Int) < ((4 : Nat) : Int)) ∧
 ∃ v20, hcell h18 (adr a19 ((0 : Int).toNat * 1)) = some (.int .u64 v20) ∧
 ∃ a21, x0 = some a21 ∧
 HC PG f_math_bits_RotateLeft64 [.int .u64 v20, .int .i64 32] [.c (.int .u64)] (fun (e22 : Int) h23 =>
 (((0 : Int) ≤ (0 : Int) ∧ (0 : Int) < ((4 : Nat) : Int)) ∧
 (Wr h23 (adr a21 ((0 : Int).toNat * 1)) ∧
 At (hset h23 (adr a21 ((0 : Int).toNat * 1)) (.int .u64 e22)) (fun h24 =>
 ∃ a25, x0 = some a25 ∧
 (((0 : Int) ≤ (2 : Int) ∧ (2 : Int) < ((4 : Nat) : Int)) ∧
 ∃ v26, hcell h24 (adr a25 ((2 : Int).toNat * 1)) = some (.int .u64 v26) ∧
 ∃ a27, x0 = some a27 ∧
 (((0 : Int) ≤ (3 : Int) ∧ (3 : Int) < ((4 : Nat) : Int)) ∧
 ∃ v28, hcell h24 (adr a27 ((3 : Int).toNat * 1)) = some (.int .u64 v28) ∧
 ∃ a29, x0 = some a29 ∧
 (((0 : Int) ≤ (2 : Int) ∧ (2 : Int) < ((4 : Nat) : Int)) ∧
 (Wr h24 (adr a29 ((2 : Int).toNat * 1)) ∧
 At (hset h24 (adr a29 ((2 : Int).toNat * 1)) (.int .u64 (IntKind.wrap .u64 (v26 + v28)))) (fun h30 =>
 ∃ a31, x0 = some a31 ∧
 (((0 : Int) ≤ (3 : Int) ∧ (3 : Int) < ((4 : Nat) : Int)) ∧
 ∃ v32, hcell h30 (adr a31 ((3 : Int).toNat * 1)) = some (.int .u64 v32) ∧
 ∃ a33, x0 = some a33 ∧
 (((0 : Int) ≤ (2 : Int) ∧ (2 : Int) < ((4 : Nat) : Int)) ∧
 ∃ v34, hcell h30 (adr a33 ((2 : Int).toNat * 1)) = some (.int .u64 v34) ∧
 ∃ a35, x0 = some a35 ∧
 HC PG f_math_bits_RotateLeft64 [.int .u64 v32, .int .i64 16] [.c (.int .u64)] (fun (e36 : Int) h37 =>
 (hcell h37 (adr a33 ((2 : Int).toNat * 1)) = some (.int .u64 v34) ∧
 Bd (IntKind.wrap .u64 (BitVec.ofInt (IntKind.bits .u64) e36 ^^^ BitVec.ofInt (IntKind.bits .u64) v34).toNat : Int) (fun n38 =>
 (((0 : Int) ≤ (3 : Int) ∧ (3 : Int) < ((4 : Nat) : Int)) ∧
 (Wr h37 (adr a35 ((3 : Int).toNat * 1)) ∧
 At (hset h37 (adr a35 ((3 : Int).toNat * 1)) (.int .u64 n38)) (fun h39 =>
 ∃ a40, x0 = some a40 ∧
 (((0 : Int) ≤ (0 : Int) ∧ (0 : Int) < ((4 : Nat) : Int)) ∧
 ∃ v41, hcell h39 (adr a40 ((0 : Int).toNat * 1)) = some (.int .u64 v41) ∧
 ∃ a42, x0 = some a42 ∧
 (((0 : Int) ≤ (3 : Int) ∧ (3 : Int) < ((4 : Nat) : Int)) ∧
 ∃ v43, hcell h39 (adr a42 ((3 : Int).toNat * 1)) = some (.int .u64 v43) ∧
 ∃ a44, x0 = some a44 ∧
 (((0 : Int) ≤ (0 : Int) ∧ (0 : Int) < ((4 : Nat) : Int)) ∧
 (Wr h39 (adr a44 ((0 : Int).toNat * 1)) ∧
 At (hset h39 (adr a44 ((0 : Int).toNat * 1)) (.int .u64 (IntKind.wrap .u64 (v41 + v43)))) (fun h45 =>
 ∃ a46, x0 = some a46 ∧
 (((0 : Int) ≤ (3 : Int) ∧ (3 : Int) < ((4 : Nat) : Int)) ∧
 ∃ v47, hcell h45 (adr a46 ((3 : Int).toNat * 1)) = some (.int .u64 v47) ∧
 ∃ a48, x0 = some a48 ∧
 (((0 : Int) ≤ (0 : Int) ∧ (0 : Int) < ((4 : Nat) : Int)) ∧
 ∃ v49, hcell h45 (adr a48 ((0 : Int).toNat * 1)) = some (.int .u64 v49) ∧
 ∃ a50, x0 = some a50 ∧
 HC PG f_math_bits_RotateLeft64 [.int .u64 v47, .int .i64 21] [.c (.int .u64)] (fun (e51 : Int) h52 =>
 (hcell h52 (adr a48 ((0 : Int).toNat * 1)) = some (.int .u64 v49) ∧
 Bd (IntKind.wrap .u64 (BitVec.ofInt (IntKind.bits .u64) e51 ^^^ BitVec.ofInt (IntKind.bits .u64) v49).toNat : Int) (fun n53 =>
 (((0 : Int) ≤ (3 : Int) ∧ (3 : Int) < ((4 : Nat) : Int)) ∧
 (Wr h52 (adr a50 ((3 : Int).toNat * 1)) ∧
 At (hset h52 (adr a50 ((3 : Int).toNat * 1)) (.int .u64 n53)) (fun h54 =>
 ∃ a55, x0 = some a55 ∧
 (((0 : Int) ≤ (2 : Int) ∧ (2 : Int) < ((4 : Nat) : Int)) ∧
 ∃ v56, hcell h54 (adr a55 ((2 : Int).toNat * 1)) = some (.int .u64 v56) ∧
 ∃ a57, x0 = some a57 ∧
 (((0 : Int) ≤ (1 : Int) ∧ (1 : Int) < ((4 : Nat) : Int)) ∧
 ∃ v58, hcell h54 (adr a57 ((1 : Int).toNat * 1)) = some (.int .u64 v58) ∧
 ∃ a59, x0 = some a59 ∧
 (((0 : Int) ≤ (2 : Int) ∧ (2 : Int) < ((4 : Nat) : Int)) ∧
 (Wr h54 (adr a59 ((2 : Int).toNat * 1)) ∧
 At (hset h54 (adr a59 ((2 : Int).toNat * 1)) (.int .u64 (IntKind.wrap .u64 (v56 + v58)))) (fun h60 =>
 ∃ a61, x0 = some a61 ∧
 (((0 : Int) ≤ (1 : Int) ∧ (1 : Int) < ((4 : Nat) : Int)) ∧
 ∃ v62, hcell h60 (adr a61 ((1 : Int).toNat * 1)) = some (.int .u64 v62) ∧
 ∃ a63, x0 = some a63 ∧
 (((0 : Int) ≤ (2 : Int) ∧ (2 : Int) < ((4 : Nat) : Int)) ∧
 ∃ v64, hcell h60 (adr a63 ((2 : Int).toNat * 1)) = some (.int .u64 v64) ∧
 ∃ a65, x0 = some a65 ∧
 HC PG f_math_bits_RotateLeft64 [.int .u64 v62, .int .i64 17] [.c (.int .u64)] (fun (e66 : Int) h67 =>
 (hcell h67 (adr a63 ((2 : Int).toNat * 1)) = some (.int .u64 v64) ∧
 Bd (IntKind.wrap .u64 (BitVec.ofInt (IntKind.bits .u64) e66 ^^^ BitVec.ofInt (IntKind.bits .u64) v64).toNat : Int) (fun n68 =>
 (((0 : Int) ≤ (1 : Int) ∧ (1 : Int) < ((4 : Nat) : Int)) ∧
 (Wr h67 (adr a65 ((1 : Int).toNat * 1)) ∧
 At (hset h67 (adr a65 ((1 : Int).toNat * 1)) (.int .u64 n68)) (fun h69 =>
 ∃ a70, x0 = some a70 ∧
 (((0 : Int) ≤ (2 : Int) ∧ (2 : Int) < ((4 : Nat) : Int)) ∧
 ∃ v71, hcell h69 (adr a70 ((2 : Int).toNat * 1)) = some (.int .u64 v71) ∧
 ∃ a72, x0 = some a72 ∧
 HC PG f_math_bits_RotateLeft64 [.int .u64 v71, .int .i64 32] [.c (.int .u64)] (fun (e73 : Int) h74 =>
 (((0 : Int) ≤ (2 : Int) ∧ (2 : Int) < ((4 : Nat) : Int)) ∧
 (Wr h74 (adr a72 ((2 : Int).toNat * 1)) ∧
 At (hset h74 (adr a72 ((2 : Int).toNat * 1)) (.int .u64 e73)) (fun h75 =>
 I1 (IntKind.wrap .i64 (t2 + 1)) h75)))) h69))))))) h60))))))))))))) h45))))))))))))) h30))))))))))) h18))))))) h9)))))))) (
 K () h3)) 0 h0
def A_sip_state_rounds : Ann := .node (.reg [0, 4, 5] (.nil)) (.loop [0, 4] [(5, .c (.int .i64))] (.node (.reg [0, 4, 5, 6] (.nil)) (.node (.nil) (.node (.node (.reg [0, 4, 5] (.draw [.mk 0 4095 1 128, .mk 1 4094 128 256, .mk 2 4093 256 512, .mk 4 4091 512 1024, .mk 0 4095 1 2048, .mk 16 4079 2048 4096, .mk 32 4063 4096 8192, .mk 64 4031 8192 16384, .mk 136 3959 17408 32768, .mk 1 4094 128 65536, .mk 1023 3583 65536 131072, .mk 1535 2815 163840 0] (.take 0 (.take 1 (.take 2 (.take 3 (.take 4 (.take 5 (.take 6 (.take 7 (.take 8 (.take 9 (.take 10 (.all (.last 11 (.done)))))))))))))))) (.node (.reg [0, 4, 5] (.draw [.mk 0 16383 1 262144, .mk 0 16383 1 524288, .mk 2 16381 524288 1048576, .mk 4 16379 1048576 2097152, .mk 8 16375 2097152 4194304, .mk 16 16367 4194304 8388608, .mk 0 16383 1 16777216, .mk 64 16319 16777216 33554432, .mk 128 16255 33554432 67108864, .mk 256 16127 67108864 134217728, .mk 544 15839 142606336 268435456, .mk 1 16382 262144 536870912, .mk 4095 14335 536870912 1073741824, .mk 6143 11263 1342177280 0] (.take 0 (.take 1 (.take 2 (.take 3 (.take 4 (.take 6 (.take 7 (.take 8 (.take 9 (.take 11 (.all (.last 5 (.take 10 (.take 12 (.all (.last 13 (.done))))))))))))))))))) (.node (.reg [0, 4, 5] (.draw [.mk 0 511 1 2147483648, .mk 0 511 1 4294967296, .mk 2 509 4294967296 8589934592, .mk 4 507 8589934592 17179869184, .mk 8 503 17179869184 34359738368, .mk 16 495 34359738368 68719476736, .mk 1 510 2147483648 137438953472, .mk 127 447 137438953472 274877906944, .mk 191 351 343597383680 0] (.take 0 (.take 1 (.take 2 (.take 3 (.take 4 (.take 6 (.all (.last 5 (.take 7 (.all (.last 8 (.done)))))))))))))) (.node (.reg [0, 4, 5] (.draw [.mk 0 4095 1 549755813888, .mk 1 4094 549755813888 1099511627776, .mk 2 4093 1099511627776 2199023255552, .mk 4 4091 2199023255552 4398046511104, .mk 0 4095 1 8796093022208, .mk 16 4079 8796093022208 17592186044416, .mk 32 4063 17592186044416 35184372088832, .mk 64 4031 35184372088832 70368744177664, .mk 136 3959 74766790688768 140737488355328, .mk 1 4094 549755813888 281474976710656, .mk 1023 3583 281474976710656 562949953421312, .mk 1535 2815 703687441776640 0] (.take 0 (.take 1 (.take 2 (.take 3 (.take 4 (.take 5 (.take 6 (.take 7 (.take 8 (.take 9 (.take 10 (.all (.last 11 (.done)))))))))))))))) (.node (.reg [0, 4, 5] (.draw [.mk 0 16383 1 1125899906842624, .mk 0 16383 1 2251799813685248, .mk 2 16381 2251799813685248 4503599627370496, .mk 4 16379 4503599627370496 9007199254740992, .mk 8 16375 9007199254740992 18014398509481984, .mk 16 16367 18014398509481984 36028797018963968, .mk 0 16383 1 72057594037927936, .mk 64 16319 72057594037927936 144115188075855872, .mk 128 16255 144115188075855872 288230376151711744, .mk 256 16127 288230376151711744 576460752303423488, .mk 544 15839 612489549322387456 1152921504606846976, .mk 1 16382 1125899906842624 2305843009213693952, .mk 4095 14335 2305843009213693952 4611686018427387904, .mk 6143 11263 5764607523034234880 0] (.take 0 (.take 1 (.take 2 (.take 3 (.take 4 (.take 6 (.take 7 (.take 8 (.take 9 (.take 11 (.all (.last 5 (.take 10 (.take 12 (.all (.last 13 (.done))))))))))))))))))) (.node (.reg [0, 4, 5] (.draw [.mk 0 4095 1 9223372036854775808, .mk 1 4094 9223372036854775808 18446744073709551616, .mk 2 4093 18446744073709551616 36893488147419103232, .mk 4 4091 36893488147419103232 73786976294838206464, .mk 0 4095 1 147573952589676412928, .mk 16 4079 147573952589676412928 295147905179352825856, .mk 32 4063 295147905179352825856 590295810358705651712, .mk 64 4031 590295810358705651712 1180591620717411303424, .mk 136 3959 1254378597012249509888 2361183241434822606848, .mk 1 4094 9223372036854775808 4722366482869645213696, .mk 1023 3583 4722366482869645213696 9444732965739290427392, .mk 1535 2815 11805916207174113034240 0] (.take 0 (.take 1 (.take 2 (.take 3 (.take 4 (.take 5 (.take 6 (.take 7 (.take 8 (.take 9 (.take 10 (.all (.last 11 (.done)))))))))))))))) (.node (.reg [0, 4, 5] (.draw [.mk 0 16383 1 18889465931478580854784, .mk 0 16383 1 37778931862957161709568, .mk 2 16381 37778931862957161709568 75557863725914323419136, .mk 4 16379 75557863725914323419136 151115727451828646838272, .mk 8 16375 151115727451828646838272 302231454903657293676544, .mk 16 16367 302231454903657293676544 604462909807314587353088, .mk 0 16383 1 1208925819614629174706176, .mk 64 16319 1208925819614629174706176 2417851639229258349412352, .mk 128 16255 2417851639229258349412352 4835703278458516698824704, .mk 256 16127 4835703278458516698824704 9671406556917033397649408, .mk 544 15839 10275869466724347985002496 19342813113834066795298816, .mk 1 16382 18889465931478580854784 38685626227668133590597632, .mk 4095 14335 38685626227668133590597632 77371252455336267181195264, .mk 6143 11263 96714065569170333976494080 0] (.take 0 (.take 1 (.take 2 (.take 3 (.take 4 (.take 6 (.take 7 (.take 8 (.take 9 (.take 11 (.all (.last 5 (.take 10 (.take 12 (.all (.last 13 (.done))))))))))))))))))) (.node (.reg [0, 4, 5] (.draw [.mk 0 4095 1 154742504910672534362390528, .mk 1 4094 154742504910672534362390528 309485009821345068724781056, .mk 2 4093 309485009821345068724781056 618970019642690137449562112, .mk 4 4091 618970019642690137449562112 1237940039285380274899124224, .mk 0 4095 1 2475880078570760549798248448, .mk 16 4079 2475880078570760549798248448 4951760157141521099596496896, .mk 32 4063 4951760157141521099596496896 9903520314283042199192993792, .mk 64 4031 9903520314283042199192993792 19807040628566084398385987584, .mk 136 3959 21044980667851464673285111808 39614081257132168796771975168, .mk 1 4094 154742504910672534362390528 79228162514264337593543950336, .mk 1023 3583 79228162514264337593543950336 158456325028528675187087900672, .mk 1535 2815 198070406285660843983859875840 0] (.take 0 (.take 1 (.take 2 (.take 3 (.take 4 (.take 5 (.take 6 (.take 7 (.take 8 (.take 9 (.take 10 (.all (.last 11 (.done)))))))))))))))) (.node (.reg [0, 4, 5] (.draw [.mk 0 16383 1 316912650057057350374175801344, .mk 0 16383 1 633825300114114700748351602688, .mk 2 16381 633825300114114700748351602688 1267650600228229401496703205376, .mk 4 16379 1267650600228229401496703205376 2535301200456458802993406410752, .mk 8 16375 2535301200456458802993406410752 5070602400912917605986812821504, .mk 16 16367 5070602400912917605986812821504 10141204801825835211973625643008, .mk 0 16383 1 20282409603651670423947251286016, .mk 64 16319 20282409603651670423947251286016 40564819207303340847894502572032, .mk 128 16255 40564819207303340847894502572032 81129638414606681695789005144064, .mk 256 16127 81129638414606681695789005144064 162259276829213363391578010288128, .mk 544 15839 172400481631039198603551635931136 324518553658426726783156020576256, .mk 1 16382 316912650057057350374175801344 649037107316853453566312041152512, .mk 4095 14335 649037107316853453566312041152512 1298074214633706907132624082305024, .mk 6143 11263 1622592768292133633915780102881280 0] (.take 0 (.take 1 (.take 2 (.take 3 (.take 4 (.take 6 (.take 7 (.take 8 (.take 9 (.take 11 (.all (.last 5 (.take 10 (.take 12 (.all (.last 13 (.done))))))))))))))))))) (.reg [0, 4, 5] (.draw [.mk 0 511 1 2596148429267413814265248164610048, .mk 0 511 1 5192296858534827628530496329220096, .mk 2 509 5192296858534827628530496329220096 10384593717069655257060992658440192, .mk 4 507 10384593717069655257060992658440192 20769187434139310514121985316880384, .mk 8 503 20769187434139310514121985316880384 41538374868278621028243970633760768, .mk 16 495 41538374868278621028243970633760768 83076749736557242056487941267521536, .mk 1 510 2596148429267413814265248164610048 166153499473114484112975882535043072, .mk 127 447 166153499473114484112975882535043072 332306998946228968225951765070086144, .mk 191 351 415383748682786210282439706337607680 0] (.take 0 (.take 1 (.take 2 (.take 3 (.take 4 (.take 6 (.all (.last 5 (.take 7 (.all (.last 8 (.done))))))))))))))))))))))) (.reg [0, 4, 5] (.nil))))))
theorem H_sip_state_rounds (x0 : Option Addr) (x1 : Int) {K : Tup [] → Heap → Prop} {h0 : Heap} (h : F_sip_state_rounds x0 x1 K h0) : HC PG f_sip_state_rounds [.pointer x0, .int .i64 x1] [] K h0 := HC.intro (an := A_sip_state_rounds) (c := Tryz.f97.body.getD .skip) Tryz.mixed Tryz.func97 rfl Tryz.call97 (Nat.le_of_ble_eq_true rfl) (cst (by kernel_rfl) h)
def F_node_Node_IsBucket (x0 : Option Addr) (K : (Bool) → Heap → Prop) (h0 : Heap) : Prop :=
 CondP (!(x0.isNone)) (
 ∃ a1, x0 = some a1 ∧
 ∃ v2, hcell h0 (adr a1 4) = some (.bool v2) ∧
 K v2 h0) (
 K false h0)
def A_node_Node_IsBucket : Ann := .node (.reg [0] (.nil)) (.node (.reg [2] (.nil)) (.nil))
theorem H_node_Node_IsBucket (x0 : Option Addr) {K : Tup [.c .bool] → Heap → Prop} {h0 : Heap} (h : F_node_Node_IsBucket x0 K h0) : HC PG f_node_Node_IsBucket [.pointer x0] [.c .bool] K h0 := HC.intro (an := A_node_Node_IsBucket) (c := Tryz.f98.body.getD .skip) Tryz.mixed Tryz.func98 rfl Tryz.call98 (Nat.le_of_ble_eq_true rfl) (cst (by kernel_rfl) h)
def F_node_Node_own (x0 : Option Addr) (x1 : Option Addr) (K : (Option Addr) → Heap → Prop) (h0 : Heap) : Prop :=
 HC PG f_node_Node_Owned [.pointer x0, .pointer x1] [.c .bool] (fun (e1 : Bool) h2 =>
 CondP e1 (
 K x0 h2) (
 ∃ a3, x0 = some a3 ∧
 ∃ v4, hcell h2 (adr a3 0) = some (.int .u32 v4) ∧
 ∃ v5, hcell h2 (adr a3 1) = some (.int .u32 v5) ∧
 ∃ v6 : SliceV, hcell h2 (adr a3 2) = some (.slice v6.a v6.len v6.cap) ∧
 ∃ v7 : SliceV, hcell h2 (adr a3 3) = some (.slice v7.a v7.len v7.cap) ∧
 ∃ v8, hcell h2 (adr a3 4) = some (.bool v8) ∧
 ∃ v9, hcell h2 (adr a3 5) = some (.pointer v9) ∧
 At (hnew h2 [.int .u32 0, .int .u32 0, .slice none 0 0, .slice none 0 0, .bool false, .pointer none] t_node_Node) (fun h10 =>
 (WrS h10 (some (newA h2)) 0 [.int .u32 v4, .int .u32 v5, .slice v6.a v6.len v6.cap, .slice v7.a v7.len v7.cap, .bool v8, .pointer v9] ∧
 At (hsetL h10 (newA h2) 0 [.int .u32 v4, .int .u32 v5, .slice v6.a v6.len v6.cap, .slice v7.a v7.len v7.cap, .bool v8, .pointer v9]) (fun h11 =>
 ∃ a12, x0 = some a12 ∧
 ∃ v13 : SliceV, hcell h11 (adr (adr a12 0) 2) = some (.slice v13.a v13.len v13.cap) ∧
 ∃ a14, x0 = some a14 ∧
 ∃ v15 : SliceV, hcell h11 (adr (adr a14 0) 3) = some (.slice v15.a v15.len v15.cap) ∧
 HC PG f_slices_Clone_A_pair_Pair_pair_Pair [.slice v13.a v13.len v13.cap] [.c .slice] (fun (e16 : SliceV) h17 =>
 (hcell h17 (adr (adr a14 0) 3) = some (.slice v15.a v15.len v15.cap) ∧
 HC PG f_slices_Clone_A_P_node_Node_P_node_Node [.slice v15.a v15.len v15.cap] [.c .slice] (fun (e18 : SliceV) h19 =>
 (Wr h19 (adr (adr (newA h2) 0) 2) ∧
 At (hset h19 (adr (adr (newA h2) 0) 2) (.slice e16.a e16.len e16.cap)) (fun h20 =>
 (Wr h20 (adr (adr (newA h2) 0) 3) ∧
 At (hset h20 (adr (adr (newA h2) 0) 3) (.slice e18.a e18.len e18.cap)) (fun h21 =>
 (Wr h21 (adr (newA h2) 5) ∧
 At (hset h21 (adr (newA h2) 5) (.pointer none)) (fun h22 =>
 HC PG f_token_Token_Live [.pointer x1] [.c .bool] (fun (e23 : Bool) h24 =>
 CondP e23 (
 (Wr h24 (adr (newA h2) 5) ∧
 At (hset h24 (adr (newA h2) 5) (.pointer x1)) (fun h25 =>
 K (some (newA h2)) h25))) (
 K (some (newA h2)) h24)) h22))))))) h17)) h11))))) h0
def A_node_Node_own : Ann := .node (.reg [0, 1] (.nil)) (.node (.node (.reg [0, 1, 8] (.nil)) (.node (.node (.reg [4] (.nil)) (.nil)) (.nil))) (.node (.reg [0, 1, 5] (.nil)) (.node (.reg [1, 5] (.draw [.mk 0 262143 1 8192, .mk 1 262142 8192 16384, .mk 2 262141 16384 32768, .mk 4 262139 32768 65536, .mk 8 262135 65536 131072, .mk 16 262127 131072 262144, .mk 0 262143 1 524288, .mk 64 262079 524288 1048576, .mk 128 262015 1048576 2097152, .mk 256 261887 2097152 4194304, .mk 512 261631 4194304 8388608, .mk 1056 261119 8388608 16777216, .mk 3135 262143 32 33554432, .mk 7231 258047 33554432 67108864, .mk 11327 253919 67371008 0, .mk 32767 262143 32 134217728, .mk 65535 229375 134217728 268435456, .mk 98303 194559 285212672 0] (.take 0 (.take 1 (.take 2 (.take 3 (.take 4 (.take 6 (.take 7 (.take 8 (.take 9 (.take 10 (.all (.last 5 (.all (.last 11 (.take 12 (.take 13 (.all (.last 14 (.take 15 (.take 16 (.all (.last 17 (.done))))))))))))))))))))))))) (.node (.reg [1, 5] (.nil)) (.node (.node (.reg [1, 5, 31] (.nil)) (.node (.reg [5] (.nil)) (.nil))) (.node (.reg [4] (.nil)) (.nil)))))))
theorem H_node_Node_own (x0 : Option Addr) (x1 : Option Addr) {K : Tup [.c .ptr] → Heap → Prop} {h0 : Heap} (h : F_node_Node_own x0 x1 K h0) : HC PG f_node_Node_own [.pointer x0, .pointer x1] [.c .ptr] K h0 := HC.intro (an := A_node_Node_own) (c := Tryz.f99.body.getD .skip) Tryz.mixed Tryz.func99 rfl Tryz.call99 (Nat.le_of_ble_eq_true rfl) (cst (by kernel_rfl) h)
def F_pair_Put (x0 : SliceV) (x1 : ByteArray × ByteArray) (K : (SliceV) → Heap → Prop) (h0 : Heap) : Prop :=
 At (hnew h0 [.string x1.1, .string x1.2] t_pair_Pair) (fun h1 =>
 ∃ v2, hcell h1 (adr (newA h0) 0) = some (.string v2) ∧
 HC PG f_pair_Find [.slice x0.a x0.len x0.cap, .string v2] [.c (.int .i64), .c .bool] (fun (e3 : Int × Bool) h4 =>
 (((0 : Int) ≤ e3.1 ∧ e3.1 ≤ ((x0.len : Nat) : Int)) ∧
 Join (fun (t9 : SliceV) h10 =>
 (((0 : Int) ≤ e3.1 ∧ e3.1 ≤ ((x0.cap : Nat) : Int)) ∧
 ∃ v11, hcell h10 (adr (newA h0) 0) = some (.string v11) ∧
 ∃ v12, hcell h10 (adr (newA h0) 1) = some (.string v12) ∧
 At (hnew h10 [.string v11, .string v12] t_pair_Pair) (fun h13 =>
 At (hnew h13 [.slice (subAddr x0.a 0 x0.cap 2) (e3.1.toNat - 0) (x0.cap - 0), .slice (some (newA h10)) 1 1, .slice t9.a t9.len t9.cap] t_A_pair_Pair) (fun h14 =>
 HC PG f_slices_Concat_A_pair_Pair_pair_Pair [.slice (some (newA h13)) 3 3] [.c .slice] (fun (e15 : SliceV) h16 =>
 K e15 h16) h14)))) (fun J5 =>
 CondP e3.2 (
 (((0 : Int) ≤ (IntKind.wrap .i64 (e3.1 + 1)) ∧ (IntKind.wrap .i64 (e3.1 + 1)) ≤ ((x0.len : Nat) : Int)) ∧
 Bd (subAddr x0.a ((IntKind.wrap .i64 (e3.1 + 1)).toNat) x0.cap 2 : Option Addr) (fun a6 => Bd (x0.len - ((IntKind.wrap .i64 (e3.1 + 1)).toNat) : Nat) (fun n7 => Bd (x0.cap - ((IntKind.wrap .i64 (e3.1 + 1)).toNat) : Nat) (fun n8 =>
 J5 ⟨a6, n7, n8⟩ h4))))) (
 J5 ⟨subAddr x0.a e3.1.toNat x0.cap 2, x0.len - e3.1.toNat, x0.cap - e3.1.toNat⟩ h4)))) h1)
def A_pair_Put : Ann := .node (.reg [0, 3] (.nil)) (.node (.reg [0, 3, 5, 6] (.nil)) (.node (.reg [0, 3, 5, 6, 7] (.nil)) (.join [0, 3, 5] [(7, .c .slice)] (.node (.reg [0, 3, 5, 7, 18] (.nil)) (.node (.reg [0, 3, 5, 7] (.nil)) (.nil))) (.node (.reg [4] (.draw [.mk 0 511 1 8388608, .mk 0 511 32 16777216, .mk 3 508 25165824 33554432, .mk 0 511 8 67108864, .mk 8 503 67108864 134217728, .mk 0 511 128 268435456, .mk 52 459 436207616 536870912, .mk 64 447 536870912 1073741824, .mk 255 383 1073741824 16] (.take 0 (.take 1 (.take 2 (.take 3 (.take 5 (.all (.last 4 (.all (.last 6 (.all (.last 7 (.take 8 (.done))))))))))))))) (.nil)))))
theorem H_pair_Put (x0 : SliceV) (x1 : ByteArray × ByteArray) {K : Tup [.c .slice] → Heap → Prop} {h0 : Heap} (h : F_pair_Put x0 x1 K h0) : HC PG f_pair_Put [.slice x0.a x0.len x0.cap, .agg #[.string x1.1, .string x1.2]] [.c .slice] K h0 := HC.intro (an := A_pair_Put) (c := Tryz.f100.body.getD .skip) Tryz.mixed Tryz.func100 rfl Tryz.call100 (Nat.le_of_ble_eq_true rfl) (cst (by kernel_rfl) h)
def F_slices_stableCmpFunc_build_hashed (x0 : SliceV) (x1 : Int) (x2 : Value) (K : (Unit) → Heap → Prop) (h0 : Heap) : Prop :=
 LoopP (fun I1 (t2 : Int × Int) h3 =>
 CondP (decide (t2.2 ≤ x1)) (
 HC PG f_slices_insertionSortCmpFunc_build_hashed [.slice x0.a x0.len x0.cap, .int .i64 t2.1, .int .i64 t2.2, x2] [] (fun (e4 : Unit) h5 =>
 I1 (t2.2, IntKind.wrap .i64 (t2.2 + 20)) h5) h3) (
 HC PG f_slices_insertionSortCmpFunc_build_hashed [.slice x0.a x0.len x0.cap, .int .i64 t2.1, .int .i64 x1, x2] [] (fun (e6 : Unit) h7 =>
 LoopP (fun I8 (t9 : Int) h10 =>
 CondP (decide (t9 < x1)) (
 LoopP (fun I11 (t12 : Int × Int) h13 =>
 CondP (decide (t12.2 ≤ x1)) (
 HC PG f_slices_symMergeCmpFunc_build_hashed [.slice x0.a x0.len x0.cap, .int .i64 t12.1, .int .i64 (IntKind.wrap .i64 (t12.1 + t9)), .int .i64 t12.2, x2] [] (fun (e14 : Unit) h15 =>
 I11 (t12.2, IntKind.wrap .i64 (t12.2 + (IntKind.wrap .i64 (2 * t9)))) h15) h13) (
 Join (fun (t19 : Unit) h20 =>
 I8 (IntKind.wrap .i64 (t9 * 2)) h20) (fun J16 =>
 CondP (decide ((IntKind.wrap .i64 (t12.1 + t9)) < x1)) (
 HC PG f_slices_symMergeCmpFunc_build_hashed [.slice x0.a x0.len x0.cap, .int .i64 t12.1, .int .i64 (IntKind.wrap .i64 (t12.1 + t9)), .int .i64 x1, x2] [] (fun (e17 : Unit) h18 =>
 J16 () h18) h13) (
 J16 () h13)))) (0, IntKind.wrap .i64 (2 * t9)) h10) (
 K () h10)) 20 h7) h3)) (0, 20) h0
def A_slices_stableCmpFunc_build_hashed : Ann := .node (.reg [0, 1, 2, 6] (.nil)) (.node (.reg [0, 1, 2, 6, 7, 8] (.nil)) (.node (.loop [0, 1, 2, 6] [(7, .c (.int .i64)), (8, .c (.int .i64))] (.node (.node (.reg [0, 1, 2, 6, 7, 8, 13] (.nil)) (.nil)) (.node (.reg [0, 1, 2, 6, 8] (.nil)) (.node (.reg [0, 1, 2, 6, 7, 8] (.nil)) (.reg [0, 1, 2, 6, 7, 8] (.nil)))))) (.node (.reg [0, 1, 2, 6] (.nil)) (.loop [0, 1, 2] [(6, .c (.int .i64))] (.node (.node (.reg [0, 1, 2, 6, 30] (.nil)) (.nil)) (.node (.reg [0, 1, 2, 6, 7, 8] (.nil)) (.node (.loop [0, 1, 2, 6] [(7, .c (.int .i64)), (8, .c (.int .i64))] (.node (.node (.reg [0, 1, 2, 6, 7, 8, 35] (.nil)) (.nil)) (.node (.reg [0, 1, 2, 6, 8] (.nil)) (.node (.reg [0, 1, 2, 6, 7, 8] (.nil)) (.reg [0, 1, 2, 6, 7, 8] (.nil)))))) (.join [0, 1, 2, 6] [] (.node (.reg [0, 1, 2, 6, 7, 9] (.nil)) (.node (.reg [0, 1, 2, 6, 7, 9, 54] (.nil)) (.node (.reg [0, 1, 2, 6] (.nil)) (.nil)))) (.reg [0, 1, 2, 6] (.nil))))))))))
theorem H_slices_stableCmpFunc_build_hashed (x0 : SliceV) (x1 : Int) (x2 : Value) {K : Tup [] → Heap → Prop} {h0 : Heap} (h : F_slices_stableCmpFunc_build_hashed x0 x1 x2 K h0) : HC PG f_slices_stableCmpFunc_build_hashed [.slice x0.a x0.len x0.cap, .int .i64 x1, x2] [] K h0 := HC.intro (an := A_slices_stableCmpFunc_build_hashed) (c := Tryz.f101.body.getD .skip) Tryz.mixed Tryz.func101 rfl Tryz.call101 (Nat.le_of_ble_eq_true rfl) (cst (by kernel_rfl) h)
def F_cmp_isNaN_int (x0 : Int) (K : (Bool) → Heap → Prop) (h0 : Heap) : Prop :=
 K (x0 != x0) h0
def A_cmp_isNaN_int : Ann := .node (.reg [0] (.nil)) (.node (.reg [2] (.nil)) (.nil))
theorem H_cmp_isNaN_int (x0 : Int) {K : Tup [.c .bool] → Heap → Prop} {h0 : Heap} (h : F_cmp_isNaN_int x0 K h0) : HC PG f_cmp_isNaN_int [.int .i64 x0] [.c .bool] K h0 := HC.intro (an := A_cmp_isNaN_int) (c := Tryz.f102.body.getD .skip) Tryz.mixed Tryz.func102 rfl Tryz.call102 (Nat.le_of_ble_eq_true rfl) (cst (by kernel_rfl) h)
def F_node_Node_inner (x0 : Option Addr) (x1 : Int) (K : (Bool) → Heap → Prop) (h0 : Heap) : Prop :=
 CondP (!(x0.isNone)) (
 ∃ a1, x0 = some a1 ∧
 ∃ v2, hcell h0 (adr a1 4) = some (.bool v2) ∧
 CondP (!v2) (
 CondP (decide (x1 ≥ (0 : Int))) (
 K (decide (x1 < (32 : Int))) h0) (
 K false h0)) (
 K false h0)) (
 K false h0)
def A_node_Node_inner : Ann := .node (.reg [0, 1] (.nil)) (.node (.reg [4] (.nil)) (.nil))
theorem H_node_Node_inner (x0 : Option Addr) (x1 : Int) {K : Tup [.c .bool] → Heap → Prop} {h0 : Heap} (h : F_node_Node_inner x0 x1 K h0) : HC PG f_node_Node_inner [.pointer x0, .int .i64 x1] [.c .bool] K h0 := HC.intro (an := A_node_Node_inner) (c := Tryz.f103.body.getD .skip) Tryz.mixed Tryz.func103 rfl Tryz.call103 (Nat.le_of_ble_eq_true rfl) (cst (by kernel_rfl) h)
def F_chunk_Bits_Has (x0 : Int) (x1 : Int) (K : (Bool) → Heap → Prop) (h0 : Heap) : Prop :=
 HC PG f_chunk_right [.int .i64 x1] [.c .bool] (fun (e1 : Bool) h2 =>
 CondP e1 (
 ((0 : Int) ≤ x1 ∧
 Bd (IntKind.wrap .u32 (BitVec.ofInt (IntKind.bits .u32) (Int.fdiv x0 (2 ^ (min (x1 : Int).toNat (IntKind.bits .u32)))) &&& BitVec.ofInt (IntKind.bits .u32) 1).toNat : Int) (fun n3 =>
 K (n3 == (1 : Int)) h2))) (
 K false h2)) h0
def A_chunk_Bits_Has : Ann := .node (.reg [0, 1] (.nil)) (.node (.reg [4] (.nil)) (.nil))
theorem H_chunk_Bits_Has (x0 : Int) (x1 : Int) {K : Tup [.c .bool] → Heap → Prop} {h0 : Heap} (h : F_chunk_Bits_Has x0 x1 K h0) : HC PG f_chunk_Bits_Has [.int .u32 x0, .int .i64 x1] [.c .bool] K h0 := HC.intro (an := A_chunk_Bits_Has) (c := Tryz.f104.body.getD .skip) Tryz.mixed Tryz.func104 rfl Tryz.call104 (Nat.le_of_ble_eq_true rfl) (cst (by kernel_rfl) h)
def F_chunk_Bits_Rank (x0 : Int) (x1 : Int) (K : (Int) → Heap → Prop) (h0 : Heap) : Prop :=
 CondP (decide (x1 ≤ (0 : Int))) (
 K 0 h0) (
 CondP (decide (x1 ≥ (32 : Int))) (
 HC PG f_chunk_Bits_Count [.int .u32 x0] [.c (.int .i64)] (fun (e1 : Int) h2 =>
 K e1 h2) h0) (
 ((0 : Int) ≤ x1 ∧
 Bd (IntKind.wrap .u32 ((IntKind.wrap .u32 (1 * 2 ^ (min (x1 : Int).toNat (IntKind.bits .u32)))) - 1) : Int) (fun n3 =>
 Bd (IntKind.wrap .u32 (BitVec.ofInt (IntKind.bits .u32) x0 &&& BitVec.ofInt (IntKind.bits .u32) n3).toNat : Int) (fun n4 =>
 HC PG f_chunk_Bits_Count [.int .u32 n4] [.c (.int .i64)] (fun (e5 : Int) h6 =>
 K e5 h6) h0)))))
def A_chunk_Bits_Rank : Ann := .node (.reg [0, 1] (.nil)) (.node (.node (.reg [0, 1, 5] (.nil)) (.node (.node (.reg [4] (.nil)) (.nil)) (.node (.reg [0, 1, 8] (.nil)) (.node (.node (.reg [4] (.nil)) (.nil)) (.nil))))) (.node (.reg [4] (.nil)) (.nil)))
theorem H_chunk_Bits_Rank (x0 : Int) (x1 : Int) {K : Tup [.c (.int .i64)] → Heap → Prop} {h0 : Heap} (h : F_chunk_Bits_Rank x0 x1 K h0) : HC PG f_chunk_Bits_Rank [.int .u32 x0, .int .i64 x1] [.c (.int .i64)] K h0 := HC.intro (an := A_chunk_Bits_Rank) (c := Tryz.f105.body.getD .skip) Tryz.mixed Tryz.func105 rfl Tryz.call105 (Nat.le_of_ble_eq_true rfl) (cst (by kernel_rfl) h)
def F_node_slots_drop (x0 : Option Addr) (x1 : Int) (K : (Unit) → Heap → Prop) (h0 : Heap) : Prop :=
 Join (fun (t16 : Unit) h17 =>
 Join (fun (t33 : Unit) h34 =>
 ∃ a35, x0 = some a35 ∧
 ∃ v36, hcell h34 (adr a35 0) = some (.int .u32 v36) ∧
 ∃ a37, x0 = some a37 ∧
 ∃ v38, hcell h34 (adr a37 1) = some (.int .u32 v38) ∧
 HC PG f_chunk_Bits_Without [.int .u32 v36, .int .i64 x1] [.c (.int .u32)] (fun (e39 : Int) h40 =>
 (hcell h40 (adr a37 1) = some (.int .u32 v38) ∧
 HC PG f_chunk_Bits_Without [.int .u32 v38, .int .i64 x1] [.c (.int .u32)] (fun (e41 : Int) h42 =>
 ∃ a43, x0 = some a43 ∧
 (Wr h42 (adr a43 0) ∧
 At (hset h42 (adr a43 0) (.int .u32 e39)) (fun h44 =>
 ∃ a45, x0 = some a45 ∧
 (Wr h44 (adr a45 1) ∧
 At (hset h44 (adr a45 1) (.int .u32 e41)) (fun h46 =>
 K () h46))))) h40)) h34) (fun J18 =>
 ∃ a19, x0 = some a19 ∧
 ∃ v20, hcell h17 (adr a19 1) = some (.int .u32 v20) ∧
 HC PG f_chunk_Bits_Has [.int .u32 v20, .int .i64 x1] [.c .bool] (fun (e21 : Bool) h22 =>
 CondP e21 (
 ∃ a23, x0 = some a23 ∧
 ∃ v24, hcell h22 (adr a23 1) = some (.int .u32 v24) ∧
 HC PG f_chunk_Bits_Rank [.int .u32 v24, .int .i64 x1] [.c (.int .i64)] (fun (e25 : Int) h26 =>
 ∃ a27, x0 = some a27 ∧
 ∃ v28 : SliceV, hcell h26 (adr a27 3) = some (.slice v28.a v28.len v28.cap) ∧
 HC PG f_slices_Delete_A_P_node_Node_P_node_Node [.slice v28.a v28.len v28.cap, .int .i64 e25, .int .i64 (IntKind.wrap .i64 (e25 + 1))] [.c .slice] (fun (e29 : SliceV) h30 =>
 ∃ a31, x0 = some a31 ∧
 (Wr h30 (adr a31 3) ∧
 At (hset h30 (adr a31 3) (.slice e29.a e29.len e29.cap)) (fun h32 =>
 J18 () h32))) h26) h22) (
 J18 () h22)) h17)) (fun J1 =>
 ∃ a2, x0 = some a2 ∧
 ∃ v3, hcell h0 (adr a2 0) = some (.int .u32 v3) ∧
 HC PG f_chunk_Bits_Has [.int .u32 v3, .int .i64 x1] [.c .bool] (fun (e4 : Bool) h5 =>
 CondP e4 (
 ∃ a6, x0 = some a6 ∧
 ∃ v7, hcell h5 (adr a6 0) = some (.int .u32 v7) ∧
 HC PG f_chunk_Bits_Rank [.int .u32 v7, .int .i64 x1] [.c (.int .i64)] (fun (e8 : Int) h9 =>
 ∃ a10, x0 = some a10 ∧
 ∃ v11 : SliceV, hcell h9 (adr a10 2) = some (.slice v11.a v11.len v11.cap) ∧
 HC PG f_slices_Delete_A_pair_Pair_pair_Pair [.slice v11.a v11.len v11.cap, .int .i64 e8, .int .i64 (IntKind.wrap .i64 (e8 + 1))] [.c .slice] (fun (e12 : SliceV) h13 =>
 ∃ a14, x0 = some a14 ∧
 (Wr h13 (adr a14 2) ∧
 At (hset h13 (adr a14 2) (.slice e12.a e12.len e12.cap)) (fun h15 =>
 J1 () h15))) h9) h5) (
 J1 () h5)) h0)
def A_node_slots_drop : Ann := .join [0, 1] [] (.node (.reg [0, 1, 11] (.nil)) (.node (.node (.reg [0, 1, 4] (.nil)) (.reg [0, 1] (.nil))) (.nil))) (.join [0, 1] [] (.node (.reg [0, 1, 34] (.nil)) (.node (.node (.reg [0, 1, 5] (.nil)) (.reg [0, 1] (.nil))) (.nil))) (.reg [] (.draw [.mk 0 1048575 1 4503599627370496, .mk 0 1048575 1 9007199254740992, .mk 0 1048575 1 18014398509481984, .mk 4 1048571 18014398509481984 36028797018963968, .mk 8 1048567 36028797018963968 72057594037927936, .mk 16 1048559 72057594037927936 144115188075855872, .mk 0 1048575 2 288230376151711744, .mk 96 1048479 432345564227567616 576460752303423488, .mk 0 1048575 1 1152921504606846976, .mk 256 1048319 1152921504606846976 2305843009213693952, .mk 512 1048063 2305843009213693952 4611686018427387904, .mk 1024 1047551 4611686018427387904 9223372036854775808, .mk 0 1048575 2 18446744073709551616, .mk 6272 1042431 27670116110564327424 36893488147419103232, .mk 10493 1048574 4503599627370496 73786976294838206464, .mk 26877 1032191 73786976294838206464 147573952589676412928, .mk 43261 1015679 148150413341979836416 0, .mk 131071 1048573 9007199254740992 295147905179352825856, .mk 262143 917503 295147905179352825856 590295810358705651712, .mk 393215 778239 627189298506124754944 0] (.take 0 (.take 1 (.take 2 (.take 3 (.take 4 (.take 5 (.take 6 (.take 8 (.take 9 (.take 10 (.take 11 (.take 12 (.all (.last 7 (.all (.last 13 (.take 14 (.take 15 (.all (.last 16 (.take 17 (.take 18 (.all (.last 19 (.done))))))))))))))))))))))))))))
theorem H_node_slots_drop (x0 : Option Addr) (x1 : Int) {K : Tup [] → Heap → Prop} {h0 : Heap} (h : F_node_slots_drop x0 x1 K h0) : HC PG f_node_slots_drop [.pointer x0, .int .i64 x1] [] K h0 := HC.intro (an := A_node_slots_drop) (c := Tryz.f106.body.getD .skip) Tryz.mixed Tryz.func106 rfl Tryz.call106 (Nat.le_of_ble_eq_true rfl) (cst (by kernel_rfl) h)
def F_slices_Insert_A_pair_Pair_pair_Pair (x0 : SliceV) (x1 : Int) (x2 : SliceV) (K : (SliceV) → Heap → Prop) (h0 : Heap) : Prop :=
 (((0 : Int) ≤ x1 ∧ x1 ≤ ((x0.len : Nat) : Int)) ∧
 CondP ((x2.len : Int) == (0 : Int)) (
 K x0 h0) (
 CondP (x1 == (x0.len : Int)) (
 ∃ xs1, SRow h0 x2.a (x2.len * 2) xs1 ∧
 AppP (some [.string (⟨#[]⟩ : ByteArray), .string (⟨#[]⟩ : ByteArray)]) 2 32 t_pair_Pair x0.a x0.len x0.cap x2.len xs1 h0 (fun s2 h3 =>
 K s2 h3)) (
 CondP (decide ((IntKind.wrap .i64 ((x0.len : Int) + (x2.len : Int))) > (x0.cap : Int))) (
 Join (fun (t8 : SliceV) h9 =>
 (((0 : Int) ≤ x1 ∧ x1 ≤ ((t8.len : Nat) : Int)) ∧
 ∃ xs10, SRow h9 x2.a (Nat.min x2.len (t8.len - x1.toNat) * 2) xs10 ∧ WrS h9 (subAddr t8.a x1.toNat t8.cap 2) 0 xs10 ∧ oneCell xs10 = true ∧
 At (hsetS h9 (subAddr t8.a x1.toNat t8.cap 2) 0 xs10) (fun h11 =>
 (((0 : Int) ≤ (IntKind.wrap .i64 (x1 + (x2.len : Int))) ∧ (IntKind.wrap .i64 (x1 + (x2.len : Int))) ≤ ((t8.len : Nat) : Int)) ∧
 Bd (subAddr t8.a ((IntKind.wrap .i64 (x1 + (x2.len : Int))).toNat) t8.cap 2 : Option Addr) (fun a12 => Bd (t8.len - ((IntKind.wrap .i64 (x1 + (x2.len : Int))).toNat) : Nat) (fun n13 => Bd (t8.cap - ((IntKind.wrap .i64 (x1 + (x2.len : Int))).toNat) : Nat) (fun n14 =>
 (((0 : Int) ≤ x1 ∧ x1 ≤ ((x0.len : Nat) : Int)) ∧
 ∃ xs15, SRow h11 (subAddr x0.a x1.toNat x0.cap 2) (Nat.min (x0.len - x1.toNat) n13 * 2) xs15 ∧ WrS h11 a12 0 xs15 ∧ oneCell xs15 = true ∧
 At (hsetS h11 a12 0 xs15) (fun h16 =>
 K t8 h16))))))))) (fun J4 =>
 (((0 : Int) ≤ x1 ∧ x1 ≤ ((x0.cap : Nat) : Int)) ∧
 Bd (IntKind.wrap .i64 ((IntKind.wrap .i64 ((x0.len : Int) + (x2.len : Int))) - x1) : Int) (fun n5 =>
 (((0 : Int) ≤ n5 ∧ n5 * ((32 : Nat) : Int) ≤ 2 ^ 48 ∧ n5 ≤ 9223372036854775807 ∧ (((x1.toNat - 0) + n5.toNat : Nat) : Int) ≤ 9223372036854775807) ∧
 AppP (some [.string (⟨#[]⟩ : ByteArray), .string (⟨#[]⟩ : ByteArray)]) 2 32 t_pair_Pair (subAddr x0.a 0 x0.cap 2) (x1.toNat - 0) (x0.cap - 0) n5.toNat (zrow n5.toNat [.string (⟨#[]⟩ : ByteArray), .string (⟨#[]⟩ : ByteArray)]) h0 (fun s6 h7 =>
 J4 s6 h7)))))) (
 (((0 : Int) ≤ (IntKind.wrap .i64 ((x0.len : Int) + (x2.len : Int))) ∧ (IntKind.wrap .i64 ((x0.len : Int) + (x2.len : Int))) ≤ ((x0.cap : Nat) : Int)) ∧
 Bd (subAddr x0.a 0 x0.cap 2 : Option Addr) (fun a17 => Bd (((IntKind.wrap .i64 ((x0.len : Int) + (x2.len : Int))).toNat) - 0 : Nat) (fun n18 => Bd (x0.cap - 0 : Nat) (fun n19 =>
 (((0 : Int) ≤ (IntKind.wrap .i64 (x1 + (x2.len : Int))) ∧ (IntKind.wrap .i64 (x1 + (x2.len : Int))) ≤ ((n18 : Nat) : Int)) ∧
 Bd (subAddr a17 ((IntKind.wrap .i64 (x1 + (x2.len : Int))).toNat) n19 2 : Option Addr) (fun a20 => Bd (n18 - ((IntKind.wrap .i64 (x1 + (x2.len : Int))).toNat) : Nat) (fun n21 => Bd (n19 - ((IntKind.wrap .i64 (x1 + (x2.len : Int))).toNat) : Nat) (fun n22 =>
 HC PG f_slices_overlaps_pair_Pair [.slice x2.a x2.len x2.cap, .slice a20 n21 n22] [.c .bool] (fun (e23 : Bool) h24 =>
 CondP (!e23) (
 (((0 : Int) ≤ (IntKind.wrap .i64 (x1 + (x2.len : Int))) ∧ (IntKind.wrap .i64 (x1 + (x2.len : Int))) ≤ ((n18 : Nat) : Int)) ∧
 Bd (subAddr a17 ((IntKind.wrap .i64 (x1 + (x2.len : Int))).toNat) n19 2 : Option Addr) (fun a25 => Bd (n18 - ((IntKind.wrap .i64 (x1 + (x2.len : Int))).toNat) : Nat) (fun n26 => Bd (n19 - ((IntKind.wrap .i64 (x1 + (x2.len : Int))).toNat) : Nat) (fun n27 =>
 (((0 : Int) ≤ x1 ∧ x1 ≤ ((n18 : Nat) : Int)) ∧
 ∃ xs28, SRow h24 (subAddr a17 x1.toNat n19 2) (Nat.min (n18 - x1.toNat) n26 * 2) xs28 ∧ WrS h24 a25 0 xs28 ∧ oneCell xs28 = true ∧
 At (hsetS h24 a25 0 xs28) (fun h29 =>
 (((0 : Int) ≤ x1 ∧ x1 ≤ ((n18 : Nat) : Int)) ∧
 ∃ xs30, SRow h29 x2.a (Nat.min x2.len (n18 - x1.toNat) * 2) xs30 ∧ WrS h29 (subAddr a17 x1.toNat n19 2) 0 xs30 ∧ oneCell xs30 = true ∧
 At (hsetS h29 (subAddr a17 x1.toNat n19 2) 0 xs30) (fun h31 =>
 K ⟨a17, n18, n19⟩ h31))))))))) (
 (((0 : Int) ≤ (x0.len : Int) ∧ (x0.len : Int) ≤ ((n18 : Nat) : Int)) ∧
 ∃ xs32, SRow h24 x2.a (Nat.min x2.len (n18 - ((x0.len : Int).toNat)) * 2) xs32 ∧ WrS h24 (subAddr a17 ((x0.len : Int).toNat) n19 2) 0 xs32 ∧ oneCell xs32 = true ∧
 At (hsetS h24 (subAddr a17 ((x0.len : Int).toNat) n19 2) 0 xs32) (fun h33 =>
 (((0 : Int) ≤ x1 ∧ x1 ≤ ((n18 : Nat) : Int)) ∧
 HC PG f_slices_rotateRight_pair_Pair [.slice (subAddr a17 x1.toNat n19 2) (n18 - x1.toNat) (n19 - x1.toNat), .int .i64 (x2.len : Int)] [] (fun (e34 : Unit) h35 =>
 K ⟨a17, n18, n19⟩ h35) h33))))) h0))))))))))))
def A_slices_Insert_A_pair_Pair_pair_Pair : Ann := .node (.reg [0, 1, 2] (.nil)) (.node (.reg [0, 1, 2] (.nil)) (.node (.reg [0, 1, 2, 7] (.nil)) (.node (.node (.reg [0, 1, 2, 7, 16] (.nil)) (.node (.node (.reg [6] (.nil)) (.nil)) (.nil))) (.node (.reg [0, 1, 2, 7, 8] (.nil)) (.node (.node (.reg [0, 1, 2, 7, 8, 22] (.nil)) (.node (.node (.reg [6] (.nil)) (.nil)) (.nil))) (.node (.node (.reg [0, 1, 2, 7, 8, 31] (.nil)) (.node (.join [0, 1, 2, 7] [(9, .c .slice)] (.reg [0, 1, 2, 7, 9] (.nil)) (.node (.reg [0, 1, 7, 9] (.nil)) (.node (.reg [9] (.draw [.mk 0 511 512 70368744177664, .mk 0 511 2 140737488355328, .mk 0 511 128 281474976710656, .mk 6 505 422212465065984 562949953421312, .mk 9 502 633318697598976 1125899906842624, .mk 0 511 1 2251799813685248, .mk 0 511 2 4503599627370496, .mk 96 415 6755399441055744 9007199254740992, .mk 144 367 10133099161583616 18014398509481984] (.take 0 (.take 1 (.take 2 (.take 3 (.take 4 (.take 5 (.take 6 (.take 7 (.all (.last 8 (.done))))))))))))) (.node (.reg [6] (.nil)) (.nil))))) (.nil))) (.node (.reg [0, 1, 2, 7, 8] (.nil)) (.node (.node (.reg [0, 1, 2, 7, 8, 68] (.nil)) (.node (.node (.reg [0, 1, 2] (.draw [.mk 0 511 1 590295810358705651712, .mk 0 511 2 1180591620717411303424, .mk 0 511 128 2361183241434822606848, .mk 6 505 3541774862152233910272 4722366482869645213696, .mk 9 502 5312662293228350865408 9444732965739290427392, .mk 0 511 1 18889465931478580854784, .mk 0 511 2 37778931862957161709568, .mk 96 415 56668397794435742564352 75557863725914323419136, .mk 144 367 85002596691653613846528 151115727451828646838272] (.take 0 (.take 1 (.take 2 (.take 3 (.take 4 (.take 5 (.take 6 (.take 7 (.all (.last 8 (.done))))))))))))) (.node (.reg [0] (.nil)) (.node (.reg [6] (.nil)) (.nil)))) (.nil))) (.node (.reg [0, 1, 7] (.nil)) (.node (.reg [0] (.nil)) (.node (.reg [6] (.nil)) (.nil))))))))))))
theorem H_slices_Insert_A_pair_Pair_pair_Pair (x0 : SliceV) (x1 : Int) (x2 : SliceV) {K : Tup [.c .slice] → Heap → Prop} {h0 : Heap} (h : F_slices_Insert_A_pair_Pair_pair_Pair x0 x1 x2 K h0) : HC PG f_slices_Insert_A_pair_Pair_pair_Pair [.slice x0.a x0.len x0.cap, .int .i64 x1, .slice x2.a x2.len x2.cap] [.c .slice] K h0 := HC.intro (an := A_slices_Insert_A_pair_Pair_pair_Pair) (c := Tryz.f107.body.getD .skip) Tryz.mixed Tryz.func107 rfl Tryz.call107 (Nat.le_of_ble_eq_true rfl) (cst (by kernel_rfl) h)
def F_chunk_Bits_With (x0 : Int) (x1 : Int) (K : (Int) → Heap → Prop) (h0 : Heap) : Prop :=
 HC PG f_chunk_right [.int .i64 x1] [.c .bool] (fun (e1 : Bool) h2 =>
 CondP (!e1) (
 K x0 h2) (
 ((0 : Int) ≤ x1 ∧
 Bd (IntKind.wrap .u32 (BitVec.ofInt (IntKind.bits .u32) x0 ||| BitVec.ofInt (IntKind.bits .u32) (IntKind.wrap .u32 (1 * 2 ^ (min (x1 : Int).toNat (IntKind.bits .u32))))).toNat : Int) (fun n3 =>
 K n3 h2)))) h0
def A_chunk_Bits_With : Ann := .node (.reg [0, 1] (.nil)) (.node (.node (.reg [0, 1, 7] (.nil)) (.node (.node (.reg [4] (.nil)) (.nil)) (.nil))) (.node (.reg [4] (.nil)) (.nil)))
theorem H_chunk_Bits_With (x0 : Int) (x1 : Int) {K : Tup [.c (.int .u32)] → Heap → Prop} {h0 : Heap} (h : F_chunk_Bits_With x0 x1 K h0) : HC PG f_chunk_Bits_With [.int .u32 x0, .int .i64 x1] [.c (.int .u32)] K h0 := HC.intro (an := A_chunk_Bits_With) (c := Tryz.f108.body.getD .skip) Tryz.mixed Tryz.func108 rfl Tryz.call108 (Nat.le_of_ble_eq_true rfl) (cst (by kernel_rfl) h)
def F_node_Node_Clear (x0 : Option Addr) (x1 : Option Addr) (x2 : Int) (K : (Option Addr) → Heap → Prop) (h0 : Heap) : Prop :=
 HC PG f_node_Node_inner [.pointer x0, .int .i64 x2] [.c .bool] (fun (e1 : Bool) h2 =>
 CondP (!e1) (
 K x0 h2) (
 HC PG f_node_Node_own [.pointer x0, .pointer x1] [.c .ptr] (fun (e3 : Option Addr) h4 =>
 ∃ a5, e3 = some a5 ∧
 HC PG f_node_slots_drop [.pointer (some (adr a5 0)), .int .i64 x2] [] (fun (e6 : Unit) h7 =>
 K e3 h7) h4) h2)) h0
def A_node_Node_Clear : Ann := .node (.reg [0, 1, 2] (.nil)) (.node (.node (.reg [0, 1, 2, 11] (.nil)) (.node (.node (.reg [6] (.nil)) (.nil)) (.nil))) (.node (.reg [2, 7] (.nil)) (.node (.reg [7] (.nil)) (.node (.reg [6] (.nil)) (.nil)))))
theorem H_node_Node_Clear (x0 : Option Addr) (x1 : Option Addr) (x2 : Int) {K : Tup [.c .ptr] → Heap → Prop} {h0 : Heap} (h : F_node_Node_Clear x0 x1 x2 K h0) : HC PG f_node_Node_Clear [.pointer x0, .pointer x1, .int .i64 x2] [.c .ptr] K h0 := HC.intro (an := A_node_Node_Clear) (c := Tryz.f109.body.getD .skip) Tryz.mixed Tryz.func109 rfl Tryz.call109 (Nat.le_of_ble_eq_true rfl) (cst (by kernel_rfl) h)
def F_slices_Insert_A_P_node_Node_P_node_Node (x0 : SliceV) (x1 : Int) (x2 : SliceV) (K : (SliceV) → Heap → Prop) (h0 : Heap) : Prop :=
 (((0 : Int) ≤ x1 ∧ x1 ≤ ((x0.len : Nat) : Int)) ∧
 CondP ((x2.len : Int) == (0 : Int)) (
 K x0 h0) (
 CondP (x1 == (x0.len : Int)) (
 ∃ xs1, SRow h0 x2.a (x2.len * 1) xs1 ∧
 AppP (some [.pointer none]) 1 8 t_P_node_Node x0.a x0.len x0.cap x2.len xs1 h0 (fun s2 h3 =>
 K s2 h3)) (
 CondP (decide ((IntKind.wrap .i64 ((x0.len : Int) + (x2.len : Int))) > (x0.cap : Int))) (
 Join (fun (t8 : SliceV) h9 =>
 (((0 : Int) ≤ x1 ∧ x1 ≤ ((t8.len : Nat) : Int)) ∧
 ∃ xs10, SRow h9 x2.a (Nat.min x2.len (t8.len - x1.toNat) * 1) xs10 ∧ WrS h9 (subAddr t8.a x1.toNat t8.cap 1) 0 xs10 ∧ oneCell xs10 = true ∧
 At (hsetS h9 (subAddr t8.a x1.toNat t8.cap 1) 0 xs10) (fun h11 =>
 (((0 : Int) ≤ (IntKind.wrap .i64 (x1 + (x2.len : Int))) ∧ (IntKind.wrap .i64 (x1 + (x2.len : Int))) ≤ ((t8.len : Nat) : Int)) ∧
 Bd (subAddr t8.a ((IntKind.wrap .i64 (x1 + (x2.len : Int))).toNat) t8.cap 1 : Option Addr) (fun a12 => Bd (t8.len - ((IntKind.wrap .i64 (x1 + (x2.len : Int))).toNat) : Nat) (fun n13 => Bd (t8.cap - ((IntKind.wrap .i64 (x1 + (x2.len : Int))).toNat) : Nat) (fun n14 =>
 (((0 : Int) ≤ x1 ∧ x1 ≤ ((x0.len : Nat) : Int)) ∧
 ∃ xs15, SRow h11 (subAddr x0.a x1.toNat x0.cap 1) (Nat.min (x0.len - x1.toNat) n13 * 1) xs15 ∧ WrS h11 a12 0 xs15 ∧ oneCell xs15 = true ∧
 At (hsetS h11 a12 0 xs15) (fun h16 =>
 K t8 h16))))))))) (fun J4 =>
 (((0 : Int) ≤ x1 ∧ x1 ≤ ((x0.cap : Nat) : Int)) ∧
 Bd (IntKind.wrap .i64 ((IntKind.wrap .i64 ((x0.len : Int) + (x2.len : Int))) - x1) : Int) (fun n5 =>
 (((0 : Int) ≤ n5 ∧ n5 * ((8 : Nat) : Int) ≤ 2 ^ 48 ∧ n5 ≤ 9223372036854775807 ∧ (((x1.toNat - 0) + n5.toNat : Nat) : Int) ≤ 9223372036854775807) ∧
 AppP (some [.pointer none]) 1 8 t_P_node_Node (subAddr x0.a 0 x0.cap 1) (x1.toNat - 0) (x0.cap - 0) n5.toNat (zrow n5.toNat [.pointer none]) h0 (fun s6 h7 =>
 J4 s6 h7)))))) (
 (((0 : Int) ≤ (IntKind.wrap .i64 ((x0.len : Int) + (x2.len : Int))) ∧ (IntKind.wrap .i64 ((x0.len : Int) + (x2.len : Int))) ≤ ((x0.cap : Nat) : Int)) ∧
 Bd (subAddr x0.a 0 x0.cap 1 : Option Addr) (fun a17 => Bd (((IntKind.wrap .i64 ((x0.len : Int) + (x2.len : Int))).toNat) - 0 : Nat) (fun n18 => Bd (x0.cap - 0 : Nat) (fun n19 =>
 (((0 : Int) ≤ (IntKind.wrap .i64 (x1 + (x2.len : Int))) ∧ (IntKind.wrap .i64 (x1 + (x2.len : Int))) ≤ ((n18 : Nat) : Int)) ∧
 Bd (subAddr a17 ((IntKind.wrap .i64 (x1 + (x2.len : Int))).toNat) n19 1 : Option Addr) (fun a20 => Bd (n18 - ((IntKind.wrap .i64 (x1 + (x2.len : Int))).toNat) : Nat) (fun n21 => Bd (n19 - ((IntKind.wrap .i64 (x1 + (x2.len : Int))).toNat) : Nat) (fun n22 =>
 HC PG f_slices_overlaps_P_node_Node [.slice x2.a x2.len x2.cap, .slice a20 n21 n22] [.c .bool] (fun (e23 : Bool) h24 =>
 CondP (!e23) (
 (((0 : Int) ≤ (IntKind.wrap .i64 (x1 + (x2.len : Int))) ∧ (IntKind.wrap .i64 (x1 + (x2.len : Int))) ≤ ((n18 : Nat) : Int)) ∧
 Bd (subAddr a17 ((IntKind.wrap .i64 (x1 + (x2.len : Int))).toNat) n19 1 : Option Addr) (fun a25 => Bd (n18 - ((IntKind.wrap .i64 (x1 + (x2.len : Int))).toNat) : Nat) (fun n26 => Bd (n19 - ((IntKind.wrap .i64 (x1 + (x2.len : Int))).toNat) : Nat) (fun n27 =>
 (((0 : Int) ≤ x1 ∧ x1 ≤ ((n18 : Nat) : Int)) ∧
 ∃ xs28, SRow h24 (subAddr a17 x1.toNat n19 1) (Nat.min (n18 - x1.toNat) n26 * 1) xs28 ∧ WrS h24 a25 0 xs28 ∧ oneCell xs28 = true ∧
 At (hsetS h24 a25 0 xs28) (fun h29 =>
 (((0 : Int) ≤ x1 ∧ x1 ≤ ((n18 : Nat) : Int)) ∧
 ∃ xs30, SRow h29 x2.a (Nat.min x2.len (n18 - x1.toNat) * 1) xs30 ∧ WrS h29 (subAddr a17 x1.toNat n19 1) 0 xs30 ∧ oneCell xs30 = true ∧
 At (hsetS h29 (subAddr a17 x1.toNat n19 1) 0 xs30) (fun h31 =>
 K ⟨a17, n18, n19⟩ h31))))))))) (
 (((0 : Int) ≤ (x0.len : Int) ∧ (x0.len : Int) ≤ ((n18 : Nat) : Int)) ∧
 ∃ xs32, SRow h24 x2.a (Nat.min x2.len (n18 - ((x0.len : Int).toNat)) * 1) xs32 ∧ WrS h24 (subAddr a17 ((x0.len : Int).toNat) n19 1) 0 xs32 ∧ oneCell xs32 = true ∧
 At (hsetS h24 (subAddr a17 ((x0.len : Int).toNat) n19 1) 0 xs32) (fun h33 =>
 (((0 : Int) ≤ x1 ∧ x1 ≤ ((n18 : Nat) : Int)) ∧
 HC PG f_slices_rotateRight_P_node_Node [.slice (subAddr a17 x1.toNat n19 1) (n18 - x1.toNat) (n19 - x1.toNat), .int .i64 (x2.len : Int)] [] (fun (e34 : Unit) h35 =>
 K ⟨a17, n18, n19⟩ h35) h33))))) h0))))))))))))
def A_slices_Insert_A_P_node_Node_P_node_Node : Ann := .node (.reg [0, 1, 2] (.nil)) (.node (.reg [0, 1, 2] (.nil)) (.node (.reg [0, 1, 2, 7] (.nil)) (.node (.node (.reg [0, 1, 2, 7, 16] (.nil)) (.node (.node (.reg [6] (.nil)) (.nil)) (.nil))) (.node (.reg [0, 1, 2, 7, 8] (.nil)) (.node (.node (.reg [0, 1, 2, 7, 8, 22] (.nil)) (.node (.node (.reg [6] (.nil)) (.nil)) (.nil))) (.node (.node (.reg [0, 1, 2, 7, 8, 31] (.nil)) (.node (.join [0, 1, 2, 7] [(9, .c .slice)] (.reg [0, 1, 2, 7, 9] (.nil)) (.node (.reg [0, 1, 7, 9] (.nil)) (.node (.reg [9] (.draw [.mk 0 511 512 70368744177664, .mk 0 511 2 140737488355328, .mk 0 511 128 281474976710656, .mk 6 505 422212465065984 562949953421312, .mk 9 502 633318697598976 1125899906842624, .mk 0 511 1 2251799813685248, .mk 0 511 2 4503599627370496, .mk 96 415 6755399441055744 9007199254740992, .mk 144 367 10133099161583616 18014398509481984] (.take 0 (.take 1 (.take 2 (.take 3 (.take 4 (.take 5 (.take 6 (.take 7 (.all (.last 8 (.done))))))))))))) (.node (.reg [6] (.nil)) (.nil))))) (.nil))) (.node (.reg [0, 1, 2, 7, 8] (.nil)) (.node (.node (.reg [0, 1, 2, 7, 8, 68] (.nil)) (.node (.node (.reg [0, 1, 2] (.draw [.mk 0 511 1 590295810358705651712, .mk 0 511 2 1180591620717411303424, .mk 0 511 128 2361183241434822606848, .mk 6 505 3541774862152233910272 4722366482869645213696, .mk 9 502 5312662293228350865408 9444732965739290427392, .mk 0 511 1 18889465931478580854784, .mk 0 511 2 37778931862957161709568, .mk 96 415 56668397794435742564352 75557863725914323419136, .mk 144 367 85002596691653613846528 151115727451828646838272] (.take 0 (.take 1 (.take 2 (.take 3 (.take 4 (.take 5 (.take 6 (.take 7 (.all (.last 8 (.done))))))))))))) (.node (.reg [0] (.nil)) (.node (.reg [6] (.nil)) (.nil)))) (.nil))) (.node (.reg [0, 1, 7] (.nil)) (.node (.reg [0] (.nil)) (.node (.reg [6] (.nil)) (.nil))))))))))))
theorem H_slices_Insert_A_P_node_Node_P_node_Node (x0 : SliceV) (x1 : Int) (x2 : SliceV) {K : Tup [.c .slice] → Heap → Prop} {h0 : Heap} (h : F_slices_Insert_A_P_node_Node_P_node_Node x0 x1 x2 K h0) : HC PG f_slices_Insert_A_P_node_Node_P_node_Node [.slice x0.a x0.len x0.cap, .int .i64 x1, .slice x2.a x2.len x2.cap] [.c .slice] K h0 := HC.intro (an := A_slices_Insert_A_P_node_Node_P_node_Node) (c := Tryz.f110.body.getD .skip) Tryz.mixed Tryz.func110 rfl Tryz.call110 (Nat.le_of_ble_eq_true rfl) (cst (by kernel_rfl) h)
def F_twig_Common (x0 : ByteArray) (x1 : ByteArray) (K : (Int) → Heap → Prop) (h0 : Heap) : Prop :=
 Bd (if (x1.size : Int) < (x0.size : Int) then (x1.size : Int) else (x0.size : Int) : Int) (fun n1 =>
 LoopP (fun I2 (t3 : Int) h4 =>
 CondP (decide (t3 < n1)) (
 ∃ b5, (0 : Int) ≤ t3 ∧ x0[t3.toNat]? = some b5 ∧
 ∃ b6, (0 : Int) ≤ t3 ∧ x1[t3.toNat]? = some b6 ∧
 CondP ((b5.toNat : Int) != (b6.toNat : Int)) (
 K t3 h4) (
 I2 (IntKind.wrap .i64 (t3 + 1)) h4)) (
 K n1 h4)) 0 h0)
def A_twig_Common : Ann := .node (.reg [0, 1] (.nil)) (.node (.reg [0, 1, 5] (.nil)) (.node (.node (.reg [0, 1, 5, 12, 13] (.nil)) (.loop [0, 1, 5, 12] [(13, .c (.int .i64))] (.node (.reg [0, 1, 5, 12, 13, 14] (.nil)) (.node (.nil) (.node (.node (.reg [0, 1, 5, 6, 12, 13] (.nil)) (.node (.reg [0, 1, 5, 6, 12, 13, 22] (.draw [.mk 0 127 1 65536, .mk 0 127 64 131072, .mk 3 124 196608 262144, .mk 0 127 2 524288, .mk 0 127 64 1048576, .mk 24 103 1572864 2097152, .mk 36 91 2359296 4194304] (.take 0 (.take 1 (.take 2 (.take 3 (.take 4 (.take 5 (.take 6 (.done)))))))))) (.node (.node (.reg [4] (.nil)) (.nil)) (.nil)))) (.reg [0, 1, 5, 12, 13] (.nil))))))) (.node (.reg [4] (.nil)) (.nil))))
theorem H_twig_Common (x0 : ByteArray) (x1 : ByteArray) {K : Tup [.c (.int .i64)] → Heap → Prop} {h0 : Heap} (h : F_twig_Common x0 x1 K h0) : HC PG f_twig_Common [.string x0, .string x1] [.c (.int .i64)] K h0 := HC.intro (an := A_twig_Common) (c := Tryz.f111.body.getD .skip) Tryz.mixed Tryz.func111 rfl Tryz.call111 (Nat.le_of_ble_eq_true rfl) (cst (by kernel_rfl) h)
def F_slices_insertionSortCmpFunc_pair_Pair (x0 : SliceV) (x1 : Int) (x2 : Int) (x3 : Value) (K : (Unit) → Heap → Prop) (h0 : Heap) : Prop :=
 LoopP (fun I1 (t2 : Int) h3 =>
 CondP (decide (t2 < x2)) (
 LoopP (fun I4 (t5 : Int) h6 =>
 Join (fun (t16 : Bool) h17 =>
 CondP t16 (
 (((0 : Int) ≤ (IntKind.wrap .i64 (t5 - 1)) ∧ (IntKind.wrap .i64 (t5 - 1)) < ((x0.len : Nat) : Int)) ∧ ∃ a18, x0.a = some a18 ∧
 ∃ v19, hcell h17 (adr (adr a18 ((IntKind.wrap .i64 (t5 - 1)).toNat * 2)) 0) = some (.string v19) ∧
 ∃ v20, hcell h17 (adr (adr a18 ((IntKind.wrap .i64 (t5 - 1)).toNat * 2)) 1) = some (.string v20) ∧
 (((0 : Int) ≤ t5 ∧ t5 < ((x0.len : Nat) : Int)) ∧ ∃ a21, x0.a = some a21 ∧
 ∃ v22, hcell h17 (adr (adr a21 (t5.toNat * 2)) 0) = some (.string v22) ∧
 ∃ v23, hcell h17 (adr (adr a21 (t5.toNat * 2)) 1) = some (.string v23) ∧
 (((0 : Int) ≤ t5 ∧ t5 < ((x0.len : Nat) : Int)) ∧ ∃ a24, x0.a = some a24 ∧
 (WrS h17 (some (adr a24 (t5.toNat * 2))) 0 [.string v19, .string v20] ∧
 At (hsetL h17 (adr a24 (t5.toNat * 2)) 0 [.string v19, .string v20]) (fun h25 =>
 (((0 : Int) ≤ (IntKind.wrap .i64 (t5 - 1)) ∧ (IntKind.wrap .i64 (t5 - 1)) < ((x0.len : Nat) : Int)) ∧ ∃ a26, x0.a = some a26 ∧
 (WrS h25 (some (adr a26 ((IntKind.wrap .i64 (t5 - 1)).toNat * 2))) 0 [.string v22, .string v23] ∧
 At (hsetL h25 (adr a26 ((IntKind.wrap .i64 (t5 - 1)).toNat * 2)) 0 [.string v22, .string v23]) (fun h27 =>
 I4 (IntKind.wrap .i64 (t5 - 1)) h27))))))))) (
 I1 (IntKind.wrap .i64 (t2 + 1)) h17)) (fun J7 =>
 CondP (decide (t5 > x1)) (
 (((0 : Int) ≤ t5 ∧ t5 < ((x0.len : Nat) : Int)) ∧ ∃ a8, x0.a = some a8 ∧
 ∃ v9, hcell h6 (adr (adr a8 (t5.toNat * 2)) 0) = some (.string v9) ∧
 ∃ v10, hcell h6 (adr (adr a8 (t5.toNat * 2)) 1) = some (.string v10) ∧
 (((0 : Int) ≤ (IntKind.wrap .i64 (t5 - 1)) ∧ (IntKind.wrap .i64 (t5 - 1)) < ((x0.len : Nat) : Int)) ∧ ∃ a11, x0.a = some a11 ∧
 ∃ v12, hcell h6 (adr (adr a11 ((IntKind.wrap .i64 (t5 - 1)).toNat * 2)) 0) = some (.string v12) ∧
 ∃ v13, hcell h6 (adr (adr a11 ((IntKind.wrap .i64 (t5 - 1)).toNat * 2)) 1) = some (.string v13) ∧
 HV PG x3 [.agg #[.string v9, .string v10], .agg #[.string v12, .string v13]] [.c (.int .i64)] (fun (e14 : Int) h15 =>
 J7 (decide (e14 < (0 : Int))) h15) h6))) (
 J7 false h6))) t2 h3) (
 K () h3)) (IntKind.wrap .i64 (x1 + 1)) h0
def A_slices_insertionSortCmpFunc_pair_Pair : Ann := .node (.reg [0, 1, 2, 3, 8] (.nil)) (.loop [0, 1, 2, 3] [(8, .c (.int .i64))] (.node (.node (.reg [0, 1, 2, 3, 8, 14] (.nil)) (.nil)) (.node (.node (.reg [0, 1, 2, 3, 8, 9] (.nil)) (.loop [0, 1, 2, 3, 8] [(9, .c (.int .i64))] (.node (.join [0, 1, 2, 3, 8, 9] [(34, .c .bool)] (.reg [0, 1, 2, 3, 8, 9, 34] (.draw [.mk 0 131071 512 262144, .mk 0 131071 2 524288, .mk 3 131068 786432 1048576, .mk 4 131067 1048576 2097152, .mk 8 131063 2097160 4194304, .mk 8 131063 2097153 8388608, .mk 8 131063 2097664 16777216, .mk 104 130967 27262976 33554432, .mk 136 130935 35651584 67108864, .mk 8 131063 2097153 134217728, .mk 8 131063 2097664 268435456, .mk 1032 130039 270532608 536870912, .mk 2568 128503 673185792 1073741824, .mk 4104 126967 1075838976 2147483648, .mk 8472 122599 2220883968 4294967296, .mk 16392 114679 4297064448 8589934592, .mk 32776 98295 8592031744 17179869184] (.take 0 (.take 1 (.take 2 (.take 3 (.split 21 (.take 4 (.take 5 (.take 6 (.take 7 (.take 8 (.take 9 (.take 10 (.take 11 (.take 12 (.take 13 (.all (.last 14 (.take 15 (.take 16 (.done))))))))))))))) (.take 4 (.take 5 (.take 6 (.take 7 (.take 8 (.take 9 (.take 10 (.take 11 (.take 12 (.take 13 (.take 14 (.take 15 (.take 16 (.done))))))))))))))))))))) (.nil)) (.node (.reg [0, 1, 2, 3, 8, 9] (.draw [.mk 0 262143 1 137438953472, .mk 0 262143 512 274877906944, .mk 0 262143 1 549755813888, .mk 0 262143 512 1099511627776, .mk 8 262135 1099511627776 2199023255552, .mk 0 262143 1 4398046511104, .mk 0 262143 512 8796093022208, .mk 64 262079 8796093022208 17592186044416, .mk 160 261983 21990232555520 35184372088832, .mk 256 261887 35184372088832 70368744177664, .mk 0 262143 1 140737488355328, .mk 0 262143 512 281474976710656, .mk 3072 259071 422212465065984 562949953421312, .mk 4096 258047 562949953421312 1125899906842624, .mk 9187 262140 412316860416 2251799813685248, .mk 25571 245247 2322168557862912 0, .mk 65535 262123 2748779069440 4503599627370496, .mk 131071 188415 5629499534213120 0] (.take 0 (.take 1 (.take 2 (.take 3 (.take 4 (.take 5 (.take 6 (.take 7 (.take 8 (.take 9 (.take 10 (.take 11 (.take 12 (.take 13 (.take 14 (.all (.last 15 (.take 16 (.all (.last 17 (.done))))))))))))))))))))))) (.reg [0, 1, 2, 3, 8, 9] (.nil)))))) (.reg [0, 1, 2, 3, 8] (.nil)))))
theorem H_slices_insertionSortCmpFunc_pair_Pair (x0 : SliceV) (x1 : Int) (x2 : Int) (x3 : Value) {K : Tup [] → Heap → Prop} {h0 : Heap} (h : F_slices_insertionSortCmpFunc_pair_Pair x0 x1 x2 x3 K h0) : HC PG f_slices_insertionSortCmpFunc_pair_Pair [.slice x0.a x0.len x0.cap, .int .i64 x1, .int .i64 x2, x3] [] K h0 := HC.intro (an := A_slices_insertionSortCmpFunc_pair_Pair) (c := Tryz.f112.body.getD .skip) Tryz.mixed Tryz.func112 rfl Tryz.call112 (Nat.le_of_ble_eq_true rfl) (cst (by kernel_rfl) h)
def F_slices_symMergeCmpFunc_pair_Pair (x0 : SliceV) (x1 : Int) (x2 : Int) (x3 : Int) (x4 : Value) (K : (Unit) → Heap → Prop) (h0 : Heap) : Prop :=
 CondP ((IntKind.wrap .i64 (x2 - x1)) == (1 : Int)) (
 LoopP (fun I1 (t2 : Int × Int) h3 =>
 CondP (decide (t2.1 < t2.2)) (
 ((0 : Int) ≤ (1 : Int) ∧
 Bd (Int.fdiv (IntKind.wrap .u64 (IntKind.wrap .i64 (t2.1 + t2.2))) (2 ^ (min (1 : Int).toNat (IntKind.bits .u64))) : Int) (fun n4 =>
 (((0 : Int) ≤ (IntKind.wrap .i64 n4) ∧ (IntKind.wrap .i64 n4) < ((x0.len : Nat) : Int)) ∧ ∃ a5, x0.a = some a5 ∧
 ∃ v6, hcell h3 (adr (adr a5 ((IntKind.wrap .i64 n4).toNat * 2)) 0) = some (.string v6) ∧
 ∃ v7, hcell h3 (adr (adr a5 ((IntKind.wrap .i64 n4).toNat * 2)) 1) = some (.string v7) ∧
 (((0 : Int) ≤ x1 ∧ x1 < ((x0.len : Nat) : Int)) ∧ ∃ a8, x0.a = some a8 ∧
 ∃ v9, hcell h3 (adr (adr a8 (x1.toNat * 2)) 0) = some (.string v9) ∧
 ∃ v10, hcell h3 (adr (adr a8 (x1.toNat * 2)) 1) = some (.string v10) ∧
 HV PG x4 [.agg #[.string v6, .string v7], .agg #[.string v9, .string v10]] [.c (.int .i64)] (fun (e11 : Int) h12 =>
 CondP (decide (e11 < (0 : Int))) (
 I1 (IntKind.wrap .i64 ((IntKind.wrap .i64 n4) + 1), t2.2) h12) (
 I1 (t2.1, IntKind.wrap .i64 n4) h12)) h3))))) (
 LoopP (fun I13 (t14 : Int) h15 =>
 CondP (decide (t14 < (IntKind.wrap .i64 (t2.1 - 1)))) (
 (((0 : Int) ≤ (IntKind.wrap .i64 (t14 + 1)) ∧ (IntKind.wrap .i64 (t14 + 1)) < ((x0.len : Nat) : Int)) ∧ ∃ a16, x0.a = some a16 ∧
 ∃ v17, hcell h15 (adr (adr a16 ((IntKind.wrap .i64 (t14 + 1)).toNat * 2)) 0) = some (.string v17) ∧
 ∃ v18, hcell h15 (adr (adr a16 ((IntKind.wrap .i64 (t14 + 1)).toNat * 2)) 1) = some (.string v18) ∧
 (((0 : Int) ≤ t14 ∧ t14 < ((x0.len : Nat) : Int)) ∧ ∃ a19, x0.a = some a19 ∧
 ∃ v20, hcell h15 (adr (adr a19 (t14.toNat * 2)) 0) = some (.string v20) ∧
 ∃ v21, hcell h15 (adr (adr a19 (t14.toNat * 2)) 1) = some (.string v21) ∧
 (((0 : Int) ≤ t14 ∧ t14 < ((x0.len : Nat) : Int)) ∧ ∃ a22, x0.a = some a22 ∧
 (WrS h15 (some (adr a22 (t14.toNat * 2))) 0 [.string v17, .string v18] ∧
 At (hsetL h15 (adr a22 (t14.toNat * 2)) 0 [.string v17, .string v18]) (fun h23 =>
 (((0 : Int) ≤ (IntKind.wrap .i64 (t14 + 1)) ∧ (IntKind.wrap .i64 (t14 + 1)) < ((x0.len : Nat) : Int)) ∧ ∃ a24, x0.a = some a24 ∧
 (WrS h23 (some (adr a24 ((IntKind.wrap .i64 (t14 + 1)).toNat * 2))) 0 [.string v20, .string v21] ∧
 At (hsetL h23 (adr a24 ((IntKind.wrap .i64 (t14 + 1)).toNat * 2)) 0 [.string v20, .string v21]) (fun h25 =>
 I13 (IntKind.wrap .i64 (t14 + 1)) h25))))))))) (
 K () h15)) x1 h3)) (x2, x3) h0) (
 CondP ((IntKind.wrap .i64 (x3 - x2)) == (1 : Int)) (
 LoopP (fun I26 (t27 : Int × Int) h28 =>
 CondP (decide (t27.1 < t27.2)) (
 ((0 : Int) ≤ (1 : Int) ∧
 Bd (Int.fdiv (IntKind.wrap .u64 (IntKind.wrap .i64 (t27.1 + t27.2))) (2 ^ (min (1 : Int).toNat (IntKind.bits .u64))) : Int) (fun n29 =>
 (((0 : Int) ≤ x2 ∧ x2 < ((x0.len : Nat) : Int)) ∧ ∃ a30, x0.a = some a30 ∧
 ∃ v31, hcell h28 (adr (adr a30 (x2.toNat * 2)) 0) = some (.string v31) ∧
 ∃ v32, hcell h28 (adr (adr a30 (x2.toNat * 2)) 1) = some (.string v32) ∧
 (((0 : Int) ≤ (IntKind.wrap .i64 n29) ∧ (IntKind.wrap .i64 n29) < ((x0.len : Nat) : Int)) ∧ ∃ a33, x0.a = some a33 ∧
 ∃ v34, hcell h28 (adr (adr a33 ((IntKind.wrap .i64 n29).toNat * 2)) 0) = some (.string v34) ∧
 ∃ v35, hcell h28 (adr (adr a33 ((IntKind.wrap .i64 n29).toNat * 2)) 1) = some (.string v35) ∧
 HV PG x4 [.agg #[.string v31, .string v32], .agg #[.string v34, .string v35]] [.c (.int .i64)] (fun (e36 : Int) h37 =>
 CondP (!(decide (e36 < (0 : Int)))) (
 I26 (IntKind.wrap .i64 ((IntKind.wrap .i64 n29) + 1), t27.2) h37) (
 I26 (t27.1, IntKind.wrap .i64 n29) h37)) h28))))) (
 LoopP (fun I38 (t39 : Int) h40 =>
 CondP (decide (t39 > t27.1)) (
 (((0 : Int) ≤ (IntKind.wrap .i64 (t39 - 1)) ∧ (IntKind.wrap .i64 (t39 - 1)) < ((x0.len : Nat) : Int)) ∧ ∃ a41, x0.a = some a41 ∧
 ∃ v42, hcell h40 (adr (adr a41 ((IntKind.wrap .i64 (t39 - 1)).toNat * 2)) 0) = some (.string v42) ∧
 ∃ v43, hcell h40 (adr (adr a41 ((IntKind.wrap .i64 (t39 - 1)).toNat * 2)) 1) = some (.string v43) ∧
 (((0 : Int) ≤ t39 ∧ t39 < ((x0.len : Nat) : Int)) ∧ ∃ a44, x0.a = some a44 ∧
 ∃ v45, hcell h40 (adr (adr a44 (t39.toNat * 2)) 0) = some (.string v45) ∧
 ∃ v46, hcell h40 (adr (adr a44 (t39.toNat * 2)) 1) = some (.string v46) ∧
 (((0 : Int) ≤ t39 ∧ t39 < ((x0.len : Nat) : Int)) ∧ ∃ a47, x0.a = some a47 ∧
 (WrS h40 (some (adr a47 (t39.toNat * 2))) 0 [.string v42, .string v43] ∧
 At (hsetL h40 (adr a47 (t39.toNat * 2)) 0 [.string v42, .string v43]) (fun h48 =>
 (((0 : Int) ≤ (IntKind.wrap .i64 (t39 - 1)) ∧ (IntKind.wrap .i64 (t39 - 1)) < ((x0.len : Nat) : Int)) ∧ ∃ a49, x0.a = some a49 ∧
 (WrS h48 (some (adr a49 ((IntKind.wrap .i64 (t39 - 1)).toNat * 2))) 0 [.string v45, .string v46] ∧
 At (hsetL h48 (adr a49 ((IntKind.wrap .i64 (t39 - 1)).toNat * 2)) 0 [.string v45, .string v46]) (fun h50 =>
 I38 (IntKind.wrap .i64 (t39 - 1)) h50))))))))) (
 K () h40)) x2 h28)) (x1, x2) h0) (
 ((0 : Int) ≤ (1 : Int) ∧
 Bd (Int.fdiv (IntKind.wrap .u64 (IntKind.wrap .i64 (x1 + x3))) (2 ^ (min (1 : Int).toNat (IntKind.bits .u64))) : Int) (fun n51 =>
 Join (fun (t54 : Int × Int) h55 =>
 Bd (IntKind.wrap .i64 ((IntKind.wrap .i64 ((IntKind.wrap .i64 n51) + x2)) - 1) : Int) (fun n56 =>
 LoopP (fun I57 (t58 : Int × Int) h59 =>
 CondP (decide (t58.1 < t58.2)) (
 ((0 : Int) ≤ (1 : Int) ∧
 Bd (Int.fdiv (IntKind.wrap .u64 (IntKind.wrap .i64 (t58.1 + t58.2))) (2 ^ (min (1 : Int).toNat (IntKind.bits .u64))) : Int) (fun n60 =>
 (((0 : Int) ≤ (IntKind.wrap .i64 (n56 - (IntKind.wrap .i64 n60))) ∧ (IntKind.wrap .i64 (n56 - (IntKind.wrap .i64 n60))) < ((x0.len : Nat) : Int)) ∧ ∃ a61, x0.a = some a61 ∧
 ∃ v62, hcell h59 (adr (adr a61 ((IntKind.wrap .i64 (n56 - (IntKind.wrap .i64 n60))).toNat * 2)) 0) = some (.string v62) ∧
 ∃ v63, hcell h59 (adr (adr a61 ((IntKind.wrap .i64 (n56 - (IntKind.wrap .i64 n60))).toNat * 2)) 1) = some (.string v63) ∧
 (((0 : Int) ≤ (IntKind.wrap .i64 n60) ∧ (IntKind.wrap .i64 n60) < ((x0.len : Nat) : Int)) ∧ ∃ a64, x0.a = some a64 ∧
 ∃ v65, hcell h59 (adr (adr a64 ((IntKind.wrap .i64 n60).toNat * 2)) 0) = some (.string v65) ∧
 ∃ v66, hcell h59 (adr (adr a64 ((IntKind.wrap .i64 n60).toNat * 2)) 1) = some (.string v66) ∧
 HV PG x4 [.agg #[.string v62, .string v63], .agg #[.string v65, .string v66]] [.c (.int .i64)] (fun (e67 : Int) h68 =>
 CondP (!(decide (e67 < (0 : Int)))) (
 I57 (IntKind.wrap .i64 ((IntKind.wrap .i64 n60) + 1), t58.2) h68) (
 I57 (t58.1, IntKind.wrap .i64 n60) h68)) h59))))) (
 Bd (IntKind.wrap .i64 ((IntKind.wrap .i64 ((IntKind.wrap .i64 n51) + x2)) - t58.1) : Int) (fun n69 =>
 Join (fun (t76 : Unit) h77 =>
 Join (fun (t84 : Unit) h85 =>
 Join (fun (t87 : Bool) h88 =>
 CondP t87 (
 HC PG f_slices_symMergeCmpFunc_pair_Pair [.slice x0.a x0.len x0.cap, .int .i64 (IntKind.wrap .i64 n51), .int .i64 n69, .int .i64 x3, x4] [] (fun (e89 : Unit) h90 =>
 K () h90) h88) (
 K () h88)) (fun J86 =>
 CondP (decide ((IntKind.wrap .i64 n51) < n69)) (
 J86 (decide (n69 < x3)) h85) (
 J86 false h85))) (fun J78 =>
 Join (fun (t80 : Bool) h81 =>
 CondP t80 (
 HC PG f_slices_symMergeCmpFunc_pair_Pair [.slice x0.a x0.len x0.cap, .int .i64 x1, .int .i64 t58.1, .int .i64 (IntKind.wrap .i64 n51), x4] [] (fun (e82 : Unit) h83 =>
 J78 () h83) h81) (
 J78 () h81)) (fun J79 =>
 CondP (decide (x1 < t58.1)) (
 J79 (decide (t58.1 < (IntKind.wrap .i64 n51))) h77) (
 J79 false h77)))) (fun J70 =>
 Join (fun (t72 : Bool) h73 =>
 CondP t72 (
 HC PG f_slices_rotateCmpFunc_pair_Pair [.slice x0.a x0.len x0.cap, .int .i64 t58.1, .int .i64 x2, .int .i64 n69, x4] [] (fun (e74 : Unit) h75 =>
 J70 () h75) h73) (
 J70 () h73)) (fun J71 =>
 CondP (decide (t58.1 < x2)) (
 J71 (decide (x2 < n69)) h59) (
 J71 false h59)))))) (t54.1, t54.2) h55)) (fun J52 =>
 CondP (decide (x2 > (IntKind.wrap .i64 n51))) (
 Bd (IntKind.wrap .i64 ((IntKind.wrap .i64 ((IntKind.wrap .i64 n51) + x2)) - x3) : Int) (fun n53 =>
 J52 (n53, IntKind.wrap .i64 n51) h0)) (
 J52 (x1, x2) h0))))))
def A_slices_symMergeCmpFunc_pair_Pair : Ann := .node (.node (.reg [0, 1, 2, 3, 4, 28] (.nil)) (.node (.node (.reg [0, 1, 3, 4, 10] (.nil)) (.node (.reg [0, 1, 4, 10, 11] (.nil)) (.node (.loop [0, 1, 4] [(10, .c (.int .i64)), (11, .c (.int .i64))] (.node (.node (.reg [0, 1, 4, 10, 11, 33] (.nil)) (.nil)) (.node (.reg [0, 1, 4, 10, 11, 12] (.nil)) (.node (.reg [0, 1, 4, 10, 11, 12, 50] (.draw [.mk 0 2047 16 1099511627776, .mk 0 2047 1 2199023255552, .mk 0 2047 4096 4398046511104, .mk 6 2041 6597069766656 8796093022208, .mk 8 2039 8796093022208 17592186044416, .mk 0 2047 1 35184372088832, .mk 0 2047 2 70368744177664, .mk 96 1951 105553116266496 140737488355328, .mk 128 1919 140737488355328 281474976710656, .mk 273 1774 300166674382848 562949953421312, .mk 512 1535 562949953421312 1125899906842624] (.take 0 (.take 1 (.take 2 (.take 3 (.take 4 (.take 5 (.take 6 (.take 7 (.take 8 (.all (.last 9 (.take 10 (.done))))))))))))))) (.node (.reg [0, 1, 4, 10, 11] (.nil)) (.reg [0, 1, 4, 10, 11] (.nil))))))) (.node (.node (.reg [0, 10, 13] (.nil)) (.loop [0, 10] [(13, .c (.int .i64))] (.node (.node (.reg [0, 10, 13, 58] (.nil)) (.nil)) (.node (.reg [0, 10, 13] (.draw [.mk 0 262143 1 2305843009213693952, .mk 0 262143 8192 4611686018427387904, .mk 0 262143 1 9223372036854775808, .mk 0 262143 8192 18446744073709551616, .mk 8 262135 18446744073709551616 36893488147419103232, .mk 0 262143 1 73786976294838206464, .mk 0 262143 8192 147573952589676412928, .mk 64 262079 147573952589676412928 295147905179352825856, .mk 160 261983 368934881474191032320 590295810358705651712, .mk 256 261887 590295810358705651712 1180591620717411303424, .mk 0 262143 1 2361183241434822606848, .mk 0 262143 8192 4722366482869645213696, .mk 3072 259071 7083549724304467820544 9444732965739290427392, .mk 4096 258047 9444732965739290427392 18889465931478580854784, .mk 9187 262140 6917529027641081856 37778931862957161709568, .mk 25571 245247 38959523483674573012992 0, .mk 65535 262123 46116860184273879040 75557863725914323419136, .mk 131071 188415 94447329657392904273920 0] (.take 0 (.take 1 (.take 2 (.take 3 (.take 4 (.take 5 (.take 6 (.take 7 (.take 8 (.take 9 (.take 10 (.take 11 (.take 12 (.take 13 (.take 14 (.all (.last 15 (.take 16 (.all (.last 17 (.done))))))))))))))))))))))) (.reg [0, 10, 13] (.nil)))))) (.nil))))) (.nil))) (.node (.node (.reg [0, 1, 2, 3, 4, 80] (.nil)) (.node (.node (.reg [0, 2, 4, 14] (.nil)) (.node (.reg [0, 2, 4, 14, 15] (.nil)) (.node (.loop [0, 2, 4] [(14, .c (.int .i64)), (15, .c (.int .i64))] (.node (.node (.reg [0, 2, 4, 14, 15, 85] (.nil)) (.nil)) (.node (.reg [0, 2, 4, 14, 15, 16] (.nil)) (.node (.reg [0, 2, 4, 14, 15, 16, 103] (.draw [.mk 0 4095 16 4951760157141521099596496896, .mk 0 4095 1 9903520314283042199192993792, .mk 0 4095 4 19807040628566084398385987584, .mk 6 4089 29710560942849126597578981376 39614081257132168796771975168, .mk 8 4087 39614081257132168796771975168 79228162514264337593543950336, .mk 0 4095 1 158456325028528675187087900672, .mk 0 4095 65536 316912650057057350374175801344, .mk 96 3999 475368975085586025561263702016 633825300114114700748351602688, .mk 128 3967 633825300114114700748351602688 1267650600228229401496703205376, .mk 273 3822 1351830522899635260189843652608 2535301200456458802993406410752, .mk 512 3583 2535301200456458802993406410752 5070602400912917605986812821504, .mk 1024 3071 5070602400912917605986812821504 10141204801825835211973625643008] (.take 0 (.take 1 (.take 2 (.take 3 (.take 4 (.take 5 (.take 6 (.take 7 (.take 8 (.all (.last 9 (.take 10 (.take 11 (.done)))))))))))))))) (.node (.reg [0, 2, 4, 14, 15] (.nil)) (.reg [0, 2, 4, 14, 15] (.nil))))))) (.node (.node (.reg [0, 14, 17] (.nil)) (.loop [0, 14] [(17, .c (.int .i64))] (.node (.node (.reg [0, 14, 17, 110] (.nil)) (.nil)) (.node (.reg [0, 14, 17] (.draw [.mk 0 262143 1 10384593717069655257060992658440192, .mk 0 262143 131072 20769187434139310514121985316880384, .mk 0 262143 1 41538374868278621028243970633760768, .mk 0 262143 131072 83076749736557242056487941267521536, .mk 8 262135 83076749736557242056487941267521536 166153499473114484112975882535043072, .mk 0 262143 1 332306998946228968225951765070086144, .mk 0 262143 131072 664613997892457936451903530140172288, .mk 64 262079 664613997892457936451903530140172288 1329227995784915872903807060280344576, .mk 160 261983 1661534994731144841129758825350430720 2658455991569831745807614120560689152, .mk 256 261887 2658455991569831745807614120560689152 5316911983139663491615228241121378304, .mk 0 262143 1 10633823966279326983230456482242756608, .mk 0 262143 131072 21267647932558653966460912964485513216, .mk 3072 259071 31901471898837980949691369446728269824 42535295865117307932921825928971026432, .mk 4096 258047 42535295865117307932921825928971026432 85070591730234615865843651857942052864, .mk 9187 262140 31153781151208965771182977975320576 170141183460469231731687303715884105728, .mk 25571 245247 175458095443608895223302531957005484032 0, .mk 65535 262123 207691874341393105141219853168803840 340282366920938463463374607431768211456, .mk 131071 188415 425352958651173079329218259289710264320 0] (.take 0 (.take 1 (.take 2 (.take 3 (.take 4 (.take 5 (.take 6 (.take 7 (.take 8 (.take 9 (.take 10 (.take 11 (.take 12 (.take 13 (.take 14 (.all (.last 15 (.take 16 (.all (.last 17 (.done))))))))))))))))))))))) (.reg [0, 14, 17] (.nil)))))) (.nil))))) (.nil))) (.node (.reg [0, 1, 2, 3, 4, 18] (.nil)) (.node (.reg [0, 1, 2, 3, 4, 18, 19] (.nil)) (.node (.reg [0, 1, 2, 3, 4, 18, 19] (.nil)) (.join [0, 1, 2, 3, 4, 18, 19] [(20, .c (.int .i64)), (21, .c (.int .i64))] (.node (.reg [0, 1, 2, 3, 4, 18, 19, 140] (.nil)) (.node (.node (.reg [0, 1, 2, 3, 4, 18, 19, 20] (.nil)) (.reg [0, 1, 2, 3, 4, 18, 19, 20, 21] (.nil))) (.node (.reg [0, 1, 2, 3, 4, 18, 19, 20] (.nil)) (.reg [0, 1, 2, 3, 4, 18, 19, 20, 21] (.nil))))) (.node (.reg [0, 1, 2, 3, 4, 18, 19, 20, 21, 22] (.nil)) (.node (.loop [0, 1, 2, 3, 4, 18, 19, 22] [(20, .c (.int .i64)), (21, .c (.int .i64))] (.node (.node (.reg [0, 1, 2, 3, 4, 18, 19, 20, 21, 22, 151] (.nil)) (.nil)) (.node (.reg [0, 1, 2, 3, 4, 18, 19, 20, 21, 22, 23] (.nil)) (.node (.reg [0, 1, 2, 3, 4, 18, 19, 20, 21, 22, 23, 171] (.draw [.mk 0 16383 16 365375409332725729550921208179070754913983135744, .mk 0 16383 1 730750818665451459101842416358141509827966271488, .mk 0 16383 4194304 1461501637330902918203684832716283019655932542976, .mk 0 16383 8388608 2923003274661805836407369665432566039311865085952, .mk 12 16371 4384504911992708754611054498148849058967797628928 5846006549323611672814739330865132078623730171904, .mk 18 16365 6576757367989063131916581747223273588451696443392 11692013098647223345629478661730264157247460343808, .mk 32 16351 11692013098647223345629478661730264157247460343808 23384026197294446691258957323460528314494920687616, .mk 0 16383 1 46768052394588893382517914646921056628989841375232, .mk 0 16383 8388608 93536104789177786765035829293842113257979682750464, .mk 384 15999 140304157183766680147553743940763169886969524125696 187072209578355573530071658587684226515959365500928, .mk 512 15871 187072209578355573530071658587684226515959365500928 374144419156711147060143317175368453031918731001856, .mk 1089 15294 397893820763338319480953195707008052101327634825216 748288838313422294120286634350736906063837462003712, .mk 2048 14335 748288838313422294120286634350736906063837462003712 1496577676626844588240573268701473812127674924007424, .mk 4096 12287 1496577676626844588240573268701473812127674924007424 2993155353253689176481146537402947624255349848014848] (.take 0 (.take 1 (.take 2 (.take 3 (.take 4 (.take 5 (.take 6 (.take 7 (.take 8 (.take 9 (.take 10 (.all (.last 11 (.take 12 (.take 13 (.done)))))))))))))))))) (.node (.reg [0, 1, 2, 3, 4, 18, 19, 20, 21, 22] (.nil)) (.reg [0, 1, 2, 3, 4, 18, 19, 20, 21, 22] (.nil))))))) (.node (.reg [0, 1, 2, 3, 4, 18, 20, 24] (.nil)) (.join [0, 1, 3, 4, 18, 20, 24] [] (.join [0, 1, 2, 3, 4, 18, 20, 24] [(185, .c .bool)] (.reg [0, 1, 2, 3, 4, 18, 20, 24, 185] (.nil)) (.node (.reg [0, 1, 3, 4, 18, 20, 24] (.nil)) (.nil))) (.join [0, 3, 4, 18, 24] [] (.join [0, 1, 3, 4, 18, 20, 24] [(199, .c .bool)] (.reg [0, 1, 3, 4, 18, 20, 24, 199] (.nil)) (.node (.reg [0, 3, 4, 18, 24] (.nil)) (.nil))) (.join [0, 3, 4, 18, 24] [(213, .c .bool)] (.reg [0, 3, 4, 18, 24, 213] (.nil)) (.node (.reg [] (.nil)) (.nil)))))))))))))
theorem H_slices_symMergeCmpFunc_pair_Pair (x0 : SliceV) (x1 : Int) (x2 : Int) (x3 : Int) (x4 : Value) {K : Tup [] → Heap → Prop} {h0 : Heap} (h : F_slices_symMergeCmpFunc_pair_Pair x0 x1 x2 x3 x4 K h0) : HC PG f_slices_symMergeCmpFunc_pair_Pair [.slice x0.a x0.len x0.cap, .int .i64 x1, .int .i64 x2, .int .i64 x3, x4] [] K h0 := HC.intro (an := A_slices_symMergeCmpFunc_pair_Pair) (c := Tryz.f113.body.getD .skip) Tryz.mixed Tryz.func113 rfl Tryz.call113 (Nat.le_of_ble_eq_true rfl) (cst (by kernel_rfl) h)
def F_cmp_isNaN_str (x0 : ByteArray) (K : (Bool) → Heap → Prop) (h0 : Heap) : Prop :=
 K (!(x0.toList == x0.toList)) h0
def A_cmp_isNaN_str : Ann := .node (.reg [0] (.nil)) (.node (.reg [2] (.nil)) (.nil))
theorem H_cmp_isNaN_str (x0 : ByteArray) {K : Tup [.c .bool] → Heap → Prop} {h0 : Heap} (h : F_cmp_isNaN_str x0 K h0) : HC PG f_cmp_isNaN_str [.string x0] [.c .bool] K h0 := HC.intro (an := A_cmp_isNaN_str) (c := Tryz.f114.body.getD .skip) Tryz.mixed Tryz.func114 rfl Tryz.call114 (Nat.le_of_ble_eq_true rfl) (cst (by kernel_rfl) h)
def F_slices_AppendSeq_A_pair_Pair_pair_Pair (x0 : SliceV) (x1 : Value) (K : (SliceV) → Heap → Prop) (h0 : Heap) : Prop :=
 At (hnew h0 [.slice x0.a x0.len x0.cap] t_A_pair_Pair) (fun h1 =>
 RangeP PG x1 [.agg [.str, .str]] h1 (fun rdy2 bz3 (x4 : ByteArray × ByteArray) k5 h6 =>
 At (hnew h6 [.string (⟨#[]⟩ : ByteArray), .string (⟨#[]⟩ : ByteArray)] t_pair_Pair) (fun h10 =>
 (WrS h10 (some (newA h6)) 0 [.string x4.1, .string x4.2] ∧
 At (hsetL h10 (newA h6) 0 [.string x4.1, .string x4.2]) (fun h11 =>
 (h11[(Array.size h1 + 1)]? = some rdy2 ∧ At (Array.setIfInBounds h11 (Array.size h1 + 1) bz3) (fun h8 =>
 ∃ v12 : SliceV, hcell h8 (newA h0) = some (.slice v12.a v12.len v12.cap) ∧
 ∃ v13, hcell h8 (adr (newA h6) 0) = some (.string v13) ∧
 ∃ v14, hcell h8 (adr (newA h6) 1) = some (.string v14) ∧
 At (hnew h8 [.string v13, .string v14] t_pair_Pair) (fun h15 =>
 ∃ xs16, SRow h15 (some (newA h8)) (1 * 2) xs16 ∧
 AppP (some [.string (⟨#[]⟩ : ByteArray), .string (⟨#[]⟩ : ByteArray)]) 2 32 t_pair_Pair v12.a v12.len v12.cap 1 xs16 h15 (fun s17 h18 =>
 (Wr h18 (newA h0) ∧
 At (hset h18 (newA h0) (.slice s17.a s17.len s17.cap)) (fun h19 =>
 k5 none h19)))))))))) (fun h20 =>
 ∃ v23 : SliceV, hcell h20 (newA h0) = some (.slice v23.a v23.len v23.cap) ∧
 (h20[(Array.size h1)]? = some (.deferred (some [])) ∧ At (Array.setIfInBounds h20 (Array.size h1) (.deferred none)) (fun h24 =>
 K v23 h24))) (fun i9 h21 =>
 bif Nat.beq i9 0 then (
 ∃ v25 : SliceV, hcell h21 (newA h0) = some (.slice v25.a v25.len v25.cap) ∧
 (h21[(Array.size h1)]? = some (.deferred (some [])) ∧ At (Array.setIfInBounds h21 (Array.size h1) (.deferred none)) (fun h26 =>
 K v25 h26))) else (
 False)) (fun h22 =>
 (h22[(Array.size h1)]? = some (.deferred (some [])) ∧ At (Array.setIfInBounds h22 (Array.size h1) (.deferred none)) (fun h27 =>
 K ⟨none, 0, 0⟩ h27))))
def A_slices_AppendSeq_A_pair_Pair_pair_Pair : Ann := .node (.reg [1, 2, 4] (.nil)) (.node (.node (.reg [2, 4, 6] (.nil)) (.rf [.agg [.str, .str]] (.reg [2, 5] (.nil)) (.reg [] (.nil)))) (.node (.reg [4] (.nil)) (.nil)))
theorem H_slices_AppendSeq_A_pair_Pair_pair_Pair (x0 : SliceV) (x1 : Value) {K : Tup [.c .slice] → Heap → Prop} {h0 : Heap} (h : F_slices_AppendSeq_A_pair_Pair_pair_Pair x0 x1 K h0) : HC PG f_slices_AppendSeq_A_pair_Pair_pair_Pair [.slice x0.a x0.len x0.cap, x1] [.c .slice] K h0 := HC.introM (an := A_slices_AppendSeq_A_pair_Pair_pair_Pair) (c := Tryz.f115.body.getD .skip) Tryz.mixed Tryz.func115 rfl Tryz.call115 (Nat.le_of_ble_eq_true rfl) (cst (by kernel_rfl) h)
def F_span_Each_1 (x0 : Value) (y0 : Addr) (y1 : Addr) (y2 : Addr) (K : (Unit) → Heap → Prop) (h0 : Heap) : Prop :=
 ∃ v1, hcell h0 y0 = some (.pointer v1) ∧
 ∃ v2, hcell h0 (adr y1 0) = some (.string v2) ∧
 ∃ v3, hcell h0 (adr y1 1) = some (.string v3) ∧
 ∃ v4, hcell h0 (adr y1 2) = some (.bool v4) ∧
 ∃ v5, hcell h0 y2 = some (.bool v5) ∧
 HC PG f_span_New [.pointer v1, .agg #[.string v2, .string v3, .bool v4], .bool v5] [.c .ptr] (fun (e6 : Option Addr) h7 =>
 LoopP (fun I8 (t9 : Unit) h10 =>
 HC PG f_span_Cursor_Next [.pointer e6] [.agg [.str, .str], .c .bool] (fun (e11 : (ByteArray × ByteArray) × Bool) h12 =>
 At (hnew h12 [.string (⟨#[]⟩ : ByteArray), .string (⟨#[]⟩ : ByteArray)] t_pair_Pair) (fun h13 =>
 (WrS h13 (some (newA h12)) 0 [.string e11.1.1, .string e11.1.2] ∧
 At (hsetL h13 (newA h12) 0 [.string e11.1.1, .string e11.1.2]) (fun h14 =>
 Join (fun (t20 : Bool) h21 =>
 CondP t20 (
 K () h21) (
 I8 () h21)) (fun J15 =>
 CondP (!e11.2) (
 J15 true h14) (
 ∃ v16, hcell h14 (adr (newA h12) 0) = some (.string v16) ∧
 ∃ v17, hcell h14 (adr (newA h12) 1) = some (.string v17) ∧
 HV PG x0 [.agg #[.string v16, .string v17]] [.c .bool] (fun (e18 : Bool) h19 =>
 J15 (!e18) h19) h14)))))) h10) () h7) h0
def A_span_Each_1 : Ann := .node (.reg [0, 5] (.nil)) (.loop [0, 5] [] (.node (.reg [0, 5, 6, 7] (.nil)) (.join [0, 5] [(24, .c .bool)] (.reg [0, 5, 24] (.nil)) (.nil))))
theorem H_span_Each_1 (x0 : Value) (y0 : Addr) (y1 : Addr) (y2 : Addr) {K : Tup [] → Heap → Prop} {h0 : Heap} (h : F_span_Each_1 x0 y0 y1 y2 K h0) : HC PG f_span_Each_1 [x0, .pointer (some y0), .pointer (some y1), .pointer (some y2)] [] K h0 := HC.intro (an := A_span_Each_1) (c := Tryz.f116.body.getD .skip) Tryz.mixed Tryz.func116 rfl Tryz.call116 (Nat.le_of_ble_eq_true rfl) (cst (by kernel_rfl) h)
theorem HE_span_Each_1 (x0 : Value) (y0 : Addr) (y1 : Addr) (y2 : Addr) {K : Tup [] → Heap → Prop} {h0 : Heap} (h : F_span_Each_1 x0 y0 y1 y2 K h0) : HE PG f_span_Each_1 [x0, .pointer (some y0), .pointer (some y1), .pointer (some y2)] [] K h0 := HE.intro (an := A_span_Each_1) (c := Tryz.f116.body.getD .skip) Tryz.mixed Tryz.func116 rfl Tryz.call116 (Nat.le_of_ble_eq_true rfl) (cst (by kernel_rfl) h)
def F_span_New (x0 : Option Addr) (x1 : ByteArray × ByteArray × Bool) (x2 : Bool) (K : (Option Addr) → Heap → Prop) (h0 : Heap) : Prop :=
 At (hnew h0 [.string x1.1, .string x1.2.1, .bool x1.2.2] t_span_Span) (fun h1 =>
 ∃ v2, hcell h1 (adr (newA h0) 0) = some (.string v2) ∧
 ∃ v3, hcell h1 (adr (newA h0) 1) = some (.string v3) ∧
 ∃ v4, hcell h1 (adr (newA h0) 2) = some (.bool v4) ∧
 At (hnew h1 [.slice none 0 0, .string v2, .string v3, .bool v4, .bool x2] t_span_Cursor) (fun h5 =>
 CondP (!(x0.isNone)) (
 ∃ a6, some (newA h1) = some a6 ∧
 ∃ v7 : SliceV, hcell h5 (adr a6 0) = some (.slice v7.a v7.len v7.cap) ∧
 At (hnew h5 [.pointer x0, .string (⟨#[]⟩ : ByteArray), .bool false] t_span_work) (fun h8 =>
 ∃ xs9, SRow h8 (some (newA h5)) (1 * 3) xs9 ∧
 AppP (some [.pointer none, .string (⟨#[]⟩ : ByteArray), .bool false]) 3 32 t_span_work v7.a v7.len v7.cap 1 xs9 h8 (fun s10 h11 =>
 ∃ a12, some (newA h1) = some a12 ∧
 (Wr h11 (adr a12 0) ∧
 At (hset h11 (adr a12 0) (.slice s10.a s10.len s10.cap)) (fun h13 =>
 K (some (newA h1)) h13))))) (
 K (some (newA h1)) h5)))
def A_span_New : Ann := .node (.reg [0, 2, 4] (.nil)) (.node (.reg [0, 7] (.nil)) (.node (.node (.reg [0, 7, 13] (.nil)) (.node (.reg [7] (.nil)) (.nil))) (.node (.reg [6] (.nil)) (.nil))))
theorem H_span_New (x0 : Option Addr) (x1 : ByteArray × ByteArray × Bool) (x2 : Bool) {K : Tup [.c .ptr] → Heap → Prop} {h0 : Heap} (h : F_span_New x0 x1 x2 K h0) : HC PG f_span_New [.pointer x0, .agg #[.string x1.1, .string x1.2.1, .bool x1.2.2], .bool x2] [.c .ptr] K h0 := HC.intro (an := A_span_New) (c := Tryz.f117.body.getD .skip) Tryz.mixed Tryz.func117 rfl Tryz.call117 (Nat.le_of_ble_eq_true rfl) (cst (by kernel_rfl) h)
def F_span_Cursor_Next (x0 : Option Addr) (K : ((ByteArray × ByteArray) × Bool) → Heap → Prop) (h0 : Heap) : Prop :=
 At (hnew h0 [.string (⟨#[]⟩ : ByteArray), .string (⟨#[]⟩ : ByteArray)] t_pair_Pair) (fun h1 =>
 CondP x0.isNone (
 (WrS h1 (some (newA h0)) 0 [.string (⟨#[]⟩ : ByteArray), .string (⟨#[]⟩ : ByteArray)] ∧
 At (hsetL h1 (newA h0) 0 [.string (⟨#[]⟩ : ByteArray), .string (⟨#[]⟩ : ByteArray)]) (fun h2 =>
 ∃ v3, hcell h2 (adr (newA h0) 0) = some (.string v3) ∧
 ∃ v4, hcell h2 (adr (newA h0) 1) = some (.string v4) ∧
 K ((v3, v4), false) h2))) (
 LoopP (fun I5 (t6 : Unit) h7 =>
 ∃ a8, x0 = some a8 ∧
 ∃ v9 : SliceV, hcell h7 (adr a8 0) = some (.slice v9.a v9.len v9.cap) ∧
 CondP (decide ((v9.len : Int) > (0 : Int))) (
 ∃ a10, x0 = some a10 ∧
 ∃ v11 : SliceV, hcell h7 (adr a10 0) = some (.slice v11.a v11.len v11.cap) ∧
 ∃ a12, x0 = some a12 ∧
 ∃ v13 : SliceV, hcell h7 (adr a12 0) = some (.slice v13.a v13.len v13.cap) ∧
 (((0 : Int) ≤ (IntKind.wrap .i64 ((v13.len : Int) - 1)) ∧ (IntKind.wrap .i64 ((v13.len : Int) - 1)) < ((v11.len : Nat) : Int)) ∧ ∃ a14, v11.a = some a14 ∧
 ∃ v15, hcell h7 (adr (adr a14 ((IntKind.wrap .i64 ((v13.len : Int) - 1)).toNat * 3)) 0) = some (.pointer v15) ∧
 ∃ v16, hcell h7 (adr (adr a14 ((IntKind.wrap .i64 ((v13.len : Int) - 1)).toNat * 3)) 1) = some (.string v16) ∧
 ∃ v17, hcell h7 (adr (adr a14 ((IntKind.wrap .i64 ((v13.len : Int) - 1)).toNat * 3)) 2) = some (.bool v17) ∧
 At (hnew h7 [.pointer none, .string (⟨#[]⟩ : ByteArray), .bool false] t_span_work) (fun h18 =>
 ((hcell h18 (adr (adr a14 ((IntKind.wrap .i64 ((v13.len : Int) - 1)).toNat * 3)) 0) = some (.pointer v15) ∧ hcell h18 (adr (adr a14 ((IntKind.wrap .i64 ((v13.len : Int) - 1)).toNat * 3)) 1) = some (.string v16) ∧ hcell h18 (adr (adr a14 ((IntKind.wrap .i64 ((v13.len : Int) - 1)).toNat * 3)) 2) = some (.bool v17)) ∧
 (hcell h18 (adr a12 0) = some (.slice v13.a v13.len v13.cap) ∧
 (hcell h18 (adr a10 0) = some (.slice v11.a v11.len v11.cap) ∧
 (WrS h18 (some (newA h7)) 0 [.pointer v15, .string v16, .bool v17] ∧
 At (hsetL h18 (newA h7) 0 [.pointer v15, .string v16, .bool v17]) (fun h19 =>
 ∃ a20, x0 = some a20 ∧
 ∃ v21 : SliceV, hcell h19 (adr a20 0) = some (.slice v21.a v21.len v21.cap) ∧
 ∃ a22, x0 = some a22 ∧
 ∃ v23 : SliceV, hcell h19 (adr a22 0) = some (.slice v23.a v23.len v23.cap) ∧
 (((0 : Int) ≤ (IntKind.wrap .i64 ((v23.len : Int) - 1)) ∧ (IntKind.wrap .i64 ((v23.len : Int) - 1)) ≤ ((v21.cap : Nat) : Int)) ∧
 Bd (subAddr v21.a 0 v21.cap 3 : Option Addr) (fun a24 => Bd (((IntKind.wrap .i64 ((v23.len : Int) - 1)).toNat) - 0 : Nat) (fun n25 => Bd (v21.cap - 0 : Nat) (fun n26 =>
 ∃ a27, x0 = some a27 ∧
 (Wr h19 (adr a27 0) ∧
 At (hset h19 (adr a27 0) (.slice a24 n25 n26)) (fun h28 =>
 ∃ v29, hcell h28 (adr (newA h7) 2) = some (.bool v29) ∧
 CondP (!v29) (
 ∃ v30, hcell h28 (adr (newA h7) 0) = some (.pointer v30) ∧
 ∃ v31, hcell h28 (adr (newA h7) 1) = some (.string v31) ∧
 ∃ v32, hcell h28 (adr (newA h7) 2) = some (.bool v32) ∧
 HC PG f_span_Cursor_push [.pointer x0, .agg #[.pointer v30, .string v31, .bool v32]] [] (fun (e33 : Unit) h34 =>
 I5 () h34) h28) (
 ∃ v35, hcell h28 (adr (newA h7) 1) = some (.string v35) ∧
 ∃ v36, hcell h28 (adr (newA h7) 0) = some (.pointer v36) ∧
 HC PG f_radix_Node_Label [.pointer v36] [.c .str] (fun (e37 : ByteArray) h38 =>
 (hcell h38 (adr (newA h7) 1) = some (.string v35) ∧
 (((v35.size + e37.size : Nat) : Int) ≤ 9223372036854775807 ∧
 ∃ v39, hcell h38 (adr (newA h7) 0) = some (.pointer v39) ∧
 HC PG f_radix_Node_Value [.pointer v39] [.c .str, .c .bool] (fun (e40 : ByteArray × Bool) h41 =>
 Join (fun (t49 : Bool) h50 =>
 CondP t49 (
 (WrS h50 (some (newA h0)) 0 [.string (v35 ++ e37), .string e40.1] ∧
 At (hsetL h50 (newA h0) 0 [.string (v35 ++ e37), .string e40.1]) (fun h51 =>
 ∃ v52, hcell h51 (adr (newA h0) 0) = some (.string v52) ∧
 ∃ v53, hcell h51 (adr (newA h0) 1) = some (.string v53) ∧
 K ((v52, v53), true) h51))) (
 I5 () h50)) (fun J42 =>
 CondP e40.2 (
 ∃ a43, x0 = some a43 ∧
 ∃ v44, hcell h41 (adr (adr a43 1) 0) = some (.string v44) ∧
 ∃ v45, hcell h41 (adr (adr a43 1) 1) = some (.string v45) ∧
 ∃ v46, hcell h41 (adr (adr a43 1) 2) = some (.bool v46) ∧
 HC PG f_span_Span_Has [.agg #[.string v44, .string v45, .bool v46], .string (v35 ++ e37)] [.c .bool] (fun (e47 : Bool) h48 =>
 J42 e47 h48) h41) (
 J42 false h41))) h38))) h28))))))))))))))) (
 (WrS h7 (some (newA h0)) 0 [.string (⟨#[]⟩ : ByteArray), .string (⟨#[]⟩ : ByteArray)] ∧
 At (hsetL h7 (newA h0) 0 [.string (⟨#[]⟩ : ByteArray), .string (⟨#[]⟩ : ByteArray)]) (fun h54 =>
 ∃ v55, hcell h54 (adr (newA h0) 0) = some (.string v55) ∧
 ∃ v56, hcell h54 (adr (newA h0) 1) = some (.string v56) ∧
 K ((v55, v56), false) h54)))) () h1))
def A_span_Cursor_Next : Ann := .node (.reg [0, 2] (.nil)) (.node (.node (.reg [0, 2, 9] (.nil)) (.node (.node (.reg [2, 3] (.nil)) (.nil)) (.nil))) (.node (.loop [0, 2] [] (.node (.node (.reg [0, 2, 16] (.nil)) (.nil)) (.node (.reg [0, 2, 4] (.draw [.mk 0 16383 1 131072, .mk 1 16382 131072 262144, .mk 2 16381 262144 524288, .mk 4 16379 524288 1048576, .mk 0 16383 1 2097152, .mk 16 16367 2097152 4194304, .mk 32 16351 4194304 8388608, .mk 64 16319 8388608 16777216, .mk 128 16255 16777216 33554432, .mk 256 16127 33554432 67108864, .mk 520 15863 68157440 134217728, .mk 1024 15359 134217728 268435456, .mk 0 16383 0 16, .mk 8191 10239 268435472 0] (.take 0 (.take 1 (.take 2 (.take 3 (.take 4 (.take 5 (.take 6 (.take 7 (.take 8 (.take 9 (.take 10 (.take 11 (.all (.last 12 (.all (.last 13 (.done))))))))))))))))))) (.node (.reg [0, 2, 4] (.draw [.mk 0 32767 1 536870912, .mk 0 32767 1 1073741824, .mk 2 32765 1073741824 2147483648, .mk 4 32763 2147483648 4294967296, .mk 8 32759 4294967296 8589934592, .mk 0 32767 1 17179869184, .mk 32 32735 17179869184 34359738368, .mk 64 32703 34359738368 68719476736, .mk 128 32639 68719476736 137438953472, .mk 256 32511 137438953472 274877906944, .mk 512 32255 274877906944 549755813888, .mk 1040 31727 558345748480 1099511627776, .mk 4095 32766 536870912 2199023255552, .mk 8191 28671 2199023255552 4398046511104, .mk 12287 22527 5497558138880 0] (.take 0 (.take 1 (.take 2 (.take 3 (.take 4 (.take 5 (.take 6 (.take 7 (.take 8 (.take 9 (.take 10 (.take 11 (.take 12 (.take 13 (.all (.last 14 (.done))))))))))))))))))) (.node (.node (.reg [0, 2, 4, 45] (.nil)) (.node (.node (.reg [0, 2] (.nil)) (.nil)) (.nil))) (.node (.reg [0, 2, 4, 5] (.draw [.mk 0 127 16 562949953421312, .mk 1 126 562949953421312 1125899906842624, .mk 0 127 16 2251799813685248, .mk 4 123 2251799813685248 4503599627370496, .mk 8 119 4503599627370496 9007199254740992, .mk 18 109 10133099161583616 18014398509481984, .mk 63 95 18014398509481984 32] (.take 0 (.take 1 (.take 2 (.take 3 (.all (.last 4 (.take 5 (.take 6 (.done))))))))))) (.node (.reg [0, 2, 5, 6, 7] (.nil)) (.join [0, 2, 5, 6] [(69, .c .bool)] (.reg [0, 2, 5, 6, 69] (.nil)) (.node (.node (.reg [2, 3] (.nil)) (.nil)) (.nil)))))))))) (.node (.reg [2, 3] (.nil)) (.nil))))
theorem H_span_Cursor_Next (x0 : Option Addr) {K : Tup [.agg [.str, .str], .c .bool] → Heap → Prop} {h0 : Heap} (h : F_span_Cursor_Next x0 K h0) : HC PG f_span_Cursor_Next [.pointer x0] [.agg [.str, .str], .c .bool] K h0 := HC.intro (an := A_span_Cursor_Next) (c := Tryz.f118.body.getD .skip) Tryz.mixed Tryz.func118 rfl Tryz.call118 (Nat.le_of_ble_eq_true rfl) (cst (by kernel_rfl) h)
def F_walk_All_1 (x0 : Value) (y0 : Addr) (K : (Unit) → Heap → Prop) (h0 : Heap) : Prop :=
 ∃ v1, hcell h0 y0 = some (.pointer v1) ∧
 HC PG f_walk_New [.pointer v1] [.c .ptr] (fun (e2 : Option Addr) h3 =>
 LoopP (fun I4 (t5 : Unit) h6 =>
 HC PG f_walk_Cursor_Next [.pointer e2] [.agg [.str, .str], .c .bool] (fun (e7 : (ByteArray × ByteArray) × Bool) h8 =>
 At (hnew h8 [.string (⟨#[]⟩ : ByteArray), .string (⟨#[]⟩ : ByteArray)] t_pair_Pair) (fun h9 =>
 (WrS h9 (some (newA h8)) 0 [.string e7.1.1, .string e7.1.2] ∧
 At (hsetL h9 (newA h8) 0 [.string e7.1.1, .string e7.1.2]) (fun h10 =>
 Join (fun (t16 : Bool) h17 =>
 CondP t16 (
 K () h17) (
 I4 () h17)) (fun J11 =>
 CondP (!e7.2) (
 J11 true h10) (
 ∃ v12, hcell h10 (adr (newA h8) 0) = some (.string v12) ∧
 ∃ v13, hcell h10 (adr (newA h8) 1) = some (.string v13) ∧
 HV PG x0 [.agg #[.string v12, .string v13]] [.c .bool] (fun (e14 : Bool) h15 =>
 J11 (!e14) h15) h10)))))) h6) () h3) h0
def A_walk_All_1 : Ann := .node (.reg [0, 3] (.nil)) (.loop [0, 3] [] (.node (.reg [0, 3, 4, 5] (.nil)) (.join [0, 3] [(20, .c .bool)] (.reg [0, 3, 20] (.nil)) (.nil))))
theorem H_walk_All_1 (x0 : Value) (y0 : Addr) {K : Tup [] → Heap → Prop} {h0 : Heap} (h : F_walk_All_1 x0 y0 K h0) : HC PG f_walk_All_1 [x0, .pointer (some y0)] [] K h0 := HC.intro (an := A_walk_All_1) (c := Tryz.f119.body.getD .skip) Tryz.mixed Tryz.func119 rfl Tryz.call119 (Nat.le_of_ble_eq_true rfl) (cst (by kernel_rfl) h)
theorem HE_walk_All_1 (x0 : Value) (y0 : Addr) {K : Tup [] → Heap → Prop} {h0 : Heap} (h : F_walk_All_1 x0 y0 K h0) : HE PG f_walk_All_1 [x0, .pointer (some y0)] [] K h0 := HE.intro (an := A_walk_All_1) (c := Tryz.f119.body.getD .skip) Tryz.mixed Tryz.func119 rfl Tryz.call119 (Nat.le_of_ble_eq_true rfl) (cst (by kernel_rfl) h)
def F_walk_New (x0 : Option Addr) (K : (Option Addr) → Heap → Prop) (h0 : Heap) : Prop :=
 HC PG f_walk_of [.pointer x0] [.agg [.slice, .slice]] (fun (e1 : SliceV × SliceV) h2 =>
 At (hnew h2 [.slice e1.1.a e1.1.len e1.1.cap, .slice e1.2.a e1.2.len e1.2.cap] t_walk_frame) (fun h3 =>
 At (hnew h3 [.slice (some (newA h2)) 1 1, .int .i64 0] t_walk_Cursor) (fun h4 =>
 K (some (newA h3)) h4))) h0
def A_walk_New : Ann := .node (.reg [0] (.nil)) (.node (.reg [2] (.nil)) (.nil))
theorem H_walk_New (x0 : Option Addr) {K : Tup [.c .ptr] → Heap → Prop} {h0 : Heap} (h : F_walk_New x0 K h0) : HC PG f_walk_New [.pointer x0] [.c .ptr] K h0 := HC.intro (an := A_walk_New) (c := Tryz.f120.body.getD .skip) Tryz.mixed Tryz.func120 rfl Tryz.call120 (Nat.le_of_ble_eq_true rfl) (cst (by kernel_rfl) h)
def F_walk_Cursor_Next (x0 : Option Addr) (K : ((ByteArray × ByteArray) × Bool) → Heap → Prop) (h0 : Heap) : Prop :=
 At (hnew h0 [.string (⟨#[]⟩ : ByteArray), .string (⟨#[]⟩ : ByteArray)] t_pair_Pair) (fun h1 =>
 CondP x0.isNone (
 (WrS h1 (some (newA h0)) 0 [.string (⟨#[]⟩ : ByteArray), .string (⟨#[]⟩ : ByteArray)] ∧
 At (hsetL h1 (newA h0) 0 [.string (⟨#[]⟩ : ByteArray), .string (⟨#[]⟩ : ByteArray)]) (fun h2 =>
 ∃ v3, hcell h2 (adr (newA h0) 0) = some (.string v3) ∧
 ∃ v4, hcell h2 (adr (newA h0) 1) = some (.string v4) ∧
 K ((v3, v4), false) h2))) (
 LoopP (fun I5 (t6 : Unit) h7 =>
 ∃ a8, x0 = some a8 ∧
 ∃ v9 : SliceV, hcell h7 (adr a8 0) = some (.slice v9.a v9.len v9.cap) ∧
 CondP (decide ((v9.len : Int) > (0 : Int))) (
 ∃ a10, x0 = some a10 ∧
 ∃ v11 : SliceV, hcell h7 (adr a10 0) = some (.slice v11.a v11.len v11.cap) ∧
 ∃ a12, x0 = some a12 ∧
 ∃ v13 : SliceV, hcell h7 (adr a12 0) = some (.slice v13.a v13.len v13.cap) ∧
 (((0 : Int) ≤ (IntKind.wrap .i64 ((v13.len : Int) - 1)) ∧ (IntKind.wrap .i64 ((v13.len : Int) - 1)) < ((v11.len : Nat) : Int)) ∧ ∃ a14, v11.a = some a14 ∧
 ∃ a15, some (adr a14 ((IntKind.wrap .i64 ((v13.len : Int) - 1)).toNat * 2)) = some a15 ∧
 ∃ v16 : SliceV, hcell h7 (adr a15 0) = some (.slice v16.a v16.len v16.cap) ∧
 CondP (decide ((v16.len : Int) > (0 : Int))) (
 ∃ a17, some (adr a14 ((IntKind.wrap .i64 ((v13.len : Int) - 1)).toNat * 2)) = some a17 ∧
 ∃ v18 : SliceV, hcell h7 (adr a17 0) = some (.slice v18.a v18.len v18.cap) ∧
 (((0 : Int) ≤ (0 : Int) ∧ (0 : Int) < ((v18.len : Nat) : Int)) ∧ ∃ a19, v18.a = some a19 ∧
 ∃ v20, hcell h7 (adr (adr a19 ((0 : Int).toNat * 2)) 0) = some (.string v20) ∧
 ∃ v21, hcell h7 (adr (adr a19 ((0 : Int).toNat * 2)) 1) = some (.string v21) ∧
 At (hnew h7 [.string (⟨#[]⟩ : ByteArray), .string (⟨#[]⟩ : ByteArray)] t_pair_Pair) (fun h22 =>
 (WrS h22 (some (newA h7)) 0 [.string v20, .string v21] ∧
 At (hsetL h22 (newA h7) 0 [.string v20, .string v21]) (fun h23 =>
 ∃ a24, some (adr a14 ((IntKind.wrap .i64 ((v13.len : Int) - 1)).toNat * 2)) = some a24 ∧
 ∃ v25 : SliceV, hcell h23 (adr a24 0) = some (.slice v25.a v25.len v25.cap) ∧
 (((0 : Int) ≤ (1 : Int) ∧ (1 : Int) ≤ ((v25.len : Nat) : Int)) ∧
 ∃ a26, some (adr a14 ((IntKind.wrap .i64 ((v13.len : Int) - 1)).toNat * 2)) = some a26 ∧
 (Wr h23 (adr a26 0) ∧
 At (hset h23 (adr a26 0) (.slice (subAddr v25.a ((1 : Int).toNat) v25.cap 2) (v25.len - ((1 : Int).toNat)) (v25.cap - ((1 : Int).toNat)))) (fun h27 =>
 ∃ a28, x0 = some a28 ∧
 ∃ v29 : SliceV, hcell h27 (adr a28 0) = some (.slice v29.a v29.len v29.cap) ∧
 ∃ a30, x0 = some a30 ∧
 (Wr h27 (adr a30 1) ∧
 At (hset h27 (adr a30 1) (.int .i64 (v29.len : Int))) (fun h31 =>
 ∃ v32, hcell h31 (adr (newA h7) 0) = some (.string v32) ∧
 ∃ v33, hcell h31 (adr (newA h7) 1) = some (.string v33) ∧
 (WrS h31 (some (newA h0)) 0 [.string v32, .string v33] ∧
 At (hsetL h31 (newA h0) 0 [.string v32, .string v33]) (fun h34 =>
 ∃ v35, hcell h34 (adr (newA h0) 0) = some (.string v35) ∧
 ∃ v36, hcell h34 (adr (newA h0) 1) = some (.string v36) ∧
 K ((v35, v36), true) h34)))))))))))) (
 ∃ a37, some (adr a14 ((IntKind.wrap .i64 ((v13.len : Int) - 1)).toNat * 2)) = some a37 ∧
 ∃ v38 : SliceV, hcell h7 (adr a37 1) = some (.slice v38.a v38.len v38.cap) ∧
 CondP (decide ((v38.len : Int) > (0 : Int))) (
 ∃ a39, some (adr a14 ((IntKind.wrap .i64 ((v13.len : Int) - 1)).toNat * 2)) = some a39 ∧
 ∃ v40 : SliceV, hcell h7 (adr a39 1) = some (.slice v40.a v40.len v40.cap) ∧
 (((0 : Int) ≤ (0 : Int) ∧ (0 : Int) < ((v40.len : Nat) : Int)) ∧ ∃ a41, v40.a = some a41 ∧
 ∃ v42, hcell h7 (adr a41 ((0 : Int).toNat * 1)) = some (.pointer v42) ∧
 ∃ a43, some (adr a14 ((IntKind.wrap .i64 ((v13.len : Int) - 1)).toNat * 2)) = some a43 ∧
 ∃ v44 : SliceV, hcell h7 (adr a43 1) = some (.slice v44.a v44.len v44.cap) ∧
 (((0 : Int) ≤ (1 : Int) ∧ (1 : Int) ≤ ((v44.len : Nat) : Int)) ∧
 ∃ a45, some (adr a14 ((IntKind.wrap .i64 ((v13.len : Int) - 1)).toNat * 2)) = some a45 ∧
 (Wr h7 (adr a45 1) ∧
 At (hset h7 (adr a45 1) (.slice (subAddr v44.a ((1 : Int).toNat) v44.cap 1) (v44.len - ((1 : Int).toNat)) (v44.cap - ((1 : Int).toNat)))) (fun h46 =>
 ∃ a47, x0 = some a47 ∧
 ∃ v48 : SliceV, hcell h46 (adr a47 0) = some (.slice v48.a v48.len v48.cap) ∧
 HC PG f_walk_of [.pointer v42] [.agg [.slice, .slice]] (fun (e49 : SliceV × SliceV) h50 =>
 (hcell h50 (adr a47 0) = some (.slice v48.a v48.len v48.cap) ∧
 At (hnew h50 [.slice e49.1.a e49.1.len e49.1.cap, .slice e49.2.a e49.2.len e49.2.cap] t_walk_frame) (fun h51 =>
 (hcell h51 (adr a47 0) = some (.slice v48.a v48.len v48.cap) ∧
 ∃ xs52, SRow h51 (some (newA h50)) (1 * 2) xs52 ∧
 AppP (some [.slice none 0 0, .slice none 0 0]) 2 48 t_walk_frame v48.a v48.len v48.cap 1 xs52 h51 (fun s53 h54 =>
 ∃ a55, x0 = some a55 ∧
 (Wr h54 (adr a55 0) ∧
 At (hset h54 (adr a55 0) (.slice s53.a s53.len s53.cap)) (fun h56 =>
 I5 () h56))))))) h46))))) (
 ∃ a57, x0 = some a57 ∧
 ∃ v58 : SliceV, hcell h7 (adr a57 0) = some (.slice v58.a v58.len v58.cap) ∧
 ∃ a59, x0 = some a59 ∧
 ∃ v60 : SliceV, hcell h7 (adr a59 0) = some (.slice v60.a v60.len v60.cap) ∧
 (((0 : Int) ≤ (IntKind.wrap .i64 ((v60.len : Int) - 1)) ∧ (IntKind.wrap .i64 ((v60.len : Int) - 1)) ≤ ((v58.cap : Nat) : Int)) ∧
 Bd (subAddr v58.a 0 v58.cap 2 : Option Addr) (fun a61 => Bd (((IntKind.wrap .i64 ((v60.len : Int) - 1)).toNat) - 0 : Nat) (fun n62 => Bd (v58.cap - 0 : Nat) (fun n63 =>
 ∃ a64, x0 = some a64 ∧
 (Wr h7 (adr a64 0) ∧
 At (hset h7 (adr a64 0) (.slice a61 n62 n63)) (fun h65 =>
 I5 () h65)))))))))) (
 ∃ a66, x0 = some a66 ∧
 (Wr h7 (adr a66 1) ∧
 At (hset h7 (adr a66 1) (.int .i64 0)) (fun h67 =>
 (WrS h67 (some (newA h0)) 0 [.string (⟨#[]⟩ : ByteArray), .string (⟨#[]⟩ : ByteArray)] ∧
 At (hsetL h67 (newA h0) 0 [.string (⟨#[]⟩ : ByteArray), .string (⟨#[]⟩ : ByteArray)]) (fun h68 =>
 ∃ v69, hcell h68 (adr (newA h0) 0) = some (.string v69) ∧
 ∃ v70, hcell h68 (adr (newA h0) 1) = some (.string v70) ∧
 K ((v69, v70), false) h68)))))) () h1))
def A_walk_Cursor_Next : Ann := .node (.reg [0, 2] (.nil)) (.node (.node (.reg [0, 2, 8] (.nil)) (.node (.node (.reg [2, 3] (.nil)) (.nil)) (.nil))) (.node (.loop [0, 2] [] (.node (.node (.reg [0, 2, 15] (.nil)) (.nil)) (.node (.reg [0, 2, 4] (.draw [.mk 0 4095 1 65536, .mk 1 4094 65536 131072, .mk 2 4093 131072 262144, .mk 4 4091 262144 524288, .mk 0 4095 1 1048576, .mk 16 4079 1048576 2097152, .mk 32 4063 2097152 4194304, .mk 64 4031 4194304 8388608, .mk 128 3967 8388608 16777216, .mk 256 3839 16777216 33554432, .mk 520 3575 34078720 67108864, .mk 2047 3071 67108864 16] (.take 0 (.take 1 (.take 2 (.take 3 (.take 4 (.take 5 (.take 6 (.take 7 (.take 8 (.take 9 (.take 10 (.take 11 (.done))))))))))))))) (.node (.reg [0, 2, 4, 41] (.nil)) (.node (.node (.reg [0, 2, 4, 5] (.nil)) (.node (.reg [0, 2, 5] (.nil)) (.node (.reg [2, 5] (.nil)) (.node (.reg [2, 3] (.nil)) (.nil))))) (.node (.reg [0, 2, 4, 71] (.nil)) (.node (.node (.reg [0, 2, 4, 6] (.nil)) (.node (.reg [0, 2, 6] (.nil)) (.reg [0, 2] (.draw [.mk 0 4095 1 4951760157141521099596496896, .mk 0 4095 1 9903520314283042199192993792, .mk 2 4093 9903520314283042199192993792 19807040628566084398385987584, .mk 4 4091 19807040628566084398385987584 39614081257132168796771975168, .mk 8 4087 39614081257132168796771975168 79228162514264337593543950336, .mk 0 4095 64 158456325028528675187087900672, .mk 32 4063 158456325028528675187087900672 316912650057057350374175801344, .mk 64 4031 316912650057057350374175801344 633825300114114700748351602688, .mk 208 3951 713053462628379038341895553024 1267650600228229401496703205376, .mk 511 4094 4951760157141521099596496896 2535301200456458802993406410752, .mk 1023 3583 2535301200456458802993406410752 5070602400912917605986812821504, .mk 1535 2815 6338253001141147007483516026880 0] (.take 0 (.take 1 (.take 2 (.take 3 (.take 4 (.take 5 (.all (.last 6 (.all (.last 7 (.all (.last 8 (.take 9 (.take 10 (.all (.last 11 (.done))))))))))))))))))))) (.reg [0, 2] (.draw [.mk 0 32767 1 134217728, .mk 0 32767 1 268435456, .mk 2 32765 268435456 536870912, .mk 4 32763 536870912 1073741824, .mk 8 32759 1073741824 2147483648, .mk 0 32767 1 4294967296, .mk 32 32735 4294967296 8589934592, .mk 64 32703 8589934592 17179869184, .mk 128 32639 17179869184 34359738368, .mk 256 32511 34359738368 68719476736, .mk 512 32255 68719476736 137438953472, .mk 1040 31727 139586437120 274877906944, .mk 4095 32766 134217728 549755813888, .mk 8191 28671 549755813888 1099511627776, .mk 12287 22527 1374389534720 0] (.take 0 (.take 1 (.take 2 (.take 3 (.take 4 (.take 5 (.take 6 (.take 7 (.take 8 (.take 9 (.take 10 (.take 11 (.take 12 (.take 13 (.all (.last 14 (.done)))))))))))))))))))))))))) (.node (.reg [2] (.nil)) (.node (.reg [2, 3] (.nil)) (.nil)))))
theorem H_walk_Cursor_Next (x0 : Option Addr) {K : Tup [.agg [.str, .str], .c .bool] → Heap → Prop} {h0 : Heap} (h : F_walk_Cursor_Next x0 K h0) : HC PG f_walk_Cursor_Next [.pointer x0] [.agg [.str, .str], .c .bool] K h0 := HC.intro (an := A_walk_Cursor_Next) (c := Tryz.f121.body.getD .skip) Tryz.mixed Tryz.func121 rfl Tryz.call121 (Nat.le_of_ble_eq_true rfl) (cst (by kernel_rfl) h)
def F_radix_Node_Value (x0 : Option Addr) (K : (ByteArray × Bool) → Heap → Prop) (h0 : Heap) : Prop :=
 CondP x0.isNone (
 K ((⟨#[]⟩ : ByteArray), false) h0) (
 ∃ a1, x0 = some a1 ∧
 ∃ v2, hcell h0 (adr a1 2) = some (.string v2) ∧
 ∃ a3, x0 = some a3 ∧
 ∃ v4, hcell h0 (adr a3 1) = some (.bool v4) ∧
 K (v2, v4) h0)
def A_radix_Node_Value : Ann := .node (.reg [0] (.nil)) (.node (.node (.reg [0, 5] (.nil)) (.node (.node (.reg [2, 3] (.nil)) (.nil)) (.nil))) (.node (.reg [2, 3] (.draw [.mk 0 1023 1 64, .mk 1 1022 64 128, .mk 2 1021 128 256, .mk 4 1019 256 512, .mk 0 1023 1 1024, .mk 16 1007 1024 2048, .mk 32 991 2048 4096, .mk 64 959 4096 8192, .mk 15 1015 512 4, .mk 511 895 8192 8] (.take 0 (.take 1 (.take 2 (.take 3 (.take 4 (.take 5 (.take 6 (.take 7 (.take 8 (.take 9 (.done))))))))))))) (.nil)))
theorem H_radix_Node_Value (x0 : Option Addr) {K : Tup [.c .str, .c .bool] → Heap → Prop} {h0 : Heap} (h : F_radix_Node_Value x0 K h0) : HC PG f_radix_Node_Value [.pointer x0] [.c .str, .c .bool] K h0 := HC.intro (an := A_radix_Node_Value) (c := Tryz.f122.body.getD .skip) Tryz.mixed Tryz.func122 rfl Tryz.call122 (Nat.le_of_ble_eq_true rfl) (cst (by kernel_rfl) h)
def F_radix_Node_Kids (x0 : Option Addr) (K : (SliceV) → Heap → Prop) (h0 : Heap) : Prop :=
 CondP x0.isNone (
 K ⟨none, 0, 0⟩ h0) (
 ∃ a1, x0 = some a1 ∧
 ∃ v2 : SliceV, hcell h0 (adr a1 3) = some (.slice v2.a v2.len v2.cap) ∧
 HC PG f_slices_Clone_A_P_radix_Node_P_radix_Node [.slice v2.a v2.len v2.cap] [.c .slice] (fun (e3 : SliceV) h4 =>
 K e3 h4) h0)
def A_radix_Node_Kids : Ann := .node (.reg [0] (.nil)) (.node (.node (.reg [0, 4] (.nil)) (.node (.node (.reg [2] (.nil)) (.nil)) (.nil))) (.node (.reg [2] (.nil)) (.nil)))
theorem H_radix_Node_Kids (x0 : Option Addr) {K : Tup [.c .slice] → Heap → Prop} {h0 : Heap} (h : F_radix_Node_Kids x0 K h0) : HC PG f_radix_Node_Kids [.pointer x0] [.c .slice] K h0 := HC.intro (an := A_radix_Node_Kids) (c := Tryz.f123.body.getD .skip) Tryz.mixed Tryz.func123 rfl Tryz.call123 (Nat.le_of_ble_eq_true rfl) (cst (by kernel_rfl) h)
def F_node_Node_Pairs (x0 : Option Addr) (K : (SliceV) → Heap → Prop) (h0 : Heap) : Prop :=
 CondP x0.isNone (
 K ⟨none, 0, 0⟩ h0) (
 ∃ a1, x0 = some a1 ∧
 ∃ v2 : SliceV, hcell h0 (adr (adr a1 0) 2) = some (.slice v2.a v2.len v2.cap) ∧
 HC PG f_slices_Clone_A_pair_Pair_pair_Pair [.slice v2.a v2.len v2.cap] [.c .slice] (fun (e3 : SliceV) h4 =>
 K e3 h4) h0)
def A_node_Node_Pairs : Ann := .node (.reg [0] (.nil)) (.node (.node (.reg [0, 4] (.nil)) (.node (.node (.reg [2] (.nil)) (.nil)) (.nil))) (.node (.reg [2] (.nil)) (.nil)))
theorem H_node_Node_Pairs (x0 : Option Addr) {K : Tup [.c .slice] → Heap → Prop} {h0 : Heap} (h : F_node_Node_Pairs x0 K h0) : HC PG f_node_Node_Pairs [.pointer x0] [.c .slice] K h0 := HC.intro (an := A_node_Node_Pairs) (c := Tryz.f124.body.getD .skip) Tryz.mixed Tryz.func124 rfl Tryz.call124 (Nat.le_of_ble_eq_true rfl) (cst (by kernel_rfl) h)
def F_node_Node_Kids (x0 : Option Addr) (K : (SliceV) → Heap → Prop) (h0 : Heap) : Prop :=
 CondP x0.isNone (
 K ⟨none, 0, 0⟩ h0) (
 ∃ a1, x0 = some a1 ∧
 ∃ v2 : SliceV, hcell h0 (adr (adr a1 0) 3) = some (.slice v2.a v2.len v2.cap) ∧
 HC PG f_slices_Clone_A_P_node_Node_P_node_Node [.slice v2.a v2.len v2.cap] [.c .slice] (fun (e3 : SliceV) h4 =>
 K e3 h4) h0)
def A_node_Node_Kids : Ann := .node (.reg [0] (.nil)) (.node (.node (.reg [0, 4] (.nil)) (.node (.node (.reg [2] (.nil)) (.nil)) (.nil))) (.node (.reg [2] (.nil)) (.nil)))
theorem H_node_Node_Kids (x0 : Option Addr) {K : Tup [.c .slice] → Heap → Prop} {h0 : Heap} (h : F_node_Node_Kids x0 K h0) : HC PG f_node_Node_Kids [.pointer x0] [.c .slice] K h0 := HC.intro (an := A_node_Node_Kids) (c := Tryz.f125.body.getD .skip) Tryz.mixed Tryz.func125 rfl Tryz.call125 (Nat.le_of_ble_eq_true rfl) (cst (by kernel_rfl) h)
def F_radix_Node_own (x0 : Option Addr) (x1 : Option Addr) (K : (Option Addr) → Heap → Prop) (h0 : Heap) : Prop :=
 HC PG f_radix_Node_Owned [.pointer x0, .pointer x1] [.c .bool] (fun (e1 : Bool) h2 =>
 CondP e1 (
 K x0 h2) (
 ∃ a3, x0 = some a3 ∧
 ∃ v4, hcell h2 (adr a3 0) = some (.string v4) ∧
 ∃ v5, hcell h2 (adr a3 1) = some (.bool v5) ∧
 ∃ v6, hcell h2 (adr a3 2) = some (.string v6) ∧
 ∃ v7 : SliceV, hcell h2 (adr a3 3) = some (.slice v7.a v7.len v7.cap) ∧
 ∃ v8, hcell h2 (adr a3 4) = some (.pointer v8) ∧
 At (hnew h2 [.string (⟨#[]⟩ : ByteArray), .bool false, .string (⟨#[]⟩ : ByteArray), .slice none 0 0, .pointer none] t_radix_Node) (fun h9 =>
 (WrS h9 (some (newA h2)) 0 [.string v4, .bool v5, .string v6, .slice v7.a v7.len v7.cap, .pointer v8] ∧
 At (hsetL h9 (newA h2) 0 [.string v4, .bool v5, .string v6, .slice v7.a v7.len v7.cap, .pointer v8]) (fun h10 =>
 ∃ a11, x0 = some a11 ∧
 ∃ v12 : SliceV, hcell h10 (adr a11 3) = some (.slice v12.a v12.len v12.cap) ∧
 HC PG f_slices_Clone_A_P_radix_Node_P_radix_Node [.slice v12.a v12.len v12.cap] [.c .slice] (fun (e13 : SliceV) h14 =>
 (Wr h14 (adr (newA h2) 3) ∧
 At (hset h14 (adr (newA h2) 3) (.slice e13.a e13.len e13.cap)) (fun h15 =>
 (Wr h15 (adr (newA h2) 4) ∧
 At (hset h15 (adr (newA h2) 4) (.pointer none)) (fun h16 =>
 HC PG f_token_Token_Live [.pointer x1] [.c .bool] (fun (e17 : Bool) h18 =>
 CondP e17 (
 (Wr h18 (adr (newA h2) 4) ∧
 At (hset h18 (adr (newA h2) 4) (.pointer x1)) (fun h19 =>
 K (some (newA h2)) h19))) (
 K (some (newA h2)) h18)) h16))))) h10))))) h0
def A_radix_Node_own : Ann := .node (.reg [0, 1] (.nil)) (.node (.node (.reg [0, 1, 8] (.nil)) (.node (.node (.reg [4] (.nil)) (.nil)) (.nil))) (.node (.reg [0, 1, 5] (.nil)) (.node (.reg [1, 5] (.nil)) (.node (.reg [1, 5] (.nil)) (.node (.node (.reg [1, 5, 21] (.nil)) (.node (.reg [5] (.nil)) (.nil))) (.node (.reg [4] (.nil)) (.nil)))))))
theorem H_radix_Node_own (x0 : Option Addr) (x1 : Option Addr) {K : Tup [.c .ptr] → Heap → Prop} {h0 : Heap} (h : F_radix_Node_own x0 x1 K h0) : HC PG f_radix_Node_own [.pointer x0, .pointer x1] [.c .ptr] K h0 := HC.intro (an := A_radix_Node_own) (c := Tryz.f127.body.getD .skip) Tryz.mixed Tryz.func127 rfl Tryz.call127 (Nat.le_of_ble_eq_true rfl) (cst (by kernel_rfl) h)
def F_radix_Node_valued (x0 : Option Addr) (x1 : ByteArray) (K : (Option Addr) → Heap → Prop) (h0 : Heap) : Prop :=
 ∃ a1, x0 = some a1 ∧
 (Wr h0 (adr a1 1) ∧
 At (hset h0 (adr a1 1) (.bool true)) (fun h2 =>
 ∃ a3, x0 = some a3 ∧
 (Wr h2 (adr a3 2) ∧
 At (hset h2 (adr a3 2) (.string x1)) (fun h4 =>
 K x0 h4))))
def A_radix_Node_valued : Ann := .node (.reg [0, 1] (.nil)) (.node (.reg [0] (.nil)) (.node (.reg [4] (.nil)) (.nil)))
theorem H_radix_Node_valued (x0 : Option Addr) (x1 : ByteArray) {K : Tup [.c .ptr] → Heap → Prop} {h0 : Heap} (h : F_radix_Node_valued x0 x1 K h0) : HC PG f_radix_Node_valued [.pointer x0, .string x1] [.c .ptr] K h0 := HC.intro (an := A_radix_Node_valued) (c := Tryz.f128.body.getD .skip) Tryz.mixed Tryz.func128 rfl Tryz.call128 (Nat.le_of_ble_eq_true rfl) (cst (by kernel_rfl) h)
def F_radix_Node_find (x0 : Option Addr) (x1 : Int) (K : (Int × Bool) → Heap → Prop) (h0 : Heap) : Prop :=
 ∃ a1, x0 = some a1 ∧
 ∃ v2 : SliceV, hcell h0 (adr a1 3) = some (.slice v2.a v2.len v2.cap) ∧
 HC PG f_slices_BinarySearchFunc_A_P_radix_Node_P_radix_Node_byte [.slice v2.a v2.len v2.cap, .int .u8 x1, .func (.func f_radix_Node_find_1) #[] #[]] [.c (.int .i64), .c .bool] (fun (e3 : Int × Bool) h4 =>
 K (e3.1, e3.2) h4) h0
def A_radix_Node_find : Ann := .node (.reg [0, 1] (.nil)) (.node (.reg [4, 5] (.nil)) (.nil))
theorem H_radix_Node_find (x0 : Option Addr) (x1 : Int) {K : Tup [.c (.int .i64), .c .bool] → Heap → Prop} {h0 : Heap} (h : F_radix_Node_find x0 x1 K h0) : HC PG f_radix_Node_find [.pointer x0, .int .u8 x1] [.c (.int .i64), .c .bool] K h0 := HC.intro (an := A_radix_Node_find) (c := Tryz.f129.body.getD .skip) Tryz.mixed Tryz.func129 rfl Tryz.call129 (Nat.le_of_ble_eq_true rfl) (cst (by kernel_rfl) h)
def F_slices_Insert_A_P_radix_Node_P_radix_Node (x0 : SliceV) (x1 : Int) (x2 : SliceV) (K : (SliceV) → Heap → Prop) (h0 : Heap) : Prop :=
 (((0 : Int) ≤ x1 ∧ x1 ≤ ((x0.len : Nat) : Int)) ∧
 CondP ((x2.len : Int) == (0 : Int)) (
 K x0 h0) (
 CondP (x1 == (x0.len : Int)) (
 ∃ xs1, SRow h0 x2.a (x2.len * 1) xs1 ∧
 AppP (some [.pointer none]) 1 8 t_P_radix_Node x0.a x0.len x0.cap x2.len xs1 h0 (fun s2 h3 =>
 K s2 h3)) (
 CondP (decide ((IntKind.wrap .i64 ((x0.len : Int) + (x2.len : Int))) > (x0.cap : Int))) (
 Join (fun (t8 : SliceV) h9 =>
 (((0 : Int) ≤ x1 ∧ x1 ≤ ((t8.len : Nat) : Int)) ∧
 ∃ xs10, SRow h9 x2.a (Nat.min x2.len (t8.len - x1.toNat) * 1) xs10 ∧ WrS h9 (subAddr t8.a x1.toNat t8.cap 1) 0 xs10 ∧ oneCell xs10 = true ∧
 At (hsetS h9 (subAddr t8.a x1.toNat t8.cap 1) 0 xs10) (fun h11 =>
 (((0 : Int) ≤ (IntKind.wrap .i64 (x1 + (x2.len : Int))) ∧ (IntKind.wrap .i64 (x1 + (x2.len : Int))) ≤ ((t8.len : Nat) : Int)) ∧
 Bd (subAddr t8.a ((IntKind.wrap .i64 (x1 + (x2.len : Int))).toNat) t8.cap 1 : Option Addr) (fun a12 => Bd (t8.len - ((IntKind.wrap .i64 (x1 + (x2.len : Int))).toNat) : Nat) (fun n13 => Bd (t8.cap - ((IntKind.wrap .i64 (x1 + (x2.len : Int))).toNat) : Nat) (fun n14 =>
 (((0 : Int) ≤ x1 ∧ x1 ≤ ((x0.len : Nat) : Int)) ∧
 ∃ xs15, SRow h11 (subAddr x0.a x1.toNat x0.cap 1) (Nat.min (x0.len - x1.toNat) n13 * 1) xs15 ∧ WrS h11 a12 0 xs15 ∧ oneCell xs15 = true ∧
 At (hsetS h11 a12 0 xs15) (fun h16 =>
 K t8 h16))))))))) (fun J4 =>
 (((0 : Int) ≤ x1 ∧ x1 ≤ ((x0.cap : Nat) : Int)) ∧
 Bd (IntKind.wrap .i64 ((IntKind.wrap .i64 ((x0.len : Int) + (x2.len : Int))) - x1) : Int) (fun n5 =>
 (((0 : Int) ≤ n5 ∧ n5 * ((8 : Nat) : Int) ≤ 2 ^ 48 ∧ n5 ≤ 9223372036854775807 ∧ (((x1.toNat - 0) + n5.toNat : Nat) : Int) ≤ 9223372036854775807) ∧
 AppP (some [.pointer none]) 1 8 t_P_radix_Node (subAddr x0.a 0 x0.cap 1) (x1.toNat - 0) (x0.cap - 0) n5.toNat (zrow n5.toNat [.pointer none]) h0 (fun s6 h7 =>
 J4 s6 h7)))))) (
 (((0 : Int) ≤ (IntKind.wrap .i64 ((x0.len : Int) + (x2.len : Int))) ∧ (IntKind.wrap .i64 ((x0.len : Int) + (x2.len : Int))) ≤ ((x0.cap : Nat) : Int)) ∧
 Bd (subAddr x0.a 0 x0.cap 1 : Option Addr) (fun a17 => Bd (((IntKind.wrap .i64 ((x0.len : Int) + (x2.len : Int))).toNat) - 0 : Nat) (fun n18 => Bd (x0.cap - 0 : Nat) (fun n19 =>
 (((0 : Int) ≤ (IntKind.wrap .i64 (x1 + (x2.len : Int))) ∧ (IntKind.wrap .i64 (x1 + (x2.len : Int))) ≤ ((n18 : Nat) : Int)) ∧
 Bd (subAddr a17 ((IntKind.wrap .i64 (x1 + (x2.len : Int))).toNat) n19 1 : Option Addr) (fun a20 => Bd (n18 - ((IntKind.wrap .i64 (x1 + (x2.len : Int))).toNat) : Nat) (fun n21 => Bd (n19 - ((IntKind.wrap .i64 (x1 + (x2.len : Int))).toNat) : Nat) (fun n22 =>
 HC PG f_slices_overlaps_P_radix_Node [.slice x2.a x2.len x2.cap, .slice a20 n21 n22] [.c .bool] (fun (e23 : Bool) h24 =>
 CondP (!e23) (
 (((0 : Int) ≤ (IntKind.wrap .i64 (x1 + (x2.len : Int))) ∧ (IntKind.wrap .i64 (x1 + (x2.len : Int))) ≤ ((n18 : Nat) : Int)) ∧
 Bd (subAddr a17 ((IntKind.wrap .i64 (x1 + (x2.len : Int))).toNat) n19 1 : Option Addr) (fun a25 => Bd (n18 - ((IntKind.wrap .i64 (x1 + (x2.len : Int))).toNat) : Nat) (fun n26 => Bd (n19 - ((IntKind.wrap .i64 (x1 + (x2.len : Int))).toNat) : Nat) (fun n27 =>
 (((0 : Int) ≤ x1 ∧ x1 ≤ ((n18 : Nat) : Int)) ∧
 ∃ xs28, SRow h24 (subAddr a17 x1.toNat n19 1) (Nat.min (n18 - x1.toNat) n26 * 1) xs28 ∧ WrS h24 a25 0 xs28 ∧ oneCell xs28 = true ∧
 At (hsetS h24 a25 0 xs28) (fun h29 =>
 (((0 : Int) ≤ x1 ∧ x1 ≤ ((n18 : Nat) : Int)) ∧
 ∃ xs30, SRow h29 x2.a (Nat.min x2.len (n18 - x1.toNat) * 1) xs30 ∧ WrS h29 (subAddr a17 x1.toNat n19 1) 0 xs30 ∧ oneCell xs30 = true ∧
 At (hsetS h29 (subAddr a17 x1.toNat n19 1) 0 xs30) (fun h31 =>
 K ⟨a17, n18, n19⟩ h31))))))))) (
 (((0 : Int) ≤ (x0.len : Int) ∧ (x0.len : Int) ≤ ((n18 : Nat) : Int)) ∧
 ∃ xs32, SRow h24 x2.a (Nat.min x2.len (n18 - ((x0.len : Int).toNat)) * 1) xs32 ∧ WrS h24 (subAddr a17 ((x0.len : Int).toNat) n19 1) 0 xs32 ∧ oneCell xs32 = true ∧
 At (hsetS h24 (subAddr a17 ((x0.len : Int).toNat) n19 1) 0 xs32) (fun h33 =>
 (((0 : Int) ≤ x1 ∧ x1 ≤ ((n18 : Nat) : Int)) ∧
 HC PG f_slices_rotateRight_P_radix_Node [.slice (subAddr a17 x1.toNat n19 1) (n18 - x1.toNat) (n19 - x1.toNat), .int .i64 (x2.len : Int)] [] (fun (e34 : Unit) h35 =>
 K ⟨a17, n18, n19⟩ h35) h33))))) h0))))))))))))
def A_slices_Insert_A_P_radix_Node_P_radix_Node : Ann := .node (.reg [0, 1, 2] (.nil)) (.node (.reg [0, 1, 2] (.nil)) (.node (.reg [0, 1, 2, 7] (.nil)) (.node (.node (.reg [0, 1, 2, 7, 16] (.nil)) (.node (.node (.reg [6] (.nil)) (.nil)) (.nil))) (.node (.reg [0, 1, 2, 7, 8] (.nil)) (.node (.node (.reg [0, 1, 2, 7, 8, 22] (.nil)) (.node (.node (.reg [6] (.nil)) (.nil)) (.nil))) (.node (.node (.reg [0, 1, 2, 7, 8, 31] (.nil)) (.node (.join [0, 1, 2, 7] [(9, .c .slice)] (.reg [0, 1, 2, 7, 9] (.nil)) (.node (.reg [0, 1, 7, 9] (.nil)) (.node (.reg [9] (.draw [.mk 0 511 512 70368744177664, .mk 0 511 2 140737488355328, .mk 0 511 128 281474976710656, .mk 6 505 422212465065984 562949953421312, .mk 9 502 633318697598976 1125899906842624, .mk 0 511 1 2251799813685248, .mk 0 511 2 4503599627370496, .mk 96 415 6755399441055744 9007199254740992, .mk 144 367 10133099161583616 18014398509481984] (.take 0 (.take 1 (.take 2 (.take 3 (.take 4 (.take 5 (.take 6 (.take 7 (.all (.last 8 (.done))))))))))))) (.node (.reg [6] (.nil)) (.nil))))) (.nil))) (.node (.reg [0, 1, 2, 7, 8] (.nil)) (.node (.node (.reg [0, 1, 2, 7, 8, 68] (.nil)) (.node (.node (.reg [0, 1, 2] (.draw [.mk 0 511 1 590295810358705651712, .mk 0 511 2 1180591620717411303424, .mk 0 511 128 2361183241434822606848, .mk 6 505 3541774862152233910272 4722366482869645213696, .mk 9 502 5312662293228350865408 9444732965739290427392, .mk 0 511 1 18889465931478580854784, .mk 0 511 2 37778931862957161709568, .mk 96 415 56668397794435742564352 75557863725914323419136, .mk 144 367 85002596691653613846528 151115727451828646838272] (.take 0 (.take 1 (.take 2 (.take 3 (.take 4 (.take 5 (.take 6 (.take 7 (.all (.last 8 (.done))))))))))))) (.node (.reg [0] (.nil)) (.node (.reg [6] (.nil)) (.nil)))) (.nil))) (.node (.reg [0, 1, 7] (.nil)) (.node (.reg [0] (.nil)) (.node (.reg [6] (.nil)) (.nil))))))))))))
theorem H_slices_Insert_A_P_radix_Node_P_radix_Node (x0 : SliceV) (x1 : Int) (x2 : SliceV) {K : Tup [.c .slice] → Heap → Prop} {h0 : Heap} (h : F_slices_Insert_A_P_radix_Node_P_radix_Node x0 x1 x2 K h0) : HC PG f_slices_Insert_A_P_radix_Node_P_radix_Node [.slice x0.a x0.len x0.cap, .int .i64 x1, .slice x2.a x2.len x2.cap] [.c .slice] K h0 := HC.intro (an := A_slices_Insert_A_P_radix_Node_P_radix_Node) (c := Tryz.f130.body.getD .skip) Tryz.mixed Tryz.func130 rfl Tryz.call130 (Nat.le_of_ble_eq_true rfl) (cst (by kernel_rfl) h)
def F_radix_fresh (x0 : Option Addr) (x1 : ByteArray) (x2 : ByteArray) (K : (Option Addr) → Heap → Prop) (h0 : Heap) : Prop :=
 At (hnew h0 [.string (⟨#[]⟩ : ByteArray), .bool false, .string (⟨#[]⟩ : ByteArray), .slice none 0 0, .pointer none] t_radix_Node) (fun h1 =>
 HC PG f_radix_Node_own [.pointer (some (newA h0)), .pointer x0] [.c .ptr] (fun (e2 : Option Addr) h3 =>
 HC PG f_radix_Node_named [.pointer e2, .string x1] [.c .ptr] (fun (e4 : Option Addr) h5 =>
 HC PG f_radix_Node_valued [.pointer e4, .string x2] [.c .ptr] (fun (e6 : Option Addr) h7 =>
 K e6 h7) h5) h3) h1)
def A_radix_fresh : Ann := .node (.reg [0, 1, 2] (.nil)) (.node (.reg [6] (.nil)) (.nil))
theorem H_radix_fresh (x0 : Option Addr) (x1 : ByteArray) (x2 : ByteArray) {K : Tup [.c .ptr] → Heap → Prop} {h0 : Heap} (h : F_radix_fresh x0 x1 x2 K h0) : HC PG f_radix_fresh [.pointer x0, .string x1, .string x2] [.c .ptr] K h0 := HC.intro (an := A_radix_fresh) (c := Tryz.f131.body.getD .skip) Tryz.mixed Tryz.func131 rfl Tryz.call131 (Nat.le_of_ble_eq_true rfl) (cst (by kernel_rfl) h)
def F_radix_Node_split (x0 : Option Addr) (x1 : Option Addr) (x2 : Int) (K : (Option Addr) → Heap → Prop) (h0 : Heap) : Prop :=
 ∃ a1, x0 = some a1 ∧
 ∃ v2, hcell h0 (adr a1 0) = some (.string v2) ∧
 (((0 : Int) ≤ x2 ∧ x2 ≤ ((v2.size : Nat) : Int)) ∧
 (hcell h0 (adr a1 0) = some (.string v2) ∧
 At (hnew h0 [.string (⟨#[]⟩ : ByteArray), .bool false, .string (⟨#[]⟩ : ByteArray), .slice none 0 0, .pointer none] t_radix_Node) (fun h3 =>
 (hcell h3 (adr a1 0) = some (.string v2) ∧
 HC PG f_radix_Node_own [.pointer (some (newA h0)), .pointer x1] [.c .ptr] (fun (e4 : Option Addr) h5 =>
 (hcell h5 (adr a1 0) = some (.string v2) ∧
 HC PG f_radix_Node_named [.pointer e4, .string (v2.extract 0 x2.toNat)] [.c .ptr] (fun (e6 : Option Addr) h7 =>
 (hcell h7 (adr a1 0) = some (.string v2) ∧
 HC PG f_radix_Node_own [.pointer x0, .pointer x1] [.c .ptr] (fun (e8 : Option Addr) h9 =>
 ∃ a10, e8 = some a10 ∧
 ∃ v11, hcell h9 (adr a10 0) = some (.string v11) ∧
 (((0 : Int) ≤ x2 ∧ x2 ≤ ((v11.size : Nat) : Int)) ∧
 HC PG f_radix_Node_named [.pointer e8, .string (v11.extract x2.toNat v11.size)] [.c .ptr] (fun (e12 : Option Addr) h13 =>
 At (hnew h13 [.pointer e12] t_P_radix_Node) (fun h14 =>
 ∃ a15, e6 = some a15 ∧
 (Wr h14 (adr a15 3) ∧
 At (hset h14 (adr a15 3) (.slice (some (newA h13)) 1 1)) (fun h16 =>
 K e6 h16)))) h9)) h7)) h5)) h3))))
def A_radix_Node_split : Ann := .node (.reg [0, 1, 2] (.nil)) (.node (.reg [0, 1, 2, 7] (.draw [.mk 0 4095 0 512, .mk 1 4094 512 1024, .mk 0 4095 2 2048, .mk 6 4089 3072 4096, .mk 0 4095 1 8192, .mk 16 4079 8192 16384, .mk 32 4063 16384 32768, .mk 64 4031 32768 65536, .mk 0 4095 4 131072, .mk 384 3711 196608 262144, .mk 520 3575 266240 524288, .mk 2047 3071 524288 128] (.take 2 (.take 4 (.take 5 (.take 6 (.take 7 (.take 8 (.take 9 (.all (.last 0 (.all (.last 1 (.all (.last 3 (.all (.last 10 (.take 11 (.done))))))))))))))))))) (.node (.reg [2, 7, 8] (.nil)) (.node (.reg [7] (.nil)) (.node (.reg [6] (.nil)) (.nil)))))
theorem H_radix_Node_split (x0 : Option Addr) (x1 : Option Addr) (x2 : Int) {K : Tup [.c .ptr] → Heap → Prop} {h0 : Heap} (h : F_radix_Node_split x0 x1 x2 K h0) : HC PG f_radix_Node_split [.pointer x0, .pointer x1, .int .i64 x2] [.c .ptr] K h0 := HC.intro (an := A_radix_Node_split) (c := Tryz.f132.body.getD .skip) Tryz.mixed Tryz.func132 rfl Tryz.call132 (Nat.le_of_ble_eq_true rfl) (cst (by kernel_rfl) h)
def F_champ_in (x0 : Option Addr) (x1 : ByteArray) (K : (ByteArray × Bool) → Heap → Prop) (h0 : Heap) : Prop :=
 HC PG f_node_Node_Pairs [.pointer x0] [.c .slice] (fun (e1 : SliceV) h2 =>
 HC PG f_pair_Find [.slice e1.a e1.len e1.cap, .string x1] [.c (.int .i64), .c .bool] (fun (e3 : Int × Bool) h4 =>
 CondP (!e3.2) (
 K ((⟨#[]⟩ : ByteArray), false) h4) (
 (((0 : Int) ≤ e3.1 ∧ e3.1 < ((e1.len : Nat) : Int)) ∧ ∃ a5, e1.a = some a5 ∧
 ∃ v6, hcell h4 (adr (adr a5 (e3.1.toNat * 2)) 1) = some (.string v6) ∧
 K (v6, true) h4))) h2) h0
def A_champ_in : Ann := .node (.reg [0, 1] (.nil)) (.node (.reg [1, 6] (.nil)) (.node (.reg [6, 7, 8] (.nil)) (.node (.node (.reg [6, 7, 18] (.nil)) (.node (.node (.reg [4, 5] (.nil)) (.nil)) (.nil))) (.node (.reg [4, 5] (.nil)) (.nil)))))
theorem H_champ_in (x0 : Option Addr) (x1 : ByteArray) {K : Tup [.c .str, .c .bool] → Heap → Prop} {h0 : Heap} (h : F_champ_in x0 x1 K h0) : HC PG f_champ_in [.pointer x0, .string x1] [.c .str, .c .bool] K h0 := HC.intro (an := A_champ_in) (c := Tryz.f133.body.getD .skip) Tryz.mixed Tryz.func133 rfl Tryz.call133 (Nat.le_of_ble_eq_true rfl) (cst (by kernel_rfl) h)
def F_node_Node_Pair (x0 : Option Addr) (x1 : Int) (K : ((ByteArray × ByteArray) × Bool) → Heap → Prop) (h0 : Heap) : Prop :=
 At (hnew h0 [.string (⟨#[]⟩ : ByteArray), .string (⟨#[]⟩ : ByteArray)] t_pair_Pair) (fun h1 =>
 HC PG f_node_Node_Data [.pointer x0] [.c (.int .u32)] (fun (e2 : Int) h3 =>
 HC PG f_chunk_Bits_Has [.int .u32 e2, .int .i64 x1] [.c .bool] (fun (e4 : Bool) h5 =>
 CondP (!e4) (
 (WrS h5 (some (newA h0)) 0 [.string (⟨#[]⟩ : ByteArray), .string (⟨#[]⟩ : ByteArray)] ∧
 At (hsetL h5 (newA h0) 0 [.string (⟨#[]⟩ : ByteArray), .string (⟨#[]⟩ : ByteArray)]) (fun h6 =>
 ∃ v7, hcell h6 (adr (newA h0) 0) = some (.string v7) ∧
 ∃ v8, hcell h6 (adr (newA h0) 1) = some (.string v8) ∧
 K ((v7, v8), false) h6))) (
 ∃ a9, x0 = some a9 ∧
 ∃ v10 : SliceV, hcell h5 (adr (adr a9 0) 2) = some (.slice v10.a v10.len v10.cap) ∧
 ∃ a11, x0 = some a11 ∧
 ∃ v12, hcell h5 (adr (adr a11 0) 0) = some (.int .u32 v12) ∧
 HC PG f_chunk_Bits_Rank [.int .u32 v12, .int .i64 x1] [.c (.int .i64)] (fun (e13 : Int) h14 =>
 (hcell h14 (adr (adr a9 0) 2) = some (.slice v10.a v10.len v10.cap) ∧
 (((0 : Int) ≤ e13 ∧ e13 < ((v10.len : Nat) : Int)) ∧ ∃ a15, v10.a = some a15 ∧
 ∃ v16, hcell h14 (adr (adr a15 (e13.toNat * 2)) 0) = some (.string v16) ∧
 ∃ v17, hcell h14 (adr (adr a15 (e13.toNat * 2)) 1) = some (.string v17) ∧
 (WrS h14 (some (newA h0)) 0 [.string v16, .string v17] ∧
 At (hsetL h14 (newA h0) 0 [.string v16, .string v17]) (fun h18 =>
 ∃ v19, hcell h18 (adr (newA h0) 0) = some (.string v19) ∧
 ∃ v20, hcell h18 (adr (newA h0) 1) = some (.string v20) ∧
 K ((v19, v20), true) h18))))) h5)) h3) h1)
def A_node_Node_Pair : Ann := .node (.reg [0, 1, 4] (.nil)) (.node (.node (.reg [0, 1, 4, 10] (.nil)) (.node (.node (.reg [4, 5] (.nil)) (.nil)) (.nil))) (.node (.reg [4, 5] (.draw [.mk 0 65535 1 4096, .mk 1 65534 4096 8192, .mk 2 65533 8192 16384, .mk 4 65531 16384 32768, .mk 8 65527 32768 65536, .mk 0 65535 1 131072, .mk 32 65503 131072 262144, .mk 64 65471 262144 524288, .mk 128 65407 524288 1048576, .mk 256 65279 1048576 2097152, .mk 0 65535 2 4194304, .mk 1536 63999 6291456 8388608, .mk 2064 63471 8454144 16777216, .mk 4096 61439 16777216 33554432, .mk 16383 57343 33554448 0, .mk 32767 65535 0 32] (.take 0 (.take 1 (.take 2 (.take 3 (.take 4 (.take 5 (.take 6 (.take 7 (.take 8 (.take 9 (.take 10 (.all (.last 11 (.take 12 (.take 13 (.all (.last 14 (.take 15 (.done))))))))))))))))))))) (.nil)))
theorem H_node_Node_Pair (x0 : Option Addr) (x1 : Int) {K : Tup [.agg [.str, .str], .c .bool] → Heap → Prop} {h0 : Heap} (h : F_node_Node_Pair x0 x1 K h0) : HC PG f_node_Node_Pair [.pointer x0, .int .i64 x1] [.agg [.str, .str], .c .bool] K h0 := HC.intro (an := A_node_Node_Pair) (c := Tryz.f134.body.getD .skip) Tryz.mixed Tryz.func134 rfl Tryz.call134 (Nat.le_of_ble_eq_true rfl) (cst (by kernel_rfl) h)
def F_champ_work_both (x0 : Int × Int × Int × (Option Addr) × ByteArray × Int) (x1 : ByteArray × ByteArray) (x2 : ByteArray × ByteArray) (x3 : Int) (K : (Option Addr) → Heap → Prop) (h0 : Heap) : Prop :=
 At (hnew h0 [.int .u64 x0.1, .int .u64 x0.2.1, .int .u64 x0.2.2.1, .pointer x0.2.2.2.1, .string x0.2.2.2.2.1, .int .u64 x0.2.2.2.2.2] t_champ_work) (fun h1 =>
 At (hnew h1 [.string x1.1, .string x1.2] t_pair_Pair) (fun h2 =>
 At (hnew h2 [.string x2.1, .string x2.2] t_pair_Pair) (fun h3 =>
 CondP (x3 == (13 : Int)) (
 ∃ v4, hcell h3 (adr (newA h0) 3) = some (.pointer v4) ∧
 ∃ v5, hcell h3 (adr (newA h1) 0) = some (.string v5) ∧
 ∃ v6, hcell h3 (adr (newA h1) 1) = some (.string v6) ∧
 ∃ v7, hcell h3 (adr (newA h0) 3) = some (.pointer v7) ∧
 ∃ v8, hcell h3 (adr (newA h2) 0) = some (.string v8) ∧
 ∃ v9, hcell h3 (adr (newA h2) 1) = some (.string v9) ∧
 HC PG f_node_Bucket [] [.c .ptr] (fun (e10 : Option Addr) h11 =>
 ((hcell h11 (adr (newA h2) 0) = some (.string v8) ∧ hcell h11 (adr (newA h2) 1) = some (.string v9)) ∧
 (hcell h11 (adr (newA h0) 3) = some (.pointer v7) ∧
 ((hcell h11 (adr (newA h1) 0) = some (.string v5) ∧ hcell h11 (adr (newA h1) 1) = some (.string v6)) ∧
 (hcell h11 (adr (newA h0) 3) = some (.pointer v4) ∧
 HC PG f_node_Node_Put [.pointer e10, .pointer v4, .agg #[.string v5, .string v6]] [.c .ptr] (fun (e12 : Option Addr) h13 =>
 ((hcell h13 (adr (newA h2) 0) = some (.string v8) ∧ hcell h13 (adr (newA h2) 1) = some (.string v9)) ∧
 (hcell h13 (adr (newA h0) 3) = some (.pointer v7) ∧
 HC PG f_node_Node_Put [.pointer e12, .pointer v7, .agg #[.string v8, .string v9]] [.c .ptr] (fun (e14 : Option Addr) h15 =>
 K e14 h15) h13))) h11))))) h3) (
 ∃ v16, hcell h3 (adr (adr (newA h0) 0) 0) = some (.int .u64 v16) ∧
 ∃ v17, hcell h3 (adr (adr (newA h0) 0) 1) = some (.int .u64 v17) ∧
 ∃ v18, hcell h3 (adr (adr (newA h0) 0) 2) = some (.int .u64 v18) ∧
 ∃ v19, hcell h3 (adr (newA h1) 0) = some (.string v19) ∧
 ∃ v20, hcell h3 (adr (newA h0) 5) = some (.int .u64 v20) ∧
 HC PG f_sip_Hasher_Hash [.agg #[.int .u64 v16, .int .u64 v17, .int .u64 v18], .string v19] [.c (.int .u64)] (fun (e21 : Int) h22 =>
 (hcell h22 (adr (newA h0) 5) = some (.int .u64 v20) ∧
 HC PG f_chunk_At [.int .u64 e21, .int .i64 x3] [.c (.int .i64)] (fun (e23 : Int) h24 =>
 (hcell h24 (adr (newA h0) 5) = some (.int .u64 v20) ∧
 HC PG f_chunk_At [.int .u64 v20, .int .i64 x3] [.c (.int .i64)] (fun (e25 : Int) h26 =>
 CondP (e23 == e25) (
 ∃ v27, hcell h26 (adr (newA h0) 3) = some (.pointer v27) ∧
 ∃ v28, hcell h26 (adr (newA h0) 0) = some (.int .u64 v28) ∧
 ∃ v29, hcell h26 (adr (newA h0) 1) = some (.int .u64 v29) ∧
 ∃ v30, hcell h26 (adr (newA h0) 2) = some (.int .u64 v30) ∧
 ∃ v31, hcell h26 (adr (newA h0) 3) = some (.pointer v31) ∧
 ∃ v32, hcell h26 (adr (newA h0) 4) = some (.string v32) ∧
 ∃ v33, hcell h26 (adr (newA h0) 5) = some (.int .u64 v33) ∧
 ∃ v34, hcell h26 (adr (newA h1) 0) = some (.string v34) ∧
 ∃ v35, hcell h26 (adr (newA h1) 1) = some (.string v35) ∧
 ∃ v36, hcell h26 (adr (newA h2) 0) = some (.string v36) ∧
 ∃ v37, hcell h26 (adr (newA h2) 1) = some (.string v37) ∧
 HC PG f_node_Inner [] [.c .ptr] (fun (e38 : Option Addr) h39 =>
 ((hcell h39 (adr (newA h2) 0) = some (.string v36) ∧ hcell h39 (adr (newA h2) 1) = some (.string v37)) ∧
 ((hcell h39 (adr (newA h1) 0) = some (.string v34) ∧ hcell h39 (adr (newA h1) 1) = some (.string v35)) ∧
 ((hcell h39 (adr (newA h0) 0) = some (.int .u64 v28) ∧ hcell h39 (adr (newA h0) 1) = some (.int .u64 v29) ∧ hcell h39 (adr (newA h0) 2) = some (.int .u64 v30) ∧ hcell h39 (adr (newA h0) 3) = some (.pointer v31) ∧ hcell h39 (adr (newA h0) 4) = some (.string v32) ∧ hcell h39 (adr (newA h0) 5) = some (.int .u64 v33)) ∧
 (hcell h39 (adr (newA h0) 3) = some (.pointer v27) ∧
 HC PG f_champ_work_both [.agg #[.int .u64 v28, .int .u64 v29, .int .u64 v30, .pointer v31, .string v32, .int .u64 v33], .agg #[.string v34, .string v35], .agg #[.string v36, .string v37], .int .i64 (IntKind.wrap .i64 (x3 + 1))] [.c .ptr] (fun (e40 : Option Addr) h41 =>
 (hcell h41 (adr (newA h0) 3) = some (.pointer v27) ∧
 HC PG f_node_Node_SetKid [.pointer e38, .pointer v27, .int .i64 e23, .pointer e40] [.c .ptr] (fun (e42 : Option Addr) h43 =>
 K e42 h43) h41)) h39))))) h26) (
 ∃ v44, hcell h26 (adr (newA h0) 3) = some (.pointer v44) ∧
 ∃ v45, hcell h26 (adr (newA h1) 0) = some (.string v45) ∧
 ∃ v46, hcell h26 (adr (newA h1) 1) = some (.string v46) ∧
 ∃ v47, hcell h26 (adr (newA h0) 3) = some (.pointer v47) ∧
 ∃ v48, hcell h26 (adr (newA h2) 0) = some (.string v48) ∧
 ∃ v49, hcell h26 (adr (newA h2) 1) = some (.string v49) ∧
 HC PG f_node_Inner [] [.c .ptr] (fun (e50 : Option Addr) h51 =>
 ((hcell h51 (adr (newA h2) 0) = some (.string v48) ∧ hcell h51 (adr (newA h2) 1) = some (.string v49)) ∧
 (hcell h51 (adr (newA h0) 3) = some (.pointer v47) ∧
 ((hcell h51 (adr (newA h1) 0) = some (.string v45) ∧ hcell h51 (adr (newA h1) 1) = some (.string v46)) ∧
 (hcell h51 (adr (newA h0) 3) = some (.pointer v44) ∧
 HC PG f_node_Node_SetPair [.pointer e50, .pointer v44, .int .i64 e23, .agg #[.string v45, .string v46]] [.c .ptr] (fun (e52 : Option Addr) h53 =>
 ((hcell h53 (adr (newA h2) 0) = some (.string v48) ∧ hcell h53 (adr (newA h2) 1) = some (.string v49)) ∧
 (hcell h53 (adr (newA h0) 3) = some (.pointer v47) ∧
 HC PG f_node_Node_SetPair [.pointer e52, .pointer v47, .int .i64 e25, .agg #[.string v48, .string v49]] [.c .ptr] (fun (e54 : Option Addr) h55 =>
 K e54 h55) h53))) h51))))) h26)) h24)) h22)) h3))))
def A_champ_work_both : Ann := .node (.reg [3, 4, 5, 6] (.nil)) (.node (.node (.reg [3, 4, 5, 6, 12] (.nil)) (.node (.node (.reg [8] (.draw [.mk 0 1023 0 8192, .mk 0 1023 16 16384, .mk 2 1021 16384 32768, .mk 0 1023 32 65536, .mk 13 1010 106496 131072, .mk 0 1023 16 262144, .mk 32 991 262144 524288, .mk 0 1023 64 1048576, .mk 208 815 1703936 2097152, .mk 511 767 2097152 256] (.take 1 (.take 2 (.take 3 (.take 5 (.take 6 (.take 7 (.all (.last 0 (.all (.last 4 (.all (.last 8 (.take 9 (.done)))))))))))))))) (.nil)) (.nil))) (.node (.reg [3, 4, 5, 6, 9, 10] (.draw [.mk 0 8191 16 4194304, .mk 1 8190 4194304 8388608, .mk 0 8191 32 16777216, .mk 4 8187 16777216 33554432, .mk 10 8181 41943040 67108864, .mk 0 8191 8 134217728, .mk 48 8143 201326592 268435456, .mk 0 8191 16 536870912, .mk 128 8063 536870912 1073741824, .mk 0 8191 8 2147483648, .mk 832 7423 3221225472 4294967296, .mk 1151 8127 268435456 512, .mk 4095 7167 4294967296 1024] (.take 0 (.take 1 (.take 2 (.take 3 (.take 5 (.take 7 (.take 8 (.take 9 (.all (.last 4 (.all (.last 6 (.all (.last 10 (.take 11 (.take 12 (.done))))))))))))))))))) (.node (.node (.reg [3, 4, 5, 6, 9, 10, 35] (.nil)) (.node (.node (.reg [8] (.draw [.mk 0 4095 0 68719476736, .mk 0 4095 16 137438953472, .mk 2 4093 137438953472 274877906944, .mk 0 4095 512 549755813888, .mk 0 4095 16 1099511627776, .mk 0 4095 32 2199023255552, .mk 0 4095 64 4398046511104, .mk 0 4095 8 8796093022208, .mk 128 3967 8796093022208 17592186044416, .mk 369 3727 25288767438848 35184372088832, .mk 525 3570 36077725286400 70368744177664, .mk 2047 3071 70368744177664 256] (.take 1 (.take 2 (.take 3 (.take 4 (.take 5 (.take 6 (.take 7 (.take 8 (.all (.last 0 (.all (.last 9 (.all (.last 10 (.take 11 (.done)))))))))))))))))) (.nil)) (.nil))) (.node (.reg [8] (.draw [.mk 0 4095 0 140737488355328, .mk 0 4095 16 281474976710656, .mk 2 4093 281474976710656 562949953421312, .mk 0 4095 512 1125899906842624, .mk 0 4095 32 2251799813685248, .mk 29 4066 4081387162304512 4503599627370496, .mk 0 4095 16 9007199254740992, .mk 64 4031 9007199254740992 18014398509481984, .mk 0 4095 1024 36028797018963968, .mk 0 4095 64 72057594037927936, .mk 928 3167 130604389193744384 144115188075855872, .mk 2047 3071 144115188075855872 256] (.take 1 (.take 2 (.take 3 (.take 4 (.take 6 (.take 7 (.take 8 (.take 9 (.all (.last 0 (.all (.last 5 (.all (.last 10 (.take 11 (.done)))))))))))))))))) (.nil)))))
theorem H_champ_work_both (x0 : Int × Int × Int × (Option Addr) × ByteArray × Int) (x1 : ByteArray × ByteArray) (x2 : ByteArray × ByteArray) (x3 : Int) {K : Tup [.c .ptr] → Heap → Prop} {h0 : Heap} (h : F_champ_work_both x0 x1 x2 x3 K h0) : HC PG f_champ_work_both [.agg #[.int .u64 x0.1, .int .u64 x0.2.1, .int .u64 x0.2.2.1, .pointer x0.2.2.2.1, .string x0.2.2.2.2.1, .int .u64 x0.2.2.2.2.2], .agg #[.string x1.1, .string x1.2], .agg #[.string x2.1, .string x2.2], .int .i64 x3] [.c .ptr] K h0 := HC.intro (an := A_champ_work_both) (c := Tryz.f135.body.getD .skip) Tryz.mixed Tryz.func135 rfl Tryz.call135 (Nat.le_of_ble_eq_true rfl) (cst (by kernel_rfl) h)
def F_node_Node_Kid (x0 : Option Addr) (x1 : Int) (K : ((Option Addr) × Bool) → Heap → Prop) (h0 : Heap) : Prop :=
 HC PG f_node_Node_Nodes [.pointer x0] [.c (.int .u32)] (fun (e1 : Int) h2 =>
 HC PG f_chunk_Bits_Has [.int .u32 e1, .int .i64 x1] [.c .bool] (fun (e3 : Bool) h4 =>
 CondP (!e3) (
 K (none, false) h4) (
 ∃ a5, x0 = some a5 ∧
 ∃ v6 : SliceV, hcell h4 (adr (adr a5 0) 3) = some (.slice v6.a v6.len v6.cap) ∧
 ∃ a7, x0 = some a7 ∧
 ∃ v8, hcell h4 (adr (adr a7 0) 1) = some (.int .u32 v8) ∧
 HC PG f_chunk_Bits_Rank [.int .u32 v8, .int .i64 x1] [.c (.int .i64)] (fun (e9 : Int) h10 =>
 (hcell h10 (adr (adr a5 0) 3) = some (.slice v6.a v6.len v6.cap) ∧
 (((0 : Int) ≤ e9 ∧ e9 < ((v6.len : Nat) : Int)) ∧ ∃ a11, v6.a = some a11 ∧
 ∃ v12, hcell h10 (adr a11 (e9.toNat * 1)) = some (.pointer v12) ∧
 K (v12, true) h10))) h4)) h2) h0
def A_node_Node_Kid : Ann := .node (.reg [0, 1] (.nil)) (.node (.node (.reg [0, 1, 10] (.nil)) (.node (.node (.reg [4, 5] (.nil)) (.nil)) (.nil))) (.node (.reg [4, 5] (.draw [.mk 0 65535 1 2048, .mk 1 65534 2048 4096, .mk 2 65533 4096 8192, .mk 4 65531 8192 16384, .mk 8 65527 16384 32768, .mk 0 65535 1 65536, .mk 32 65503 65536 131072, .mk 64 65471 131072 262144, .mk 128 65407 262144 524288, .mk 256 65279 524288 1048576, .mk 0 65535 2 2097152, .mk 1536 63999 3145728 4194304, .mk 2064 63471 4227072 8388608, .mk 4096 61439 8388608 16777216, .mk 16383 57343 16777216 16, .mk 32767 65535 0 32] (.take 0 (.take 1 (.take 2 (.take 3 (.take 4 (.take 5 (.take 6 (.take 7 (.take 8 (.take 9 (.take 10 (.all (.last 11 (.take 12 (.take 13 (.take 14 (.take 15 (.done)))))))))))))))))))) (.nil)))
theorem H_node_Node_Kid (x0 : Option Addr) (x1 : Int) {K : Tup [.c .ptr, .c .bool] → Heap → Prop} {h0 : Heap} (h : F_node_Node_Kid x0 x1 K h0) : HC PG f_node_Node_Kid [.pointer x0, .int .i64 x1] [.c .ptr, .c .bool] K h0 := HC.intro (an := A_node_Node_Kid) (c := Tryz.f136.body.getD .skip) Tryz.mixed Tryz.func136 rfl Tryz.call136 (Nat.le_of_ble_eq_true rfl) (cst (by kernel_rfl) h)
def F_slices_Delete_A_P_radix_Node_P_radix_Node (x0 : SliceV) (x1 : Int) (x2 : Int) (K : (SliceV) → Heap → Prop) (h0 : Heap) : Prop :=
 (((0 : Int) ≤ (x0.len : Int) ∧ (x0.len : Int) ≤ ((x0.cap : Nat) : Int)) ∧
 (((0 : Int) ≤ x2 ∧ x2 ≤ (((x0.len : Int).toNat : Nat) : Int)) ∧
 (((0 : Int) ≤ x1 ∧ x1 ≤ ((x2.toNat : Nat) : Int)) ∧
 CondP (x1 == x2) (
 K x0 h0) (
 Join (fun (t5 : SliceV) h6 =>
 (((0 : Int) ≤ (x0.len : Int) ∧ (x0.len : Int) ≤ ((t5.cap : Nat) : Int)) ∧
 (((0 : Int) ≤ (t5.len : Int) ∧ (t5.len : Int) ≤ (((x0.len : Int).toNat : Nat) : Int)) ∧
 Bd (subAddr t5.a ((t5.len : Int).toNat) t5.cap 1 : Option Addr) (fun a7 => Bd (((x0.len : Int).toNat) - ((t5.len : Int).toNat) : Nat) (fun n8 => Bd (t5.cap - ((t5.len : Int).toNat) : Nat) (fun n9 =>
 (WrS h6 a7 0 (zrow n8 [.pointer none]) ∧
 At (hsetS h6 a7 0 (zrow n8 [.pointer none])) (fun h10 =>
 K t5 h10)))))))) (fun J1 =>
 (((0 : Int) ≤ x1 ∧ x1 ≤ ((x0.cap : Nat) : Int)) ∧
 (((0 : Int) ≤ x2 ∧ x2 ≤ ((x0.len : Nat) : Int)) ∧
 ∃ xs2, SRow h0 (subAddr x0.a x2.toNat x0.cap 1) ((x0.len - x2.toNat) * 1) xs2 ∧
 AppP (some [.pointer none]) 1 8 t_P_radix_Node (subAddr x0.a 0 x0.cap 1) (x1.toNat - 0) (x0.cap - 0) (x0.len - x2.toNat) xs2 h0 (fun s3 h4 =>
 J1 s3 h4))))))))
def A_slices_Delete_A_P_radix_Node_P_radix_Node : Ann := .node (.reg [0, 1, 2] (.nil)) (.node (.reg [0, 1, 2] (.nil)) (.node (.node (.reg [0, 1, 2, 16] (.nil)) (.node (.node (.reg [6] (.nil)) (.nil)) (.nil))) (.node (.reg [0, 1, 2, 7] (.nil)) (.join [7] [(0, .c .slice)] (.reg [0, 7] (.draw [.mk 0 255 1 1048576, .mk 0 255 2 2097152, .mk 3 252 3145728 4194304, .mk 0 255 1 8388608, .mk 0 255 4 16777216, .mk 24 231 25165824 33554432, .mk 36 219 37748736 67108864, .mk 127 182 67108864 1] (.take 0 (.take 1 (.take 2 (.take 3 (.take 4 (.take 5 (.all (.last 6 (.take 7 (.done)))))))))))) (.node (.reg [0] (.nil)) (.node (.reg [6] (.nil)) (.nil)))))))
theorem H_slices_Delete_A_P_radix_Node_P_radix_Node (x0 : SliceV) (x1 : Int) (x2 : Int) {K : Tup [.c .slice] → Heap → Prop} {h0 : Heap} (h : F_slices_Delete_A_P_radix_Node_P_radix_Node x0 x1 x2 K h0) : HC PG f_slices_Delete_A_P_radix_Node_P_radix_Node [.slice x0.a x0.len x0.cap, .int .i64 x1, .int .i64 x2] [.c .slice] K h0 := HC.intro (an := A_slices_Delete_A_P_radix_Node_P_radix_Node) (c := Tryz.f139.body.getD .skip) Tryz.mixed Tryz.func139 rfl Tryz.call139 (Nat.le_of_ble_eq_true rfl) (cst (by kernel_rfl) h)
def F_shape_Text (x0 : SliceV) (x1 : ByteArray) (K : (SliceV) → Heap → Prop) (h0 : Heap) : Prop :=
 (((0 : Int) ≤ (x0.len : Int) ∧ (x0.len : Int) ≤ ((x0.cap : Nat) : Int)) ∧
 (((0 : Int) ≤ (x0.len : Int) ∧ (x0.len : Int) ≤ (((x0.len : Int).toNat : Nat) : Int)) ∧
 HC PG f_shape_lay [.slice (subAddr x0.a 0 ((x0.len : Int).toNat) 1) (((x0.len : Int).toNat) - 0) (((x0.len : Int).toNat) - 0), .int .u64 (IntKind.wrap .u64 (x1.size : Int)), .int .i64 2] [.c .slice] (fun (e1 : SliceV) h2 =>
 AppP (some [.int .u8 0]) 1 1 t_u8 e1.a e1.len e1.cap x1.size (byteVals x1) h2 (fun s3 h4 =>
 K s3 h4)) h0))
def A_shape_Text : Ann := .node (.reg [0, 1] (.nil)) (.node (.reg [4] (.nil)) (.nil))
theorem H_shape_Text (x0 : SliceV) (x1 : ByteArray) {K : Tup [.c .slice] → Heap → Prop} {h0 : Heap} (h : F_shape_Text x0 x1 K h0) : HC PG f_shape_Text [.slice x0.a x0.len x0.cap, .string x1] [.c .slice] K h0 := HC.intro (an := A_shape_Text) (c := Tryz.f142.body.getD .skip) Tryz.mixed Tryz.func142 rfl Tryz.call142 (Nat.le_of_ble_eq_true rfl) (cst (by kernel_rfl) h)
def F_shape_pairs (x0 : SliceV) (x1 : SliceV) (K : (SliceV) → Heap → Prop) (h0 : Heap) : Prop :=
 LoopP (fun I1 (t2 : SliceV × Int) h3 =>
 CondP (decide (t2.2 < (x1.len : Int))) (
 (((0 : Int) ≤ t2.2 ∧ t2.2 < ((x1.len : Nat) : Int)) ∧ ∃ a4, x1.a = some a4 ∧
 ∃ v5, hcell h3 (adr (adr a4 (t2.2.toNat * 2)) 0) = some (.string v5) ∧
 ∃ v6, hcell h3 (adr (adr a4 (t2.2.toNat * 2)) 1) = some (.string v6) ∧
 At (hnew h3 [.string (⟨#[]⟩ : ByteArray), .string (⟨#[]⟩ : ByteArray)] t_pair_Pair) (fun h7 =>
 (WrS h7 (some (newA h3)) 0 [.string v5, .string v6] ∧
 At (hsetL h7 (newA h3) 0 [.string v5, .string v6]) (fun h8 =>
 ∃ v9, hcell h8 (adr (newA h3) 0) = some (.string v9) ∧
 ∃ v10, hcell h8 (adr (newA h3) 1) = some (.string v10) ∧
 HC PG f_shape_Text [.slice t2.1.a t2.1.len t2.1.cap, .string v9] [.c .slice] (fun (e11 : SliceV) h12 =>
 (hcell h12 (adr (newA h3) 1) = some (.string v10) ∧
 HC PG f_shape_Text [.slice e11.a e11.len e11.cap, .string v10] [.c .slice] (fun (e13 : SliceV) h14 =>
 I1 (e13, IntKind.wrap .i64 (t2.2 + 1)) h14) h12)) h8))))) (
 K t2.1 h3)) (x0, 0) h0
def A_shape_pairs : Ann := .node (.reg [0, 1] (.nil)) (.node (.node (.reg [0, 7, 8, 9] (.nil)) (.loop [7, 8] [(0, .c .slice), (9, .c (.int .i64))] (.node (.reg [0, 7, 8, 9, 10] (.nil)) (.node (.nil) (.node (.node (.reg [0, 6, 7, 8, 9] (.nil)) (.reg [0, 7, 8, 9] (.draw [.mk 0 255 1 8192, .mk 0 255 64 16384, .mk 2 253 16384 32768, .mk 5 250 40960 65536, .mk 0 255 64 131072, .mk 16 239 131072 262144, .mk 40 215 327680 524288, .mk 127 190 524288 1] (.take 0 (.take 1 (.take 2 (.take 4 (.take 5 (.all (.last 3 (.all (.last 6 (.take 7 (.done)))))))))))))) (.reg [0, 7, 8, 9] (.nil))))))) (.node (.reg [4] (.nil)) (.nil)))
theorem H_shape_pairs (x0 : SliceV) (x1 : SliceV) {K : Tup [.c .slice] → Heap → Prop} {h0 : Heap} (h : F_shape_pairs x0 x1 K h0) : HC PG f_shape_pairs [.slice x0.a x0.len x0.cap, .slice x1.a x1.len x1.cap] [.c .slice] K h0 := HC.intro (an := A_shape_pairs) (c := Tryz.f143.body.getD .skip) Tryz.mixed Tryz.func143 rfl Tryz.call143 (Nat.le_of_ble_eq_true rfl) (cst (by kernel_rfl) h)
def F_shape_lay (x0 : SliceV) (x1 : Int) (x2 : Int) (K : (SliceV) → Heap → Prop) (h0 : Heap) : Prop :=
 LoopP (fun I1 (t2 : SliceV × Int) h3 =>
 CondP (decide (t2.2 < x2)) (
 Join (fun (t10 : SliceV) h11 =>
 I1 (t10, IntKind.wrap .i64 (t2.2 + 1)) h11) (fun J4 =>
 ((0 : Int) ≤ (IntKind.wrap .i64 (8 * t2.2)) ∧
 Bd (Int.fdiv x1 (2 ^ (min (IntKind.wrap .i64 (8 * t2.2) : Int).toNat (IntKind.bits .u64))) : Int) (fun n5 =>
 At (hnew h3 [.int .u8 (IntKind.wrap .u8 n5)] t_u8) (fun h6 =>
 ∃ xs7, SRow h6 (some (newA h3)) (1 * 1) xs7 ∧
 AppP (some [.int .u8 0]) 1 1 t_u8 t2.1.a t2.1.len t2.1.cap 1 xs7 h6 (fun s8 h9 =>
 J4 s8 h9)))))) (
 K t2.1 h3)) (x0, 0) h0
def A_shape_lay : Ann := .node (.reg [0, 1, 2] (.nil)) (.node (.node (.reg [0, 1, 8, 9] (.nil)) (.loop [1, 8] [(0, .c .slice), (9, .c (.int .i64))] (.node (.reg [0, 1, 8, 9, 10] (.nil)) (.node (.nil) (.join [1, 8, 9] [(0, .c .slice)] (.node (.reg [0, 1, 7, 8, 9] (.nil)) (.reg [0, 1, 8, 9] (.nil))) (.reg [0, 1, 8, 9] (.nil))))))) (.node (.reg [6] (.nil)) (.nil)))
theorem H_shape_lay (x0 : SliceV) (x1 : Int) (x2 : Int) {K : Tup [.c .slice] → Heap → Prop} {h0 : Heap} (h : F_shape_lay x0 x1 x2 K h0) : HC PG f_shape_lay [.slice x0.a x0.len x0.cap, .int .u64 x1, .int .i64 x2] [.c .slice] K h0 := HC.intro (an := A_shape_lay) (c := Tryz.f144.body.getD .skip) Tryz.mixed Tryz.func144 rfl Tryz.call144 (Nat.le_of_ble_eq_true rfl) (cst (by kernel_rfl) h)
def F_node_Node_Len (x0 : Option Addr) (K : (Int) → Heap → Prop) (h0 : Heap) : Prop :=
 CondP x0.isNone (
 K 0 h0) (
 ∃ a1, x0 = some a1 ∧
 ∃ v2 : SliceV, hcell h0 (adr (adr a1 0) 2) = some (.slice v2.a v2.len v2.cap) ∧
 ∃ a3, x0 = some a3 ∧
 ∃ v4 : SliceV, hcell h0 (adr (adr a3 0) 3) = some (.slice v4.a v4.len v4.cap) ∧
 K (IntKind.wrap .i64 ((v2.len : Int) + (v4.len : Int))) h0)
def A_node_Node_Len : Ann := .node (.reg [0] (.nil)) (.node (.node (.reg [0, 4] (.nil)) (.node (.node (.reg [2] (.nil)) (.nil)) (.nil))) (.node (.reg [2] (.draw [.mk 0 16383 1 32, .mk 1 16382 32 64, .mk 2 16381 64 128, .mk 4 16379 128 256, .mk 8 16375 256 512, .mk 16 16367 512 1024, .mk 0 16383 1 2048, .mk 64 16319 2048 4096, .mk 128 16255 4096 8192, .mk 256 16127 8192 16384, .mk 512 15871 16384 32768, .mk 1024 15359 32768 65536, .mk 2080 14303 66560 131072, .mk 8191 12287 131072 4] (.take 0 (.take 1 (.take 2 (.take 3 (.take 4 (.take 5 (.take 6 (.take 7 (.take 8 (.take 9 (.take 10 (.take 11 (.take 12 (.take 13 (.done))))))))))))))))) (.nil)))
theorem H_node_Node_Len (x0 : Option Addr) {K : Tup [.c (.int .i64)] → Heap → Prop} {h0 : Heap} (h : F_node_Node_Len x0 K h0) : HC PG f_node_Node_Len [.pointer x0] [.c (.int .i64)] K h0 := HC.intro (an := A_node_Node_Len) (c := Tryz.f145.body.getD .skip) Tryz.mixed Tryz.func145 rfl Tryz.call145 (Nat.le_of_ble_eq_true rfl) (cst (by kernel_rfl) h)
def F_node_Node_Data (x0 : Option Addr) (K : (Int) → Heap → Prop) (h0 : Heap) : Prop :=
 CondP x0.isNone (
 K 0 h0) (
 ∃ a1, x0 = some a1 ∧
 ∃ v2, hcell h0 (adr (adr a1 0) 0) = some (.int .u32 v2) ∧
 K v2 h0)
def A_node_Node_Data : Ann := .node (.reg [0] (.nil)) (.node (.node (.reg [0, 4] (.nil)) (.node (.node (.reg [2] (.nil)) (.nil)) (.nil))) (.node (.reg [2] (.nil)) (.nil)))
theorem H_node_Node_Data (x0 : Option Addr) {K : Tup [.c (.int .u32)] → Heap → Prop} {h0 : Heap} (h : F_node_Node_Data x0 K h0) : HC PG f_node_Node_Data [.pointer x0] [.c (.int .u32)] K h0 := HC.intro (an := A_node_Node_Data) (c := Tryz.f146.body.getD .skip) Tryz.mixed Tryz.func146 rfl Tryz.call146 (Nat.le_of_ble_eq_true rfl) (cst (by kernel_rfl) h)
def F_node_Node_Nodes (x0 : Option Addr) (K : (Int) → Heap → Prop) (h0 : Heap) : Prop :=
 CondP x0.isNone (
 K 0 h0) (
 ∃ a1, x0 = some a1 ∧
 ∃ v2, hcell h0 (adr (adr a1 0) 1) = some (.int .u32 v2) ∧
 K v2 h0)
def A_node_Node_Nodes : Ann := .node (.reg [0] (.nil)) (.node (.node (.reg [0, 4] (.nil)) (.node (.node (.reg [2] (.nil)) (.nil)) (.nil))) (.node (.reg [2] (.nil)) (.nil)))
theorem H_node_Node_Nodes (x0 : Option Addr) {K : Tup [.c (.int .u32)] → Heap → Prop} {h0 : Heap} (h : F_node_Node_Nodes x0 K h0) : HC PG f_node_Node_Nodes [.pointer x0] [.c (.int .u32)] K h0 := HC.intro (an := A_node_Node_Nodes) (c := Tryz.f147.body.getD .skip) Tryz.mixed Tryz.func147 rfl Tryz.call147 (Nat.le_of_ble_eq_true rfl) (cst (by kernel_rfl) h)
def F_math_bits_RotateLeft64 (x0 : Int) (x1 : Int) (K : (Int) → Heap → Prop) (h0 : Heap) : Prop :=
 Bd (IntKind.wrap .u64 (BitVec.ofInt (IntKind.bits .u64) (IntKind.wrap .u64 x1) &&& BitVec.ofInt (IntKind.bits .u64) 63).toNat : Int) (fun n1 =>
 ((0 : Int) ≤ n1 ∧
 Bd (IntKind.wrap .u64 (x0 * 2 ^ (min (n1 : Int).toNat (IntKind.bits .u64))) : Int) (fun n2 =>
 ((0 : Int) ≤ (IntKind.wrap .u64 (64 - n1)) ∧
 Bd (Int.fdiv x0 (2 ^ (min (IntKind.wrap .u64 (64 - n1) : Int).toNat (IntKind.bits .u64))) : Int) (fun n3 =>
 Bd (IntKind.wrap .u64 (BitVec.ofInt (IntKind.bits .u64) n2 ||| BitVec.ofInt (IntKind.bits .u64) n3).toNat : Int) (fun n4 =>
 K n4 h0))))))
def A_math_bits_RotateLeft64 : Ann := .node (.reg [0, 1] (.nil)) (.node (.reg [0, 5] (.nil)) (.node (.reg [4] (.nil)) (.nil)))
theorem H_math_bits_RotateLeft64 (x0 : Int) (x1 : Int) {K : Tup [.c (.int .u64)] → Heap → Prop} {h0 : Heap} (h : F_math_bits_RotateLeft64 x0 x1 K h0) : HC PG f_math_bits_RotateLeft64 [.int .u64 x0, .int .i64 x1] [.c (.int .u64)] K h0 := HC.intro (an := A_math_bits_RotateLeft64) (c := Tryz.f148.body.getD .skip) Tryz.mixed Tryz.func148 rfl Tryz.call148 (Nat.le_of_ble_eq_true rfl) (cst (by kernel_rfl) h)
def F_node_Node_Owned (x0 : Option Addr) (x1 : Option Addr) (K : (Bool) → Heap → Prop) (h0 : Heap) : Prop :=
 CondP (!(x0.isNone)) (
 HC PG f_token_Token_Live [.pointer x1] [.c .bool] (fun (e1 : Bool) h2 =>
 CondP e1 (
 ∃ a3, x0 = some a3 ∧
 ∃ v4, hcell h2 (adr a3 5) = some (.pointer v4) ∧
 (True ∧ (∀ x y : Addr, v4 = some x → x1 = some y → plainPtr h2 x ∧ plainPtr h2 y) ∧
 K (v4 == x1) h2)) (
 K false h2)) h0) (
 K false h0)
def A_node_Node_Owned : Ann := .node (.reg [0, 1] (.nil)) (.node (.reg [4] (.nil)) (.nil))
theorem H_node_Node_Owned (x0 : Option Addr) (x1 : Option Addr) {K : Tup [.c .bool] → Heap → Prop} {h0 : Heap} (h : F_node_Node_Owned x0 x1 K h0) : HC PG f_node_Node_Owned [.pointer x0, .pointer x1] [.c .bool] K h0 := HC.intro (an := A_node_Node_Owned) (c := Tryz.f149.body.getD .skip) Tryz.mixed Tryz.func149 rfl Tryz.call149 (Nat.le_of_ble_eq_true rfl) (cst (by kernel_rfl) h)
def F_slices_Clone_A_P_node_Node_P_node_Node (x0 : SliceV) (K : (SliceV) → Heap → Prop) (h0 : Heap) : Prop :=
 CondP x0.a.isNone (
 K ⟨none, 0, 0⟩ h0) (
 At (hnew h0 [] t_P_node_Node) (fun h1 =>
 ∃ xs2, SRow h1 x0.a (x0.len * 1) xs2 ∧
 AppP (some [.pointer none]) 1 8 t_P_node_Node (some (newA h0)) 0 0 x0.len xs2 h1 (fun s3 h4 =>
 K s3 h4)))
def A_slices_Clone_A_P_node_Node_P_node_Node : Ann := .node (.reg [0] (.nil)) (.node (.node (.reg [0, 4] (.nil)) (.node (.node (.reg [2] (.nil)) (.nil)) (.nil))) (.node (.reg [2] (.nil)) (.nil)))
theorem H_slices_Clone_A_P_node_Node_P_node_Node (x0 : SliceV) {K : Tup [.c .slice] → Heap → Prop} {h0 : Heap} (h : F_slices_Clone_A_P_node_Node_P_node_Node x0 K h0) : HC PG f_slices_Clone_A_P_node_Node_P_node_Node [.slice x0.a x0.len x0.cap] [.c .slice] K h0 := HC.intro (an := A_slices_Clone_A_P_node_Node_P_node_Node) (c := Tryz.f150.body.getD .skip) Tryz.mixed Tryz.func150 rfl Tryz.call150 (Nat.le_of_ble_eq_true rfl) (cst (by kernel_rfl) h)
def F_token_Token_Live (x0 : Option Addr) (K : (Bool) → Heap → Prop) (h0 : Heap) : Prop :=
 CondP (!(x0.isNone)) (
 ∃ a1, x0 = some a1 ∧
 ∃ v2, hcell h0 (adr a1 2) = some (.bool v2) ∧
 K v2 h0) (
 K false h0)
def A_token_Token_Live : Ann := .node (.reg [0] (.nil)) (.node (.reg [2] (.nil)) (.nil))
theorem H_token_Token_Live (x0 : Option Addr) {K : Tup [.c .bool] → Heap → Prop} {h0 : Heap} (h : F_token_Token_Live x0 K h0) : HC PG f_token_Token_Live [.pointer x0] [.c .bool] K h0 := HC.intro (an := A_token_Token_Live) (c := Tryz.f151.body.getD .skip) Tryz.mixed Tryz.func151 rfl Tryz.call151 (Nat.le_of_ble_eq_true rfl) (cst (by kernel_rfl) h)
def F_pair_Find (x0 : SliceV) (x1 : ByteArray) (K : (Int × Bool) → Heap → Prop) (h0 : Heap) : Prop :=
 HC PG f_slices_BinarySearchFunc_A_pair_Pair_pair_Pair_str [.slice x0.a x0.len x0.cap, .string x1, .func (.func f_pair_order) #[] #[]] [.c (.int .i64), .c .bool] (fun (e1 : Int × Bool) h2 =>
 K (e1.1, e1.2) h2) h0
def A_pair_Find : Ann := .node (.reg [0, 1] (.nil)) (.node (.reg [4, 5] (.nil)) (.nil))
theorem H_pair_Find (x0 : SliceV) (x1 : ByteArray) {K : Tup [.c (.int .i64), .c .bool] → Heap → Prop} {h0 : Heap} (h : F_pair_Find x0 x1 K h0) : HC PG f_pair_Find [.slice x0.a x0.len x0.cap, .string x1] [.c (.int .i64), .c .bool] K h0 := HC.intro (an := A_pair_Find) (c := Tryz.f152.body.getD .skip) Tryz.mixed Tryz.func152 rfl Tryz.call152 (Nat.le_of_ble_eq_true rfl) (cst (by kernel_rfl) h)
def F_slices_Concat_A_pair_Pair_pair_Pair (x0 : SliceV) (K : (SliceV) → Heap → Prop) (h0 : Heap) : Prop :=
 LoopP (fun I1 (t2 : Int × Int) h3 =>
 CondP (decide (t2.2 < (x0.len : Int))) (
 Join (fun (t7 : Int) h8 =>
 I1 (t7, IntKind.wrap .i64 (t2.2 + 1)) h8) (fun J4 =>
 (((0 : Int) ≤ t2.2 ∧ t2.2 < ((x0.len : Nat) : Int)) ∧ ∃ a5, x0.a = some a5 ∧
 ∃ v6 : SliceV, hcell h3 (adr a5 (t2.2.toNat * 1)) = some (.slice v6.a v6.len v6.cap) ∧
 CondP (decide ((IntKind.wrap .i64 (t2.1 + (v6.len : Int))) < (0 : Int))) (
 False) (
 J4 (IntKind.wrap .i64 (t2.1 + (v6.len : Int))) h3)))) (
 HC PG f_slices_Grow_A_pair_Pair_pair_Pair [.slice none 0 0, .int .i64 t2.1] [.c .slice] (fun (e9 : SliceV) h10 =>
 LoopP (fun I11 (t12 : SliceV × Int) h13 =>
 CondP (decide (t12.2 < (x0.len : Int))) (
 Join (fun (t20 : SliceV) h21 =>
 I11 (t20, IntKind.wrap .i64 (t12.2 + 1)) h21) (fun J14 =>
 (((0 : Int) ≤ t12.2 ∧ t12.2 < ((x0.len : Nat) : Int)) ∧ ∃ a15, x0.a = some a15 ∧
 ∃ v16 : SliceV, hcell h13 (adr a15 (t12.2.toNat * 1)) = some (.slice v16.a v16.len v16.cap) ∧
 ∃ xs17, SRow h13 v16.a (v16.len * 2) xs17 ∧
 AppP (some [.string (⟨#[]⟩ : ByteArray), .string (⟨#[]⟩ : ByteArray)]) 2 32 t_pair_Pair t12.1.a t12.1.len t12.1.cap v16.len xs17 h13 (fun s18 h19 =>
 J14 s18 h19)))) (
 K t12.1 h13)) (e9, 0) h10) h3)) (0, 0) h0
def A_slices_Concat_A_pair_Pair_pair_Pair : Ann := .node (.reg [0] (.nil)) (.node (.reg [0, 3] (.nil)) (.node (.node (.reg [0, 3, 9, 10, 11] (.nil)) (.loop [0, 9, 10] [(3, .c (.int .i64)), (11, .c (.int .i64))] (.node (.reg [0, 3, 9, 10, 11, 12] (.nil)) (.node (.nil) (.join [0, 9, 10, 11] [(3, .c (.int .i64))] (.node (.reg [0, 3, 5, 9, 10, 11] (.nil)) (.node (.reg [0, 3, 9, 10, 11] (.nil)) (.node (.reg [0, 3, 9, 10, 11, 20] (.nil)) (.node (.reg [] (.nil)) (.nil))))) (.reg [0, 3, 9, 10, 11] (.nil))))))) (.node (.reg [0, 6] (.nil)) (.node (.node (.reg [6, 25, 26, 27] (.nil)) (.loop [25, 26] [(6, .c .slice), (27, .c (.int .i64))] (.node (.reg [6, 25, 26, 27, 28] (.nil)) (.node (.nil) (.join [25, 26, 27] [(6, .c .slice)] (.node (.reg [6, 8, 25, 26, 27] (.nil)) (.reg [6, 25, 26, 27] (.nil))) (.reg [6, 25, 26, 27] (.nil))))))) (.node (.reg [2] (.nil)) (.nil))))))
theorem H_slices_Concat_A_pair_Pair_pair_Pair (x0 : SliceV) {K : Tup [.c .slice] → Heap → Prop} {h0 : Heap} (h : F_slices_Concat_A_pair_Pair_pair_Pair x0 K h0) : HC PG f_slices_Concat_A_pair_Pair_pair_Pair [.slice x0.a x0.len x0.cap] [.c .slice] K h0 := HC.intro (an := A_slices_Concat_A_pair_Pair_pair_Pair) (c := Tryz.f153.body.getD .skip) Tryz.mixed Tryz.func153 rfl Tryz.call153 (Nat.le_of_ble_eq_true rfl) (cst (by kernel_rfl) h)
def F_slices_insertionSortCmpFunc_build_hashed (x0 : SliceV) (x1 : Int) (x2 : Int) (x3 : Value) (K : (Unit) → Heap → Prop) (h0 : Heap) : Prop :=
 LoopP (fun I1 (t2 : Int) h3 =>
 CondP (decide (t2 < x2)) (
 LoopP (fun I4 (t5 : Int) h6 =>
 Join (fun (t18 : Bool) h19 =>
 CondP t18 (
 (((0 : Int) ≤ (IntKind.wrap .i64 (t5 - 1)) ∧ (IntKind.wrap .i64 (t5 - 1)) < ((x0.len : Nat) : Int)) ∧ ∃ a20, x0.a = some a20 ∧
 ∃ v21, hcell h19 (adr (adr a20 ((IntKind.wrap .i64 (t5 - 1)).toNat * 3)) 0) = some (.string v21) ∧
 ∃ v22, hcell h19 (adr (adr a20 ((IntKind.wrap .i64 (t5 - 1)).toNat * 3)) 1) = some (.string v22) ∧
 ∃ v23, hcell h19 (adr (adr a20 ((IntKind.wrap .i64 (t5 - 1)).toNat * 3)) 2) = some (.int .u64 v23) ∧
 (((0 : Int) ≤ t5 ∧ t5 < ((x0.len : Nat) : Int)) ∧ ∃ a24, x0.a = some a24 ∧
 ∃ v25, hcell h19 (adr (adr a24 (t5.toNat * 3)) 0) = some (.string v25) ∧
 ∃ v26, hcell h19 (adr (adr a24 (t5.toNat * 3)) 1) = some (.string v26) ∧
 ∃ v27, hcell h19 (adr (adr a24 (t5.toNat * 3)) 2) = some (.int .u64 v27) ∧
 (((0 : Int) ≤ t5 ∧ t5 < ((x0.len : Nat) : Int)) ∧ ∃ a28, x0.a = some a28 ∧
 (WrS h19 (some (adr a28 (t5.toNat * 3))) 0 [.string v21, .string v22, .int .u64 v23] ∧
 At (hsetL h19 (adr a28 (t5.toNat * 3)) 0 [.string v21, .string v22, .int .u64 v23]) (fun h29 =>
 (((0 : Int) ≤ (IntKind.wrap .i64 (t5 - 1)) ∧ (IntKind.wrap .i64 (t5 - 1)) < ((x0.len : Nat) : Int)) ∧ ∃ a30, x0.a = some a30 ∧
 (WrS h29 (some (adr a30 ((IntKind.wrap .i64 (t5 - 1)).toNat * 3))) 0 [.string v25, .string v26, .int .u64 v27] ∧
 At (hsetL h29 (adr a30 ((IntKind.wrap .i64 (t5 - 1)).toNat * 3)) 0 [.string v25, .string v26, .int .u64 v27]) (fun h31 =>
 I4 (IntKind.wrap .i64 (t5 - 1)) h31))))))))) (
 I1 (IntKind.wrap .i64 (t2 + 1)) h19)) (fun J7 =>
 CondP (decide (t5 > x1)) (
 (((0 : Int) ≤ t5 ∧ t5 < ((x0.len : Nat) : Int)) ∧ ∃ a8, x0.a = some a8 ∧
 ∃ v9, hcell h6 (adr (adr a8 (t5.toNat * 3)) 0) = some (.string v9) ∧
 ∃ v10, hcell h6 (adr (adr a8 (t5.toNat * 3)) 1) = some (.string v10) ∧
 ∃ v11, hcell h6 (adr (adr a8 (t5.toNat * 3)) 2) = some (.int .u64 v11) ∧
 (((0 : Int) ≤ (IntKind.wrap .i64 (t5 - 1)) ∧ (IntKind.wrap .i64 (t5 - 1)) < ((x0.len : Nat) : Int)) ∧ ∃ a12, x0.a = some a12 ∧
 ∃ v13, hcell h6 (adr (adr a12 ((IntKind.wrap .i64 (t5 - 1)).toNat * 3)) 0) = some (.string v13) ∧
 ∃ v14, hcell h6 (adr (adr a12 ((IntKind.wrap .i64 (t5 - 1)).toNat * 3)) 1) = some (.string v14) ∧
 ∃ v15, hcell h6 (adr (adr a12 ((IntKind.wrap .i64 (t5 - 1)).toNat * 3)) 2) = some (.int .u64 v15) ∧
 HV PG x3 [.agg #[.string v9, .string v10, .int .u64 v11], .agg #[.string v13, .string v14, .int .u64 v15]] [.c (.int .i64)] (fun (e16 : Int) h17 =>
 J7 (decide (e16 < (0 : Int))) h17) h6))) (
 J7 false h6))) t2 h3) (
 K () h3)) (IntKind.wrap .i64 (x1 + 1)) h0
def A_slices_insertionSortCmpFunc_build_hashed : Ann := .node (.reg [0, 1, 2, 3, 8] (.nil)) (.loop [0, 1, 2, 3] [(8, .c (.int .i64))] (.node (.node (.reg [0, 1, 2, 3, 8, 14] (.nil)) (.nil)) (.node (.node (.reg [0, 1, 2, 3, 8, 9] (.nil)) (.loop [0, 1, 2, 3, 8] [(9, .c (.int .i64))] (.node (.join [0, 1, 2, 3, 8, 9] [(34, .c .bool)] (.reg [0, 1, 2, 3, 8, 9, 34] (.draw [.mk 0 131071 512 262144, .mk 0 131071 2 524288, .mk 3 131068 786432 1048576, .mk 4 131067 1048576 2097152, .mk 8 131063 2097160 4194304, .mk 8 131063 2097153 8388608, .mk 8 131063 2097664 16777216, .mk 104 130967 27262976 33554432, .mk 136 130935 35651584 67108864, .mk 8 131063 2097153 134217728, .mk 8 131063 2097664 268435456, .mk 1032 130039 270532608 536870912, .mk 2568 128503 673185792 1073741824, .mk 4104 126967 1075838976 2147483648, .mk 8472 122599 2220883968 4294967296, .mk 16392 114679 4297064448 8589934592, .mk 32776 98295 8592031744 17179869184] (.take 0 (.take 1 (.take 2 (.take 3 (.split 21 (.take 4 (.take 5 (.take 6 (.take 7 (.take 8 (.take 9 (.take 10 (.take 11 (.take 12 (.take 13 (.all (.last 14 (.take 15 (.take 16 (.done))))))))))))))) (.take 4 (.take 5 (.take 6 (.take 7 (.take 8 (.take 9 (.take 10 (.take 11 (.take 12 (.take 13 (.take 14 (.take 15 (.take 16 (.done))))))))))))))))))))) (.nil)) (.node (.reg [0, 1, 2, 3, 8, 9] (.draw [.mk 0 262143 1 137438953472, .mk 0 262143 512 274877906944, .mk 0 262143 1 549755813888, .mk 0 262143 512 1099511627776, .mk 8 262135 1099511627776 2199023255552, .mk 0 262143 1 4398046511104, .mk 0 262143 512 8796093022208, .mk 64 262079 8796093022208 17592186044416, .mk 160 261983 21990232555520 35184372088832, .mk 256 261887 35184372088832 70368744177664, .mk 0 262143 1 140737488355328, .mk 0 262143 512 281474976710656, .mk 3072 259071 422212465065984 562949953421312, .mk 4096 258047 562949953421312 1125899906842624, .mk 9187 262140 412316860416 2251799813685248, .mk 25571 245247 2322168557862912 0, .mk 65535 262123 2748779069440 4503599627370496, .mk 131071 188415 5629499534213120 0] (.take 0 (.take 1 (.take 2 (.take 3 (.take 4 (.take 5 (.take 6 (.take 7 (.take 8 (.take 9 (.take 10 (.take 11 (.take 12 (.take 13 (.take 14 (.all (.last 15 (.take 16 (.all (.last 17 (.done))))))))))))))))))))))) (.reg [0, 1, 2, 3, 8, 9] (.nil)))))) (.reg [0, 1, 2, 3, 8] (.nil)))))
theorem H_slices_insertionSortCmpFunc_build_hashed (x0 : SliceV) (x1 : Int) (x2 : Int) (x3 : Value) {K : Tup [] → Heap → Prop} {h0 : Heap} (h : F_slices_insertionSortCmpFunc_build_hashed x0 x1 x2 x3 K h0) : HC PG f_slices_insertionSortCmpFunc_build_hashed [.slice x0.a x0.len x0.cap, .int .i64 x1, .int .i64 x2, x3] [] K h0 := HC.intro (an := A_slices_insertionSortCmpFunc_build_hashed) (c := Tryz.f154.body.getD .skip) Tryz.mixed Tryz.func154 rfl Tryz.call154 (Nat.le_of_ble_eq_true rfl) (cst (by kernel_rfl) h)
def F_slices_symMergeCmpFunc_build_hashed (x0 : SliceV) (x1 : Int) (x2 : Int) (x3 : Int) (x4 : Value) (K : (Unit) → Heap → Prop) (h0 : Heap) : Prop :=
 CondP ((IntKind.wrap .i64 (x2 - x1)) == (1 : Int)) (
 LoopP (fun I1 (t2 : Int × Int) h3 =>
 CondP (decide (t2.1 < t2.2)) (
 ((0 : Int) ≤ (1 : Int) ∧
 Bd (Int.fdiv (IntKind.wrap .u64 (IntKind.wrap .i64 (t2.1 + t2.2))) (2 ^ (min (1 : Int).toNat (IntKind.bits .u64))) : Int) (fun n4 =>
 (((0 : Int) ≤ (IntKind.wrap .i64 n4) ∧ (IntKind.wrap .i64 n4) < ((x0.len : Nat) : Int)) ∧ ∃ a5, x0.a = some a5 ∧
 ∃ v6, hcell h3 (adr (adr a5 ((IntKind.wrap .i64 n4).toNat * 3)) 0) = some (.string v6) ∧
 ∃ v7, hcell h3 (adr (adr a5 ((IntKind.wrap .i64 n4).toNat * 3)) 1) = some (.string v7) ∧
 ∃ v8, hcell h3 (adr (adr a5 ((IntKind.wrap .i64 n4).toNat * 3)) 2) = some (.int .u64 v8) ∧
 (((0 : Int) ≤ x1 ∧ x1 < ((x0.len : Nat) : Int)) ∧ ∃ a9, x0.a = some a9 ∧
 ∃ v10, hcell h3 (adr (adr a9 (x1.toNat * 3)) 0) = some (.string v10) ∧
 ∃ v11, hcell h3 (adr (adr a9 (x1.toNat * 3)) 1) = some (.string v11) ∧
 ∃ v12, hcell h3 (adr (adr a9 (x1.toNat * 3)) 2) = some (.int .u64 v12) ∧
 HV PG x4 [.agg #[.string v6, .string v7, .int .u64 v8], .agg #[.string v10, .string v11, .int .u64 v12]] [.c (.int .i64)] (fun (e13 : Int) h14 =>
 CondP (decide (e13 < (0 : Int))) (
 I1 (IntKind.wrap .i64 ((IntKind.wrap .i64 n4) + 1), t2.2) h14) (
 I1 (t2.1, IntKind.wrap .i64 n4) h14)) h3))))) (
 LoopP (fun I15 (t16 : Int) h17 =>
 CondP (decide (t16 < (IntKind.wrap .i64 (t2.1 - 1)))) (
 (((0 : Int) ≤ (IntKind.wrap .i64 (t16 + 1)) ∧ (IntKind.wrap .i64 (t16 + 1)) < ((x0.len : Nat) : Int)) ∧ ∃ a18, x0.a = some a18 ∧
 ∃ v19, hcell h17 (adr (adr a18 ((IntKind.wrap .i64 (t16 + 1)).toNat * 3)) 0) = some (.string v19) ∧
 ∃ v20, hcell h17 (adr (adr a18 ((IntKind.wrap .i64 (t16 + 1)).toNat * 3)) 1) = some (.string v20) ∧
 ∃ v21, hcell h17 (adr (adr a18 ((IntKind.wrap .i64 (t16 + 1)).toNat * 3)) 2) = some (.int .u64 v21) ∧
 (((0 : Int) ≤ t16 ∧ t16 < ((x0.len : Nat) : Int)) ∧ ∃ a22, x0.a = some a22 ∧
 ∃ v23, hcell h17 (adr (adr a22 (t16.toNat * 3)) 0) = some (.string v23) ∧
 ∃ v24, hcell h17 (adr (adr a22 (t16.toNat * 3)) 1) = some (.string v24) ∧
 ∃ v25, hcell h17 (adr (adr a22 (t16.toNat * 3)) 2) = some (.int .u64 v25) ∧
 (((0 : Int) ≤ t16 ∧ t16 < ((x0.len : Nat) : Int)) ∧ ∃ a26, x0.a = some a26 ∧
 (WrS h17 (some (adr a26 (t16.toNat * 3))) 0 [.string v19, .string v20, .int .u64 v21] ∧
 At (hsetL h17 (adr a26 (t16.toNat * 3)) 0 [.string v19, .string v20, .int .u64 v21]) (fun h27 =>
 (((0 : Int) ≤ (IntKind.wrap .i64 (t16 + 1)) ∧ (IntKind.wrap .i64 (t16 + 1)) < ((x0.len : Nat) : Int)) ∧ ∃ a28, x0.a = some a28 ∧
 (WrS h27 (some (adr a28 ((IntKind.wrap .i64 (t16 + 1)).toNat * 3))) 0 [.string v23, .string v24, .int .u64 v25] ∧
 At (hsetL h27 (adr a28 ((IntKind.wrap .i64 (t16 + 1)).toNat * 3)) 0 [.string v23, .string v24, .int .u64 v25]) (fun h29 =>
 I15 (IntKind.wrap .i64 (t16 + 1)) h29))))))))) (
 K () h17)) x1 h3)) (x2, x3) h0) (
 CondP ((IntKind.wrap .i64 (x3 - x2)) == (1 : Int)) (
 LoopP (fun I30 (t31 : Int × Int) h32 =>
 CondP (decide (t31.1 < t31.2)) (
 ((0 : Int) ≤ (1 : Int) ∧
 Bd (Int.fdiv (IntKind.wrap .u64 (IntKind.wrap .i64 (t31.1 + t31.2))) (2 ^ (min (1 : Int).toNat (IntKind.bits .u64))) : Int) (fun n33 =>
 (((0 : Int) ≤ x2 ∧ x2 < ((x0.len : Nat) : Int)) ∧ ∃ a34, x0.a = some a34 ∧
 ∃ v35, hcell h32 (adr (adr a34 (x2.toNat * 3)) 0) = some (.string v35) ∧
 ∃ v36, hcell h32 (adr (adr a34 (x2.toNat * 3)) 1) = some (.string v36) ∧
 ∃ v37, hcell h32 (adr (adr a34 (x2.toNat * 3)) 2) = some (.int .u64 v37) ∧
 (((0 : Int) ≤ (IntKind.wrap .i64 n33) ∧ (IntKind.wrap .i64 n33) < ((x0.len : Nat) : Int)) ∧ ∃ a38, x0.a = some a38 ∧
 ∃ v39, hcell h32 (adr (adr a38 ((IntKind.wrap .i64 n33).toNat * 3)) 0) = some (.string v39) ∧
 ∃ v40, hcell h32 (adr (adr a38 ((IntKind.wrap .i64 n33).toNat * 3)) 1) = some (.string v40) ∧
 ∃ v41, hcell h32 (adr (adr a38 ((IntKind.wrap .i64 n33).toNat * 3)) 2) = some (.int .u64 v41) ∧
 HV PG x4 [.agg #[.string v35, .string v36, .int .u64 v37], .agg #[.string v39, .string v40, .int .u64 v41]] [.c (.int .i64)] (fun (e42 : Int) h43 =>
 CondP (!(decide (e42 < (0 : Int)))) (
 I30 (IntKind.wrap .i64 ((IntKind.wrap .i64 n33) + 1), t31.2) h43) (
 I30 (t31.1, IntKind.wrap .i64 n33) h43)) h32))))) (
 LoopP (fun I44 (t45 : Int) h46 =>
 CondP (decide (t45 > t31.1)) (
 (((0 : Int) ≤ (IntKind.wrap .i64 (t45 - 1)) ∧ (IntKind.wrap .i64 (t45 - 1)) < ((x0.len : Nat) : Int)) ∧ ∃ a47, x0.a = some a47 ∧
 ∃ v48, hcell h46 (adr (adr a47 ((IntKind.wrap .i64 (t45 - 1)).toNat * 3)) 0) = some (.string v48) ∧
 ∃ v49, hcell h46 (adr (adr a47 ((IntKind.wrap .i64 (t45 - 1)).toNat * 3)) 1) = some (.string v49) ∧
 ∃ v50, hcell h46 (adr (adr a47 ((IntKind.wrap .i64 (t45 - 1)).toNat * 3)) 2) = some (.int .u64 v50) ∧
 (((0 : Int) ≤ t45 ∧ t45 < ((x0.len : Nat) : Int)) ∧ ∃ a51, x0.a = some a51 ∧
 ∃ v52, hcell h46 (adr (adr a51 (t45.toNat * 3)) 0) = some (.string v52) ∧
 ∃ v53, hcell h46 (adr (adr a51 (t45.toNat * 3)) 1) = some (.string v53) ∧
 ∃ v54, hcell h46 (adr (adr a51 (t45.toNat * 3)) 2) = some (.int .u64 v54) ∧
 (((0 : Int) ≤ t45 ∧ t45 < ((x0.len : Nat) : Int)) ∧ ∃ a55, x0.a = some a55 ∧
 (WrS h46 (some (adr a55 (t45.toNat * 3))) 0 [.string v48, .string v49, .int .u64 v50] ∧
 At (hsetL h46 (adr a55 (t45.toNat * 3)) 0 [.string v48, .string v49, .int .u64 v50]) (fun h56 =>
 (((0 : Int) ≤ (IntKind.wrap .i64 (t45 - 1)) ∧ (IntKind.wrap .i64 (t45 - 1)) < ((x0.len : Nat) : Int)) ∧ ∃ a57, x0.a = some a57 ∧
 (WrS h56 (some (adr a57 ((IntKind.wrap .i64 (t45 - 1)).toNat * 3))) 0 [.string v52, .string v53, .int .u64 v54] ∧
 At (hsetL h56 (adr a57 ((IntKind.wrap .i64 (t45 - 1)).toNat * 3)) 0 [.string v52, .string v53, .int .u64 v54]) (fun h58 =>
 I44 (IntKind.wrap .i64 (t45 - 1)) h58))))))))) (
 K () h46)) x2 h32)) (x1, x2) h0) (
 ((0 : Int) ≤ (1 : Int) ∧
 Bd (Int.fdiv (IntKind.wrap .u64 (IntKind.wrap .i64 (x1 + x3))) (2 ^ (min (1 : Int).toNat (IntKind.bits .u64))) : Int) (fun n59 =>
 Join (fun (t62 : Int × Int) h63 =>
 Bd (IntKind.wrap .i64 ((IntKind.wrap .i64 ((IntKind.wrap .i64 n59) + x2)) - 1) : Int) (fun n64 =>
 LoopP (fun I65 (t66 : Int × Int) h67 =>
 CondP (decide (t66.1 < t66.2)) (
 ((0 : Int) ≤ (1 : Int) ∧
 Bd (Int.fdiv (IntKind.wrap .u64 (IntKind.wrap .i64 (t66.1 + t66.2))) (2 ^ (min (1 : Int).toNat (IntKind.bits .u64))) : Int) (fun n68 =>
 (((0 : Int) ≤ (IntKind.wrap .i64 (n64 - (IntKind.wrap .i64 n68))) ∧ (IntKind.wrap .i64 (n64 - (IntKind.wrap .i64 n68))) < ((x0.len : Nat) : Int)) ∧ ∃ a69, x0.a = some a69 ∧
 ∃ v70, hcell h67 (adr (adr a69 ((IntKind.wrap .i64 (n64 - (IntKind.wrap .i64 n68))).toNat * 3)) 0) = some (.string v70) ∧
 ∃ v71, hcell h67 (adr (adr a69 ((IntKind.wrap .i64 (n64 - (IntKind.wrap .i64 n68))).toNat * 3)) 1) = some (.string v71) ∧
 ∃ v72, hcell h67 (adr (adr a69 ((IntKind.wrap .i64 (n64 - (IntKind.wrap .i64 n68))).toNat * 3)) 2) = some (.int .u64 v72) ∧
 (((0 : Int) ≤ (IntKind.wrap .i64 n68) ∧ (IntKind.wrap .i64 n68) < ((x0.len : Nat) : Int)) ∧ ∃ a73, x0.a = some a73 ∧
 ∃ v74, hcell h67 (adr (adr a73 ((IntKind.wrap .i64 n68).toNat * 3)) 0) = some (.string v74) ∧
 ∃ v75, hcell h67 (adr (adr a73 ((IntKind.wrap .i64 n68).toNat * 3)) 1) = some (.string v75) ∧
 ∃ v76, hcell h67 (adr (adr a73 ((IntKind.wrap .i64 n68).toNat * 3)) 2) = some (.int .u64 v76) ∧
 HV PG x4 [.agg #[.string v70, .string v71, .int .u64 v72], .agg #[.string v74, .string v75, .int .u64 v76]] [.c (.int .i64)] (fun (e77 : Int) h78 =>
 CondP (!(decide (e77 < (0 : Int)))) (
 I65 (IntKind.wrap .i64 ((IntKind.wrap .i64 n68) + 1), t66.2) h78) (
 I65 (t66.1, IntKind.wrap .i64 n68) h78)) h67))))) (
 Bd (IntKind.wrap .i64 ((IntKind.wrap .i64 ((IntKind.wrap .i64 n59) + x2)) - t66.1) : Int) (fun n79 =>
 Join (fun (t86 : Unit) h87 =>
 Join (fun (t94 : Unit) h95 =>
 Join (fun (t97 : Bool) h98 =>
 CondP t97 (
 HC PG f_slices_symMergeCmpFunc_build_hashed [.slice x0.a x0.len x0.cap, .int .i64 (IntKind.wrap .i64 n59), .int .i64 n79, .int .i64 x3, x4] [] (fun (e99 : Unit) h100 =>
 K () h100) h98) (
 K () h98)) (fun J96 =>
 CondP (decide ((IntKind.wrap .i64 n59) < n79)) (
 J96 (decide (n79 < x3)) h95) (
 J96 false h95))) (fun J88 =>
 Join (fun (t90 : Bool) h91 =>
 CondP t90 (
 HC PG f_slices_symMergeCmpFunc_build_hashed [.slice x0.a x0.len x0.cap, .int .i64 x1, .int .i64 t66.1, .int .i64 (IntKind.wrap .i64 n59), x4] [] (fun (e92 : Unit) h93 =>
 J88 () h93) h91) (
 J88 () h91)) (fun J89 =>
 CondP (decide (x1 < t66.1)) (
 J89 (decide (t66.1 < (IntKind.wrap .i64 n59))) h87) (
 J89 false h87)))) (fun J80 =>
 Join (fun (t82 : Bool) h83 =>
 CondP t82 (
 HC PG f_slices_rotateCmpFunc_build_hashed [.slice x0.a x0.len x0.cap, .int .i64 t66.1, .int .i64 x2, .int .i64 n79, x4] [] (fun (e84 : Unit) h85 =>
 J80 () h85) h83) (
 J80 () h83)) (fun J81 =>
 CondP (decide (t66.1 < x2)) (
 J81 (decide (x2 < n79)) h67) (
 J81 false h67)))))) (t62.1, t62.2) h63)) (fun J60 =>
 CondP (decide (x2 > (IntKind.wrap .i64 n59))) (
 Bd (IntKind.wrap .i64 ((IntKind.wrap .i64 ((IntKind.wrap .i64 n59) + x2)) - x3) : Int) (fun n61 =>
 J60 (n61, IntKind.wrap .i64 n59) h0)) (
 J60 (x1, x2) h0))))))
def A_slices_symMergeCmpFunc_build_hashed : Ann := .node (.node (.reg [0, 1, 2, 3, 4, 28] (.nil)) (.node (.node (.reg [0, 1, 3, 4, 10] (.nil)) (.node (.reg [0, 1, 4, 10, 11] (.nil)) (.node (.loop [0, 1, 4] [(10, .c (.int .i64)), (11, .c (.int .i64))] (.node (.node (.reg [0, 1, 4, 10, 11, 33] (.nil)) (.nil)) (.node (.reg [0, 1, 4, 10, 11, 12] (.nil)) (.node (.reg [0, 1, 4, 10, 11, 12, 50] (.draw [.mk 0 2047 16 1099511627776, .mk 0 2047 1 2199023255552, .mk 0 2047 4096 4398046511104, .mk 6 2041 6597069766656 8796093022208, .mk 8 2039 8796093022208 17592186044416, .mk 0 2047 1 35184372088832, .mk 0 2047 2 70368744177664, .mk 96 1951 105553116266496 140737488355328, .mk 128 1919 140737488355328 281474976710656, .mk 273 1774 300166674382848 562949953421312, .mk 512 1535 562949953421312 1125899906842624] (.take 0 (.take 1 (.take 2 (.take 3 (.take 4 (.take 5 (.take 6 (.take 7 (.take 8 (.all (.last 9 (.take 10 (.done))))))))))))))) (.node (.reg [0, 1, 4, 10, 11] (.nil)) (.reg [0, 1, 4, 10, 11] (.nil))))))) (.node (.node (.reg [0, 10, 13] (.nil)) (.loop [0, 10] [(13, .c (.int .i64))] (.node (.node (.reg [0, 10, 13, 58] (.nil)) (.nil)) (.node (.reg [0, 10, 13] (.draw [.mk 0 262143 1 2305843009213693952, .mk 0 262143 8192 4611686018427387904, .mk 0 262143 1 9223372036854775808, .mk 0 262143 8192 18446744073709551616, .mk 8 262135 18446744073709551616 36893488147419103232, .mk 0 262143 1 73786976294838206464, .mk 0 262143 8192 147573952589676412928, .mk 64 262079 147573952589676412928 295147905179352825856, .mk 160 261983 368934881474191032320 590295810358705651712, .mk 256 261887 590295810358705651712 1180591620717411303424, .mk 0 262143 1 2361183241434822606848, .mk 0 262143 8192 4722366482869645213696, .mk 3072 259071 7083549724304467820544 9444732965739290427392, .mk 4096 258047 9444732965739290427392 18889465931478580854784, .mk 9187 262140 6917529027641081856 37778931862957161709568, .mk 25571 245247 38959523483674573012992 0, .mk 65535 262123 46116860184273879040 75557863725914323419136, .mk 131071 188415 94447329657392904273920 0] (.take 0 (.take 1 (.take 2 (.take 3 (.take 4 (.take 5 (.take 6 (.take 7 (.take 8 (.take 9 (.take 10 (.take 11 (.take 12 (.take 13 (.take 14 (.all (.last 15 (.take 16 (.all (.last 17 (.done))))))))))))))))))))))) (.reg [0, 10, 13] (.nil)))))) (.nil))))) (.nil))) (.node (.node (.reg [0, 1, 2, 3, 4, 80] (.nil)) (.node (.node (.reg [0, 2, 4, 14] (.nil)) (.node (.reg [0, 2, 4, 14, 15] (.nil)) (.node (.loop [0, 2, 4] [(14, .c (.int .i64)), (15, .c (.int .i64))] (.node (.node (.reg [0, 2, 4, 14, 15, 85] (.nil)) (.nil)) (.node (.reg [0, 2, 4, 14, 15, 16] (.nil)) (.node (.reg [0, 2, 4, 14, 15, 16, 103] (.draw [.mk 0 4095 16 4951760157141521099596496896, .mk 0 4095 1 9903520314283042199192993792, .mk 0 4095 4 19807040628566084398385987584, .mk 6 4089 29710560942849126597578981376 39614081257132168796771975168, .mk 8 4087 39614081257132168796771975168 79228162514264337593543950336, .mk 0 4095 1 158456325028528675187087900672, .mk 0 4095 65536 316912650057057350374175801344, .mk 96 3999 475368975085586025561263702016 633825300114114700748351602688, .mk 128 3967 633825300114114700748351602688 1267650600228229401496703205376, .mk 273 3822 1351830522899635260189843652608 2535301200456458802993406410752, .mk 512 3583 2535301200456458802993406410752 5070602400912917605986812821504, .mk 1024 3071 5070602400912917605986812821504 10141204801825835211973625643008] (.take 0 (.take 1 (.take 2 (.take 3 (.take 4 (.take 5 (.take 6 (.take 7 (.take 8 (.all (.last 9 (.take 10 (.take 11 (.done)))))))))))))))) (.node (.reg [0, 2, 4, 14, 15] (.nil)) (.reg [0, 2, 4, 14, 15] (.nil))))))) (.node (.node (.reg [0, 14, 17] (.nil)) (.loop [0, 14] [(17, .c (.int .i64))] (.node (.node (.reg [0, 14, 17, 110] (.nil)) (.nil)) (.node (.reg [0, 14, 17] (.draw [.mk 0 262143 1 10384593717069655257060992658440192, .mk 0 262143 131072 20769187434139310514121985316880384, .mk 0 262143 1 41538374868278621028243970633760768, .mk 0 262143 131072 83076749736557242056487941267521536, .mk 8 262135 83076749736557242056487941267521536 166153499473114484112975882535043072, .mk 0 262143 1 332306998946228968225951765070086144, .mk 0 262143 131072 664613997892457936451903530140172288, .mk 64 262079 664613997892457936451903530140172288 1329227995784915872903807060280344576, .mk 160 261983 1661534994731144841129758825350430720 2658455991569831745807614120560689152, .mk 256 261887 2658455991569831745807614120560689152 5316911983139663491615228241121378304, .mk 0 262143 1 10633823966279326983230456482242756608, .mk 0 262143 131072 21267647932558653966460912964485513216, .mk 3072 259071 31901471898837980949691369446728269824 42535295865117307932921825928971026432, .mk 4096 258047 42535295865117307932921825928971026432 85070591730234615865843651857942052864, .mk 9187 262140 31153781151208965771182977975320576 170141183460469231731687303715884105728, .mk 25571 245247 175458095443608895223302531957005484032 0, .mk 65535 262123 207691874341393105141219853168803840 340282366920938463463374607431768211456, .mk 131071 188415 425352958651173079329218259289710264320 0] (.take 0 (.take 1 (.take 2 (.take 3 (.take 4 (.take 5 (.take 6 (.take 7 (.take 8 (.take 9 (.take 10 (.take 11 (.take 12 (.take 13 (.take 14 (.all (.last 15 (.take 16 (.all (.last 17 (.done))))))))))))))))))))))) (.reg [0, 14, 17] (.nil)))))) (.nil))))) (.nil))) (.node (.reg [0, 1, 2, 3, 4, 18] (.nil)) (.node (.reg [0, 1, 2, 3, 4, 18, 19] (.nil)) (.node (.reg [0, 1, 2, 3, 4, 18, 19] (.nil)) (.join [0, 1, 2, 3, 4, 18, 19] [(20, .c (.int .i64)), (21, .c (.int .i64))] (.node (.reg [0, 1, 2, 3, 4, 18, 19, 140] (.nil)) (.node (.node (.reg [0, 1, 2, 3, 4, 18, 19, 20] (.nil)) (.reg [0, 1, 2, 3, 4, 18, 19, 20, 21] (.nil))) (.node (.reg [0, 1, 2, 3, 4, 18, 19, 20] (.nil)) (.reg [0, 1, 2, 3, 4, 18, 19, 20, 21] (.nil))))) (.node (.reg [0, 1, 2, 3, 4, 18, 19, 20, 21, 22] (.nil)) (.node (.loop [0, 1, 2, 3, 4, 18, 19, 22] [(20, .c (.int .i64)), (21, .c (.int .i64))] (.node (.node (.reg [0, 1, 2, 3, 4, 18, 19, 20, 21, 22, 151] (.nil)) (.nil)) (.node (.reg [0, 1, 2, 3, 4, 18, 19, 20, 21, 22, 23] (.nil)) (.node (.reg [0, 1, 2, 3, 4, 18, 19, 20, 21, 22, 23, 171] (.draw [.mk 0 16383 16 365375409332725729550921208179070754913983135744, .mk 0 16383 1 730750818665451459101842416358141509827966271488, .mk 0 16383 4194304 1461501637330902918203684832716283019655932542976, .mk 0 16383 8388608 2923003274661805836407369665432566039311865085952, .mk 12 16371 4384504911992708754611054498148849058967797628928 5846006549323611672814739330865132078623730171904, .mk 18 16365 6576757367989063131916581747223273588451696443392 11692013098647223345629478661730264157247460343808, .mk 32 16351 11692013098647223345629478661730264157247460343808 23384026197294446691258957323460528314494920687616, .mk 0 16383 1 46768052394588893382517914646921056628989841375232, .mk 0 16383 8388608 93536104789177786765035829293842113257979682750464, .mk 384 15999 140304157183766680147553743940763169886969524125696 187072209578355573530071658587684226515959365500928, .mk 512 15871 187072209578355573530071658587684226515959365500928 374144419156711147060143317175368453031918731001856, .mk 1089 15294 397893820763338319480953195707008052101327634825216 748288838313422294120286634350736906063837462003712, .mk 2048 14335 748288838313422294120286634350736906063837462003712 1496577676626844588240573268701473812127674924007424, .mk 4096 12287 1496577676626844588240573268701473812127674924007424 2993155353253689176481146537402947624255349848014848] (.take 0 (.take 1 (.take 2 (.take 3 (.take 4 (.take 5 (.take 6 (.take 7 (.take 8 (.take 9 (.take 10 (.all (.last 11 (.take 12 (.take 13 (.done)))))))))))))))))) (.node (.reg [0, 1, 2, 3, 4, 18, 19, 20, 21, 22] (.nil)) (.reg [0, 1, 2, 3, 4, 18, 19, 20, 21, 22] (.nil))))))) (.node (.reg [0, 1, 2, 3, 4, 18, 20, 24] (.nil)) (.join [0, 1, 3, 4, 18, 20, 24] [] (.join [0, 1, 2, 3, 4, 18, 20, 24] [(185, .c .bool)] (.reg [0, 1, 2, 3, 4, 18, 20, 24, 185] (.nil)) (.node (.reg [0, 1, 3, 4, 18, 20, 24] (.nil)) (.nil))) (.join [0, 3, 4, 18, 24] [] (.join [0, 1, 3, 4, 18, 20, 24] [(199, .c .bool)] (.reg [0, 1, 3, 4, 18, 20, 24, 199] (.nil)) (.node (.reg [0, 3, 4, 18, 24] (.nil)) (.nil))) (.join [0, 3, 4, 18, 24] [(213, .c .bool)] (.reg [0, 3, 4, 18, 24, 213] (.nil)) (.node (.reg [] (.nil)) (.nil)))))))))))))
theorem H_slices_symMergeCmpFunc_build_hashed (x0 : SliceV) (x1 : Int) (x2 : Int) (x3 : Int) (x4 : Value) {K : Tup [] → Heap → Prop} {h0 : Heap} (h : F_slices_symMergeCmpFunc_build_hashed x0 x1 x2 x3 x4 K h0) : HC PG f_slices_symMergeCmpFunc_build_hashed [.slice x0.a x0.len x0.cap, .int .i64 x1, .int .i64 x2, .int .i64 x3, x4] [] K h0 := HC.intro (an := A_slices_symMergeCmpFunc_build_hashed) (c := Tryz.f155.body.getD .skip) Tryz.mixed Tryz.func155 rfl Tryz.call155 (Nat.le_of_ble_eq_true rfl) (cst (by kernel_rfl) h)
def F_chunk_right (x0 : Int) (K : (Bool) → Heap → Prop) (h0 : Heap) : Prop :=
 CondP (decide (x0 ≥ (0 : Int))) (
 K (decide (x0 < (32 : Int))) h0) (
 K false h0)
def A_chunk_right : Ann := .node (.reg [0] (.nil)) (.node (.reg [2] (.nil)) (.nil))
theorem H_chunk_right (x0 : Int) {K : Tup [.c .bool] → Heap → Prop} {h0 : Heap} (h : F_chunk_right x0 K h0) : HC PG f_chunk_right [.int .i64 x0] [.c .bool] K h0 := HC.intro (an := A_chunk_right) (c := Tryz.f156.body.getD .skip) Tryz.mixed Tryz.func156 rfl Tryz.call156 (Nat.le_of_ble_eq_true rfl) (cst (by kernel_rfl) h)
def F_chunk_Bits_Count (x0 : Int) (K : (Int) → Heap → Prop) (h0 : Heap) : Prop :=
 HC PG f_math_bits_OnesCount32 [.int .u32 x0] [.c (.int .i64)] (fun (e1 : Int) h2 =>
 K e1 h2) h0
def A_chunk_Bits_Count : Ann := .node (.reg [0] (.nil)) (.node (.reg [2] (.nil)) (.nil))
theorem H_chunk_Bits_Count (x0 : Int) {K : Tup [.c (.int .i64)] → Heap → Prop} {h0 : Heap} (h : F_chunk_Bits_Count x0 K h0) : HC PG f_chunk_Bits_Count [.int .u32 x0] [.c (.int .i64)] K h0 := HC.intro (an := A_chunk_Bits_Count) (c := Tryz.f157.body.getD .skip) Tryz.mixed Tryz.func157 rfl Tryz.call157 (Nat.le_of_ble_eq_true rfl) (cst (by kernel_rfl) h)
def F_slices_Delete_A_pair_Pair_pair_Pair (x0 : SliceV) (x1 : Int) (x2 : Int) (K : (SliceV) → Heap → Prop) (h0 : Heap) : Prop :=
 (((0 : Int) ≤ (x0.len : Int) ∧ (x0.len : Int) ≤ ((x0.cap : Nat) : Int)) ∧
 (((0 : Int) ≤ x2 ∧ x2 ≤ (((x0.len : Int).toNat : Nat) : Int)) ∧
 (((0 : Int) ≤ x1 ∧ x1 ≤ ((x2.toNat : Nat) : Int)) ∧
 CondP (x1 == x2) (
 K x0 h0) (
 Join (fun (t5 : SliceV) h6 =>
 (((0 : Int) ≤ (x0.len : Int) ∧ (x0.len : Int) ≤ ((t5.cap : Nat) : Int)) ∧
 (((0 : Int) ≤ (t5.len : Int) ∧ (t5.len : Int) ≤ (((x0.len : Int).toNat : Nat) : Int)) ∧
 Bd (subAddr t5.a ((t5.len : Int).toNat) t5.cap 2 : Option Addr) (fun a7 => Bd (((x0.len : Int).toNat) - ((t5.len : Int).toNat) : Nat) (fun n8 => Bd (t5.cap - ((t5.len : Int).toNat) : Nat) (fun n9 =>
 (WrS h6 a7 0 (zrow n8 [.string (⟨#[]⟩ : ByteArray), .string (⟨#[]⟩ : ByteArray)]) ∧
 At (hsetS h6 a7 0 (zrow n8 [.string (⟨#[]⟩ : ByteArray), .string (⟨#[]⟩ : ByteArray)])) (fun h10 =>
 K t5 h10)))))))) (fun J1 =>
 (((0 : Int) ≤ x1 ∧ x1 ≤ ((x0.cap : Nat) : Int)) ∧
 (((0 : Int) ≤ x2 ∧ x2 ≤ ((x0.len : Nat) : Int)) ∧
 ∃ xs2, SRow h0 (subAddr x0.a x2.toNat x0.cap 2) ((x0.len - x2.toNat) * 2) xs2 ∧
 AppP (some [.string (⟨#[]⟩ : ByteArray), .string (⟨#[]⟩ : ByteArray)]) 2 32 t_pair_Pair (subAddr x0.a 0 x0.cap 2) (x1.toNat - 0) (x0.cap - 0) (x0.len - x2.toNat) xs2 h0 (fun s3 h4 =>
 J1 s3 h4))))))))
def A_slices_Delete_A_pair_Pair_pair_Pair : Ann := .node (.reg [0, 1, 2] (.nil)) (.node (.reg [0, 1, 2] (.nil)) (.node (.node (.reg [0, 1, 2, 16] (.nil)) (.node (.node (.reg [6] (.nil)) (.nil)) (.nil))) (.node (.reg [0, 1, 2, 7] (.nil)) (.join [7] [(0, .c .slice)] (.reg [0, 7] (.draw [.mk 0 255 1 1048576, .mk 0 255 2 2097152, .mk 3 252 3145728 4194304, .mk 0 255 1 8388608, .mk 0 255 4 16777216, .mk 24 231 25165824 33554432, .mk 36 219 37748736 67108864, .mk 127 182 67108864 1] (.take 0 (.take 1 (.take 2 (.take 3 (.take 4 (.take 5 (.all (.last 6 (.take 7 (.done)))))))))))) (.node (.reg [0] (.nil)) (.node (.reg [6] (.nil)) (.nil)))))))
theorem H_slices_Delete_A_pair_Pair_pair_Pair (x0 : SliceV) (x1 : Int) (x2 : Int) {K : Tup [.c .slice] → Heap → Prop} {h0 : Heap} (h : F_slices_Delete_A_pair_Pair_pair_Pair x0 x1 x2 K h0) : HC PG f_slices_Delete_A_pair_Pair_pair_Pair [.slice x0.a x0.len x0.cap, .int .i64 x1, .int .i64 x2] [.c .slice] K h0 := HC.intro (an := A_slices_Delete_A_pair_Pair_pair_Pair) (c := Tryz.f158.body.getD .skip) Tryz.mixed Tryz.func158 rfl Tryz.call158 (Nat.le_of_ble_eq_true rfl) (cst (by kernel_rfl) h)
def F_slices_Delete_A_P_node_Node_P_node_Node (x0 : SliceV) (x1 : Int) (x2 : Int) (K : (SliceV) → Heap → Prop) (h0 : Heap) : Prop :=
 (((0 : Int) ≤ (x0.len : Int) ∧ (x0.len : Int) ≤ ((x0.cap : Nat) : Int)) ∧
 (((0 : Int) ≤ x2 ∧ x2 ≤ (((x0.len : Int).toNat : Nat) : Int)) ∧
 (((0 : Int) ≤ x1 ∧ x1 ≤ ((x2.toNat : Nat) : Int)) ∧
 CondP (x1 == x2) (
 K x0 h0) (
 Join (fun (t5 : SliceV) h6 =>
 (((0 : Int) ≤ (x0.len : Int) ∧ (x0.len : Int) ≤ ((t5.cap : Nat) : Int)) ∧
 (((0 : Int) ≤ (t5.len : Int) ∧ (t5.len : Int) ≤ (((x0.len : Int).toNat : Nat) : Int)) ∧
 Bd (subAddr t5.a ((t5.len : Int).toNat) t5.cap 1 : Option Addr) (fun a7 => Bd (((x0.len : Int).toNat) - ((t5.len : Int).toNat) : Nat) (fun n8 => Bd (t5.cap - ((t5.len : Int).toNat) : Nat) (fun n9 =>
 (WrS h6 a7 0 (zrow n8 [.pointer none]) ∧
 At (hsetS h6 a7 0 (zrow n8 [.pointer none])) (fun h10 =>
 K t5 h10)))))))) (fun J1 =>
 (((0 : Int) ≤ x1 ∧ x1 ≤ ((x0.cap : Nat) : Int)) ∧
 (((0 : Int) ≤ x2 ∧ x2 ≤ ((x0.len : Nat) : Int)) ∧
 ∃ xs2, SRow h0 (subAddr x0.a x2.toNat x0.cap 1) ((x0.len - x2.toNat) * 1) xs2 ∧
 AppP (some [.pointer none]) 1 8 t_P_node_Node (subAddr x0.a 0 x0.cap 1) (x1.toNat - 0) (x0.cap - 0) (x0.len - x2.toNat) xs2 h0 (fun s3 h4 =>
 J1 s3 h4))))))))
def A_slices_Delete_A_P_node_Node_P_node_Node : Ann := .node (.reg [0, 1, 2] (.nil)) (.node (.reg [0, 1, 2] (.nil)) (.node (.node (.reg [0, 1, 2, 16] (.nil)) (.node (.node (.reg [6] (.nil)) (.nil)) (.nil))) (.node (.reg [0, 1, 2, 7] (.nil)) (.join [7] [(0, .c .slice)] (.reg [0, 7] (.draw [.mk 0 255 1 1048576, .mk 0 255 2 2097152, .mk 3 252 3145728 4194304, .mk 0 255 1 8388608, .mk 0 255 4 16777216, .mk 24 231 25165824 33554432, .mk 36 219 37748736 67108864, .mk 127 182 67108864 1] (.take 0 (.take 1 (.take 2 (.take 3 (.take 4 (.take 5 (.all (.last 6 (.take 7 (.done)))))))))))) (.node (.reg [0] (.nil)) (.node (.reg [6] (.nil)) (.nil)))))))
theorem H_slices_Delete_A_P_node_Node_P_node_Node (x0 : SliceV) (x1 : Int) (x2 : Int) {K : Tup [.c .slice] → Heap → Prop} {h0 : Heap} (h : F_slices_Delete_A_P_node_Node_P_node_Node x0 x1 x2 K h0) : HC PG f_slices_Delete_A_P_node_Node_P_node_Node [.slice x0.a x0.len x0.cap, .int .i64 x1, .int .i64 x2] [.c .slice] K h0 := HC.intro (an := A_slices_Delete_A_P_node_Node_P_node_Node) (c := Tryz.f159.body.getD .skip) Tryz.mixed Tryz.func159 rfl Tryz.call159 (Nat.le_of_ble_eq_true rfl) (cst (by kernel_rfl) h)
def F_chunk_Bits_Without (x0 : Int) (x1 : Int) (K : (Int) → Heap → Prop) (h0 : Heap) : Prop :=
 HC PG f_chunk_right [.int .i64 x1] [.c .bool] (fun (e1 : Bool) h2 =>
 CondP (!e1) (
 K x0 h2) (
 ((0 : Int) ≤ x1 ∧
 Bd (IntKind.wrap .u32 (BitVec.ofInt (IntKind.bits .u32) x0 &&& ~~~ BitVec.ofInt (IntKind.bits .u32) (IntKind.wrap .u32 (1 * 2 ^ (min (x1 : Int).toNat (IntKind.bits .u32))))).toNat : Int) (fun n3 =>
 K n3 h2)))) h0
def A_chunk_Bits_Without : Ann := .node (.reg [0, 1] (.nil)) (.node (.node (.reg [0, 1, 7] (.nil)) (.node (.node (.reg [4] (.nil)) (.nil)) (.nil))) (.node (.reg [4] (.nil)) (.nil)))
theorem H_chunk_Bits_Without (x0 : Int) (x1 : Int) {K : Tup [.c (.int .u32)] → Heap → Prop} {h0 : Heap} (h : F_chunk_Bits_Without x0 x1 K h0) : HC PG f_chunk_Bits_Without [.int .u32 x0, .int .i64 x1] [.c (.int .u32)] K h0 := HC.intro (an := A_chunk_Bits_Without) (c := Tryz.f160.body.getD .skip) Tryz.mixed Tryz.func160 rfl Tryz.call160 (Nat.le_of_ble_eq_true rfl) (cst (by kernel_rfl) h)
def F_slices_rotateCmpFunc_pair_Pair (x0 : SliceV) (x1 : Int) (x2 : Int) (x3 : Int) (x4 : Value) (K : (Unit) → Heap → Prop) (h0 : Heap) : Prop :=
 LoopP (fun I1 (t2 : Int × Int) h3 =>
 CondP (t2.1 != t2.2) (
 CondP (decide (t2.1 > t2.2)) (
 HC PG f_slices_swapRangeCmpFunc_pair_Pair [.slice x0.a x0.len x0.cap, .int .i64 (IntKind.wrap .i64 (x2 - t2.1)), .int .i64 x2, .int .i64 t2.2, x4] [] (fun (e4 : Unit) h5 =>
 I1 (IntKind.wrap .i64 (t2.1 - t2.2), t2.2) h5) h3) (
 HC PG f_slices_swapRangeCmpFunc_pair_Pair [.slice x0.a x0.len x0.cap, .int .i64 (IntKind.wrap .i64 (x2 - t2.1)), .int .i64 (IntKind.wrap .i64 ((IntKind.wrap .i64 (x2 + t2.2)) - t2.1)), .int .i64 t2.1, x4] [] (fun (e6 : Unit) h7 =>
 I1 (t2.1, IntKind.wrap .i64 (t2.2 - t2.1)) h7) h3)) (
 HC PG f_slices_swapRangeCmpFunc_pair_Pair [.slice x0.a x0.len x0.cap, .int .i64 (IntKind.wrap .i64 (x2 - t2.1)), .int .i64 x2, .int .i64 t2.1, x4] [] (fun (e8 : Unit) h9 =>
 K () h9) h3)) (IntKind.wrap .i64 (x2 - x1), IntKind.wrap .i64 (x3 - x2)) h0
def A_slices_rotateCmpFunc_pair_Pair : Ann := .node (.reg [0, 2, 3, 4, 10] (.nil)) (.node (.reg [0, 2, 4, 10, 11] (.nil)) (.node (.loop [0, 2, 4] [(10, .c (.int .i64)), (11, .c (.int .i64))] (.node (.node (.reg [0, 2, 4, 10, 11, 20] (.nil)) (.nil)) (.node (.reg [0, 2, 4, 10, 11, 23] (.nil)) (.node (.node (.reg [0, 2, 4, 10, 11] (.nil)) (.reg [0, 2, 4, 10, 11] (.nil))) (.node (.reg [0, 2, 4, 10, 11] (.nil)) (.reg [0, 2, 4, 10, 11] (.nil))))))) (.reg [] (.nil))))
theorem H_slices_rotateCmpFunc_pair_Pair (x0 : SliceV) (x1 : Int) (x2 : Int) (x3 : Int) (x4 : Value) {K : Tup [] → Heap → Prop} {h0 : Heap} (h : F_slices_rotateCmpFunc_pair_Pair x0 x1 x2 x3 x4 K h0) : HC PG f_slices_rotateCmpFunc_pair_Pair [.slice x0.a x0.len x0.cap, .int .i64 x1, .int .i64 x2, .int .i64 x3, x4] [] K h0 := HC.intro (an := A_slices_rotateCmpFunc_pair_Pair) (c := Tryz.f165.body.getD .skip) Tryz.mixed Tryz.func165 rfl Tryz.call165 (Nat.le_of_ble_eq_true rfl) (cst (by kernel_rfl) h)
def F_span_Cursor_push (x0 : Option Addr) (x1 : (Option Addr) × ByteArray × Bool) (K : (Unit) → Heap → Prop) (h0 : Heap) : Prop :=
 At (hnew h0 [.pointer x1.1, .string x1.2.1, .bool x1.2.2] t_span_work) (fun h1 =>
 ∃ v2, hcell h1 (adr (newA h0) 1) = some (.string v2) ∧
 ∃ v3, hcell h1 (adr (newA h0) 0) = some (.pointer v3) ∧
 HC PG f_radix_Node_Label [.pointer v3] [.c .str] (fun (e4 : ByteArray) h5 =>
 (hcell h5 (adr (newA h0) 1) = some (.string v2) ∧
 (((v2.size + e4.size : Nat) : Int) ≤ 9223372036854775807 ∧
 ∃ a6, x0 = some a6 ∧
 ∃ v7, hcell h5 (adr (adr a6 1) 0) = some (.string v7) ∧
 ∃ v8, hcell h5 (adr (adr a6 1) 1) = some (.string v8) ∧
 ∃ v9, hcell h5 (adr (adr a6 1) 2) = some (.bool v9) ∧
 HC PG f_span_Span_past [.agg #[.string v7, .string v8, .bool v9], .string (v2 ++ e4)] [.c .bool] (fun (e10 : Bool) h11 =>
 CondP e10 (
 K () h11) (
 ∃ v12, hcell h11 (adr (newA h0) 0) = some (.pointer v12) ∧
 ∃ v13, hcell h11 (adr (newA h0) 1) = some (.string v13) ∧
 At (hnew h11 [.pointer v12, .string v13, .bool true] t_span_work) (fun h14 =>
 ∃ v15, hcell h14 (adr (newA h0) 0) = some (.pointer v15) ∧
 HC PG f_radix_Node_Kids [.pointer v15] [.c .slice] (fun (e16 : SliceV) h17 =>
 LoopP (fun I18 (t19 : SliceV × Int) h20 =>
 CondP (decide (t19.2 < (e16.len : Int))) (
 Join (fun (t28 : SliceV) h29 =>
 I18 (t28, IntKind.wrap .i64 (t19.2 + 1)) h29) (fun J21 =>
 (((0 : Int) ≤ t19.2 ∧ t19.2 < ((e16.len : Nat) : Int)) ∧ ∃ a22, e16.a = some a22 ∧
 ∃ v23, hcell h20 (adr a22 (t19.2.toNat * 1)) = some (.pointer v23) ∧
 At (hnew h20 [.pointer v23, .string (v2 ++ e4), .bool false] t_span_work) (fun h24 =>
 ∃ xs25, SRow h24 (some (newA h20)) (1 * 3) xs25 ∧
 AppP (some [.pointer none, .string (⟨#[]⟩ : ByteArray), .bool false]) 3 32 t_span_work t19.1.a t19.1.len t19.1.cap 1 xs25 h24 (fun s26 h27 =>
 J21 s26 h27))))) (
 Join (fun (t35 : Unit) h36 =>
 ∃ a37, x0 = some a37 ∧
 ∃ v38 : SliceV, hcell h36 (adr a37 0) = some (.slice v38.a v38.len v38.cap) ∧
 ∃ xs39, SRow h36 t19.1.a (t19.1.len * 3) xs39 ∧
 AppP (some [.pointer none, .string (⟨#[]⟩ : ByteArray), .bool false]) 3 32 t_span_work v38.a v38.len v38.cap t19.1.len xs39 h36 (fun s40 h41 =>
 ∃ a42, x0 = some a42 ∧
 (Wr h41 (adr a42 0) ∧
 At (hset h41 (adr a42 0) (.slice s40.a s40.len s40.cap)) (fun h43 =>
 K () h43)))) (fun J30 =>
 ∃ a31, x0 = some a31 ∧
 ∃ v32, hcell h20 (adr a31 4) = some (.bool v32) ∧
 CondP (!v32) (
 HC PG f_slices_Reverse_A_span_work_span_work [.slice t19.1.a t19.1.len t19.1.cap] [] (fun (e33 : Unit) h34 =>
 J30 () h34) h20) (
 J30 () h20)))) (⟨some (newA h11), 1, 1⟩, 0) h17) h14))) h5))) h1)
def A_span_Cursor_push : Ann := .node (.reg [0, 3] (.nil)) (.node (.reg [0, 3, 4] (.draw [.mk 0 127 8 256, .mk 1 126 256 512, .mk 0 127 8 1024, .mk 4 123 1024 2048, .mk 8 119 2048 4096, .mk 18 109 4608 8192, .mk 63 95 8192 16] (.take 0 (.take 1 (.take 2 (.take 3 (.all (.last 4 (.take 5 (.take 6 (.done))))))))))) (.node (.node (.reg [0, 3, 4, 19] (.nil)) (.nil)) (.node (.reg [0, 3, 4, 5] (.nil)) (.node (.node (.reg [0, 4, 5, 28, 29, 30] (.nil)) (.loop [0, 4, 28, 29] [(5, .c .slice), (30, .c (.int .i64))] (.node (.reg [0, 4, 5, 28, 29, 30, 31] (.nil)) (.node (.nil) (.join [0, 4, 28, 29, 30] [(5, .c .slice)] (.node (.reg [0, 4, 5, 7, 28, 29, 30] (.nil)) (.reg [0, 4, 5, 28, 29, 30] (.nil))) (.reg [0, 4, 5, 28, 29, 30] (.nil))))))) (.join [0, 5] [] (.node (.reg [0, 5, 45] (.nil)) (.node (.reg [0, 5] (.nil)) (.nil))) (.reg [] (.nil)))))))
theorem H_span_Cursor_push (x0 : Option Addr) (x1 : (Option Addr) × ByteArray × Bool) {K : Tup [] → Heap → Prop} {h0 : Heap} (h : F_span_Cursor_push x0 x1 K h0) : HC PG f_span_Cursor_push [.pointer x0, .agg #[.pointer x1.1, .string x1.2.1, .bool x1.2.2]] [] K h0 := HC.intro (an := A_span_Cursor_push) (c := Tryz.f166.body.getD .skip) Tryz.mixed Tryz.func166 rfl Tryz.call166 (Nat.le_of_ble_eq_true rfl) (cst (by kernel_rfl) h)
def F_radix_Node_Label (x0 : Option Addr) (K : (ByteArray) → Heap → Prop) (h0 : Heap) : Prop :=
 CondP x0.isNone (
 K (⟨#[]⟩ : ByteArray) h0) (
 ∃ a1, x0 = some a1 ∧
 ∃ v2, hcell h0 (adr a1 0) = some (.string v2) ∧
 K v2 h0)
def A_radix_Node_Label : Ann := .node (.reg [0] (.nil)) (.node (.node (.reg [0, 4] (.nil)) (.node (.node (.reg [2] (.nil)) (.nil)) (.nil))) (.node (.reg [2] (.nil)) (.nil)))
theorem H_radix_Node_Label (x0 : Option Addr) {K : Tup [.c .str] → Heap → Prop} {h0 : Heap} (h : F_radix_Node_Label x0 K h0) : HC PG f_radix_Node_Label [.pointer x0] [.c .str] K h0 := HC.intro (an := A_radix_Node_Label) (c := Tryz.f167.body.getD .skip) Tryz.mixed Tryz.func167 rfl Tryz.call167 (Nat.le_of_ble_eq_true rfl) (cst (by kernel_rfl) h)
def F_span_Span_Has (x0 : ByteArray × ByteArray × Bool) (x1 : ByteArray) (K : (Bool) → Heap → Prop) (h0 : Heap) : Prop :=
 At (hnew h0 [.string x0.1, .string x0.2.1, .bool x0.2.2] t_span_Span) (fun h1 =>
 ∃ v2, hcell h1 (adr (newA h0) 0) = some (.string v2) ∧
 CondP (!(Op.bytesLess x1.toList v2.toList)) (
 ∃ v3, hcell h1 (adr (newA h0) 2) = some (.bool v3) ∧
 CondP v3 (
 K true h1) (
 ∃ v4, hcell h1 (adr (newA h0) 1) = some (.string v4) ∧
 K (Op.bytesLess x1.toList v4.toList) h1)) (
 K false h1))
def A_span_Span_Has : Ann := .node (.reg [1, 2] (.nil)) (.node (.reg [4] (.nil)) (.nil))
theorem H_span_Span_Has (x0 : ByteArray × ByteArray × Bool) (x1 : ByteArray) {K : Tup [.c .bool] → Heap → Prop} {h0 : Heap} (h : F_span_Span_Has x0 x1 K h0) : HC PG f_span_Span_Has [.agg #[.string x0.1, .string x0.2.1, .bool x0.2.2], .string x1] [.c .bool] K h0 := HC.intro (an := A_span_Span_Has) (c := Tryz.f168.body.getD .skip) Tryz.mixed Tryz.func168 rfl Tryz.call168 (Nat.le_of_ble_eq_true rfl) (cst (by kernel_rfl) h)
def F_walk_of (x0 : Option Addr) (K : (SliceV × SliceV) → Heap → Prop) (h0 : Heap) : Prop :=
 At (hnew h0 [.slice none 0 0, .slice none 0 0] t_walk_frame) (fun h1 =>
 HC PG f_node_Node_Pairs [.pointer x0] [.c .slice] (fun (e2 : SliceV) h3 =>
 HC PG f_node_Node_Kids [.pointer x0] [.c .slice] (fun (e4 : SliceV) h5 =>
 (WrS h5 (some (newA h0)) 0 [.slice e2.a e2.len e2.cap, .slice e4.a e4.len e4.cap] ∧
 At (hsetL h5 (newA h0) 0 [.slice e2.a e2.len e2.cap, .slice e4.a e4.len e4.cap]) (fun h6 =>
 ∃ v7 : SliceV, hcell h6 (adr (newA h0) 0) = some (.slice v7.a v7.len v7.cap) ∧
 ∃ v8 : SliceV, hcell h6 (adr (newA h0) 1) = some (.slice v8.a v8.len v8.cap) ∧
 K (v7, v8) h6))) h3) h1)
def A_walk_of : Ann := .node (.reg [0, 2] (.nil)) (.node (.reg [2] (.nil)) (.nil))
theorem H_walk_of (x0 : Option Addr) {K : Tup [.agg [.slice, .slice]] → Heap → Prop} {h0 : Heap} (h : F_walk_of x0 K h0) : HC PG f_walk_of [.pointer x0] [.agg [.slice, .slice]] K h0 := HC.intro (an := A_walk_of) (c := Tryz.f169.body.getD .skip) Tryz.mixed Tryz.func169 rfl Tryz.call169 (Nat.le_of_ble_eq_true rfl) (cst (by kernel_rfl) h)
def F_slices_Clone_A_P_radix_Node_P_radix_Node (x0 : SliceV) (K : (SliceV) → Heap → Prop) (h0 : Heap) : Prop :=
 CondP x0.a.isNone (
 K ⟨none, 0, 0⟩ h0) (
 At (hnew h0 [] t_P_radix_Node) (fun h1 =>
 ∃ xs2, SRow h1 x0.a (x0.len * 1) xs2 ∧
 AppP (some [.pointer none]) 1 8 t_P_radix_Node (some (newA h0)) 0 0 x0.len xs2 h1 (fun s3 h4 =>
 K s3 h4)))
def A_slices_Clone_A_P_radix_Node_P_radix_Node : Ann := .node (.reg [0] (.nil)) (.node (.node (.reg [0, 4] (.nil)) (.node (.node (.reg [2] (.nil)) (.nil)) (.nil))) (.node (.reg [2] (.nil)) (.nil)))
theorem H_slices_Clone_A_P_radix_Node_P_radix_Node (x0 : SliceV) {K : Tup [.c .slice] → Heap → Prop} {h0 : Heap} (h : F_slices_Clone_A_P_radix_Node_P_radix_Node x0 K h0) : HC PG f_slices_Clone_A_P_radix_Node_P_radix_Node [.slice x0.a x0.len x0.cap] [.c .slice] K h0 := HC.intro (an := A_slices_Clone_A_P_radix_Node_P_radix_Node) (c := Tryz.f170.body.getD .skip) Tryz.mixed Tryz.func170 rfl Tryz.call170 (Nat.le_of_ble_eq_true rfl) (cst (by kernel_rfl) h)
def F_radix_Node_Owned (x0 : Option Addr) (x1 : Option Addr) (K : (Bool) → Heap → Prop) (h0 : Heap) : Prop :=
 CondP (!(x0.isNone)) (
 HC PG f_token_Token_Live [.pointer x1] [.c .bool] (fun (e1 : Bool) h2 =>
 CondP e1 (
 ∃ a3, x0 = some a3 ∧
 ∃ v4, hcell h2 (adr a3 4) = some (.pointer v4) ∧
 (True ∧ (∀ x y : Addr, v4 = some x → x1 = some y → plainPtr h2 x ∧ plainPtr h2 y) ∧
 K (v4 == x1) h2)) (
 K false h2)) h0) (
 K false h0)
def A_radix_Node_Owned : Ann := .node (.reg [0, 1] (.nil)) (.node (.reg [4] (.nil)) (.nil))
theorem H_radix_Node_Owned (x0 : Option Addr) (x1 : Option Addr) {K : Tup [.c .bool] → Heap → Prop} {h0 : Heap} (h : F_radix_Node_Owned x0 x1 K h0) : HC PG f_radix_Node_Owned [.pointer x0, .pointer x1] [.c .bool] K h0 := HC.intro (an := A_radix_Node_Owned) (c := Tryz.f171.body.getD .skip) Tryz.mixed Tryz.func171 rfl Tryz.call171 (Nat.le_of_ble_eq_true rfl) (cst (by kernel_rfl) h)
def F_slices_BinarySearchFunc_A_P_radix_Node_P_radix_Node_byte (x0 : SliceV) (x1 : Int) (x2 : Value) (K : (Int × Bool) → Heap → Prop) (h0 : Heap) : Prop :=
 LoopP (fun I1 (t2 : Int × Int) h3 =>
 CondP (decide (t2.1 < t2.2)) (
 ((0 : Int) ≤ (1 : Int) ∧
 Bd (Int.fdiv (IntKind.wrap .u64 (IntKind.wrap .i64 (t2.1 + t2.2))) (2 ^ (min (1 : Int).toNat (IntKind.bits .u64))) : Int) (fun n4 =>
 (((0 : Int) ≤ (IntKind.wrap .i64 n4) ∧ (IntKind.wrap .i64 n4) < ((x0.len : Nat) : Int)) ∧ ∃ a5, x0.a = some a5 ∧
 ∃ v6, hcell h3 (adr a5 ((IntKind.wrap .i64 n4).toNat * 1)) = some (.pointer v6) ∧
 HV PG x2 [.pointer v6, .int .u8 x1] [.c (.int .i64)] (fun (e7 : Int) h8 =>
 CondP (decide (e7 < (0 : Int))) (
 I1 (IntKind.wrap .i64 ((IntKind.wrap .i64 n4) + 1), t2.2) h8) (
 I1 (t2.1, IntKind.wrap .i64 n4) h8)) h3)))) (
 CondP (decide (t2.1 < (x0.len : Int))) (
 (((0 : Int) ≤ t2.1 ∧ t2.1 < ((x0.len : Nat) : Int)) ∧ ∃ a9, x0.a = some a9 ∧
 ∃ v10, hcell h3 (adr a9 (t2.1.toNat * 1)) = some (.pointer v10) ∧
 HV PG x2 [.pointer v10, .int .u8 x1] [.c (.int .i64)] (fun (e11 : Int) h12 =>
 K (t2.1, e11 == (0 : Int)) h12) h3)) (
 K (t2.1, false) h3))) (0, (x0.len : Int)) h0
def A_slices_BinarySearchFunc_A_P_radix_Node_P_radix_Node_byte : Ann := .node (.reg [0, 1, 2] (.nil)) (.node (.reg [0, 1, 2, 8] (.nil)) (.node (.reg [0, 1, 2, 8, 9, 10] (.nil)) (.node (.loop [0, 1, 2, 8] [(9, .c (.int .i64)), (10, .c (.int .i64))] (.node (.node (.reg [0, 1, 2, 8, 9, 10, 17] (.nil)) (.nil)) (.node (.reg [0, 1, 2, 8, 9, 10, 11] (.nil)) (.node (.reg [0, 1, 2, 8, 9, 10, 11, 31] (.nil)) (.node (.reg [0, 1, 2, 8, 9, 10] (.nil)) (.reg [0, 1, 2, 8, 9, 10] (.nil))))))) (.node (.reg [6, 7] (.nil)) (.nil)))))
theorem H_slices_BinarySearchFunc_A_P_radix_Node_P_radix_Node_byte (x0 : SliceV) (x1 : Int) (x2 : Value) {K : Tup [.c (.int .i64), .c .bool] → Heap → Prop} {h0 : Heap} (h : F_slices_BinarySearchFunc_A_P_radix_Node_P_radix_Node_byte x0 x1 x2 K h0) : HC PG f_slices_BinarySearchFunc_A_P_radix_Node_P_radix_Node_byte [.slice x0.a x0.len x0.cap, .int .u8 x1, x2] [.c (.int .i64), .c .bool] K h0 := HC.intro (an := A_slices_BinarySearchFunc_A_P_radix_Node_P_radix_Node_byte) (c := Tryz.f172.body.getD .skip) Tryz.mixed Tryz.func172 rfl Tryz.call172 (Nat.le_of_ble_eq_true rfl) (cst (by kernel_rfl) h)
def F_radix_Node_find_1 (x0 : Option Addr) (x1 : Int) (K : (Int) → Heap → Prop) (h0 : Heap) : Prop :=
 ∃ a1, x0 = some a1 ∧
 ∃ v2, hcell h0 (adr a1 0) = some (.string v2) ∧
 ∃ b3, (0 : Int) ≤ (0 : Int) ∧ v2[(0 : Int).toNat]? = some b3 ∧
 Bd (IntKind.wrap .i64 ((IntKind.wrap .i64 (b3.toNat : Int)) - (IntKind.wrap .i64 x1)) : Int) (fun n4 =>
 K n4 h0)
def A_radix_Node_find_1 : Ann := .node (.reg [0, 1] (.nil)) (.node (.reg [4] (.nil)) (.nil))
theorem H_radix_Node_find_1 (x0 : Option Addr) (x1 : Int) {K : Tup [.c (.int .i64)] → Heap → Prop} {h0 : Heap} (h : F_radix_Node_find_1 x0 x1 K h0) : HC PG f_radix_Node_find_1 [.pointer x0, .int .u8 x1] [.c (.int .i64)] K h0 := HC.intro (an := A_radix_Node_find_1) (c := Tryz.f173.body.getD .skip) Tryz.mixed Tryz.func173 rfl Tryz.call173 (Nat.le_of_ble_eq_true rfl) (cst (by kernel_rfl) h)
def F_radix_Node_named (x0 : Option Addr) (x1 : ByteArray) (K : (Option Addr) → Heap → Prop) (h0 : Heap) : Prop :=
 ∃ a1, x0 = some a1 ∧
 (Wr h0 (adr a1 0) ∧
 At (hset h0 (adr a1 0) (.string x1)) (fun h2 =>
 K x0 h2))
def A_radix_Node_named : Ann := .node (.reg [0, 1] (.nil)) (.node (.reg [0] (.nil)) (.node (.reg [4] (.nil)) (.nil)))
theorem H_radix_Node_named (x0 : Option Addr) (x1 : ByteArray) {K : Tup [.c .ptr] → Heap → Prop} {h0 : Heap} (h : F_radix_Node_named x0 x1 K h0) : HC PG f_radix_Node_named [.pointer x0, .string x1] [.c .ptr] K h0 := HC.intro (an := A_radix_Node_named) (c := Tryz.f176.body.getD .skip) Tryz.mixed Tryz.func176 rfl Tryz.call176 (Nat.le_of_ble_eq_true rfl) (cst (by kernel_rfl) h)
def F_slices_BinarySearchFunc_A_pair_Pair_pair_Pair_str (x0 : SliceV) (x1 : ByteArray) (x2 : Value) (K : (Int × Bool) → Heap → Prop) (h0 : Heap) : Prop :=
 LoopP (fun I1 (t2 : Int × Int) h3 =>
 CondP (decide (t2.1 < t2.2)) (
 ((0 : Int) ≤ (1 : Int) ∧
 Bd (Int.fdiv (IntKind.wrap .u64 (IntKind.wrap .i64 (t2.1 + t2.2))) (2 ^ (min (1 : Int).toNat (IntKind.bits .u64))) : Int) (fun n4 =>
 (((0 : Int) ≤ (IntKind.wrap .i64 n4) ∧ (IntKind.wrap .i64 n4) < ((x0.len : Nat) : Int)) ∧ ∃ a5, x0.a = some a5 ∧
 ∃ v6, hcell h3 (adr (adr a5 ((IntKind.wrap .i64 n4).toNat * 2)) 0) = some (.string v6) ∧
 ∃ v7, hcell h3 (adr (adr a5 ((IntKind.wrap .i64 n4).toNat * 2)) 1) = some (.string v7) ∧
 HV PG x2 [.agg #[.string v6, .string v7], .string x1] [.c (.int .i64)] (fun (e8 : Int) h9 =>
 CondP (decide (e8 < (0 : Int))) (
 I1 (IntKind.wrap .i64 ((IntKind.wrap .i64 n4) + 1), t2.2) h9) (
 I1 (t2.1, IntKind.wrap .i64 n4) h9)) h3)))) (
 CondP (decide (t2.1 < (x0.len : Int))) (
 (((0 : Int) ≤ t2.1 ∧ t2.1 < ((x0.len : Nat) : Int)) ∧ ∃ a10, x0.a = some a10 ∧
 ∃ v11, hcell h3 (adr (adr a10 (t2.1.toNat * 2)) 0) = some (.string v11) ∧
 ∃ v12, hcell h3 (adr (adr a10 (t2.1.toNat * 2)) 1) = some (.string v12) ∧
 HV PG x2 [.agg #[.string v11, .string v12], .string x1] [.c (.int .i64)] (fun (e13 : Int) h14 =>
 K (t2.1, e13 == (0 : Int)) h14) h3)) (
 K (t2.1, false) h3))) (0, (x0.len : Int)) h0
def A_slices_BinarySearchFunc_A_pair_Pair_pair_Pair_str : Ann := .node (.reg [0, 1, 2] (.nil)) (.node (.reg [0, 1, 2, 8] (.nil)) (.node (.reg [0, 1, 2, 8, 9, 10] (.nil)) (.node (.loop [0, 1, 2, 8] [(9, .c (.int .i64)), (10, .c (.int .i64))] (.node (.node (.reg [0, 1, 2, 8, 9, 10, 17] (.nil)) (.nil)) (.node (.reg [0, 1, 2, 8, 9, 10, 11] (.nil)) (.node (.reg [0, 1, 2, 8, 9, 10, 11, 31] (.nil)) (.node (.reg [0, 1, 2, 8, 9, 10] (.nil)) (.reg [0, 1, 2, 8, 9, 10] (.nil))))))) (.node (.reg [6, 7] (.nil)) (.nil)))))
theorem H_slices_BinarySearchFunc_A_pair_Pair_pair_Pair_str (x0 : SliceV) (x1 : ByteArray) (x2 : Value) {K : Tup [.c (.int .i64), .c .bool] → Heap → Prop} {h0 : Heap} (h : F_slices_BinarySearchFunc_A_pair_Pair_pair_Pair_str x0 x1 x2 K h0) : HC PG f_slices_BinarySearchFunc_A_pair_Pair_pair_Pair_str [.slice x0.a x0.len x0.cap, .string x1, x2] [.c (.int .i64), .c .bool] K h0 := HC.intro (an := A_slices_BinarySearchFunc_A_pair_Pair_pair_Pair_str) (c := Tryz.f179.body.getD .skip) Tryz.mixed Tryz.func179 rfl Tryz.call179 (Nat.le_of_ble_eq_true rfl) (cst (by kernel_rfl) h)
def F_slices_Grow_A_pair_Pair_pair_Pair (x0 : SliceV) (x1 : Int) (K : (SliceV) → Heap → Prop) (h0 : Heap) : Prop :=
 Join (fun (t2 : Unit) h3 =>
 Bd (IntKind.wrap .i64 (x1 - (IntKind.wrap .i64 ((x0.cap : Int) - (x0.len : Int)))) : Int) (fun n4 =>
 CondP (decide (n4 > (0 : Int))) (
 (((0 : Int) ≤ (x0.cap : Int) ∧ (x0.cap : Int) ≤ ((x0.cap : Nat) : Int)) ∧
 (((0 : Int) ≤ n4 ∧ n4 * ((32 : Nat) : Int) ≤ 2 ^ 48 ∧ n4 ≤ 9223372036854775807 ∧ (((((x0.cap : Int).toNat) - 0) + n4.toNat : Nat) : Int) ≤ 9223372036854775807) ∧
 AppP (some [.string (⟨#[]⟩ : ByteArray), .string (⟨#[]⟩ : ByteArray)]) 2 32 t_pair_Pair (subAddr x0.a 0 x0.cap 2) (((x0.cap : Int).toNat) - 0) (x0.cap - 0) n4.toNat (zrow n4.toNat [.string (⟨#[]⟩ : ByteArray), .string (⟨#[]⟩ : ByteArray)]) h3 (fun s5 h6 =>
 (((0 : Int) ≤ (x0.len : Int) ∧ (x0.len : Int) ≤ ((s5.cap : Nat) : Int)) ∧
 K ⟨subAddr s5.a 0 s5.cap 2, ((x0.len : Int).toNat) - 0, s5.cap - 0⟩ h6))))) (
 K x0 h3))) (fun J1 =>
 CondP (decide (x1 < (0 : Int))) (
 False) (
 J1 () h0))
def A_slices_Grow_A_pair_Pair_pair_Pair : Ann := .node (.reg [0, 1] (.nil)) (.join [0, 1] [] (.node (.reg [0, 1, 6] (.nil)) (.node (.reg [] (.nil)) (.nil))) (.node (.node (.reg [0, 1] (.nil)) (.node (.reg [0, 1, 16] (.nil)) (.node (.reg [0] (.nil)) (.nil)))) (.node (.reg [4] (.nil)) (.nil))))
theorem H_slices_Grow_A_pair_Pair_pair_Pair (x0 : SliceV) (x1 : Int) {K : Tup [.c .slice] → Heap → Prop} {h0 : Heap} (h : F_slices_Grow_A_pair_Pair_pair_Pair x0 x1 K h0) : HC PG f_slices_Grow_A_pair_Pair_pair_Pair [.slice x0.a x0.len x0.cap, .int .i64 x1] [.c .slice] K h0 := HC.intro (an := A_slices_Grow_A_pair_Pair_pair_Pair) (c := Tryz.f180.body.getD .skip) Tryz.mixed Tryz.func180 rfl Tryz.call180 (Nat.le_of_ble_eq_true rfl) (cst (by kernel_rfl) h)
def F_slices_rotateCmpFunc_build_hashed (x0 : SliceV) (x1 : Int) (x2 : Int) (x3 : Int) (x4 : Value) (K : (Unit) → Heap → Prop) (h0 : Heap) : Prop :=
 LoopP (fun I1 (t2 : Int × Int) h3 =>
 CondP (t2.1 != t2.2) (
 CondP (decide (t2.1 > t2.2)) (
 HC PG f_slices_swapRangeCmpFunc_build_hashed [.slice x0.a x0.len x0.cap, .int .i64 (IntKind.wrap .i64 (x2 - t2.1)), .int .i64 x2, .int .i64 t2.2, x4] [] (fun (e4 : Unit) h5 =>
 I1 (IntKind.wrap .i64 (t2.1 - t2.2), t2.2) h5) h3) (
 HC PG f_slices_swapRangeCmpFunc_build_hashed [.slice x0.a x0.len x0.cap, .int .i64 (IntKind.wrap .i64 (x2 - t2.1)), .int .i64 (IntKind.wrap .i64 ((IntKind.wrap .i64 (x2 + t2.2)) - t2.1)), .int .i64 t2.1, x4] [] (fun (e6 : Unit) h7 =>
 I1 (t2.1, IntKind.wrap .i64 (t2.2 - t2.1)) h7) h3)) (
 HC PG f_slices_swapRangeCmpFunc_build_hashed [.slice x0.a x0.len x0.cap, .int .i64 (IntKind.wrap .i64 (x2 - t2.1)), .int .i64 x2, .int .i64 t2.1, x4] [] (fun (e8 : Unit) h9 =>
 K () h9) h3)) (IntKind.wrap .i64 (x2 - x1), IntKind.wrap .i64 (x3 - x2)) h0
def A_slices_rotateCmpFunc_build_hashed : Ann := .node (.reg [0, 2, 3, 4, 10] (.nil)) (.node (.reg [0, 2, 4, 10, 11] (.nil)) (.node (.loop [0, 2, 4] [(10, .c (.int .i64)), (11, .c (.int .i64))] (.node (.node (.reg [0, 2, 4, 10, 11, 20] (.nil)) (.nil)) (.node (.reg [0, 2, 4, 10, 11, 23] (.nil)) (.node (.node (.reg [0, 2, 4, 10, 11] (.nil)) (.reg [0, 2, 4, 10, 11] (.nil))) (.node (.reg [0, 2, 4, 10, 11] (.nil)) (.reg [0, 2, 4, 10, 11] (.nil))))))) (.reg [] (.nil))))
theorem H_slices_rotateCmpFunc_build_hashed (x0 : SliceV) (x1 : Int) (x2 : Int) (x3 : Int) (x4 : Value) {K : Tup [] → Heap → Prop} {h0 : Heap} (h : F_slices_rotateCmpFunc_build_hashed x0 x1 x2 x3 x4 K h0) : HC PG f_slices_rotateCmpFunc_build_hashed [.slice x0.a x0.len x0.cap, .int .i64 x1, .int .i64 x2, .int .i64 x3, x4] [] K h0 := HC.intro (an := A_slices_rotateCmpFunc_build_hashed) (c := Tryz.f181.body.getD .skip) Tryz.mixed Tryz.func181 rfl Tryz.call181 (Nat.le_of_ble_eq_true rfl) (cst (by kernel_rfl) h)
end Go.Proofs
