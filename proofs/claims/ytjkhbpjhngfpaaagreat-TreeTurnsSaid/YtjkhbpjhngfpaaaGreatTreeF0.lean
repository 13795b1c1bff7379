/- A part of the proof that the named laws of this program answer true, whatever the input. -/
import Derived.Test.YtjkhbpjhngfpaaaGreatTreeF
set_option maxRecDepth 100000
set_option linter.unusedVariables false
namespace Go.Proofs
open Go.Lift
/-- quickset/quicksetlaw14.TreeSame -/
def F_l14_TreeSame (x0 : Int) (x1 : Int) (x2 : Int × Int × Int) (x3 : Int × Int × Int) (x4 : SliceV) (x5 : SliceV) (x6 : Bool) (K : (Bool) → Heap → Prop) (h0 : Heap) : Prop :=
  At (hnew h0 [.int .u64 x2.1, .int .u64 x2.2.1, .int .u64 x2.2.2] t_sip_Hasher) (fun h1 =>
   At (hnew h1 [.int .u64 x3.1, .int .u64 x3.2.1, .int .u64 x3.2.2] t_sip_Hasher) (fun h2 =>
    HC PG f_l14_awake [] [.c .bool] (fun (e3 : Bool) h4 =>
     CondP (!e3) (
      K false h4) (
      Join (fun (t10 : Unit) h11 => -- 
       ((2 : Int) ≠ 0 ∧
        ∃ v12 : Int, hcell h11 (adr (newA h0) 0) = some (.int .u64 v12) ∧
        ∃ v13 : Int, hcell h11 (adr (newA h0) 1) = some (.int .u64 v13) ∧
        ∃ v14 : Int, hcell h11 (adr (newA h0) 2) = some (.int .u64 v14) ∧
        HC PG f_l14_made [.int .i64 (IntKind.wrap .i64 (Int.tmod x0 2)), .agg #[.int .u64 v12, .int .u64 v13, .int .u64 v14], .slice x4.a x4.len x4.cap] [.agg [.int .i64, .int .u64, .int .u64, .int .u64, .ptr, .ptr], .agg [.int .i64, .int .u64, .int .u64, .int .u64, .slice]] (fun (e15 : (Int × Int × Int × Int × (Option Addr) × (Option Addr)) × (Int × Int × Int × Int × SliceV)) h16 =>
         At (hnew h16 [.int .i64 0, .int .u64 0, .int .u64 0, .int .u64 0, .pointer none, .pointer none] t_tree_Tree) (fun h17 =>
          At (hnew h17 [.int .i64 0, .int .u64 0, .int .u64 0, .int .u64 0, .slice none 0 0] t_r14_Tree) (fun h18 =>
           (WrS h18 (some (newA h16)) 0 [.int .i64 e15.1.1, .int .u64 e15.1.2.1, .int .u64 e15.1.2.2.1, .int .u64 e15.1.2.2.2.1, .pointer e15.1.2.2.2.2.1, .pointer e15.1.2.2.2.2.2] ∧
            At (hsetL h18 (newA h16) 0 [.int .i64 e15.1.1, .int .u64 e15.1.2.1, .int .u64 e15.1.2.2.1, .int .u64 e15.1.2.2.2.1, .pointer e15.1.2.2.2.2.1, .pointer e15.1.2.2.2.2.2]) (fun h19 =>
             (WrS h19 (some (newA h17)) 0 [.int .i64 e15.2.1, .int .u64 e15.2.2.1, .int .u64 e15.2.2.2.1, .int .u64 e15.2.2.2.2.1, .slice e15.2.2.2.2.2.a e15.2.2.2.2.2.len e15.2.2.2.2.2.cap] ∧
              At (hsetL h19 (newA h17) 0 [.int .i64 e15.2.1, .int .u64 e15.2.2.1, .int .u64 e15.2.2.2.1, .int .u64 e15.2.2.2.2.1, .slice e15.2.2.2.2.2.a e15.2.2.2.2.2.len e15.2.2.2.2.2.cap]) (fun h20 =>
               ((2 : Int) ≠ 0 ∧
                ∃ v21 : Int, hcell h20 (adr (newA h1) 0) = some (.int .u64 v21) ∧
                ∃ v22 : Int, hcell h20 (adr (newA h1) 1) = some (.int .u64 v22) ∧
                ∃ v23 : Int, hcell h20 (adr (newA h1) 2) = some (.int .u64 v23) ∧
                HC PG f_l14_made [.int .i64 (IntKind.wrap .i64 (Int.tmod x1 2)), .agg #[.int .u64 v21, .int .u64 v22, .int .u64 v23], .slice x5.a x5.len x5.cap] [.agg [.int .i64, .int .u64, .int .u64, .int .u64, .ptr, .ptr], .agg [.int .i64, .int .u64, .int .u64, .int .u64, .slice]] (fun (e24 : (Int × Int × Int × Int × (Option Addr) × (Option Addr)) × (Int × Int × Int × Int × SliceV)) h25 =>
                 At (hnew h25 [.int .i64 0, .int .u64 0, .int .u64 0, .int .u64 0, .pointer none, .pointer none] t_tree_Tree) (fun h26 =>
                  At (hnew h26 [.int .i64 0, .int .u64 0, .int .u64 0, .int .u64 0, .slice none 0 0] t_r14_Tree) (fun h27 =>
                   (WrS h27 (some (newA h25)) 0 [.int .i64 e24.1.1, .int .u64 e24.1.2.1, .int .u64 e24.1.2.2.1, .int .u64 e24.1.2.2.2.1, .pointer e24.1.2.2.2.2.1, .pointer e24.1.2.2.2.2.2] ∧
                    At (hsetL h27 (newA h25) 0 [.int .i64 e24.1.1, .int .u64 e24.1.2.1, .int .u64 e24.1.2.2.1, .int .u64 e24.1.2.2.2.1, .pointer e24.1.2.2.2.2.1, .pointer e24.1.2.2.2.2.2]) (fun h28 =>
                     (WrS h28 (some (newA h26)) 0 [.int .i64 e24.2.1, .int .u64 e24.2.2.1, .int .u64 e24.2.2.2.1, .int .u64 e24.2.2.2.2.1, .slice e24.2.2.2.2.2.a e24.2.2.2.2.2.len e24.2.2.2.2.2.cap] ∧
                      At (hsetL h28 (newA h26) 0 [.int .i64 e24.2.1, .int .u64 e24.2.2.1, .int .u64 e24.2.2.2.1, .int .u64 e24.2.2.2.2.1, .slice e24.2.2.2.2.2.a e24.2.2.2.2.2.len e24.2.2.2.2.2.cap]) (fun h29 =>
                       ((2 : Int) ≠ 0 ∧
                        ∃ v30 : Int, hcell h29 (adr (newA h0) 0) = some (.int .u64 v30) ∧
                        ∃ v31 : Int, hcell h29 (adr (newA h0) 1) = some (.int .u64 v31) ∧
                        ∃ v32 : Int, hcell h29 (adr (newA h0) 2) = some (.int .u64 v32) ∧
                        HC PG f_l14_made [.int .i64 (IntKind.wrap .i64 (Int.tmod x0 2)), .agg #[.int .u64 v30, .int .u64 v31, .int .u64 v32], .slice x4.a x4.len x4.cap] [.agg [.int .i64, .int .u64, .int .u64, .int .u64, .ptr, .ptr], .agg [.int .i64, .int .u64, .int .u64, .int .u64, .slice]] (fun (e33 : (Int × Int × Int × Int × (Option Addr) × (Option Addr)) × (Int × Int × Int × Int × SliceV)) h34 =>
                         At (hnew h34 [.int .i64 0, .int .u64 0, .int .u64 0, .int .u64 0, .pointer none, .pointer none] t_tree_Tree) (fun h35 =>
                          At (hnew h35 [.int .i64 0, .int .u64 0, .int .u64 0, .int .u64 0, .slice none 0 0] t_r14_Tree) (fun h36 =>
                           (WrS h36 (some (newA h34)) 0 [.int .i64 e33.1.1, .int .u64 e33.1.2.1, .int .u64 e33.1.2.2.1, .int .u64 e33.1.2.2.2.1, .pointer e33.1.2.2.2.2.1, .pointer e33.1.2.2.2.2.2] ∧
                            At (hsetL h36 (newA h34) 0 [.int .i64 e33.1.1, .int .u64 e33.1.2.1, .int .u64 e33.1.2.2.1, .int .u64 e33.1.2.2.2.1, .pointer e33.1.2.2.2.2.1, .pointer e33.1.2.2.2.2.2]) (fun h37 =>
                             (WrS h37 (some (newA h35)) 0 [.int .i64 e33.2.1, .int .u64 e33.2.2.1, .int .u64 e33.2.2.2.1, .int .u64 e33.2.2.2.2.1, .slice e33.2.2.2.2.2.a e33.2.2.2.2.2.len e33.2.2.2.2.2.cap] ∧
                              At (hsetL h37 (newA h35) 0 [.int .i64 e33.2.1, .int .u64 e33.2.2.1, .int .u64 e33.2.2.2.1, .int .u64 e33.2.2.2.2.1, .slice e33.2.2.2.2.2.a e33.2.2.2.2.2.len e33.2.2.2.2.2.cap]) (fun h38 =>
                               ∃ v39 : Int, hcell h38 (adr (newA h16) 0) = some (.int .i64 v39) ∧
                               ∃ v40 : Int, hcell h38 (adr (newA h16) 1) = some (.int .u64 v40) ∧
                               ∃ v41 : Int, hcell h38 (adr (newA h16) 2) = some (.int .u64 v41) ∧
                               ∃ v42 : Int, hcell h38 (adr (newA h16) 3) = some (.int .u64 v42) ∧
                               ∃ v43 : Option Addr, hcell h38 (adr (newA h16) 4) = some (.pointer v43) ∧
                               ∃ v44 : Option Addr, hcell h38 (adr (newA h16) 5) = some (.pointer v44) ∧
                               ∃ v45 : Int, hcell h38 (adr (newA h25) 0) = some (.int .i64 v45) ∧
                               ∃ v46 : Int, hcell h38 (adr (newA h25) 1) = some (.int .u64 v46) ∧
                               ∃ v47 : Int, hcell h38 (adr (newA h25) 2) = some (.int .u64 v47) ∧
                               ∃ v48 : Int, hcell h38 (adr (newA h25) 3) = some (.int .u64 v48) ∧
                               ∃ v49 : Option Addr, hcell h38 (adr (newA h25) 4) = some (.pointer v49) ∧
                               ∃ v50 : Option Addr, hcell h38 (adr (newA h25) 5) = some (.pointer v50) ∧
                               ∃ v51 : Int, hcell h38 (adr (newA h17) 0) = some (.int .i64 v51) ∧
                               ∃ v52 : Int, hcell h38 (adr (newA h17) 1) = some (.int .u64 v52) ∧
                               ∃ v53 : Int, hcell h38 (adr (newA h17) 2) = some (.int .u64 v53) ∧
                               ∃ v54 : Int, hcell h38 (adr (newA h17) 3) = some (.int .u64 v54) ∧
                               ∃ v55 : SliceV, hcell h38 (adr (newA h17) 4) = some (.slice v55.a v55.len v55.cap) ∧
                               ∃ v56 : Int, hcell h38 (adr (newA h26) 0) = some (.int .i64 v56) ∧
                               ∃ v57 : Int, hcell h38 (adr (newA h26) 1) = some (.int .u64 v57) ∧
                               ∃ v58 : Int, hcell h38 (adr (newA h26) 2) = some (.int .u64 v58) ∧
                               ∃ v59 : Int, hcell h38 (adr (newA h26) 3) = some (.int .u64 v59) ∧
                               ∃ v60 : SliceV, hcell h38 (adr (newA h26) 4) = some (.slice v60.a v60.len v60.cap) ∧
                               HC PG f_tree_Like [.agg #[.int .i64 v39, .int .u64 v40, .int .u64 v41, .int .u64 v42, .pointer v43, .pointer v44], .agg #[.int .i64 v45, .int .u64 v46, .int .u64 v47, .int .u64 v48, .pointer v49, .pointer v50]] [.c .bool] (fun (e61 : Bool) h62 =>
                                ((hcell h62 (adr (newA h26) 0) = some (.int .i64 v56) ∧ hcell h62 (adr (newA h26) 1) = some (.int .u64 v57) ∧ hcell h62 (adr (newA h26) 2) = some (.int .u64 v58) ∧ hcell h62 (adr (newA h26) 3) = some (.int .u64 v59) ∧ hcell h62 (adr (newA h26) 4) = some (.slice v60.a v60.len v60.cap)) ∧
                                 ((hcell h62 (adr (newA h17) 0) = some (.int .i64 v51) ∧ hcell h62 (adr (newA h17) 1) = some (.int .u64 v52) ∧ hcell h62 (adr (newA h17) 2) = some (.int .u64 v53) ∧ hcell h62 (adr (newA h17) 3) = some (.int .u64 v54) ∧ hcell h62 (adr (newA h17) 4) = some (.slice v55.a v55.len v55.cap)) ∧
                                  HC PG f_r14_Like [.agg #[.int .i64 v51, .int .u64 v52, .int .u64 v53, .int .u64 v54, .slice v55.a v55.len v55.cap], .agg #[.int .i64 v56, .int .u64 v57, .int .u64 v58, .int .u64 v59, .slice v60.a v60.len v60.cap]] [.c .bool] (fun (e63 : Bool) h64 =>
                                   CondP (e61 == e63) (
                                    ∃ v65 : Int, hcell h64 (adr (newA h16) 0) = some (.int .i64 v65) ∧
                                    ∃ v66 : Int, hcell h64 (adr (newA h16) 1) = some (.int .u64 v66) ∧
                                    ∃ v67 : Int, hcell h64 (adr (newA h16) 2) = some (.int .u64 v67) ∧
                                    ∃ v68 : Int, hcell h64 (adr (newA h16) 3) = some (.int .u64 v68) ∧
                                    ∃ v69 : Option Addr, hcell h64 (adr (newA h16) 4) = some (.pointer v69) ∧
                                    ∃ v70 : Option Addr, hcell h64 (adr (newA h16) 5) = some (.pointer v70) ∧
                                    ∃ v71 : Int, hcell h64 (adr (newA h25) 0) = some (.int .i64 v71) ∧
                                    ∃ v72 : Int, hcell h64 (adr (newA h25) 1) = some (.int .u64 v72) ∧
                                    ∃ v73 : Int, hcell h64 (adr (newA h25) 2) = some (.int .u64 v73) ∧
                                    ∃ v74 : Int, hcell h64 (adr (newA h25) 3) = some (.int .u64 v74) ∧
                                    ∃ v75 : Option Addr, hcell h64 (adr (newA h25) 4) = some (.pointer v75) ∧
                                    ∃ v76 : Option Addr, hcell h64 (adr (newA h25) 5) = some (.pointer v76) ∧
                                    ∃ v77 : Int, hcell h64 (adr (newA h17) 0) = some (.int .i64 v77) ∧
                                    ∃ v78 : Int, hcell h64 (adr (newA h17) 1) = some (.int .u64 v78) ∧
                                    ∃ v79 : Int, hcell h64 (adr (newA h17) 2) = some (.int .u64 v79) ∧
                                    ∃ v80 : Int, hcell h64 (adr (newA h17) 3) = some (.int .u64 v80) ∧
                                    ∃ v81 : SliceV, hcell h64 (adr (newA h17) 4) = some (.slice v81.a v81.len v81.cap) ∧
                                    ∃ v82 : Int, hcell h64 (adr (newA h26) 0) = some (.int .i64 v82) ∧
                                    ∃ v83 : Int, hcell h64 (adr (newA h26) 1) = some (.int .u64 v83) ∧
                                    ∃ v84 : Int, hcell h64 (adr (newA h26) 2) = some (.int .u64 v84) ∧
                                    ∃ v85 : Int, hcell h64 (adr (newA h26) 3) = some (.int .u64 v85) ∧
                                    ∃ v86 : SliceV, hcell h64 (adr (newA h26) 4) = some (.slice v86.a v86.len v86.cap) ∧
                                    HC PG f_tree_Same [.agg #[.int .i64 v65, .int .u64 v66, .int .u64 v67, .int .u64 v68, .pointer v69, .pointer v70], .agg #[.int .i64 v71, .int .u64 v72, .int .u64 v73, .int .u64 v74, .pointer v75, .pointer v76]] [.c .bool] (fun (e87 : Bool) h88 =>
                                     ((hcell h88 (adr (newA h26) 0) = some (.int .i64 v82) ∧ hcell h88 (adr (newA h26) 1) = some (.int .u64 v83) ∧ hcell h88 (adr (newA h26) 2) = some (.int .u64 v84) ∧ hcell h88 (adr (newA h26) 3) = some (.int .u64 v85) ∧ hcell h88 (adr (newA h26) 4) = some (.slice v86.a v86.len v86.cap)) ∧
                                      ((hcell h88 (adr (newA h17) 0) = some (.int .i64 v77) ∧ hcell h88 (adr (newA h17) 1) = some (.int .u64 v78) ∧ hcell h88 (adr (newA h17) 2) = some (.int .u64 v79) ∧ hcell h88 (adr (newA h17) 3) = some (.int .u64 v80) ∧ hcell h88 (adr (newA h17) 4) = some (.slice v81.a v81.len v81.cap)) ∧
                                       HC PG f_r14_Same [.agg #[.int .i64 v77, .int .u64 v78, .int .u64 v79, .int .u64 v80, .slice v81.a v81.len v81.cap], .agg #[.int .i64 v82, .int .u64 v83, .int .u64 v84, .int .u64 v85, .slice v86.a v86.len v86.cap]] [.c .bool] (fun (e89 : Bool) h90 =>
                                        CondP (e87 == e89) (
                                         ∃ v91 : Int, hcell h90 (adr (newA h16) 0) = some (.int .i64 v91) ∧
                                         ∃ v92 : Int, hcell h90 (adr (newA h16) 1) = some (.int .u64 v92) ∧
                                         ∃ v93 : Int, hcell h90 (adr (newA h16) 2) = some (.int .u64 v93) ∧
                                         ∃ v94 : Int, hcell h90 (adr (newA h16) 3) = some (.int .u64 v94) ∧
                                         ∃ v95 : Option Addr, hcell h90 (adr (newA h16) 4) = some (.pointer v95) ∧
                                         ∃ v96 : Option Addr, hcell h90 (adr (newA h16) 5) = some (.pointer v96) ∧
                                         ∃ v97 : Int, hcell h90 (adr (newA h34) 0) = some (.int .i64 v97) ∧
                                         ∃ v98 : Int, hcell h90 (adr (newA h34) 1) = some (.int .u64 v98) ∧
                                         ∃ v99 : Int, hcell h90 (adr (newA h34) 2) = some (.int .u64 v99) ∧
                                         ∃ v100 : Int, hcell h90 (adr (newA h34) 3) = some (.int .u64 v100) ∧
                                         ∃ v101 : Option Addr, hcell h90 (adr (newA h34) 4) = some (.pointer v101) ∧
                                         ∃ v102 : Option Addr, hcell h90 (adr (newA h34) 5) = some (.pointer v102) ∧
                                         HC PG f_tree_Same [.agg #[.int .i64 v91, .int .u64 v92, .int .u64 v93, .int .u64 v94, .pointer v95, .pointer v96], .agg #[.int .i64 v97, .int .u64 v98, .int .u64 v99, .int .u64 v100, .pointer v101, .pointer v102]] [.c .bool] (fun (e103 : Bool) h104 =>
                                          CondP e103 (
                                          ∃ v105 : Int, hcell h104 (adr (newA h16) 0) = some (.int .i64 v105) ∧
                                          ∃ v106 : Int, hcell h104 (adr (newA h16) 1) = some (.int .u64 v106) ∧
                                          ∃ v107 : Int, hcell h104 (adr (newA h16) 2) = some (.int .u64 v107) ∧
                                          ∃ v108 : Int, hcell h104 (adr (newA h16) 3) = some (.int .u64 v108) ∧
                                          ∃ v109 : Option Addr, hcell h104 (adr (newA h16) 4) = some (.pointer v109) ∧
                                          ∃ v110 : Option Addr, hcell h104 (adr (newA h16) 5) = some (.pointer v110) ∧
                                          ∃ v111 : Int, hcell h104 (adr (newA h34) 0) = some (.int .i64 v111) ∧
                                          ∃ v112 : Int, hcell h104 (adr (newA h34) 1) = some (.int .u64 v112) ∧
                                          ∃ v113 : Int, hcell h104 (adr (newA h34) 2) = some (.int .u64 v113) ∧
                                          ∃ v114 : Int, hcell h104 (adr (newA h34) 3) = some (.int .u64 v114) ∧
                                          ∃ v115 : Option Addr, hcell h104 (adr (newA h34) 4) = some (.pointer v115) ∧
                                          ∃ v116 : Option Addr, hcell h104 (adr (newA h34) 5) = some (.pointer v116) ∧
                                          HC PG f_tree_Like [.agg #[.int .i64 v105, .int .u64 v106, .int .u64 v107, .int .u64 v108, .pointer v109, .pointer v110], .agg #[.int .i64 v111, .int .u64 v112, .int .u64 v113, .int .u64 v114, .pointer v115, .pointer v116]] [.c .bool] (fun (e117 : Bool) h118 =>
                                          CondP e117 (
                                          ∃ v119 : Int, hcell h118 (adr (newA h16) 0) = some (.int .i64 v119) ∧
                                          ∃ v120 : Int, hcell h118 (adr (newA h16) 1) = some (.int .u64 v120) ∧
                                          ∃ v121 : Int, hcell h118 (adr (newA h16) 2) = some (.int .u64 v121) ∧
                                          ∃ v122 : Int, hcell h118 (adr (newA h16) 3) = some (.int .u64 v122) ∧
                                          ∃ v123 : Option Addr, hcell h118 (adr (newA h16) 4) = some (.pointer v123) ∧
                                          ∃ v124 : Option Addr, hcell h118 (adr (newA h16) 5) = some (.pointer v124) ∧
                                          ∃ v125 : Int, hcell h118 (adr (newA h16) 0) = some (.int .i64 v125) ∧
                                          ∃ v126 : Int, hcell h118 (adr (newA h16) 1) = some (.int .u64 v126) ∧
                                          ∃ v127 : Int, hcell h118 (adr (newA h16) 2) = some (.int .u64 v127) ∧
                                          ∃ v128 : Int, hcell h118 (adr (newA h16) 3) = some (.int .u64 v128) ∧
                                          ∃ v129 : Option Addr, hcell h118 (adr (newA h16) 4) = some (.pointer v129) ∧
                                          ∃ v130 : Option Addr, hcell h118 (adr (newA h16) 5) = some (.pointer v130) ∧
                                          HC PG f_tree_One [.agg #[.int .i64 v119, .int .u64 v120, .int .u64 v121, .int .u64 v122, .pointer v123, .pointer v124], .agg #[.int .i64 v125, .int .u64 v126, .int .u64 v127, .int .u64 v128, .pointer v129, .pointer v130]] [.c .bool] (fun (e131 : Bool) h132 =>
                                          CondP e131 (
                                          ∃ v133 : Int, hcell h132 (adr (newA h16) 0) = some (.int .i64 v133) ∧
                                          ∃ v134 : Int, hcell h132 (adr (newA h16) 1) = some (.int .u64 v134) ∧
                                          ∃ v135 : Int, hcell h132 (adr (newA h16) 2) = some (.int .u64 v135) ∧
                                          ∃ v136 : Int, hcell h132 (adr (newA h16) 3) = some (.int .u64 v136) ∧
                                          ∃ v137 : Option Addr, hcell h132 (adr (newA h16) 4) = some (.pointer v137) ∧
                                          ∃ v138 : Option Addr, hcell h132 (adr (newA h16) 5) = some (.pointer v138) ∧
                                          ∃ v139 : Int, hcell h132 (adr (newA h25) 0) = some (.int .i64 v139) ∧
                                          ∃ v140 : Int, hcell h132 (adr (newA h25) 1) = some (.int .u64 v140) ∧
                                          ∃ v141 : Int, hcell h132 (adr (newA h25) 2) = some (.int .u64 v141) ∧
                                          ∃ v142 : Int, hcell h132 (adr (newA h25) 3) = some (.int .u64 v142) ∧
                                          ∃ v143 : Option Addr, hcell h132 (adr (newA h25) 4) = some (.pointer v143) ∧
                                          ∃ v144 : Option Addr, hcell h132 (adr (newA h25) 5) = some (.pointer v144) ∧
                                          HC PG f_tree_One [.agg #[.int .i64 v133, .int .u64 v134, .int .u64 v135, .int .u64 v136, .pointer v137, .pointer v138], .agg #[.int .i64 v139, .int .u64 v140, .int .u64 v141, .int .u64 v142, .pointer v143, .pointer v144]] [.c .bool] (fun (e145 : Bool) h146 =>
                                          CondP (!e145) (
                                          K true h146) (
                                          ∃ v147 : Int, hcell h146 (adr (newA h16) 0) = some (.int .i64 v147) ∧
                                          ∃ v148 : Int, hcell h146 (adr (newA h16) 1) = some (.int .u64 v148) ∧
                                          ∃ v149 : Int, hcell h146 (adr (newA h16) 2) = some (.int .u64 v149) ∧
                                          ∃ v150 : Int, hcell h146 (adr (newA h16) 3) = some (.int .u64 v150) ∧
                                          ∃ v151 : Option Addr, hcell h146 (adr (newA h16) 4) = some (.pointer v151) ∧
                                          ∃ v152 : Option Addr, hcell h146 (adr (newA h16) 5) = some (.pointer v152) ∧
                                          ∃ v153 : Int, hcell h146 (adr (newA h25) 0) = some (.int .i64 v153) ∧
                                          ∃ v154 : Int, hcell h146 (adr (newA h25) 1) = some (.int .u64 v154) ∧
                                          ∃ v155 : Int, hcell h146 (adr (newA h25) 2) = some (.int .u64 v155) ∧
                                          ∃ v156 : Int, hcell h146 (adr (newA h25) 3) = some (.int .u64 v156) ∧
                                          ∃ v157 : Option Addr, hcell h146 (adr (newA h25) 4) = some (.pointer v157) ∧
                                          ∃ v158 : Option Addr, hcell h146 (adr (newA h25) 5) = some (.pointer v158) ∧
                                          HC PG f_tree_Same [.agg #[.int .i64 v147, .int .u64 v148, .int .u64 v149, .int .u64 v150, .pointer v151, .pointer v152], .agg #[.int .i64 v153, .int .u64 v154, .int .u64 v155, .int .u64 v156, .pointer v157, .pointer v158]] [.c .bool] (fun (e159 : Bool) h160 =>
                                          K e159 h160) h146)) h132) (
                                          K false h132)) h118) (
                                          K false h118)) h104) (
                                          K false h104)) h90) (
                                         K false h90)) h88))) h64) (
                                    K false h64)) h62))) h38))))))) h29)))))))) h20)))))))) h11)) (fun J5 =>
       CondP x6 (
        ∃ v6 : Int, hcell h4 (adr (newA h0) 0) = some (.int .u64 v6) ∧
        ∃ v7 : Int, hcell h4 (adr (newA h0) 1) = some (.int .u64 v7) ∧
        ∃ v8 : Int, hcell h4 (adr (newA h0) 2) = some (.int .u64 v8) ∧
        (WrS h4 (some (newA h1)) 0 [.int .u64 v6, .int .u64 v7, .int .u64 v8] ∧
         At (hsetL h4 (newA h1) 0 [.int .u64 v6, .int .u64 v7, .int .u64 v8]) (fun h9 =>
          J5 () h9))) (
        J5 () h4)))) h2))
def A_l14_TreeSame : Ann := .node (.reg [0, 1, 4, 5, 6, 9, 10] (.nil)) (.node (.node (.reg [0, 1, 4, 5, 6, 9, 10, 22] (.nil)) (.node (.node (.reg [14] (.nil)) (.nil)) (.nil))) (.join [0, 1, 4, 5, 9, 10] [] (.node (.reg [0, 1, 4, 5, 9, 10, 23] (.nil)) (.node (.reg [0, 1, 4, 5, 9, 10] (.nil)) (.nil))) (.node (.reg [0, 1, 4, 5, 9, 10, 15, 16] (.nil)) (.node (.reg [0, 4, 9, 15, 16, 17, 18] (.nil)) (.node (.reg [15, 16, 17, 18, 19] (.nil)) (.node (.reg [14] (.draw [.mk 0 8796093022207 32768 4503599627370496, .mk 0 8796093022207 131072 9007199254740992, .mk 3 8796093022204 13510798882111488 18014398509481984, .mk 0 8796093022207 65536 36028797018963968, .mk 0 8796093022207 262144 72057594037927936, .mk 28 8796093022183 108086391056891904 144115188075855872, .mk 36 8796093022171 162129586585337856 288230376151711744, .mk 96 8796093022143 288230376151711744 576460752303423488, .mk 128 8796093022079 576460752303456256 1152921504606846976, .mk 128 8796093022079 576460752303554560 2305843009213693952, .mk 896 8796093021311 4035225266123964416 4611686018427387904, .mk 128 8796093022079 576460752303489024 9223372036854775808, .mk 128 8796093022079 576460752303685632 18446744073709551616, .mk 7296 8796093015935 28246576862867750912 36893488147419103232, .mk 9344 8796093012863 42081634918149914624 73786976294838206464, .mk 16512 8796093005695 74363437047141629952 147573952589676412928, .mk 40960 8796092989439 147573952589676412928 295147905179352825856, .mk 65536 8796092956671 295147905179352858624 590295810358705651712, .mk 65536 8796092956671 295147905179353350144 1180591620717411303424, .mk 458752 8796092563455 2066035336255469780992 2361183241434822606848, .mk 589824 8796092432383 2656331146614175432704 4722366482869645213696, .mk 1572864 8796091973631 4722366482869645213696 9444732965739290427392, .mk 2097152 8796090925055 9444732965739290460160 18889465931478580854784, .mk 2097152 8796090925055 9444732965739290951680 37778931862957161709568, .mk 14680064 8796078342143 66113130760175032991744 75557863725914323419136, .mk 18874368 8796074147839 85002596691653613846528 151115727451828646838272, .mk 50331648 8796059467775 151115727451828646838272 302231454903657293676544, .mk 67108864 8796025913343 302231454903657293709312 604462909807314587353088, .mk 67108864 8796025913343 302231454903657293709312 1208925819614629174706176, .mk 469762048 8795623260159 2115620184325601055735808 2417851639229258349412352, .mk 603979776 8795489042431 2720083094132915643088896 4835703278458516698824704, .mk 1610612736 8795019280383 4835703278458516698824704 9671406556917033397649408, .mk 2147483648 8793945538559 9671406556917033397682176 19342813113834066795298816, .mk 2147483648 8793945538559 9671406556917033397780480 38685626227668133590597632, .mk 15032385536 8781060636671 67699845898419233783545856 77371252455336267181195264, .mk 19327352832 8776765669375 87042659012253300578844672 154742504910672534362390528, .mk 53687091200 8759585800191 164413911467589567760039936 309485009821345068724781056, .mk 68719476736 8727373545471 309485009821345068724813824 618970019642690137449562112, .mk 68719476736 8727373545471 309485009821345068724912128 1237940039285380274899124224, .mk 481036337152 8315056685055 2166395068749415481073467392 2475880078570760549798248448, .mk 620622774272 8175470247935 2795036494949022651920678912 4951760157141521099596496896, .mk 1101659111424 7694433910783 4961431563698438132994146304 9903520314283042199192993792, .mk 4398046511103 6597069766655 9903520314283042199192993792 16384] (.take 0 (.take 1 (.take 3 (.take 4 (.all (.last 2 (.all (.last 5 (.take 6 (.take 7 (.split 59 (.take 8 (.take 9 (.take 11 (.take 12 (.all (.last 10 (.all (.last 13 (.take 14 (.take 15 (.take 16 (.split 68 (.take 17 (.take 18 (.all (.last 19 (.take 20 (.take 21 (.split 73 (.take 22 (.take 23 (.all (.last 24 (.take 25 (.take 26 (.split 78 (.take 27 (.take 28 (.all (.last 29 (.take 30 (.take 31 (.split 83 (.take 32 (.take 33 (.all (.last 34 (.take 35 (.take 36 (.split 88 (.take 37 (.take 38 (.take 39 (.take 40 (.take 41 (.take 42 (.done))))))) (.take 37 (.take 38 (.all (.last 39 (.take 40 (.take 41 (.take 42 (.done))))))))))))))) (.take 32 (.take 33 (.take 34 (.take 35 (.take 36 (.take 37 (.take 38 (.take 39 (.take 40 (.take 41 (.take 42 (.done))))))))))))))))))) (.take 27 (.take 28 (.take 29 (.take 30 (.take 31 (.take 32 (.take 33 (.take 34 (.take 35 (.take 36 (.take 37 (.take 38 (.take 39 (.take 40 (.take 41 (.take 42 (.done)))))))))))))))))))))))) (.take 22 (.take 23 (.take 24 (.take 25 (.take 26 (.take 27 (.take 28 (.take 29 (.take 30 (.take 31 (.take 32 (.take 33 (.take 34 (.take 35 (.take 36 (.take 37 (.take 38 (.take 39 (.take 40 (.take 41 (.take 42 (.done))))))))))))))))))))))))))))) (.take 17 (.take 18 (.take 19 (.take 20 (.take 21 (.take 22 (.take 23 (.take 24 (.take 25 (.take 26 (.take 27 (.take 28 (.take 29 (.take 30 (.take 31 (.take 32 (.take 33 (.take 34 (.take 35 (.take 36 (.take 37 (.take 38 (.take 39 (.take 40 (.take 41 (.take 42 (.done))))))))))))))))))))))))))))))))))))))) (.take 8 (.take 9 (.take 10 (.take 11 (.take 12 (.take 13 (.take 14 (.take 15 (.take 16 (.take 17 (.take 18 (.take 19 (.take 20 (.take 21 (.take 22 (.take 23 (.take 24 (.take 25 (.take 26 (.take 27 (.take 28 (.take 29 (.take 30 (.take 31 (.take 32 (.take 33 (.take 34 (.take 35 (.take 36 (.take 37 (.take 38 (.take 39 (.take 40 (.take 41 (.take 42 (.done))))))))))))))))))))))))))))))))))))))))))))))))) (.nil)))))))
theorem E_l14_TreeSame (x0 : Int) (x1 : Int) (x2 : Int × Int × Int) (x3 : Int × Int × Int) (x4 : SliceV) (x5 : SliceV) (x6 : Bool) (K : Tup [.c .bool] → Heap → Prop) (h0 : Heap) : F_l14_TreeSame x0 x1 x2 x3 x4 x5 x6 K h0 = sBody PG Tryz.f5 (Tryz.f5.body.getD .skip) A_l14_TreeSame [.int .u8 x0, .int .u8 x1, .agg #[.int .u64 x2.1, .int .u64 x2.2.1, .int .u64 x2.2.2], .agg #[.int .u64 x3.1, .int .u64 x3.2.1, .int .u64 x3.2.2], .slice x4.a x4.len x4.cap, .slice x5.a x5.len x5.cap, .bool x6] [.c .bool] K h0 := by kernel_rfl
theorem H_l14_TreeSame (x0 : Int) (x1 : Int) (x2 : Int × Int × Int) (x3 : Int × Int × Int) (x4 : SliceV) (x5 : SliceV) (x6 : Bool) {K : Tup [.c .bool] → Heap → Prop} {h0 : Heap} (h : F_l14_TreeSame x0 x1 x2 x3 x4 x5 x6 K h0) : HC PG f_l14_TreeSame [.int .u8 x0, .int .u8 x1, .agg #[.int .u64 x2.1, .int .u64 x2.2.1, .int .u64 x2.2.2], .agg #[.int .u64 x3.1, .int .u64 x3.2.1, .int .u64 x3.2.2], .slice x4.a x4.len x4.cap, .slice x5.a x5.len x5.cap, .bool x6] [.c .bool] K h0 := HC.intro Tryz.mixed Tryz.func5 rfl Tryz.call5 (Nat.le_of_ble_eq_true rfl) ((E_l14_TreeSame x0 x1 x2 x3 x4 x5 x6 K h0) ▸ h)
/-- quickset/quicksetlaw14.TreeTurns -/
def F_l14_TreeTurns (x0 : Int) (x1 : Int × Int × Int) (x2 : SliceV) (x3 : ByteArray × ByteArray) (x4 : ByteArray × ByteArray) (K : (Bool) → Heap → Prop) (h0 : Heap) : Prop :=
  At (hnew h0 [.int .u64 x1.1, .int .u64 x1.2.1, .int .u64 x1.2.2] t_sip_Hasher) (fun h1 =>
   At (hnew h1 [.string x3.1, .string x3.2] t_pair_Pair) (fun h2 =>
    At (hnew h2 [.string x4.1, .string x4.2] t_pair_Pair) (fun h3 =>
     HC PG f_l14_awake [] [.c .bool] (fun (e4 : Bool) h5 =>
      CondP (!e4) (
       K false h5) (
       ((2 : Int) ≠ 0 ∧
        ∃ v6 : Int, hcell h5 (adr (newA h0) 0) = some (.int .u64 v6) ∧
        ∃ v7 : Int, hcell h5 (adr (newA h0) 1) = some (.int .u64 v7) ∧
        ∃ v8 : Int, hcell h5 (adr (newA h0) 2) = some (.int .u64 v8) ∧
        HC PG f_l14_made [.int .i64 (IntKind.wrap .i64 (Int.tmod x0 2)), .agg #[.int .u64 v6, .int .u64 v7, .int .u64 v8], .slice x2.a x2.len x2.cap] [.agg [.int .i64, .int .u64, .int .u64, .int .u64, .ptr, .ptr], .agg [.int .i64, .int .u64, .int .u64, .int .u64, .slice]] (fun (e9 : (Int × Int × Int × Int × (Option Addr) × (Option Addr)) × (Int × Int × Int × Int × SliceV)) h10 =>
         At (hnew h10 [.int .i64 0, .int .u64 0, .int .u64 0, .int .u64 0, .pointer none, .pointer none] t_tree_Tree) (fun h11 =>
          At (hnew h11 [.int .i64 0, .int .u64 0, .int .u64 0, .int .u64 0, .slice none 0 0] t_r14_Tree) (fun h12 =>
           (WrS h12 (some (newA h10)) 0 [.int .i64 e9.1.1, .int .u64 e9.1.2.1, .int .u64 e9.1.2.2.1, .int .u64 e9.1.2.2.2.1, .pointer e9.1.2.2.2.2.1, .pointer e9.1.2.2.2.2.2] ∧
            At (hsetL h12 (newA h10) 0 [.int .i64 e9.1.1, .int .u64 e9.1.2.1, .int .u64 e9.1.2.2.1, .int .u64 e9.1.2.2.2.1, .pointer e9.1.2.2.2.2.1, .pointer e9.1.2.2.2.2.2]) (fun h13 =>
             (WrS h13 (some (newA h11)) 0 [.int .i64 e9.2.1, .int .u64 e9.2.2.1, .int .u64 e9.2.2.2.1, .int .u64 e9.2.2.2.2.1, .slice e9.2.2.2.2.2.a e9.2.2.2.2.2.len e9.2.2.2.2.2.cap] ∧
              At (hsetL h13 (newA h11) 0 [.int .i64 e9.2.1, .int .u64 e9.2.2.1, .int .u64 e9.2.2.2.1, .int .u64 e9.2.2.2.2.1, .slice e9.2.2.2.2.2.a e9.2.2.2.2.2.len e9.2.2.2.2.2.cap]) (fun h14 =>
               ∃ v15 : ByteArray, hcell h14 (adr (newA h1) 0) = some (.string v15) ∧
               ∃ v16 : ByteArray, hcell h14 (adr (newA h1) 1) = some (.string v16) ∧
               HC PG f_l14_long [.string v15, .int .i64 0] [.c .str] (fun (e17 : ByteArray) h18 =>
                (hcell h18 (adr (newA h1) 1) = some (.string v16) ∧
                 HC PG f_l14_long [.string v16, .int .i64 0] [.c .str] (fun (e19 : ByteArray) h20 =>
                  (WrS h20 (some (newA h1)) 0 [.string e17, .string e19] ∧
                   At (hsetL h20 (newA h1) 0 [.string e17, .string e19]) (fun h21 =>
                    ∃ v22 : ByteArray, hcell h21 (adr (newA h2) 0) = some (.string v22) ∧
                    ∃ v23 : ByteArray, hcell h21 (adr (newA h2) 1) = some (.string v23) ∧
                    HC PG f_l14_long [.string v22, .int .i64 0] [.c .str] (fun (e24 : ByteArray) h25 =>
                     (hcell h25 (adr (newA h2) 1) = some (.string v23) ∧
                      HC PG f_l14_long [.string v23, .int .i64 0] [.c .str] (fun (e26 : ByteArray) h27 =>
                       (WrS h27 (some (newA h2)) 0 [.string e24, .string e26] ∧
                        At (hsetL h27 (newA h2) 0 [.string e24, .string e26]) (fun h28 =>
                         ∃ v29 : Int, hcell h28 (adr (newA h10) 0) = some (.int .i64 v29) ∧
                         ∃ v30 : Int, hcell h28 (adr (newA h10) 1) = some (.int .u64 v30) ∧
                         ∃ v31 : Int, hcell h28 (adr (newA h10) 2) = some (.int .u64 v31) ∧
                         ∃ v32 : Int, hcell h28 (adr (newA h10) 3) = some (.int .u64 v32) ∧
                         ∃ v33 : Option Addr, hcell h28 (adr (newA h10) 4) = some (.pointer v33) ∧
                         ∃ v34 : Option Addr, hcell h28 (adr (newA h10) 5) = some (.pointer v34) ∧
                         ∃ v35 : ByteArray, hcell h28 (adr (newA h1) 0) = some (.string v35) ∧
                         ∃ v36 : ByteArray, hcell h28 (adr (newA h1) 1) = some (.string v36) ∧
                         HC PG f_tree_Tree_With [.agg #[.int .i64 v29, .int .u64 v30, .int .u64 v31, .int .u64 v32, .pointer v33, .pointer v34], .pointer none, .agg #[.string v35, .string v36]] [.agg [.int .i64, .int .u64, .int .u64, .int .u64, .ptr, .ptr], .c (.int .i64)] (fun (e37 : (Int × Int × Int × Int × (Option Addr) × (Option Addr)) × Int) h38 =>
                          At (hnew h38 [.int .i64 0, .int .u64 0, .int .u64 0, .int .u64 0, .pointer none, .pointer none] t_tree_Tree) (fun h39 =>
                           (WrS h39 (some (newA h38)) 0 [.int .i64 e37.1.1, .int .u64 e37.1.2.1, .int .u64 e37.1.2.2.1, .int .u64 e37.1.2.2.2.1, .pointer e37.1.2.2.2.2.1, .pointer e37.1.2.2.2.2.2] ∧
                            At (hsetL h39 (newA h38) 0 [.int .i64 e37.1.1, .int .u64 e37.1.2.1, .int .u64 e37.1.2.2.1, .int .u64 e37.1.2.2.2.1, .pointer e37.1.2.2.2.2.1, .pointer e37.1.2.2.2.2.2]) (fun h40 =>
                             ∃ v41 : Int, hcell h40 (adr (newA h38) 0) = some (.int .i64 v41) ∧
                             ∃ v42 : Int, hcell h40 (adr (newA h38) 1) = some (.int .u64 v42) ∧
                             ∃ v43 : Int, hcell h40 (adr (newA h38) 2) = some (.int .u64 v43) ∧
                             ∃ v44 : Int, hcell h40 (adr (newA h38) 3) = some (.int .u64 v44) ∧
                             ∃ v45 : Option Addr, hcell h40 (adr (newA h38) 4) = some (.pointer v45) ∧
                             ∃ v46 : Option Addr, hcell h40 (adr (newA h38) 5) = some (.pointer v46) ∧
                             ∃ v47 : ByteArray, hcell h40 (adr (newA h2) 0) = some (.string v47) ∧
                             ∃ v48 : ByteArray, hcell h40 (adr (newA h2) 1) = some (.string v48) ∧
                             HC PG f_tree_Tree_With [.agg #[.int .i64 v41, .int .u64 v42, .int .u64 v43, .int .u64 v44, .pointer v45, .pointer v46], .pointer none, .agg #[.string v47, .string v48]] [.agg [.int .i64, .int .u64, .int .u64, .int .u64, .ptr, .ptr], .c (.int .i64)] (fun (e49 : (Int × Int × Int × Int × (Option Addr) × (Option Addr)) × Int) h50 =>
                              At (hnew h50 [.int .i64 0, .int .u64 0, .int .u64 0, .int .u64 0, .pointer none, .pointer none] t_tree_Tree) (fun h51 =>
                               (WrS h51 (some (newA h50)) 0 [.int .i64 e49.1.1, .int .u64 e49.1.2.1, .int .u64 e49.1.2.2.1, .int .u64 e49.1.2.2.2.1, .pointer e49.1.2.2.2.2.1, .pointer e49.1.2.2.2.2.2] ∧
                                At (hsetL h51 (newA h50) 0 [.int .i64 e49.1.1, .int .u64 e49.1.2.1, .int .u64 e49.1.2.2.1, .int .u64 e49.1.2.2.2.1, .pointer e49.1.2.2.2.2.1, .pointer e49.1.2.2.2.2.2]) (fun h52 =>
                                 ∃ v53 : Int, hcell h52 (adr (newA h10) 0) = some (.int .i64 v53) ∧
                                 ∃ v54 : Int, hcell h52 (adr (newA h10) 1) = some (.int .u64 v54) ∧
                                 ∃ v55 : Int, hcell h52 (adr (newA h10) 2) = some (.int .u64 v55) ∧
                                 ∃ v56 : Int, hcell h52 (adr (newA h10) 3) = some (.int .u64 v56) ∧
                                 ∃ v57 : Option Addr, hcell h52 (adr (newA h10) 4) = some (.pointer v57) ∧
                                 ∃ v58 : Option Addr, hcell h52 (adr (newA h10) 5) = some (.pointer v58) ∧
                                 ∃ v59 : ByteArray, hcell h52 (adr (newA h2) 0) = some (.string v59) ∧
                                 ∃ v60 : ByteArray, hcell h52 (adr (newA h2) 1) = some (.string v60) ∧
                                 HC PG f_tree_Tree_With [.agg #[.int .i64 v53, .int .u64 v54, .int .u64 v55, .int .u64 v56, .pointer v57, .pointer v58], .pointer none, .agg #[.string v59, .string v60]] [.agg [.int .i64, .int .u64, .int .u64, .int .u64, .ptr, .ptr], .c (.int .i64)] (fun (e61 : (Int × Int × Int × Int × (Option Addr) × (Option Addr)) × Int) h62 =>
                                  At (hnew h62 [.int .i64 0, .int .u64 0, .int .u64 0, .int .u64 0, .pointer none, .pointer none] t_tree_Tree) (fun h63 =>
                                   (WrS h63 (some (newA h62)) 0 [.int .i64 e61.1.1, .int .u64 e61.1.2.1, .int .u64 e61.1.2.2.1, .int .u64 e61.1.2.2.2.1, .pointer e61.1.2.2.2.2.1, .pointer e61.1.2.2.2.2.2] ∧
                                    At (hsetL h63 (newA h62) 0 [.int .i64 e61.1.1, .int .u64 e61.1.2.1, .int .u64 e61.1.2.2.1, .int .u64 e61.1.2.2.2.1, .pointer e61.1.2.2.2.2.1, .pointer e61.1.2.2.2.2.2]) (fun h64 =>
                                     ∃ v65 : Int, hcell h64 (adr (newA h62) 0) = some (.int .i64 v65) ∧
                                     ∃ v66 : Int, hcell h64 (adr (newA h62) 1) = some (.int .u64 v66) ∧
                                     ∃ v67 : Int, hcell h64 (adr (newA h62) 2) = some (.int .u64 v67) ∧
                                     ∃ v68 : Int, hcell h64 (adr (newA h62) 3) = some (.int .u64 v68) ∧
                                     ∃ v69 : Option Addr, hcell h64 (adr (newA h62) 4) = some (.pointer v69) ∧
                                     ∃ v70 : Option Addr, hcell h64 (adr (newA h62) 5) = some (.pointer v70) ∧
                                     ∃ v71 : ByteArray, hcell h64 (adr (newA h1) 0) = some (.string v71) ∧
                                     ∃ v72 : ByteArray, hcell h64 (adr (newA h1) 1) = some (.string v72) ∧
                                     HC PG f_tree_Tree_With [.agg #[.int .i64 v65, .int .u64 v66, .int .u64 v67, .int .u64 v68, .pointer v69, .pointer v70], .pointer none, .agg #[.string v71, .string v72]] [.agg [.int .i64, .int .u64, .int .u64, .int .u64, .ptr, .ptr], .c (.int .i64)] (fun (e73 : (Int × Int × Int × Int × (Option Addr) × (Option Addr)) × Int) h74 =>
                                      At (hnew h74 [.int .i64 0, .int .u64 0, .int .u64 0, .int .u64 0, .pointer none, .pointer none] t_tree_Tree) (fun h75 =>
                                       (WrS h75 (some (newA h74)) 0 [.int .i64 e73.1.1, .int .u64 e73.1.2.1, .int .u64 e73.1.2.2.1, .int .u64 e73.1.2.2.2.1, .pointer e73.1.2.2.2.2.1, .pointer e73.1.2.2.2.2.2] ∧
                                        At (hsetL h75 (newA h74) 0 [.int .i64 e73.1.1, .int .u64 e73.1.2.1, .int .u64 e73.1.2.2.1, .int .u64 e73.1.2.2.2.1, .pointer e73.1.2.2.2.2.1, .pointer e73.1.2.2.2.2.2]) (fun h76 =>
                                         ∃ v77 : Int, hcell h76 (adr (newA h38) 0) = some (.int .i64 v77) ∧
                                         ∃ v78 : Int, hcell h76 (adr (newA h38) 1) = some (.int .u64 v78) ∧
                                         ∃ v79 : Int, hcell h76 (adr (newA h38) 2) = some (.int .u64 v79) ∧
                                         ∃ v80 : Int, hcell h76 (adr (newA h38) 3) = some (.int .u64 v80) ∧
                                         ∃ v81 : Option Addr, hcell h76 (adr (newA h38) 4) = some (.pointer v81) ∧
                                         ∃ v82 : Option Addr, hcell h76 (adr (newA h38) 5) = some (.pointer v82) ∧
                                         ∃ v83 : ByteArray, hcell h76 (adr (newA h1) 0) = some (.string v83) ∧
                                         ∃ v84 : ByteArray, hcell h76 (adr (newA h1) 1) = some (.string v84) ∧
                                         HC PG f_tree_Tree_With [.agg #[.int .i64 v77, .int .u64 v78, .int .u64 v79, .int .u64 v80, .pointer v81, .pointer v82], .pointer none, .agg #[.string v83, .string v84]] [.agg [.int .i64, .int .u64, .int .u64, .int .u64, .ptr, .ptr], .c (.int .i64)] (fun (e85 : (Int × Int × Int × Int × (Option Addr) × (Option Addr)) × Int) h86 =>
                                          At (hnew h86 [.int .i64 0, .int .u64 0, .int .u64 0, .int .u64 0, .pointer none, .pointer none] t_tree_Tree) (fun h87 =>
                                          (WrS h87 (some (newA h86)) 0 [.int .i64 e85.1.1, .int .u64 e85.1.2.1, .int .u64 e85.1.2.2.1, .int .u64 e85.1.2.2.2.1, .pointer e85.1.2.2.2.2.1, .pointer e85.1.2.2.2.2.2] ∧
                                          At (hsetL h87 (newA h86) 0 [.int .i64 e85.1.1, .int .u64 e85.1.2.1, .int .u64 e85.1.2.2.1, .int .u64 e85.1.2.2.2.1, .pointer e85.1.2.2.2.2.1, .pointer e85.1.2.2.2.2.2]) (fun h88 =>
                                          Join (fun (t134 : Bool) h135 => -- (98)
                                          CondP t134 (
                                          K false h135) (
                                          ∃ v136 : SliceV, hcell h135 (adr (newA h11) 4) = some (.slice v136.a v136.len v136.cap) ∧
                                          ∃ v137 : ByteArray, hcell h135 (adr (newA h1) 0) = some (.string v137) ∧
                                          HC PG f_r03_Get [.slice v136.a v136.len v136.cap, .string v137] [.c .str, .c .bool] (fun (e138 : ByteArray × Bool) h139 =>
                                          CondP e138.2 (
                                          K true h139) (
                                          ∃ v140 : Int, hcell h139 (adr (newA h38) 0) = some (.int .i64 v140) ∧
                                          ∃ v141 : Int, hcell h139 (adr (newA h38) 1) = some (.int .u64 v141) ∧
                                          ∃ v142 : Int, hcell h139 (adr (newA h38) 2) = some (.int .u64 v142) ∧
                                          ∃ v143 : Int, hcell h139 (adr (newA h38) 3) = some (.int .u64 v143) ∧
                                          ∃ v144 : Option Addr, hcell h139 (adr (newA h38) 4) = some (.pointer v144) ∧
                                          ∃ v145 : Option Addr, hcell h139 (adr (newA h38) 5) = some (.pointer v145) ∧
                                          ∃ v146 : ByteArray, hcell h139 (adr (newA h1) 0) = some (.string v146) ∧
                                          HC PG f_tree_Tree_Without [.agg #[.int .i64 v140, .int .u64 v141, .int .u64 v142, .int .u64 v143, .pointer v144, .pointer v145], .pointer none, .string v146] [.agg [.int .i64, .int .u64, .int .u64, .int .u64, .ptr, .ptr], .c (.int .i64)] (fun (e147 : (Int × Int × Int × Int × (Option Addr) × (Option Addr)) × Int) h148 =>
                                          At (hnew h148 [.int .i64 0, .int .u64 0, .int .u64 0, .int .u64 0, .pointer none, .pointer none] t_tree_Tree) (fun h149 =>
                                          (WrS h149 (some (newA h148)) 0 [.int .i64 e147.1.1, .int .u64 e147.1.2.1, .int .u64 e147.1.2.2.1, .int .u64 e147.1.2.2.2.1, .pointer e147.1.2.2.2.2.1, .pointer e147.1.2.2.2.2.2] ∧
                                          At (hsetL h149 (newA h148) 0 [.int .i64 e147.1.1, .int .u64 e147.1.2.1, .int .u64 e147.1.2.2.1, .int .u64 e147.1.2.2.2.1, .pointer e147.1.2.2.2.2.1, .pointer e147.1.2.2.2.2.2]) (fun h150 =>
                                          CondP (e147.2 == (0 : Int)) (
                                          ∃ v151 : Int, hcell h150 (adr (newA h148) 0) = some (.int .i64 v151) ∧
                                          ∃ v152 : Int, hcell h150 (adr (newA h148) 1) = some (.int .u64 v152) ∧
                                          ∃ v153 : Int, hcell h150 (adr (newA h148) 2) = some (.int .u64 v153) ∧
                                          ∃ v154 : Int, hcell h150 (adr (newA h148) 3) = some (.int .u64 v154) ∧
                                          ∃ v155 : Option Addr, hcell h150 (adr (newA h148) 4) = some (.pointer v155) ∧
                                          ∃ v156 : Option Addr, hcell h150 (adr (newA h148) 5) = some (.pointer v156) ∧
                                          ∃ v157 : Int, hcell h150 (adr (newA h10) 0) = some (.int .i64 v157) ∧
                                          ∃ v158 : Int, hcell h150 (adr (newA h10) 1) = some (.int .u64 v158) ∧
                                          ∃ v159 : Int, hcell h150 (adr (newA h10) 2) = some (.int .u64 v159) ∧
                                          ∃ v160 : Int, hcell h150 (adr (newA h10) 3) = some (.int .u64 v160) ∧
                                          ∃ v161 : Option Addr, hcell h150 (adr (newA h10) 4) = some (.pointer v161) ∧
                                          ∃ v162 : Option Addr, hcell h150 (adr (newA h10) 5) = some (.pointer v162) ∧
                                          HC PG f_tree_Same [.agg #[.int .i64 v151, .int .u64 v152, .int .u64 v153, .int .u64 v154, .pointer v155, .pointer v156], .agg #[.int .i64 v157, .int .u64 v158, .int .u64 v159, .int .u64 v160, .pointer v161, .pointer v162]] [.c .bool] (fun (e163 : Bool) h164 =>
                                          K e163 h164) h150) (
                                          K false h150))))) h139)) h135)) (fun J89 =>
                                          ∃ v90 : ByteArray, hcell h88 (adr (newA h1) 0) = some (.string v90) ∧
                                          ∃ v91 : ByteArray, hcell h88 (adr (newA h2) 0) = some (.string v91) ∧
                                          CondP (!(v90.toList == v91.toList)) (
                                          ∃ v92 : Int, hcell h88 (adr (newA h50) 0) = some (.int .i64 v92) ∧
                                          ∃ v93 : Int, hcell h88 (adr (newA h50) 1) = some (.int .u64 v93) ∧
                                          ∃ v94 : Int, hcell h88 (adr (newA h50) 2) = some (.int .u64 v94) ∧
                                          ∃ v95 : Int, hcell h88 (adr (newA h50) 3) = some (.int .u64 v95) ∧
                                          ∃ v96 : Option Addr, hcell h88 (adr (newA h50) 4) = some (.pointer v96) ∧
                                          ∃ v97 : Option Addr, hcell h88 (adr (newA h50) 5) = some (.pointer v97) ∧
                                          ∃ v98 : Int, hcell h88 (adr (newA h74) 0) = some (.int .i64 v98) ∧
                                          ∃ v99 : Int, hcell h88 (adr (newA h74) 1) = some (.int .u64 v99) ∧
                                          ∃ v100 : Int, hcell h88 (adr (newA h74) 2) = some (.int .u64 v100) ∧
                                          ∃ v101 : Int, hcell h88 (adr (newA h74) 3) = some (.int .u64 v101) ∧
                                          ∃ v102 : Option Addr, hcell h88 (adr (newA h74) 4) = some (.pointer v102) ∧
                                          ∃ v103 : Option Addr, hcell h88 (adr (newA h74) 5) = some (.pointer v103) ∧
                                          HC PG f_tree_Same [.agg #[.int .i64 v92, .int .u64 v93, .int .u64 v94, .int .u64 v95, .pointer v96, .pointer v97], .agg #[.int .i64 v98, .int .u64 v99, .int .u64 v100, .int .u64 v101, .pointer v102, .pointer v103]] [.c .bool] (fun (e104 : Bool) h105 =>
                                          CondP (!e104) (
                                          J89 true h105) (
                                          ∃ v106 : Int, hcell h105 (adr (newA h38) 0) = some (.int .i64 v106) ∧
                                          ∃ v107 : Int, hcell h105 (adr (newA h38) 1) = some (.int .u64 v107) ∧
                                          ∃ v108 : Int, hcell h105 (adr (newA h38) 2) = some (.int .u64 v108) ∧
                                          ∃ v109 : Int, hcell h105 (adr (newA h38) 3) = some (.int .u64 v109) ∧
                                          ∃ v110 : Option Addr, hcell h105 (adr (newA h38) 4) = some (.pointer v110) ∧
                                          ∃ v111 : Option Addr, hcell h105 (adr (newA h38) 5) = some (.pointer v111) ∧
                                          ∃ v112 : Int, hcell h105 (adr (newA h86) 0) = some (.int .i64 v112) ∧
                                          ∃ v113 : Int, hcell h105 (adr (newA h86) 1) = some (.int .u64 v113) ∧
                                          ∃ v114 : Int, hcell h105 (adr (newA h86) 2) = some (.int .u64 v114) ∧
                                          ∃ v115 : Int, hcell h105 (adr (newA h86) 3) = some (.int .u64 v115) ∧
                                          ∃ v116 : Option Addr, hcell h105 (adr (newA h86) 4) = some (.pointer v116) ∧
                                          ∃ v117 : Option Addr, hcell h105 (adr (newA h86) 5) = some (.pointer v117) ∧
                                          HC PG f_tree_One [.agg #[.int .i64 v106, .int .u64 v107, .int .u64 v108, .int .u64 v109, .pointer v110, .pointer v111], .agg #[.int .i64 v112, .int .u64 v113, .int .u64 v114, .int .u64 v115, .pointer v116, .pointer v117]] [.c .bool] (fun (e118 : Bool) h119 =>
                                          J89 (!e118) h119) h105)) h88) (
                                          ∃ v120 : Int, hcell h88 (adr (newA h38) 0) = some (.int .i64 v120) ∧
                                          ∃ v121 : Int, hcell h88 (adr (newA h38) 1) = some (.int .u64 v121) ∧
                                          ∃ v122 : Int, hcell h88 (adr (newA h38) 2) = some (.int .u64 v122) ∧
                                          ∃ v123 : Int, hcell h88 (adr (newA h38) 3) = some (.int .u64 v123) ∧
                                          ∃ v124 : Option Addr, hcell h88 (adr (newA h38) 4) = some (.pointer v124) ∧
                                          ∃ v125 : Option Addr, hcell h88 (adr (newA h38) 5) = some (.pointer v125) ∧
                                          ∃ v126 : Int, hcell h88 (adr (newA h86) 0) = some (.int .i64 v126) ∧
                                          ∃ v127 : Int, hcell h88 (adr (newA h86) 1) = some (.int .u64 v127) ∧
                                          ∃ v128 : Int, hcell h88 (adr (newA h86) 2) = some (.int .u64 v128) ∧
                                          ∃ v129 : Int, hcell h88 (adr (newA h86) 3) = some (.int .u64 v129) ∧
                                          ∃ v130 : Option Addr, hcell h88 (adr (newA h86) 4) = some (.pointer v130) ∧
                                          ∃ v131 : Option Addr, hcell h88 (adr (newA h86) 5) = some (.pointer v131) ∧
                                          HC PG f_tree_One [.agg #[.int .i64 v120, .int .u64 v121, .int .u64 v122, .int .u64 v123, .pointer v124, .pointer v125], .agg #[.int .i64 v126, .int .u64 v127, .int .u64 v128, .int .u64 v129, .pointer v130, .pointer v131]] [.c .bool] (fun (e132 : Bool) h133 =>
                                          J89 (!e132) h133) h88)))))) h76)))) h64)))) h52)))) h40)))) h28))) h25)) h21))) h18)) h14))))))) h5))) h3)))
def A_l14_TreeTurns : Ann := .node (.reg [0, 2, 6, 8, 9] (.nil)) (.node (.node (.reg [0, 2, 6, 8, 9, 28] (.nil)) (.node (.node (.reg [10] (.nil)) (.nil)) (.nil))) (.node (.reg [8, 9, 11, 12] (.nil)) (.node (.reg [8, 9, 11, 12] (.draw [.mk 0 255 256 274877906944, .mk 1 254 274877906944 549755813888, .mk 2 253 549755813888 1099511627776, .mk 0 255 256 2199023255552, .mk 8 247 2199023255552 4398046511104, .mk 20 239 4398046511104 8796093022208, .mk 36 219 9895604649984 17592186044416, .mk 127 191 17592186044672 0] (.take 0 (.take 1 (.take 3 (.take 4 (.all (.last 2 (.all (.last 5 (.all (.last 6 (.all (.last 7 (.done))))))))))))))) (.node (.reg [8, 9, 11, 12] (.draw [.mk 0 255 512 35184372088832, .mk 1 254 35184372088832 70368744177664, .mk 2 253 70368744177664 140737488355328, .mk 0 255 512 281474976710656, .mk 8 247 281474976710656 562949953421312, .mk 20 239 562949953421312 1125899906842624, .mk 36 219 1266637395197952 2251799813685248, .mk 127 191 2251799813685760 0] (.take 0 (.take 1 (.take 3 (.take 4 (.all (.last 2 (.all (.last 5 (.all (.last 6 (.all (.last 7 (.done))))))))))))))) (.node (.reg [8, 9, 11, 12, 13] (.nil)) (.node (.reg [8, 9, 11, 12, 13, 15] (.nil)) (.node (.reg [8, 9, 11, 12, 13, 15, 17] (.nil)) (.node (.reg [8, 9, 11, 12, 13, 15, 19] (.nil)) (.node (.reg [8, 9, 11, 12, 13, 15, 19, 21] (.nil)) (.node (.join [8, 11, 12, 13] [(98, .c .bool)] (.reg [8, 11, 12, 13, 98] (.nil)) (.node (.node (.reg [10] (.nil)) (.nil)) (.nil))) (.node (.node (.reg [8, 11, 13, 24] (.nil)) (.node (.reg [8, 11, 13, 107] (.nil)) (.node (.node (.reg [10] (.nil)) (.nil)) (.nil)))) (.node (.reg [11, 25, 26] (.nil)) (.node (.reg [10] (.nil)) (.nil))))))))))))))
theorem E_l14_TreeTurns (x0 : Int) (x1 : Int × Int × Int) (x2 : SliceV) (x3 : ByteArray × ByteArray) (x4 : ByteArray × ByteArray) (K : Tup [.c .bool] → Heap → Prop) (h0 : Heap) : F_l14_TreeTurns x0 x1 x2 x3 x4 K h0 = sBody PG Tryz.f6 (Tryz.f6.body.getD .skip) A_l14_TreeTurns [.int .u8 x0, .agg #[.int .u64 x1.1, .int .u64 x1.2.1, .int .u64 x1.2.2], .slice x2.a x2.len x2.cap, .agg #[.string x3.1, .string x3.2], .agg #[.string x4.1, .string x4.2]] [.c .bool] K h0 := by kernel_rfl
theorem H_l14_TreeTurns (x0 : Int) (x1 : Int × Int × Int) (x2 : SliceV) (x3 : ByteArray × ByteArray) (x4 : ByteArray × ByteArray) {K : Tup [.c .bool] → Heap → Prop} {h0 : Heap} (h : F_l14_TreeTurns x0 x1 x2 x3 x4 K h0) : HC PG f_l14_TreeTurns [.int .u8 x0, .agg #[.int .u64 x1.1, .int .u64 x1.2.1, .int .u64 x1.2.2], .slice x2.a x2.len x2.cap, .agg #[.string x3.1, .string x3.2], .agg #[.string x4.1, .string x4.2]] [.c .bool] K h0 := HC.intro Tryz.mixed Tryz.func6 rfl Tryz.call6 (Nat.le_of_ble_eq_true rfl) ((E_l14_TreeTurns x0 x1 x2 x3 x4 K h0) ▸ h)
/-- quickset/tree.Same -/
def F_tree_Same (x0 : Int × Int × Int × Int × (Option Addr) × (Option Addr)) (x1 : Int × Int × Int × Int × (Option Addr) × (Option Addr)) (K : (Bool) → Heap → Prop) (h0 : Heap) : Prop :=
  At (hnew h0 [.int .i64 x0.1, .int .u64 x0.2.1, .int .u64 x0.2.2.1, .int .u64 x0.2.2.2.1, .pointer x0.2.2.2.2.1, .pointer x0.2.2.2.2.2] t_tree_Tree) (fun h1 =>
   At (hnew h1 [.int .i64 x1.1, .int .u64 x1.2.1, .int .u64 x1.2.2.1, .int .u64 x1.2.2.2.1, .pointer x1.2.2.2.2.1, .pointer x1.2.2.2.2.2] t_tree_Tree) (fun h2 =>
    ∃ v3 : Int, hcell h2 (adr (newA h0) 0) = some (.int .i64 v3) ∧
    ∃ v4 : Int, hcell h2 (adr (newA h0) 1) = some (.int .u64 v4) ∧
    ∃ v5 : Int, hcell h2 (adr (newA h0) 2) = some (.int .u64 v5) ∧
    ∃ v6 : Int, hcell h2 (adr (newA h0) 3) = some (.int .u64 v6) ∧
    ∃ v7 : Option Addr, hcell h2 (adr (newA h0) 4) = some (.pointer v7) ∧
    ∃ v8 : Option Addr, hcell h2 (adr (newA h0) 5) = some (.pointer v8) ∧
    ∃ v9 : Int, hcell h2 (adr (newA h1) 0) = some (.int .i64 v9) ∧
    ∃ v10 : Int, hcell h2 (adr (newA h1) 1) = some (.int .u64 v10) ∧
    ∃ v11 : Int, hcell h2 (adr (newA h1) 2) = some (.int .u64 v11) ∧
    ∃ v12 : Int, hcell h2 (adr (newA h1) 3) = some (.int .u64 v12) ∧
    ∃ v13 : Option Addr, hcell h2 (adr (newA h1) 4) = some (.pointer v13) ∧
    ∃ v14 : Option Addr, hcell h2 (adr (newA h1) 5) = some (.pointer v14) ∧
    HC PG f_tree_Like [.agg #[.int .i64 v3, .int .u64 v4, .int .u64 v5, .int .u64 v6, .pointer v7, .pointer v8], .agg #[.int .i64 v9, .int .u64 v10, .int .u64 v11, .int .u64 v12, .pointer v13, .pointer v14]] [.c .bool] (fun (e15 : Bool) h16 =>
     CondP e15 (
      ∃ v17 : Int, hcell h16 (adr (newA h0) 0) = some (.int .i64 v17) ∧
      ∃ v18 : Int, hcell h16 (adr (newA h0) 1) = some (.int .u64 v18) ∧
      ∃ v19 : Int, hcell h16 (adr (newA h0) 2) = some (.int .u64 v19) ∧
      ∃ v20 : Int, hcell h16 (adr (newA h0) 3) = some (.int .u64 v20) ∧
      ∃ v21 : Option Addr, hcell h16 (adr (newA h0) 4) = some (.pointer v21) ∧
      ∃ v22 : Option Addr, hcell h16 (adr (newA h0) 5) = some (.pointer v22) ∧
      ∃ v23 : Int, hcell h16 (adr (newA h1) 0) = some (.int .i64 v23) ∧
      ∃ v24 : Int, hcell h16 (adr (newA h1) 1) = some (.int .u64 v24) ∧
      ∃ v25 : Int, hcell h16 (adr (newA h1) 2) = some (.int .u64 v25) ∧
      ∃ v26 : Int, hcell h16 (adr (newA h1) 3) = some (.int .u64 v26) ∧
      ∃ v27 : Option Addr, hcell h16 (adr (newA h1) 4) = some (.pointer v27) ∧
      ∃ v28 : Option Addr, hcell h16 (adr (newA h1) 5) = some (.pointer v28) ∧
      HC PG f_tree_Tree_Shape [.agg #[.int .i64 v17, .int .u64 v18, .int .u64 v19, .int .u64 v20, .pointer v21, .pointer v22]] [.c .slice] (fun (e29 : SliceV) h30 =>
       ((hcell h30 (adr (newA h1) 0) = some (.int .i64 v23) ∧ hcell h30 (adr (newA h1) 1) = some (.int .u64 v24) ∧ hcell h30 (adr (newA h1) 2) = some (.int .u64 v25) ∧ hcell h30 (adr (newA h1) 3) = some (.int .u64 v26) ∧ hcell h30 (adr (newA h1) 4) = some (.pointer v27) ∧ hcell h30 (adr (newA h1) 5) = some (.pointer v28)) ∧
        HC PG f_tree_Tree_Shape [.agg #[.int .i64 v23, .int .u64 v24, .int .u64 v25, .int .u64 v26, .pointer v27, .pointer v28]] [.c .slice] (fun (e31 : SliceV) h32 =>
         HC PG f_bytes_Equal [.slice e29.a e29.len e29.cap, .slice e31.a e31.len e31.cap] [.c .bool] (fun (e33 : Bool) h34 =>
          K e33 h34) h32) h30)) h16) (
      K false h16)) h2))
def A_tree_Same : Ann := .node (.reg [2, 3] (.nil)) (.node (.reg [4] (.draw [.mk 0 2047 4 32, .mk 0 2047 8 64, .mk 3 2044 96 128, .mk 4 2043 128 256, .mk 8 2039 260 512, .mk 24 2023 768 1024, .mk 8 2039 264 2048, .mk 104 1975 2304 4096, .mk 168 1879 5376 8192, .mk 264 1783 8448 16384, .mk 1023 1535 16384 16] (.take 0 (.take 1 (.all (.last 2 (.take 3 (.split 8 (.take 4 (.take 6 (.all (.last 5 (.all (.last 7 (.all (.last 8 (.take 9 (.take 10 (.done))))))))))) (.take 4 (.take 5 (.take 6 (.take 7 (.take 8 (.take 9 (.take 10 (.done)))))))))))))))) (.nil))
theorem E_tree_Same (x0 : Int × Int × Int × Int × (Option Addr) × (Option Addr)) (x1 : Int × Int × Int × Int × (Option Addr) × (Option Addr)) (K : Tup [.c .bool] → Heap → Prop) (h0 : Heap) : F_tree_Same x0 x1 K h0 = sBody PG Tryz.f10 (Tryz.f10.body.getD .skip) A_tree_Same [.agg #[.int .i64 x0.1, .int .u64 x0.2.1, .int .u64 x0.2.2.1, .int .u64 x0.2.2.2.1, .pointer x0.2.2.2.2.1, .pointer x0.2.2.2.2.2], .agg #[.int .i64 x1.1, .int .u64 x1.2.1, .int .u64 x1.2.2.1, .int .u64 x1.2.2.2.1, .pointer x1.2.2.2.2.1, .pointer x1.2.2.2.2.2]] [.c .bool] K h0 := by kernel_rfl
theorem H_tree_Same (x0 : Int × Int × Int × Int × (Option Addr) × (Option Addr)) (x1 : Int × Int × Int × Int × (Option Addr) × (Option Addr)) {K : Tup [.c .bool] → Heap → Prop} {h0 : Heap} (h : F_tree_Same x0 x1 K h0) : HC PG f_tree_Same [.agg #[.int .i64 x0.1, .int .u64 x0.2.1, .int .u64 x0.2.2.1, .int .u64 x0.2.2.2.1, .pointer x0.2.2.2.2.1, .pointer x0.2.2.2.2.2], .agg #[.int .i64 x1.1, .int .u64 x1.2.1, .int .u64 x1.2.2.1, .int .u64 x1.2.2.2.1, .pointer x1.2.2.2.2.1, .pointer x1.2.2.2.2.2]] [.c .bool] K h0 := HC.intro Tryz.mixed Tryz.func10 rfl Tryz.call10 (Nat.le_of_ble_eq_true rfl) ((E_tree_Same x0 x1 K h0) ▸ h)
/-- quickset/tree.OfChamp -/
def F_tree_OfChamp (x0 : Int × Int × Int) (x1 : Option Addr) (K : (Int × Int × Int × Int × (Option Addr) × (Option Addr)) → Heap → Prop) (h0 : Heap) : Prop :=
  At (hnew h0 [.int .u64 x0.1, .int .u64 x0.2.1, .int .u64 x0.2.2] t_sip_Hasher) (fun h1 =>
   At (hnew h1 [.int .i64 0, .int .u64 0, .int .u64 0, .int .u64 0, .pointer none, .pointer none] t_tree_Tree) (fun h2 =>
    Join (fun (t6 : Option Addr) h7 => -- n(1)
     ∃ v8 : Int, hcell h7 (adr (newA h0) 0) = some (.int .u64 v8) ∧
     ∃ v9 : Int, hcell h7 (adr (newA h0) 1) = some (.int .u64 v9) ∧
     ∃ v10 : Int, hcell h7 (adr (newA h0) 2) = some (.int .u64 v10) ∧
     (WrS h7 (some (newA h1)) 0 [.int .i64 0, .int .u64 v8, .int .u64 v9, .int .u64 v10, .pointer t6, .pointer none] ∧
      At (hsetL h7 (newA h1) 0 [.int .i64 0, .int .u64 v8, .int .u64 v9, .int .u64 v10, .pointer t6, .pointer none]) (fun h11 =>
       ∃ v12 : Int, hcell h11 (adr (newA h1) 0) = some (.int .i64 v12) ∧
       ∃ v13 : Int, hcell h11 (adr (newA h1) 1) = some (.int .u64 v13) ∧
       ∃ v14 : Int, hcell h11 (adr (newA h1) 2) = some (.int .u64 v14) ∧
       ∃ v15 : Int, hcell h11 (adr (newA h1) 3) = some (.int .u64 v15) ∧
       ∃ v16 : Option Addr, hcell h11 (adr (newA h1) 4) = some (.pointer v16) ∧
       ∃ v17 : Option Addr, hcell h11 (adr (newA h1) 5) = some (.pointer v17) ∧
       K (v12, v13, v14, v15, v16, v17) h11))) (fun J3 =>
     CondP x1.isNone (
      HC PG f_champ_Empty [] [.c .ptr] (fun (e4 : Option Addr) h5 =>
       J3 e4 h5) h2) (
      J3 x1 h2))))
def A_tree_OfChamp : Ann := .node (.reg [1, 2, 4] (.nil)) (.join [2, 4] [(1, .c .ptr)] (.node (.reg [1, 2, 4, 6] (.nil)) (.node (.reg [1, 2, 4] (.nil)) (.nil))) (.node (.reg [4] (.nil)) (.nil)))
theorem E_tree_OfChamp (x0 : Int × Int × Int) (x1 : Option Addr) (K : Tup [.agg [.int .i64, .int .u64, .int .u64, .int .u64, .ptr, .ptr]] → Heap → Prop) (h0 : Heap) : F_tree_OfChamp x0 x1 K h0 = sBody PG Tryz.f11 (Tryz.f11.body.getD .skip) A_tree_OfChamp [.agg #[.int .u64 x0.1, .int .u64 x0.2.1, .int .u64 x0.2.2], .pointer x1] [.agg [.int .i64, .int .u64, .int .u64, .int .u64, .ptr, .ptr]] K h0 := by kernel_rfl
theorem H_tree_OfChamp (x0 : Int × Int × Int) (x1 : Option Addr) {K : Tup [.agg [.int .i64, .int .u64, .int .u64, .int .u64, .ptr, .ptr]] → Heap → Prop} {h0 : Heap} (h : F_tree_OfChamp x0 x1 K h0) : HC PG f_tree_OfChamp [.agg #[.int .u64 x0.1, .int .u64 x0.2.1, .int .u64 x0.2.2], .pointer x1] [.agg [.int .i64, .int .u64, .int .u64, .int .u64, .ptr, .ptr]] K h0 := HC.intro Tryz.mixed Tryz.func11 rfl Tryz.call11 (Nat.le_of_ble_eq_true rfl) ((E_tree_OfChamp x0 x1 K h0) ▸ h)
/-- quickset/tree.OfRadix -/
def F_tree_OfRadix (x0 : Option Addr) (K : (Int × Int × Int × Int × (Option Addr) × (Option Addr)) → Heap → Prop) (h0 : Heap) : Prop :=
  At (hnew h0 [.int .i64 0, .int .u64 0, .int .u64 0, .int .u64 0, .pointer none, .pointer none] t_tree_Tree) (fun h1 =>
   Join (fun (t5 : Option Addr) h6 => -- n(0)
    (WrS h6 (some (newA h0)) 0 [.int .i64 1, .int .u64 0, .int .u64 0, .int .u64 0, .pointer none, .pointer t5] ∧
     At (hsetL h6 (newA h0) 0 [.int .i64 1, .int .u64 0, .int .u64 0, .int .u64 0, .pointer none, .pointer t5]) (fun h7 =>
      ∃ v8 : Int, hcell h7 (adr (newA h0) 0) = some (.int .i64 v8) ∧
      ∃ v9 : Int, hcell h7 (adr (newA h0) 1) = some (.int .u64 v9) ∧
      ∃ v10 : Int, hcell h7 (adr (newA h0) 2) = some (.int .u64 v10) ∧
      ∃ v11 : Int, hcell h7 (adr (newA h0) 3) = some (.int .u64 v11) ∧
      ∃ v12 : Option Addr, hcell h7 (adr (newA h0) 4) = some (.pointer v12) ∧
      ∃ v13 : Option Addr, hcell h7 (adr (newA h0) 5) = some (.pointer v13) ∧
      K (v8, v9, v10, v11, v12, v13) h7))) (fun J2 =>
    CondP x0.isNone (
     HC PG f_radix_Empty [] [.c .ptr] (fun (e3 : Option Addr) h4 =>
      J2 e3 h4) h1) (
     J2 x0 h1)))
def A_tree_OfRadix : Ann := .node (.reg [0, 2] (.nil)) (.join [2] [(0, .c .ptr)] (.node (.reg [0, 2, 4] (.nil)) (.node (.reg [0, 2] (.nil)) (.nil))) (.node (.reg [2] (.nil)) (.nil)))
theorem E_tree_OfRadix (x0 : Option Addr) (K : Tup [.agg [.int .i64, .int .u64, .int .u64, .int .u64, .ptr, .ptr]] → Heap → Prop) (h0 : Heap) : F_tree_OfRadix x0 K h0 = sBody PG Tryz.f13 (Tryz.f13.body.getD .skip) A_tree_OfRadix [.pointer x0] [.agg [.int .i64, .int .u64, .int .u64, .int .u64, .ptr, .ptr]] K h0 := by kernel_rfl
theorem H_tree_OfRadix (x0 : Option Addr) {K : Tup [.agg [.int .i64, .int .u64, .int .u64, .int .u64, .ptr, .ptr]] → Heap → Prop} {h0 : Heap} (h : F_tree_OfRadix x0 K h0) : HC PG f_tree_OfRadix [.pointer x0] [.agg [.int .i64, .int .u64, .int .u64, .int .u64, .ptr, .ptr]] K h0 := HC.intro Tryz.mixed Tryz.func13 rfl Tryz.call13 (Nat.le_of_ble_eq_true rfl) ((E_tree_OfRadix x0 K h0) ▸ h)
/-- (quickset/tree.Tree).Pairs -/
def F_tree_Tree_Pairs (x0 : Int × Int × Int × Int × (Option Addr) × (Option Addr)) (K : (SliceV) → Heap → Prop) (h0 : Heap) : Prop :=
  At (hnew h0 [.int .i64 x0.1, .int .u64 x0.2.1, .int .u64 x0.2.2.1, .int .u64 x0.2.2.2.1, .pointer x0.2.2.2.2.1, .pointer x0.2.2.2.2.2] t_tree_Tree) (fun h1 =>
   ∃ v2 : Int, hcell h1 (adr (newA h0) 0) = some (.int .i64 v2) ∧
   CondP (v2 == (1 : Int)) (
    ∃ v3 : Option Addr, hcell h1 (adr (newA h0) 5) = some (.pointer v3) ∧
    HC PG f_span_All [] [.agg [.str, .str, .bool]] (fun (e4 : ByteArray × ByteArray × Bool) h5 =>
     (hcell h5 (adr (newA h0) 5) = some (.pointer v3) ∧
      HC PG f_span_Pairs [.pointer v3, .agg #[.string e4.1, .string e4.2.1, .bool e4.2.2]] [.c .slice] (fun (e6 : SliceV) h7 =>
       K e6 h7) h5)) h1) (
    ∃ v8 : Option Addr, hcell h1 (adr (newA h0) 4) = some (.pointer v8) ∧
    HC PG f_walk_Sorted [.pointer v8] [.c .slice] (fun (e9 : SliceV) h10 =>
     K e9 h10) h1))
def A_tree_Tree_Pairs : Ann := .node (.reg [1] (.nil)) (.node (.node (.reg [1, 5] (.nil)) (.node (.node (.reg [2] (.draw [.mk 0 31 2 64, .mk 1 30 64 128, .mk 0 31 0 256, .mk 6 25 384 512, .mk 15 23 512 4] (.take 0 (.take 1 (.all (.last 2 (.all (.last 3 (.take 4 (.done)))))))))) (.nil)) (.nil))) (.node (.reg [2] (.nil)) (.nil)))
theorem E_tree_Tree_Pairs (x0 : Int × Int × Int × Int × (Option Addr) × (Option Addr)) (K : Tup [.c .slice] → Heap → Prop) (h0 : Heap) : F_tree_Tree_Pairs x0 K h0 = sBody PG Tryz.f17 (Tryz.f17.body.getD .skip) A_tree_Tree_Pairs [.agg #[.int .i64 x0.1, .int .u64 x0.2.1, .int .u64 x0.2.2.1, .int .u64 x0.2.2.2.1, .pointer x0.2.2.2.2.1, .pointer x0.2.2.2.2.2]] [.c .slice] K h0 := by kernel_rfl
theorem H_tree_Tree_Pairs (x0 : Int × Int × Int × Int × (Option Addr) × (Option Addr)) {K : Tup [.c .slice] → Heap → Prop} {h0 : Heap} (h : F_tree_Tree_Pairs x0 K h0) : HC PG f_tree_Tree_Pairs [.agg #[.int .i64 x0.1, .int .u64 x0.2.1, .int .u64 x0.2.2.1, .int .u64 x0.2.2.2.1, .pointer x0.2.2.2.2.1, .pointer x0.2.2.2.2.2]] [.c .slice] K h0 := HC.intro Tryz.mixed Tryz.func17 rfl Tryz.call17 (Nat.le_of_ble_eq_true rfl) ((E_tree_Tree_Pairs x0 K h0) ▸ h)
/-- quickset/quicksetlaw14.awake -/
def F_l14_awake  (K : (Bool) → Heap → Prop) (h0 : Heap) : Prop :=
  HC PG f_tree_New [.int .i64 1, .agg #[.int .u64 0, .int .u64 0, .int .u64 0]] [.agg [.int .i64, .int .u64, .int .u64, .int .u64, .ptr, .ptr], .c (.int .i64)] (fun (e1 : (Int × Int × Int × Int × (Option Addr) × (Option Addr)) × Int) h2 =>
   At (hnew h2 [.int .i64 0, .int .u64 0, .int .u64 0, .int .u64 0, .pointer none, .pointer none] t_tree_Tree) (fun h3 =>
    (WrS h3 (some (newA h2)) 0 [.int .i64 e1.1.1, .int .u64 e1.1.2.1, .int .u64 e1.1.2.2.1, .int .u64 e1.1.2.2.2.1, .pointer e1.1.2.2.2.2.1, .pointer e1.1.2.2.2.2.2] ∧
     At (hsetL h3 (newA h2) 0 [.int .i64 e1.1.1, .int .u64 e1.1.2.1, .int .u64 e1.1.2.2.1, .int .u64 e1.1.2.2.2.1, .pointer e1.1.2.2.2.2.1, .pointer e1.1.2.2.2.2.2]) (fun h4 =>
      ∃ v5 : Int, hcell h4 (adr (newA h2) 0) = some (.int .i64 v5) ∧
      ∃ v6 : Int, hcell h4 (adr (newA h2) 1) = some (.int .u64 v6) ∧
      ∃ v7 : Int, hcell h4 (adr (newA h2) 2) = some (.int .u64 v7) ∧
      ∃ v8 : Int, hcell h4 (adr (newA h2) 3) = some (.int .u64 v8) ∧
      ∃ v9 : Option Addr, hcell h4 (adr (newA h2) 4) = some (.pointer v9) ∧
      ∃ v10 : Option Addr, hcell h4 (adr (newA h2) 5) = some (.pointer v10) ∧
      HC PG f_tree_Tree_With [.agg #[.int .i64 v5, .int .u64 v6, .int .u64 v7, .int .u64 v8, .pointer v9, .pointer v10], .pointer none, .agg #[.string (⟨#[97]⟩ : ByteArray), .string (⟨#[49]⟩ : ByteArray)]] [.agg [.int .i64, .int .u64, .int .u64, .int .u64, .ptr, .ptr], .c (.int .i64)] (fun (e11 : (Int × Int × Int × Int × (Option Addr) × (Option Addr)) × Int) h12 =>
       At (hnew h12 [.int .i64 0, .int .u64 0, .int .u64 0, .int .u64 0, .pointer none, .pointer none] t_tree_Tree) (fun h13 =>
        (WrS h13 (some (newA h12)) 0 [.int .i64 e11.1.1, .int .u64 e11.1.2.1, .int .u64 e11.1.2.2.1, .int .u64 e11.1.2.2.2.1, .pointer e11.1.2.2.2.2.1, .pointer e11.1.2.2.2.2.2] ∧
         At (hsetL h13 (newA h12) 0 [.int .i64 e11.1.1, .int .u64 e11.1.2.1, .int .u64 e11.1.2.2.1, .int .u64 e11.1.2.2.2.1, .pointer e11.1.2.2.2.2.1, .pointer e11.1.2.2.2.2.2]) (fun h14 =>
          ∃ v15 : Int, hcell h14 (adr (newA h12) 0) = some (.int .i64 v15) ∧
          ∃ v16 : Int, hcell h14 (adr (newA h12) 1) = some (.int .u64 v16) ∧
          ∃ v17 : Int, hcell h14 (adr (newA h12) 2) = some (.int .u64 v17) ∧
          ∃ v18 : Int, hcell h14 (adr (newA h12) 3) = some (.int .u64 v18) ∧
          ∃ v19 : Option Addr, hcell h14 (adr (newA h12) 4) = some (.pointer v19) ∧
          ∃ v20 : Option Addr, hcell h14 (adr (newA h12) 5) = some (.pointer v20) ∧
          HC PG f_tree_Tree_Pairs [.agg #[.int .i64 v15, .int .u64 v16, .int .u64 v17, .int .u64 v18, .pointer v19, .pointer v20]] [.c .slice] (fun (e21 : SliceV) h22 =>
           CondP (e1.2 == (0 : Int)) (
            CondP (e11.2 == (0 : Int)) (
             CondP ((e21.len : Int) == (1 : Int)) (
              (((0 : Int) ≤ (0 : Int) ∧ (0 : Int) < ((e21.len : Nat) : Int)) ∧ ∃ a23 : Addr, e21.a = some a23 ∧
               ∃ v24 : ByteArray, hcell h22 (adr (adr a23 ((0 : Int).toNat * 2)) 0) = some (.string v24) ∧
               CondP (v24.toList == (⟨#[97]⟩ : ByteArray).toList) (
                ∃ v25 : Int, hcell h22 (adr (newA h2) 0) = some (.int .i64 v25) ∧
                ∃ v26 : Int, hcell h22 (adr (newA h2) 1) = some (.int .u64 v26) ∧
                ∃ v27 : Int, hcell h22 (adr (newA h2) 2) = some (.int .u64 v27) ∧
                ∃ v28 : Int, hcell h22 (adr (newA h2) 3) = some (.int .u64 v28) ∧
                ∃ v29 : Option Addr, hcell h22 (adr (newA h2) 4) = some (.pointer v29) ∧
                ∃ v30 : Option Addr, hcell h22 (adr (newA h2) 5) = some (.pointer v30) ∧
                HC PG f_tree_Tree_Len [.agg #[.int .i64 v25, .int .u64 v26, .int .u64 v27, .int .u64 v28, .pointer v29, .pointer v30]] [.c (.int .i64)] (fun (e31 : Int) h32 =>
                 CondP (e31 == (0 : Int)) (
                  ∃ v33 : Int, hcell h32 (adr (newA h12) 0) = some (.int .i64 v33) ∧
                  ∃ v34 : Int, hcell h32 (adr (newA h12) 1) = some (.int .u64 v34) ∧
                  ∃ v35 : Int, hcell h32 (adr (newA h12) 2) = some (.int .u64 v35) ∧
                  ∃ v36 : Int, hcell h32 (adr (newA h12) 3) = some (.int .u64 v36) ∧
                  ∃ v37 : Option Addr, hcell h32 (adr (newA h12) 4) = some (.pointer v37) ∧
                  ∃ v38 : Option Addr, hcell h32 (adr (newA h12) 5) = some (.pointer v38) ∧
                  HC PG f_tree_Tree_Kind [.agg #[.int .i64 v33, .int .u64 v34, .int .u64 v35, .int .u64 v36, .pointer v37, .pointer v38]] [.c (.int .i64)] (fun (e39 : Int) h40 =>
                   K (e39 == (1 : Int)) h40) h32) (
                  K false h32)) h22) (
                K false h22))) (
              K false h22)) (
             K false h22)) (
            K false h22)) h14)))) h4)))) h0
def A_l14_awake : Ann := .node (.reg [] (.nil)) (.node (.reg [1, 2] (.nil)) (.node (.reg [1, 2, 3, 4] (.nil)) (.node (.reg [1, 2, 3, 4, 5] (.nil)) (.node (.reg [0] (.nil)) (.nil)))))
theorem E_l14_awake  (K : Tup [.c .bool] → Heap → Prop) (h0 : Heap) : F_l14_awake  K h0 = sBody PG Tryz.f18 (Tryz.f18.body.getD .skip) A_l14_awake [] [.c .bool] K h0 := by kernel_rfl
theorem H_l14_awake  {K : Tup [.c .bool] → Heap → Prop} {h0 : Heap} (h : F_l14_awake  K h0) : HC PG f_l14_awake [] [.c .bool] K h0 := HC.intro Tryz.mixed Tryz.func18 rfl Tryz.call18 (Nat.le_of_ble_eq_true rfl) ((E_l14_awake  K h0) ▸ h)
/-- quickset/quicksetlaw14.made -/
def F_l14_made (x0 : Int) (x1 : Int × Int × Int) (x2 : SliceV) (K : ((Int × Int × Int × Int × (Option Addr) × (Option Addr)) × (Int × Int × Int × Int × SliceV)) → Heap → Prop) (h0 : Heap) : Prop :=
  At (hnew h0 [.int .u64 x1.1, .int .u64 x1.2.1, .int .u64 x1.2.2] t_sip_Hasher) (fun h1 =>
   At (hnew h1 [.int .i64 0, .int .u64 0, .int .u64 0, .int .u64 0, .pointer none, .pointer none] t_tree_Tree) (fun h2 =>
    At (hnew h2 [.int .i64 0, .int .u64 0, .int .u64 0, .int .u64 0, .slice none 0 0] t_r14_Tree) (fun h3 =>
     ∃ v4 : Int, hcell h3 (adr (newA h0) 0) = some (.int .u64 v4) ∧
     ∃ v5 : Int, hcell h3 (adr (newA h0) 1) = some (.int .u64 v5) ∧
     ∃ v6 : Int, hcell h3 (adr (newA h0) 2) = some (.int .u64 v6) ∧
     HC PG f_tree_New [.int .i64 x0, .agg #[.int .u64 v4, .int .u64 v5, .int .u64 v6]] [.agg [.int .i64, .int .u64, .int .u64, .int .u64, .ptr, .ptr], .c (.int .i64)] (fun (e7 : (Int × Int × Int × Int × (Option Addr) × (Option Addr)) × Int) h8 =>
      At (hnew h8 [.int .i64 0, .int .u64 0, .int .u64 0, .int .u64 0, .pointer none, .pointer none] t_tree_Tree) (fun h9 =>
       (WrS h9 (some (newA h8)) 0 [.int .i64 e7.1.1, .int .u64 e7.1.2.1, .int .u64 e7.1.2.2.1, .int .u64 e7.1.2.2.2.1, .pointer e7.1.2.2.2.2.1, .pointer e7.1.2.2.2.2.2] ∧
        At (hsetL h9 (newA h8) 0 [.int .i64 e7.1.1, .int .u64 e7.1.2.1, .int .u64 e7.1.2.2.1, .int .u64 e7.1.2.2.2.1, .pointer e7.1.2.2.2.2.1, .pointer e7.1.2.2.2.2.2]) (fun h10 =>
         ∃ v11 : Int, hcell h10 (adr (newA h0) 0) = some (.int .u64 v11) ∧
         ∃ v12 : Int, hcell h10 (adr (newA h0) 1) = some (.int .u64 v12) ∧
         ∃ v13 : Int, hcell h10 (adr (newA h0) 2) = some (.int .u64 v13) ∧
         HC PG f_l14_own [.agg #[.int .u64 v11, .int .u64 v12, .int .u64 v13]] [.agg [.int .u64, .int .u64, .int .u64]] (fun (e14 : Int × Int × Int) h15 =>
          HC PG f_r14_New [.int .i64 x0, .agg #[.int .u64 e14.1, .int .u64 e14.2.1, .int .u64 e14.2.2]] [.agg [.int .i64, .int .u64, .int .u64, .int .u64, .slice], .c (.int .i64)] (fun (e16 : (Int × Int × Int × Int × SliceV) × Int) h17 =>
           At (hnew h17 [.int .i64 0, .int .u64 0, .int .u64 0, .int .u64 0, .slice none 0 0] t_r14_Tree) (fun h18 =>
            (WrS h18 (some (newA h17)) 0 [.int .i64 e16.1.1, .int .u64 e16.1.2.1, .int .u64 e16.1.2.2.1, .int .u64 e16.1.2.2.2.1, .slice e16.1.2.2.2.2.a e16.1.2.2.2.2.len e16.1.2.2.2.2.cap] ∧
             At (hsetL h18 (newA h17) 0 [.int .i64 e16.1.1, .int .u64 e16.1.2.1, .int .u64 e16.1.2.2.1, .int .u64 e16.1.2.2.2.1, .slice e16.1.2.2.2.2.a e16.1.2.2.2.2.len e16.1.2.2.2.2.cap]) (fun h19 =>
              LoopP (fun I20 (t21 : Int) h22 => -- (29)
               CondP (decide (t21 < (x2.len : Int))) (
                Join (fun (t57 : Unit) h58 => -- 
                 I20 (IntKind.wrap .i64 (t21 + 1)) h58) (fun J23 =>
                 (((0 : Int) ≤ t21 ∧ t21 < ((x2.len : Nat) : Int)) ∧ ∃ a24 : Addr, x2.a = some a24 ∧
                  ∃ v25 : ByteArray, hcell h22 (adr (adr a24 (t21.toNat * 2)) 0) = some (.string v25) ∧
                  ∃ v26 : ByteArray, hcell h22 (adr (adr a24 (t21.toNat * 2)) 1) = some (.string v26) ∧
                  At (hnew h22 [.string (⟨#[]⟩ : ByteArray), .string (⟨#[]⟩ : ByteArray)] t_pair_Pair) (fun h27 =>
                   (WrS h27 (some (newA h22)) 0 [.string v25, .string v26] ∧
                    At (hsetL h27 (newA h22) 0 [.string v25, .string v26]) (fun h28 =>
                     CondP (decide (t21 < (25 : Int))) (
                      ∃ v29 : ByteArray, hcell h28 (adr (newA h22) 0) = some (.string v29) ∧
                      ∃ v30 : ByteArray, hcell h28 (adr (newA h22) 1) = some (.string v30) ∧
                      HC PG f_l14_long [.string v29, .int .i64 0] [.c .str] (fun (e31 : ByteArray) h32 =>
                       (hcell h32 (adr (newA h22) 1) = some (.string v30) ∧
                        HC PG f_l14_long [.string v30, .int .i64 0] [.c .str] (fun (e33 : ByteArray) h34 =>
                         (WrS h34 (some (newA h22)) 0 [.string e31, .string e33] ∧
                          At (hsetL h34 (newA h22) 0 [.string e31, .string e33]) (fun h35 =>
                           ∃ v36 : Int, hcell h35 (adr (newA h8) 0) = some (.int .i64 v36) ∧
                           ∃ v37 : Int, hcell h35 (adr (newA h8) 1) = some (.int .u64 v37) ∧
                           ∃ v38 : Int, hcell h35 (adr (newA h8) 2) = some (.int .u64 v38) ∧
                           ∃ v39 : Int, hcell h35 (adr (newA h8) 3) = some (.int .u64 v39) ∧
                           ∃ v40 : Option Addr, hcell h35 (adr (newA h8) 4) = some (.pointer v40) ∧
                           ∃ v41 : Option Addr, hcell h35 (adr (newA h8) 5) = some (.pointer v41) ∧
                           ∃ v42 : ByteArray, hcell h35 (adr (newA h22) 0) = some (.string v42) ∧
                           ∃ v43 : ByteArray, hcell h35 (adr (newA h22) 1) = some (.string v43) ∧
                           HC PG f_tree_Tree_With [.agg #[.int .i64 v36, .int .u64 v37, .int .u64 v38, .int .u64 v39, .pointer v40, .pointer v41], .pointer none, .agg #[.string v42, .string v43]] [.agg [.int .i64, .int .u64, .int .u64, .int .u64, .ptr, .ptr], .c (.int .i64)] (fun (e44 : (Int × Int × Int × Int × (Option Addr) × (Option Addr)) × Int) h45 =>
                            (WrS h45 (some (newA h8)) 0 [.int .i64 e44.1.1, .int .u64 e44.1.2.1, .int .u64 e44.1.2.2.1, .int .u64 e44.1.2.2.2.1, .pointer e44.1.2.2.2.2.1, .pointer e44.1.2.2.2.2.2] ∧
                             At (hsetL h45 (newA h8) 0 [.int .i64 e44.1.1, .int .u64 e44.1.2.1, .int .u64 e44.1.2.2.1, .int .u64 e44.1.2.2.2.1, .pointer e44.1.2.2.2.2.1, .pointer e44.1.2.2.2.2.2]) (fun h46 =>
                              ∃ v47 : Int, hcell h46 (adr (newA h17) 0) = some (.int .i64 v47) ∧
                              ∃ v48 : Int, hcell h46 (adr (newA h17) 1) = some (.int .u64 v48) ∧
                              ∃ v49 : Int, hcell h46 (adr (newA h17) 2) = some (.int .u64 v49) ∧
                              ∃ v50 : Int, hcell h46 (adr (newA h17) 3) = some (.int .u64 v50) ∧
                              ∃ v51 : SliceV, hcell h46 (adr (newA h17) 4) = some (.slice v51.a v51.len v51.cap) ∧
                              ∃ v52 : ByteArray, hcell h46 (adr (newA h22) 0) = some (.string v52) ∧
                              ∃ v53 : ByteArray, hcell h46 (adr (newA h22) 1) = some (.string v53) ∧
                              HC PG f_r14_With [.agg #[.int .i64 v47, .int .u64 v48, .int .u64 v49, .int .u64 v50, .slice v51.a v51.len v51.cap], .agg #[.string v52, .string v53]] [.agg [.int .i64, .int .u64, .int .u64, .int .u64, .slice], .c (.int .i64)] (fun (e54 : (Int × Int × Int × Int × SliceV) × Int) h55 =>
                               (WrS h55 (some (newA h17)) 0 [.int .i64 e54.1.1, .int .u64 e54.1.2.1, .int .u64 e54.1.2.2.1, .int .u64 e54.1.2.2.2.1, .slice e54.1.2.2.2.2.a e54.1.2.2.2.2.len e54.1.2.2.2.2.cap] ∧
                                At (hsetL h55 (newA h17) 0 [.int .i64 e54.1.1, .int .u64 e54.1.2.1, .int .u64 e54.1.2.2.1, .int .u64 e54.1.2.2.2.1, .slice e54.1.2.2.2.2.a e54.1.2.2.2.2.len e54.1.2.2.2.2.cap]) (fun h56 =>
                                 J23 () h56))) h46))) h35))) h32)) h28) (
                      J23 () h28))))))) (
                ∃ v59 : Int, hcell h22 (adr (newA h8) 0) = some (.int .i64 v59) ∧
                ∃ v60 : Int, hcell h22 (adr (newA h8) 1) = some (.int .u64 v60) ∧
                ∃ v61 : Int, hcell h22 (adr (newA h8) 2) = some (.int .u64 v61) ∧
                ∃ v62 : Int, hcell h22 (adr (newA h8) 3) = some (.int .u64 v62) ∧
                ∃ v63 : Option Addr, hcell h22 (adr (newA h8) 4) = some (.pointer v63) ∧
                ∃ v64 : Option Addr, hcell h22 (adr (newA h8) 5) = some (.pointer v64) ∧
                ∃ v65 : Int, hcell h22 (adr (newA h17) 0) = some (.int .i64 v65) ∧
                ∃ v66 : Int, hcell h22 (adr (newA h17) 1) = some (.int .u64 v66) ∧
                ∃ v67 : Int, hcell h22 (adr (newA h17) 2) = some (.int .u64 v67) ∧
                ∃ v68 : Int, hcell h22 (adr (newA h17) 3) = some (.int .u64 v68) ∧
                ∃ v69 : SliceV, hcell h22 (adr (newA h17) 4) = some (.slice v69.a v69.len v69.cap) ∧
                (WrS h22 (some (newA h1)) 0 [.int .i64 v59, .int .u64 v60, .int .u64 v61, .int .u64 v62, .pointer v63, .pointer v64] ∧
                 At (hsetL h22 (newA h1) 0 [.int .i64 v59, .int .u64 v60, .int .u64 v61, .int .u64 v62, .pointer v63, .pointer v64]) (fun h70 =>
                  ((hcell h70 (adr (newA h17) 0) = some (.int .i64 v65) ∧ hcell h70 (adr (newA h17) 1) = some (.int .u64 v66) ∧ hcell h70 (adr (newA h17) 2) = some (.int .u64 v67) ∧ hcell h70 (adr (newA h17) 3) = some (.int .u64 v68) ∧ hcell h70 (adr (newA h17) 4) = some (.slice v69.a v69.len v69.cap)) ∧
                   (WrS h70 (some (newA h2)) 0 [.int .i64 v65, .int .u64 v66, .int .u64 v67, .int .u64 v68, .slice v69.a v69.len v69.cap] ∧
                    At (hsetL h70 (newA h2) 0 [.int .i64 v65, .int .u64 v66, .int .u64 v67, .int .u64 v68, .slice v69.a v69.len v69.cap]) (fun h71 =>
                     ∃ v72 : Int, hcell h71 (adr (newA h1) 0) = some (.int .i64 v72) ∧
                     ∃ v73 : Int, hcell h71 (adr (newA h1) 1) = some (.int .u64 v73) ∧
                     ∃ v74 : Int, hcell h71 (adr (newA h1) 2) = some (.int .u64 v74) ∧
                     ∃ v75 : Int, hcell h71 (adr (newA h1) 3) = some (.int .u64 v75) ∧
                     ∃ v76 : Option Addr, hcell h71 (adr (newA h1) 4) = some (.pointer v76) ∧
                     ∃ v77 : Option Addr, hcell h71 (adr (newA h1) 5) = some (.pointer v77) ∧
                     ∃ v78 : Int, hcell h71 (adr (newA h2) 0) = some (.int .i64 v78) ∧
                     ∃ v79 : Int, hcell h71 (adr (newA h2) 1) = some (.int .u64 v79) ∧
                     ∃ v80 : Int, hcell h71 (adr (newA h2) 2) = some (.int .u64 v80) ∧
                     ∃ v81 : Int, hcell h71 (adr (newA h2) 3) = some (.int .u64 v81) ∧
                     ∃ v82 : SliceV, hcell h71 (adr (newA h2) 4) = some (.slice v82.a v82.len v82.cap) ∧
                     K ((v72, v73, v74, v75, v76, v77), (v78, v79, v80, v81, v82)) h71))))))) 0 h19)))) h15) h10)))) h3)))
def A_l14_made : Ann := .node (.reg [0, 2, 4, 6, 7] (.nil)) (.node (.reg [0, 2, 4, 6, 7, 8] (.nil)) (.node (.reg [2, 6, 7, 8, 10] (.nil)) (.node (.node (.reg [6, 7, 8, 10, 27, 28, 29] (.nil)) (.loop [6, 7, 8, 10, 27, 28] [(29, .c (.int .i64))] (.node (.reg [6, 7, 8, 10, 27, 28, 29, 30] (.nil)) (.node (.nil) (.join [6, 7, 8, 10, 27, 28, 29] [] (.node (.reg [6, 7, 8, 10, 12, 13, 27, 28, 29] (.nil)) (.node (.reg [6, 7, 8, 10, 13, 27, 28, 29, 35] (.nil)) (.node (.node (.reg [6, 7, 8, 10, 13, 27, 28, 29] (.draw [.mk 0 255 8192 68719476736, .mk 1 254 68719476736 137438953472, .mk 2 253 137438953472 274877906944, .mk 0 255 8192 549755813888, .mk 8 247 549755813888 1099511627776, .mk 20 239 1099511627776 2199023255552, .mk 36 219 2473901162496 4398046511104, .mk 127 191 4398046519296 0] (.take 0 (.take 1 (.take 3 (.take 4 (.all (.last 2 (.all (.last 5 (.all (.last 6 (.all (.last 7 (.done))))))))))))))) (.node (.reg [6, 7, 8, 10, 13, 27, 28, 29] (.nil)) (.reg [6, 7, 8, 10, 27, 28, 29] (.nil)))) (.nil)))) (.reg [6, 7, 8, 10, 27, 28, 29] (.nil))))))) (.node (.reg [6, 7] (.draw [.mk 0 15 256 72057594037927936, .mk 0 15 1024 144115188075855872, .mk 1 14 72057594037928000 0, .mk 7 13 144115188075856000 0] (.take 0 (.take 1 (.all (.last 2 (.all (.last 3 (.done))))))))) (.nil)))))
theorem E_l14_made (x0 : Int) (x1 : Int × Int × Int) (x2 : SliceV) (K : Tup [.agg [.int .i64, .int .u64, .int .u64, .int .u64, .ptr, .ptr], .agg [.int .i64, .int .u64, .int .u64, .int .u64, .slice]] → Heap → Prop) (h0 : Heap) : F_l14_made x0 x1 x2 K h0 = sBody PG Tryz.f19 (Tryz.f19.body.getD .skip) A_l14_made [.int .i64 x0, .agg #[.int .u64 x1.1, .int .u64 x1.2.1, .int .u64 x1.2.2], .slice x2.a x2.len x2.cap] [.agg [.int .i64, .int .u64, .int .u64, .int .u64, .ptr, .ptr], .agg [.int .i64, .int .u64, .int .u64, .int .u64, .slice]] K h0 := by kernel_rfl
theorem H_l14_made (x0 : Int) (x1 : Int × Int × Int) (x2 : SliceV) {K : Tup [.agg [.int .i64, .int .u64, .int .u64, .int .u64, .ptr, .ptr], .agg [.int .i64, .int .u64, .int .u64, .int .u64, .slice]] → Heap → Prop} {h0 : Heap} (h : F_l14_made x0 x1 x2 K h0) : HC PG f_l14_made [.int .i64 x0, .agg #[.int .u64 x1.1, .int .u64 x1.2.1, .int .u64 x1.2.2], .slice x2.a x2.len x2.cap] [.agg [.int .i64, .int .u64, .int .u64, .int .u64, .ptr, .ptr], .agg [.int .i64, .int .u64, .int .u64, .int .u64, .slice]] K h0 := HC.intro Tryz.mixed Tryz.func19 rfl Tryz.call19 (Nat.le_of_ble_eq_true rfl) ((E_l14_made x0 x1 x2 K h0) ▸ h)
/-- quickset/tree.Like -/
def F_tree_Like (x0 : Int × Int × Int × Int × (Option Addr) × (Option Addr)) (x1 : Int × Int × Int × Int × (Option Addr) × (Option Addr)) (K : (Bool) → Heap → Prop) (h0 : Heap) : Prop :=
  At (hnew h0 [.int .i64 x0.1, .int .u64 x0.2.1, .int .u64 x0.2.2.1, .int .u64 x0.2.2.2.1, .pointer x0.2.2.2.2.1, .pointer x0.2.2.2.2.2] t_tree_Tree) (fun h1 =>
   At (hnew h1 [.int .i64 x1.1, .int .u64 x1.2.1, .int .u64 x1.2.2.1, .int .u64 x1.2.2.2.1, .pointer x1.2.2.2.2.1, .pointer x1.2.2.2.2.2] t_tree_Tree) (fun h2 =>
    ∃ v3 : Int, hcell h2 (adr (newA h0) 0) = some (.int .i64 v3) ∧
    ∃ v4 : Int, hcell h2 (adr (newA h1) 0) = some (.int .i64 v4) ∧
    CondP (v3 == v4) (
     ∃ v5 : Int, hcell h2 (adr (adr (newA h0) 1) 0) = some (.int .u64 v5) ∧
     ∃ v6 : Int, hcell h2 (adr (adr (newA h0) 1) 1) = some (.int .u64 v6) ∧
     ∃ v7 : Int, hcell h2 (adr (adr (newA h0) 1) 2) = some (.int .u64 v7) ∧
     ∃ v8 : Int, hcell h2 (adr (adr (newA h1) 1) 0) = some (.int .u64 v8) ∧
     ∃ v9 : Int, hcell h2 (adr (adr (newA h1) 1) 1) = some (.int .u64 v9) ∧
     ∃ v10 : Int, hcell h2 (adr (adr (newA h1) 1) 2) = some (.int .u64 v10) ∧
     K ((((v5 == v8) && ((v6 == v9) && true))) && ((v7 == v10) && true)) h2) (
     K false h2)))
def A_tree_Like : Ann := .node (.reg [2, 3] (.nil)) (.node (.reg [4] (.nil)) (.nil))
theorem E_tree_Like (x0 : Int × Int × Int × Int × (Option Addr) × (Option Addr)) (x1 : Int × Int × Int × Int × (Option Addr) × (Option Addr)) (K : Tup [.c .bool] → Heap → Prop) (h0 : Heap) : F_tree_Like x0 x1 K h0 = sBody PG Tryz.f20 (Tryz.f20.body.getD .skip) A_tree_Like [.agg #[.int .i64 x0.1, .int .u64 x0.2.1, .int .u64 x0.2.2.1, .int .u64 x0.2.2.2.1, .pointer x0.2.2.2.2.1, .pointer x0.2.2.2.2.2], .agg #[.int .i64 x1.1, .int .u64 x1.2.1, .int .u64 x1.2.2.1, .int .u64 x1.2.2.2.1, .pointer x1.2.2.2.2.1, .pointer x1.2.2.2.2.2]] [.c .bool] K h0 := by kernel_rfl
theorem H_tree_Like (x0 : Int × Int × Int × Int × (Option Addr) × (Option Addr)) (x1 : Int × Int × Int × Int × (Option Addr) × (Option Addr)) {K : Tup [.c .bool] → Heap → Prop} {h0 : Heap} (h : F_tree_Like x0 x1 K h0) : HC PG f_tree_Like [.agg #[.int .i64 x0.1, .int .u64 x0.2.1, .int .u64 x0.2.2.1, .int .u64 x0.2.2.2.1, .pointer x0.2.2.2.2.1, .pointer x0.2.2.2.2.2], .agg #[.int .i64 x1.1, .int .u64 x1.2.1, .int .u64 x1.2.2.1, .int .u64 x1.2.2.2.1, .pointer x1.2.2.2.2.1, .pointer x1.2.2.2.2.2]] [.c .bool] K h0 := HC.intro Tryz.mixed Tryz.func20 rfl Tryz.call20 (Nat.le_of_ble_eq_true rfl) ((E_tree_Like x0 x1 K h0) ▸ h)
/-- quickset/quicksetref14.Like -/
def F_r14_Like (x0 : Int × Int × Int × Int × SliceV) (x1 : Int × Int × Int × Int × SliceV) (K : (Bool) → Heap → Prop) (h0 : Heap) : Prop :=
  At (hnew h0 [.int .i64 x0.1, .int .u64 x0.2.1, .int .u64 x0.2.2.1, .int .u64 x0.2.2.2.1, .slice x0.2.2.2.2.a x0.2.2.2.2.len x0.2.2.2.2.cap] t_r14_Tree) (fun h1 =>
   At (hnew h1 [.int .i64 x1.1, .int .u64 x1.2.1, .int .u64 x1.2.2.1, .int .u64 x1.2.2.2.1, .slice x1.2.2.2.2.a x1.2.2.2.2.len x1.2.2.2.2.cap] t_r14_Tree) (fun h2 =>
    ∃ v3 : Int, hcell h2 (adr (newA h0) 0) = some (.int .i64 v3) ∧
    ∃ v4 : Int, hcell h2 (adr (newA h1) 0) = some (.int .i64 v4) ∧
    CondP (v3 == v4) (
     ∃ v5 : Int, hcell h2 (adr (adr (newA h0) 1) 0) = some (.int .u64 v5) ∧
     ∃ v6 : Int, hcell h2 (adr (adr (newA h0) 1) 1) = some (.int .u64 v6) ∧
     ∃ v7 : Int, hcell h2 (adr (adr (newA h0) 1) 2) = some (.int .u64 v7) ∧
     ∃ v8 : Int, hcell h2 (adr (adr (newA h1) 1) 0) = some (.int .u64 v8) ∧
     ∃ v9 : Int, hcell h2 (adr (adr (newA h1) 1) 1) = some (.int .u64 v9) ∧
     ∃ v10 : Int, hcell h2 (adr (adr (newA h1) 1) 2) = some (.int .u64 v10) ∧
     K ((v5 == v8) && ((v6 == v9) && ((v7 == v10) && true))) h2) (
     K false h2)))
def A_r14_Like : Ann := .node (.reg [2, 3] (.nil)) (.node (.reg [4] (.nil)) (.nil))
theorem E_r14_Like (x0 : Int × Int × Int × Int × SliceV) (x1 : Int × Int × Int × Int × SliceV) (K : Tup [.c .bool] → Heap → Prop) (h0 : Heap) : F_r14_Like x0 x1 K h0 = sBody PG Tryz.f21 (Tryz.f21.body.getD .skip) A_r14_Like [.agg #[.int .i64 x0.1, .int .u64 x0.2.1, .int .u64 x0.2.2.1, .int .u64 x0.2.2.2.1, .slice x0.2.2.2.2.a x0.2.2.2.2.len x0.2.2.2.2.cap], .agg #[.int .i64 x1.1, .int .u64 x1.2.1, .int .u64 x1.2.2.1, .int .u64 x1.2.2.2.1, .slice x1.2.2.2.2.a x1.2.2.2.2.len x1.2.2.2.2.cap]] [.c .bool] K h0 := by kernel_rfl
theorem H_r14_Like (x0 : Int × Int × Int × Int × SliceV) (x1 : Int × Int × Int × Int × SliceV) {K : Tup [.c .bool] → Heap → Prop} {h0 : Heap} (h : F_r14_Like x0 x1 K h0) : HC PG f_r14_Like [.agg #[.int .i64 x0.1, .int .u64 x0.2.1, .int .u64 x0.2.2.1, .int .u64 x0.2.2.2.1, .slice x0.2.2.2.2.a x0.2.2.2.2.len x0.2.2.2.2.cap], .agg #[.int .i64 x1.1, .int .u64 x1.2.1, .int .u64 x1.2.2.1, .int .u64 x1.2.2.2.1, .slice x1.2.2.2.2.a x1.2.2.2.2.len x1.2.2.2.2.cap]] [.c .bool] K h0 := HC.intro Tryz.mixed Tryz.func21 rfl Tryz.call21 (Nat.le_of_ble_eq_true rfl) ((E_r14_Like x0 x1 K h0) ▸ h)
/-- quickset/quicksetref14.Same -/
def F_r14_Same (x0 : Int × Int × Int × Int × SliceV) (x1 : Int × Int × Int × Int × SliceV) (K : (Bool) → Heap → Prop) (h0 : Heap) : Prop :=
  At (hnew h0 [.int .i64 x0.1, .int .u64 x0.2.1, .int .u64 x0.2.2.1, .int .u64 x0.2.2.2.1, .slice x0.2.2.2.2.a x0.2.2.2.2.len x0.2.2.2.2.cap] t_r14_Tree) (fun h1 =>
   At (hnew h1 [.int .i64 x1.1, .int .u64 x1.2.1, .int .u64 x1.2.2.1, .int .u64 x1.2.2.2.1, .slice x1.2.2.2.2.a x1.2.2.2.2.len x1.2.2.2.2.cap] t_r14_Tree) (fun h2 =>
    ∃ v3 : Int, hcell h2 (adr (newA h0) 0) = some (.int .i64 v3) ∧
    ∃ v4 : Int, hcell h2 (adr (newA h0) 1) = some (.int .u64 v4) ∧
    ∃ v5 : Int, hcell h2 (adr (newA h0) 2) = some (.int .u64 v5) ∧
    ∃ v6 : Int, hcell h2 (adr (newA h0) 3) = some (.int .u64 v6) ∧
    ∃ v7 : SliceV, hcell h2 (adr (newA h0) 4) = some (.slice v7.a v7.len v7.cap) ∧
    ∃ v8 : Int, hcell h2 (adr (newA h1) 0) = some (.int .i64 v8) ∧
    ∃ v9 : Int, hcell h2 (adr (newA h1) 1) = some (.int .u64 v9) ∧
    ∃ v10 : Int, hcell h2 (adr (newA h1) 2) = some (.int .u64 v10) ∧
    ∃ v11 : Int, hcell h2 (adr (newA h1) 3) = some (.int .u64 v11) ∧
    ∃ v12 : SliceV, hcell h2 (adr (newA h1) 4) = some (.slice v12.a v12.len v12.cap) ∧
    HC PG f_r14_Like [.agg #[.int .i64 v3, .int .u64 v4, .int .u64 v5, .int .u64 v6, .slice v7.a v7.len v7.cap], .agg #[.int .i64 v8, .int .u64 v9, .int .u64 v10, .int .u64 v11, .slice v12.a v12.len v12.cap]] [.c .bool] (fun (e13 : Bool) h14 =>
     CondP e13 (
      ∃ v15 : SliceV, hcell h14 (adr (newA h0) 4) = some (.slice v15.a v15.len v15.cap) ∧
      ∃ v16 : SliceV, hcell h14 (adr (newA h1) 4) = some (.slice v16.a v16.len v16.cap) ∧
      HC PG f_r03_Same [.slice v15.a v15.len v15.cap, .slice v16.a v16.len v16.cap] [.c .bool] (fun (e17 : Bool) h18 =>
       K e17 h18) h14) (
      K false h14)) h2))
def A_r14_Same : Ann := .node (.reg [2, 3] (.nil)) (.node (.reg [4] (.nil)) (.nil))
theorem E_r14_Same (x0 : Int × Int × Int × Int × SliceV) (x1 : Int × Int × Int × Int × SliceV) (K : Tup [.c .bool] → Heap → Prop) (h0 : Heap) : F_r14_Same x0 x1 K h0 = sBody PG Tryz.f22 (Tryz.f22.body.getD .skip) A_r14_Same [.agg #[.int .i64 x0.1, .int .u64 x0.2.1, .int .u64 x0.2.2.1, .int .u64 x0.2.2.2.1, .slice x0.2.2.2.2.a x0.2.2.2.2.len x0.2.2.2.2.cap], .agg #[.int .i64 x1.1, .int .u64 x1.2.1, .int .u64 x1.2.2.1, .int .u64 x1.2.2.2.1, .slice x1.2.2.2.2.a x1.2.2.2.2.len x1.2.2.2.2.cap]] [.c .bool] K h0 := by kernel_rfl
theorem H_r14_Same (x0 : Int × Int × Int × Int × SliceV) (x1 : Int × Int × Int × Int × SliceV) {K : Tup [.c .bool] → Heap → Prop} {h0 : Heap} (h : F_r14_Same x0 x1 K h0) : HC PG f_r14_Same [.agg #[.int .i64 x0.1, .int .u64 x0.2.1, .int .u64 x0.2.2.1, .int .u64 x0.2.2.2.1, .slice x0.2.2.2.2.a x0.2.2.2.2.len x0.2.2.2.2.cap], .agg #[.int .i64 x1.1, .int .u64 x1.2.1, .int .u64 x1.2.2.1, .int .u64 x1.2.2.2.1, .slice x1.2.2.2.2.a x1.2.2.2.2.len x1.2.2.2.2.cap]] [.c .bool] K h0 := HC.intro Tryz.mixed Tryz.func22 rfl Tryz.call22 (Nat.le_of_ble_eq_true rfl) ((E_r14_Same x0 x1 K h0) ▸ h)
/-- quickset/tree.One -/
def F_tree_One (x0 : Int × Int × Int × Int × (Option Addr) × (Option Addr)) (x1 : Int × Int × Int × Int × (Option Addr) × (Option Addr)) (K : (Bool) → Heap → Prop) (h0 : Heap) : Prop :=
  At (hnew h0 [.int .i64 x0.1, .int .u64 x0.2.1, .int .u64 x0.2.2.1, .int .u64 x0.2.2.2.1, .pointer x0.2.2.2.2.1, .pointer x0.2.2.2.2.2] t_tree_Tree) (fun h1 =>
   At (hnew h1 [.int .i64 x1.1, .int .u64 x1.2.1, .int .u64 x1.2.2.1, .int .u64 x1.2.2.2.1, .pointer x1.2.2.2.2.1, .pointer x1.2.2.2.2.2] t_tree_Tree) (fun h2 =>
    ∃ v3 : Int, hcell h2 (adr (newA h0) 0) = some (.int .i64 v3) ∧
    ∃ v4 : Int, hcell h2 (adr (newA h0) 1) = some (.int .u64 v4) ∧
    ∃ v5 : Int, hcell h2 (adr (newA h0) 2) = some (.int .u64 v5) ∧
    ∃ v6 : Int, hcell h2 (adr (newA h0) 3) = some (.int .u64 v6) ∧
    ∃ v7 : Option Addr, hcell h2 (adr (newA h0) 4) = some (.pointer v7) ∧
    ∃ v8 : Option Addr, hcell h2 (adr (newA h0) 5) = some (.pointer v8) ∧
    ∃ v9 : Int, hcell h2 (adr (newA h1) 0) = some (.int .i64 v9) ∧
    ∃ v10 : Int, hcell h2 (adr (newA h1) 1) = some (.int .u64 v10) ∧
    ∃ v11 : Int, hcell h2 (adr (newA h1) 2) = some (.int .u64 v11) ∧
    ∃ v12 : Int, hcell h2 (adr (newA h1) 3) = some (.int .u64 v12) ∧
    ∃ v13 : Option Addr, hcell h2 (adr (newA h1) 4) = some (.pointer v13) ∧
    ∃ v14 : Option Addr, hcell h2 (adr (newA h1) 5) = some (.pointer v14) ∧
    (plainL h2 [(v7, v13), (v8, v14)] ∧
     K ((v3 == v9) && ((((((v4 == v10) && ((v5 == v11) && true))) && ((v6 == v12) && true))) && ((v7 == v13) && ((v8 == v14) && true)))) h2)))
def A_tree_One : Ann := .node (.reg [2, 3] (.nil)) (.node (.reg [4] (.nil)) (.nil))
theorem E_tree_One (x0 : Int × Int × Int × Int × (Option Addr) × (Option Addr)) (x1 : Int × Int × Int × Int × (Option Addr) × (Option Addr)) (K : Tup [.c .bool] → Heap → Prop) (h0 : Heap) : F_tree_One x0 x1 K h0 = sBody PG Tryz.f23 (Tryz.f23.body.getD .skip) A_tree_One [.agg #[.int .i64 x0.1, .int .u64 x0.2.1, .int .u64 x0.2.2.1, .int .u64 x0.2.2.2.1, .pointer x0.2.2.2.2.1, .pointer x0.2.2.2.2.2], .agg #[.int .i64 x1.1, .int .u64 x1.2.1, .int .u64 x1.2.2.1, .int .u64 x1.2.2.2.1, .pointer x1.2.2.2.2.1, .pointer x1.2.2.2.2.2]] [.c .bool] K h0 := by kernel_rfl
theorem H_tree_One (x0 : Int × Int × Int × Int × (Option Addr) × (Option Addr)) (x1 : Int × Int × Int × Int × (Option Addr) × (Option Addr)) {K : Tup [.c .bool] → Heap → Prop} {h0 : Heap} (h : F_tree_One x0 x1 K h0) : HC PG f_tree_One [.agg #[.int .i64 x0.1, .int .u64 x0.2.1, .int .u64 x0.2.2.1, .int .u64 x0.2.2.2.1, .pointer x0.2.2.2.2.1, .pointer x0.2.2.2.2.2], .agg #[.int .i64 x1.1, .int .u64 x1.2.1, .int .u64 x1.2.2.1, .int .u64 x1.2.2.2.1, .pointer x1.2.2.2.2.1, .pointer x1.2.2.2.2.2]] [.c .bool] K h0 := HC.intro Tryz.mixed Tryz.func23 rfl Tryz.call23 (Nat.le_of_ble_eq_true rfl) ((E_tree_One x0 x1 K h0) ▸ h)
/-- quickset/quicksetlaw14.long -/
def F_l14_long (x0 : ByteArray) (x1 : Int) (K : (ByteArray) → Heap → Prop) (h0 : Heap) : Prop :=
  (((0 : Int) ≤ (if 30 < (x0.size : Int) then 30 else (x0.size : Int)) ∧ (if 30 < (x0.size : Int) then 30 else (x0.size : Int)) ≤ ((x0.size : Nat) : Int)) ∧
   Bd (x0.extract 0 ((if 30 < (x0.size : Int) then 30 else (x0.size : Int)).toNat) : ByteArray) (fun s1 =>
    CondP (decide (x1 > (0 : Int))) (
     (((0 : Int) ≤ x1 ∧ x1 ≤ x1 ∧ x1 ≤ 9223372036854775807 ∧ 1 * x1 ≤ 2 ^ 48) ∧
      At (hnew h0 (zrow x1.toNat [.int .u8 0]) t_u8) (fun h2 =>
       ∃ s3 : ByteArray, SRow h2 (some (newA h0)) x1.toNat (byteVals s3) ∧
       (((s1.size + s3.size : Nat) : Int) ≤ 9223372036854775807 ∧
        K (s1 ++ s3) h2)))) (
     K s1 h0)))
def A_l14_long : Ann := .node (.reg [0, 1] (.nil)) (.node (.reg [0, 1] (.nil)) (.node (.node (.reg [0, 1, 11] (.nil)) (.node (.reg [0] (.nil)) (.nil))) (.node (.reg [4] (.nil)) (.nil))))
theorem E_l14_long (x0 : ByteArray) (x1 : Int) (K : Tup [.c .str] → Heap → Prop) (h0 : Heap) : F_l14_long x0 x1 K h0 = sBody PG Tryz.f24 (Tryz.f24.body.getD .skip) A_l14_long [.string x0, .int .i64 x1] [.c .str] K h0 := by kernel_rfl
theorem H_l14_long (x0 : ByteArray) (x1 : Int) {K : Tup [.c .str] → Heap → Prop} {h0 : Heap} (h : F_l14_long x0 x1 K h0) : HC PG f_l14_long [.string x0, .int .i64 x1] [.c .str] K h0 := HC.intro Tryz.mixed Tryz.func24 rfl Tryz.call24 (Nat.le_of_ble_eq_true rfl) ((E_l14_long x0 x1 K h0) ▸ h)
/-- (quickset/tree.Tree).With -/
def F_tree_Tree_With (x0 : Int × Int × Int × Int × (Option Addr) × (Option Addr)) (x1 : Option Addr) (x2 : ByteArray × ByteArray) (K : ((Int × Int × Int × Int × (Option Addr) × (Option Addr)) × Int) → Heap → Prop) (h0 : Heap) : Prop :=
  At (hnew h0 [.int .i64 x0.1, .int .u64 x0.2.1, .int .u64 x0.2.2.1, .int .u64 x0.2.2.2.1, .pointer x0.2.2.2.2.1, .pointer x0.2.2.2.2.2] t_tree_Tree) (fun h1 =>
   At (hnew h1 [.string x2.1, .string x2.2] t_pair_Pair) (fun h2 =>
    At (hnew h2 [.int .i64 0, .int .u64 0, .int .u64 0, .int .u64 0, .pointer none, .pointer none] t_tree_Tree) (fun h3 =>
     ∃ v4 : ByteArray, hcell h3 (adr (newA h1) 0) = some (.string v4) ∧
     ∃ v5 : ByteArray, hcell h3 (adr (newA h1) 1) = some (.string v5) ∧
     HC PG f_pair_Right [.string v4, .string v5] [.c (.int .i64)] (fun (e6 : Int) h7 =>
      CondP (e6 != (0 : Int)) (
       ∃ v8 : Int, hcell h7 (adr (newA h0) 0) = some (.int .i64 v8) ∧
       ∃ v9 : Int, hcell h7 (adr (newA h0) 1) = some (.int .u64 v9) ∧
       ∃ v10 : Int, hcell h7 (adr (newA h0) 2) = some (.int .u64 v10) ∧
       ∃ v11 : Int, hcell h7 (adr (newA h0) 3) = some (.int .u64 v11) ∧
       ∃ v12 : Option Addr, hcell h7 (adr (newA h0) 4) = some (.pointer v12) ∧
       ∃ v13 : Option Addr, hcell h7 (adr (newA h0) 5) = some (.pointer v13) ∧
       (WrS h7 (some (newA h2)) 0 [.int .i64 v8, .int .u64 v9, .int .u64 v10, .int .u64 v11, .pointer v12, .pointer v13] ∧
        At (hsetL h7 (newA h2) 0 [.int .i64 v8, .int .u64 v9, .int .u64 v10, .int .u64 v11, .pointer v12, .pointer v13]) (fun h14 =>
         ∃ v15 : Int, hcell h14 (adr (newA h2) 0) = some (.int .i64 v15) ∧
         ∃ v16 : Int, hcell h14 (adr (newA h2) 1) = some (.int .u64 v16) ∧
         ∃ v17 : Int, hcell h14 (adr (newA h2) 2) = some (.int .u64 v17) ∧
         ∃ v18 : Int, hcell h14 (adr (newA h2) 3) = some (.int .u64 v18) ∧
         ∃ v19 : Option Addr, hcell h14 (adr (newA h2) 4) = some (.pointer v19) ∧
         ∃ v20 : Option Addr, hcell h14 (adr (newA h2) 5) = some (.pointer v20) ∧
         K ((v15, v16, v17, v18, v19, v20), e6) h14))) (
       ∃ v21 : Int, hcell h7 (adr (newA h0) 0) = some (.int .i64 v21) ∧
       CondP (v21 == (1 : Int)) (
        ∃ v22 : Option Addr, hcell h7 (adr (newA h0) 5) = some (.pointer v22) ∧
        ∃ v23 : ByteArray, hcell h7 (adr (newA h1) 0) = some (.string v23) ∧
        ∃ v24 : ByteArray, hcell h7 (adr (newA h1) 1) = some (.string v24) ∧
        HC PG f_radix_Put [.pointer x1, .pointer v22, .agg #[.string v23, .string v24]] [.c .ptr, .c .bool] (fun (e25 : (Option Addr) × Bool) h26 =>
         (Wr h26 (adr (newA h0) 5) ∧
          At (hset h26 (adr (newA h0) 5) (.pointer e25.1)) (fun h27 =>
           ∃ v28 : Int, hcell h27 (adr (newA h0) 0) = some (.int .i64 v28) ∧
           ∃ v29 : Int, hcell h27 (adr (newA h0) 1) = some (.int .u64 v29) ∧
           ∃ v30 : Int, hcell h27 (adr (newA h0) 2) = some (.int .u64 v30) ∧
           ∃ v31 : Int, hcell h27 (adr (newA h0) 3) = some (.int .u64 v31) ∧
           ∃ v32 : Option Addr, hcell h27 (adr (newA h0) 4) = some (.pointer v32) ∧
           ∃ v33 : Option Addr, hcell h27 (adr (newA h0) 5) = some (.pointer v33) ∧
           (WrS h27 (some (newA h2)) 0 [.int .i64 v28, .int .u64 v29, .int .u64 v30, .int .u64 v31, .pointer v32, .pointer v33] ∧
            At (hsetL h27 (newA h2) 0 [.int .i64 v28, .int .u64 v29, .int .u64 v30, .int .u64 v31, .pointer v32, .pointer v33]) (fun h34 =>
             ∃ v35 : Int, hcell h34 (adr (newA h2) 0) = some (.int .i64 v35) ∧
             ∃ v36 : Int, hcell h34 (adr (newA h2) 1) = some (.int .u64 v36) ∧
             ∃ v37 : Int, hcell h34 (adr (newA h2) 2) = some (.int .u64 v37) ∧
             ∃ v38 : Int, hcell h34 (adr (newA h2) 3) = some (.int .u64 v38) ∧
             ∃ v39 : Option Addr, hcell h34 (adr (newA h2) 4) = some (.pointer v39) ∧
             ∃ v40 : Option Addr, hcell h34 (adr (newA h2) 5) = some (.pointer v40) ∧
             K ((v35, v36, v37, v38, v39, v40), 0) h34))))) h7) (
        ∃ v41 : Int, hcell h7 (adr (adr (newA h0) 1) 0) = some (.int .u64 v41) ∧
        ∃ v42 : Int, hcell h7 (adr (adr (newA h0) 1) 1) = some (.int .u64 v42) ∧
        ∃ v43 : Int, hcell h7 (adr (adr (newA h0) 1) 2) = some (.int .u64 v43) ∧
        ∃ v44 : Option Addr, hcell h7 (adr (newA h0) 4) = some (.pointer v44) ∧
        ∃ v45 : ByteArray, hcell h7 (adr (newA h1) 0) = some (.string v45) ∧
        ∃ v46 : ByteArray, hcell h7 (adr (newA h1) 1) = some (.string v46) ∧
        HC PG f_champ_Put [.agg #[.int .u64 v41, .int .u64 v42, .int .u64 v43], .pointer x1, .pointer v44, .agg #[.string v45, .string v46]] [.c .ptr, .c .bool] (fun (e47 : (Option Addr) × Bool) h48 =>
         (Wr h48 (adr (newA h0) 4) ∧
          At (hset h48 (adr (newA h0) 4) (.pointer e47.1)) (fun h49 =>
           ∃ v50 : Int, hcell h49 (adr (newA h0) 0) = some (.int .i64 v50) ∧
           ∃ v51 : Int, hcell h49 (adr (newA h0) 1) = some (.int .u64 v51) ∧
           ∃ v52 : Int, hcell h49 (adr (newA h0) 2) = some (.int .u64 v52) ∧
           ∃ v53 : Int, hcell h49 (adr (newA h0) 3) = some (.int .u64 v53) ∧
           ∃ v54 : Option Addr, hcell h49 (adr (newA h0) 4) = some (.pointer v54) ∧
           ∃ v55 : Option Addr, hcell h49 (adr (newA h0) 5) = some (.pointer v55) ∧
           (WrS h49 (some (newA h2)) 0 [.int .i64 v50, .int .u64 v51, .int .u64 v52, .int .u64 v53, .pointer v54, .pointer v55] ∧
            At (hsetL h49 (newA h2) 0 [.int .i64 v50, .int .u64 v51, .int .u64 v52, .int .u64 v53, .pointer v54, .pointer v55]) (fun h56 =>
             ∃ v57 : Int, hcell h56 (adr (newA h2) 0) = some (.int .i64 v57) ∧
             ∃ v58 : Int, hcell h56 (adr (newA h2) 1) = some (.int .u64 v58) ∧
             ∃ v59 : Int, hcell h56 (adr (newA h2) 2) = some (.int .u64 v59) ∧
             ∃ v60 : Int, hcell h56 (adr (newA h2) 3) = some (.int .u64 v60) ∧
             ∃ v61 : Option Addr, hcell h56 (adr (newA h2) 4) = some (.pointer v61) ∧
             ∃ v62 : Option Addr, hcell h56 (adr (newA h2) 5) = some (.pointer v62) ∧
             K ((v57, v58, v59, v60, v61, v62), 0) h56))))) h7))) h3)))
def A_tree_Tree_With : Ann := .node (.reg [1, 3, 5, 6] (.nil)) (.node (.node (.reg [1, 3, 5, 6, 8] (.nil)) (.node (.reg [1, 3, 5, 6, 8, 15] (.nil)) (.node (.node (.reg [6, 7] (.nil)) (.nil)) (.nil)))) (.node (.node (.reg [1, 3, 5, 6, 20] (.nil)) (.node (.node (.reg [3, 6] (.nil)) (.node (.reg [6, 7] (.nil)) (.nil))) (.nil))) (.node (.reg [3, 6] (.nil)) (.node (.reg [6, 7] (.nil)) (.nil)))))
theorem E_tree_Tree_With (x0 : Int × Int × Int × Int × (Option Addr) × (Option Addr)) (x1 : Option Addr) (x2 : ByteArray × ByteArray) (K : Tup [.agg [.int .i64, .int .u64, .int .u64, .int .u64, .ptr, .ptr], .c (.int .i64)] → Heap → Prop) (h0 : Heap) : F_tree_Tree_With x0 x1 x2 K h0 = sBody PG Tryz.f25 (Tryz.f25.body.getD .skip) A_tree_Tree_With [.agg #[.int .i64 x0.1, .int .u64 x0.2.1, .int .u64 x0.2.2.1, .int .u64 x0.2.2.2.1, .pointer x0.2.2.2.2.1, .pointer x0.2.2.2.2.2], .pointer x1, .agg #[.string x2.1, .string x2.2]] [.agg [.int .i64, .int .u64, .int .u64, .int .u64, .ptr, .ptr], .c (.int .i64)] K h0 := by kernel_rfl
theorem H_tree_Tree_With (x0 : Int × Int × Int × Int × (Option Addr) × (Option Addr)) (x1 : Option Addr) (x2 : ByteArray × ByteArray) {K : Tup [.agg [.int .i64, .int .u64, .int .u64, .int .u64, .ptr, .ptr], .c (.int .i64)] → Heap → Prop} {h0 : Heap} (h : F_tree_Tree_With x0 x1 x2 K h0) : HC PG f_tree_Tree_With [.agg #[.int .i64 x0.1, .int .u64 x0.2.1, .int .u64 x0.2.2.1, .int .u64 x0.2.2.2.1, .pointer x0.2.2.2.2.1, .pointer x0.2.2.2.2.2], .pointer x1, .agg #[.string x2.1, .string x2.2]] [.agg [.int .i64, .int .u64, .int .u64, .int .u64, .ptr, .ptr], .c (.int .i64)] K h0 := HC.intro Tryz.mixed Tryz.func25 rfl Tryz.call25 (Nat.le_of_ble_eq_true rfl) ((E_tree_Tree_With x0 x1 x2 K h0) ▸ h)
/-- quickset/quicksetref03.Get -/
def F_r03_Get (x0 : SliceV) (x1 : ByteArray) (K : (ByteArray × Bool) → Heap → Prop) (h0 : Heap) : Prop :=
  HC PG f_r03_Find [.slice x0.a x0.len x0.cap, .string x1] [.c (.int .i64), .c .bool] (fun (e1 : Int × Bool) h2 =>
   CondP (!e1.2) (
    K ((⟨#[]⟩ : ByteArray), false) h2) (
    (((0 : Int) ≤ e1.1 ∧ e1.1 < ((x0.len : Nat) : Int)) ∧ ∃ a3 : Addr, x0.a = some a3 ∧
     ∃ v4 : ByteArray, hcell h2 (adr (adr a3 (e1.1.toNat * 2)) 1) = some (.string v4) ∧
     K (v4, true) h2))) h0
def A_r03_Get : Ann := .node (.reg [0, 1] (.nil)) (.node (.reg [0, 6, 7] (.nil)) (.node (.node (.reg [0, 6, 15] (.nil)) (.node (.node (.reg [4, 5] (.nil)) (.nil)) (.nil))) (.node (.reg [4, 5] (.nil)) (.nil))))
theorem E_r03_Get (x0 : SliceV) (x1 : ByteArray) (K : Tup [.c .str, .c .bool] → Heap → Prop) (h0 : Heap) : F_r03_Get x0 x1 K h0 = sBody PG Tryz.f26 (Tryz.f26.body.getD .skip) A_r03_Get [.slice x0.a x0.len x0.cap, .string x1] [.c .str, .c .bool] K h0 := by kernel_rfl
theorem H_r03_Get (x0 : SliceV) (x1 : ByteArray) {K : Tup [.c .str, .c .bool] → Heap → Prop} {h0 : Heap} (h : F_r03_Get x0 x1 K h0) : HC PG f_r03_Get [.slice x0.a x0.len x0.cap, .string x1] [.c .str, .c .bool] K h0 := HC.intro Tryz.mixed Tryz.func26 rfl Tryz.call26 (Nat.le_of_ble_eq_true rfl) ((E_r03_Get x0 x1 K h0) ▸ h)
/-- (quickset/tree.Tree).Without -/
def F_tree_Tree_Without (x0 : Int × Int × Int × Int × (Option Addr) × (Option Addr)) (x1 : Option Addr) (x2 : ByteArray) (K : ((Int × Int × Int × Int × (Option Addr) × (Option Addr)) × Int) → Heap → Prop) (h0 : Heap) : Prop :=
  At (hnew h0 [.int .i64 x0.1, .int .u64 x0.2.1, .int .u64 x0.2.2.1, .int .u64 x0.2.2.2.1, .pointer x0.2.2.2.2.1, .pointer x0.2.2.2.2.2] t_tree_Tree) (fun h1 =>
   At (hnew h1 [.int .i64 0, .int .u64 0, .int .u64 0, .int .u64 0, .pointer none, .pointer none] t_tree_Tree) (fun h2 =>
    HC PG f_pair_Right [.string x2, .string (⟨#[]⟩ : ByteArray)] [.c (.int .i64)] (fun (e3 : Int) h4 =>
     CondP (e3 != (0 : Int)) (
      ∃ v5 : Int, hcell h4 (adr (newA h0) 0) = some (.int .i64 v5) ∧
      ∃ v6 : Int, hcell h4 (adr (newA h0) 1) = some (.int .u64 v6) ∧
      ∃ v7 : Int, hcell h4 (adr (newA h0) 2) = some (.int .u64 v7) ∧
      ∃ v8 : Int, hcell h4 (adr (newA h0) 3) = some (.int .u64 v8) ∧
      ∃ v9 : Option Addr, hcell h4 (adr (newA h0) 4) = some (.pointer v9) ∧
      ∃ v10 : Option Addr, hcell h4 (adr (newA h0) 5) = some (.pointer v10) ∧
      (WrS h4 (some (newA h1)) 0 [.int .i64 v5, .int .u64 v6, .int .u64 v7, .int .u64 v8, .pointer v9, .pointer v10] ∧
       At (hsetL h4 (newA h1) 0 [.int .i64 v5, .int .u64 v6, .int .u64 v7, .int .u64 v8, .pointer v9, .pointer v10]) (fun h11 =>
        ∃ v12 : Int, hcell h11 (adr (newA h1) 0) = some (.int .i64 v12) ∧
        ∃ v13 : Int, hcell h11 (adr (newA h1) 1) = some (.int .u64 v13) ∧
        ∃ v14 : Int, hcell h11 (adr (newA h1) 2) = some (.int .u64 v14) ∧
        ∃ v15 : Int, hcell h11 (adr (newA h1) 3) = some (.int .u64 v15) ∧
        ∃ v16 : Option Addr, hcell h11 (adr (newA h1) 4) = some (.pointer v16) ∧
        ∃ v17 : Option Addr, hcell h11 (adr (newA h1) 5) = some (.pointer v17) ∧
        K ((v12, v13, v14, v15, v16, v17), e3) h11))) (
      ∃ v18 : Int, hcell h4 (adr (newA h0) 0) = some (.int .i64 v18) ∧
      ∃ v19 : Int, hcell h4 (adr (newA h0) 1) = some (.int .u64 v19) ∧
      ∃ v20 : Int, hcell h4 (adr (newA h0) 2) = some (.int .u64 v20) ∧
      ∃ v21 : Int, hcell h4 (adr (newA h0) 3) = some (.int .u64 v21) ∧
      ∃ v22 : Option Addr, hcell h4 (adr (newA h0) 4) = some (.pointer v22) ∧
      ∃ v23 : Option Addr, hcell h4 (adr (newA h0) 5) = some (.pointer v23) ∧
      At (hnew h4 [.int .i64 0, .int .u64 0, .int .u64 0, .int .u64 0, .pointer none, .pointer none] t_tree_Tree) (fun h24 =>
       (WrS h24 (some (newA h4)) 0 [.int .i64 v18, .int .u64 v19, .int .u64 v20, .int .u64 v21, .pointer v22, .pointer v23] ∧
        At (hsetL h24 (newA h4) 0 [.int .i64 v18, .int .u64 v19, .int .u64 v20, .int .u64 v21, .pointer v22, .pointer v23]) (fun h25 =>
         Join (fun (t39 : Bool) h40 => -- ok(10)
          CondP (!t39) (
           ∃ v41 : Int, hcell h40 (adr (newA h4) 0) = some (.int .i64 v41) ∧
           ∃ v42 : Int, hcell h40 (adr (newA h4) 1) = some (.int .u64 v42) ∧
           ∃ v43 : Int, hcell h40 (adr (newA h4) 2) = some (.int .u64 v43) ∧
           ∃ v44 : Int, hcell h40 (adr (newA h4) 3) = some (.int .u64 v44) ∧
           ∃ v45 : Option Addr, hcell h40 (adr (newA h4) 4) = some (.pointer v45) ∧
           ∃ v46 : Option Addr, hcell h40 (adr (newA h4) 5) = some (.pointer v46) ∧
           (WrS h40 (some (newA h1)) 0 [.int .i64 v41, .int .u64 v42, .int .u64 v43, .int .u64 v44, .pointer v45, .pointer v46] ∧
            At (hsetL h40 (newA h1) 0 [.int .i64 v41, .int .u64 v42, .int .u64 v43, .int .u64 v44, .pointer v45, .pointer v46]) (fun h47 =>
             ∃ v48 : Int, hcell h47 (adr (newA h1) 0) = some (.int .i64 v48) ∧
             ∃ v49 : Int, hcell h47 (adr (newA h1) 1) = some (.int .u64 v49) ∧
             ∃ v50 : Int, hcell h47 (adr (newA h1) 2) = some (.int .u64 v50) ∧
             ∃ v51 : Int, hcell h47 (adr (newA h1) 3) = some (.int .u64 v51) ∧
             ∃ v52 : Option Addr, hcell h47 (adr (newA h1) 4) = some (.pointer v52) ∧
             ∃ v53 : Option Addr, hcell h47 (adr (newA h1) 5) = some (.pointer v53) ∧
             K ((v48, v49, v50, v51, v52, v53), 4) h47))) (
           ∃ v54 : Int, hcell h40 (adr (newA h0) 0) = some (.int .i64 v54) ∧
           ∃ v55 : Int, hcell h40 (adr (newA h0) 1) = some (.int .u64 v55) ∧
           ∃ v56 : Int, hcell h40 (adr (newA h0) 2) = some (.int .u64 v56) ∧
           ∃ v57 : Int, hcell h40 (adr (newA h0) 3) = some (.int .u64 v57) ∧
           ∃ v58 : Option Addr, hcell h40 (adr (newA h0) 4) = some (.pointer v58) ∧
           ∃ v59 : Option Addr, hcell h40 (adr (newA h0) 5) = some (.pointer v59) ∧
           (WrS h40 (some (newA h1)) 0 [.int .i64 v54, .int .u64 v55, .int .u64 v56, .int .u64 v57, .pointer v58, .pointer v59] ∧
            At (hsetL h40 (newA h1) 0 [.int .i64 v54, .int .u64 v55, .int .u64 v56, .int .u64 v57, .pointer v58, .pointer v59]) (fun h60 =>
             ∃ v61 : Int, hcell h60 (adr (newA h1) 0) = some (.int .i64 v61) ∧
             ∃ v62 : Int, hcell h60 (adr (newA h1) 1) = some (.int .u64 v62) ∧
             ∃ v63 : Int, hcell h60 (adr (newA h1) 2) = some (.int .u64 v63) ∧
             ∃ v64 : Int, hcell h60 (adr (newA h1) 3) = some (.int .u64 v64) ∧
             ∃ v65 : Option Addr, hcell h60 (adr (newA h1) 4) = some (.pointer v65) ∧
             ∃ v66 : Option Addr, hcell h60 (adr (newA h1) 5) = some (.pointer v66) ∧
             K ((v61, v62, v63, v64, v65, v66), 0) h60)))) (fun J26 =>
          ∃ v27 : Int, hcell h25 (adr (newA h0) 0) = some (.int .i64 v27) ∧
          CondP (v27 == (1 : Int)) (
           ∃ v28 : Option Addr, hcell h25 (adr (newA h0) 5) = some (.pointer v28) ∧
           HC PG f_radix_Drop [.pointer x1, .pointer v28, .string x2] [.c .ptr, .c .bool] (fun (e29 : (Option Addr) × Bool) h30 =>
            (Wr h30 (adr (newA h0) 5) ∧
             At (hset h30 (adr (newA h0) 5) (.pointer e29.1)) (fun h31 =>
              J26 e29.2 h31))) h25) (
           ∃ v32 : Int, hcell h25 (adr (adr (newA h0) 1) 0) = some (.int .u64 v32) ∧
           ∃ v33 : Int, hcell h25 (adr (adr (newA h0) 1) 1) = some (.int .u64 v33) ∧
           ∃ v34 : Int, hcell h25 (adr (adr (newA h0) 1) 2) = some (.int .u64 v34) ∧
           ∃ v35 : Option Addr, hcell h25 (adr (newA h0) 4) = some (.pointer v35) ∧
           HC PG f_champ_Drop [.agg #[.int .u64 v32, .int .u64 v33, .int .u64 v34], .pointer x1, .pointer v35, .string x2] [.c .ptr, .c .bool] (fun (e36 : (Option Addr) × Bool) h37 =>
            (Wr h37 (adr (newA h0) 4) ∧
             At (hset h37 (adr (newA h0) 4) (.pointer e36.1)) (fun h38 =>
              J26 e36.2 h38))) h25))))))) h2))
def A_tree_Tree_Without : Ann := .node (.reg [1, 2, 3, 6] (.nil)) (.node (.node (.reg [1, 2, 3, 6, 8] (.nil)) (.node (.reg [1, 2, 3, 6, 8, 14] (.nil)) (.node (.node (.reg [6, 7] (.nil)) (.nil)) (.nil)))) (.node (.reg [1, 2, 3, 6, 9] (.nil)) (.join [3, 6, 9] [(10, .c .bool)] (.node (.reg [1, 2, 3, 6, 9, 20] (.nil)) (.node (.reg [3, 6, 9, 10] (.nil)) (.reg [3, 6, 9, 10] (.nil)))) (.node (.node (.reg [3, 6, 9, 42] (.nil)) (.node (.node (.reg [6, 7] (.nil)) (.nil)) (.nil))) (.node (.reg [6, 7] (.nil)) (.nil))))))
theorem E_tree_Tree_Without (x0 : Int × Int × Int × Int × (Option Addr) × (Option Addr)) (x1 : Option Addr) (x2 : ByteArray) (K : Tup [.agg [.int .i64, .int .u64, .int .u64, .int .u64, .ptr, .ptr], .c (.int .i64)] → Heap → Prop) (h0 : Heap) : F_tree_Tree_Without x0 x1 x2 K h0 = sBody PG Tryz.f27 (Tryz.f27.body.getD .skip) A_tree_Tree_Without [.agg #[.int .i64 x0.1, .int .u64 x0.2.1, .int .u64 x0.2.2.1, .int .u64 x0.2.2.2.1, .pointer x0.2.2.2.2.1, .pointer x0.2.2.2.2.2], .pointer x1, .string x2] [.agg [.int .i64, .int .u64, .int .u64, .int .u64, .ptr, .ptr], .c (.int .i64)] K h0 := by kernel_rfl
theorem H_tree_Tree_Without (x0 : Int × Int × Int × Int × (Option Addr) × (Option Addr)) (x1 : Option Addr) (x2 : ByteArray) {K : Tup [.agg [.int .i64, .int .u64, .int .u64, .int .u64, .ptr, .ptr], .c (.int .i64)] → Heap → Prop} {h0 : Heap} (h : F_tree_Tree_Without x0 x1 x2 K h0) : HC PG f_tree_Tree_Without [.agg #[.int .i64 x0.1, .int .u64 x0.2.1, .int .u64 x0.2.2.1, .int .u64 x0.2.2.2.1, .pointer x0.2.2.2.2.1, .pointer x0.2.2.2.2.2], .pointer x1, .string x2] [.agg [.int .i64, .int .u64, .int .u64, .int .u64, .ptr, .ptr], .c (.int .i64)] K h0 := HC.intro Tryz.mixed Tryz.func27 rfl Tryz.call27 (Nat.le_of_ble_eq_true rfl) ((E_tree_Tree_Without x0 x1 x2 K h0) ▸ h)
/-- quickset/tree.New -/
def F_tree_New (x0 : Int) (x1 : Int × Int × Int) (K : ((Int × Int × Int × Int × (Option Addr) × (Option Addr)) × Int) → Heap → Prop) (h0 : Heap) : Prop :=
  At (hnew h0 [.int .u64 x1.1, .int .u64 x1.2.1, .int .u64 x1.2.2] t_sip_Hasher) (fun h1 =>
   At (hnew h1 [.int .i64 0, .int .u64 0, .int .u64 0, .int .u64 0, .pointer none, .pointer none] t_tree_Tree) (fun h2 =>
    CondP (x0 == (0 : Int)) (
     ∃ v3 : Int, hcell h2 (adr (newA h0) 0) = some (.int .u64 v3) ∧
     ∃ v4 : Int, hcell h2 (adr (newA h0) 1) = some (.int .u64 v4) ∧
     ∃ v5 : Int, hcell h2 (adr (newA h0) 2) = some (.int .u64 v5) ∧
     HC PG f_tree_OfChamp [.agg #[.int .u64 v3, .int .u64 v4, .int .u64 v5], .pointer none] [.agg [.int .i64, .int .u64, .int .u64, .int .u64, .ptr, .ptr]] (fun (e6 : Int × Int × Int × Int × (Option Addr) × (Option Addr)) h7 =>
      (WrS h7 (some (newA h1)) 0 [.int .i64 e6.1, .int .u64 e6.2.1, .int .u64 e6.2.2.1, .int .u64 e6.2.2.2.1, .pointer e6.2.2.2.2.1, .pointer e6.2.2.2.2.2] ∧
       At (hsetL h7 (newA h1) 0 [.int .i64 e6.1, .int .u64 e6.2.1, .int .u64 e6.2.2.1, .int .u64 e6.2.2.2.1, .pointer e6.2.2.2.2.1, .pointer e6.2.2.2.2.2]) (fun h8 =>
        ∃ v9 : Int, hcell h8 (adr (newA h1) 0) = some (.int .i64 v9) ∧
        ∃ v10 : Int, hcell h8 (adr (newA h1) 1) = some (.int .u64 v10) ∧
        ∃ v11 : Int, hcell h8 (adr (newA h1) 2) = some (.int .u64 v11) ∧
        ∃ v12 : Int, hcell h8 (adr (newA h1) 3) = some (.int .u64 v12) ∧
        ∃ v13 : Option Addr, hcell h8 (adr (newA h1) 4) = some (.pointer v13) ∧
        ∃ v14 : Option Addr, hcell h8 (adr (newA h1) 5) = some (.pointer v14) ∧
        K ((v9, v10, v11, v12, v13, v14), 0) h8))) h2) (
     CondP (x0 == (1 : Int)) (
      HC PG f_tree_OfRadix [.pointer none] [.agg [.int .i64, .int .u64, .int .u64, .int .u64, .ptr, .ptr]] (fun (e15 : Int × Int × Int × Int × (Option Addr) × (Option Addr)) h16 =>
       (WrS h16 (some (newA h1)) 0 [.int .i64 e15.1, .int .u64 e15.2.1, .int .u64 e15.2.2.1, .int .u64 e15.2.2.2.1, .pointer e15.2.2.2.2.1, .pointer e15.2.2.2.2.2] ∧
        At (hsetL h16 (newA h1) 0 [.int .i64 e15.1, .int .u64 e15.2.1, .int .u64 e15.2.2.1, .int .u64 e15.2.2.2.1, .pointer e15.2.2.2.2.1, .pointer e15.2.2.2.2.2]) (fun h17 =>
         ∃ v18 : Int, hcell h17 (adr (newA h1) 0) = some (.int .i64 v18) ∧
         ∃ v19 : Int, hcell h17 (adr (newA h1) 1) = some (.int .u64 v19) ∧
         ∃ v20 : Int, hcell h17 (adr (newA h1) 2) = some (.int .u64 v20) ∧
         ∃ v21 : Int, hcell h17 (adr (newA h1) 3) = some (.int .u64 v21) ∧
         ∃ v22 : Option Addr, hcell h17 (adr (newA h1) 4) = some (.pointer v22) ∧
         ∃ v23 : Option Addr, hcell h17 (adr (newA h1) 5) = some (.pointer v23) ∧
         K ((v18, v19, v20, v21, v22, v23), 0) h17))) h2) (
      (WrS h2 (some (newA h1)) 0 [.int .i64 0, .int .u64 0, .int .u64 0, .int .u64 0, .pointer none, .pointer none] ∧
       At (hsetL h2 (newA h1) 0 [.int .i64 0, .int .u64 0, .int .u64 0, .int .u64 0, .pointer none, .pointer none]) (fun h24 =>
        ∃ v25 : Int, hcell h24 (adr (newA h1) 0) = some (.int .i64 v25) ∧
        ∃ v26 : Int, hcell h24 (adr (newA h1) 1) = some (.int .u64 v26) ∧
        ∃ v27 : Int, hcell h24 (adr (newA h1) 2) = some (.int .u64 v27) ∧
        ∃ v28 : Int, hcell h24 (adr (newA h1) 3) = some (.int .u64 v28) ∧
        ∃ v29 : Option Addr, hcell h24 (adr (newA h1) 4) = some (.pointer v29) ∧
        ∃ v30 : Option Addr, hcell h24 (adr (newA h1) 5) = some (.pointer v30) ∧
        K ((v25, v26, v27, v28, v29, v30), 11) h24))))))
def A_tree_New : Ann := .node (.reg [0, 3, 4] (.nil)) (.node (.node (.reg [3, 4, 6] (.nil)) (.node (.reg [3, 4, 6, 7] (.nil)) (.node (.node (.reg [4, 5] (.nil)) (.nil)) (.node (.reg [4, 11] (.nil)) (.node (.node (.reg [4, 5] (.nil)) (.nil)) (.nil)))))) (.node (.reg [4, 5] (.nil)) (.nil)))
theorem E_tree_New (x0 : Int) (x1 : Int × Int × Int) (K : Tup [.agg [.int .i64, .int .u64, .int .u64, .int .u64, .ptr, .ptr], .c (.int .i64)] → Heap → Prop) (h0 : Heap) : F_tree_New x0 x1 K h0 = sBody PG Tryz.f28 (Tryz.f28.body.getD .skip) A_tree_New [.int .i64 x0, .agg #[.int .u64 x1.1, .int .u64 x1.2.1, .int .u64 x1.2.2]] [.agg [.int .i64, .int .u64, .int .u64, .int .u64, .ptr, .ptr], .c (.int .i64)] K h0 := by kernel_rfl
theorem H_tree_New (x0 : Int) (x1 : Int × Int × Int) {K : Tup [.agg [.int .i64, .int .u64, .int .u64, .int .u64, .ptr, .ptr], .c (.int .i64)] → Heap → Prop} {h0 : Heap} (h : F_tree_New x0 x1 K h0) : HC PG f_tree_New [.int .i64 x0, .agg #[.int .u64 x1.1, .int .u64 x1.2.1, .int .u64 x1.2.2]] [.agg [.int .i64, .int .u64, .int .u64, .int .u64, .ptr, .ptr], .c (.int .i64)] K h0 := HC.intro Tryz.mixed Tryz.func28 rfl Tryz.call28 (Nat.le_of_ble_eq_true rfl) ((E_tree_New x0 x1 K h0) ▸ h)
/-- quickset/pair.Right -/
def F_pair_Right (x0 : ByteArray) (x1 : ByteArray) (K : (Int) → Heap → Prop) (h0 : Heap) : Prop :=
  CondP (decide ((x0.size : Int) > (256 : Int))) (
   K 2 h0) (
   CondP (decide ((x1.size : Int) > (4096 : Int))) (
    K 3 h0) (
    K 0 h0))
def A_pair_Right : Ann := .node (.reg [0, 1] (.nil)) (.node (.node (.reg [1, 5] (.nil)) (.node (.node (.reg [4] (.nil)) (.nil)) (.node (.reg [9] (.nil)) (.node (.node (.reg [4] (.nil)) (.nil)) (.nil))))) (.node (.reg [4] (.nil)) (.nil)))
theorem E_pair_Right (x0 : ByteArray) (x1 : ByteArray) (K : Tup [.c (.int .i64)] → Heap → Prop) (h0 : Heap) : F_pair_Right x0 x1 K h0 = sBody PG Tryz.f29 (Tryz.f29.body.getD .skip) A_pair_Right [.string x0, .string x1] [.c (.int .i64)] K h0 := by kernel_rfl
theorem H_pair_Right (x0 : ByteArray) (x1 : ByteArray) {K : Tup [.c (.int .i64)] → Heap → Prop} {h0 : Heap} (h : F_pair_Right x0 x1 K h0) : HC PG f_pair_Right [.string x0, .string x1] [.c (.int .i64)] K h0 := HC.intro Tryz.mixed Tryz.func29 rfl Tryz.call29 (Nat.le_of_ble_eq_true rfl) ((E_pair_Right x0 x1 K h0) ▸ h)
/-- bytes.Equal -/
def F_bytes_Equal (x0 : SliceV) (x1 : SliceV) (K : (Bool) → Heap → Prop) (h0 : Heap) : Prop :=
  ∃ s1 : ByteArray, SRow h0 x0.a x0.len (byteVals s1) ∧
  ∃ s2 : ByteArray, SRow h0 x1.a x1.len (byteVals s2) ∧
  K (s1.toList == s2.toList) h0
def A_bytes_Equal : Ann := .node (.reg [0, 1] (.nil)) (.node (.reg [4] (.nil)) (.nil))
theorem E_bytes_Equal (x0 : SliceV) (x1 : SliceV) (K : Tup [.c .bool] → Heap → Prop) (h0 : Heap) : F_bytes_Equal x0 x1 K h0 = sBody PG Tryz.f30 (Tryz.f30.body.getD .skip) A_bytes_Equal [.slice x0.a x0.len x0.cap, .slice x1.a x1.len x1.cap] [.c .bool] K h0 := by kernel_rfl
theorem H_bytes_Equal (x0 : SliceV) (x1 : SliceV) {K : Tup [.c .bool] → Heap → Prop} {h0 : Heap} (h : F_bytes_Equal x0 x1 K h0) : HC PG f_bytes_Equal [.slice x0.a x0.len x0.cap, .slice x1.a x1.len x1.cap] [.c .bool] K h0 := HC.intro Tryz.mixed Tryz.func30 rfl Tryz.call30 (Nat.le_of_ble_eq_true rfl) ((E_bytes_Equal x0 x1 K h0) ▸ h)
/-- (quickset/tree.Tree).Shape -/
def F_tree_Tree_Shape (x0 : Int × Int × Int × Int × (Option Addr) × (Option Addr)) (K : (SliceV) → Heap → Prop) (h0 : Heap) : Prop :=
  At (hnew h0 [.int .i64 x0.1, .int .u64 x0.2.1, .int .u64 x0.2.2.1, .int .u64 x0.2.2.2.1, .pointer x0.2.2.2.2.1, .pointer x0.2.2.2.2.2] t_tree_Tree) (fun h1 =>
   ∃ v2 : Int, hcell h1 (adr (newA h0) 0) = some (.int .i64 v2) ∧
   CondP (v2 == (1 : Int)) (
    At (hnew h1 [.int .u8 1] t_u8) (fun h3 =>
     ∃ v4 : Option Addr, hcell h3 (adr (newA h0) 5) = some (.pointer v4) ∧
     HC PG f_radix_Shape [.pointer v4] [.c .slice] (fun (e5 : SliceV) h6 =>
      ∃ xs7, SRow h6 e5.a (e5.len * 1) xs7 ∧
      AppP (some [.int .u8 0]) 1 1 t_u8 (some (newA h1)) 1 1 e5.len xs7 h6 (fun s8 h9 =>
       K s8 h9)) h3)) (
    At (hnew h1 [.int .u8 0] t_u8) (fun h10 =>
     ∃ v11 : Int, hcell h10 (adr (newA h0) 0) = some (.int .i64 v11) ∧
     ∃ v12 : Int, hcell h10 (adr (newA h0) 1) = some (.int .u64 v12) ∧
     ∃ v13 : Int, hcell h10 (adr (newA h0) 2) = some (.int .u64 v13) ∧
     ∃ v14 : Int, hcell h10 (adr (newA h0) 3) = some (.int .u64 v14) ∧
     ∃ v15 : Option Addr, hcell h10 (adr (newA h0) 4) = some (.pointer v15) ∧
     ∃ v16 : Option Addr, hcell h10 (adr (newA h0) 5) = some (.pointer v16) ∧
     HC PG f_tree_Tree_Champ [.agg #[.int .i64 v11, .int .u64 v12, .int .u64 v13, .int .u64 v14, .pointer v15, .pointer v16]] [.c .ptr] (fun (e17 : Option Addr) h18 =>
      HC PG f_shape_Of [.pointer e17] [.c .slice] (fun (e19 : SliceV) h20 =>
       ∃ xs21, SRow h20 e19.a (e19.len * 1) xs21 ∧
       AppP (some [.int .u8 0]) 1 1 t_u8 (some (newA h1)) 1 1 e19.len xs21 h20 (fun s22 h23 =>
        K s22 h23)) h18) h10)))
def A_tree_Tree_Shape : Ann := .node (.reg [1] (.nil)) (.node (.node (.reg [1, 5] (.nil)) (.node (.node (.reg [2] (.nil)) (.nil)) (.nil))) (.node (.reg [2] (.nil)) (.nil)))
theorem E_tree_Tree_Shape (x0 : Int × Int × Int × Int × (Option Addr) × (Option Addr)) (K : Tup [.c .slice] → Heap → Prop) (h0 : Heap) : F_tree_Tree_Shape x0 K h0 = sBody PG Tryz.f31 (Tryz.f31.body.getD .skip) A_tree_Tree_Shape [.agg #[.int .i64 x0.1, .int .u64 x0.2.1, .int .u64 x0.2.2.1, .int .u64 x0.2.2.2.1, .pointer x0.2.2.2.2.1, .pointer x0.2.2.2.2.2]] [.c .slice] K h0 := by kernel_rfl
theorem H_tree_Tree_Shape (x0 : Int × Int × Int × Int × (Option Addr) × (Option Addr)) {K : Tup [.c .slice] → Heap → Prop} {h0 : Heap} (h : F_tree_Tree_Shape x0 K h0) : HC PG f_tree_Tree_Shape [.agg #[.int .i64 x0.1, .int .u64 x0.2.1, .int .u64 x0.2.2.1, .int .u64 x0.2.2.2.1, .pointer x0.2.2.2.2.1, .pointer x0.2.2.2.2.2]] [.c .slice] K h0 := HC.intro Tryz.mixed Tryz.func31 rfl Tryz.call31 (Nat.le_of_ble_eq_true rfl) ((E_tree_Tree_Shape x0 K h0) ▸ h)
/-- quickset/champ.Empty -/
def F_champ_Empty  (K : (Option Addr) → Heap → Prop) (h0 : Heap) : Prop :=
  HC PG f_node_Inner [] [.c .ptr] (fun (e1 : Option Addr) h2 =>
   K e1 h2) h0
def A_champ_Empty : Ann := .node (.reg [] (.nil)) (.node (.reg [0] (.nil)) (.nil))
theorem E_champ_Empty  (K : Tup [.c .ptr] → Heap → Prop) (h0 : Heap) : F_champ_Empty  K h0 = sBody PG Tryz.f32 (Tryz.f32.body.getD .skip) A_champ_Empty [] [.c .ptr] K h0 := by kernel_rfl
theorem H_champ_Empty  {K : Tup [.c .ptr] → Heap → Prop} {h0 : Heap} (h : F_champ_Empty  K h0) : HC PG f_champ_Empty [] [.c .ptr] K h0 := HC.intro Tryz.mixed Tryz.func32 rfl Tryz.call32 (Nat.le_of_ble_eq_true rfl) ((E_champ_Empty  K h0) ▸ h)
/-- (quickset/sip.Hasher).Hash -/
def F_sip_Hasher_Hash (x0 : Int × Int × Int) (x1 : ByteArray) (K : (Int) → Heap → Prop) (h0 : Heap) : Prop :=
  At (hnew h0 [.int .u64 x0.1, .int .u64 x0.2.1, .int .u64 x0.2.2] t_sip_Hasher) (fun h1 =>
   ∃ v2 : Int, hcell h1 (adr (adr (newA h0) 0) 0) = some (.int .u64 v2) ∧
   ∃ v3 : Int, hcell h1 (adr (adr (newA h0) 0) 1) = some (.int .u64 v3) ∧
   ∃ v4 : Int, hcell h1 (adr (newA h0) 2) = some (.int .u64 v4) ∧
   HC PG f_sip_Sum [.agg #[.int .u64 v2, .int .u64 v3], .string x1] [.c (.int .u64)] (fun (e5 : Int) h6 =>
    (hcell h6 (adr (newA h0) 2) = some (.int .u64 v4) ∧
     Bd (IntKind.wrap .u64 (BitVec.ofInt (IntKind.bits .u64) e5 &&& BitVec.ofInt (IntKind.bits .u64) v4).toNat : Int) (fun n7 =>
      K n7 h6))) h1)
def A_sip_Hasher_Hash : Ann := .node (.reg [1, 2] (.nil)) (.node (.reg [4] (.draw [.mk 0 255 4 32, .mk 1 254 32 64, .mk 0 255 2 128, .mk 6 249 192 256, .mk 0 255 4 512, .mk 16 239 512 1024, .mk 40 215 1280 2048, .mk 127 191 2048 16] (.take 0 (.take 1 (.take 2 (.take 4 (.take 5 (.all (.last 3 (.take 6 (.take 7 (.done)))))))))))) (.nil))
theorem E_sip_Hasher_Hash (x0 : Int × Int × Int) (x1 : ByteArray) (K : Tup [.c (.int .u64)] → Heap → Prop) (h0 : Heap) : F_sip_Hasher_Hash x0 x1 K h0 = sBody PG Tryz.f33 (Tryz.f33.body.getD .skip) A_sip_Hasher_Hash [.agg #[.int .u64 x0.1, .int .u64 x0.2.1, .int .u64 x0.2.2], .string x1] [.c (.int .u64)] K h0 := by kernel_rfl
theorem H_sip_Hasher_Hash (x0 : Int × Int × Int) (x1 : ByteArray) {K : Tup [.c (.int .u64)] → Heap → Prop} {h0 : Heap} (h : F_sip_Hasher_Hash x0 x1 K h0) : HC PG f_sip_Hasher_Hash [.agg #[.int .u64 x0.1, .int .u64 x0.2.1, .int .u64 x0.2.2], .string x1] [.c (.int .u64)] K h0 := HC.intro Tryz.mixed Tryz.func33 rfl Tryz.call33 (Nat.le_of_ble_eq_true rfl) ((E_sip_Hasher_Hash x0 x1 K h0) ▸ h)
/-- quickset/radix.Empty -/
def F_radix_Empty  (K : (Option Addr) → Heap → Prop) (h0 : Heap) : Prop :=
  At (hnew h0 [.string (⟨#[]⟩ : ByteArray), .bool false, .string (⟨#[]⟩ : ByteArray), .slice none 0 0, .pointer none] t_radix_Node) (fun h1 =>
   K (some (newA h0)) h1)
def A_radix_Empty : Ann := .node (.reg [] (.nil)) (.node (.reg [0] (.nil)) (.nil))
theorem E_radix_Empty  (K : Tup [.c .ptr] → Heap → Prop) (h0 : Heap) : F_radix_Empty  K h0 = sBody PG Tryz.f35 (Tryz.f35.body.getD .skip) A_radix_Empty [] [.c .ptr] K h0 := by kernel_rfl
theorem H_radix_Empty  {K : Tup [.c .ptr] → Heap → Prop} {h0 : Heap} (h : F_radix_Empty  K h0) : HC PG f_radix_Empty [] [.c .ptr] K h0 := HC.intro Tryz.mixed Tryz.func35 rfl Tryz.call35 (Nat.le_of_ble_eq_true rfl) ((E_radix_Empty  K h0) ▸ h)
/-- slices.Clone[[]quickset/pair.Pair,quickset/pair.Pair] -/
def F_slices_Clone_A_pair_Pair_pair_Pair (x0 : SliceV) (K : (SliceV) → Heap → Prop) (h0 : Heap) : Prop :=
  CondP x0.a.isNone (
   K ⟨none, 0, 0⟩ h0) (
   At (hnew h0 [] t_pair_Pair) (fun h1 =>
    ∃ xs2, SRow h1 x0.a (x0.len * 2) xs2 ∧
    AppP (some [.string (⟨#[]⟩ : ByteArray), .string (⟨#[]⟩ : ByteArray)]) 2 32 t_pair_Pair (some (newA h0)) 0 0 x0.len xs2 h1 (fun s3 h4 =>
     K s3 h4)))
def A_slices_Clone_A_pair_Pair_pair_Pair : Ann := .node (.reg [0] (.nil)) (.node (.node (.reg [0, 4] (.nil)) (.node (.node (.reg [2] (.nil)) (.nil)) (.nil))) (.node (.reg [2] (.nil)) (.nil)))
theorem E_slices_Clone_A_pair_Pair_pair_Pair (x0 : SliceV) (K : Tup [.c .slice] → Heap → Prop) (h0 : Heap) : F_slices_Clone_A_pair_Pair_pair_Pair x0 K h0 = sBody PG Tryz.f38 (Tryz.f38.body.getD .skip) A_slices_Clone_A_pair_Pair_pair_Pair [.slice x0.a x0.len x0.cap] [.c .slice] K h0 := by kernel_rfl
theorem H_slices_Clone_A_pair_Pair_pair_Pair (x0 : SliceV) {K : Tup [.c .slice] → Heap → Prop} {h0 : Heap} (h : F_slices_Clone_A_pair_Pair_pair_Pair x0 K h0) : HC PG f_slices_Clone_A_pair_Pair_pair_Pair [.slice x0.a x0.len x0.cap] [.c .slice] K h0 := HC.intro Tryz.mixed Tryz.func38 rfl Tryz.call38 (Nat.le_of_ble_eq_true rfl) ((E_slices_Clone_A_pair_Pair_pair_Pair x0 K h0) ▸ h)
/-- quickset/pair.order -/
def F_pair_order (x0 : ByteArray × ByteArray) (x1 : ByteArray) (K : (Int) → Heap → Prop) (h0 : Heap) : Prop :=
  At (hnew h0 [.string x0.1, .string x0.2] t_pair_Pair) (fun h1 =>
   ∃ v2 : ByteArray, hcell h1 (adr (newA h0) 0) = some (.string v2) ∧
   HC PG f_cmp_Compare_str [.string v2, .string x1] [.c (.int .i64)] (fun (e3 : Int) h4 =>
    K e3 h4) h1)
def A_pair_order : Ann := .node (.reg [1, 2] (.nil)) (.node (.reg [4] (.nil)) (.nil))
theorem E_pair_order (x0 : ByteArray × ByteArray) (x1 : ByteArray) (K : Tup [.c (.int .i64)] → Heap → Prop) (h0 : Heap) : F_pair_order x0 x1 K h0 = sBody PG Tryz.f41 (Tryz.f41.body.getD .skip) A_pair_order [.agg #[.string x0.1, .string x0.2], .string x1] [.c (.int .i64)] K h0 := by kernel_rfl
theorem H_pair_order (x0 : ByteArray × ByteArray) (x1 : ByteArray) {K : Tup [.c (.int .i64)] → Heap → Prop} {h0 : Heap} (h : F_pair_order x0 x1 K h0) : HC PG f_pair_order [.agg #[.string x0.1, .string x0.2], .string x1] [.c (.int .i64)] K h0 := HC.intro Tryz.mixed Tryz.func41 rfl Tryz.call41 (Nat.le_of_ble_eq_true rfl) ((E_pair_order x0 x1 K h0) ▸ h)
/-- quickset/span.Pairs -/
def F_span_Pairs (x0 : Option Addr) (x1 : ByteArray × ByteArray × Bool) (K : (SliceV) → Heap → Prop) (h0 : Heap) : Prop :=
  At (hnew h0 [.string x1.1, .string x1.2.1, .bool x1.2.2] t_span_Span) (fun h1 =>
   ∃ v2 : ByteArray, hcell h1 (adr (newA h0) 0) = some (.string v2) ∧
   ∃ v3 : ByteArray, hcell h1 (adr (newA h0) 1) = some (.string v3) ∧
   ∃ v4 : Bool, hcell h1 (adr (newA h0) 2) = some (.bool v4) ∧
   HC PG f_span_Each [.pointer x0, .agg #[.string v2, .string v3, .bool v4], .bool false] [.c .raw] (fun (e5 : Value) h6 =>
    HC PG f_slices_Collect_pair_Pair [e5] [.c .slice] (fun (e7 : SliceV) h8 =>
     K e7 h8) h6) h1)
def A_span_Pairs : Ann := .node (.reg [0, 3] (.nil)) (.node (.reg [4] (.nil)) (.nil))
theorem E_span_Pairs (x0 : Option Addr) (x1 : ByteArray × ByteArray × Bool) (K : Tup [.c .slice] → Heap → Prop) (h0 : Heap) : F_span_Pairs x0 x1 K h0 = sBody PG Tryz.f43 (Tryz.f43.body.getD .skip) A_span_Pairs [.pointer x0, .agg #[.string x1.1, .string x1.2.1, .bool x1.2.2]] [.c .slice] K h0 := by kernel_rfl
theorem H_span_Pairs (x0 : Option Addr) (x1 : ByteArray × ByteArray × Bool) {K : Tup [.c .slice] → Heap → Prop} {h0 : Heap} (h : F_span_Pairs x0 x1 K h0) : HC PG f_span_Pairs [.pointer x0, .agg #[.string x1.1, .string x1.2.1, .bool x1.2.2]] [.c .slice] K h0 := HC.intro Tryz.mixed Tryz.func43 rfl Tryz.call43 (Nat.le_of_ble_eq_true rfl) ((E_span_Pairs x0 x1 K h0) ▸ h)
/-- quickset/span.All -/
def F_span_All  (K : (ByteArray × ByteArray × Bool) → Heap → Prop) (h0 : Heap) : Prop :=
  At (hnew h0 [.string (⟨#[]⟩ : ByteArray), .string (⟨#[]⟩ : ByteArray), .bool false] t_span_Span) (fun h1 =>
   (WrS h1 (some (newA h0)) 0 [.string (⟨#[]⟩ : ByteArray), .string (⟨#[]⟩ : ByteArray), .bool true] ∧
    At (hsetL h1 (newA h0) 0 [.string (⟨#[]⟩ : ByteArray), .string (⟨#[]⟩ : ByteArray), .bool true]) (fun h2 =>
     ∃ v3 : ByteArray, hcell h2 (adr (newA h0) 0) = some (.string v3) ∧
     ∃ v4 : ByteArray, hcell h2 (adr (newA h0) 1) = some (.string v4) ∧
     ∃ v5 : Bool, hcell h2 (adr (newA h0) 2) = some (.bool v5) ∧
     K (v3, v4, v5) h2)))
def A_span_All : Ann := .node (.reg [0] (.nil)) (.node (.reg [0] (.nil)) (.nil))
theorem E_span_All  (K : Tup [.agg [.str, .str, .bool]] → Heap → Prop) (h0 : Heap) : F_span_All  K h0 = sBody PG Tryz.f44 (Tryz.f44.body.getD .skip) A_span_All [] [.agg [.str, .str, .bool]] K h0 := by kernel_rfl
theorem H_span_All  {K : Tup [.agg [.str, .str, .bool]] → Heap → Prop} {h0 : Heap} (h : F_span_All  K h0) : HC PG f_span_All [] [.agg [.str, .str, .bool]] K h0 := HC.intro Tryz.mixed Tryz.func44 rfl Tryz.call44 (Nat.le_of_ble_eq_true rfl) ((E_span_All  K h0) ▸ h)
/-- (quickset/tree.Tree).Len -/
def F_tree_Tree_Len (x0 : Int × Int × Int × Int × (Option Addr) × (Option Addr)) (K : (Int) → Heap → Prop) (h0 : Heap) : Prop :=
  At (hnew h0 [.int .i64 x0.1, .int .u64 x0.2.1, .int .u64 x0.2.2.1, .int .u64 x0.2.2.2.1, .pointer x0.2.2.2.2.1, .pointer x0.2.2.2.2.2] t_tree_Tree) (fun h1 =>
   ∃ v2 : Int, hcell h1 (adr (newA h0) 0) = some (.int .i64 v2) ∧
   CondP (v2 == (1 : Int)) (
    ∃ v3 : Option Addr, hcell h1 (adr (newA h0) 5) = some (.pointer v3) ∧
    HC PG f_radix_Len [.pointer v3] [.c (.int .i64)] (fun (e4 : Int) h5 =>
     K e4 h5) h1) (
    ∃ v6 : Option Addr, hcell h1 (adr (newA h0) 4) = some (.pointer v6) ∧
    HC PG f_champ_Len [.pointer v6] [.c (.int .i64)] (fun (e7 : Int) h8 =>
     K e7 h8) h1))
def A_tree_Tree_Len : Ann := .node (.reg [1] (.nil)) (.node (.node (.reg [1, 5] (.nil)) (.node (.node (.reg [2] (.nil)) (.nil)) (.nil))) (.node (.reg [2] (.nil)) (.nil)))
theorem E_tree_Tree_Len (x0 : Int × Int × Int × Int × (Option Addr) × (Option Addr)) (K : Tup [.c (.int .i64)] → Heap → Prop) (h0 : Heap) : F_tree_Tree_Len x0 K h0 = sBody PG Tryz.f46 (Tryz.f46.body.getD .skip) A_tree_Tree_Len [.agg #[.int .i64 x0.1, .int .u64 x0.2.1, .int .u64 x0.2.2.1, .int .u64 x0.2.2.2.1, .pointer x0.2.2.2.2.1, .pointer x0.2.2.2.2.2]] [.c (.int .i64)] K h0 := by kernel_rfl
theorem H_tree_Tree_Len (x0 : Int × Int × Int × Int × (Option Addr) × (Option Addr)) {K : Tup [.c (.int .i64)] → Heap → Prop} {h0 : Heap} (h : F_tree_Tree_Len x0 K h0) : HC PG f_tree_Tree_Len [.agg #[.int .i64 x0.1, .int .u64 x0.2.1, .int .u64 x0.2.2.1, .int .u64 x0.2.2.2.1, .pointer x0.2.2.2.2.1, .pointer x0.2.2.2.2.2]] [.c (.int .i64)] K h0 := HC.intro Tryz.mixed Tryz.func46 rfl Tryz.call46 (Nat.le_of_ble_eq_true rfl) ((E_tree_Tree_Len x0 K h0) ▸ h)
/-- (quickset/tree.Tree).Kind -/
def F_tree_Tree_Kind (x0 : Int × Int × Int × Int × (Option Addr) × (Option Addr)) (K : (Int) → Heap → Prop) (h0 : Heap) : Prop :=
  At (hnew h0 [.int .i64 x0.1, .int .u64 x0.2.1, .int .u64 x0.2.2.1, .int .u64 x0.2.2.2.1, .pointer x0.2.2.2.2.1, .pointer x0.2.2.2.2.2] t_tree_Tree) (fun h1 =>
   ∃ v2 : Int, hcell h1 (adr (newA h0) 0) = some (.int .i64 v2) ∧
   K v2 h1)
def A_tree_Tree_Kind : Ann := .node (.reg [1] (.nil)) (.node (.reg [2] (.nil)) (.nil))
theorem E_tree_Tree_Kind (x0 : Int × Int × Int × Int × (Option Addr) × (Option Addr)) (K : Tup [.c (.int .i64)] → Heap → Prop) (h0 : Heap) : F_tree_Tree_Kind x0 K h0 = sBody PG Tryz.f47 (Tryz.f47.body.getD .skip) A_tree_Tree_Kind [.agg #[.int .i64 x0.1, .int .u64 x0.2.1, .int .u64 x0.2.2.1, .int .u64 x0.2.2.2.1, .pointer x0.2.2.2.2.1, .pointer x0.2.2.2.2.2]] [.c (.int .i64)] K h0 := by kernel_rfl
theorem H_tree_Tree_Kind (x0 : Int × Int × Int × Int × (Option Addr) × (Option Addr)) {K : Tup [.c (.int .i64)] → Heap → Prop} {h0 : Heap} (h : F_tree_Tree_Kind x0 K h0) : HC PG f_tree_Tree_Kind [.agg #[.int .i64 x0.1, .int .u64 x0.2.1, .int .u64 x0.2.2.1, .int .u64 x0.2.2.2.1, .pointer x0.2.2.2.2.1, .pointer x0.2.2.2.2.2]] [.c (.int .i64)] K h0 := HC.intro Tryz.mixed Tryz.func47 rfl Tryz.call47 (Nat.le_of_ble_eq_true rfl) ((E_tree_Tree_Kind x0 K h0) ▸ h)
/-- quickset/quicksetref14.New -/
def F_r14_New (x0 : Int) (x1 : Int × Int × Int) (K : ((Int × Int × Int × Int × SliceV) × Int) → Heap → Prop) (h0 : Heap) : Prop :=
  At (hnew h0 [.int .u64 x1.1, .int .u64 x1.2.1, .int .u64 x1.2.2] t_r06_Hasher) (fun h1 =>
   At (hnew h1 [.int .i64 0, .int .u64 0, .int .u64 0, .int .u64 0, .slice none 0 0] t_r14_Tree) (fun h2 =>
    CondP (x0 == (0 : Int)) (
     ∃ v3 : Int, hcell h2 (adr (newA h0) 0) = some (.int .u64 v3) ∧
     ∃ v4 : Int, hcell h2 (adr (newA h0) 1) = some (.int .u64 v4) ∧
     ∃ v5 : Int, hcell h2 (adr (newA h0) 2) = some (.int .u64 v5) ∧
     (WrS h2 (some (newA h1)) 0 [.int .i64 0, .int .u64 v3, .int .u64 v4, .int .u64 v5, .slice none 0 0] ∧
      At (hsetL h2 (newA h1) 0 [.int .i64 0, .int .u64 v3, .int .u64 v4, .int .u64 v5, .slice none 0 0]) (fun h6 =>
       ∃ v7 : Int, hcell h6 (adr (newA h1) 0) = some (.int .i64 v7) ∧
       ∃ v8 : Int, hcell h6 (adr (newA h1) 1) = some (.int .u64 v8) ∧
       ∃ v9 : Int, hcell h6 (adr (newA h1) 2) = some (.int .u64 v9) ∧
       ∃ v10 : Int, hcell h6 (adr (newA h1) 3) = some (.int .u64 v10) ∧
       ∃ v11 : SliceV, hcell h6 (adr (newA h1) 4) = some (.slice v11.a v11.len v11.cap) ∧
       K ((v7, v8, v9, v10, v11), 0) h6))) (
     CondP (x0 == (1 : Int)) (
      (WrS h2 (some (newA h1)) 0 [.int .i64 1, .int .u64 0, .int .u64 0, .int .u64 0, .slice none 0 0] ∧
       At (hsetL h2 (newA h1) 0 [.int .i64 1, .int .u64 0, .int .u64 0, .int .u64 0, .slice none 0 0]) (fun h12 =>
        ∃ v13 : Int, hcell h12 (adr (newA h1) 0) = some (.int .i64 v13) ∧
        ∃ v14 : Int, hcell h12 (adr (newA h1) 1) = some (.int .u64 v14) ∧
        ∃ v15 : Int, hcell h12 (adr (newA h1) 2) = some (.int .u64 v15) ∧
        ∃ v16 : Int, hcell h12 (adr (newA h1) 3) = some (.int .u64 v16) ∧
        ∃ v17 : SliceV, hcell h12 (adr (newA h1) 4) = some (.slice v17.a v17.len v17.cap) ∧
        K ((v13, v14, v15, v16, v17), 0) h12))) (
      (WrS h2 (some (newA h1)) 0 [.int .i64 0, .int .u64 0, .int .u64 0, .int .u64 0, .slice none 0 0] ∧
       At (hsetL h2 (newA h1) 0 [.int .i64 0, .int .u64 0, .int .u64 0, .int .u64 0, .slice none 0 0]) (fun h18 =>
        ∃ v19 : Int, hcell h18 (adr (newA h1) 0) = some (.int .i64 v19) ∧
        ∃ v20 : Int, hcell h18 (adr (newA h1) 1) = some (.int .u64 v20) ∧
        ∃ v21 : Int, hcell h18 (adr (newA h1) 2) = some (.int .u64 v21) ∧
        ∃ v22 : Int, hcell h18 (adr (newA h1) 3) = some (.int .u64 v22) ∧
        ∃ v23 : SliceV, hcell h18 (adr (newA h1) 4) = some (.slice v23.a v23.len v23.cap) ∧
        K ((v19, v20, v21, v22, v23), 11) h18))))))
def A_r14_New : Ann := .node (.reg [0, 3, 4] (.nil)) (.node (.node (.reg [0, 3, 4, 7] (.nil)) (.node (.node (.reg [4, 5] (.nil)) (.nil)) (.nil))) (.node (.node (.reg [4, 11] (.nil)) (.node (.node (.reg [4, 5] (.nil)) (.nil)) (.nil))) (.node (.reg [4, 5] (.nil)) (.nil))))
theorem E_r14_New (x0 : Int) (x1 : Int × Int × Int) (K : Tup [.agg [.int .i64, .int .u64, .int .u64, .int .u64, .slice], .c (.int .i64)] → Heap → Prop) (h0 : Heap) : F_r14_New x0 x1 K h0 = sBody PG Tryz.f48 (Tryz.f48.body.getD .skip) A_r14_New [.int .i64 x0, .agg #[.int .u64 x1.1, .int .u64 x1.2.1, .int .u64 x1.2.2]] [.agg [.int .i64, .int .u64, .int .u64, .int .u64, .slice], .c (.int .i64)] K h0 := by kernel_rfl
theorem H_r14_New (x0 : Int) (x1 : Int × Int × Int) {K : Tup [.agg [.int .i64, .int .u64, .int .u64, .int .u64, .slice], .c (.int .i64)] → Heap → Prop} {h0 : Heap} (h : F_r14_New x0 x1 K h0) : HC PG f_r14_New [.int .i64 x0, .agg #[.int .u64 x1.1, .int .u64 x1.2.1, .int .u64 x1.2.2]] [.agg [.int .i64, .int .u64, .int .u64, .int .u64, .slice], .c (.int .i64)] K h0 := HC.intro Tryz.mixed Tryz.func48 rfl Tryz.call48 (Nat.le_of_ble_eq_true rfl) ((E_r14_New x0 x1 K h0) ▸ h)
/-- quickset/quicksetlaw14.own -/
def F_l14_own (x0 : Int × Int × Int) (K : (Int × Int × Int) → Heap → Prop) (h0 : Heap) : Prop :=
  At (hnew h0 [.int .u64 x0.1, .int .u64 x0.2.1, .int .u64 x0.2.2] t_sip_Hasher) (fun h1 =>
   At (hnew h1 [.int .u64 0, .int .u64 0, .int .u64 0] t_r06_Hasher) (fun h2 =>
    ∃ v3 : Int, hcell h2 (adr (adr (newA h0) 0) 0) = some (.int .u64 v3) ∧
    ∃ v4 : Int, hcell h2 (adr (adr (newA h0) 0) 1) = some (.int .u64 v4) ∧
    ∃ v5 : Int, hcell h2 (adr (newA h0) 2) = some (.int .u64 v5) ∧
    (WrS h2 (some (newA h1)) 0 [.int .u64 v3, .int .u64 v4, .int .u64 v5] ∧
     At (hsetL h2 (newA h1) 0 [.int .u64 v3, .int .u64 v4, .int .u64 v5]) (fun h6 =>
      ∃ v7 : Int, hcell h6 (adr (newA h1) 0) = some (.int .u64 v7) ∧
      ∃ v8 : Int, hcell h6 (adr (newA h1) 1) = some (.int .u64 v8) ∧
      ∃ v9 : Int, hcell h6 (adr (newA h1) 2) = some (.int .u64 v9) ∧
      K (v7, v8, v9) h6))))
def A_l14_own : Ann := .node (.reg [1, 2] (.nil)) (.node (.reg [2] (.nil)) (.nil))
theorem E_l14_own (x0 : Int × Int × Int) (K : Tup [.agg [.int .u64, .int .u64, .int .u64]] → Heap → Prop) (h0 : Heap) : F_l14_own x0 K h0 = sBody PG Tryz.f49 (Tryz.f49.body.getD .skip) A_l14_own [.agg #[.int .u64 x0.1, .int .u64 x0.2.1, .int .u64 x0.2.2]] [.agg [.int .u64, .int .u64, .int .u64]] K h0 := by kernel_rfl
theorem H_l14_own (x0 : Int × Int × Int) {K : Tup [.agg [.int .u64, .int .u64, .int .u64]] → Heap → Prop} {h0 : Heap} (h : F_l14_own x0 K h0) : HC PG f_l14_own [.agg #[.int .u64 x0.1, .int .u64 x0.2.1, .int .u64 x0.2.2]] [.agg [.int .u64, .int .u64, .int .u64]] K h0 := HC.intro Tryz.mixed Tryz.func49 rfl Tryz.call49 (Nat.le_of_ble_eq_true rfl) ((E_l14_own x0 K h0) ▸ h)
/-- quickset/quicksetref14.With -/
def F_r14_With (x0 : Int × Int × Int × Int × SliceV) (x1 : ByteArray × ByteArray) (K : ((Int × Int × Int × Int × SliceV) × Int) → Heap → Prop) (h0 : Heap) : Prop :=
  At (hnew h0 [.int .i64 x0.1, .int .u64 x0.2.1, .int .u64 x0.2.2.1, .int .u64 x0.2.2.2.1, .slice x0.2.2.2.2.a x0.2.2.2.2.len x0.2.2.2.2.cap] t_r14_Tree) (fun h1 =>
   At (hnew h1 [.string x1.1, .string x1.2] t_r03_Pair) (fun h2 =>
    At (hnew h2 [.int .i64 0, .int .u64 0, .int .u64 0, .int .u64 0, .slice none 0 0] t_r14_Tree) (fun h3 =>
     ∃ v4 : ByteArray, hcell h3 (adr (newA h1) 0) = some (.string v4) ∧
     ∃ v5 : ByteArray, hcell h3 (adr (newA h1) 1) = some (.string v5) ∧
     HC PG f_r03_Right [.string v4, .string v5] [.c (.int .i64)] (fun (e6 : Int) h7 =>
      CondP (e6 != (0 : Int)) (
       ∃ v8 : Int, hcell h7 (adr (newA h0) 0) = some (.int .i64 v8) ∧
       ∃ v9 : Int, hcell h7 (adr (newA h0) 1) = some (.int .u64 v9) ∧
       ∃ v10 : Int, hcell h7 (adr (newA h0) 2) = some (.int .u64 v10) ∧
       ∃ v11 : Int, hcell h7 (adr (newA h0) 3) = some (.int .u64 v11) ∧
       ∃ v12 : SliceV, hcell h7 (adr (newA h0) 4) = some (.slice v12.a v12.len v12.cap) ∧
       (WrS h7 (some (newA h2)) 0 [.int .i64 v8, .int .u64 v9, .int .u64 v10, .int .u64 v11, .slice v12.a v12.len v12.cap] ∧
        At (hsetL h7 (newA h2) 0 [.int .i64 v8, .int .u64 v9, .int .u64 v10, .int .u64 v11, .slice v12.a v12.len v12.cap]) (fun h13 =>
         ∃ v14 : Int, hcell h13 (adr (newA h2) 0) = some (.int .i64 v14) ∧
         ∃ v15 : Int, hcell h13 (adr (newA h2) 1) = some (.int .u64 v15) ∧
         ∃ v16 : Int, hcell h13 (adr (newA h2) 2) = some (.int .u64 v16) ∧
         ∃ v17 : Int, hcell h13 (adr (newA h2) 3) = some (.int .u64 v17) ∧
         ∃ v18 : SliceV, hcell h13 (adr (newA h2) 4) = some (.slice v18.a v18.len v18.cap) ∧
         K ((v14, v15, v16, v17, v18), e6) h13))) (
       ∃ v19 : SliceV, hcell h7 (adr (newA h0) 4) = some (.slice v19.a v19.len v19.cap) ∧
       ∃ v20 : ByteArray, hcell h7 (adr (newA h1) 0) = some (.string v20) ∧
       ∃ v21 : ByteArray, hcell h7 (adr (newA h1) 1) = some (.string v21) ∧
       HC PG f_r03_Put [.slice v19.a v19.len v19.cap, .agg #[.string v20, .string v21]] [.c .slice] (fun (e22 : SliceV) h23 =>
        (Wr h23 (adr (newA h0) 4) ∧
         At (hset h23 (adr (newA h0) 4) (.slice e22.a e22.len e22.cap)) (fun h24 =>
          ∃ v25 : Int, hcell h24 (adr (newA h0) 0) = some (.int .i64 v25) ∧
          ∃ v26 : Int, hcell h24 (adr (newA h0) 1) = some (.int .u64 v26) ∧
          ∃ v27 : Int, hcell h24 (adr (newA h0) 2) = some (.int .u64 v27) ∧
          ∃ v28 : Int, hcell h24 (adr (newA h0) 3) = some (.int .u64 v28) ∧
          ∃ v29 : SliceV, hcell h24 (adr (newA h0) 4) = some (.slice v29.a v29.len v29.cap) ∧
          (WrS h24 (some (newA h2)) 0 [.int .i64 v25, .int .u64 v26, .int .u64 v27, .int .u64 v28, .slice v29.a v29.len v29.cap] ∧
           At (hsetL h24 (newA h2) 0 [.int .i64 v25, .int .u64 v26, .int .u64 v27, .int .u64 v28, .slice v29.a v29.len v29.cap]) (fun h30 =>
            ∃ v31 : Int, hcell h30 (adr (newA h2) 0) = some (.int .i64 v31) ∧
            ∃ v32 : Int, hcell h30 (adr (newA h2) 1) = some (.int .u64 v32) ∧
            ∃ v33 : Int, hcell h30 (adr (newA h2) 2) = some (.int .u64 v33) ∧
            ∃ v34 : Int, hcell h30 (adr (newA h2) 3) = some (.int .u64 v34) ∧
            ∃ v35 : SliceV, hcell h30 (adr (newA h2) 4) = some (.slice v35.a v35.len v35.cap) ∧
            K ((v31, v32, v33, v34, v35), 0) h30))))) h7)) h3)))
def A_r14_With : Ann := .node (.reg [2, 3, 4] (.nil)) (.node (.node (.reg [2, 3, 4, 6] (.nil)) (.node (.reg [2, 3, 4, 6, 13] (.nil)) (.node (.node (.reg [4, 5] (.nil)) (.nil)) (.nil)))) (.node (.reg [2, 4] (.nil)) (.node (.reg [4, 5] (.nil)) (.nil))))
theorem E_r14_With (x0 : Int × Int × Int × Int × SliceV) (x1 : ByteArray × ByteArray) (K : Tup [.agg [.int .i64, .int .u64, .int .u64, .int .u64, .slice], .c (.int .i64)] → Heap → Prop) (h0 : Heap) : F_r14_With x0 x1 K h0 = sBody PG Tryz.f50 (Tryz.f50.body.getD .skip) A_r14_With [.agg #[.int .i64 x0.1, .int .u64 x0.2.1, .int .u64 x0.2.2.1, .int .u64 x0.2.2.2.1, .slice x0.2.2.2.2.a x0.2.2.2.2.len x0.2.2.2.2.cap], .agg #[.string x1.1, .string x1.2]] [.agg [.int .i64, .int .u64, .int .u64, .int .u64, .slice], .c (.int .i64)] K h0 := by kernel_rfl
theorem H_r14_With (x0 : Int × Int × Int × Int × SliceV) (x1 : ByteArray × ByteArray) {K : Tup [.agg [.int .i64, .int .u64, .int .u64, .int .u64, .slice], .c (.int .i64)] → Heap → Prop} {h0 : Heap} (h : F_r14_With x0 x1 K h0) : HC PG f_r14_With [.agg #[.int .i64 x0.1, .int .u64 x0.2.1, .int .u64 x0.2.2.1, .int .u64 x0.2.2.2.1, .slice x0.2.2.2.2.a x0.2.2.2.2.len x0.2.2.2.2.cap], .agg #[.string x1.1, .string x1.2]] [.agg [.int .i64, .int .u64, .int .u64, .int .u64, .slice], .c (.int .i64)] K h0 := HC.intro Tryz.mixed Tryz.func50 rfl Tryz.call50 (Nat.le_of_ble_eq_true rfl) ((E_r14_With x0 x1 K h0) ▸ h)
/-- quickset/quicksetref03.Same -/
def F_r03_Same (x0 : SliceV) (x1 : SliceV) (K : (Bool) → Heap → Prop) (h0 : Heap) : Prop :=
  CondP ((x0.len : Int) != (x1.len : Int)) (
   K false h0) (
   LoopP (fun I1 (t2 : Int) h3 => -- (13)
    CondP (decide (t2 < (x0.len : Int))) (
     (((0 : Int) ≤ t2 ∧ t2 < ((x0.len : Nat) : Int)) ∧ ∃ a4 : Addr, x0.a = some a4 ∧
      ∃ v5 : ByteArray, hcell h3 (adr (adr a4 (t2.toNat * 2)) 0) = some (.string v5) ∧
      ∃ v6 : ByteArray, hcell h3 (adr (adr a4 (t2.toNat * 2)) 1) = some (.string v6) ∧
      (((0 : Int) ≤ t2 ∧ t2 < ((x1.len : Nat) : Int)) ∧ ∃ a7 : Addr, x1.a = some a7 ∧
       ∃ v8 : ByteArray, hcell h3 (adr (adr a7 (t2.toNat * 2)) 0) = some (.string v8) ∧
       ∃ v9 : ByteArray, hcell h3 (adr (adr a7 (t2.toNat * 2)) 1) = some (.string v9) ∧
       CondP (!(((v5.toList == v8.toList) && ((v6.toList == v9.toList) && true)))) (
        K false h3) (
        I1 (IntKind.wrap .i64 (t2 + 1)) h3)))) (
     K true h3)) 0 h0)
def A_r03_Same : Ann := .node (.reg [0, 1] (.nil)) (.node (.node (.reg [0, 1, 10] (.nil)) (.node (.node (.reg [4] (.nil)) (.nil)) (.nil))) (.node (.node (.reg [0, 1, 12, 13] (.nil)) (.loop [0, 1, 12] [(13, .c (.int .i64))] (.node (.reg [0, 1, 12, 13, 14] (.nil)) (.node (.nil) (.node (.node (.reg [0, 1, 5, 12, 13] (.nil)) (.node (.reg [0, 1, 12, 13, 24] (.draw [.mk 0 511 1 65536, .mk 0 511 32 131072, .mk 3 508 196608 262144, .mk 4 507 262144 524288, .mk 0 511 2 1048576, .mk 0 511 32 2097152, .mk 48 463 3145728 4194304, .mk 64 447 4194304 8388608, .mk 136 375 8912896 16777216] (.take 0 (.take 1 (.take 2 (.take 3 (.take 4 (.take 5 (.take 6 (.take 7 (.take 8 (.done)))))))))))) (.node (.node (.reg [4] (.nil)) (.nil)) (.nil)))) (.reg [0, 1, 12, 13] (.nil))))))) (.node (.reg [4] (.nil)) (.nil))))
theorem E_r03_Same (x0 : SliceV) (x1 : SliceV) (K : Tup [.c .bool] → Heap → Prop) (h0 : Heap) : F_r03_Same x0 x1 K h0 = sBody PG Tryz.f51 (Tryz.f51.body.getD .skip) A_r03_Same [.slice x0.a x0.len x0.cap, .slice x1.a x1.len x1.cap] [.c .bool] K h0 := by kernel_rfl
theorem H_r03_Same (x0 : SliceV) (x1 : SliceV) {K : Tup [.c .bool] → Heap → Prop} {h0 : Heap} (h : F_r03_Same x0 x1 K h0) : HC PG f_r03_Same [.slice x0.a x0.len x0.cap, .slice x1.a x1.len x1.cap] [.c .bool] K h0 := HC.intro Tryz.mixed Tryz.func51 rfl Tryz.call51 (Nat.le_of_ble_eq_true rfl) ((E_r03_Same x0 x1 K h0) ▸ h)
/-- quickset/radix.Put -/
def F_radix_Put (x0 : Option Addr) (x1 : Option Addr) (x2 : ByteArray × ByteArray) (K : ((Option Addr) × Bool) → Heap → Prop) (h0 : Heap) : Prop :=
  At (hnew h0 [.string x2.1, .string x2.2] t_pair_Pair) (fun h1 =>
   ∃ v2 : ByteArray, hcell h1 (adr (newA h0) 0) = some (.string v2) ∧
   ∃ v3 : ByteArray, hcell h1 (adr (newA h0) 1) = some (.string v3) ∧
   HC PG f_radix_some [.pointer x1] [.c .ptr] (fun (e4 : Option Addr) h5 =>
    (hcell h5 (adr (newA h0) 1) = some (.string v3) ∧
     (hcell h5 (adr (newA h0) 0) = some (.string v2) ∧
      HC PG f_radix_Node_put [.pointer e4, .pointer x0, .string v2, .string v3] [.c .ptr, .c .bool, .c .bool] (fun (e6 : (Option Addr) × Bool × Bool) h7 =>
       K (e6.1, e6.2.1) h7) h5))) h1)
def A_radix_Put : Ann := .node (.reg [0, 1, 5] (.nil)) (.node (.reg [8, 9] (.draw [.mk 0 32767 2 4096, .mk 1 32766 4096 8192, .mk 0 32767 1 16384, .mk 0 32767 32 32768, .mk 8 32759 32768 65536, .mk 0 32767 32 131072, .mk 32 32735 131072 262144, .mk 86 32681 352256 524288, .mk 128 32639 524288 2048, .mk 256 32511 2048 1048576, .mk 256 32511 2048 2097152, .mk 256 32511 2048 4194304, .mk 1023 32255 1048576 256, .mk 6143 31743 2097152 512, .mk 16383 30719 4194304 1024] (.take 0 (.take 2 (.take 3 (.take 4 (.take 5 (.take 6 (.all (.last 1 (.all (.last 7 (.take 8 (.take 9 (.take 10 (.take 11 (.take 12 (.take 13 (.take 14 (.done)))))))))))))))))))) (.node (.reg [6, 7] (.nil)) (.nil)))
theorem E_radix_Put (x0 : Option Addr) (x1 : Option Addr) (x2 : ByteArray × ByteArray) (K : Tup [.c .ptr, .c .bool] → Heap → Prop) (h0 : Heap) : F_radix_Put x0 x1 x2 K h0 = sBody PG Tryz.f52 (Tryz.f52.body.getD .skip) A_radix_Put [.pointer x0, .pointer x1, .agg #[.string x2.1, .string x2.2]] [.c .ptr, .c .bool] K h0 := by kernel_rfl
theorem H_radix_Put (x0 : Option Addr) (x1 : Option Addr) (x2 : ByteArray × ByteArray) {K : Tup [.c .ptr, .c .bool] → Heap → Prop} {h0 : Heap} (h : F_radix_Put x0 x1 x2 K h0) : HC PG f_radix_Put [.pointer x0, .pointer x1, .agg #[.string x2.1, .string x2.2]] [.c .ptr, .c .bool] K h0 := HC.intro Tryz.mixed Tryz.func52 rfl Tryz.call52 (Nat.le_of_ble_eq_true rfl) ((E_radix_Put x0 x1 x2 K h0) ▸ h)
/-- quickset/champ.Put -/
def F_champ_Put (x0 : Int × Int × Int) (x1 : Option Addr) (x2 : Option Addr) (x3 : ByteArray × ByteArray) (K : ((Option Addr) × Bool) → Heap → Prop) (h0 : Heap) : Prop :=
  At (hnew h0 [.int .u64 x0.1, .int .u64 x0.2.1, .int .u64 x0.2.2] t_sip_Hasher) (fun h1 =>
   At (hnew h1 [.string x3.1, .string x3.2] t_pair_Pair) (fun h2 =>
    ∃ v3 : Int, hcell h2 (adr (newA h0) 0) = some (.int .u64 v3) ∧
    ∃ v4 : Int, hcell h2 (adr (newA h0) 1) = some (.int .u64 v4) ∧
    ∃ v5 : Int, hcell h2 (adr (newA h0) 2) = some (.int .u64 v5) ∧
    ∃ v6 : ByteArray, hcell h2 (adr (newA h1) 0) = some (.string v6) ∧
    ∃ v7 : Int, hcell h2 (adr (newA h0) 0) = some (.int .u64 v7) ∧
    ∃ v8 : Int, hcell h2 (adr (newA h0) 1) = some (.int .u64 v8) ∧
    ∃ v9 : Int, hcell h2 (adr (newA h0) 2) = some (.int .u64 v9) ∧
    ∃ v10 : ByteArray, hcell h2 (adr (newA h1) 0) = some (.string v10) ∧
    ((HC PG f_sip_Hasher_Hash [.agg #[.int .u64 v7, .int .u64 v8, .int .u64 v9], .string v10] [.c (.int .u64)] (fun (e11 : Int) h12 =>
       (hcell h12 (adr (newA h1) 0) = some (.string v6) ∧
        ((hcell h12 (adr (newA h0) 0) = some (.int .u64 v3) ∧ hcell h12 (adr (newA h0) 1) = some (.int .u64 v4) ∧ hcell h12 (adr (newA h0) 2) = some (.int .u64 v5)) ∧
         ((At (hnew h12 [.int .u64 0, .int .u64 0, .int .u64 0, .pointer none, .string (⟨#[]⟩ : ByteArray), .int .u64 0] t_champ_work) (fun h13 =>
            (WrS h13 (some (newA h12)) 0 [.int .u64 v3, .int .u64 v4, .int .u64 v5, .pointer x1, .string v6, .int .u64 e11] ∧
             At (hsetL h13 (newA h12) 0 [.int .u64 v3, .int .u64 v4, .int .u64 v5, .pointer x1, .string v6, .int .u64 e11]) (fun h14 =>
              ∃ v15 : Int, hcell h14 (adr (newA h12) 0) = some (.int .u64 v15) ∧
              ∃ v16 : Int, hcell h14 (adr (newA h12) 1) = some (.int .u64 v16) ∧
              ∃ v17 : Int, hcell h14 (adr (newA h12) 2) = some (.int .u64 v17) ∧
              ∃ v18 : Option Addr, hcell h14 (adr (newA h12) 3) = some (.pointer v18) ∧
              ∃ v19 : ByteArray, hcell h14 (adr (newA h12) 4) = some (.string v19) ∧
              ∃ v20 : Int, hcell h14 (adr (newA h12) 5) = some (.int .u64 v20) ∧
              ∃ v21 : ByteArray, hcell h14 (adr (newA h1) 0) = some (.string v21) ∧
              ∃ v22 : ByteArray, hcell h14 (adr (newA h1) 1) = some (.string v22) ∧
              HC PG f_champ_some [.pointer x2] [.c .ptr] (fun (e23 : Option Addr) h24 =>
               ((hcell h24 (adr (newA h1) 0) = some (.string v21) ∧ hcell h24 (adr (newA h1) 1) = some (.string v22)) ∧
                ((hcell h24 (adr (newA h12) 0) = some (.int .u64 v15) ∧ hcell h24 (adr (newA h12) 1) = some (.int .u64 v16) ∧ hcell h24 (adr (newA h12) 2) = some (.int .u64 v17) ∧ hcell h24 (adr (newA h12) 3) = some (.pointer v18) ∧ hcell h24 (adr (newA h12) 4) = some (.string v19) ∧ hcell h24 (adr (newA h12) 5) = some (.int .u64 v20)) ∧
                 HC PG f_champ_work_put [.agg #[.int .u64 v15, .int .u64 v16, .int .u64 v17, .pointer v18, .string v19, .int .u64 v20], .pointer e23, .agg #[.string v21, .string v22], .int .i64 0] [.c .ptr, .c .bool, .c .bool] (fun (e25 : (Option Addr) × Bool × Bool) h26 =>
                  K (e25.1, e25.2.1) h26) h24))) h14)))) ∧
          At (hnew h12 [.int .u64 0, .int .u64 0, .int .u64 0, .pointer none, .string (⟨#[]⟩ : ByteArray), .int .u64 0] t_champ_work) (fun h27 =>
           (hcell h27 (adr (newA h1) 0) = some (.string v6) ∧
            ((hcell h27 (adr (newA h0) 0) = some (.int .u64 v3) ∧ hcell h27 (adr (newA h0) 1) = some (.int .u64 v4) ∧ hcell h27 (adr (newA h0) 2) = some (.int .u64 v5)) ∧
             (WrS h27 (some (newA h12)) 0 [.int .u64 v3, .int .u64 v4, .int .u64 v5, .pointer x1, .string v6, .int .u64 e11] ∧
              At (hsetL h27 (newA h12) 0 [.int .u64 v3, .int .u64 v4, .int .u64 v5, .pointer x1, .string v6, .int .u64 e11]) (fun h28 =>
               ∃ v29 : Int, hcell h28 (adr (newA h12) 0) = some (.int .u64 v29) ∧
               ∃ v30 : Int, hcell h28 (adr (newA h12) 1) = some (.int .u64 v30) ∧
               ∃ v31 : Int, hcell h28 (adr (newA h12) 2) = some (.int .u64 v31) ∧
               ∃ v32 : Option Addr, hcell h28 (adr (newA h12) 3) = some (.pointer v32) ∧
               ∃ v33 : ByteArray, hcell h28 (adr (newA h12) 4) = some (.string v33) ∧
               ∃ v34 : Int, hcell h28 (adr (newA h12) 5) = some (.int .u64 v34) ∧
               ∃ v35 : ByteArray, hcell h28 (adr (newA h1) 0) = some (.string v35) ∧
               ∃ v36 : ByteArray, hcell h28 (adr (newA h1) 1) = some (.string v36) ∧
               HC PG f_champ_some [.pointer x2] [.c .ptr] (fun (e37 : Option Addr) h38 =>
                ((hcell h38 (adr (newA h1) 0) = some (.string v35) ∧ hcell h38 (adr (newA h1) 1) = some (.string v36)) ∧
                 ((hcell h38 (adr (newA h12) 0) = some (.int .u64 v29) ∧ hcell h38 (adr (newA h12) 1) = some (.int .u64 v30) ∧ hcell h38 (adr (newA h12) 2) = some (.int .u64 v31) ∧ hcell h38 (adr (newA h12) 3) = some (.pointer v32) ∧ hcell h38 (adr (newA h12) 4) = some (.string v33) ∧ hcell h38 (adr (newA h12) 5) = some (.int .u64 v34)) ∧
                  HC PG f_champ_work_put [.agg #[.int .u64 v29, .int .u64 v30, .int .u64 v31, .pointer v32, .string v33, .int .u64 v34], .pointer e37, .agg #[.string v35, .string v36], .int .i64 0] [.c .ptr, .c .bool, .c .bool] (fun (e39 : (Option Addr) × Bool × Bool) h40 =>
                   K (e39.1, e39.2.1) h40) h38))) h28))))))))) h2) ∧
     At (hnew h2 [.int .u64 0, .int .u64 0, .int .u64 0, .pointer none, .string (⟨#[]⟩ : ByteArray), .int .u64 0] t_champ_work) (fun h41 =>
      (hcell h41 (adr (newA h1) 0) = some (.string v10) ∧
       ((hcell h41 (adr (newA h0) 0) = some (.int .u64 v7) ∧ hcell h41 (adr (newA h0) 1) = some (.int .u64 v8) ∧ hcell h41 (adr (newA h0) 2) = some (.int .u64 v9)) ∧
        (hcell h41 (adr (newA h1) 0) = some (.string v6) ∧
         ((hcell h41 (adr (newA h0) 0) = some (.int .u64 v3) ∧ hcell h41 (adr (newA h0) 1) = some (.int .u64 v4) ∧ hcell h41 (adr (newA h0) 2) = some (.int .u64 v5)) ∧
          HC PG f_sip_Hasher_Hash [.agg #[.int .u64 v7, .int .u64 v8, .int .u64 v9], .string v10] [.c (.int .u64)] (fun (e42 : Int) h43 =>
           (hcell h43 (adr (newA h1) 0) = some (.string v6) ∧
            ((hcell h43 (adr (newA h0) 0) = some (.int .u64 v3) ∧ hcell h43 (adr (newA h0) 1) = some (.int .u64 v4) ∧ hcell h43 (adr (newA h0) 2) = some (.int .u64 v5)) ∧
             (WrS h43 (some (newA h2)) 0 [.int .u64 v3, .int .u64 v4, .int .u64 v5, .pointer x1, .string v6, .int .u64 e42] ∧
              At (hsetL h43 (newA h2) 0 [.int .u64 v3, .int .u64 v4, .int .u64 v5, .pointer x1, .string v6, .int .u64 e42]) (fun h44 =>
               ∃ v45 : Int, hcell h44 (adr (newA h2) 0) = some (.int .u64 v45) ∧
               ∃ v46 : Int, hcell h44 (adr (newA h2) 1) = some (.int .u64 v46) ∧
               ∃ v47 : Int, hcell h44 (adr (newA h2) 2) = some (.int .u64 v47) ∧
               ∃ v48 : Option Addr, hcell h44 (adr (newA h2) 3) = some (.pointer v48) ∧
               ∃ v49 : ByteArray, hcell h44 (adr (newA h2) 4) = some (.string v49) ∧
               ∃ v50 : Int, hcell h44 (adr (newA h2) 5) = some (.int .u64 v50) ∧
               ∃ v51 : ByteArray, hcell h44 (adr (newA h1) 0) = some (.string v51) ∧
               ∃ v52 : ByteArray, hcell h44 (adr (newA h1) 1) = some (.string v52) ∧
               HC PG f_champ_some [.pointer x2] [.c .ptr] (fun (e53 : Option Addr) h54 =>
                ((hcell h54 (adr (newA h1) 0) = some (.string v51) ∧ hcell h54 (adr (newA h1) 1) = some (.string v52)) ∧
                 ((hcell h54 (adr (newA h2) 0) = some (.int .u64 v45) ∧ hcell h54 (adr (newA h2) 1) = some (.int .u64 v46) ∧ hcell h54 (adr (newA h2) 2) = some (.int .u64 v47) ∧ hcell h54 (adr (newA h2) 3) = some (.pointer v48) ∧ hcell h54 (adr (newA h2) 4) = some (.string v49) ∧ hcell h54 (adr (newA h2) 5) = some (.int .u64 v50)) ∧
                  HC PG f_champ_work_put [.agg #[.int .u64 v45, .int .u64 v46, .int .u64 v47, .pointer v48, .string v49, .int .u64 v50], .pointer e53, .agg #[.string v51, .string v52], .int .i64 0] [.c .ptr, .c .bool, .c .bool] (fun (e55 : (Option Addr) × Bool × Bool) h56 =>
                   K (e55.1, e55.2.1) h56) h54))) h44))))) h41))))))))
def A_champ_Put : Ann := .node (.reg [1, 2, 4, 7] (.nil)) (.node (.reg [2, 7, 10] (.draw [.mk 0 2047 16 16384, .mk 0 2047 2 32768, .mk 0 2047 128 65536, .mk 4 2043 65536 131072, .mk 0 2047 16 262144, .mk 0 2047 128 524288, .mk 32 2015 524288 1048576, .mk 80 1967 1310720 2097152, .mk 139 1908 2277376 4194304, .mk 0 2047 0 1024, .mk 1023 1279 4195328 0] (.take 0 (.take 1 (.take 2 (.take 3 (.take 4 (.take 5 (.take 6 (.all (.pick 7 (.all (.pick 8 (.all (.last 9 (.all (.last 10 (.done))))) (.last 9 (.all (.last 8 (.all (.last 10 (.done)))))))) (.last 9 (.all (.last 7 (.all (.last 8 (.all (.last 10 (.done))))))))))))))))))) (.node (.reg [11, 12] (.draw [.mk 0 4095 1024 16777216, .mk 0 4095 4 33554432, .mk 2 4093 33554432 67108864, .mk 0 4095 128 134217728, .mk 13 4082 218103808 268435456, .mk 16 4079 268435456 8388608, .mk 32 4063 8388608 536870912, .mk 32 4063 8388608 1073741824, .mk 32 4063 8388608 2147483648, .mk 127 4031 536870912 2048, .mk 767 3967 1073741824 4096, .mk 2047 3839 2147483648 8192] (.take 0 (.take 1 (.take 3 (.all (.last 2 (.all (.last 4 (.take 5 (.take 6 (.take 7 (.take 8 (.take 9 (.take 10 (.take 11 (.done))))))))))))))))) (.node (.reg [8, 9] (.nil)) (.nil))))
theorem E_champ_Put (x0 : Int × Int × Int) (x1 : Option Addr) (x2 : Option Addr) (x3 : ByteArray × ByteArray) (K : Tup [.c .ptr, .c .bool] → Heap → Prop) (h0 : Heap) : F_champ_Put x0 x1 x2 x3 K h0 = sBody PG Tryz.f53 (Tryz.f53.body.getD .skip) A_champ_Put [.agg #[.int .u64 x0.1, .int .u64 x0.2.1, .int .u64 x0.2.2], .pointer x1, .pointer x2, .agg #[.string x3.1, .string x3.2]] [.c .ptr, .c .bool] K h0 := by kernel_rfl
theorem H_champ_Put (x0 : Int × Int × Int) (x1 : Option Addr) (x2 : Option Addr) (x3 : ByteArray × ByteArray) {K : Tup [.c .ptr, .c .bool] → Heap → Prop} {h0 : Heap} (h : F_champ_Put x0 x1 x2 x3 K h0) : HC PG f_champ_Put [.agg #[.int .u64 x0.1, .int .u64 x0.2.1, .int .u64 x0.2.2], .pointer x1, .pointer x2, .agg #[.string x3.1, .string x3.2]] [.c .ptr, .c .bool] K h0 := HC.intro Tryz.mixed Tryz.func53 rfl Tryz.call53 (Nat.le_of_ble_eq_true rfl) ((E_champ_Put x0 x1 x2 x3 K h0) ▸ h)
/-- quickset/quicksetref03.Find -/
def F_r03_Find (x0 : SliceV) (x1 : ByteArray) (K : (Int × Bool) → Heap → Prop) (h0 : Heap) : Prop :=
  LoopP (fun I1 (t2 : Int) h3 => -- i(6)
   Join (fun (t9 : Bool) h10 => -- (19)
    CondP t9 (
     I1 (IntKind.wrap .i64 (t2 + 1)) h10) (
     CondP (decide (t2 < (x0.len : Int))) (
      (((0 : Int) ≤ t2 ∧ t2 < ((x0.len : Nat) : Int)) ∧ ∃ a11 : Addr, x0.a = some a11 ∧
       ∃ v12 : ByteArray, hcell h10 (adr (adr a11 (t2.toNat * 2)) 0) = some (.string v12) ∧
       K (t2, v12.toList == x1.toList) h10)) (
      K (t2, false) h10))) (fun J4 =>
    CondP (decide (t2 < (x0.len : Int))) (
     (((0 : Int) ≤ t2 ∧ t2 < ((x0.len : Nat) : Int)) ∧ ∃ a5 : Addr, x0.a = some a5 ∧
      ∃ v6 : ByteArray, hcell h3 (adr (adr a5 (t2.toNat * 2)) 0) = some (.string v6) ∧
      HC PG f_r03_Less [.string v6, .string x1] [.c .bool] (fun (e7 : Bool) h8 =>
       J4 e7 h8) h3)) (
     J4 false h3))) 0 h0
def A_r03_Find : Ann := .node (.reg [0, 1] (.nil)) (.node (.reg [0, 1, 6] (.nil)) (.node (.loop [0, 1] [(6, .c (.int .i64))] (.node (.join [0, 1, 6] [(19, .c .bool)] (.reg [0, 1, 6, 19] (.nil)) (.nil)) (.reg [0, 1, 6] (.nil)))) (.node (.reg [4, 5] (.draw [.mk 0 65535 64 4194304, .mk 0 65535 64 8388608, .mk 0 65535 1 16777216, .mk 4 65531 16777216 33554432, .mk 10 65525 41943040 67108864, .mk 16 65519 67108864 134217728, .mk 32 65503 134217729 268435456, .mk 32 65503 134217792 536870912, .mk 224 65311 939524096 1073741824, .mk 288 65247 1207959552 2147483648, .mk 544 64991 2281701376 4294967296, .mk 32 65503 134217730 8589934592, .mk 3104 62431 13019119616 17179869184, .mk 4128 61407 17314086912 34359738368, .mk 33 65534 4194304 16, .mk 32767 57343 34359738368 32] (.take 0 (.take 1 (.take 2 (.take 3 (.take 4 (.take 5 (.take 14 (.split 27 (.take 6 (.take 7 (.take 8 (.take 9 (.take 10 (.take 11 (.take 12 (.take 13 (.take 15 (.done)))))))))) (.take 6 (.take 7 (.take 8 (.take 9 (.take 10 (.take 11 (.take 12 (.take 13 (.take 15 (.done)))))))))))))))))))) (.nil))))
theorem E_r03_Find (x0 : SliceV) (x1 : ByteArray) (K : Tup [.c (.int .i64), .c .bool] → Heap → Prop) (h0 : Heap) : F_r03_Find x0 x1 K h0 = sBody PG Tryz.f54 (Tryz.f54.body.getD .skip) A_r03_Find [.slice x0.a x0.len x0.cap, .string x1] [.c (.int .i64), .c .bool] K h0 := by kernel_rfl
theorem H_r03_Find (x0 : SliceV) (x1 : ByteArray) {K : Tup [.c (.int .i64), .c .bool] → Heap → Prop} {h0 : Heap} (h : F_r03_Find x0 x1 K h0) : HC PG f_r03_Find [.slice x0.a x0.len x0.cap, .string x1] [.c (.int .i64), .c .bool] K h0 := HC.intro Tryz.mixed Tryz.func54 rfl Tryz.call54 (Nat.le_of_ble_eq_true rfl) ((E_r03_Find x0 x1 K h0) ▸ h)
/-- quickset/radix.Drop -/
def F_radix_Drop (x0 : Option Addr) (x1 : Option Addr) (x2 : ByteArray) (K : ((Option Addr) × Bool) → Heap → Prop) (h0 : Heap) : Prop :=
  HC PG f_radix_some [.pointer x1] [.c .ptr] (fun (e1 : Option Addr) h2 =>
   HC PG f_radix_Node_drop [.pointer e1, .pointer x0, .string x2] [.c .ptr, .c .bool] (fun (e3 : (Option Addr) × Bool) h4 =>
    K (e3.1, e3.2) h4) h2) h0
def A_radix_Drop : Ann := .node (.reg [0, 1, 2] (.nil)) (.node (.reg [6, 7] (.nil)) (.nil))
theorem E_radix_Drop (x0 : Option Addr) (x1 : Option Addr) (x2 : ByteArray) (K : Tup [.c .ptr, .c .bool] → Heap → Prop) (h0 : Heap) : F_radix_Drop x0 x1 x2 K h0 = sBody PG Tryz.f55 (Tryz.f55.body.getD .skip) A_radix_Drop [.pointer x0, .pointer x1, .string x2] [.c .ptr, .c .bool] K h0 := by kernel_rfl
theorem H_radix_Drop (x0 : Option Addr) (x1 : Option Addr) (x2 : ByteArray) {K : Tup [.c .ptr, .c .bool] → Heap → Prop} {h0 : Heap} (h : F_radix_Drop x0 x1 x2 K h0) : HC PG f_radix_Drop [.pointer x0, .pointer x1, .string x2] [.c .ptr, .c .bool] K h0 := HC.intro Tryz.mixed Tryz.func55 rfl Tryz.call55 (Nat.le_of_ble_eq_true rfl) ((E_radix_Drop x0 x1 x2 K h0) ▸ h)
/-- quickset/champ.Drop -/
def F_champ_Drop (x0 : Int × Int × Int) (x1 : Option Addr) (x2 : Option Addr) (x3 : ByteArray) (K : ((Option Addr) × Bool) → Heap → Prop) (h0 : Heap) : Prop :=
  At (hnew h0 [.int .u64 x0.1, .int .u64 x0.2.1, .int .u64 x0.2.2] t_sip_Hasher) (fun h1 =>
   HC PG f_champ_some [.pointer x2] [.c .ptr] (fun (e2 : Option Addr) h3 =>
    ∃ v4 : Int, hcell h3 (adr (newA h0) 0) = some (.int .u64 v4) ∧
    ∃ v5 : Int, hcell h3 (adr (newA h0) 1) = some (.int .u64 v5) ∧
    ∃ v6 : Int, hcell h3 (adr (newA h0) 2) = some (.int .u64 v6) ∧
    ∃ v7 : Int, hcell h3 (adr (newA h0) 0) = some (.int .u64 v7) ∧
    ∃ v8 : Int, hcell h3 (adr (newA h0) 1) = some (.int .u64 v8) ∧
    ∃ v9 : Int, hcell h3 (adr (newA h0) 2) = some (.int .u64 v9) ∧
    HC PG f_sip_Hasher_Hash [.agg #[.int .u64 v7, .int .u64 v8, .int .u64 v9], .string x3] [.c (.int .u64)] (fun (e10 : Int) h11 =>
     ((hcell h11 (adr (newA h0) 0) = some (.int .u64 v4) ∧ hcell h11 (adr (newA h0) 1) = some (.int .u64 v5) ∧ hcell h11 (adr (newA h0) 2) = some (.int .u64 v6)) ∧
      HC PG f_champ_work_drop [.agg #[.int .u64 v4, .int .u64 v5, .int .u64 v6, .pointer x1, .string x3, .int .u64 e10], .pointer e2, .int .i64 0] [.c .ptr, .c .bool] (fun (e12 : (Option Addr) × Bool) h13 =>
       K (e12.1, e12.2) h13) h11)) h3) h1)
def A_champ_Drop : Ann := .node (.reg [1, 2, 3, 4] (.nil)) (.node (.reg [1, 2, 3, 4] (.nil)) (.node (.reg [8, 9] (.draw [.mk 0 8191 16 4096, .mk 0 8191 2 8192, .mk 0 8191 8 16384, .mk 0 8191 16 32768, .mk 0 8191 8 65536, .mk 24 8167 98304 131072, .mk 39 8152 159744 262144, .mk 0 8191 4 524288, .mk 224 7999 786432 1048576, .mk 256 7935 1048576 2097152, .mk 256 7935 1048576 4194304, .mk 2047 7679 2097152 256, .mk 4095 7167 4194304 512] (.take 0 (.take 1 (.take 2 (.take 3 (.take 4 (.take 7 (.all (.last 5 (.all (.last 6 (.all (.last 8 (.take 9 (.take 10 (.take 11 (.take 12 (.done))))))))))))))))))) (.nil)))
theorem E_champ_Drop (x0 : Int × Int × Int) (x1 : Option Addr) (x2 : Option Addr) (x3 : ByteArray) (K : Tup [.c .ptr, .c .bool] → Heap → Prop) (h0 : Heap) : F_champ_Drop x0 x1 x2 x3 K h0 = sBody PG Tryz.f56 (Tryz.f56.body.getD .skip) A_champ_Drop [.agg #[.int .u64 x0.1, .int .u64 x0.2.1, .int .u64 x0.2.2], .pointer x1, .pointer x2, .string x3] [.c .ptr, .c .bool] K h0 := by kernel_rfl
theorem H_champ_Drop (x0 : Int × Int × Int) (x1 : Option Addr) (x2 : Option Addr) (x3 : ByteArray) {K : Tup [.c .ptr, .c .bool] → Heap → Prop} {h0 : Heap} (h : F_champ_Drop x0 x1 x2 x3 K h0) : HC PG f_champ_Drop [.agg #[.int .u64 x0.1, .int .u64 x0.2.1, .int .u64 x0.2.2], .pointer x1, .pointer x2, .string x3] [.c .ptr, .c .bool] K h0 := HC.intro Tryz.mixed Tryz.func56 rfl Tryz.call56 (Nat.le_of_ble_eq_true rfl) ((E_champ_Drop x0 x1 x2 x3 K h0) ▸ h)
/-- quickset/radix.Shape -/
def F_radix_Shape (x0 : Option Addr) (K : (SliceV) → Heap → Prop) (h0 : Heap) : Prop :=
  CondP x0.isNone (
   K ⟨none, 0, 0⟩ h0) (
   HC PG f_radix_Node_shaped [.pointer x0, .slice none 0 0] [.c .slice] (fun (e1 : SliceV) h2 =>
    K e1 h2) h0)
def A_radix_Shape : Ann := .node (.reg [0] (.nil)) (.node (.node (.reg [0, 4] (.nil)) (.node (.node (.reg [2] (.nil)) (.nil)) (.nil))) (.node (.reg [2] (.nil)) (.nil)))
theorem E_radix_Shape (x0 : Option Addr) (K : Tup [.c .slice] → Heap → Prop) (h0 : Heap) : F_radix_Shape x0 K h0 = sBody PG Tryz.f57 (Tryz.f57.body.getD .skip) A_radix_Shape [.pointer x0] [.c .slice] K h0 := by kernel_rfl
theorem H_radix_Shape (x0 : Option Addr) {K : Tup [.c .slice] → Heap → Prop} {h0 : Heap} (h : F_radix_Shape x0 K h0) : HC PG f_radix_Shape [.pointer x0] [.c .slice] K h0 := HC.intro Tryz.mixed Tryz.func57 rfl Tryz.call57 (Nat.le_of_ble_eq_true rfl) ((E_radix_Shape x0 K h0) ▸ h)
/-- quickset/shape.Of -/
def F_shape_Of (x0 : Option Addr) (K : (SliceV) → Heap → Prop) (h0 : Heap) : Prop :=
  CondP x0.isNone (
   K ⟨none, 0, 0⟩ h0) (
   HC PG f_shape_put [.slice none 0 0, .pointer x0, .int .i64 0] [.c .slice] (fun (e1 : SliceV) h2 =>
    K e1 h2) h0)
def A_shape_Of : Ann := .node (.reg [0] (.nil)) (.node (.node (.reg [0, 4] (.nil)) (.node (.node (.reg [2] (.nil)) (.nil)) (.nil))) (.node (.reg [2] (.nil)) (.nil)))
theorem E_shape_Of (x0 : Option Addr) (K : Tup [.c .slice] → Heap → Prop) (h0 : Heap) : F_shape_Of x0 K h0 = sBody PG Tryz.f58 (Tryz.f58.body.getD .skip) A_shape_Of [.pointer x0] [.c .slice] K h0 := by kernel_rfl
theorem H_shape_Of (x0 : Option Addr) {K : Tup [.c .slice] → Heap → Prop} {h0 : Heap} (h : F_shape_Of x0 K h0) : HC PG f_shape_Of [.pointer x0] [.c .slice] K h0 := HC.intro Tryz.mixed Tryz.func58 rfl Tryz.call58 (Nat.le_of_ble_eq_true rfl) ((E_shape_Of x0 K h0) ▸ h)
/-- (quickset/tree.Tree).Champ -/
def F_tree_Tree_Champ (x0 : Int × Int × Int × Int × (Option Addr) × (Option Addr)) (K : (Option Addr) → Heap → Prop) (h0 : Heap) : Prop :=
  At (hnew h0 [.int .i64 x0.1, .int .u64 x0.2.1, .int .u64 x0.2.2.1, .int .u64 x0.2.2.2.1, .pointer x0.2.2.2.2.1, .pointer x0.2.2.2.2.2] t_tree_Tree) (fun h1 =>
   Join (fun (t5 : Bool) h6 => -- (10)
    CondP t5 (
     HC PG f_champ_Empty [] [.c .ptr] (fun (e7 : Option Addr) h8 =>
      K e7 h8) h6) (
     ∃ v9 : Option Addr, hcell h6 (adr (newA h0) 4) = some (.pointer v9) ∧
     K v9 h6)) (fun J2 =>
    ∃ v3 : Int, hcell h1 (adr (newA h0) 0) = some (.int .i64 v3) ∧
    CondP (v3 == (0 : Int)) (
     ∃ v4 : Option Addr, hcell h1 (adr (newA h0) 4) = some (.pointer v4) ∧
     J2 v4.isNone h1) (
     J2 false h1)))
def A_tree_Tree_Champ : Ann := .node (.reg [1] (.nil)) (.node (.join [1] [(10, .c .bool)] (.reg [1, 10] (.nil)) (.node (.node (.reg [2] (.nil)) (.nil)) (.nil))) (.node (.reg [2] (.nil)) (.nil)))
theorem E_tree_Tree_Champ (x0 : Int × Int × Int × Int × (Option Addr) × (Option Addr)) (K : Tup [.c .ptr] → Heap → Prop) (h0 : Heap) : F_tree_Tree_Champ x0 K h0 = sBody PG Tryz.f59 (Tryz.f59.body.getD .skip) A_tree_Tree_Champ [.agg #[.int .i64 x0.1, .int .u64 x0.2.1, .int .u64 x0.2.2.1, .int .u64 x0.2.2.2.1, .pointer x0.2.2.2.2.1, .pointer x0.2.2.2.2.2]] [.c .ptr] K h0 := by kernel_rfl
theorem H_tree_Tree_Champ (x0 : Int × Int × Int × Int × (Option Addr) × (Option Addr)) {K : Tup [.c .ptr] → Heap → Prop} {h0 : Heap} (h : F_tree_Tree_Champ x0 K h0) : HC PG f_tree_Tree_Champ [.agg #[.int .i64 x0.1, .int .u64 x0.2.1, .int .u64 x0.2.2.1, .int .u64 x0.2.2.2.1, .pointer x0.2.2.2.2.1, .pointer x0.2.2.2.2.2]] [.c .ptr] K h0 := HC.intro Tryz.mixed Tryz.func59 rfl Tryz.call59 (Nat.le_of_ble_eq_true rfl) ((E_tree_Tree_Champ x0 K h0) ▸ h)
/-- quickset/node.Inner -/
def F_node_Inner  (K : (Option Addr) → Heap → Prop) (h0 : Heap) : Prop :=
  At (hnew h0 [.int .u32 0, .int .u32 0, .slice none 0 0, .slice none 0 0, .bool false, .pointer none] t_node_Node) (fun h1 =>
   K (some (newA h0)) h1)
def A_node_Inner : Ann := .node (.reg [] (.nil)) (.node (.reg [0] (.nil)) (.nil))
theorem E_node_Inner  (K : Tup [.c .ptr] → Heap → Prop) (h0 : Heap) : F_node_Inner  K h0 = sBody PG Tryz.f60 (Tryz.f60.body.getD .skip) A_node_Inner [] [.c .ptr] K h0 := by kernel_rfl
theorem H_node_Inner  {K : Tup [.c .ptr] → Heap → Prop} {h0 : Heap} (h : F_node_Inner  K h0) : HC PG f_node_Inner [] [.c .ptr] K h0 := HC.intro Tryz.mixed Tryz.func60 rfl Tryz.call60 (Nat.le_of_ble_eq_true rfl) ((E_node_Inner  K h0) ▸ h)
/-- quickset/sip.Sum -/
def F_sip_Sum (x0 : Int × Int) (x1 : ByteArray) (K : (Int) → Heap → Prop) (h0 : Heap) : Prop :=
  At (hnew h0 [.int .u64 x0.1, .int .u64 x0.2] t_sip_Key) (fun h1 =>
   ∃ v2 : Int, hcell h1 (adr (newA h0) 0) = some (.int .u64 v2) ∧
   Bd (IntKind.wrap .u64 (BitVec.ofInt (IntKind.bits .u64) v2 ^^^ BitVec.ofInt (IntKind.bits .u64) 8317987319222330741).toNat : Int) (fun n3 =>
    ∃ v4 : Int, hcell h1 (adr (newA h0) 1) = some (.int .u64 v4) ∧
    Bd (IntKind.wrap .u64 (BitVec.ofInt (IntKind.bits .u64) v4 ^^^ BitVec.ofInt (IntKind.bits .u64) 7237128888997146477).toNat : Int) (fun n5 =>
     ∃ v6 : Int, hcell h1 (adr (newA h0) 0) = some (.int .u64 v6) ∧
     Bd (IntKind.wrap .u64 (BitVec.ofInt (IntKind.bits .u64) v6 ^^^ BitVec.ofInt (IntKind.bits .u64) 7816392313619706465).toNat : Int) (fun n7 =>
      ∃ v8 : Int, hcell h1 (adr (newA h0) 1) = some (.int .u64 v8) ∧
      Bd (IntKind.wrap .u64 (BitVec.ofInt (IntKind.bits .u64) v8 ^^^ BitVec.ofInt (IntKind.bits .u64) 8387220255154660723).toNat : Int) (fun n9 =>
       At (hnew h1 [.int .u64 0, .int .u64 0, .int .u64 0, .int .u64 0] t_sip_state) (fun h10 =>
        (WrS h10 (some (newA h1)) 0 [.int .u64 n3, .int .u64 n5, .int .u64 n7, .int .u64 n9] ∧
         At (hsetL h10 (newA h1) 0 [.int .u64 n3, .int .u64 n5, .int .u64 n7, .int .u64 n9]) (fun h11 =>
          LoopP (fun I12 (t13 : ByteArray) h14 => -- s(1)
           CondP (decide ((t13.size : Int) ≥ (8 : Int))) (
            (((0 : Int) ≤ (8 : Int) ∧ (8 : Int) ≤ ((t13.size : Nat) : Int)) ∧
             HC PG f_sip_word [.string (t13.extract 0 ((8 : Int).toNat))] [.c (.int .u64)] (fun (e15 : Int) h16 =>
              HC PG f_sip_state_take [.pointer (some (newA h1)), .int .u64 e15] [] (fun (e17 : Unit) h18 =>
               (((0 : Int) ≤ (8 : Int) ∧ (8 : Int) ≤ ((t13.size : Nat) : Int)) ∧
                I12 (t13.extract ((8 : Int).toNat) t13.size) h18)) h16) h14)) (
            HC PG f_sip_word [.string t13] [.c (.int .u64)] (fun (e19 : Int) h20 =>
             ((0 : Int) ≤ (56 : Int) ∧
              Bd (IntKind.wrap .u64 ((IntKind.wrap .u64 (x1.size : Int)) * 2 ^ (min (56 : Int).toNat (IntKind.bits .u64))) : Int) (fun n21 =>
               Bd (IntKind.wrap .u64 (BitVec.ofInt (IntKind.bits .u64) e19 ||| BitVec.ofInt (IntKind.bits .u64) n21).toNat : Int) (fun n22 =>
                HC PG f_sip_state_take [.pointer (some (newA h1)), .int .u64 n22] [] (fun (e23 : Unit) h24 =>
                 (((0 : Int) ≤ (2 : Int) ∧ (2 : Int) < ((4 : Nat) : Int)) ∧
                  ∃ v25 : Int, hcell h24 (adr (newA h1) ((2 : Int).toNat * 1)) = some (.int .u64 v25) ∧
                  Bd (IntKind.wrap .u64 (BitVec.ofInt (IntKind.bits .u64) v25 ^^^ BitVec.ofInt (IntKind.bits .u64) 255).toNat : Int) (fun n26 =>
                   (((0 : Int) ≤ (2 : Int) ∧ (2 : Int) < ((4 : Nat) : Int)) ∧
                    (Wr h24 (adr (newA h1) ((2 : Int).toNat * 1)) ∧
                     At (hset h24 (adr (newA h1) ((2 : Int).toNat * 1)) (.int .u64 n26)) (fun h27 =>
                      HC PG f_sip_state_rounds [.pointer (some (newA h1)), .int .i64 4] [] (fun (e28 : Unit) h29 =>
                       (((0 : Int) ≤ (0 : Int) ∧ (0 : Int) < ((4 : Nat) : Int)) ∧
                        ∃ v30 : Int, hcell h29 (adr (newA h1) ((0 : Int).toNat * 1)) = some (.int .u64 v30) ∧
                        (((0 : Int) ≤ (1 : Int) ∧ (1 : Int) < ((4 : Nat) : Int)) ∧
                         ∃ v31 : Int, hcell h29 (adr (newA h1) ((1 : Int).toNat * 1)) = some (.int .u64 v31) ∧
                         Bd (IntKind.wrap .u64 (BitVec.ofInt (IntKind.bits .u64) v30 ^^^ BitVec.ofInt (IntKind.bits .u64) v31).toNat : Int) (fun n32 =>
                          (((0 : Int) ≤ (2 : Int) ∧ (2 : Int) < ((4 : Nat) : Int)) ∧
                           ∃ v33 : Int, hcell h29 (adr (newA h1) ((2 : Int).toNat * 1)) = some (.int .u64 v33) ∧
                           Bd (IntKind.wrap .u64 (BitVec.ofInt (IntKind.bits .u64) n32 ^^^ BitVec.ofInt (IntKind.bits .u64) v33).toNat : Int) (fun n34 =>
                            (((0 : Int) ≤ (3 : Int) ∧ (3 : Int) < ((4 : Nat) : Int)) ∧
                             ∃ v35 : Int, hcell h29 (adr (newA h1) ((3 : Int).toNat * 1)) = some (.int .u64 v35) ∧
                             Bd (IntKind.wrap .u64 (BitVec.ofInt (IntKind.bits .u64) n34 ^^^ BitVec.ofInt (IntKind.bits .u64) v35).toNat : Int) (fun n36 =>
                              K n36 h29)))))))) h27)))))) h20)))) h14)) x1 h11))))))))
def A_sip_Sum : Ann := .node (.reg [1, 2] (.nil)) (.node (.reg [1, 5] (.nil)) (.node (.reg [1, 5, 6] (.nil)) (.node (.loop [5, 6] [(1, .c .str)] (.node (.node (.reg [1, 5, 6, 24] (.nil)) (.nil)) (.node (.reg [1, 5, 6] (.nil)) (.reg [1, 5, 6] (.nil))))) (.node (.reg [5] (.nil)) (.node (.reg [5] (.nil)) (.node (.reg [5] (.nil)) (.node (.reg [4] (.nil)) (.nil))))))))
theorem E_sip_Sum (x0 : Int × Int) (x1 : ByteArray) (K : Tup [.c (.int .u64)] → Heap → Prop) (h0 : Heap) : F_sip_Sum x0 x1 K h0 = sBody PG Tryz.f61 (Tryz.f61.body.getD .skip) A_sip_Sum [.agg #[.int .u64 x0.1, .int .u64 x0.2], .string x1] [.c (.int .u64)] K h0 := by kernel_rfl
theorem H_sip_Sum (x0 : Int × Int) (x1 : ByteArray) {K : Tup [.c (.int .u64)] → Heap → Prop} {h0 : Heap} (h : F_sip_Sum x0 x1 K h0) : HC PG f_sip_Sum [.agg #[.int .u64 x0.1, .int .u64 x0.2], .string x1] [.c (.int .u64)] K h0 := HC.intro Tryz.mixed Tryz.func61 rfl Tryz.call61 (Nat.le_of_ble_eq_true rfl) ((E_sip_Sum x0 x1 K h0) ▸ h)
/-- quickset/node.Bucket -/
def F_node_Bucket  (K : (Option Addr) → Heap → Prop) (h0 : Heap) : Prop :=
  At (hnew h0 [.int .u32 0, .int .u32 0, .slice none 0 0, .slice none 0 0, .bool true, .pointer none] t_node_Node) (fun h1 =>
   K (some (newA h0)) h1)
def A_node_Bucket : Ann := .node (.reg [] (.nil)) (.node (.reg [0] (.nil)) (.nil))
theorem E_node_Bucket  (K : Tup [.c .ptr] → Heap → Prop) (h0 : Heap) : F_node_Bucket  K h0 = sBody PG Tryz.f62 (Tryz.f62.body.getD .skip) A_node_Bucket [] [.c .ptr] K h0 := by kernel_rfl
theorem H_node_Bucket  {K : Tup [.c .ptr] → Heap → Prop} {h0 : Heap} (h : F_node_Bucket  K h0) : HC PG f_node_Bucket [] [.c .ptr] K h0 := HC.intro Tryz.mixed Tryz.func62 rfl Tryz.call62 (Nat.le_of_ble_eq_true rfl) ((E_node_Bucket  K h0) ▸ h)
/-- (*quickset/node.Node).Put -/
def F_node_Node_Put (x0 : Option Addr) (x1 : Option Addr) (x2 : ByteArray × ByteArray) (K : (Option Addr) → Heap → Prop) (h0 : Heap) : Prop :=
  At (hnew h0 [.string x2.1, .string x2.2] t_pair_Pair) (fun h1 =>
   HC PG f_node_Node_IsBucket [.pointer x0] [.c .bool] (fun (e2 : Bool) h3 =>
    CondP (!e2) (
     K x0 h3) (
     HC PG f_node_Node_own [.pointer x0, .pointer x1] [.c .ptr] (fun (e4 : Option Addr) h5 =>
      ∃ a6 : Addr, e4 = some a6 ∧
      ∃ v7 : SliceV, hcell h5 (adr (adr a6 0) 2) = some (.slice v7.a v7.len v7.cap) ∧
      ∃ v8 : ByteArray, hcell h5 (adr (newA h0) 0) = some (.string v8) ∧
      ∃ v9 : ByteArray, hcell h5 (adr (newA h0) 1) = some (.string v9) ∧
      HC PG f_pair_Put [.slice v7.a v7.len v7.cap, .agg #[.string v8, .string v9]] [.c .slice] (fun (e10 : SliceV) h11 =>
       ∃ a12 : Addr, e4 = some a12 ∧
       (Wr h11 (adr (adr a12 0) 2) ∧
        At (hset h11 (adr (adr a12 0) 2) (.slice e10.a e10.len e10.cap)) (fun h13 =>
         K e4 h13))) h5) h3)) h1)
def A_node_Node_Put : Ann := .node (.reg [0, 1, 5] (.nil)) (.node (.node (.reg [0, 1, 5, 10] (.nil)) (.node (.node (.reg [6] (.nil)) (.nil)) (.nil))) (.node (.reg [5, 7] (.nil)) (.node (.reg [7] (.draw [.mk 0 4095 128 32768, .mk 0 4095 128 65536, .mk 2 4093 65536 131072, .mk 4 4091 131072 262144, .mk 8 4087 262144 524288, .mk 16 4079 524288 1048576, .mk 0 4095 32 2097152, .mk 96 3999 3145728 4194304, .mk 255 4094 32768 8388608, .mk 511 3839 8388608 16777216, .mk 767 3583 16777216 33554432, .mk 1279 2943 37748736 0] (.take 0 (.take 1 (.take 2 (.take 3 (.take 4 (.take 5 (.take 6 (.all (.last 7 (.take 8 (.take 9 (.take 10 (.all (.last 11 (.done))))))))))))))))) (.node (.reg [6] (.nil)) (.nil)))))
theorem E_node_Node_Put (x0 : Option Addr) (x1 : Option Addr) (x2 : ByteArray × ByteArray) (K : Tup [.c .ptr] → Heap → Prop) (h0 : Heap) : F_node_Node_Put x0 x1 x2 K h0 = sBody PG Tryz.f63 (Tryz.f63.body.getD .skip) A_node_Node_Put [.pointer x0, .pointer x1, .agg #[.string x2.1, .string x2.2]] [.c .ptr] K h0 := by kernel_rfl
theorem H_node_Node_Put (x0 : Option Addr) (x1 : Option Addr) (x2 : ByteArray × ByteArray) {K : Tup [.c .ptr] → Heap → Prop} {h0 : Heap} (h : F_node_Node_Put x0 x1 x2 K h0) : HC PG f_node_Node_Put [.pointer x0, .pointer x1, .agg #[.string x2.1, .string x2.2]] [.c .ptr] K h0 := HC.intro Tryz.mixed Tryz.func63 rfl Tryz.call63 (Nat.le_of_ble_eq_true rfl) ((E_node_Node_Put x0 x1 x2 K h0) ▸ h)
/-- quickset/chunk.At -/
def F_chunk_At (x0 : Int) (x1 : Int) (K : (Int) → Heap → Prop) (h0 : Heap) : Prop :=
  Join (fun (t2 : Bool) h3 => -- (10)
   CondP t2 (
    K 0 h3) (
    ((0 : Int) ≤ (IntKind.wrap .i64 (5 * x1)) ∧
     Bd (Int.fdiv x0 (2 ^ (min (IntKind.wrap .i64 (5 * x1) : Int).toNat (IntKind.bits .u64))) : Int) (fun n4 =>
      Bd (IntKind.wrap .u64 (BitVec.ofInt (IntKind.bits .u64) n4 &&& BitVec.ofInt (IntKind.bits .u64) 31).toNat : Int) (fun n5 =>
       K (IntKind.wrap .i64 n5) h3))))) (fun J1 =>
   CondP (decide (x1 < (0 : Int))) (
    J1 true h0) (
    J1 (decide (x1 ≥ (13 : Int))) h0))
def A_chunk_At : Ann := .node (.reg [0, 1] (.nil)) (.node (.join [0, 1] [(10, .c .bool)] (.reg [0, 1, 10] (.nil)) (.node (.node (.reg [4] (.nil)) (.nil)) (.nil))) (.node (.reg [4] (.nil)) (.nil)))
theorem E_chunk_At (x0 : Int) (x1 : Int) (K : Tup [.c (.int .i64)] → Heap → Prop) (h0 : Heap) : F_chunk_At x0 x1 K h0 = sBody PG Tryz.f65 (Tryz.f65.body.getD .skip) A_chunk_At [.int .u64 x0, .int .i64 x1] [.c (.int .i64)] K h0 := by kernel_rfl
theorem H_chunk_At (x0 : Int) (x1 : Int) {K : Tup [.c (.int .i64)] → Heap → Prop} {h0 : Heap} (h : F_chunk_At x0 x1 K h0) : HC PG f_chunk_At [.int .u64 x0, .int .i64 x1] [.c (.int .i64)] K h0 := HC.intro Tryz.mixed Tryz.func65 rfl Tryz.call65 (Nat.le_of_ble_eq_true rfl) ((E_chunk_At x0 x1 K h0) ▸ h)
/-- (*quickset/node.Node).SetPair -/
def F_node_Node_SetPair (x0 : Option Addr) (x1 : Option Addr) (x2 : Int) (x3 : ByteArray × ByteArray) (K : (Option Addr) → Heap → Prop) (h0 : Heap) : Prop :=
  At (hnew h0 [.string x3.1, .string x3.2] t_pair_Pair) (fun h1 =>
   HC PG f_node_Node_inner [.pointer x0, .int .i64 x2] [.c .bool] (fun (e2 : Bool) h3 =>
    CondP (!e2) (
     K x0 h3) (
     HC PG f_node_Node_own [.pointer x0, .pointer x1] [.c .ptr] (fun (e4 : Option Addr) h5 =>
      ∃ a6 : Addr, e4 = some a6 ∧
      ∃ v7 : Int, hcell h5 (adr (adr a6 0) 0) = some (.int .u32 v7) ∧
      HC PG f_chunk_Bits_Has [.int .u32 v7, .int .i64 x2] [.c .bool] (fun (e8 : Bool) h9 =>
       CondP e8 (
        ∃ a10 : Addr, e4 = some a10 ∧
        ∃ v11 : SliceV, hcell h9 (adr (adr a10 0) 2) = some (.slice v11.a v11.len v11.cap) ∧
        ∃ a12 : Addr, e4 = some a12 ∧
        ∃ v13 : Int, hcell h9 (adr (adr a12 0) 0) = some (.int .u32 v13) ∧
        ∃ v14 : ByteArray, hcell h9 (adr (newA h0) 0) = some (.string v14) ∧
        ∃ v15 : ByteArray, hcell h9 (adr (newA h0) 1) = some (.string v15) ∧
        HC PG f_chunk_Bits_Rank [.int .u32 v13, .int .i64 x2] [.c (.int .i64)] (fun (e16 : Int) h17 =>
         ((hcell h17 (adr (newA h0) 0) = some (.string v14) ∧ hcell h17 (adr (newA h0) 1) = some (.string v15)) ∧
          (hcell h17 (adr (adr a10 0) 2) = some (.slice v11.a v11.len v11.cap) ∧
           (((0 : Int) ≤ e16 ∧ e16 < ((v11.len : Nat) : Int)) ∧ ∃ a18 : Addr, v11.a = some a18 ∧
            (WrS h17 (some (adr a18 (e16.toNat * 2))) 0 [.string v14, .string v15] ∧
             At (hsetL h17 (adr a18 (e16.toNat * 2)) 0 [.string v14, .string v15]) (fun h19 =>
              K e4 h19)))))) h9) (
        ∃ a20 : Addr, e4 = some a20 ∧
        HC PG f_node_slots_drop [.pointer (some (adr a20 0)), .int .i64 x2] [] (fun (e21 : Unit) h22 =>
         ∃ a23 : Addr, e4 = some a23 ∧
         ∃ v24 : SliceV, hcell h22 (adr (adr a23 0) 2) = some (.slice v24.a v24.len v24.cap) ∧
         ∃ a25 : Addr, e4 = some a25 ∧
         ∃ v26 : Int, hcell h22 (adr (adr a25 0) 0) = some (.int .u32 v26) ∧
         ∃ v27 : ByteArray, hcell h22 (adr (newA h0) 0) = some (.string v27) ∧
         ∃ v28 : ByteArray, hcell h22 (adr (newA h0) 1) = some (.string v28) ∧
         ((HC PG f_chunk_Bits_Rank [.int .u32 v26, .int .i64 x2] [.c (.int .i64)] (fun (e29 : Int) h30 =>
            ((hcell h30 (adr (newA h0) 0) = some (.string v27) ∧ hcell h30 (adr (newA h0) 1) = some (.string v28)) ∧
             (hcell h30 (adr (adr a23 0) 2) = some (.slice v24.a v24.len v24.cap) ∧
              At (hnew h30 [.string v27, .string v28] t_pair_Pair) (fun h31 =>
               (hcell h31 (adr (adr a23 0) 2) = some (.slice v24.a v24.len v24.cap) ∧
                HC PG f_slices_Insert_A_pair_Pair_pair_Pair [.slice v24.a v24.len v24.cap, .int .i64 e29, .slice (some (newA h30)) 1 1] [.c .slice] (fun (e32 : SliceV) h33 =>
                 ∃ a34 : Addr, e4 = some a34 ∧
                 (Wr h33 (adr (adr a34 0) 2) ∧
                  At (hset h33 (adr (adr a34 0) 2) (.slice e32.a e32.len e32.cap)) (fun h35 =>
                   ∃ a36 : Addr, e4 = some a36 ∧
                   ∃ v37 : Int, hcell h35 (adr (adr a36 0) 0) = some (.int .u32 v37) ∧
                   HC PG f_chunk_Bits_With [.int .u32 v37, .int .i64 x2] [.c (.int .u32)] (fun (e38 : Int) h39 =>
                    ∃ a40 : Addr, e4 = some a40 ∧
                    (Wr h39 (adr (adr a40 0) 0) ∧
                     At (hset h39 (adr (adr a40 0) 0) (.int .u32 e38)) (fun h41 =>
                      K e4 h41))) h35))) h31))))) h22) ∧
          At (hnew h22 [.string v27, .string v28] t_pair_Pair) (fun h42 =>
           (hcell h42 (adr (adr a25 0) 0) = some (.int .u32 v26) ∧
            (hcell h42 (adr (adr a23 0) 2) = some (.slice v24.a v24.len v24.cap) ∧
             HC PG f_chunk_Bits_Rank [.int .u32 v26, .int .i64 x2] [.c (.int .i64)] (fun (e43 : Int) h44 =>
              (hcell h44 (adr (adr a23 0) 2) = some (.slice v24.a v24.len v24.cap) ∧
               HC PG f_slices_Insert_A_pair_Pair_pair_Pair [.slice v24.a v24.len v24.cap, .int .i64 e43, .slice (some (newA h22)) 1 1] [.c .slice] (fun (e45 : SliceV) h46 =>
                ∃ a47 : Addr, e4 = some a47 ∧
                (Wr h46 (adr (adr a47 0) 2) ∧
                 At (hset h46 (adr (adr a47 0) 2) (.slice e45.a e45.len e45.cap)) (fun h48 =>
                  ∃ a49 : Addr, e4 = some a49 ∧
                  ∃ v50 : Int, hcell h48 (adr (adr a49 0) 0) = some (.int .u32 v50) ∧
                  HC PG f_chunk_Bits_With [.int .u32 v50, .int .i64 x2] [.c (.int .u32)] (fun (e51 : Int) h52 =>
                   ∃ a53 : Addr, e4 = some a53 ∧
                   (Wr h52 (adr (adr a53 0) 0) ∧
                    At (hset h52 (adr (adr a53 0) 0) (.int .u32 e51)) (fun h54 =>
                     K e4 h54))) h48))) h44)) h42))))) h9)) h5) h3)) h1)
def A_node_Node_SetPair : Ann := .node (.reg [0, 1, 2, 7] (.nil)) (.node (.node (.reg [0, 1, 2, 7, 13] (.nil)) (.node (.node (.reg [8] (.nil)) (.nil)) (.nil))) (.node (.reg [2, 7, 9] (.nil)) (.node (.node (.reg [2, 7, 9, 24] (.nil)) (.node (.node (.reg [9] (.draw [.mk 0 32767 512 33554432, .mk 1 32766 33554432 67108864, .mk 2 32765 67108864 134217728, .mk 4 32763 134217728 268435456, .mk 8 32759 268435456 536870912, .mk 0 32767 512 1073741824, .mk 32 32735 1073741824 2147483648, .mk 64 32703 2147483648 4294967296, .mk 128 32639 4294967296 8589934592, .mk 256 32511 8589934592 17179869184, .mk 0 32767 4 34359738368, .mk 1536 31231 51539607552 68719476736, .mk 0 32767 128 137438953472, .mk 8191 30703 69256347648 274877906944, .mk 16383 20479 412316860416 0] (.take 0 (.take 1 (.take 2 (.take 3 (.take 4 (.take 5 (.take 6 (.take 7 (.take 8 (.take 9 (.take 10 (.take 12 (.all (.last 11 (.take 13 (.all (.last 14 (.done)))))))))))))))))))) (.node (.reg [8] (.nil)) (.nil))) (.nil))) (.node (.reg [2, 7, 9] (.nil)) (.node (.reg [2, 9] (.draw [.mk 0 1048575 512 35184372088832, .mk 0 1048575 512 70368744177664, .mk 2 1048573 70368744177664 140737488355328, .mk 4 1048571 140737488355328 281474976710656, .mk 8 1048567 281474976710656 562949953421312, .mk 16 1048559 562949953421312 1125899906842624, .mk 0 1048575 512 2251799813685248, .mk 64 1048511 2251799813685248 4503599627370496, .mk 128 1048447 4503599627370496 9007199254740992, .mk 256 1048319 9007199254740992 18014398509481984, .mk 512 1048063 18014398509481984 36028797018963968, .mk 0 1048575 4 72057594037927936, .mk 3072 1045503 108086391056891904 144115188075855872, .mk 0 1048575 128 288230376151711744, .mk 8192 1040383 288230376151711744 576460752303423488, .mk 20512 1028063 721701840286121984 1152921504606846976, .mk 65535 1048574 35184372088832 2305843009213693952, .mk 131071 983039 2305843009213693952 4611686018427387904, .mk 196607 917503 4611686018427387904 9223372036854775808, .mk 327679 753663 10376293541461622784 0] (.take 0 (.take 1 (.take 2 (.take 3 (.take 4 (.take 5 (.take 6 (.take 7 (.take 8 (.take 9 (.take 10 (.take 11 (.take 13 (.all (.pick 12 (.all (.last 14 (.all (.last 15 (.take 16 (.take 17 (.take 18 (.all (.last 19 (.done)))))))))) (.last 14 (.all (.last 12 (.all (.last 15 (.take 16 (.take 17 (.take 18 (.all (.last 19 (.done)))))))))))))))))))))))))))) (.node (.reg [9] (.nil)) (.node (.reg [8] (.nil)) (.nil))))))))
theorem E_node_Node_SetPair (x0 : Option Addr) (x1 : Option Addr) (x2 : Int) (x3 : ByteArray × ByteArray) (K : Tup [.c .ptr] → Heap → Prop) (h0 : Heap) : F_node_Node_SetPair x0 x1 x2 x3 K h0 = sBody PG Tryz.f72 (Tryz.f72.body.getD .skip) A_node_Node_SetPair [.pointer x0, .pointer x1, .int .i64 x2, .agg #[.string x3.1, .string x3.2]] [.c .ptr] K h0 := by kernel_rfl
theorem H_node_Node_SetPair (x0 : Option Addr) (x1 : Option Addr) (x2 : Int) (x3 : ByteArray × ByteArray) {K : Tup [.c .ptr] → Heap → Prop} {h0 : Heap} (h : F_node_Node_SetPair x0 x1 x2 x3 K h0) : HC PG f_node_Node_SetPair [.pointer x0, .pointer x1, .int .i64 x2, .agg #[.string x3.1, .string x3.2]] [.c .ptr] K h0 := HC.intro Tryz.mixed Tryz.func72 rfl Tryz.call72 (Nat.le_of_ble_eq_true rfl) ((E_node_Node_SetPair x0 x1 x2 x3 K h0) ▸ h)
/-- (*quickset/node.Node).SetKid -/
def F_node_Node_SetKid (x0 : Option Addr) (x1 : Option Addr) (x2 : Int) (x3 : Option Addr) (K : (Option Addr) → Heap → Prop) (h0 : Heap) : Prop :=
  CondP x3.isNone (
   HC PG f_node_Node_Clear [.pointer x0, .pointer x1, .int .i64 x2] [.c .ptr] (fun (e1 : Option Addr) h2 =>
    K e1 h2) h0) (
   HC PG f_node_Node_inner [.pointer x0, .int .i64 x2] [.c .bool] (fun (e3 : Bool) h4 =>
    CondP (!e3) (
     K x0 h4) (
     HC PG f_node_Node_own [.pointer x0, .pointer x1] [.c .ptr] (fun (e5 : Option Addr) h6 =>
      ∃ a7 : Addr, e5 = some a7 ∧
      ∃ v8 : Int, hcell h6 (adr (adr a7 0) 1) = some (.int .u32 v8) ∧
      HC PG f_chunk_Bits_Has [.int .u32 v8, .int .i64 x2] [.c .bool] (fun (e9 : Bool) h10 =>
       CondP e9 (
        ∃ a11 : Addr, e5 = some a11 ∧
        ∃ v12 : SliceV, hcell h10 (adr (adr a11 0) 3) = some (.slice v12.a v12.len v12.cap) ∧
        ∃ a13 : Addr, e5 = some a13 ∧
        ∃ v14 : Int, hcell h10 (adr (adr a13 0) 1) = some (.int .u32 v14) ∧
        HC PG f_chunk_Bits_Rank [.int .u32 v14, .int .i64 x2] [.c (.int .i64)] (fun (e15 : Int) h16 =>
         (hcell h16 (adr (adr a11 0) 3) = some (.slice v12.a v12.len v12.cap) ∧
          (((0 : Int) ≤ e15 ∧ e15 < ((v12.len : Nat) : Int)) ∧ ∃ a17 : Addr, v12.a = some a17 ∧
           (Wr h16 (adr a17 (e15.toNat * 1)) ∧
            At (hset h16 (adr a17 (e15.toNat * 1)) (.pointer x3)) (fun h18 =>
             K e5 h18))))) h10) (
        ∃ a19 : Addr, e5 = some a19 ∧
        HC PG f_node_slots_drop [.pointer (some (adr a19 0)), .int .i64 x2] [] (fun (e20 : Unit) h21 =>
         ∃ a22 : Addr, e5 = some a22 ∧
         ∃ v23 : SliceV, hcell h21 (adr (adr a22 0) 3) = some (.slice v23.a v23.len v23.cap) ∧
         ∃ a24 : Addr, e5 = some a24 ∧
         ∃ v25 : Int, hcell h21 (adr (adr a24 0) 1) = some (.int .u32 v25) ∧
         ((HC PG f_chunk_Bits_Rank [.int .u32 v25, .int .i64 x2] [.c (.int .i64)] (fun (e26 : Int) h27 =>
            (hcell h27 (adr (adr a22 0) 3) = some (.slice v23.a v23.len v23.cap) ∧
             At (hnew h27 [.pointer x3] t_P_node_Node) (fun h28 =>
              (hcell h28 (adr (adr a22 0) 3) = some (.slice v23.a v23.len v23.cap) ∧
               HC PG f_slices_Insert_A_P_node_Node_P_node_Node [.slice v23.a v23.len v23.cap, .int .i64 e26, .slice (some (newA h27)) 1 1] [.c .slice] (fun (e29 : SliceV) h30 =>
                ∃ a31 : Addr, e5 = some a31 ∧
                (Wr h30 (adr (adr a31 0) 3) ∧
                 At (hset h30 (adr (adr a31 0) 3) (.slice e29.a e29.len e29.cap)) (fun h32 =>
                  ∃ a33 : Addr, e5 = some a33 ∧
                  ∃ v34 : Int, hcell h32 (adr (adr a33 0) 1) = some (.int .u32 v34) ∧
                  HC PG f_chunk_Bits_With [.int .u32 v34, .int .i64 x2] [.c (.int .u32)] (fun (e35 : Int) h36 =>
                   ∃ a37 : Addr, e5 = some a37 ∧
                   (Wr h36 (adr (adr a37 0) 1) ∧
                    At (hset h36 (adr (adr a37 0) 1) (.int .u32 e35)) (fun h38 =>
                     K e5 h38))) h32))) h28)))) h21) ∧
          At (hnew h21 [.pointer x3] t_P_node_Node) (fun h39 =>
           (hcell h39 (adr (adr a24 0) 1) = some (.int .u32 v25) ∧
            (hcell h39 (adr (adr a22 0) 3) = some (.slice v23.a v23.len v23.cap) ∧
             HC PG f_chunk_Bits_Rank [.int .u32 v25, .int .i64 x2] [.c (.int .i64)] (fun (e40 : Int) h41 =>
              (hcell h41 (adr (adr a22 0) 3) = some (.slice v23.a v23.len v23.cap) ∧
               HC PG f_slices_Insert_A_P_node_Node_P_node_Node [.slice v23.a v23.len v23.cap, .int .i64 e40, .slice (some (newA h21)) 1 1] [.c .slice] (fun (e42 : SliceV) h43 =>
                ∃ a44 : Addr, e5 = some a44 ∧
                (Wr h43 (adr (adr a44 0) 3) ∧
                 At (hset h43 (adr (adr a44 0) 3) (.slice e42.a e42.len e42.cap)) (fun h45 =>
                  ∃ a46 : Addr, e5 = some a46 ∧
                  ∃ v47 : Int, hcell h45 (adr (adr a46 0) 1) = some (.int .u32 v47) ∧
                  HC PG f_chunk_Bits_With [.int .u32 v47, .int .i64 x2] [.c (.int .u32)] (fun (e48 : Int) h49 =>
                   ∃ a50 : Addr, e5 = some a50 ∧
                   (Wr h49 (adr (adr a50 0) 1) ∧
                    At (hset h49 (adr (adr a50 0) 1) (.int .u32 e48)) (fun h51 =>
                     K e5 h51))) h45))) h41)) h39))))) h10)) h6) h4)) h0)
def A_node_Node_SetKid : Ann := .node (.reg [0, 1, 2, 3] (.nil)) (.node (.node (.reg [0, 1, 2, 3, 11] (.nil)) (.node (.node (.reg [8] (.nil)) (.nil)) (.nil))) (.node (.node (.reg [0, 1, 2, 3, 19] (.nil)) (.node (.node (.reg [8] (.nil)) (.nil)) (.nil))) (.node (.reg [2, 3, 9] (.nil)) (.node (.node (.reg [2, 3, 9, 30] (.nil)) (.node (.node (.reg [9] (.draw [.mk 0 32767 512 2147483648, .mk 1 32766 2147483648 4294967296, .mk 2 32765 4294967296 8589934592, .mk 4 32763 8589934592 17179869184, .mk 8 32759 17179869184 34359738368, .mk 0 32767 512 68719476736, .mk 32 32735 68719476736 137438953472, .mk 64 32703 137438953472 274877906944, .mk 128 32639 274877906944 549755813888, .mk 256 32511 549755813888 1099511627776, .mk 0 32767 4 2199023255552, .mk 1536 31231 3298534883328 4398046511104, .mk 0 32767 8 8796093022208, .mk 8191 30703 4432406249472 17592186044416, .mk 16383 20479 26388279066624 0] (.take 0 (.take 1 (.take 2 (.take 3 (.take 4 (.take 5 (.take 6 (.take 7 (.take 8 (.take 9 (.take 10 (.take 12 (.all (.last 11 (.take 13 (.all (.last 14 (.done)))))))))))))))))))) (.node (.reg [8] (.nil)) (.nil))) (.nil))) (.node (.reg [2, 3, 9] (.nil)) (.node (.reg [2, 9] (.draw [.mk 0 1048575 512 2251799813685248, .mk 0 1048575 512 4503599627370496, .mk 2 1048573 4503599627370496 9007199254740992, .mk 4 1048571 9007199254740992 18014398509481984, .mk 8 1048567 18014398509481984 36028797018963968, .mk 16 1048559 36028797018963968 72057594037927936, .mk 0 1048575 512 144115188075855872, .mk 64 1048511 144115188075855872 288230376151711744, .mk 128 1048447 288230376151711744 576460752303423488, .mk 256 1048319 576460752303423488 1152921504606846976, .mk 512 1048063 1152921504606846976 2305843009213693952, .mk 0 1048575 4 4611686018427387904, .mk 3072 1045503 6917529027641081856 9223372036854775808, .mk 0 1048575 8 18446744073709551616, .mk 8192 1040383 18446744073709551616 36893488147419103232, .mk 20512 1028063 46188917778311806976 73786976294838206464, .mk 65535 1048574 2251799813685248 147573952589676412928, .mk 131071 983039 147573952589676412928 295147905179352825856, .mk 196607 917503 295147905179352825856 590295810358705651712, .mk 327679 753663 664082786653543858176 0] (.take 0 (.take 1 (.take 2 (.take 3 (.take 4 (.take 5 (.take 6 (.take 7 (.take 8 (.take 9 (.take 10 (.take 11 (.take 13 (.all (.pick 12 (.all (.last 14 (.all (.last 15 (.take 16 (.take 17 (.take 18 (.all (.last 19 (.done)))))))))) (.last 14 (.all (.last 12 (.all (.last 15 (.take 16 (.take 17 (.take 18 (.all (.last 19 (.done)))))))))))))))))))))))))))) (.node (.reg [9] (.nil)) (.node (.reg [8] (.nil)) (.nil)))))))))
theorem E_node_Node_SetKid (x0 : Option Addr) (x1 : Option Addr) (x2 : Int) (x3 : Option Addr) (K : Tup [.c .ptr] → Heap → Prop) (h0 : Heap) : F_node_Node_SetKid x0 x1 x2 x3 K h0 = sBody PG Tryz.f73 (Tryz.f73.body.getD .skip) A_node_Node_SetKid [.pointer x0, .pointer x1, .int .i64 x2, .pointer x3] [.c .ptr] K h0 := by kernel_rfl
theorem H_node_Node_SetKid (x0 : Option Addr) (x1 : Option Addr) (x2 : Int) (x3 : Option Addr) {K : Tup [.c .ptr] → Heap → Prop} {h0 : Heap} (h : F_node_Node_SetKid x0 x1 x2 x3 K h0) : HC PG f_node_Node_SetKid [.pointer x0, .pointer x1, .int .i64 x2, .pointer x3] [.c .ptr] K h0 := HC.intro Tryz.mixed Tryz.func73 rfl Tryz.call73 (Nat.le_of_ble_eq_true rfl) ((E_node_Node_SetKid x0 x1 x2 x3 K h0) ▸ h)
/-- cmp.Compare[string] -/
def F_cmp_Compare_str (x0 : ByteArray) (x1 : ByteArray) (K : (Int) → Heap → Prop) (h0 : Heap) : Prop :=
  HC PG f_cmp_isNaN_str [.string x0] [.c .bool] (fun (e1 : Bool) h2 =>
   HC PG f_cmp_isNaN_str [.string x1] [.c .bool] (fun (e3 : Bool) h4 =>
    CondP e1 (
     CondP e3 (
      K 0 h4) (
      K (-1) h4)) (
     CondP e3 (
      K 1 h4) (
      CondP (Op.bytesLess x0.toList x1.toList) (
       K (-1) h4) (
       CondP (!(Op.bytesLess x0.toList x1.toList || x0.toList == x1.toList)) (
        K 1 h4) (
        K 0 h4))))) h2) h0
def A_cmp_Compare_str : Ann := .node (.reg [0, 1] (.nil)) (.node (.reg [0, 1, 5] (.nil)) (.node (.reg [0, 1, 5, 6] (.nil)) (.node (.node (.reg [0, 1, 6, 11] (.nil)) (.node (.node (.node (.reg [12] (.nil)) (.node (.node (.reg [4] (.nil)) (.nil)) (.nil))) (.node (.reg [4] (.nil)) (.nil))) (.nil))) (.node (.node (.reg [0, 1, 13] (.nil)) (.node (.node (.reg [4] (.nil)) (.nil)) (.nil))) (.node (.node (.reg [0, 1, 16] (.nil)) (.node (.node (.reg [4] (.nil)) (.nil)) (.nil))) (.node (.node (.reg [19] (.nil)) (.node (.node (.reg [4] (.nil)) (.nil)) (.nil))) (.node (.reg [4] (.nil)) (.nil))))))))
theorem E_cmp_Compare_str (x0 : ByteArray) (x1 : ByteArray) (K : Tup [.c (.int .i64)] → Heap → Prop) (h0 : Heap) : F_cmp_Compare_str x0 x1 K h0 = sBody PG Tryz.f78 (Tryz.f78.body.getD .skip) A_cmp_Compare_str [.string x0, .string x1] [.c (.int .i64)] K h0 := by kernel_rfl
theorem H_cmp_Compare_str (x0 : ByteArray) (x1 : ByteArray) {K : Tup [.c (.int .i64)] → Heap → Prop} {h0 : Heap} (h : F_cmp_Compare_str x0 x1 K h0) : HC PG f_cmp_Compare_str [.string x0, .string x1] [.c (.int .i64)] K h0 := HC.intro Tryz.mixed Tryz.func78 rfl Tryz.call78 (Nat.le_of_ble_eq_true rfl) ((E_cmp_Compare_str x0 x1 K h0) ▸ h)
/-- slices.Collect[quickset/pair.Pair] -/
def F_slices_Collect_pair_Pair (x0 : Value) (K : (SliceV) → Heap → Prop) (h0 : Heap) : Prop :=
  HC PG f_slices_AppendSeq_A_pair_Pair_pair_Pair [.slice none 0 0, x0] [.c .slice] (fun (e1 : SliceV) h2 =>
   K e1 h2) h0
def A_slices_Collect_pair_Pair : Ann := .node (.reg [0] (.nil)) (.node (.reg [2] (.nil)) (.nil))
theorem E_slices_Collect_pair_Pair (x0 : Value) (K : Tup [.c .slice] → Heap → Prop) (h0 : Heap) : F_slices_Collect_pair_Pair x0 K h0 = sBody PG Tryz.f79 (Tryz.f79.body.getD .skip) A_slices_Collect_pair_Pair [x0] [.c .slice] K h0 := by kernel_rfl
theorem H_slices_Collect_pair_Pair (x0 : Value) {K : Tup [.c .slice] → Heap → Prop} {h0 : Heap} (h : F_slices_Collect_pair_Pair x0 K h0) : HC PG f_slices_Collect_pair_Pair [x0] [.c .slice] K h0 := HC.intro Tryz.mixed Tryz.func79 rfl Tryz.call79 (Nat.le_of_ble_eq_true rfl) ((E_slices_Collect_pair_Pair x0 K h0) ▸ h)
/-- quickset/span.Each -/
def F_span_Each (x0 : Option Addr) (x1 : ByteArray × ByteArray × Bool) (x2 : Bool) (K : (Value) → Heap → Prop) (h0 : Heap) : Prop :=
  At (hnew h0 [.pointer x0] t_P_radix_Node) (fun h1 =>
   At (hnew h1 [.string x1.1, .string x1.2.1, .bool x1.2.2] t_span_Span) (fun h2 =>
    At (hnew h2 [.bool x2] t_bool) (fun h3 =>
     K (.func (.func f_span_Each_1) #[] #[.pointer (some (newA h0)), .pointer (some (newA h1)), .pointer (some (newA h2))]) h3)))
def A_span_Each : Ann := .node (.reg [3, 4, 5] (.nil)) (.node (.reg [6] (.nil)) (.nil))
theorem E_span_Each (x0 : Option Addr) (x1 : ByteArray × ByteArray × Bool) (x2 : Bool) (K : Tup [.c .raw] → Heap → Prop) (h0 : Heap) : F_span_Each x0 x1 x2 K h0 = sBody PG Tryz.f80 (Tryz.f80.body.getD .skip) A_span_Each [.pointer x0, .agg #[.string x1.1, .string x1.2.1, .bool x1.2.2], .bool x2] [.c .raw] K h0 := by kernel_rfl
theorem H_span_Each (x0 : Option Addr) (x1 : ByteArray × ByteArray × Bool) (x2 : Bool) {K : Tup [.c .raw] → Heap → Prop} {h0 : Heap} (h : F_span_Each x0 x1 x2 K h0) : HC PG f_span_Each [.pointer x0, .agg #[.string x1.1, .string x1.2.1, .bool x1.2.2], .bool x2] [.c .raw] K h0 := HC.intro Tryz.mixed Tryz.func80 rfl Tryz.call80 (Nat.le_of_ble_eq_true rfl) ((E_span_Each x0 x1 x2 K h0) ▸ h)
/-- quickset/radix.Len -/
def F_radix_Len (x0 : Option Addr) (K : (Int) → Heap → Prop) (h0 : Heap) : Prop :=
  Join (fun (t4 : Int) h5 => -- n(3)
   HC PG f_radix_Node_Kids [.pointer x0] [.c .slice] (fun (e6 : SliceV) h7 =>
    LoopP (fun I8 (t9 : Int × Int) h10 => -- n(3), (17)
     CondP (decide (t9.2 < (e6.len : Int))) (
      (((0 : Int) ≤ t9.2 ∧ t9.2 < ((e6.len : Nat) : Int)) ∧ ∃ a11 : Addr, e6.a = some a11 ∧
       ∃ v12 : Option Addr, hcell h10 (adr a11 (t9.2.toNat * 1)) = some (.pointer v12) ∧
       HC PG f_radix_Len [.pointer v12] [.c (.int .i64)] (fun (e13 : Int) h14 =>
        I8 (IntKind.wrap .i64 (t9.1 + e13), IntKind.wrap .i64 (t9.2 + 1)) h14) h10)) (
      K t9.1 h10)) (t4, 0) h7) h5) (fun J1 =>
   HC PG f_radix_Node_Value [.pointer x0] [.c .str, .c .bool] (fun (e2 : ByteArray × Bool) h3 =>
    CondP e2.2 (
     J1 1 h3) (
     J1 0 h3)) h0)
def A_radix_Len : Ann := .node (.reg [0] (.nil)) (.node (.reg [0, 3] (.nil)) (.join [0] [(3, .c (.int .i64))] (.node (.reg [0, 3, 5] (.nil)) (.node (.reg [0, 3, 13] (.nil)) (.node (.reg [0, 3] (.nil)) (.nil)))) (.node (.node (.reg [3, 15, 16, 17] (.nil)) (.loop [15, 16] [(3, .c (.int .i64)), (17, .c (.int .i64))] (.node (.reg [3, 15, 16, 17, 18] (.nil)) (.node (.nil) (.node (.node (.reg [3, 7, 15, 16, 17] (.nil)) (.reg [3, 15, 16, 17] (.nil))) (.reg [3, 15, 16, 17] (.nil))))))) (.node (.reg [2] (.nil)) (.nil)))))
theorem E_radix_Len (x0 : Option Addr) (K : Tup [.c (.int .i64)] → Heap → Prop) (h0 : Heap) : F_radix_Len x0 K h0 = sBody PG Tryz.f82 (Tryz.f82.body.getD .skip) A_radix_Len [.pointer x0] [.c (.int .i64)] K h0 := by kernel_rfl
theorem H_radix_Len (x0 : Option Addr) {K : Tup [.c (.int .i64)] → Heap → Prop} {h0 : Heap} (h : F_radix_Len x0 K h0) : HC PG f_radix_Len [.pointer x0] [.c (.int .i64)] K h0 := HC.intro Tryz.mixed Tryz.func82 rfl Tryz.call82 (Nat.le_of_ble_eq_true rfl) ((E_radix_Len x0 K h0) ▸ h)
/-- quickset/quicksetref03.Right -/
def F_r03_Right (x0 : ByteArray) (x1 : ByteArray) (K : (Int) → Heap → Prop) (h0 : Heap) : Prop :=
  CondP (decide ((x0.size : Int) > (256 : Int))) (
   K 2 h0) (
   CondP (decide ((x1.size : Int) > (4096 : Int))) (
    K 3 h0) (
    K 0 h0))
def A_r03_Right : Ann := .node (.reg [0, 1] (.nil)) (.node (.node (.reg [1, 7] (.nil)) (.node (.node (.reg [4] (.nil)) (.nil)) (.nil))) (.node (.node (.reg [10] (.nil)) (.node (.node (.reg [4] (.nil)) (.nil)) (.nil))) (.node (.reg [4] (.nil)) (.nil))))
theorem E_r03_Right (x0 : ByteArray) (x1 : ByteArray) (K : Tup [.c (.int .i64)] → Heap → Prop) (h0 : Heap) : F_r03_Right x0 x1 K h0 = sBody PG Tryz.f84 (Tryz.f84.body.getD .skip) A_r03_Right [.string x0, .string x1] [.c (.int .i64)] K h0 := by kernel_rfl
theorem H_r03_Right (x0 : ByteArray) (x1 : ByteArray) {K : Tup [.c (.int .i64)] → Heap → Prop} {h0 : Heap} (h : F_r03_Right x0 x1 K h0) : HC PG f_r03_Right [.string x0, .string x1] [.c (.int .i64)] K h0 := HC.intro Tryz.mixed Tryz.func84 rfl Tryz.call84 (Nat.le_of_ble_eq_true rfl) ((E_r03_Right x0 x1 K h0) ▸ h)
/-- quickset/quicksetref03.Put -/
def F_r03_Put (x0 : SliceV) (x1 : ByteArray × ByteArray) (K : (SliceV) → Heap → Prop) (h0 : Heap) : Prop :=
  At (hnew h0 [.string x1.1, .string x1.2] t_r03_Pair) (fun h1 =>
   ∃ v2 : ByteArray, hcell h1 (adr (newA h0) 0) = some (.string v2) ∧
   HC PG f_r03_Drop [.slice x0.a x0.len x0.cap, .string v2] [.c .slice] (fun (e3 : SliceV) h4 =>
    LoopP (fun I5 (t6 : SliceV × Bool × Int) h7 => -- out(5), placed(6), (14)
     CondP (decide (t6.2.2 < (e3.len : Int))) (
      Join (fun (t36 : SliceV × Bool) h37 => -- out(5), placed(6)
       I5 (t36.1, t36.2, IntKind.wrap .i64 (t6.2.2 + 1)) h37) (fun J8 =>
       (((0 : Int) ≤ t6.2.2 ∧ t6.2.2 < ((e3.len : Nat) : Int)) ∧ ∃ a9 : Addr, e3.a = some a9 ∧
        ∃ v10 : ByteArray, hcell h7 (adr (adr a9 (t6.2.2.toNat * 2)) 0) = some (.string v10) ∧
        ∃ v11 : ByteArray, hcell h7 (adr (adr a9 (t6.2.2.toNat * 2)) 1) = some (.string v11) ∧
        At (hnew h7 [.string (⟨#[]⟩ : ByteArray), .string (⟨#[]⟩ : ByteArray)] t_r03_Pair) (fun h12 =>
         (WrS h12 (some (newA h7)) 0 [.string v10, .string v11] ∧
          At (hsetL h12 (newA h7) 0 [.string v10, .string v11]) (fun h13 =>
           Join (fun (t28 : SliceV × Bool) h29 => -- out(5), placed(6)
            ∃ v30 : ByteArray, hcell h29 (adr (newA h7) 0) = some (.string v30) ∧
            ∃ v31 : ByteArray, hcell h29 (adr (newA h7) 1) = some (.string v31) ∧
            At (hnew h29 [.string v30, .string v31] t_r03_Pair) (fun h32 =>
             ∃ xs33, SRow h32 (some (newA h29)) (1 * 2) xs33 ∧
             AppP (some [.string (⟨#[]⟩ : ByteArray), .string (⟨#[]⟩ : ByteArray)]) 2 32 t_r03_Pair t28.1.a t28.1.len t28.1.cap 1 xs33 h32 (fun s34 h35 =>
              J8 (s34, t28.2) h35))) (fun J14 =>
            Join (fun (t20 : Bool) h21 => -- (26)
             CondP t20 (
              ∃ v22 : ByteArray, hcell h21 (adr (newA h0) 0) = some (.string v22) ∧
              ∃ v23 : ByteArray, hcell h21 (adr (newA h0) 1) = some (.string v23) ∧
              At (hnew h21 [.string v22, .string v23] t_r03_Pair) (fun h24 =>
               ∃ xs25, SRow h24 (some (newA h21)) (1 * 2) xs25 ∧
               AppP (some [.string (⟨#[]⟩ : ByteArray), .string (⟨#[]⟩ : ByteArray)]) 2 32 t_r03_Pair t6.1.a t6.1.len t6.1.cap 1 xs25 h24 (fun s26 h27 =>
                J14 (s26, true) h27))) (
              J14 (t6.1, t6.2.1) h21)) (fun J15 =>
             CondP (!t6.2.1) (
              ∃ v16 : ByteArray, hcell h13 (adr (newA h0) 0) = some (.string v16) ∧
              ∃ v17 : ByteArray, hcell h13 (adr (newA h7) 0) = some (.string v17) ∧
              HC PG f_r03_Less [.string v16, .string v17] [.c .bool] (fun (e18 : Bool) h19 =>
               J15 e18 h19) h13) (
              J15 false h13))))))))) (
      CondP (!t6.2.1) (
       ∃ v38 : ByteArray, hcell h7 (adr (newA h0) 0) = some (.string v38) ∧
       ∃ v39 : ByteArray, hcell h7 (adr (newA h0) 1) = some (.string v39) ∧
       At (hnew h7 [.string v38, .string v39] t_r03_Pair) (fun h40 =>
        ∃ xs41, SRow h40 (some (newA h7)) (1 * 2) xs41 ∧
        AppP (some [.string (⟨#[]⟩ : ByteArray), .string (⟨#[]⟩ : ByteArray)]) 2 32 t_r03_Pair t6.1.a t6.1.len t6.1.cap 1 xs41 h40 (fun s42 h43 =>
         K s42 h43))) (
       K t6.1 h7))) (⟨none, 0, 0⟩, false, 0) h4) h1)
def A_r03_Put : Ann := .node (.reg [0, 3] (.nil)) (.node (.reg [0, 3, 5] (.nil)) (.node (.reg [0, 3, 5, 6] (.nil)) (.node (.node (.reg [3, 5, 6, 12, 13, 14] (.nil)) (.loop [3, 12, 13] [(5, .c .slice), (6, .c .bool), (14, .c (.int .i64))] (.node (.reg [3, 5, 6, 12, 13, 14, 15] (.nil)) (.node (.nil) (.join [3, 12, 13, 14] [(5, .c .slice), (6, .c .bool)] (.node (.reg [3, 5, 6, 8, 12, 13, 14] (.nil)) (.join [3, 8, 12, 13, 14] [(5, .c .slice), (6, .c .bool)] (.join [3, 5, 6, 8, 12, 13, 14] [(26, .c .bool)] (.reg [3, 5, 6, 8, 12, 13, 14, 26] (.nil)) (.node (.reg [3, 5, 6, 8, 12, 13, 14] (.nil)) (.nil))) (.reg [3, 5, 6, 12, 13, 14] (.nil)))) (.reg [3, 5, 6, 12, 13, 14] (.nil))))))) (.node (.node (.reg [3, 5, 37] (.nil)) (.node (.reg [5] (.nil)) (.nil))) (.node (.reg [4] (.nil)) (.nil))))))
theorem E_r03_Put (x0 : SliceV) (x1 : ByteArray × ByteArray) (K : Tup [.c .slice] → Heap → Prop) (h0 : Heap) : F_r03_Put x0 x1 K h0 = sBody PG Tryz.f85 (Tryz.f85.body.getD .skip) A_r03_Put [.slice x0.a x0.len x0.cap, .agg #[.string x1.1, .string x1.2]] [.c .slice] K h0 := by kernel_rfl
theorem H_r03_Put (x0 : SliceV) (x1 : ByteArray × ByteArray) {K : Tup [.c .slice] → Heap → Prop} {h0 : Heap} (h : F_r03_Put x0 x1 K h0) : HC PG f_r03_Put [.slice x0.a x0.len x0.cap, .agg #[.string x1.1, .string x1.2]] [.c .slice] K h0 := HC.intro Tryz.mixed Tryz.func85 rfl Tryz.call85 (Nat.le_of_ble_eq_true rfl) ((E_r03_Put x0 x1 K h0) ▸ h)
/-- quickset/radix.some -/
def F_radix_some (x0 : Option Addr) (K : (Option Addr) → Heap → Prop) (h0 : Heap) : Prop :=
  CondP x0.isNone (
   HC PG f_radix_Empty [] [.c .ptr] (fun (e1 : Option Addr) h2 =>
    K e1 h2) h0) (
   K x0 h0)
def A_radix_some : Ann := .node (.reg [0] (.nil)) (.node (.node (.reg [0, 4] (.nil)) (.node (.node (.reg [2] (.nil)) (.nil)) (.nil))) (.node (.reg [2] (.nil)) (.nil)))
theorem E_radix_some (x0 : Option Addr) (K : Tup [.c .ptr] → Heap → Prop) (h0 : Heap) : F_radix_some x0 K h0 = sBody PG Tryz.f86 (Tryz.f86.body.getD .skip) A_radix_some [.pointer x0] [.c .ptr] K h0 := by kernel_rfl
theorem H_radix_some (x0 : Option Addr) {K : Tup [.c .ptr] → Heap → Prop} {h0 : Heap} (h : F_radix_some x0 K h0) : HC PG f_radix_some [.pointer x0] [.c .ptr] K h0 := HC.intro Tryz.mixed Tryz.func86 rfl Tryz.call86 (Nat.le_of_ble_eq_true rfl) ((E_radix_some x0 K h0) ▸ h)
/-- (*quickset/radix.Node).put -/
def F_radix_Node_put (x0 : Option Addr) (x1 : Option Addr) (x2 : ByteArray) (x3 : ByteArray) (K : ((Option Addr) × Bool × Bool) → Heap → Prop) (h0 : Heap) : Prop :=
  CondP (x2.toList == (⟨#[]⟩ : ByteArray).toList) (
   Join (fun (t6 : Bool) h7 => -- (33)
    CondP t6 (
     K (x0, false, false) h7) (
     ∃ a8 : Addr, x0 = some a8 ∧
     ∃ v9 : Bool, hcell h7 (adr a8 1) = some (.bool v9) ∧
     HC PG f_radix_Node_own [.pointer x0, .pointer x1] [.c .ptr] (fun (e10 : Option Addr) h11 =>
      (hcell h11 (adr a8 1) = some (.bool v9) ∧
       HC PG f_radix_Node_valued [.pointer e10, .string x3] [.c .ptr] (fun (e12 : Option Addr) h13 =>
        (hcell h13 (adr a8 1) = some (.bool v9) ∧
         K (e12, !v9, true) h13)) h11)) h7)) (fun J1 =>
    ∃ a2 : Addr, x0 = some a2 ∧
    ∃ v3 : Bool, hcell h0 (adr a2 1) = some (.bool v3) ∧
    CondP v3 (
     ∃ a4 : Addr, x0 = some a4 ∧
     ∃ v5 : ByteArray, hcell h0 (adr a4 2) = some (.string v5) ∧
     J1 (v5.toList == x3.toList) h0) (
     J1 false h0))) (
   ∃ b14 : UInt8, (0 : Int) ≤ (0 : Int) ∧ x2[(0 : Int).toNat]? = some b14 ∧
   HC PG f_radix_Node_find [.pointer x0, .int .u8 (b14.toNat : Int)] [.c (.int .i64), .c .bool] (fun (e15 : Int × Bool) h16 =>
    CondP (!e15.2) (
     HC PG f_radix_Node_own [.pointer x0, .pointer x1] [.c .ptr] (fun (e17 : Option Addr) h18 =>
      ∃ a19 : Addr, e17 = some a19 ∧
      ∃ v20 : SliceV, hcell h18 (adr a19 3) = some (.slice v20.a v20.len v20.cap) ∧
      HC PG f_radix_fresh [.pointer x1, .string x2, .string x3] [.c .ptr] (fun (e21 : Option Addr) h22 =>
       (hcell h22 (adr a19 3) = some (.slice v20.a v20.len v20.cap) ∧
        At (hnew h22 [.pointer e21] t_P_radix_Node) (fun h23 =>
         (hcell h23 (adr a19 3) = some (.slice v20.a v20.len v20.cap) ∧
          HC PG f_slices_Insert_A_P_radix_Node_P_radix_Node [.slice v20.a v20.len v20.cap, .int .i64 e15.1, .slice (some (newA h22)) 1 1] [.c .slice] (fun (e24 : SliceV) h25 =>
           ∃ a26 : Addr, e17 = some a26 ∧
           (Wr h25 (adr a26 3) ∧
            At (hset h25 (adr a26 3) (.slice e24.a e24.len e24.cap)) (fun h27 =>
             K (e17, true, true) h27))) h23)))) h18) h16) (
     ∃ a28 : Addr, x0 = some a28 ∧
     ∃ v29 : SliceV, hcell h16 (adr a28 3) = some (.slice v29.a v29.len v29.cap) ∧
     (((0 : Int) ≤ e15.1 ∧ e15.1 < ((v29.len : Nat) : Int)) ∧ ∃ a30 : Addr, v29.a = some a30 ∧
      ∃ v31 : Option Addr, hcell h16 (adr a30 (e15.1.toNat * 1)) = some (.pointer v31) ∧
      ∃ a32 : Addr, v31 = some a32 ∧
      ∃ v33 : ByteArray, hcell h16 (adr a32 0) = some (.string v33) ∧
      HC PG f_twig_Common [.string x2, .string v33] [.c (.int .i64)] (fun (e34 : Int) h35 =>
       Join (fun (t41 : Option Addr) h42 => -- kid(14)
        (((0 : Int) ≤ e34 ∧ e34 ≤ ((x2.size : Nat) : Int)) ∧
         HC PG f_radix_Node_put [.pointer t41, .pointer x1, .string (x2.extract e34.toNat x2.size), .string x3] [.c .ptr, .c .bool, .c .bool] (fun (e43 : (Option Addr) × Bool × Bool) h44 =>
          CondP (!e43.2.2) (
           K (x0, false, false) h44) (
           HC PG f_radix_Node_own [.pointer x0, .pointer x1] [.c .ptr] (fun (e45 : Option Addr) h46 =>
            ∃ a47 : Addr, e45 = some a47 ∧
            ∃ v48 : SliceV, hcell h46 (adr a47 3) = some (.slice v48.a v48.len v48.cap) ∧
            (((0 : Int) ≤ e15.1 ∧ e15.1 < ((v48.len : Nat) : Int)) ∧ ∃ a49 : Addr, v48.a = some a49 ∧
             (Wr h46 (adr a49 (e15.1.toNat * 1)) ∧
              At (hset h46 (adr a49 (e15.1.toNat * 1)) (.pointer e43.1)) (fun h50 =>
               K (e45, e43.2.1, true) h50)))) h44)) h42)) (fun J36 =>
        ∃ a37 : Addr, v31 = some a37 ∧
        ∃ v38 : ByteArray, hcell h35 (adr a37 0) = some (.string v38) ∧
        CondP (decide (e34 < (v38.size : Int))) (
         HC PG f_radix_Node_split [.pointer v31, .pointer x1, .int .i64 e34] [.c .ptr] (fun (e39 : Option Addr) h40 =>
          J36 e39 h40) h35) (
         J36 v31 h35))) h16))) h0)
def A_radix_Node_put : Ann := .node (.reg [0, 1, 2, 3] (.nil)) (.node (.node (.reg [0, 1, 2, 3, 21] (.nil)) (.node (.node (.join [0, 1, 3] [(33, .c .bool)] (.reg [0, 1, 3, 33] (.nil)) (.node (.node (.reg [8, 9, 10] (.nil)) (.nil)) (.nil))) (.node (.reg [8, 9, 10] (.draw [.mk 0 8191 1 34359738368, .mk 0 8191 2 68719476736, .mk 3 8188 103079215104 137438953472, .mk 0 8191 8 274877906944, .mk 12 8179 412316860416 549755813888, .mk 0 8191 1 1099511627776, .mk 32 8159 1099511627776 2199023255552, .mk 64 8127 2199023255552 4398046511104, .mk 128 8063 4398046511104 8796093022208, .mk 256 7935 8796093022208 17592186044416, .mk 31 8175 549755813888 256, .mk 2047 7679 17592186044416 512, .mk 4095 8191 0 1024] (.take 0 (.take 1 (.take 3 (.take 5 (.take 6 (.take 7 (.take 8 (.take 9 (.all (.last 2 (.all (.last 4 (.take 10 (.take 11 (.take 12 (.done)))))))))))))))))) (.nil))) (.nil))) (.node (.reg [0, 1, 2, 3, 11, 12] (.nil)) (.node (.node (.reg [0, 1, 2, 3, 11, 53] (.nil)) (.node (.node (.reg [1, 2, 3, 11, 13] (.nil)) (.node (.reg [13] (.draw [.mk 0 32767 8192 144115188075855872, .mk 0 32767 8192 288230376151711744, .mk 2 32765 288230376151711744 576460752303423488, .mk 4 32763 576460752303423488 1152921504606846976, .mk 8 32759 1152921504606846976 2305843009213693952, .mk 0 32767 2048 4611686018427387904, .mk 0 32767 2 9223372036854775808, .mk 0 32767 4 18446744073709551616, .mk 0 32767 8 36893488147419103232, .mk 448 32319 64563604257983430656 73786976294838206464, .mk 512 32255 73786976294838206464 147573952589676412928, .mk 1584 31695 154491481617317494784 295147905179352825856, .mk 4095 32766 144115188075855872 590295810358705651712, .mk 8191 28671 590295810358705651712 1180591620717411303424, .mk 12287 22527 1475739525896764129280 0] (.take 0 (.take 1 (.take 2 (.take 3 (.take 4 (.take 5 (.take 6 (.take 7 (.take 8 (.all (.last 9 (.all (.last 10 (.all (.last 11 (.take 12 (.take 13 (.all (.last 14 (.done)))))))))))))))))))))) (.node (.reg [8, 9, 10] (.nil)) (.nil)))) (.nil))) (.node (.reg [0, 1, 2, 3, 11, 14] (.nil)) (.node (.reg [0, 1, 2, 3, 11, 14, 15] (.nil)) (.join [0, 1, 2, 3, 11, 15] [(14, .c .ptr)] (.node (.reg [0, 1, 2, 3, 11, 14, 15, 91] (.nil)) (.node (.reg [0, 1, 2, 3, 11, 14, 15] (.nil)) (.nil))) (.node (.reg [0, 1, 11, 16, 17, 18] (.nil)) (.node (.node (.reg [0, 1, 11, 16, 17, 108] (.nil)) (.node (.node (.reg [8, 9, 10] (.nil)) (.nil)) (.nil))) (.node (.reg [11, 16, 17, 19] (.nil)) (.node (.reg [17, 19] (.nil)) (.node (.reg [8, 9, 10] (.nil)) (.nil))))))))))))
theorem E_radix_Node_put (x0 : Option Addr) (x1 : Option Addr) (x2 : ByteArray) (x3 : ByteArray) (K : Tup [.c .ptr, .c .bool, .c .bool] → Heap → Prop) (h0 : Heap) : F_radix_Node_put x0 x1 x2 x3 K h0 = sBody PG Tryz.f87 (Tryz.f87.body.getD .skip) A_radix_Node_put [.pointer x0, .pointer x1, .string x2, .string x3] [.c .ptr, .c .bool, .c .bool] K h0 := by kernel_rfl
theorem H_radix_Node_put (x0 : Option Addr) (x1 : Option Addr) (x2 : ByteArray) (x3 : ByteArray) {K : Tup [.c .ptr, .c .bool, .c .bool] → Heap → Prop} {h0 : Heap} (h : F_radix_Node_put x0 x1 x2 x3 K h0) : HC PG f_radix_Node_put [.pointer x0, .pointer x1, .string x2, .string x3] [.c .ptr, .c .bool, .c .bool] K h0 := HC.intro Tryz.mixed Tryz.func87 rfl Tryz.call87 (Nat.le_of_ble_eq_true rfl) ((E_radix_Node_put x0 x1 x2 x3 K h0) ▸ h)
/-- (quickset/champ.work).put -/
def F_champ_work_put (x0 : Int × Int × Int × (Option Addr) × ByteArray × Int) (x1 : Option Addr) (x2 : ByteArray × ByteArray) (x3 : Int) (K : ((Option Addr) × Bool × Bool) → Heap → Prop) (h0 : Heap) : Prop :=
  At (hnew h0 [.int .u64 x0.1, .int .u64 x0.2.1, .int .u64 x0.2.2.1, .pointer x0.2.2.2.1, .string x0.2.2.2.2.1, .int .u64 x0.2.2.2.2.2] t_champ_work) (fun h1 =>
   At (hnew h1 [.string x2.1, .string x2.2] t_pair_Pair) (fun h2 =>
    HC PG f_node_Node_IsBucket [.pointer x1] [.c .bool] (fun (e3 : Bool) h4 =>
     CondP e3 (
      ∃ v5 : ByteArray, hcell h4 (adr (newA h1) 0) = some (.string v5) ∧
      HC PG f_champ_in [.pointer x1, .string v5] [.c .str, .c .bool] (fun (e6 : ByteArray × Bool) h7 =>
       Join (fun (t10 : Bool) h11 => -- (36)
        CondP t10 (
         K (x1, false, false) h11) (
         ∃ v12 : Option Addr, hcell h11 (adr (newA h0) 3) = some (.pointer v12) ∧
         ∃ v13 : ByteArray, hcell h11 (adr (newA h1) 0) = some (.string v13) ∧
         ∃ v14 : ByteArray, hcell h11 (adr (newA h1) 1) = some (.string v14) ∧
         HC PG f_node_Node_Put [.pointer x1, .pointer v12, .agg #[.string v13, .string v14]] [.c .ptr] (fun (e15 : Option Addr) h16 =>
          K (e15, !e6.2, true) h16) h11)) (fun J8 =>
        CondP e6.2 (
         ∃ v9 : ByteArray, hcell h7 (adr (newA h1) 1) = some (.string v9) ∧
         J8 (e6.1.toList == v9.toList) h7) (
         J8 false h7))) h4) (
      ∃ v17 : Int, hcell h4 (adr (newA h0) 5) = some (.int .u64 v17) ∧
      HC PG f_chunk_At [.int .u64 v17, .int .i64 x3] [.c (.int .i64)] (fun (e18 : Int) h19 =>
       HC PG f_node_Node_Pair [.pointer x1, .int .i64 e18] [.agg [.str, .str], .c .bool] (fun (e20 : (ByteArray × ByteArray) × Bool) h21 =>
        At (hnew h21 [.string (⟨#[]⟩ : ByteArray), .string (⟨#[]⟩ : ByteArray)] t_pair_Pair) (fun h22 =>
         (WrS h22 (some (newA h21)) 0 [.string e20.1.1, .string e20.1.2] ∧
          At (hsetL h22 (newA h21) 0 [.string e20.1.1, .string e20.1.2]) (fun h23 =>
           CondP e20.2 (
            ∃ v24 : ByteArray, hcell h23 (adr (newA h21) 0) = some (.string v24) ∧
            ∃ v25 : ByteArray, hcell h23 (adr (newA h21) 1) = some (.string v25) ∧
            ∃ v26 : ByteArray, hcell h23 (adr (newA h1) 0) = some (.string v26) ∧
            ∃ v27 : ByteArray, hcell h23 (adr (newA h1) 1) = some (.string v27) ∧
            CondP ((v24.toList == v26.toList) && ((v25.toList == v27.toList) && true)) (
             K (x1, false, false) h23) (
             ∃ v28 : ByteArray, hcell h23 (adr (newA h21) 0) = some (.string v28) ∧
             ∃ v29 : ByteArray, hcell h23 (adr (newA h1) 0) = some (.string v29) ∧
             CondP (v28.toList == v29.toList) (
              ∃ v30 : Option Addr, hcell h23 (adr (newA h0) 3) = some (.pointer v30) ∧
              ∃ v31 : ByteArray, hcell h23 (adr (newA h1) 0) = some (.string v31) ∧
              ∃ v32 : ByteArray, hcell h23 (adr (newA h1) 1) = some (.string v32) ∧
              HC PG f_node_Node_SetPair [.pointer x1, .pointer v30, .int .i64 e18, .agg #[.string v31, .string v32]] [.c .ptr] (fun (e33 : Option Addr) h34 =>
               K (e33, false, true) h34) h23) (
              ∃ v35 : Option Addr, hcell h23 (adr (newA h0) 3) = some (.pointer v35) ∧
              ∃ v36 : Int, hcell h23 (adr (newA h0) 0) = some (.int .u64 v36) ∧
              ∃ v37 : Int, hcell h23 (adr (newA h0) 1) = some (.int .u64 v37) ∧
              ∃ v38 : Int, hcell h23 (adr (newA h0) 2) = some (.int .u64 v38) ∧
              ∃ v39 : Option Addr, hcell h23 (adr (newA h0) 3) = some (.pointer v39) ∧
              ∃ v40 : ByteArray, hcell h23 (adr (newA h0) 4) = some (.string v40) ∧
              ∃ v41 : Int, hcell h23 (adr (newA h0) 5) = some (.int .u64 v41) ∧
              ∃ v42 : ByteArray, hcell h23 (adr (newA h21) 0) = some (.string v42) ∧
              ∃ v43 : ByteArray, hcell h23 (adr (newA h21) 1) = some (.string v43) ∧
              ∃ v44 : ByteArray, hcell h23 (adr (newA h1) 0) = some (.string v44) ∧
              ∃ v45 : ByteArray, hcell h23 (adr (newA h1) 1) = some (.string v45) ∧
              HC PG f_champ_work_both [.agg #[.int .u64 v36, .int .u64 v37, .int .u64 v38, .pointer v39, .string v40, .int .u64 v41], .agg #[.string v42, .string v43], .agg #[.string v44, .string v45], .int .i64 (IntKind.wrap .i64 (x3 + 1))] [.c .ptr] (fun (e46 : Option Addr) h47 =>
               (hcell h47 (adr (newA h0) 3) = some (.pointer v35) ∧
                HC PG f_node_Node_SetKid [.pointer x1, .pointer v35, .int .i64 e18, .pointer e46] [.c .ptr] (fun (e48 : Option Addr) h49 =>
                 K (e48, true, true) h49) h47)) h23))) (
            HC PG f_node_Node_Kid [.pointer x1, .int .i64 e18] [.c .ptr, .c .bool] (fun (e50 : (Option Addr) × Bool) h51 =>
             CondP (!e50.2) (
              ∃ v52 : Option Addr, hcell h51 (adr (newA h0) 3) = some (.pointer v52) ∧
              ∃ v53 : ByteArray, hcell h51 (adr (newA h1) 0) = some (.string v53) ∧
              ∃ v54 : ByteArray, hcell h51 (adr (newA h1) 1) = some (.string v54) ∧
              HC PG f_node_Node_SetPair [.pointer x1, .pointer v52, .int .i64 e18, .agg #[.string v53, .string v54]] [.c .ptr] (fun (e55 : Option Addr) h56 =>
               K (e55, true, true) h56) h51) (
              ∃ v57 : Int, hcell h51 (adr (newA h0) 0) = some (.int .u64 v57) ∧
              ∃ v58 : Int, hcell h51 (adr (newA h0) 1) = some (.int .u64 v58) ∧
              ∃ v59 : Int, hcell h51 (adr (newA h0) 2) = some (.int .u64 v59) ∧
              ∃ v60 : Option Addr, hcell h51 (adr (newA h0) 3) = some (.pointer v60) ∧
              ∃ v61 : ByteArray, hcell h51 (adr (newA h0) 4) = some (.string v61) ∧
              ∃ v62 : Int, hcell h51 (adr (newA h0) 5) = some (.int .u64 v62) ∧
              ∃ v63 : ByteArray, hcell h51 (adr (newA h1) 0) = some (.string v63) ∧
              ∃ v64 : ByteArray, hcell h51 (adr (newA h1) 1) = some (.string v64) ∧
              HC PG f_champ_work_put [.agg #[.int .u64 v57, .int .u64 v58, .int .u64 v59, .pointer v60, .string v61, .int .u64 v62], .pointer e50.1, .agg #[.string v63, .string v64], .int .i64 (IntKind.wrap .i64 (x3 + 1))] [.c .ptr, .c .bool, .c .bool] (fun (e65 : (Option Addr) × Bool × Bool) h66 =>
               CondP (!e65.2.2) (
                K (x1, false, false) h66) (
                ∃ v67 : Option Addr, hcell h66 (adr (newA h0) 3) = some (.pointer v67) ∧
                HC PG f_node_Node_SetKid [.pointer x1, .pointer v67, .int .i64 e18, .pointer e65.1] [.c .ptr] (fun (e68 : Option Addr) h69 =>
                 K (e68, e65.2.1, true) h69) h66)) h51)) h23))))) h19) h4)) h2))
def A_champ_work_put : Ann := .node (.reg [1, 3, 4, 6] (.nil)) (.node (.node (.reg [1, 3, 4, 6, 22] (.nil)) (.node (.node (.reg [1, 4, 6, 11, 12] (.nil)) (.node (.join [1, 4, 6, 12] [(36, .c .bool)] (.reg [1, 4, 6, 12, 36] (.nil)) (.node (.node (.reg [8, 9, 10] (.nil)) (.nil)) (.nil))) (.node (.reg [8, 9, 10] (.nil)) (.nil)))) (.nil))) (.node (.reg [1, 3, 4, 6, 13] (.nil)) (.node (.node (.reg [1, 3, 4, 6, 13, 14, 15] (.nil)) (.node (.reg [1, 3, 4, 6, 13, 14, 55] (.nil)) (.node (.node (.node (.reg [1, 3, 4, 6, 13, 14, 56] (.nil)) (.node (.node (.reg [8, 9, 10] (.nil)) (.nil)) (.node (.reg [1, 3, 4, 6, 13, 14, 61] (.nil)) (.node (.node (.reg [8, 9, 10] (.nil)) (.nil)) (.nil))))) (.node (.reg [8, 9, 10] (.draw [.mk 0 16383 2 9444732965739290427392, .mk 0 16383 16 18889465931478580854784, .mk 2 16381 18889465931478580854784 37778931862957161709568, .mk 0 16383 8192 75557863725914323419136, .mk 0 16383 16 151115727451828646838272, .mk 0 16383 16384 302231454903657293676544, .mk 0 16383 64 604462909807314587353088, .mk 0 16383 8 1208925819614629174706176, .mk 128 16255 1208925819614629174706176 2417851639229258349412352, .mk 368 16015 3475661731392058877280256 4835703278458516698824704, .mk 525 15858 4958484807013127474380800 9671406556917033397649408, .mk 2047 15359 9671406556917033397649408 256, .mk 4095 16383 0 512, .mk 8191 16383 0 1024] (.take 0 (.take 1 (.take 2 (.take 3 (.take 4 (.take 5 (.take 6 (.take 7 (.take 8 (.all (.last 9 (.all (.last 10 (.take 11 (.take 12 (.take 13 (.done))))))))))))))))))) (.nil))) (.nil)))) (.node (.reg [1, 3, 4, 6, 13, 16, 17] (.nil)) (.node (.node (.reg [1, 3, 4, 6, 13, 16, 91] (.nil)) (.node (.node (.reg [8, 9, 10] (.nil)) (.nil)) (.nil))) (.node (.reg [1, 4, 13, 18, 19, 20] (.nil)) (.node (.node (.reg [1, 4, 13, 18, 19, 109] (.nil)) (.node (.node (.reg [8, 9, 10] (.nil)) (.nil)) (.nil))) (.node (.reg [8, 9, 10] (.nil)) (.nil)))))))))
theorem E_champ_work_put (x0 : Int × Int × Int × (Option Addr) × ByteArray × Int) (x1 : Option Addr) (x2 : ByteArray × ByteArray) (x3 : Int) (K : Tup [.c .ptr, .c .bool, .c .bool] → Heap → Prop) (h0 : Heap) : F_champ_work_put x0 x1 x2 x3 K h0 = sBody PG Tryz.f88 (Tryz.f88.body.getD .skip) A_champ_work_put [.agg #[.int .u64 x0.1, .int .u64 x0.2.1, .int .u64 x0.2.2.1, .pointer x0.2.2.2.1, .string x0.2.2.2.2.1, .int .u64 x0.2.2.2.2.2], .pointer x1, .agg #[.string x2.1, .string x2.2], .int .i64 x3] [.c .ptr, .c .bool, .c .bool] K h0 := by kernel_rfl
theorem H_champ_work_put (x0 : Int × Int × Int × (Option Addr) × ByteArray × Int) (x1 : Option Addr) (x2 : ByteArray × ByteArray) (x3 : Int) {K : Tup [.c .ptr, .c .bool, .c .bool] → Heap → Prop} {h0 : Heap} (h : F_champ_work_put x0 x1 x2 x3 K h0) : HC PG f_champ_work_put [.agg #[.int .u64 x0.1, .int .u64 x0.2.1, .int .u64 x0.2.2.1, .pointer x0.2.2.2.1, .string x0.2.2.2.2.1, .int .u64 x0.2.2.2.2.2], .pointer x1, .agg #[.string x2.1, .string x2.2], .int .i64 x3] [.c .ptr, .c .bool, .c .bool] K h0 := HC.intro Tryz.mixed Tryz.func88 rfl Tryz.call88 (Nat.le_of_ble_eq_true rfl) ((E_champ_work_put x0 x1 x2 x3 K h0) ▸ h)
/-- quickset/champ.some -/
def F_champ_some (x0 : Option Addr) (K : (Option Addr) → Heap → Prop) (h0 : Heap) : Prop :=
  CondP x0.isNone (
   HC PG f_champ_Empty [] [.c .ptr] (fun (e1 : Option Addr) h2 =>
    K e1 h2) h0) (
   K x0 h0)
def A_champ_some : Ann := .node (.reg [0] (.nil)) (.node (.node (.reg [0, 4] (.nil)) (.node (.node (.reg [2] (.nil)) (.nil)) (.nil))) (.node (.reg [2] (.nil)) (.nil)))
theorem E_champ_some (x0 : Option Addr) (K : Tup [.c .ptr] → Heap → Prop) (h0 : Heap) : F_champ_some x0 K h0 = sBody PG Tryz.f89 (Tryz.f89.body.getD .skip) A_champ_some [.pointer x0] [.c .ptr] K h0 := by kernel_rfl
theorem H_champ_some (x0 : Option Addr) {K : Tup [.c .ptr] → Heap → Prop} {h0 : Heap} (h : F_champ_some x0 K h0) : HC PG f_champ_some [.pointer x0] [.c .ptr] K h0 := HC.intro Tryz.mixed Tryz.func89 rfl Tryz.call89 (Nat.le_of_ble_eq_true rfl) ((E_champ_some x0 K h0) ▸ h)
/-- quickset/quicksetref03.Less -/
def F_r03_Less (x0 : ByteArray) (x1 : ByteArray) (K : (Bool) → Heap → Prop) (h0 : Heap) : Prop :=
  LoopP (fun I1 (t2 : Int) h3 => -- i(5)
   Join (fun (t5 : Bool) h6 => -- (15)
    CondP t5 (
     ∃ b7 : UInt8, (0 : Int) ≤ t2 ∧ x0[t2.toNat]? = some b7 ∧
     ∃ b8 : UInt8, (0 : Int) ≤ t2 ∧ x1[t2.toNat]? = some b8 ∧
     CondP ((b7.toNat : Int) != (b8.toNat : Int)) (
      ∃ b9 : UInt8, (0 : Int) ≤ t2 ∧ x0[t2.toNat]? = some b9 ∧
      ∃ b10 : UInt8, (0 : Int) ≤ t2 ∧ x1[t2.toNat]? = some b10 ∧
      K (decide ((b9.toNat : Int) < (b10.toNat : Int))) h6) (
      I1 (IntKind.wrap .i64 (t2 + 1)) h6)) (
     K (decide ((x0.size : Int) < (x1.size : Int))) h6)) (fun J4 =>
    CondP (decide (t2 < (x0.size : Int))) (
     J4 (decide (t2 < (x1.size : Int))) h3) (
     J4 false h3))) 0 h0
def A_r03_Less : Ann := .node (.reg [0, 1] (.nil)) (.node (.node (.reg [0, 1, 5] (.nil)) (.loop [0, 1] [(5, .c (.int .i64))] (.node (.join [0, 1, 5] [(15, .c .bool)] (.reg [0, 1, 5, 15] (.nil)) (.nil)) (.node (.node (.reg [0, 1, 5, 24] (.draw [.mk 0 127 1 262144, .mk 0 127 32 524288, .mk 3 124 786432 1048576, .mk 0 127 2 2097152, .mk 0 127 32 4194304, .mk 24 103 6291456 8388608, .mk 36 91 9437184 16777216] (.take 0 (.take 1 (.take 2 (.take 3 (.take 4 (.take 5 (.take 6 (.done)))))))))) (.node (.node (.reg [4] (.draw [.mk 0 255 1 33554432, .mk 0 255 32 67108864, .mk 3 252 100663296 134217728, .mk 0 255 2 268435456, .mk 0 255 32 536870912, .mk 24 231 805306368 1073741824, .mk 36 219 1207959552 2147483648, .mk 127 191 2147483648 16] (.take 0 (.take 1 (.take 2 (.take 3 (.take 4 (.take 5 (.take 6 (.take 7 (.done))))))))))) (.nil)) (.nil))) (.reg [0, 1, 5] (.nil)))))) (.node (.reg [4] (.nil)) (.nil)))
theorem E_r03_Less (x0 : ByteArray) (x1 : ByteArray) (K : Tup [.c .bool] → Heap → Prop) (h0 : Heap) : F_r03_Less x0 x1 K h0 = sBody PG Tryz.f90 (Tryz.f90.body.getD .skip) A_r03_Less [.string x0, .string x1] [.c .bool] K h0 := by kernel_rfl
theorem H_r03_Less (x0 : ByteArray) (x1 : ByteArray) {K : Tup [.c .bool] → Heap → Prop} {h0 : Heap} (h : F_r03_Less x0 x1 K h0) : HC PG f_r03_Less [.string x0, .string x1] [.c .bool] K h0 := HC.intro Tryz.mixed Tryz.func90 rfl Tryz.call90 (Nat.le_of_ble_eq_true rfl) ((E_r03_Less x0 x1 K h0) ▸ h)
/-- (*quickset/radix.Node).drop -/
def F_radix_Node_drop (x0 : Option Addr) (x1 : Option Addr) (x2 : ByteArray) (K : ((Option Addr) × Bool) → Heap → Prop) (h0 : Heap) : Prop :=
  CondP (x2.toList == (⟨#[]⟩ : ByteArray).toList) (
   ∃ a1 : Addr, x0 = some a1 ∧
   ∃ v2 : Bool, hcell h0 (adr a1 1) = some (.bool v2) ∧
   CondP (!v2) (
    K (x0, false) h0) (
    HC PG f_radix_Node_own [.pointer x0, .pointer x1] [.c .ptr] (fun (e3 : Option Addr) h4 =>
     ∃ a5 : Addr, e3 = some a5 ∧
     (Wr h4 (adr a5 1) ∧
      At (hset h4 (adr a5 1) (.bool false)) (fun h6 =>
       ∃ a7 : Addr, e3 = some a7 ∧
       (Wr h6 (adr a7 2) ∧
        At (hset h6 (adr a7 2) (.string (⟨#[]⟩ : ByteArray))) (fun h8 =>
         K (e3, true) h8))))) h0)) (
   ∃ b9 : UInt8, (0 : Int) ≤ (0 : Int) ∧ x2[(0 : Int).toNat]? = some b9 ∧
   HC PG f_radix_Node_find [.pointer x0, .int .u8 (b9.toNat : Int)] [.c (.int .i64), .c .bool] (fun (e10 : Int × Bool) h11 =>
    CondP (!e10.2) (
     K (x0, false) h11) (
     ∃ a12 : Addr, x0 = some a12 ∧
     ∃ v13 : SliceV, hcell h11 (adr a12 3) = some (.slice v13.a v13.len v13.cap) ∧
     (((0 : Int) ≤ e10.1 ∧ e10.1 < ((v13.len : Nat) : Int)) ∧ ∃ a14 : Addr, v13.a = some a14 ∧
      ∃ v15 : Option Addr, hcell h11 (adr a14 (e10.1.toNat * 1)) = some (.pointer v15) ∧
      ∃ a16 : Addr, v15 = some a16 ∧
      ∃ v17 : ByteArray, hcell h11 (adr a16 0) = some (.string v17) ∧
      HC PG f_twig_Cut [.string x2, .string v17] [.c .str, .c .bool] (fun (e18 : ByteArray × Bool) h19 =>
       CondP (!e18.2) (
        K (x0, false) h19) (
        ∃ a20 : Addr, x0 = some a20 ∧
        ∃ v21 : SliceV, hcell h19 (adr a20 3) = some (.slice v21.a v21.len v21.cap) ∧
        (((0 : Int) ≤ e10.1 ∧ e10.1 < ((v21.len : Nat) : Int)) ∧ ∃ a22 : Addr, v21.a = some a22 ∧
         ∃ v23 : Option Addr, hcell h19 (adr a22 (e10.1.toNat * 1)) = some (.pointer v23) ∧
         HC PG f_radix_Node_drop [.pointer v23, .pointer x1, .string e18.1] [.c .ptr, .c .bool] (fun (e24 : (Option Addr) × Bool) h25 =>
          CondP (!e24.2) (
           K (x0, false) h25) (
           HC PG f_radix_Node_own [.pointer x0, .pointer x1] [.c .ptr] (fun (e26 : Option Addr) h27 =>
            HC PG f_radix_Node_mend [.pointer e24.1, .pointer x1] [.c .ptr] (fun (e28 : Option Addr) h29 =>
             CondP e28.isNone (
              ∃ a30 : Addr, e26 = some a30 ∧
              ∃ v31 : SliceV, hcell h29 (adr a30 3) = some (.slice v31.a v31.len v31.cap) ∧
              HC PG f_slices_Delete_A_P_radix_Node_P_radix_Node [.slice v31.a v31.len v31.cap, .int .i64 e10.1, .int .i64 (IntKind.wrap .i64 (e10.1 + 1))] [.c .slice] (fun (e32 : SliceV) h33 =>
               ∃ a34 : Addr, e26 = some a34 ∧
               (Wr h33 (adr a34 3) ∧
                At (hset h33 (adr a34 3) (.slice e32.a e32.len e32.cap)) (fun h35 =>
                 K (e26, true) h35))) h29) (
              ∃ a36 : Addr, e26 = some a36 ∧
              ∃ v37 : SliceV, hcell h29 (adr a36 3) = some (.slice v37.a v37.len v37.cap) ∧
              (((0 : Int) ≤ e10.1 ∧ e10.1 < ((v37.len : Nat) : Int)) ∧ ∃ a38 : Addr, v37.a = some a38 ∧
               (Wr h29 (adr a38 (e10.1.toNat * 1)) ∧
                At (hset h29 (adr a38 (e10.1.toNat * 1)) (.pointer e28)) (fun h39 =>
                 K (e26, true) h39))))) h27) h25)) h19))) h11))) h0)
def A_radix_Node_drop : Ann := .node (.reg [0, 1, 2] (.nil)) (.node (.node (.reg [0, 1, 2, 16] (.nil)) (.node (.node (.node (.reg [0, 1, 21] (.nil)) (.node (.node (.reg [6, 7] (.nil)) (.nil)) (.nil))) (.node (.reg [8] (.nil)) (.node (.reg [8] (.nil)) (.node (.reg [6, 7] (.nil)) (.nil))))) (.nil))) (.node (.reg [0, 1, 2, 9, 10] (.nil)) (.node (.node (.reg [0, 1, 2, 9, 41] (.nil)) (.node (.node (.reg [6, 7] (.nil)) (.nil)) (.nil))) (.node (.reg [0, 1, 9, 10, 11] (.nil)) (.node (.node (.reg [0, 1, 9, 11, 59] (.nil)) (.node (.node (.reg [6, 7] (.nil)) (.nil)) (.nil))) (.node (.reg [0, 1, 9, 12, 13] (.nil)) (.node (.node (.reg [0, 1, 9, 12, 75] (.nil)) (.node (.node (.reg [6, 7] (.nil)) (.nil)) (.nil))) (.node (.reg [1, 9, 12, 14] (.nil)) (.node (.node (.reg [9, 12, 14] (.nil)) (.node (.reg [9, 12, 14, 84] (.nil)) (.node (.reg [14] (.nil)) (.reg [14] (.nil))))) (.node (.reg [6, 7] (.nil)) (.nil)))))))))))
theorem E_radix_Node_drop (x0 : Option Addr) (x1 : Option Addr) (x2 : ByteArray) (K : Tup [.c .ptr, .c .bool] → Heap → Prop) (h0 : Heap) : F_radix_Node_drop x0 x1 x2 K h0 = sBody PG Tryz.f91 (Tryz.f91.body.getD .skip) A_radix_Node_drop [.pointer x0, .pointer x1, .string x2] [.c .ptr, .c .bool] K h0 := by kernel_rfl
theorem H_radix_Node_drop (x0 : Option Addr) (x1 : Option Addr) (x2 : ByteArray) {K : Tup [.c .ptr, .c .bool] → Heap → Prop} {h0 : Heap} (h : F_radix_Node_drop x0 x1 x2 K h0) : HC PG f_radix_Node_drop [.pointer x0, .pointer x1, .string x2] [.c .ptr, .c .bool] K h0 := HC.intro Tryz.mixed Tryz.func91 rfl Tryz.call91 (Nat.le_of_ble_eq_true rfl) ((E_radix_Node_drop x0 x1 x2 K h0) ▸ h)
/-- (quickset/champ.work).drop -/
def F_champ_work_drop (x0 : Int × Int × Int × (Option Addr) × ByteArray × Int) (x1 : Option Addr) (x2 : Int) (K : ((Option Addr) × Bool) → Heap → Prop) (h0 : Heap) : Prop :=
  At (hnew h0 [.int .u64 x0.1, .int .u64 x0.2.1, .int .u64 x0.2.2.1, .pointer x0.2.2.2.1, .string x0.2.2.2.2.1, .int .u64 x0.2.2.2.2.2] t_champ_work) (fun h1 =>
   HC PG f_node_Node_IsBucket [.pointer x1] [.c .bool] (fun (e2 : Bool) h3 =>
    CondP e2 (
     ∃ v4 : ByteArray, hcell h3 (adr (newA h0) 4) = some (.string v4) ∧
     HC PG f_champ_in [.pointer x1, .string v4] [.c .str, .c .bool] (fun (e5 : ByteArray × Bool) h6 =>
      CondP (!e5.2) (
       K (x1, false) h6) (
       ∃ v7 : Option Addr, hcell h6 (adr (newA h0) 3) = some (.pointer v7) ∧
       ∃ v8 : ByteArray, hcell h6 (adr (newA h0) 4) = some (.string v8) ∧
       HC PG f_node_Node_Drop [.pointer x1, .pointer v7, .string v8] [.c .ptr] (fun (e9 : Option Addr) h10 =>
        K (e9, true) h10) h6)) h3) (
     ∃ v11 : Int, hcell h3 (adr (newA h0) 5) = some (.int .u64 v11) ∧
     HC PG f_chunk_At [.int .u64 v11, .int .i64 x2] [.c (.int .i64)] (fun (e12 : Int) h13 =>
      HC PG f_node_Node_Pair [.pointer x1, .int .i64 e12] [.agg [.str, .str], .c .bool] (fun (e14 : (ByteArray × ByteArray) × Bool) h15 =>
       At (hnew h15 [.string (⟨#[]⟩ : ByteArray), .string (⟨#[]⟩ : ByteArray)] t_pair_Pair) (fun h16 =>
        (WrS h16 (some (newA h15)) 0 [.string e14.1.1, .string e14.1.2] ∧
         At (hsetL h16 (newA h15) 0 [.string e14.1.1, .string e14.1.2]) (fun h17 =>
          CondP e14.2 (
           ∃ v18 : ByteArray, hcell h17 (adr (newA h15) 0) = some (.string v18) ∧
           ∃ v19 : ByteArray, hcell h17 (adr (newA h0) 4) = some (.string v19) ∧
           CondP (!(v18.toList == v19.toList)) (
            K (x1, false) h17) (
            ∃ v20 : Option Addr, hcell h17 (adr (newA h0) 3) = some (.pointer v20) ∧
            HC PG f_node_Node_Clear [.pointer x1, .pointer v20, .int .i64 e12] [.c .ptr] (fun (e21 : Option Addr) h22 =>
             K (e21, true) h22) h17)) (
           HC PG f_node_Node_Kid [.pointer x1, .int .i64 e12] [.c .ptr, .c .bool] (fun (e23 : (Option Addr) × Bool) h24 =>
            CondP (!e23.2) (
             K (x1, false) h24) (
             ∃ v25 : Int, hcell h24 (adr (newA h0) 0) = some (.int .u64 v25) ∧
             ∃ v26 : Int, hcell h24 (adr (newA h0) 1) = some (.int .u64 v26) ∧
             ∃ v27 : Int, hcell h24 (adr (newA h0) 2) = some (.int .u64 v27) ∧
             ∃ v28 : Option Addr, hcell h24 (adr (newA h0) 3) = some (.pointer v28) ∧
             ∃ v29 : ByteArray, hcell h24 (adr (newA h0) 4) = some (.string v29) ∧
             ∃ v30 : Int, hcell h24 (adr (newA h0) 5) = some (.int .u64 v30) ∧
             HC PG f_champ_work_drop [.agg #[.int .u64 v25, .int .u64 v26, .int .u64 v27, .pointer v28, .string v29, .int .u64 v30], .pointer e23.1, .int .i64 (IntKind.wrap .i64 (x2 + 1))] [.c .ptr, .c .bool] (fun (e31 : (Option Addr) × Bool) h32 =>
              CondP (!e31.2) (
               K (x1, false) h32) (
               HC PG f_champ_alone [.pointer e31.1] [.agg [.str, .str], .c .bool] (fun (e33 : (ByteArray × ByteArray) × Bool) h34 =>
                At (hnew h34 [.string (⟨#[]⟩ : ByteArray), .string (⟨#[]⟩ : ByteArray)] t_pair_Pair) (fun h35 =>
                 (WrS h35 (some (newA h34)) 0 [.string e33.1.1, .string e33.1.2] ∧
                  At (hsetL h35 (newA h34) 0 [.string e33.1.1, .string e33.1.2]) (fun h36 =>
                   CondP e33.2 (
                    ∃ v37 : Option Addr, hcell h36 (adr (newA h0) 3) = some (.pointer v37) ∧
                    ∃ v38 : ByteArray, hcell h36 (adr (newA h34) 0) = some (.string v38) ∧
                    ∃ v39 : ByteArray, hcell h36 (adr (newA h34) 1) = some (.string v39) ∧
                    HC PG f_node_Node_SetPair [.pointer x1, .pointer v37, .int .i64 e12, .agg #[.string v38, .string v39]] [.c .ptr] (fun (e40 : Option Addr) h41 =>
                     K (e40, true) h41) h36) (
                    ∃ v42 : Option Addr, hcell h36 (adr (newA h0) 3) = some (.pointer v42) ∧
                    HC PG f_node_Node_SetKid [.pointer x1, .pointer v42, .int .i64 e12, .pointer e31.1] [.c .ptr] (fun (e43 : Option Addr) h44 =>
                     K (e43, true) h44) h36))))) h32)) h24)) h17))))) h13) h3)) h1)
def A_champ_work_drop : Ann := .node (.reg [1, 2, 3] (.nil)) (.node (.node (.reg [1, 2, 3, 20] (.nil)) (.node (.node (.node (.reg [1, 3, 9] (.nil)) (.node (.reg [1, 3, 29] (.nil)) (.node (.node (.reg [6, 7] (.nil)) (.nil)) (.nil)))) (.node (.reg [6, 7] (.nil)) (.nil))) (.nil))) (.node (.reg [1, 2, 3, 10] (.nil)) (.node (.node (.reg [1, 2, 3, 10, 11, 12] (.nil)) (.node (.reg [1, 2, 3, 10, 11, 47] (.nil)) (.node (.node (.node (.reg [1, 3, 10, 52] (.nil)) (.node (.node (.reg [6, 7] (.nil)) (.nil)) (.nil))) (.node (.reg [6, 7] (.nil)) (.nil))) (.nil)))) (.node (.reg [1, 2, 3, 10, 13, 14] (.nil)) (.node (.node (.reg [1, 2, 3, 10, 13, 66] (.nil)) (.node (.node (.reg [6, 7] (.nil)) (.nil)) (.nil))) (.node (.reg [1, 3, 10, 15, 16] (.nil)) (.node (.node (.reg [1, 3, 10, 15, 77] (.nil)) (.node (.node (.reg [6, 7] (.nil)) (.nil)) (.nil))) (.node (.node (.reg [1, 3, 10, 15, 17, 18] (.nil)) (.node (.reg [1, 3, 10, 15, 17, 84] (.nil)) (.node (.node (.reg [6, 7] (.nil)) (.nil)) (.nil)))) (.node (.reg [6, 7] (.nil)) (.nil))))))))))
theorem E_champ_work_drop (x0 : Int × Int × Int × (Option Addr) × ByteArray × Int) (x1 : Option Addr) (x2 : Int) (K : Tup [.c .ptr, .c .bool] → Heap → Prop) (h0 : Heap) : F_champ_work_drop x0 x1 x2 K h0 = sBody PG Tryz.f92 (Tryz.f92.body.getD .skip) A_champ_work_drop [.agg #[.int .u64 x0.1, .int .u64 x0.2.1, .int .u64 x0.2.2.1, .pointer x0.2.2.2.1, .string x0.2.2.2.2.1, .int .u64 x0.2.2.2.2.2], .pointer x1, .int .i64 x2] [.c .ptr, .c .bool] K h0 := by kernel_rfl
theorem H_champ_work_drop (x0 : Int × Int × Int × (Option Addr) × ByteArray × Int) (x1 : Option Addr) (x2 : Int) {K : Tup [.c .ptr, .c .bool] → Heap → Prop} {h0 : Heap} (h : F_champ_work_drop x0 x1 x2 K h0) : HC PG f_champ_work_drop [.agg #[.int .u64 x0.1, .int .u64 x0.2.1, .int .u64 x0.2.2.1, .pointer x0.2.2.2.1, .string x0.2.2.2.2.1, .int .u64 x0.2.2.2.2.2], .pointer x1, .int .i64 x2] [.c .ptr, .c .bool] K h0 := HC.intro Tryz.mixed Tryz.func92 rfl Tryz.call92 (Nat.le_of_ble_eq_true rfl) ((E_champ_work_drop x0 x1 x2 K h0) ▸ h)
end Go.Proofs
