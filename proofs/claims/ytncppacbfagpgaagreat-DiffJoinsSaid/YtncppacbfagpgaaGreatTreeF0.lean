/- A part of the proof that the named laws of this program answer true, whatever the input. -/
import Derived.Test.YtncppacbfagpgaaGreatTreeF
set_option maxRecDepth 100000
set_option linter.unusedVariables false
namespace Go.Proofs
open Go.Lift
open Int renaming tmod→fq
open IntKind renaming wrap→ac
open Nat renaming le_of_ble_eq_true→ae
def wn(x0:Int)(x1:Int×Int×Int)(x2:SliceV)(x3:SliceV)(x4:SliceV)(x5:SliceV)(x6:SliceV)(x7:SliceV)(K:(Bool)→af→Prop)(h0:af):Prop:=
 At (hnew h0 [.int .u64 x1.1,.int .u64 x1.2.1,.int .u64 x1.2.2] ct) (fun h1=>
 HC PG wY [] [.c .bool] (fun(e2:Bool) h3=>
 CondP (!e2) (
 K false h3) (
 ∃v4,aj h3 (ag h0) 0 (.int .u64 v4)∧
 ∃v5,aj h3 (ag h0) 1 (.int .u64 v5)∧
 ∃v6,aj h3 (ag h0) 2 (.int .u64 v6)∧
 HC PG wX [.int .u8 x0,.agg #[.int .u64 v4,.int .u64 v5,.int .u64 v6]] [.agg [.int .i64,.int .u64,.int .u64,.int .u64,.ptr,.ptr],.agg [.int .i64,.int .u64,.int .u64,.int .u64,.slice]] (fun(e7:(T6)×(Int×Int×Int×Int×SliceV)) h8=>
 At (hnew h8 [.int .i64 0,.int .u64 0,.int .u64 0,.int .u64 0,.pointer none,.pointer none] bE) (fun h9=>
 At (hnew h9 [.int .i64 0,.int .u64 0,.int .u64 0,.int .u64 0,.slice none 0 0] dH) (fun h10=>
 (dq h10 (some (ag h8)) 0 [.int .i64 e7.1.1,.int .u64 e7.1.2.1,.int .u64 e7.1.2.2.1,.int .u64 e7.1.2.2.2.1,.pointer e7.1.2.2.2.2.1,.pointer e7.1.2.2.2.2.2]∧
 At (aV h10 (ag h8) 0 [.int .i64 e7.1.1,.int .u64 e7.1.2.1,.int .u64 e7.1.2.2.1,.int .u64 e7.1.2.2.2.1,.pointer e7.1.2.2.2.2.1,.pointer e7.1.2.2.2.2.2]) (fun h11=>
 (dq h11 (some (ag h9)) 0 [.int .i64 e7.2.1,.int .u64 e7.2.2.1,.int .u64 e7.2.2.2.1,.int .u64 e7.2.2.2.2.1,.slice e7.2.2.2.2.2.a e7.2.2.2.2.2.len e7.2.2.2.2.2.cap]∧
 At (aV h11 (ag h9) 0 [.int .i64 e7.2.1,.int .u64 e7.2.2.1,.int .u64 e7.2.2.2.1,.int .u64 e7.2.2.2.2.1,.slice e7.2.2.2.2.2.a e7.2.2.2.2.2.len e7.2.2.2.2.2.cap]) (fun h12=>
 ∃v13,aj h12 (ag h8) 0 (.int .i64 v13)∧
 ∃v14,aj h12 (ag h8) 1 (.int .u64 v14)∧
 ∃v15,aj h12 (ag h8) 2 (.int .u64 v15)∧
 ∃v16,aj h12 (ag h8) 3 (.int .u64 v16)∧
 ∃v17,aj h12 (ag h8) 4 (.pointer v17)∧
 ∃v18,aj h12 (ag h8) 5 (.pointer v18)∧
 ∃v19,aj h12 (ag h9) 0 (.int .i64 v19)∧
 ∃v20,aj h12 (ag h9) 1 (.int .u64 v20)∧
 ∃v21,aj h12 (ag h9) 2 (.int .u64 v21)∧
 ∃v22,aj h12 (ag h9) 3 (.int .u64 v22)∧
 ∃v23:SliceV,aj h12 (ag h9) 4 (.slice v23.a v23.len v23.cap)∧
 HC PG qK [.agg #[.int .i64 v13,.int .u64 v14,.int .u64 v15,.int .u64 v16,.pointer v17,.pointer v18],.agg #[.int .i64 v19,.int .u64 v20,.int .u64 v21,.int .u64 v22,.slice v23.a v23.len v23.cap],.slice x2.a x2.len x2.cap,.slice none 0 0] [.agg [.int .i64,.int .u64,.int .u64,.int .u64,.ptr,.ptr],.agg [.int .i64,.int .u64,.int .u64,.int .u64,.slice]] (fun(e24:(T6)×(Int×Int×Int×Int×SliceV)) h25=>
 At (hnew h25 [.int .i64 0,.int .u64 0,.int .u64 0,.int .u64 0,.pointer none,.pointer none] bE) (fun h26=>
 At (hnew h26 [.int .i64 0,.int .u64 0,.int .u64 0,.int .u64 0,.slice none 0 0] dH) (fun h27=>
 (dq h27 (some (ag h25)) 0 [.int .i64 e24.1.1,.int .u64 e24.1.2.1,.int .u64 e24.1.2.2.1,.int .u64 e24.1.2.2.2.1,.pointer e24.1.2.2.2.2.1,.pointer e24.1.2.2.2.2.2]∧
 At (aV h27 (ag h25) 0 [.int .i64 e24.1.1,.int .u64 e24.1.2.1,.int .u64 e24.1.2.2.1,.int .u64 e24.1.2.2.2.1,.pointer e24.1.2.2.2.2.1,.pointer e24.1.2.2.2.2.2]) (fun h28=>
 (dq h28 (some (ag h26)) 0 [.int .i64 e24.2.1,.int .u64 e24.2.2.1,.int .u64 e24.2.2.2.1,.int .u64 e24.2.2.2.2.1,.slice e24.2.2.2.2.2.a e24.2.2.2.2.2.len e24.2.2.2.2.2.cap]∧
 At (aV h28 (ag h26) 0 [.int .i64 e24.2.1,.int .u64 e24.2.2.1,.int .u64 e24.2.2.2.1,.int .u64 e24.2.2.2.2.1,.slice e24.2.2.2.2.2.a e24.2.2.2.2.2.len e24.2.2.2.2.2.cap]) (fun h29=>
 ∃v30,aj h29 (ag h25) 0 (.int .i64 v30)∧
 ∃v31,aj h29 (ag h25) 1 (.int .u64 v31)∧
 ∃v32,aj h29 (ag h25) 2 (.int .u64 v32)∧
 ∃v33,aj h29 (ag h25) 3 (.int .u64 v33)∧
 ∃v34,aj h29 (ag h25) 4 (.pointer v34)∧
 ∃v35,aj h29 (ag h25) 5 (.pointer v35)∧
 ∃v36,aj h29 (ag h9) 0 (.int .i64 v36)∧
 ∃v37,aj h29 (ag h9) 1 (.int .u64 v37)∧
 ∃v38,aj h29 (ag h9) 2 (.int .u64 v38)∧
 ∃v39,aj h29 (ag h9) 3 (.int .u64 v39)∧
 ∃v40:SliceV,aj h29 (ag h9) 4 (.slice v40.a v40.len v40.cap)∧
 HC PG qK [.agg #[.int .i64 v30,.int .u64 v31,.int .u64 v32,.int .u64 v33,.pointer v34,.pointer v35],.agg #[.int .i64 v36,.int .u64 v37,.int .u64 v38,.int .u64 v39,.slice v40.a v40.len v40.cap],.slice x3.a x3.len x3.cap,.slice x5.a x5.len x5.cap] [.agg [.int .i64,.int .u64,.int .u64,.int .u64,.ptr,.ptr],.agg [.int .i64,.int .u64,.int .u64,.int .u64,.slice]] (fun(e41:(T6)×(Int×Int×Int×Int×SliceV)) h42=>
 At (hnew h42 [.int .i64 0,.int .u64 0,.int .u64 0,.int .u64 0,.pointer none,.pointer none] bE) (fun h43=>
 At (hnew h43 [.int .i64 0,.int .u64 0,.int .u64 0,.int .u64 0,.slice none 0 0] dH) (fun h44=>
 (dq h44 (some (ag h42)) 0 [.int .i64 e41.1.1,.int .u64 e41.1.2.1,.int .u64 e41.1.2.2.1,.int .u64 e41.1.2.2.2.1,.pointer e41.1.2.2.2.2.1,.pointer e41.1.2.2.2.2.2]∧
 At (aV h44 (ag h42) 0 [.int .i64 e41.1.1,.int .u64 e41.1.2.1,.int .u64 e41.1.2.2.1,.int .u64 e41.1.2.2.2.1,.pointer e41.1.2.2.2.2.1,.pointer e41.1.2.2.2.2.2]) (fun h45=>
 (dq h45 (some (ag h43)) 0 [.int .i64 e41.2.1,.int .u64 e41.2.2.1,.int .u64 e41.2.2.2.1,.int .u64 e41.2.2.2.2.1,.slice e41.2.2.2.2.2.a e41.2.2.2.2.2.len e41.2.2.2.2.2.cap]∧
 At (aV h45 (ag h43) 0 [.int .i64 e41.2.1,.int .u64 e41.2.2.1,.int .u64 e41.2.2.2.1,.int .u64 e41.2.2.2.2.1,.slice e41.2.2.2.2.2.a e41.2.2.2.2.2.len e41.2.2.2.2.2.cap]) (fun h46=>
 ∃v47,aj h46 (ag h42) 0 (.int .i64 v47)∧
 ∃v48,aj h46 (ag h42) 1 (.int .u64 v48)∧
 ∃v49,aj h46 (ag h42) 2 (.int .u64 v49)∧
 ∃v50,aj h46 (ag h42) 3 (.int .u64 v50)∧
 ∃v51,aj h46 (ag h42) 4 (.pointer v51)∧
 ∃v52,aj h46 (ag h42) 5 (.pointer v52)∧
 ∃v53,aj h46 (ag h9) 0 (.int .i64 v53)∧
 ∃v54,aj h46 (ag h9) 1 (.int .u64 v54)∧
 ∃v55,aj h46 (ag h9) 2 (.int .u64 v55)∧
 ∃v56,aj h46 (ag h9) 3 (.int .u64 v56)∧
 ∃v57:SliceV,aj h46 (ag h9) 4 (.slice v57.a v57.len v57.cap)∧
 HC PG qK [.agg #[.int .i64 v47,.int .u64 v48,.int .u64 v49,.int .u64 v50,.pointer v51,.pointer v52],.agg #[.int .i64 v53,.int .u64 v54,.int .u64 v55,.int .u64 v56,.slice v57.a v57.len v57.cap],.slice x4.a x4.len x4.cap,.slice none 0 0] [.agg [.int .i64,.int .u64,.int .u64,.int .u64,.ptr,.ptr],.agg [.int .i64,.int .u64,.int .u64,.int .u64,.slice]] (fun(e58:(T6)×(Int×Int×Int×Int×SliceV)) h59=>
 At (hnew h59 [.int .i64 0,.int .u64 0,.int .u64 0,.int .u64 0,.pointer none,.pointer none] bE) (fun h60=>
 At (hnew h60 [.int .i64 0,.int .u64 0,.int .u64 0,.int .u64 0,.slice none 0 0] dH) (fun h61=>
 (dq h61 (some (ag h59)) 0 [.int .i64 e58.1.1,.int .u64 e58.1.2.1,.int .u64 e58.1.2.2.1,.int .u64 e58.1.2.2.2.1,.pointer e58.1.2.2.2.2.1,.pointer e58.1.2.2.2.2.2]∧
 At (aV h61 (ag h59) 0 [.int .i64 e58.1.1,.int .u64 e58.1.2.1,.int .u64 e58.1.2.2.1,.int .u64 e58.1.2.2.2.1,.pointer e58.1.2.2.2.2.1,.pointer e58.1.2.2.2.2.2]) (fun h62=>
 (dq h62 (some (ag h60)) 0 [.int .i64 e58.2.1,.int .u64 e58.2.2.1,.int .u64 e58.2.2.2.1,.int .u64 e58.2.2.2.2.1,.slice e58.2.2.2.2.2.a e58.2.2.2.2.2.len e58.2.2.2.2.2.cap]∧
 At (aV h62 (ag h60) 0 [.int .i64 e58.2.1,.int .u64 e58.2.2.1,.int .u64 e58.2.2.2.1,.int .u64 e58.2.2.2.2.1,.slice e58.2.2.2.2.2.a e58.2.2.2.2.2.len e58.2.2.2.2.2.cap]) (fun h63=>
 ∃v64,aj h63 (ag h25) 0 (.int .i64 v64)∧
 ∃v65,aj h63 (ag h25) 1 (.int .u64 v65)∧
 ∃v66,aj h63 (ag h25) 2 (.int .u64 v66)∧
 ∃v67,aj h63 (ag h25) 3 (.int .u64 v67)∧
 ∃v68,aj h63 (ag h25) 4 (.pointer v68)∧
 ∃v69,aj h63 (ag h25) 5 (.pointer v69)∧
 ∃v70,aj h63 (ag h42) 0 (.int .i64 v70)∧
 ∃v71,aj h63 (ag h42) 1 (.int .u64 v71)∧
 ∃v72,aj h63 (ag h42) 2 (.int .u64 v72)∧
 ∃v73,aj h63 (ag h42) 3 (.int .u64 v73)∧
 ∃v74,aj h63 (ag h42) 4 (.pointer v74)∧
 ∃v75,aj h63 (ag h42) 5 (.pointer v75)∧
 HC PG oV [.agg #[.int .i64 v64,.int .u64 v65,.int .u64 v66,.int .u64 v67,.pointer v68,.pointer v69],.agg #[.int .i64 v70,.int .u64 v71,.int .u64 v72,.int .u64 v73,.pointer v74,.pointer v75]] [.c .slice,.c (.int .i64)] (fun(e76:SliceV×Int) h77=>
 ∃v78,aj h77 (ag h42) 0 (.int .i64 v78)∧
 ∃v79,aj h77 (ag h42) 1 (.int .u64 v79)∧
 ∃v80,aj h77 (ag h42) 2 (.int .u64 v80)∧
 ∃v81,aj h77 (ag h42) 3 (.int .u64 v81)∧
 ∃v82,aj h77 (ag h42) 4 (.pointer v82)∧
 ∃v83,aj h77 (ag h42) 5 (.pointer v83)∧
 ∃v84,aj h77 (ag h59) 0 (.int .i64 v84)∧
 ∃v85,aj h77 (ag h59) 1 (.int .u64 v85)∧
 ∃v86,aj h77 (ag h59) 2 (.int .u64 v86)∧
 ∃v87,aj h77 (ag h59) 3 (.int .u64 v87)∧
 ∃v88,aj h77 (ag h59) 4 (.pointer v88)∧
 ∃v89,aj h77 (ag h59) 5 (.pointer v89)∧
 HC PG oV [.agg #[.int .i64 v78,.int .u64 v79,.int .u64 v80,.int .u64 v81,.pointer v82,.pointer v83],.agg #[.int .i64 v84,.int .u64 v85,.int .u64 v86,.int .u64 v87,.pointer v88,.pointer v89]] [.c .slice,.c (.int .i64)] (fun(e90:SliceV×Int) h91=>
 ∃v92,aj h91 (ag h25) 0 (.int .i64 v92)∧
 ∃v93,aj h91 (ag h25) 1 (.int .u64 v93)∧
 ∃v94,aj h91 (ag h25) 2 (.int .u64 v94)∧
 ∃v95,aj h91 (ag h25) 3 (.int .u64 v95)∧
 ∃v96,aj h91 (ag h25) 4 (.pointer v96)∧
 ∃v97,aj h91 (ag h25) 5 (.pointer v97)∧
 ∃v98,aj h91 (ag h59) 0 (.int .i64 v98)∧
 ∃v99,aj h91 (ag h59) 1 (.int .u64 v99)∧
 ∃v100,aj h91 (ag h59) 2 (.int .u64 v100)∧
 ∃v101,aj h91 (ag h59) 3 (.int .u64 v101)∧
 ∃v102,aj h91 (ag h59) 4 (.pointer v102)∧
 ∃v103,aj h91 (ag h59) 5 (.pointer v103)∧
 HC PG oV [.agg #[.int .i64 v92,.int .u64 v93,.int .u64 v94,.int .u64 v95,.pointer v96,.pointer v97],.agg #[.int .i64 v98,.int .u64 v99,.int .u64 v100,.int .u64 v101,.pointer v102,.pointer v103]] [.c .slice,.c (.int .i64)] (fun(e104:SliceV×Int) h105=>
 HC PG tw [.slice e76.1.a e76.1.len e76.1.cap,.slice e90.1.a e90.1.len e90.1.cap] [.c .slice,.c (.int .i64)] (fun(e106:SliceV×Int) h107=>
 Join (fun(t111:Bool) h112=>
 CondP t111 (
 K false h112) (
 HC PG xF [.slice x6.a x6.len x6.cap,.int .u8 255,.int .u16 0] [.c .slice] (fun(e113:SliceV) h114=>
 HC PG xF [.slice x7.a x7.len x7.cap,.int .u8 255,.int .u16 0] [.c .slice] (fun(e115:SliceV) h116=>
 HC PG tw [.slice e113.a e113.len e113.cap,.slice e115.a e115.len e115.cap] [.c .slice,.c (.int .i64)] (fun(e117:SliceV×Int) h118=>
 HC PG nO [.slice e113.a e113.len e113.cap] [.c .slice] (fun(e119:SliceV) h120=>
 HC PG nO [.slice e115.a e115.len e115.cap] [.c .slice] (fun(e121:SliceV) h122=>
 HC PG yT [.slice e119.a e119.len e119.cap,.slice e121.a e121.len e121.cap] [.c .slice,.c (.int .i64)] (fun(e123:SliceV×Int) h124=>
 CondP (e117.2==e123.2) (
 HC PG nO [.slice e117.1.a e117.1.len e117.1.cap] [.c .slice] (fun(e125:SliceV) h126=>
 HC PG yS [.slice e125.a e125.len e125.cap,.slice e123.1.a e123.1.len e123.1.cap] [.c .bool] (fun(e127:Bool) h128=>
 K e127 h128) h126) h124) (
 K false h124)) h122) h120) h118) h116) h114) h112)) (fun J108=>
 CondP (e106.2 !=(0:Int)) (
 J108 true h107) (
 HC PG wZ [.slice e106.1.a e106.1.len e106.1.cap,.slice e104.1.a e104.1.len e104.1.cap] [.c .bool] (fun(e109:Bool) h110=>
 J108 (!e109) h110) h107))) h105) h91) h77) h63))))))) h46))))))) h29))))))) h12))))))) h3)) h1)
noncomputable def DX:Ann:=.node .nil (.node .nil (.node .nil (.node .nil (.node .nil (.node .nil (.node .nil (.node .nil (.node .nil (.node .nil (.node (.join [(98,.c .bool)] .nil .nil) .nil))))))))))
theorem DL(x0:Int)(x1:Int×Int×Int)(x2:SliceV)(x3:SliceV)(x4:SliceV)(x5:SliceV)(x6:SliceV)(x7:SliceV){K:cJ[.c .bool]→af→Prop}{h0:af}(h:wn x0 x1 x2 x3 x4 x5 x6 x7 K h0):HC PG vU [.int .u8 x0,.agg #[.int .u64 x1.1,.int .u64 x1.2.1,.int .u64 x1.2.2],.slice x2.a x2.len x2.cap,.slice x3.a x3.len x3.cap,.slice x4.a x4.len x4.cap,.slice x5.a x5.len x5.cap,.slice x6.a x6.len x6.cap,.slice x7.a x7.len x7.cap] [.c .bool] K h0:=HC.intro (an:=DX) (c:=Tryz.f3.body.getD .skip) Tryz.mixed Tryz.func3 rfl Tryz.call3 (ae rfl) (di (by kernel_rfl) h)
def Du(K:(Bool)→af→Prop)(h0:af):Prop:=
 At (hnew h0 [.string (⟨#[97]⟩:ByteArray),.string (⟨#[49]⟩:ByteArray)] aq) (fun h1=>
 HC PG rJ [.int .i64 1,.agg #[.int .u64 0,.int .u64 0,.int .u64 0],.slice (some (ag h0)) 1 1] [.agg [.int .i64,.int .u64,.int .u64,.int .u64,.ptr,.ptr],.c (.int .i64)] (fun(e2:(T6)×Int) h3=>
 At (hnew h3 [.int .i64 0,.int .u64 0,.int .u64 0,.int .u64 0,.pointer none,.pointer none] bE) (fun h4=>
 (dq h4 (some (ag h3)) 0 [.int .i64 e2.1.1,.int .u64 e2.1.2.1,.int .u64 e2.1.2.2.1,.int .u64 e2.1.2.2.2.1,.pointer e2.1.2.2.2.2.1,.pointer e2.1.2.2.2.2.2]∧
 At (aV h4 (ag h3) 0 [.int .i64 e2.1.1,.int .u64 e2.1.2.1,.int .u64 e2.1.2.2.1,.int .u64 e2.1.2.2.2.1,.pointer e2.1.2.2.2.2.1,.pointer e2.1.2.2.2.2.2]) (fun h5=>
 At (hnew h5 [.string (⟨#[97]⟩:ByteArray),.string (⟨#[50]⟩:ByteArray),.string (⟨#[98]⟩:ByteArray),.string (⟨#[51]⟩:ByteArray)] aq) (fun h6=>
 HC PG rJ [.int .i64 1,.agg #[.int .u64 0,.int .u64 0,.int .u64 0],.slice (some (ag h5)) 2 2] [.agg [.int .i64,.int .u64,.int .u64,.int .u64,.ptr,.ptr],.c (.int .i64)] (fun(e7:(T6)×Int) h8=>
 At (hnew h8 [.int .i64 0,.int .u64 0,.int .u64 0,.int .u64 0,.pointer none,.pointer none] bE) (fun h9=>
 (dq h9 (some (ag h8)) 0 [.int .i64 e7.1.1,.int .u64 e7.1.2.1,.int .u64 e7.1.2.2.1,.int .u64 e7.1.2.2.2.1,.pointer e7.1.2.2.2.2.1,.pointer e7.1.2.2.2.2.2]∧
 At (aV h9 (ag h8) 0 [.int .i64 e7.1.1,.int .u64 e7.1.2.1,.int .u64 e7.1.2.2.1,.int .u64 e7.1.2.2.2.1,.pointer e7.1.2.2.2.2.1,.pointer e7.1.2.2.2.2.2]) (fun h10=>
 ∃v11,aj h10 (ag h3) 0 (.int .i64 v11)∧
 ∃v12,aj h10 (ag h3) 1 (.int .u64 v12)∧
 ∃v13,aj h10 (ag h3) 2 (.int .u64 v13)∧
 ∃v14,aj h10 (ag h3) 3 (.int .u64 v14)∧
 ∃v15,aj h10 (ag h3) 4 (.pointer v15)∧
 ∃v16,aj h10 (ag h3) 5 (.pointer v16)∧
 ∃v17,aj h10 (ag h8) 0 (.int .i64 v17)∧
 ∃v18,aj h10 (ag h8) 1 (.int .u64 v18)∧
 ∃v19,aj h10 (ag h8) 2 (.int .u64 v19)∧
 ∃v20,aj h10 (ag h8) 3 (.int .u64 v20)∧
 ∃v21,aj h10 (ag h8) 4 (.pointer v21)∧
 ∃v22,aj h10 (ag h8) 5 (.pointer v22)∧
 HC PG oV [.agg #[.int .i64 v11,.int .u64 v12,.int .u64 v13,.int .u64 v14,.pointer v15,.pointer v16],.agg #[.int .i64 v17,.int .u64 v18,.int .u64 v19,.int .u64 v20,.pointer v21,.pointer v22]] [.c .slice,.c (.int .i64)] (fun(e23:SliceV×Int) h24=>
 CondP (e23.2==(0:Int)) (
 CondP ((e23.1.len:Int)==(2:Int)) (
 (bP 0 e23.1.len∧∃a25,e23.1.a=some a25∧
 ∃v26,aj h24 (adr a25 ((0:Int).toNat*5)) 0 (.string v26)∧
 ∃v27,aj h24 (adr a25 ((0:Int).toNat*5)) 1 (.string v27)∧
 ∃v28,aj h24 (adr a25 ((0:Int).toNat*5)) 2 (.string v28)∧
 ∃v29,aj h24 (adr a25 ((0:Int).toNat*5)) 3 (.bool v29)∧
 ∃v30,aj h24 (adr a25 ((0:Int).toNat*5)) 4 (.bool v30)∧
 CondP ((v26.toList==(⟨#[97]⟩:ByteArray).toList)&&((v27.toList==(⟨#[49]⟩:ByteArray).toList)&&((v28.toList==(⟨#[50]⟩:ByteArray).toList)&&((v29==true)&&((v30==true)&&true))))) (
 (bP 1 e23.1.len∧∃a31,e23.1.a=some a31∧
 ∃v32,aj h24 (adr a31 ((1:Int).toNat*5)) 0 (.string v32)∧
 CondP (v32.toList==(⟨#[98]⟩:ByteArray).toList) (
 (bP 1 e23.1.len∧∃a33,e23.1.a=some a33∧
 ∃v34,aj h24 (adr a33 ((1:Int).toNat*5)) 3 (.bool v34)∧
 K (!v34) h24)) (
 K false h24))) (
 K false h24))) (
 K false h24)) (
 K false h24)) h10)))) h6))))) h1)
noncomputable def LG:Ann:=.nil
theorem Ls{K:cJ[.c .bool]→af→Prop}{h0:af}(h:Du K h0):HC PG wY [] [.c .bool] K h0:=HC.intro (an:=LG) (c:=Tryz.f7.body.getD .skip) Tryz.mixed Tryz.func7 rfl Tryz.call7 (ae rfl) (di (by kernel_rfl) h)
def Dt(x0:Int)(x1:Int×Int×Int)(K:((T6)×(Int×Int×Int×Int×SliceV))→af→Prop)(h0:af):Prop:=
 At (hnew h0 [.int .u64 x1.1,.int .u64 x1.2.1,.int .u64 x1.2.2] ct) (fun h1=>
 At (hnew h1 [.int .i64 0,.int .u64 0,.int .u64 0,.int .u64 0,.pointer none,.pointer none] bE) (fun h2=>
 At (hnew h2 [.int .i64 0,.int .u64 0,.int .u64 0,.int .u64 0,.slice none 0 0] dH) (fun h3=>
 ((2:Int)≠0∧
 ∃v4,aj h3 (ag h0) 0 (.int .u64 v4)∧
 ∃v5,aj h3 (ag h0) 1 (.int .u64 v5)∧
 ∃v6,aj h3 (ag h0) 2 (.int .u64 v6)∧
 HC PG vx [.int .i64 (ac .i64 (fq x0 2)),.agg #[.int .u64 v4,.int .u64 v5,.int .u64 v6]] [.agg [.int .i64,.int .u64,.int .u64,.int .u64,.ptr,.ptr],.c (.int .i64)] (fun(e7:(T6)×Int) h8=>
 At (hnew h8 [.int .i64 0,.int .u64 0,.int .u64 0,.int .u64 0,.pointer none,.pointer none] bE) (fun h9=>
 (dq h9 (some (ag h8)) 0 [.int .i64 e7.1.1,.int .u64 e7.1.2.1,.int .u64 e7.1.2.2.1,.int .u64 e7.1.2.2.2.1,.pointer e7.1.2.2.2.2.1,.pointer e7.1.2.2.2.2.2]∧
 At (aV h9 (ag h8) 0 [.int .i64 e7.1.1,.int .u64 e7.1.2.1,.int .u64 e7.1.2.2.1,.int .u64 e7.1.2.2.2.1,.pointer e7.1.2.2.2.2.1,.pointer e7.1.2.2.2.2.2]) (fun h10=>
 ((2:Int)≠0∧
 ∃v11,aj h10 (ag h0) 0 (.int .u64 v11)∧
 ∃v12,aj h10 (ag h0) 1 (.int .u64 v12)∧
 ∃v13,aj h10 (ag h0) 2 (.int .u64 v13)∧
 HC PG B4 [.agg #[.int .u64 v11,.int .u64 v12,.int .u64 v13]] [.agg [.int .u64,.int .u64,.int .u64]] (fun(e14:Int×Int×Int) h15=>
 HC PG BZ [.int .i64 (ac .i64 (fq x0 2)),.agg #[.int .u64 e14.1,.int .u64 e14.2.1,.int .u64 e14.2.2]] [.agg [.int .i64,.int .u64,.int .u64,.int .u64,.slice],.c (.int .i64)] (fun(e16:(Int×Int×Int×Int×SliceV)×Int) h17=>
 At (hnew h17 [.int .i64 0,.int .u64 0,.int .u64 0,.int .u64 0,.slice none 0 0] dH) (fun h18=>
 (dq h18 (some (ag h17)) 0 [.int .i64 e16.1.1,.int .u64 e16.1.2.1,.int .u64 e16.1.2.2.1,.int .u64 e16.1.2.2.2.1,.slice e16.1.2.2.2.2.a e16.1.2.2.2.2.len e16.1.2.2.2.2.cap]∧
 At (aV h18 (ag h17) 0 [.int .i64 e16.1.1,.int .u64 e16.1.2.1,.int .u64 e16.1.2.2.1,.int .u64 e16.1.2.2.2.1,.slice e16.1.2.2.2.2.a e16.1.2.2.2.2.len e16.1.2.2.2.2.cap]) (fun h19=>
 ∃v20,aj h19 (ag h8) 0 (.int .i64 v20)∧
 ∃v21,aj h19 (ag h8) 1 (.int .u64 v21)∧
 ∃v22,aj h19 (ag h8) 2 (.int .u64 v22)∧
 ∃v23,aj h19 (ag h8) 3 (.int .u64 v23)∧
 ∃v24,aj h19 (ag h8) 4 (.pointer v24)∧
 ∃v25,aj h19 (ag h8) 5 (.pointer v25)∧
 ∃v26,aj h19 (ag h17) 0 (.int .i64 v26)∧
 ∃v27,aj h19 (ag h17) 1 (.int .u64 v27)∧
 ∃v28,aj h19 (ag h17) 2 (.int .u64 v28)∧
 ∃v29,aj h19 (ag h17) 3 (.int .u64 v29)∧
 ∃v30:SliceV,aj h19 (ag h17) 4 (.slice v30.a v30.len v30.cap)∧
 (dq h19 (some (ag h1)) 0 [.int .i64 v20,.int .u64 v21,.int .u64 v22,.int .u64 v23,.pointer v24,.pointer v25]∧
 At (aV h19 (ag h1) 0 [.int .i64 v20,.int .u64 v21,.int .u64 v22,.int .u64 v23,.pointer v24,.pointer v25]) (fun h31=>
 ((aj h31 (ag h17) 0 (.int .i64 v26)∧aj h31 (ag h17) 1 (.int .u64 v27)∧aj h31 (ag h17) 2 (.int .u64 v28)∧aj h31 (ag h17) 3 (.int .u64 v29)∧aj h31 (ag h17) 4 (.slice v30.a v30.len v30.cap))∧
 (dq h31 (some (ag h2)) 0 [.int .i64 v26,.int .u64 v27,.int .u64 v28,.int .u64 v29,.slice v30.a v30.len v30.cap]∧
 At (aV h31 (ag h2) 0 [.int .i64 v26,.int .u64 v27,.int .u64 v28,.int .u64 v29,.slice v30.a v30.len v30.cap]) (fun h32=>
 ∃v33,aj h32 (ag h1) 0 (.int .i64 v33)∧
 ∃v34,aj h32 (ag h1) 1 (.int .u64 v34)∧
 ∃v35,aj h32 (ag h1) 2 (.int .u64 v35)∧
 ∃v36,aj h32 (ag h1) 3 (.int .u64 v36)∧
 ∃v37,aj h32 (ag h1) 4 (.pointer v37)∧
 ∃v38,aj h32 (ag h1) 5 (.pointer v38)∧
 ∃v39,aj h32 (ag h2) 0 (.int .i64 v39)∧
 ∃v40,aj h32 (ag h2) 1 (.int .u64 v40)∧
 ∃v41,aj h32 (ag h2) 2 (.int .u64 v41)∧
 ∃v42,aj h32 (ag h2) 3 (.int .u64 v42)∧
 ∃v43:SliceV,aj h32 (ag h2) 4 (.slice v43.a v43.len v43.cap)∧
 K ((v33,v34,v35,v36,v37,v38),(v39,v40,v41,v42,v43)) h32))))))))) h15) h10))))) h3))))
noncomputable def LF:Ann:=.nil
theorem Lr(x0:Int)(x1:Int×Int×Int){K:cJ[.agg[.int .i64,.int .u64,.int .u64,.int .u64,.ptr,.ptr],.agg[.int .i64,.int .u64,.int .u64,.int .u64,.slice]]→af→Prop}{h0:af}(h:Dt x0 x1 K h0):HC PG wX [.int .u8 x0,.agg #[.int .u64 x1.1,.int .u64 x1.2.1,.int .u64 x1.2.2]] [.agg [.int .i64,.int .u64,.int .u64,.int .u64,.ptr,.ptr],.agg [.int .i64,.int .u64,.int .u64,.int .u64,.slice]] K h0:=HC.intro (an:=LF) (c:=Tryz.f8.body.getD .skip) Tryz.mixed Tryz.func8 rfl Tryz.call8 (ae rfl) (di (by kernel_rfl) h)
def Ds(x0:T6)(x1:Int×Int×Int×Int×SliceV)(x2:SliceV)(x3:SliceV)(K:((T6)×(Int×Int×Int×Int×SliceV))→af→Prop)(h0:af):Prop:=
 At (hnew h0 [.int .i64 x0.1,.int .u64 x0.2.1,.int .u64 x0.2.2.1,.int .u64 x0.2.2.2.1,.pointer x0.2.2.2.2.1,.pointer x0.2.2.2.2.2] bE) (fun h1=>
 At (hnew h1 [.int .i64 x1.1,.int .u64 x1.2.1,.int .u64 x1.2.2.1,.int .u64 x1.2.2.2.1,.slice x1.2.2.2.2.a x1.2.2.2.2.len x1.2.2.2.2.cap] dH) (fun h2=>
 At (hnew h2 [.int .i64 0,.int .u64 0,.int .u64 0,.int .u64 0,.pointer none,.pointer none] bE) (fun h3=>
 At (hnew h3 [.int .i64 0,.int .u64 0,.int .u64 0,.int .u64 0,.slice none 0 0] dH) (fun h4=>
 LoopP (fun I5 (t6:Int) h7=>
 CondP (decide (t6<(x2.len:Int))) (
 Join (fun(t43:Unit) h44=>
 I5 (ac .i64 (t6+1)) h44) (fun J8=>
 (bP t6 x2.len∧∃a9,x2.a=some a9∧
 ∃v10,aj h7 (adr a9 (t6.toNat*2)) 0 (.string v10)∧
 ∃v11,aj h7 (adr a9 (t6.toNat*2)) 1 (.string v11)∧
 At (hnew h7 [.string (⟨#[]⟩:ByteArray),.string (⟨#[]⟩:ByteArray)] aq) (fun h12=>
 (dq h12 (some (ag h7)) 0 [.string v10,.string v11]∧
 At (aV h12 (ag h7) 0 [.string v10,.string v11]) (fun h13=>
 CondP (decide (t6<(25:Int))) (
 ∃v14,aj h13 (ag h7) 0 (.string v14)∧
 ∃v15,aj h13 (ag h7) 0 (.string v15)∧
 (((0:Int)≤(if 30<(v15.size:Int)then 30 else(v15.size:Int))∧(if 30<(v15.size:Int)then 30 else(v15.size:Int))≤((v14.size:Nat):Int))∧
 Bd (v14.extract 0 ((if 30<(v15.size:Int)then 30 else(v15.size:Int)).toNat):ByteArray) (fun s16=>
 ∃v17,aj h13 (ag h7) 1 (.string v17)∧
 ∃v18,aj h13 (ag h7) 1 (.string v18)∧
 (((0:Int)≤(if 30<(v18.size:Int)then 30 else(v18.size:Int))∧(if 30<(v18.size:Int)then 30 else(v18.size:Int))≤((v17.size:Nat):Int))∧
 Bd (v17.extract 0 ((if 30<(v18.size:Int)then 30 else(v18.size:Int)).toNat):ByteArray) (fun s19=>
 (Wr h13 (adr (ag h7) 0)∧
 At (hset h13 (adr (ag h7) 0) (.string s16)) (fun h20=>
 (Wr h20 (adr (ag h7) 1)∧
 At (hset h20 (adr (ag h7) 1) (.string s19)) (fun h21=>
 ∃v22,aj h21 (ag h0) 0 (.int .i64 v22)∧
 ∃v23,aj h21 (ag h0) 1 (.int .u64 v23)∧
 ∃v24,aj h21 (ag h0) 2 (.int .u64 v24)∧
 ∃v25,aj h21 (ag h0) 3 (.int .u64 v25)∧
 ∃v26,aj h21 (ag h0) 4 (.pointer v26)∧
 ∃v27,aj h21 (ag h0) 5 (.pointer v27)∧
 ∃v28,aj h21 (ag h7) 0 (.string v28)∧
 ∃v29,aj h21 (ag h7) 1 (.string v29)∧
 HC PG qc [.agg #[.int .i64 v22,.int .u64 v23,.int .u64 v24,.int .u64 v25,.pointer v26,.pointer v27],.pointer none,.agg #[.string v28,.string v29]] [.agg [.int .i64,.int .u64,.int .u64,.int .u64,.ptr,.ptr],.c (.int .i64)] (fun(e30:(T6)×Int) h31=>
 (dq h31 (some (ag h0)) 0 [.int .i64 e30.1.1,.int .u64 e30.1.2.1,.int .u64 e30.1.2.2.1,.int .u64 e30.1.2.2.2.1,.pointer e30.1.2.2.2.2.1,.pointer e30.1.2.2.2.2.2]∧
 At (aV h31 (ag h0) 0 [.int .i64 e30.1.1,.int .u64 e30.1.2.1,.int .u64 e30.1.2.2.1,.int .u64 e30.1.2.2.2.1,.pointer e30.1.2.2.2.2.1,.pointer e30.1.2.2.2.2.2]) (fun h32=>
 ∃v33,aj h32 (ag h1) 0 (.int .i64 v33)∧
 ∃v34,aj h32 (ag h1) 1 (.int .u64 v34)∧
 ∃v35,aj h32 (ag h1) 2 (.int .u64 v35)∧
 ∃v36,aj h32 (ag h1) 3 (.int .u64 v36)∧
 ∃v37:SliceV,aj h32 (ag h1) 4 (.slice v37.a v37.len v37.cap)∧
 ∃v38,aj h32 (ag h7) 0 (.string v38)∧
 ∃v39,aj h32 (ag h7) 1 (.string v39)∧
 HC PG yU [.agg #[.int .i64 v33,.int .u64 v34,.int .u64 v35,.int .u64 v36,.slice v37.a v37.len v37.cap],.agg #[.string v38,.string v39]] [.agg [.int .i64,.int .u64,.int .u64,.int .u64,.slice],.c (.int .i64)] (fun(e40:(Int×Int×Int×Int×SliceV)×Int) h41=>
 (dq h41 (some (ag h1)) 0 [.int .i64 e40.1.1,.int .u64 e40.1.2.1,.int .u64 e40.1.2.2.1,.int .u64 e40.1.2.2.2.1,.slice e40.1.2.2.2.2.a e40.1.2.2.2.2.len e40.1.2.2.2.2.cap]∧
 At (aV h41 (ag h1) 0 [.int .i64 e40.1.1,.int .u64 e40.1.2.1,.int .u64 e40.1.2.2.1,.int .u64 e40.1.2.2.2.1,.slice e40.1.2.2.2.2.a e40.1.2.2.2.2.len e40.1.2.2.2.2.cap]) (fun h42=>
 J8 () h42))) h32))) h21))))))))) (
 J8 () h13))))))) (
 LoopP (fun I45 (t46:Int) h47=>
 CondP (decide (t46<(x3.len:Int))) (
 Join (fun(t69:Unit) h70=>
 I45 (ac .i64 (t46+1)) h70) (fun J48=>
 (bP t46 x3.len∧∃a49,x3.a=some a49∧
 ∃v50,aj h47 a49 (t46.toNat*1) (.string v50)∧
 CondP (decide (t46<(15:Int))) (
 (((0:Int)≤(if 30<(v50.size:Int)then 30 else(v50.size:Int))∧(if 30<(v50.size:Int)then 30 else(v50.size:Int))≤((v50.size:Nat):Int))∧
 Bd (v50.extract 0 ((if 30<(v50.size:Int)then 30 else(v50.size:Int)).toNat):ByteArray) (fun s51=>
 ∃v52,aj h47 (ag h0) 0 (.int .i64 v52)∧
 ∃v53,aj h47 (ag h0) 1 (.int .u64 v53)∧
 ∃v54,aj h47 (ag h0) 2 (.int .u64 v54)∧
 ∃v55,aj h47 (ag h0) 3 (.int .u64 v55)∧
 ∃v56,aj h47 (ag h0) 4 (.pointer v56)∧
 ∃v57,aj h47 (ag h0) 5 (.pointer v57)∧
 HC PG np [.agg #[.int .i64 v52,.int .u64 v53,.int .u64 v54,.int .u64 v55,.pointer v56,.pointer v57],.pointer none,.string s51] [.agg [.int .i64,.int .u64,.int .u64,.int .u64,.ptr,.ptr],.c (.int .i64)] (fun(e58:(T6)×Int) h59=>
 (dq h59 (some (ag h0)) 0 [.int .i64 e58.1.1,.int .u64 e58.1.2.1,.int .u64 e58.1.2.2.1,.int .u64 e58.1.2.2.2.1,.pointer e58.1.2.2.2.2.1,.pointer e58.1.2.2.2.2.2]∧
 At (aV h59 (ag h0) 0 [.int .i64 e58.1.1,.int .u64 e58.1.2.1,.int .u64 e58.1.2.2.1,.int .u64 e58.1.2.2.2.1,.pointer e58.1.2.2.2.2.1,.pointer e58.1.2.2.2.2.2]) (fun h60=>
 ∃v61,aj h60 (ag h1) 0 (.int .i64 v61)∧
 ∃v62,aj h60 (ag h1) 1 (.int .u64 v62)∧
 ∃v63,aj h60 (ag h1) 2 (.int .u64 v63)∧
 ∃v64,aj h60 (ag h1) 3 (.int .u64 v64)∧
 ∃v65:SliceV,aj h60 (ag h1) 4 (.slice v65.a v65.len v65.cap)∧
 HC PG ug [.agg #[.int .i64 v61,.int .u64 v62,.int .u64 v63,.int .u64 v64,.slice v65.a v65.len v65.cap],.string s51] [.agg [.int .i64,.int .u64,.int .u64,.int .u64,.slice],.c (.int .i64)] (fun(e66:(Int×Int×Int×Int×SliceV)×Int) h67=>
 (dq h67 (some (ag h1)) 0 [.int .i64 e66.1.1,.int .u64 e66.1.2.1,.int .u64 e66.1.2.2.1,.int .u64 e66.1.2.2.2.1,.slice e66.1.2.2.2.2.a e66.1.2.2.2.2.len e66.1.2.2.2.2.cap]∧
 At (aV h67 (ag h1) 0 [.int .i64 e66.1.1,.int .u64 e66.1.2.1,.int .u64 e66.1.2.2.1,.int .u64 e66.1.2.2.2.1,.slice e66.1.2.2.2.2.a e66.1.2.2.2.2.len e66.1.2.2.2.2.cap]) (fun h68=>
 J48 () h68))) h60))) h47))) (
 J48 () h47)))) (
 ∃v71,aj h47 (ag h0) 0 (.int .i64 v71)∧
 ∃v72,aj h47 (ag h0) 1 (.int .u64 v72)∧
 ∃v73,aj h47 (ag h0) 2 (.int .u64 v73)∧
 ∃v74,aj h47 (ag h0) 3 (.int .u64 v74)∧
 ∃v75,aj h47 (ag h0) 4 (.pointer v75)∧
 ∃v76,aj h47 (ag h0) 5 (.pointer v76)∧
 ∃v77,aj h47 (ag h1) 0 (.int .i64 v77)∧
 ∃v78,aj h47 (ag h1) 1 (.int .u64 v78)∧
 ∃v79,aj h47 (ag h1) 2 (.int .u64 v79)∧
 ∃v80,aj h47 (ag h1) 3 (.int .u64 v80)∧
 ∃v81:SliceV,aj h47 (ag h1) 4 (.slice v81.a v81.len v81.cap)∧
 (dq h47 (some (ag h2)) 0 [.int .i64 v71,.int .u64 v72,.int .u64 v73,.int .u64 v74,.pointer v75,.pointer v76]∧
 At (aV h47 (ag h2) 0 [.int .i64 v71,.int .u64 v72,.int .u64 v73,.int .u64 v74,.pointer v75,.pointer v76]) (fun h82=>
 ((aj h82 (ag h1) 0 (.int .i64 v77)∧aj h82 (ag h1) 1 (.int .u64 v78)∧aj h82 (ag h1) 2 (.int .u64 v79)∧aj h82 (ag h1) 3 (.int .u64 v80)∧aj h82 (ag h1) 4 (.slice v81.a v81.len v81.cap))∧
 (dq h82 (some (ag h3)) 0 [.int .i64 v77,.int .u64 v78,.int .u64 v79,.int .u64 v80,.slice v81.a v81.len v81.cap]∧
 At (aV h82 (ag h3) 0 [.int .i64 v77,.int .u64 v78,.int .u64 v79,.int .u64 v80,.slice v81.a v81.len v81.cap]) (fun h83=>
 ∃v84,aj h83 (ag h2) 0 (.int .i64 v84)∧
 ∃v85,aj h83 (ag h2) 1 (.int .u64 v85)∧
 ∃v86,aj h83 (ag h2) 2 (.int .u64 v86)∧
 ∃v87,aj h83 (ag h2) 3 (.int .u64 v87)∧
 ∃v88,aj h83 (ag h2) 4 (.pointer v88)∧
 ∃v89,aj h83 (ag h2) 5 (.pointer v89)∧
 ∃v90,aj h83 (ag h3) 0 (.int .i64 v90)∧
 ∃v91,aj h83 (ag h3) 1 (.int .u64 v91)∧
 ∃v92,aj h83 (ag h3) 2 (.int .u64 v92)∧
 ∃v93,aj h83 (ag h3) 3 (.int .u64 v93)∧
 ∃v94:SliceV,aj h83 (ag h3) 4 (.slice v94.a v94.len v94.cap)∧
 K ((v84,v85,v86,v87,v88,v89),(v90,v91,v92,v93,v94)) h83))))))) 0 h7)) 0 h4))))
noncomputable def LE:Ann:=.node .nil (.node (.node .nil (.loop [(16,.c (.int .i64))] (.node .nil (.node .nil (.join [] .nil .nil))))) (.node (.node .nil (.loop [(54,.c (.int .i64))] (.node .nil (.node .nil (.join [] .nil .nil))))) .nil))
theorem Lq(x0:T6)(x1:Int×Int×Int×Int×SliceV)(x2:SliceV)(x3:SliceV){K:cJ[.agg[.int .i64,.int .u64,.int .u64,.int .u64,.ptr,.ptr],.agg[.int .i64,.int .u64,.int .u64,.int .u64,.slice]]→af→Prop}{h0:af}(h:Ds x0 x1 x2 x3 K h0):HC PG qK [.agg #[.int .i64 x0.1,.int .u64 x0.2.1,.int .u64 x0.2.2.1,.int .u64 x0.2.2.2.1,.pointer x0.2.2.2.2.1,.pointer x0.2.2.2.2.2],.agg #[.int .i64 x1.1,.int .u64 x1.2.1,.int .u64 x1.2.2.1,.int .u64 x1.2.2.2.1,.slice x1.2.2.2.2.a x1.2.2.2.2.len x1.2.2.2.2.cap],.slice x2.a x2.len x2.cap,.slice x3.a x3.len x3.cap] [.agg [.int .i64,.int .u64,.int .u64,.int .u64,.ptr,.ptr],.agg [.int .i64,.int .u64,.int .u64,.int .u64,.slice]] K h0:=HC.intro (an:=LE) (c:=Tryz.f9.body.getD .skip) Tryz.mixed Tryz.func9 rfl Tryz.call9 (ae rfl) (di (by kernel_rfl) h)
def H8(x0:T6)(x1:T6)(K:(SliceV×Int)→af→Prop)(h0:af):Prop:=
 At (hnew h0 [.int .i64 x0.1,.int .u64 x0.2.1,.int .u64 x0.2.2.1,.int .u64 x0.2.2.2.1,.pointer x0.2.2.2.2.1,.pointer x0.2.2.2.2.2] bE) (fun h1=>
 At (hnew h1 [.int .i64 x1.1,.int .u64 x1.2.1,.int .u64 x1.2.2.1,.int .u64 x1.2.2.2.1,.pointer x1.2.2.2.2.1,.pointer x1.2.2.2.2.2] bE) (fun h2=>
 ∃v3,aj h2 (ag h0) 0 (.int .i64 v3)∧
 ∃v4,aj h2 (ag h0) 1 (.int .u64 v4)∧
 ∃v5,aj h2 (ag h0) 2 (.int .u64 v5)∧
 ∃v6,aj h2 (ag h0) 3 (.int .u64 v6)∧
 ∃v7,aj h2 (ag h0) 4 (.pointer v7)∧
 ∃v8,aj h2 (ag h0) 5 (.pointer v8)∧
 ∃v9,aj h2 (ag h1) 0 (.int .i64 v9)∧
 ∃v10,aj h2 (ag h1) 1 (.int .u64 v10)∧
 ∃v11,aj h2 (ag h1) 2 (.int .u64 v11)∧
 ∃v12,aj h2 (ag h1) 3 (.int .u64 v12)∧
 ∃v13,aj h2 (ag h1) 4 (.pointer v13)∧
 ∃v14,aj h2 (ag h1) 5 (.pointer v14)∧
 HC PG wU [.agg #[.int .i64 v3,.int .u64 v4,.int .u64 v5,.int .u64 v6,.pointer v7,.pointer v8],.agg #[.int .i64 v9,.int .u64 v10,.int .u64 v11,.int .u64 v12,.pointer v13,.pointer v14]] [.c .bool] (fun(e15:Bool) h16=>
 CondP (!e15) (
 K (⟨none,0,0⟩,11) h16) (
 ∃v17,aj h16 (ag h0) 0 (.int .i64 v17)∧
 ∃v18,aj h16 (ag h0) 1 (.int .u64 v18)∧
 ∃v19,aj h16 (ag h0) 2 (.int .u64 v19)∧
 ∃v20,aj h16 (ag h0) 3 (.int .u64 v20)∧
 ∃v21,aj h16 (ag h0) 4 (.pointer v21)∧
 ∃v22,aj h16 (ag h0) 5 (.pointer v22)∧
 HC PG oB [.agg #[.int .i64 v17,.int .u64 v18,.int .u64 v19,.int .u64 v20,.pointer v21,.pointer v22]] [.agg [.int .u64,.int .u64,.int .u64]] (fun(e23:Int×Int×Int) h24=>
 At (hnew h24 [.int .u64 e23.1,.int .u64 e23.2.1,.int .u64 e23.2.2,.slice none 0 0] yw) (fun h25=>
 Join (fun(t71:Unit) h72=>
 ∃a73,some (ag h24)=some a73∧
 ∃v74:SliceV,aj h72 a73 3 (.slice v74.a v74.len v74.cap)∧
 HC PG cq [.slice v74.a v74.len v74.cap,.func (.func my) #[] #[]] [] (fun(e75:Unit) h76=>
 ∃a77,some (ag h24)=some a77∧
 ∃v78:SliceV,aj h76 a77 3 (.slice v78.a v78.len v78.cap)∧
 K (v78,0) h76) h72) (fun J26=>
 ∃v27,aj h25 (ag h0) 0 (.int .i64 v27)∧
 ∃v28,aj h25 (ag h0) 1 (.int .u64 v28)∧
 ∃v29,aj h25 (ag h0) 2 (.int .u64 v29)∧
 ∃v30,aj h25 (ag h0) 3 (.int .u64 v30)∧
 ∃v31,aj h25 (ag h0) 4 (.pointer v31)∧
 ∃v32,aj h25 (ag h0) 5 (.pointer v32)∧
 HC PG qd [.agg #[.int .i64 v27,.int .u64 v28,.int .u64 v29,.int .u64 v30,.pointer v31,.pointer v32]] [.c (.int .i64)] (fun(e33:Int) h34=>
 CondP (e33==(1:Int)) (
 ∃v35,aj h34 (ag h0) 0 (.int .i64 v35)∧
 ∃v36,aj h34 (ag h0) 1 (.int .u64 v36)∧
 ∃v37,aj h34 (ag h0) 2 (.int .u64 v37)∧
 ∃v38,aj h34 (ag h0) 3 (.int .u64 v38)∧
 ∃v39,aj h34 (ag h0) 4 (.pointer v39)∧
 ∃v40,aj h34 (ag h0) 5 (.pointer v40)∧
 ∃v41,aj h34 (ag h1) 0 (.int .i64 v41)∧
 ∃v42,aj h34 (ag h1) 1 (.int .u64 v42)∧
 ∃v43,aj h34 (ag h1) 2 (.int .u64 v43)∧
 ∃v44,aj h34 (ag h1) 3 (.int .u64 v44)∧
 ∃v45,aj h34 (ag h1) 4 (.pointer v45)∧
 ∃v46,aj h34 (ag h1) 5 (.pointer v46)∧
 HC PG lV [.agg #[.int .i64 v35,.int .u64 v36,.int .u64 v37,.int .u64 v38,.pointer v39,.pointer v40]] [.c .ptr] (fun(e47:Option Addr) h48=>
 ((aj h48 (ag h1) 0 (.int .i64 v41)∧aj h48 (ag h1) 1 (.int .u64 v42)∧aj h48 (ag h1) 2 (.int .u64 v43)∧aj h48 (ag h1) 3 (.int .u64 v44)∧aj h48 (ag h1) 4 (.pointer v45)∧aj h48 (ag h1) 5 (.pointer v46))∧
 HC PG lV [.agg #[.int .i64 v41,.int .u64 v42,.int .u64 v43,.int .u64 v44,.pointer v45,.pointer v46]] [.c .ptr] (fun(e49:Option Addr) h50=>
 HC PG gV [.pointer (some (ag h24)),.pointer e47,.pointer e49,.string (⟨#[]⟩:ByteArray)] [] (fun(e51:Unit) h52=>
 J26 () h52) h50) h48)) h34) (
 ∃v53,aj h34 (ag h0) 0 (.int .i64 v53)∧
 ∃v54,aj h34 (ag h0) 1 (.int .u64 v54)∧
 ∃v55,aj h34 (ag h0) 2 (.int .u64 v55)∧
 ∃v56,aj h34 (ag h0) 3 (.int .u64 v56)∧
 ∃v57,aj h34 (ag h0) 4 (.pointer v57)∧
 ∃v58,aj h34 (ag h0) 5 (.pointer v58)∧
 ∃v59,aj h34 (ag h1) 0 (.int .i64 v59)∧
 ∃v60,aj h34 (ag h1) 1 (.int .u64 v60)∧
 ∃v61,aj h34 (ag h1) 2 (.int .u64 v61)∧
 ∃v62,aj h34 (ag h1) 3 (.int .u64 v62)∧
 ∃v63,aj h34 (ag h1) 4 (.pointer v63)∧
 ∃v64,aj h34 (ag h1) 5 (.pointer v64)∧
 HC PG lW [.agg #[.int .i64 v53,.int .u64 v54,.int .u64 v55,.int .u64 v56,.pointer v57,.pointer v58]] [.c .ptr] (fun(e65:Option Addr) h66=>
 ((aj h66 (ag h1) 0 (.int .i64 v59)∧aj h66 (ag h1) 1 (.int .u64 v60)∧aj h66 (ag h1) 2 (.int .u64 v61)∧aj h66 (ag h1) 3 (.int .u64 v62)∧aj h66 (ag h1) 4 (.pointer v63)∧aj h66 (ag h1) 5 (.pointer v64))∧
 HC PG lW [.agg #[.int .i64 v59,.int .u64 v60,.int .u64 v61,.int .u64 v62,.pointer v63,.pointer v64]] [.c .ptr] (fun(e67:Option Addr) h68=>
 HC PG mR [.pointer (some (ag h24)),.pointer e65,.pointer e67] [] (fun(e69:Unit) h70=>
 J26 () h70) h68) h66)) h34)) h25))) h16)) h2))
noncomputable def PU:Ann:=.node .nil (.node .nil (.node .nil (.join [] .nil .nil)))
theorem PM(x0:T6)(x1:T6){K:cJ[.c .slice,.c(.int .i64)]→af→Prop}{h0:af}(h:H8 x0 x1 K h0):HC PG oV [.agg #[.int .i64 x0.1,.int .u64 x0.2.1,.int .u64 x0.2.2.1,.int .u64 x0.2.2.2.1,.pointer x0.2.2.2.2.1,.pointer x0.2.2.2.2.2],.agg #[.int .i64 x1.1,.int .u64 x1.2.1,.int .u64 x1.2.2.1,.int .u64 x1.2.2.2.1,.pointer x1.2.2.2.2.1,.pointer x1.2.2.2.2.2]] [.c .slice,.c (.int .i64)] K h0:=HC.intro (an:=PU) (c:=Tryz.f10.body.getD .skip) Tryz.mixed Tryz.func10 rfl Tryz.call10 (ae rfl) (di (by kernel_rfl) h)
def Dy(x0:SliceV)(x1:SliceV)(K:(SliceV×Int)→af→Prop)(h0:af):Prop:=
 At (hnew h0 [.slice x0.a x0.len x0.cap,.slice x1.a x1.len x1.cap] js) (fun h1=>
 LoopP (fun I2 (t3:Int) h4=>
 CondP (decide (t3<(2:Int))) (
 (bP t3 2∧∃a5,some (ag h0)=some a5∧
 ∃v6:SliceV,aj h4 a5 (t3.toNat*1) (.slice v6.a v6.len v6.cap)∧
 HC PG vD [.slice v6.a v6.len v6.cap] [.c (.int .i64)] (fun(e7:Int) h8=>
 CondP (e7 !=(0:Int)) (
 K (⟨none,0,0⟩,e7) h8) (
 I2 (ac .i64 (t3+1)) h8)) h4)) (
 LoopP (fun I9 (t10:SliceV×SliceV×SliceV) h11=>
 Join (fun(t13:Bool) h14=>
 CondP t13 (
 Join (fun(t20:Bool) h21=>
 CondP t20 (
 (bP 0 t10.1.len∧∃a22,t10.1.a=some a22∧
 ∃v23,aj h21 (adr a22 ((0:Int).toNat*5)) 0 (.string v23)∧
 ∃v24,aj h21 (adr a22 ((0:Int).toNat*5)) 1 (.string v24)∧
 ∃v25,aj h21 (adr a22 ((0:Int).toNat*5)) 2 (.string v25)∧
 ∃v26,aj h21 (adr a22 ((0:Int).toNat*5)) 3 (.bool v26)∧
 ∃v27,aj h21 (adr a22 ((0:Int).toNat*5)) 4 (.bool v27)∧
 (((0:Int)≤(1:Int)∧(1:Int)≤((t10.1.len:Nat):Int))∧
 Bd (aP t10.1.a ((1:Int).toNat) t10.1.cap 5:Option Addr) (fun a28=>Bd (t10.1.len-((1:Int).toNat):Nat) (fun n29=>Bd (t10.1.cap-((1:Int).toNat):Nat) (fun n30=>
 At (hnew h21 [.string v23,.string v24,.string v25,.bool v26,.bool v27] aM) (fun h31=>
 ∃xs32,SRow h31 (some (ag h21)) (1*5) xs32∧
 AppP (some [.string (⟨#[]⟩:ByteArray),.string (⟨#[]⟩:ByteArray),.string (⟨#[]⟩:ByteArray),.bool false,.bool false]) 5 56 aM t10.2.2.a t10.2.2.len t10.2.2.cap 1 xs32 h31 (fun s33 h34=>
 I9 (⟨a28,n29,n30⟩,t10.2.1,s33) h34)))))))) (
 Join (fun(t40:Bool) h41=>
 CondP t40 (
 (bP 0 t10.2.1.len∧∃a42,t10.2.1.a=some a42∧
 ∃v43,aj h41 (adr a42 ((0:Int).toNat*5)) 0 (.string v43)∧
 ∃v44,aj h41 (adr a42 ((0:Int).toNat*5)) 1 (.string v44)∧
 ∃v45,aj h41 (adr a42 ((0:Int).toNat*5)) 2 (.string v45)∧
 ∃v46,aj h41 (adr a42 ((0:Int).toNat*5)) 3 (.bool v46)∧
 ∃v47,aj h41 (adr a42 ((0:Int).toNat*5)) 4 (.bool v47)∧
 (((0:Int)≤(1:Int)∧(1:Int)≤((t10.2.1.len:Nat):Int))∧
 Bd (aP t10.2.1.a ((1:Int).toNat) t10.2.1.cap 5:Option Addr) (fun a48=>Bd (t10.2.1.len-((1:Int).toNat):Nat) (fun n49=>Bd (t10.2.1.cap-((1:Int).toNat):Nat) (fun n50=>
 At (hnew h41 [.string v43,.string v44,.string v45,.bool v46,.bool v47] aM) (fun h51=>
 ∃xs52,SRow h51 (some (ag h41)) (1*5) xs52∧
 AppP (some [.string (⟨#[]⟩:ByteArray),.string (⟨#[]⟩:ByteArray),.string (⟨#[]⟩:ByteArray),.bool false,.bool false]) 5 56 aM t10.2.2.a t10.2.2.len t10.2.2.cap 1 xs52 h51 (fun s53 h54=>
 I9 (t10.1,⟨a48,n49,n50⟩,s53) h54)))))))) (
 (bP 0 t10.1.len∧∃a55,t10.1.a=some a55∧
 ∃v56,aj h41 (adr a55 ((0:Int).toNat*5)) 0 (.string v56)∧
 ∃v57,aj h41 (adr a55 ((0:Int).toNat*5)) 1 (.string v57)∧
 ∃v58,aj h41 (adr a55 ((0:Int).toNat*5)) 2 (.string v58)∧
 ∃v59,aj h41 (adr a55 ((0:Int).toNat*5)) 3 (.bool v59)∧
 ∃v60,aj h41 (adr a55 ((0:Int).toNat*5)) 4 (.bool v60)∧
 (bP 0 t10.2.1.len∧∃a61,t10.2.1.a=some a61∧
 ∃v62,aj h41 (adr a61 ((0:Int).toNat*5)) 0 (.string v62)∧
 ∃v63,aj h41 (adr a61 ((0:Int).toNat*5)) 1 (.string v63)∧
 ∃v64,aj h41 (adr a61 ((0:Int).toNat*5)) 2 (.string v64)∧
 ∃v65,aj h41 (adr a61 ((0:Int).toNat*5)) 3 (.bool v65)∧
 ∃v66,aj h41 (adr a61 ((0:Int).toNat*5)) 4 (.bool v66)∧
 ((At (hnew h41 [.string (⟨#[]⟩:ByteArray),.string (⟨#[]⟩:ByteArray),.string (⟨#[]⟩:ByteArray),.bool false,.bool false] aM) (fun h67=>
 ((aj h67 (adr a61 ((0:Int).toNat*5)) 0 (.string v62)∧aj h67 (adr a61 ((0:Int).toNat*5)) 1 (.string v63)∧aj h67 (adr a61 ((0:Int).toNat*5)) 2 (.string v64)∧aj h67 (adr a61 ((0:Int).toNat*5)) 3 (.bool v65)∧aj h67 (adr a61 ((0:Int).toNat*5)) 4 (.bool v66))∧
 ((aj h67 (adr a55 ((0:Int).toNat*5)) 0 (.string v56)∧aj h67 (adr a55 ((0:Int).toNat*5)) 1 (.string v57)∧aj h67 (adr a55 ((0:Int).toNat*5)) 2 (.string v58)∧aj h67 (adr a55 ((0:Int).toNat*5)) 3 (.bool v59)∧aj h67 (adr a55 ((0:Int).toNat*5)) 4 (.bool v60))∧
 At (hnew h67 [.string (⟨#[]⟩:ByteArray),.string (⟨#[]⟩:ByteArray),.string (⟨#[]⟩:ByteArray),.bool false,.bool false] aM) (fun h68=>
 ((aj h68 (adr a61 ((0:Int).toNat*5)) 0 (.string v62)∧aj h68 (adr a61 ((0:Int).toNat*5)) 1 (.string v63)∧aj h68 (adr a61 ((0:Int).toNat*5)) 2 (.string v64)∧aj h68 (adr a61 ((0:Int).toNat*5)) 3 (.bool v65)∧aj h68 (adr a61 ((0:Int).toNat*5)) 4 (.bool v66))∧
 ((aj h68 (adr a55 ((0:Int).toNat*5)) 0 (.string v56)∧aj h68 (adr a55 ((0:Int).toNat*5)) 1 (.string v57)∧aj h68 (adr a55 ((0:Int).toNat*5)) 2 (.string v58)∧aj h68 (adr a55 ((0:Int).toNat*5)) 3 (.bool v59)∧aj h68 (adr a55 ((0:Int).toNat*5)) 4 (.bool v60))∧
 (dq h68 (some (ag h41)) 0 [.string v56,.string v57,.string v58,.bool v59,.bool v60]∧
 At (aV h68 (ag h41) 0 [.string v56,.string v57,.string v58,.bool v59,.bool v60]) (fun h69=>
 ((aj h69 (adr a61 ((0:Int).toNat*5)) 0 (.string v62)∧aj h69 (adr a61 ((0:Int).toNat*5)) 1 (.string v63)∧aj h69 (adr a61 ((0:Int).toNat*5)) 2 (.string v64)∧aj h69 (adr a61 ((0:Int).toNat*5)) 3 (.bool v65)∧aj h69 (adr a61 ((0:Int).toNat*5)) 4 (.bool v66))∧
 (dq h69 (some (ag h67)) 0 [.string v62,.string v63,.string v64,.bool v65,.bool v66]∧
 At (aV h69 (ag h67) 0 [.string v62,.string v63,.string v64,.bool v65,.bool v66]) (fun h70=>
 Join (fun(t76:Bool) h77=>
 CondP t76 (
 K (⟨none,0,0⟩,8) h77) (
 ∃v78,aj h77 (ag h41) 0 (.string v78)∧
 ∃v79,aj h77 (ag h41) 1 (.string v79)∧
 ∃v80,aj h77 (ag h67) 2 (.string v80)∧
 ∃v81,aj h77 (ag h41) 3 (.bool v81)∧
 ∃v82,aj h77 (ag h67) 4 (.bool v82)∧
 At (hnew h77 [.string (⟨#[]⟩:ByteArray),.string (⟨#[]⟩:ByteArray),.string (⟨#[]⟩:ByteArray),.bool false,.bool false] aM) (fun h83=>
 (dq h83 (some (ag h77)) 0 [.string v78,.string v79,.string v80,.bool v81,.bool v82]∧
 At (aV h83 (ag h77) 0 [.string v78,.string v79,.string v80,.bool v81,.bool v82]) (fun h84=>
 Join (fun(t102:SliceV) h103=>
 (((0:Int)≤(1:Int)∧(1:Int)≤((t10.1.len:Nat):Int))∧
 Bd (aP t10.1.a ((1:Int).toNat) t10.1.cap 5:Option Addr) (fun a104=>Bd (t10.1.len-((1:Int).toNat):Nat) (fun n105=>Bd (t10.1.cap-((1:Int).toNat):Nat) (fun n106=>
 (((0:Int)≤(1:Int)∧(1:Int)≤((t10.2.1.len:Nat):Int))∧
 Bd (aP t10.2.1.a ((1:Int).toNat) t10.2.1.cap 5:Option Addr) (fun a107=>Bd (t10.2.1.len-((1:Int).toNat):Nat) (fun n108=>Bd (t10.2.1.cap-((1:Int).toNat):Nat) (fun n109=>
 I9 (⟨a104,n105,n106⟩,⟨a107,n108,n109⟩,t102) h103))))))))) (fun J85=>
 ∃v86,aj h84 (ag h77) 0 (.string v86)∧
 ∃v87,aj h84 (ag h77) 1 (.string v87)∧
 ∃v88,aj h84 (ag h77) 2 (.string v88)∧
 ∃v89,aj h84 (ag h77) 3 (.bool v89)∧
 ∃v90,aj h84 (ag h77) 4 (.bool v90)∧
 HC PG gA [.agg #[.string v86,.string v87,.string v88,.bool v89,.bool v90]] [.c .bool] (fun(e91:Bool) h92=>
 CondP e91 (
 ∃v93,aj h92 (ag h77) 0 (.string v93)∧
 ∃v94,aj h92 (ag h77) 1 (.string v94)∧
 ∃v95,aj h92 (ag h77) 2 (.string v95)∧
 ∃v96,aj h92 (ag h77) 3 (.bool v96)∧
 ∃v97,aj h92 (ag h77) 4 (.bool v97)∧
 At (hnew h92 [.string v93,.string v94,.string v95,.bool v96,.bool v97] aM) (fun h98=>
 ∃xs99,SRow h98 (some (ag h92)) (1*5) xs99∧
 AppP (some [.string (⟨#[]⟩:ByteArray),.string (⟨#[]⟩:ByteArray),.string (⟨#[]⟩:ByteArray),.bool false,.bool false]) 5 56 aM t10.2.2.a t10.2.2.len t10.2.2.cap 1 xs99 h98 (fun s100 h101=>
 J85 s100 h101))) (
 J85 t10.2.2 h92)) h84)))))) (fun J71=>
 ∃v72,aj h70 (ag h41) 4 (.bool v72)∧
 ∃v73,aj h70 (ag h67) 3 (.bool v73)∧
 CondP (!(v72==v73)) (
 J71 true h70) (
 ∃v74,aj h70 (ag h41) 2 (.string v74)∧
 ∃v75,aj h70 (ag h67) 1 (.string v75)∧
 J71 (!(v74.toList==v75.toList)) h70))))))))))))))∧
 At (hnew h41 [.string (⟨#[]⟩:ByteArray),.string (⟨#[]⟩:ByteArray),.string (⟨#[]⟩:ByteArray),.bool false,.bool false] aM) (fun h110=>
 ((aj h110 (adr a61 ((0:Int).toNat*5)) 0 (.string v62)∧aj h110 (adr a61 ((0:Int).toNat*5)) 1 (.string v63)∧aj h110 (adr a61 ((0:Int).toNat*5)) 2 (.string v64)∧aj h110 (adr a61 ((0:Int).toNat*5)) 3 (.bool v65)∧aj h110 (adr a61 ((0:Int).toNat*5)) 4 (.bool v66))∧
 ((aj h110 (adr a55 ((0:Int).toNat*5)) 0 (.string v56)∧aj h110 (adr a55 ((0:Int).toNat*5)) 1 (.string v57)∧aj h110 (adr a55 ((0:Int).toNat*5)) 2 (.string v58)∧aj h110 (adr a55 ((0:Int).toNat*5)) 3 (.bool v59)∧aj h110 (adr a55 ((0:Int).toNat*5)) 4 (.bool v60))∧
 At (hnew h110 [.string (⟨#[]⟩:ByteArray),.string (⟨#[]⟩:ByteArray),.string (⟨#[]⟩:ByteArray),.bool false,.bool false] aM) (fun h111=>
 ((aj h111 (adr a61 ((0:Int).toNat*5)) 0 (.string v62)∧aj h111 (adr a61 ((0:Int).toNat*5)) 1 (.string v63)∧aj h111 (adr a61 ((0:Int).toNat*5)) 2 (.string v64)∧aj h111 (adr a61 ((0:Int).toNat*5)) 3 (.bool v65)∧aj h111 (adr a61 ((0:Int).toNat*5)) 4 (.bool v66))∧
 ((aj h111 (adr a55 ((0:Int).toNat*5)) 0 (.string v56)∧aj h111 (adr a55 ((0:Int).toNat*5)) 1 (.string v57)∧aj h111 (adr a55 ((0:Int).toNat*5)) 2 (.string v58)∧aj h111 (adr a55 ((0:Int).toNat*5)) 3 (.bool v59)∧aj h111 (adr a55 ((0:Int).toNat*5)) 4 (.bool v60))∧
 (dq h111 (some (ag h110)) 0 [.string v56,.string v57,.string v58,.bool v59,.bool v60]∧
 At (aV h111 (ag h110) 0 [.string v56,.string v57,.string v58,.bool v59,.bool v60]) (fun h112=>
 ((aj h112 (adr a61 ((0:Int).toNat*5)) 0 (.string v62)∧aj h112 (adr a61 ((0:Int).toNat*5)) 1 (.string v63)∧aj h112 (adr a61 ((0:Int).toNat*5)) 2 (.string v64)∧aj h112 (adr a61 ((0:Int).toNat*5)) 3 (.bool v65)∧aj h112 (adr a61 ((0:Int).toNat*5)) 4 (.bool v66))∧
 (dq h112 (some (ag h41)) 0 [.string v62,.string v63,.string v64,.bool v65,.bool v66]∧
 At (aV h112 (ag h41) 0 [.string v62,.string v63,.string v64,.bool v65,.bool v66]) (fun h113=>
 Join (fun(t119:Bool) h120=>
 CondP t119 (
 K (⟨none,0,0⟩,8) h120) (
 ∃v121,aj h120 (ag h110) 0 (.string v121)∧
 ∃v122,aj h120 (ag h110) 1 (.string v122)∧
 ∃v123,aj h120 (ag h41) 2 (.string v123)∧
 ∃v124,aj h120 (ag h110) 3 (.bool v124)∧
 ∃v125,aj h120 (ag h41) 4 (.bool v125)∧
 At (hnew h120 [.string (⟨#[]⟩:ByteArray),.string (⟨#[]⟩:ByteArray),.string (⟨#[]⟩:ByteArray),.bool false,.bool false] aM) (fun h126=>
 (dq h126 (some (ag h120)) 0 [.string v121,.string v122,.string v123,.bool v124,.bool v125]∧
 At (aV h126 (ag h120) 0 [.string v121,.string v122,.string v123,.bool v124,.bool v125]) (fun h127=>
 Join (fun(t145:SliceV) h146=>
 (((0:Int)≤(1:Int)∧(1:Int)≤((t10.1.len:Nat):Int))∧
 Bd (aP t10.1.a ((1:Int).toNat) t10.1.cap 5:Option Addr) (fun a147=>Bd (t10.1.len-((1:Int).toNat):Nat) (fun n148=>Bd (t10.1.cap-((1:Int).toNat):Nat) (fun n149=>
 (((0:Int)≤(1:Int)∧(1:Int)≤((t10.2.1.len:Nat):Int))∧
 Bd (aP t10.2.1.a ((1:Int).toNat) t10.2.1.cap 5:Option Addr) (fun a150=>Bd (t10.2.1.len-((1:Int).toNat):Nat) (fun n151=>Bd (t10.2.1.cap-((1:Int).toNat):Nat) (fun n152=>
 I9 (⟨a147,n148,n149⟩,⟨a150,n151,n152⟩,t145) h146))))))))) (fun J128=>
 ∃v129,aj h127 (ag h120) 0 (.string v129)∧
 ∃v130,aj h127 (ag h120) 1 (.string v130)∧
 ∃v131,aj h127 (ag h120) 2 (.string v131)∧
 ∃v132,aj h127 (ag h120) 3 (.bool v132)∧
 ∃v133,aj h127 (ag h120) 4 (.bool v133)∧
 HC PG gA [.agg #[.string v129,.string v130,.string v131,.bool v132,.bool v133]] [.c .bool] (fun(e134:Bool) h135=>
 CondP e134 (
 ∃v136,aj h135 (ag h120) 0 (.string v136)∧
 ∃v137,aj h135 (ag h120) 1 (.string v137)∧
 ∃v138,aj h135 (ag h120) 2 (.string v138)∧
 ∃v139,aj h135 (ag h120) 3 (.bool v139)∧
 ∃v140,aj h135 (ag h120) 4 (.bool v140)∧
 At (hnew h135 [.string v136,.string v137,.string v138,.bool v139,.bool v140] aM) (fun h141=>
 ∃xs142,SRow h141 (some (ag h135)) (1*5) xs142∧
 AppP (some [.string (⟨#[]⟩:ByteArray),.string (⟨#[]⟩:ByteArray),.string (⟨#[]⟩:ByteArray),.bool false,.bool false]) 5 56 aM t10.2.2.a t10.2.2.len t10.2.2.cap 1 xs142 h141 (fun s143 h144=>
 J128 s143 h144))) (
 J128 t10.2.2 h135)) h127)))))) (fun J114=>
 ∃v115,aj h113 (ag h110) 4 (.bool v115)∧
 ∃v116,aj h113 (ag h41) 3 (.bool v116)∧
 CondP (!(v115==v116)) (
 J114 true h113) (
 ∃v117,aj h113 (ag h110) 2 (.string v117)∧
 ∃v118,aj h113 (ag h41) 1 (.string v118)∧
 J114 (!(v117.toList==v118.toList)) h113)))))))))))))))))) (fun J35=>
 CondP ((t10.1.len:Int)==(0:Int)) (
 J35 true h21) (
 (bP 0 t10.2.1.len∧∃a36,t10.2.1.a=some a36∧
 ∃v37,aj h21 (adr a36 ((0:Int).toNat*5)) 0 (.string v37)∧
 (bP 0 t10.1.len∧∃a38,t10.1.a=some a38∧
 ∃v39,aj h21 (adr a38 ((0:Int).toNat*5)) 0 (.string v39)∧
 J35 (Op.bytesLess v37.toList v39.toList) h21)))))) (fun J15=>
 CondP ((t10.2.1.len:Int)==(0:Int)) (
 J15 true h14) (
 CondP (decide ((t10.1.len:Int)>(0:Int))) (
 (bP 0 t10.1.len∧∃a16,t10.1.a=some a16∧
 ∃v17,aj h14 (adr a16 ((0:Int).toNat*5)) 0 (.string v17)∧
 (bP 0 t10.2.1.len∧∃a18,t10.2.1.a=some a18∧
 ∃v19,aj h14 (adr a18 ((0:Int).toNat*5)) 0 (.string v19)∧
 J15 (Op.bytesLess v17.toList v19.toList) h14))) (
 J15 false h14)))) (
 K (t10.2.2,0) h14)) (fun J12=>
 CondP (decide ((t10.1.len:Int)>(0:Int))) (
 J12 true h11) (
 J12 (decide ((t10.2.1.len:Int)>(0:Int))) h11))) (x0,x1,⟨none,0,0⟩) h4)) 0 h1)
noncomputable def LL:Ann:=.node .nil (.node (.node .nil (.loop [(17,.c (.int .i64))] .nil)) (.node .nil (.node (.loop [(0,.c .slice),(1,.c .slice),(9,.c .slice)] (.node (.join [(34,.c .bool)] .nil .nil) (.join [(74,.c .bool)] .nil (.node .nil (.join [(102,.c .bool)] .nil (.node .nil (.node .nil (.node (.join [(52,.c .bool)] .nil .nil) (.node .nil (.join [(9,.c .slice)] .nil .nil)))))))))) .nil)))
theorem Lw(x0:SliceV)(x1:SliceV){K:cJ[.c .slice,.c(.int .i64)]→af→Prop}{h0:af}(h:Dy x0 x1 K h0):HC PG tw [.slice x0.a x0.len x0.cap,.slice x1.a x1.len x1.cap] [.c .slice,.c (.int .i64)] K h0:=HC.intro (an:=LL) (c:=Tryz.f11.body.getD .skip) Tryz.mixed Tryz.func11 rfl Tryz.call11 (ae rfl) (di (by kernel_rfl) h)
def Dw(x0:SliceV)(x1:SliceV)(K:(Bool)→af→Prop)(h0:af):Prop:=
 HC PG gM [.slice x0.a x0.len x0.cap,.slice x1.a x1.len x1.cap] [.c .bool] (fun(e1:Bool) h2=>
 K e1 h2) h0
noncomputable def LJ:Ann:=.nil
theorem Lu(x0:SliceV)(x1:SliceV){K:cJ[.c .bool]→af→Prop}{h0:af}(h:Dw x0 x1 K h0):HC PG wZ [.slice x0.a x0.len x0.cap,.slice x1.a x1.len x1.cap] [.c .bool] K h0:=HC.intro (an:=LJ) (c:=Tryz.f12.body.getD .skip) Tryz.mixed Tryz.func12 rfl Tryz.call12 (ae rfl) (di (by kernel_rfl) h)
def H7(x0:SliceV)(x1:Int)(x2:Int)(K:(SliceV)→af→Prop)(h0:af):Prop:=
 LoopP (fun I1 (t2:SliceV×Int) h3=>
 CondP (decide (t2.2<(x0.len:Int))) (
 Join (fun(t48:SliceV) h49=>
 I1 (t48,ac .i64 (t2.2+1)) h49) (fun J4=>
 (bP t2.2 x0.len∧∃a5,x0.a=some a5∧
 ∃v6,aj h3 (adr a5 (t2.2.toNat*5)) 0 (.string v6)∧
 ∃v7,aj h3 (adr a5 (t2.2.toNat*5)) 1 (.string v7)∧
 ∃v8,aj h3 (adr a5 (t2.2.toNat*5)) 2 (.string v8)∧
 ∃v9,aj h3 (adr a5 (t2.2.toNat*5)) 3 (.bool v9)∧
 ∃v10,aj h3 (adr a5 (t2.2.toNat*5)) 4 (.bool v10)∧
 At (hnew h3 [.string (⟨#[]⟩:ByteArray),.string (⟨#[]⟩:ByteArray),.string (⟨#[]⟩:ByteArray),.bool false,.bool false] aM) (fun h11=>
 (dq h11 (some (ag h3)) 0 [.string v6,.string v7,.string v8,.bool v9,.bool v10]∧
 At (aV h11 (ag h3) 0 [.string v6,.string v7,.string v8,.bool v9,.bool v10]) (fun h12=>
 CondP (decide (t2.2≥(20:Int))) (
 K t2.1 h12) (
 ∃v13,aj h12 (ag h3) 0 (.string v13)∧
 ∃v14,aj h12 (ag h3) 0 (.string v14)∧
 (((0:Int)≤(if 30<(v14.size:Int)then 30 else(v14.size:Int))∧(if 30<(v14.size:Int)then 30 else(v14.size:Int))≤((v13.size:Nat):Int))∧
 Bd (v13.extract 0 ((if 30<(v14.size:Int)then 30 else(v14.size:Int)).toNat):ByteArray) (fun s15=>
 ∃v16,aj h12 (ag h3) 1 (.string v16)∧
 ∃v17,aj h12 (ag h3) 1 (.string v17)∧
 (((0:Int)≤(if 30<(v17.size:Int)then 30 else(v17.size:Int))∧(if 30<(v17.size:Int)then 30 else(v17.size:Int))≤((v16.size:Nat):Int))∧
 Bd (v16.extract 0 ((if 30<(v17.size:Int)then 30 else(v17.size:Int)).toNat):ByteArray) (fun s18=>
 ∃v19,aj h12 (ag h3) 2 (.string v19)∧
 ∃v20,aj h12 (ag h3) 2 (.string v20)∧
 (((0:Int)≤(if 30<(v20.size:Int)then 30 else(v20.size:Int))∧(if 30<(v20.size:Int)then 30 else(v20.size:Int))≤((v19.size:Nat):Int))∧
 Bd (v19.extract 0 ((if 30<(v20.size:Int)then 30 else(v20.size:Int)).toNat):ByteArray) (fun s21=>
 (Wr h12 (adr (ag h3) 0)∧
 At (hset h12 (adr (ag h3) 0) (.string s15)) (fun h22=>
 (Wr h22 (adr (ag h3) 1)∧
 At (hset h22 (adr (ag h3) 1) (.string s18)) (fun h23=>
 (Wr h23 (adr (ag h3) 2)∧
 At (hset h23 (adr (ag h3) 2) (.string s21)) (fun h24=>
 Join (fun(t30:Unit) h31=>
 Join (fun(t37:Unit) h38=>
 ∃v39,aj h38 (ag h3) 0 (.string v39)∧
 ∃v40,aj h38 (ag h3) 1 (.string v40)∧
 ∃v41,aj h38 (ag h3) 2 (.string v41)∧
 ∃v42,aj h38 (ag h3) 3 (.bool v42)∧
 ∃v43,aj h38 (ag h3) 4 (.bool v43)∧
 At (hnew h38 [.string v39,.string v40,.string v41,.bool v42,.bool v43] aM) (fun h44=>
 ∃xs45,SRow h44 (some (ag h38)) (1*5) xs45∧
 AppP (some [.string (⟨#[]⟩:ByteArray),.string (⟨#[]⟩:ByteArray),.string (⟨#[]⟩:ByteArray),.bool false,.bool false]) 5 56 aM t2.1.a t2.1.len t2.1.cap 1 xs45 h44 (fun s46 h47=>
 J4 s46 h47))) (fun J32=>
 CondP (t2.2==(ac .i64 ((ac .i64 x1)+1))) (
 ∃v33,aj h31 (ag h3) 2 (.string v33)∧
 ((4200:Int)≠0∧
 (((0:Int)≤(fq (ac .i64 x2) 4200)∧(fq (ac .i64 x2) 4200)≤(fq (ac .i64 x2) 4200)∧(fq (ac .i64 x2) 4200)≤9223372036854775807∧1*(fq (ac .i64 x2) 4200)≤2^48)∧
 At (hnew h31 (dz (fq (ac .i64 x2) 4200).toNat [.int .u8 0]) L2) (fun h34=>
 (aj h34 (ag h3) 2 (.string v33)∧
 ∃s35,SRow h34 (some (ag h31)) ((fq (ac .i64 x2) 4200).toNat) (gi s35)∧
 (((v33.size+s35.size:Nat):Int)≤9223372036854775807∧
 (Wr h34 (adr (ag h3) 2)∧
 At (hset h34 (adr (ag h3) 2) (.string (v33++s35))) (fun h36=>
 J32 () h36)))))))) (
 J32 () h31))) (fun J25=>
 CondP (t2.2==(ac .i64 x1)) (
 ∃v26,aj h24 (ag h3) 0 (.string v26)∧
 ((300:Int)≠0∧
 (((0:Int)≤(fq (ac .i64 x2) 300)∧(fq (ac .i64 x2) 300)≤(fq (ac .i64 x2) 300)∧(fq (ac .i64 x2) 300)≤9223372036854775807∧1*(fq (ac .i64 x2) 300)≤2^48)∧
 At (hnew h24 (dz (fq (ac .i64 x2) 300).toNat [.int .u8 0]) L2) (fun h27=>
 (aj h27 (ag h3) 0 (.string v26)∧
 ∃s28,SRow h27 (some (ag h24)) ((fq (ac .i64 x2) 300).toNat) (gi s28)∧
 (((v26.size+s28.size:Nat):Int)≤9223372036854775807∧
 (Wr h27 (adr (ag h3) 0)∧
 At (hset h27 (adr (ag h3) 0) (.string (v26++s28))) (fun h29=>
 J25 () h29)))))))) (
 J25 () h24))))))))))))))))))))) (
 K t2.1 h3)) (⟨none,0,0⟩,0) h0
noncomputable def PT:Ann:=.node .nil (.node .nil (.node (.node .nil (.loop [(7,.c .slice),(12,.c (.int .i64))] (.node .nil (.node .nil (.join [(7,.c .slice)] (.node .nil (.node .nil (.node .nil (.join [] .nil (.join [] .nil .nil))))) .nil))))) .nil))
theorem PL(x0:SliceV)(x1:Int)(x2:Int){K:cJ[.c .slice]→af→Prop}{h0:af}(h:H7 x0 x1 x2 K h0):HC PG xF [.slice x0.a x0.len x0.cap,.int .u8 x1,.int .u16 x2] [.c .slice] K h0:=HC.intro (an:=PT) (c:=Tryz.f13.body.getD .skip) Tryz.mixed Tryz.func13 rfl Tryz.call13 (ae rfl) (di (by kernel_rfl) h)
def FL(x0:SliceV)(x1:SliceV)(K:(SliceV×Int)→af→Prop)(h0:af):Prop:=
 HC PG tl [.slice x0.a x0.len x0.cap] [.c (.int .i64)] (fun(e1:Int) h2=>
 CondP (e1 !=(0:Int)) (
 K (⟨none,0,0⟩,e1) h2) (
 HC PG tl [.slice x1.a x1.len x1.cap] [.c (.int .i64)] (fun(e3:Int) h4=>
 CondP (e3 !=(0:Int)) (
 K (⟨none,0,0⟩,e3) h4) (
 LoopP (fun I5 (t6:SliceV×Int) h7=>
 CondP (decide (t6.2<(x0.len:Int))) (
 (bP t6.2 x0.len∧∃a8,x0.a=some a8∧
 ∃v9,aj h7 (adr a8 (t6.2.toNat*5)) 0 (.string v9)∧
 ∃v10,aj h7 (adr a8 (t6.2.toNat*5)) 1 (.string v10)∧
 ∃v11,aj h7 (adr a8 (t6.2.toNat*5)) 2 (.string v11)∧
 ∃v12,aj h7 (adr a8 (t6.2.toNat*5)) 3 (.bool v12)∧
 ∃v13,aj h7 (adr a8 (t6.2.toNat*5)) 4 (.bool v13)∧
 At (hnew h7 [.string (⟨#[]⟩:ByteArray),.string (⟨#[]⟩:ByteArray),.string (⟨#[]⟩:ByteArray),.bool false,.bool false] dg) (fun h14=>
 (dq h14 (some (ag h7)) 0 [.string v9,.string v10,.string v11,.bool v12,.bool v13]∧
 At (aV h14 (ag h7) 0 [.string v9,.string v10,.string v11,.bool v12,.bool v13]) (fun h15=>
 ∃v16,aj h15 (ag h7) 0 (.string v16)∧
 HC PG rQ [.slice t6.1.a t6.1.len t6.1.cap,.agg #[.string v16,.string (⟨#[]⟩:ByteArray)]] [.c .slice] (fun(e17:SliceV) h18=>
 I5 (e17,ac .i64 (t6.2+1)) h18) h15))))) (
 LoopP (fun I19 (t20:SliceV×Int) h21=>
 CondP (decide (t20.2<(x1.len:Int))) (
 (bP t20.2 x1.len∧∃a22,x1.a=some a22∧
 ∃v23,aj h21 (adr a22 (t20.2.toNat*5)) 0 (.string v23)∧
 ∃v24,aj h21 (adr a22 (t20.2.toNat*5)) 1 (.string v24)∧
 ∃v25,aj h21 (adr a22 (t20.2.toNat*5)) 2 (.string v25)∧
 ∃v26,aj h21 (adr a22 (t20.2.toNat*5)) 3 (.bool v26)∧
 ∃v27,aj h21 (adr a22 (t20.2.toNat*5)) 4 (.bool v27)∧
 At (hnew h21 [.string (⟨#[]⟩:ByteArray),.string (⟨#[]⟩:ByteArray),.string (⟨#[]⟩:ByteArray),.bool false,.bool false] dg) (fun h28=>
 (dq h28 (some (ag h21)) 0 [.string v23,.string v24,.string v25,.bool v26,.bool v27]∧
 At (aV h28 (ag h21) 0 [.string v23,.string v24,.string v25,.bool v26,.bool v27]) (fun h29=>
 ∃v30,aj h29 (ag h21) 0 (.string v30)∧
 HC PG rQ [.slice t20.1.a t20.1.len t20.1.cap,.agg #[.string v30,.string (⟨#[]⟩:ByteArray)]] [.c .slice] (fun(e31:SliceV) h32=>
 I19 (e31,ac .i64 (t20.2+1)) h32) h29))))) (
 LoopP (fun I33 (t34:SliceV×Int) h35=>
 CondP (decide (t34.2<(t20.1.len:Int))) (
 Join (fun(t94:SliceV) h95=>
 I33 (t94,ac .i64 (t34.2+1)) h95) (fun J36=>
 (bP t34.2 t20.1.len∧∃a37,t20.1.a=some a37∧
 ∃v38,aj h35 (adr a37 (t34.2.toNat*2)) 0 (.string v38)∧
 ∃v39,aj h35 (adr a37 (t34.2.toNat*2)) 1 (.string v39)∧
 At (hnew h35 [.string (⟨#[]⟩:ByteArray),.string (⟨#[]⟩:ByteArray)] dI) (fun h40=>
 (dq h40 (some (ag h35)) 0 [.string v38,.string v39]∧
 At (aV h40 (ag h35) 0 [.string v38,.string v39]) (fun h41=>
 ∃v42,aj h41 (ag h35) 0 (.string v42)∧
 HC PG vA [.slice x0.a x0.len x0.cap,.string v42] [.agg [.str,.str,.str,.bool,.bool],.c .bool] (fun(e43:(ByteArray×ByteArray×ByteArray×Bool×Bool)×Bool) h44=>
 At (hnew h44 [.string (⟨#[]⟩:ByteArray),.string (⟨#[]⟩:ByteArray),.string (⟨#[]⟩:ByteArray),.bool false,.bool false] dg) (fun h45=>
 (dq h45 (some (ag h44)) 0 [.string e43.1.1,.string e43.1.2.1,.string e43.1.2.2.1,.bool e43.1.2.2.2.1,.bool e43.1.2.2.2.2]∧
 At (aV h45 (ag h44) 0 [.string e43.1.1,.string e43.1.2.1,.string e43.1.2.2.1,.bool e43.1.2.2.2.1,.bool e43.1.2.2.2.2]) (fun h46=>
 ∃v47,aj h46 (ag h35) 0 (.string v47)∧
 HC PG vA [.slice x1.a x1.len x1.cap,.string v47] [.agg [.str,.str,.str,.bool,.bool],.c .bool] (fun(e48:(ByteArray×ByteArray×ByteArray×Bool×Bool)×Bool) h49=>
 At (hnew h49 [.string (⟨#[]⟩:ByteArray),.string (⟨#[]⟩:ByteArray),.string (⟨#[]⟩:ByteArray),.bool false,.bool false] dg) (fun h50=>
 (dq h50 (some (ag h49)) 0 [.string e48.1.1,.string e48.1.2.1,.string e48.1.2.2.1,.bool e48.1.2.2.2.1,.bool e48.1.2.2.2.2]∧
 At (aV h50 (ag h49) 0 [.string e48.1.1,.string e48.1.2.1,.string e48.1.2.2.1,.bool e48.1.2.2.2.1,.bool e48.1.2.2.2.2]) (fun h51=>
 Join (fun(t67:Unit) h68=>
 Join (fun(t76:Unit) h77=>
 Join (fun(t83:Bool) h84=>
 CondP t83 (
 ∃v85,aj h84 (ag h44) 0 (.string v85)∧
 ∃v86,aj h84 (ag h44) 1 (.string v86)∧
 ∃v87,aj h84 (ag h44) 2 (.string v87)∧
 ∃v88,aj h84 (ag h44) 3 (.bool v88)∧
 ∃v89,aj h84 (ag h44) 4 (.bool v89)∧
 At (hnew h84 [.string v85,.string v86,.string v87,.bool v88,.bool v89] dg) (fun h90=>
 ∃xs91,SRow h90 (some (ag h84)) (1*5) xs91∧
 AppP (some [.string (⟨#[]⟩:ByteArray),.string (⟨#[]⟩:ByteArray),.string (⟨#[]⟩:ByteArray),.bool false,.bool false]) 5 56 dg t34.1.a t34.1.len t34.1.cap 1 xs91 h90 (fun s92 h93=>
 J36 s92 h93))) (
 J36 t34.1 h84)) (fun J78=>
 ∃v79,aj h77 (ag h44) 3 (.bool v79)∧
 ∃v80,aj h77 (ag h44) 4 (.bool v80)∧
 CondP (!(v79==v80)) (
 J78 true h77) (
 ∃v81,aj h77 (ag h44) 1 (.string v81)∧
 ∃v82,aj h77 (ag h44) 2 (.string v82)∧
 J78 (!(v81.toList==v82.toList)) h77))) (fun J69=>
 CondP (!e43.2) (
 ∃v70,aj h68 (ag h49) 0 (.string v70)∧
 ∃v71,aj h68 (ag h49) 1 (.string v71)∧
 ∃v72,aj h68 (ag h49) 2 (.string v72)∧
 ∃v73,aj h68 (ag h49) 3 (.bool v73)∧
 ∃v74,aj h68 (ag h49) 4 (.bool v74)∧
 (dq h68 (some (ag h44)) 0 [.string v70,.string v71,.string v72,.bool v73,.bool v74]∧
 At (aV h68 (ag h44) 0 [.string v70,.string v71,.string v72,.bool v73,.bool v74]) (fun h75=>
 J69 () h75))) (
 J69 () h68))) (fun J52=>
 Join (fun(t54:Bool) h55=>
 CondP t54 (
 Join (fun(t61:Bool) h62=>
 CondP t61 (
 K (⟨none,0,0⟩,8) h62) (
 ∃v63,aj h62 (ag h49) 4 (.bool v63)∧
 ∃v64,aj h62 (ag h49) 2 (.string v64)∧
 (Wr h62 (adr (ag h44) 4)∧
 At (hset h62 (adr (ag h44) 4) (.bool v63)) (fun h65=>
 (aj h65 (ag h49) 2 (.string v64)∧
 (Wr h65 (adr (ag h44) 2)∧
 At (hset h65 (adr (ag h44) 2) (.string v64)) (fun h66=>
 J52 () h66))))))) (fun J56=>
 ∃v57,aj h55 (ag h44) 4 (.bool v57)∧
 ∃v58,aj h55 (ag h49) 3 (.bool v58)∧
 CondP (!(v57==v58)) (
 J56 true h55) (
 ∃v59,aj h55 (ag h44) 2 (.string v59)∧
 ∃v60,aj h55 (ag h49) 1 (.string v60)∧
 J56 (!(v59.toList==v60.toList)) h55))) (
 J52 () h55)) (fun J53=>
 CondP e43.2 (
 J53 e48.2 h51) (
 J53 false h51))))))) h46)))) h41)))))) (
 K (t34.1,0) h35)) (⟨none,0,0⟩,0) h21)) (t6.1,0) h7)) (⟨none,0,0⟩,0) h4)) h2)) h0
noncomputable def NG:Ann:=.node .nil (.node .nil (.node .nil (.node .nil (.node (.node .nil (.loop [(8,.c .slice),(32,.c (.int .i64))] .nil)) (.node (.node .nil (.loop [(8,.c .slice),(44,.c (.int .i64))] .nil)) (.node .nil (.node (.node .nil (.loop [(13,.c .slice),(56,.c (.int .i64))] (.node .nil (.node .nil (.join [(13,.c .slice)] (.node .nil (.node .nil (.node .nil (.join [] (.join [(77,.c .bool)] .nil (.node (.node (.join [(89,.c .bool)] .nil .nil) .nil) .nil)) (.join [] .nil (.join [(110,.c .bool)] .nil .nil)))))) .nil))))) .nil)))))))
theorem Np(x0:SliceV)(x1:SliceV){K:cJ[.c .slice,.c(.int .i64)]→af→Prop}{h0:af}(h:FL x0 x1 K h0):HC PG yT [.slice x0.a x0.len x0.cap,.slice x1.a x1.len x1.cap] [.c .slice,.c (.int .i64)] K h0:=HC.intro (an:=NG) (c:=Tryz.f14.body.getD .skip) Tryz.mixed Tryz.func14 rfl Tryz.call14 (ae rfl) (di (by kernel_rfl) h)
def yn(x0:SliceV)(K:(SliceV)→af→Prop)(h0:af):Prop:=
 LoopP (fun I1 (t2:SliceV×Int) h3=>
 CondP (decide (t2.2<(x0.len:Int))) (
 Join (fun(t22:SliceV) h23=>
 I1 (t22,ac .i64 (t2.2+1)) h23) (fun J4=>
 (bP t2.2 x0.len∧∃a5,x0.a=some a5∧
 ∃v6,aj h3 (adr a5 (t2.2.toNat*5)) 0 (.string v6)∧
 ∃v7,aj h3 (adr a5 (t2.2.toNat*5)) 1 (.string v7)∧
 ∃v8,aj h3 (adr a5 (t2.2.toNat*5)) 2 (.string v8)∧
 ∃v9,aj h3 (adr a5 (t2.2.toNat*5)) 3 (.bool v9)∧
 ∃v10,aj h3 (adr a5 (t2.2.toNat*5)) 4 (.bool v10)∧
 At (hnew h3 [.string (⟨#[]⟩:ByteArray),.string (⟨#[]⟩:ByteArray),.string (⟨#[]⟩:ByteArray),.bool false,.bool false] aM) (fun h11=>
 (dq h11 (some (ag h3)) 0 [.string v6,.string v7,.string v8,.bool v9,.bool v10]∧
 At (aV h11 (ag h3) 0 [.string v6,.string v7,.string v8,.bool v9,.bool v10]) (fun h12=>
 ∃v13,aj h12 (ag h3) 0 (.string v13)∧
 ∃v14,aj h12 (ag h3) 1 (.string v14)∧
 ∃v15,aj h12 (ag h3) 2 (.string v15)∧
 ∃v16,aj h12 (ag h3) 3 (.bool v16)∧
 ∃v17,aj h12 (ag h3) 4 (.bool v17)∧
 At (hnew h12 [.string v13,.string v14,.string v15,.bool v16,.bool v17] dg) (fun h18=>
 ∃xs19,SRow h18 (some (ag h12)) (1*5) xs19∧
 AppP (some [.string (⟨#[]⟩:ByteArray),.string (⟨#[]⟩:ByteArray),.string (⟨#[]⟩:ByteArray),.bool false,.bool false]) 5 56 dg t2.1.a t2.1.len t2.1.cap 1 xs19 h18 (fun s20 h21=>
 J4 s20 h21)))))))) (
 K t2.1 h3)) (⟨none,0,0⟩,0) h0
noncomputable def GM:Ann:=.node .nil (.node .nil (.node (.node .nil (.loop [(3,.c .slice),(8,.c (.int .i64))] (.node .nil (.node .nil (.join [(3,.c .slice)] .nil .nil))))) .nil))
theorem Gx(x0:SliceV){K:cJ[.c .slice]→af→Prop}{h0:af}(h:yn x0 K h0):HC PG nO [.slice x0.a x0.len x0.cap] [.c .slice] K h0:=HC.intro (an:=GM) (c:=Tryz.f15.body.getD .skip) Tryz.mixed Tryz.func15 rfl Tryz.call15 (ae rfl) (di (by kernel_rfl) h)
def vM(x0:SliceV)(x1:SliceV)(K:(Bool)→af→Prop)(h0:af):Prop:=
 CondP ((x0.len:Int) !=(x1.len:Int)) (
 K false h0) (
 LoopP (fun I1 (t2:Int) h3=>
 CondP (decide (t2<(x0.len:Int))) (
 (bP t2 x0.len∧∃a4,x0.a=some a4∧
 ∃v5,aj h3 (adr a4 (t2.toNat*5)) 0 (.string v5)∧
 ∃v6,aj h3 (adr a4 (t2.toNat*5)) 1 (.string v6)∧
 ∃v7,aj h3 (adr a4 (t2.toNat*5)) 2 (.string v7)∧
 ∃v8,aj h3 (adr a4 (t2.toNat*5)) 3 (.bool v8)∧
 ∃v9,aj h3 (adr a4 (t2.toNat*5)) 4 (.bool v9)∧
 (bP t2 x1.len∧∃a10,x1.a=some a10∧
 ∃v11,aj h3 (adr a10 (t2.toNat*5)) 0 (.string v11)∧
 ∃v12,aj h3 (adr a10 (t2.toNat*5)) 1 (.string v12)∧
 ∃v13,aj h3 (adr a10 (t2.toNat*5)) 2 (.string v13)∧
 ∃v14,aj h3 (adr a10 (t2.toNat*5)) 3 (.bool v14)∧
 ∃v15,aj h3 (adr a10 (t2.toNat*5)) 4 (.bool v15)∧
 CondP (!(((v5.toList==v11.toList)&&((v6.toList==v12.toList)&&((v7.toList==v13.toList)&&((v8==v14)&&((v9==v15)&&true))))))) (
 K false h3) (
 I1 (ac .i64 (t2+1)) h3)))) (
 K true h3)) 0 h0)
noncomputable def NF:Ann:=.node .nil (.node .nil (.node (.node .nil (.loop [(13,.c (.int .i64))] .nil)) .nil))
theorem Nn(x0:SliceV)(x1:SliceV){K:cJ[.c .bool]→af→Prop}{h0:af}(h:vM x0 x1 K h0):HC PG yS [.slice x0.a x0.len x0.cap,.slice x1.a x1.len x1.cap] [.c .bool] K h0:=HC.intro (an:=NF) (c:=Tryz.f16.body.getD .skip) Tryz.mixed Tryz.func16 rfl Tryz.call16 (ae rfl) (di (by kernel_rfl) h)
def A8(x0:Int)(x1:Int×Int×Int)(x2:SliceV)(K:((T6)×Int)→af→Prop)(h0:af):Prop:=
 At (hnew h0 [.int .u64 x1.1,.int .u64 x1.2.1,.int .u64 x1.2.2] ct) (fun h1=>
 At (hnew h1 [.int .i64 0,.int .u64 0,.int .u64 0,.int .u64 0,.pointer none,.pointer none] bE) (fun h2=>
 ∃v3,aj h2 (ag h0) 0 (.int .u64 v3)∧
 ∃v4,aj h2 (ag h0) 1 (.int .u64 v4)∧
 ∃v5,aj h2 (ag h0) 2 (.int .u64 v5)∧
 HC PG vx [.int .i64 x0,.agg #[.int .u64 v3,.int .u64 v4,.int .u64 v5]] [.agg [.int .i64,.int .u64,.int .u64,.int .u64,.ptr,.ptr],.c (.int .i64)] (fun(e6:(T6)×Int) h7=>
 At (hnew h7 [.int .i64 0,.int .u64 0,.int .u64 0,.int .u64 0,.pointer none,.pointer none] bE) (fun h8=>
 (dq h8 (some (ag h7)) 0 [.int .i64 e6.1.1,.int .u64 e6.1.2.1,.int .u64 e6.1.2.2.1,.int .u64 e6.1.2.2.2.1,.pointer e6.1.2.2.2.2.1,.pointer e6.1.2.2.2.2.2]∧
 At (aV h8 (ag h7) 0 [.int .i64 e6.1.1,.int .u64 e6.1.2.1,.int .u64 e6.1.2.2.1,.int .u64 e6.1.2.2.2.1,.pointer e6.1.2.2.2.2.1,.pointer e6.1.2.2.2.2.2]) (fun h9=>
 CondP (e6.2 !=(0:Int)) (
 (dq h9 (some (ag h1)) 0 [.int .i64 0,.int .u64 0,.int .u64 0,.int .u64 0,.pointer none,.pointer none]∧
 At (aV h9 (ag h1) 0 [.int .i64 0,.int .u64 0,.int .u64 0,.int .u64 0,.pointer none,.pointer none]) (fun h10=>
 ∃v11,aj h10 (ag h1) 0 (.int .i64 v11)∧
 ∃v12,aj h10 (ag h1) 1 (.int .u64 v12)∧
 ∃v13,aj h10 (ag h1) 2 (.int .u64 v13)∧
 ∃v14,aj h10 (ag h1) 3 (.int .u64 v14)∧
 ∃v15,aj h10 (ag h1) 4 (.pointer v15)∧
 ∃v16,aj h10 (ag h1) 5 (.pointer v16)∧
 K ((v11,v12,v13,v14,v15,v16),e6.2) h10))) (
 LoopP (fun I17 (t18:Int) h19=>
 CondP (decide (t18<(x2.len:Int))) (
 (bP t18 x2.len∧∃a20,x2.a=some a20∧
 ∃v21,aj h19 (adr a20 (t18.toNat*2)) 0 (.string v21)∧
 ∃v22,aj h19 (adr a20 (t18.toNat*2)) 1 (.string v22)∧
 At (hnew h19 [.string (⟨#[]⟩:ByteArray),.string (⟨#[]⟩:ByteArray)] aq) (fun h23=>
 (dq h23 (some (ag h19)) 0 [.string v21,.string v22]∧
 At (aV h23 (ag h19) 0 [.string v21,.string v22]) (fun h24=>
 ∃v25,aj h24 (ag h19) 0 (.string v25)∧
 ∃v26,aj h24 (ag h19) 1 (.string v26)∧
 HC PG kK [.string v25,.string v26] [.c (.int .i64)] (fun(e27:Int) h28=>
 CondP (e27 !=(0:Int)) (
 (dq h28 (some (ag h1)) 0 [.int .i64 0,.int .u64 0,.int .u64 0,.int .u64 0,.pointer none,.pointer none]∧
 At (aV h28 (ag h1) 0 [.int .i64 0,.int .u64 0,.int .u64 0,.int .u64 0,.pointer none,.pointer none]) (fun h29=>
 ∃v30,aj h29 (ag h1) 0 (.int .i64 v30)∧
 ∃v31,aj h29 (ag h1) 1 (.int .u64 v31)∧
 ∃v32,aj h29 (ag h1) 2 (.int .u64 v32)∧
 ∃v33,aj h29 (ag h1) 3 (.int .u64 v33)∧
 ∃v34,aj h29 (ag h1) 4 (.pointer v34)∧
 ∃v35,aj h29 (ag h1) 5 (.pointer v35)∧
 K ((v30,v31,v32,v33,v34,v35),e27) h29))) (
 I17 (ac .i64 (t18+1)) h28)) h24))))) (
 CondP (x0==(1:Int)) (
 HC PG ui [.slice x2.a x2.len x2.cap] [.c .ptr] (fun(e36:Option Addr) h37=>
 HC PG pm [.pointer e36] [.agg [.int .i64,.int .u64,.int .u64,.int .u64,.ptr,.ptr]] (fun(e38:T6) h39=>
 (dq h39 (some (ag h1)) 0 [.int .i64 e38.1,.int .u64 e38.2.1,.int .u64 e38.2.2.1,.int .u64 e38.2.2.2.1,.pointer e38.2.2.2.2.1,.pointer e38.2.2.2.2.2]∧
 At (aV h39 (ag h1) 0 [.int .i64 e38.1,.int .u64 e38.2.1,.int .u64 e38.2.2.1,.int .u64 e38.2.2.2.1,.pointer e38.2.2.2.2.1,.pointer e38.2.2.2.2.2]) (fun h40=>
 ∃v41,aj h40 (ag h1) 0 (.int .i64 v41)∧
 ∃v42,aj h40 (ag h1) 1 (.int .u64 v42)∧
 ∃v43,aj h40 (ag h1) 2 (.int .u64 v43)∧
 ∃v44,aj h40 (ag h1) 3 (.int .u64 v44)∧
 ∃v45,aj h40 (ag h1) 4 (.pointer v45)∧
 ∃v46,aj h40 (ag h1) 5 (.pointer v46)∧
 K ((v41,v42,v43,v44,v45,v46),0) h40))) h37) h19) (
 ∃v47,aj h19 (ag h0) 0 (.int .u64 v47)∧
 ∃v48,aj h19 (ag h0) 1 (.int .u64 v48)∧
 ∃v49,aj h19 (ag h0) 2 (.int .u64 v49)∧
 ∃v50,aj h19 (ag h0) 0 (.int .u64 v50)∧
 ∃v51,aj h19 (ag h0) 1 (.int .u64 v51)∧
 ∃v52,aj h19 (ag h0) 2 (.int .u64 v52)∧
 HC PG uj [.agg #[.int .u64 v50,.int .u64 v51,.int .u64 v52],.slice x2.a x2.len x2.cap] [.c .ptr] (fun(e53:Option Addr) h54=>
 ((aj h54 (ag h0) 0 (.int .u64 v47)∧aj h54 (ag h0) 1 (.int .u64 v48)∧aj h54 (ag h0) 2 (.int .u64 v49))∧
 HC PG pn [.agg #[.int .u64 v47,.int .u64 v48,.int .u64 v49],.pointer e53] [.agg [.int .i64,.int .u64,.int .u64,.int .u64,.ptr,.ptr]] (fun(e55:T6) h56=>
 (dq h56 (some (ag h1)) 0 [.int .i64 e55.1,.int .u64 e55.2.1,.int .u64 e55.2.2.1,.int .u64 e55.2.2.2.1,.pointer e55.2.2.2.2.1,.pointer e55.2.2.2.2.2]∧
 At (aV h56 (ag h1) 0 [.int .i64 e55.1,.int .u64 e55.2.1,.int .u64 e55.2.2.1,.int .u64 e55.2.2.2.1,.pointer e55.2.2.2.2.1,.pointer e55.2.2.2.2.2]) (fun h57=>
 ∃v58,aj h57 (ag h1) 0 (.int .i64 v58)∧
 ∃v59,aj h57 (ag h1) 1 (.int .u64 v59)∧
 ∃v60,aj h57 (ag h1) 2 (.int .u64 v60)∧
 ∃v61,aj h57 (ag h1) 3 (.int .u64 v61)∧
 ∃v62,aj h57 (ag h1) 4 (.pointer v62)∧
 ∃v63,aj h57 (ag h1) 5 (.pointer v63)∧
 K ((v58,v59,v60,v61,v62,v63),0) h57))) h54)) h19))) 0 h9))))) h2))
noncomputable def JI:Ann:=.node .nil (.node .nil (.node (.node .nil (.loop [(25,.c (.int .i64))] .nil)) .nil))
theorem Jv(x0:Int)(x1:Int×Int×Int)(x2:SliceV){K:cJ[.agg[.int .i64,.int .u64,.int .u64,.int .u64,.ptr,.ptr],.c(.int .i64)]→af→Prop}{h0:af}(h:A8 x0 x1 x2 K h0):HC PG rJ [.int .i64 x0,.agg #[.int .u64 x1.1,.int .u64 x1.2.1,.int .u64 x1.2.2],.slice x2.a x2.len x2.cap] [.agg [.int .i64,.int .u64,.int .u64,.int .u64,.ptr,.ptr],.c (.int .i64)] K h0:=HC.intro (an:=JI) (c:=Tryz.f24.body.getD .skip) Tryz.mixed Tryz.func24 rfl Tryz.call24 (ae rfl) (di (by kernel_rfl) h)
def FI(x0:Int)(x1:Int×Int×Int)(K:((T6)×Int)→af→Prop)(h0:af):Prop:=
 At (hnew h0 [.int .u64 x1.1,.int .u64 x1.2.1,.int .u64 x1.2.2] ct) (fun h1=>
 At (hnew h1 [.int .i64 0,.int .u64 0,.int .u64 0,.int .u64 0,.pointer none,.pointer none] bE) (fun h2=>
 CondP (x0==(0:Int)) (
 ∃v3,aj h2 (ag h0) 0 (.int .u64 v3)∧
 ∃v4,aj h2 (ag h0) 1 (.int .u64 v4)∧
 ∃v5,aj h2 (ag h0) 2 (.int .u64 v5)∧
 HC PG pn [.agg #[.int .u64 v3,.int .u64 v4,.int .u64 v5],.pointer none] [.agg [.int .i64,.int .u64,.int .u64,.int .u64,.ptr,.ptr]] (fun(e6:T6) h7=>
 (dq h7 (some (ag h1)) 0 [.int .i64 e6.1,.int .u64 e6.2.1,.int .u64 e6.2.2.1,.int .u64 e6.2.2.2.1,.pointer e6.2.2.2.2.1,.pointer e6.2.2.2.2.2]∧
 At (aV h7 (ag h1) 0 [.int .i64 e6.1,.int .u64 e6.2.1,.int .u64 e6.2.2.1,.int .u64 e6.2.2.2.1,.pointer e6.2.2.2.2.1,.pointer e6.2.2.2.2.2]) (fun h8=>
 ∃v9,aj h8 (ag h1) 0 (.int .i64 v9)∧
 ∃v10,aj h8 (ag h1) 1 (.int .u64 v10)∧
 ∃v11,aj h8 (ag h1) 2 (.int .u64 v11)∧
 ∃v12,aj h8 (ag h1) 3 (.int .u64 v12)∧
 ∃v13,aj h8 (ag h1) 4 (.pointer v13)∧
 ∃v14,aj h8 (ag h1) 5 (.pointer v14)∧
 K ((v9,v10,v11,v12,v13,v14),0) h8))) h2) (
 CondP (x0==(1:Int)) (
 HC PG pm [.pointer none] [.agg [.int .i64,.int .u64,.int .u64,.int .u64,.ptr,.ptr]] (fun(e15:T6) h16=>
 (dq h16 (some (ag h1)) 0 [.int .i64 e15.1,.int .u64 e15.2.1,.int .u64 e15.2.2.1,.int .u64 e15.2.2.2.1,.pointer e15.2.2.2.2.1,.pointer e15.2.2.2.2.2]∧
 At (aV h16 (ag h1) 0 [.int .i64 e15.1,.int .u64 e15.2.1,.int .u64 e15.2.2.1,.int .u64 e15.2.2.2.1,.pointer e15.2.2.2.2.1,.pointer e15.2.2.2.2.2]) (fun h17=>
 ∃v18,aj h17 (ag h1) 0 (.int .i64 v18)∧
 ∃v19,aj h17 (ag h1) 1 (.int .u64 v19)∧
 ∃v20,aj h17 (ag h1) 2 (.int .u64 v20)∧
 ∃v21,aj h17 (ag h1) 3 (.int .u64 v21)∧
 ∃v22,aj h17 (ag h1) 4 (.pointer v22)∧
 ∃v23,aj h17 (ag h1) 5 (.pointer v23)∧
 K ((v18,v19,v20,v21,v22,v23),0) h17))) h2) (
 (dq h2 (some (ag h1)) 0 [.int .i64 0,.int .u64 0,.int .u64 0,.int .u64 0,.pointer none,.pointer none]∧
 At (aV h2 (ag h1) 0 [.int .i64 0,.int .u64 0,.int .u64 0,.int .u64 0,.pointer none,.pointer none]) (fun h24=>
 ∃v25,aj h24 (ag h1) 0 (.int .i64 v25)∧
 ∃v26,aj h24 (ag h1) 1 (.int .u64 v26)∧
 ∃v27,aj h24 (ag h1) 2 (.int .u64 v27)∧
 ∃v28,aj h24 (ag h1) 3 (.int .u64 v28)∧
 ∃v29,aj h24 (ag h1) 4 (.pointer v29)∧
 ∃v30,aj h24 (ag h1) 5 (.pointer v30)∧
 K ((v25,v26,v27,v28,v29,v30),11) h24))))))
noncomputable def NC:Ann:=.nil
theorem Nk(x0:Int)(x1:Int×Int×Int){K:cJ[.agg[.int .i64,.int .u64,.int .u64,.int .u64,.ptr,.ptr],.c(.int .i64)]→af→Prop}{h0:af}(h:FI x0 x1 K h0):HC PG vx [.int .i64 x0,.agg #[.int .u64 x1.1,.int .u64 x1.2.1,.int .u64 x1.2.2]] [.agg [.int .i64,.int .u64,.int .u64,.int .u64,.ptr,.ptr],.c (.int .i64)] K h0:=HC.intro (an:=NC) (c:=Tryz.f25.body.getD .skip) Tryz.mixed Tryz.func25 rfl Tryz.call25 (ae rfl) (di (by kernel_rfl) h)
def H3(x0:Int)(x1:Int×Int×Int)(K:((Int×Int×Int×Int×SliceV)×Int)→af→Prop)(h0:af):Prop:=
 At (hnew h0 [.int .u64 x1.1,.int .u64 x1.2.1,.int .u64 x1.2.2] zD) (fun h1=>
 At (hnew h1 [.int .i64 0,.int .u64 0,.int .u64 0,.int .u64 0,.slice none 0 0] dH) (fun h2=>
 CondP (x0==(0:Int)) (
 ∃v3,aj h2 (ag h0) 0 (.int .u64 v3)∧
 ∃v4,aj h2 (ag h0) 1 (.int .u64 v4)∧
 ∃v5,aj h2 (ag h0) 2 (.int .u64 v5)∧
 (dq h2 (some (ag h1)) 0 [.int .i64 0,.int .u64 v3,.int .u64 v4,.int .u64 v5,.slice none 0 0]∧
 At (aV h2 (ag h1) 0 [.int .i64 0,.int .u64 v3,.int .u64 v4,.int .u64 v5,.slice none 0 0]) (fun h6=>
 ∃v7,aj h6 (ag h1) 0 (.int .i64 v7)∧
 ∃v8,aj h6 (ag h1) 1 (.int .u64 v8)∧
 ∃v9,aj h6 (ag h1) 2 (.int .u64 v9)∧
 ∃v10,aj h6 (ag h1) 3 (.int .u64 v10)∧
 ∃v11:SliceV,aj h6 (ag h1) 4 (.slice v11.a v11.len v11.cap)∧
 K ((v7,v8,v9,v10,v11),0) h6))) (
 CondP (x0==(1:Int)) (
 (dq h2 (some (ag h1)) 0 [.int .i64 1,.int .u64 0,.int .u64 0,.int .u64 0,.slice none 0 0]∧
 At (aV h2 (ag h1) 0 [.int .i64 1,.int .u64 0,.int .u64 0,.int .u64 0,.slice none 0 0]) (fun h12=>
 ∃v13,aj h12 (ag h1) 0 (.int .i64 v13)∧
 ∃v14,aj h12 (ag h1) 1 (.int .u64 v14)∧
 ∃v15,aj h12 (ag h1) 2 (.int .u64 v15)∧
 ∃v16,aj h12 (ag h1) 3 (.int .u64 v16)∧
 ∃v17:SliceV,aj h12 (ag h1) 4 (.slice v17.a v17.len v17.cap)∧
 K ((v13,v14,v15,v16,v17),0) h12))) (
 (dq h2 (some (ag h1)) 0 [.int .i64 0,.int .u64 0,.int .u64 0,.int .u64 0,.slice none 0 0]∧
 At (aV h2 (ag h1) 0 [.int .i64 0,.int .u64 0,.int .u64 0,.int .u64 0,.slice none 0 0]) (fun h18=>
 ∃v19,aj h18 (ag h1) 0 (.int .i64 v19)∧
 ∃v20,aj h18 (ag h1) 1 (.int .u64 v20)∧
 ∃v21,aj h18 (ag h1) 2 (.int .u64 v21)∧
 ∃v22,aj h18 (ag h1) 3 (.int .u64 v22)∧
 ∃v23:SliceV,aj h18 (ag h1) 4 (.slice v23.a v23.len v23.cap)∧
 K ((v19,v20,v21,v22,v23),11) h18))))))
noncomputable def PP:Ann:=.nil
theorem PH(x0:Int)(x1:Int×Int×Int){K:cJ[.agg[.int .i64,.int .u64,.int .u64,.int .u64,.slice],.c(.int .i64)]→af→Prop}{h0:af}(h:H3 x0 x1 K h0):HC PG BZ [.int .i64 x0,.agg #[.int .u64 x1.1,.int .u64 x1.2.1,.int .u64 x1.2.2]] [.agg [.int .i64,.int .u64,.int .u64,.int .u64,.slice],.c (.int .i64)] K h0:=HC.intro (an:=PP) (c:=Tryz.f26.body.getD .skip) Tryz.mixed Tryz.func26 rfl Tryz.call26 (ae rfl) (di (by kernel_rfl) h)
def H6(x0:Int×Int×Int)(K:(Int×Int×Int)→af→Prop)(h0:af):Prop:=
 At (hnew h0 [.int .u64 x0.1,.int .u64 x0.2.1,.int .u64 x0.2.2] ct) (fun h1=>
 At (hnew h1 [.int .u64 0,.int .u64 0,.int .u64 0] zD) (fun h2=>
 ∃v3,aj h2 (adr (ag h0) 0) 0 (.int .u64 v3)∧
 ∃v4,aj h2 (adr (ag h0) 0) 1 (.int .u64 v4)∧
 ∃v5,aj h2 (ag h0) 2 (.int .u64 v5)∧
 (dq h2 (some (ag h1)) 0 [.int .u64 v3,.int .u64 v4,.int .u64 v5]∧
 At (aV h2 (ag h1) 0 [.int .u64 v3,.int .u64 v4,.int .u64 v5]) (fun h6=>
 ∃v7,aj h6 (ag h1) 0 (.int .u64 v7)∧
 ∃v8,aj h6 (ag h1) 1 (.int .u64 v8)∧
 ∃v9,aj h6 (ag h1) 2 (.int .u64 v9)∧
 K (v7,v8,v9) h6))))
noncomputable def PS:Ann:=.nil
theorem PK(x0:Int×Int×Int){K:cJ[.agg[.int .u64,.int .u64,.int .u64]]→af→Prop}{h0:af}(h:H6 x0 K h0):HC PG B4 [.agg #[.int .u64 x0.1,.int .u64 x0.2.1,.int .u64 x0.2.2]] [.agg [.int .u64,.int .u64,.int .u64]] K h0:=HC.intro (an:=PS) (c:=Tryz.f27.body.getD .skip) Tryz.mixed Tryz.func27 rfl Tryz.call27 (ae rfl) (di (by kernel_rfl) h)
def uQ(x0:T6)(x1:Option Addr)(x2:ByteArray×ByteArray)(K:((T6)×Int)→af→Prop)(h0:af):Prop:=
 At (hnew h0 [.int .i64 x0.1,.int .u64 x0.2.1,.int .u64 x0.2.2.1,.int .u64 x0.2.2.2.1,.pointer x0.2.2.2.2.1,.pointer x0.2.2.2.2.2] bE) (fun h1=>
 At (hnew h1 [.string x2.1,.string x2.2] aq) (fun h2=>
 At (hnew h2 [.int .i64 0,.int .u64 0,.int .u64 0,.int .u64 0,.pointer none,.pointer none] bE) (fun h3=>
 ∃v4,aj h3 (ag h1) 0 (.string v4)∧
 ∃v5,aj h3 (ag h1) 1 (.string v5)∧
 HC PG kK [.string v4,.string v5] [.c (.int .i64)] (fun(e6:Int) h7=>
 CondP (e6 !=(0:Int)) (
 ∃v8,aj h7 (ag h0) 0 (.int .i64 v8)∧
 ∃v9,aj h7 (ag h0) 1 (.int .u64 v9)∧
 ∃v10,aj h7 (ag h0) 2 (.int .u64 v10)∧
 ∃v11,aj h7 (ag h0) 3 (.int .u64 v11)∧
 ∃v12,aj h7 (ag h0) 4 (.pointer v12)∧
 ∃v13,aj h7 (ag h0) 5 (.pointer v13)∧
 (dq h7 (some (ag h2)) 0 [.int .i64 v8,.int .u64 v9,.int .u64 v10,.int .u64 v11,.pointer v12,.pointer v13]∧
 At (aV h7 (ag h2) 0 [.int .i64 v8,.int .u64 v9,.int .u64 v10,.int .u64 v11,.pointer v12,.pointer v13]) (fun h14=>
 ∃v15,aj h14 (ag h2) 0 (.int .i64 v15)∧
 ∃v16,aj h14 (ag h2) 1 (.int .u64 v16)∧
 ∃v17,aj h14 (ag h2) 2 (.int .u64 v17)∧
 ∃v18,aj h14 (ag h2) 3 (.int .u64 v18)∧
 ∃v19,aj h14 (ag h2) 4 (.pointer v19)∧
 ∃v20,aj h14 (ag h2) 5 (.pointer v20)∧
 K ((v15,v16,v17,v18,v19,v20),e6) h14))) (
 ∃v21,aj h7 (ag h0) 0 (.int .i64 v21)∧
 CondP (v21==(1:Int)) (
 ∃v22,aj h7 (ag h0) 5 (.pointer v22)∧
 ∃v23,aj h7 (ag h1) 0 (.string v23)∧
 ∃v24,aj h7 (ag h1) 1 (.string v24)∧
 HC PG wV [.pointer x1,.pointer v22,.agg #[.string v23,.string v24]] [.c .ptr,.c .bool] (fun(e25:(Option Addr)×Bool) h26=>
 (Wr h26 (adr (ag h0) 5)∧
 At (hset h26 (adr (ag h0) 5) (.pointer e25.1)) (fun h27=>
 ∃v28,aj h27 (ag h0) 0 (.int .i64 v28)∧
 ∃v29,aj h27 (ag h0) 1 (.int .u64 v29)∧
 ∃v30,aj h27 (ag h0) 2 (.int .u64 v30)∧
 ∃v31,aj h27 (ag h0) 3 (.int .u64 v31)∧
 ∃v32,aj h27 (ag h0) 4 (.pointer v32)∧
 ∃v33,aj h27 (ag h0) 5 (.pointer v33)∧
 (dq h27 (some (ag h2)) 0 [.int .i64 v28,.int .u64 v29,.int .u64 v30,.int .u64 v31,.pointer v32,.pointer v33]∧
 At (aV h27 (ag h2) 0 [.int .i64 v28,.int .u64 v29,.int .u64 v30,.int .u64 v31,.pointer v32,.pointer v33]) (fun h34=>
 ∃v35,aj h34 (ag h2) 0 (.int .i64 v35)∧
 ∃v36,aj h34 (ag h2) 1 (.int .u64 v36)∧
 ∃v37,aj h34 (ag h2) 2 (.int .u64 v37)∧
 ∃v38,aj h34 (ag h2) 3 (.int .u64 v38)∧
 ∃v39,aj h34 (ag h2) 4 (.pointer v39)∧
 ∃v40,aj h34 (ag h2) 5 (.pointer v40)∧
 K ((v35,v36,v37,v38,v39,v40),0) h34))))) h7) (
 ∃v41,aj h7 (adr (ag h0) 1) 0 (.int .u64 v41)∧
 ∃v42,aj h7 (adr (ag h0) 1) 1 (.int .u64 v42)∧
 ∃v43,aj h7 (adr (ag h0) 1) 2 (.int .u64 v43)∧
 ∃v44,aj h7 (ag h0) 4 (.pointer v44)∧
 ∃v45,aj h7 (ag h1) 0 (.string v45)∧
 ∃v46,aj h7 (ag h1) 1 (.string v46)∧
 HC PG w6 [.agg #[.int .u64 v41,.int .u64 v42,.int .u64 v43],.pointer x1,.pointer v44,.agg #[.string v45,.string v46]] [.c .ptr,.c .bool] (fun(e47:(Option Addr)×Bool) h48=>
 (Wr h48 (adr (ag h0) 4)∧
 At (hset h48 (adr (ag h0) 4) (.pointer e47.1)) (fun h49=>
 ∃v50,aj h49 (ag h0) 0 (.int .i64 v50)∧
 ∃v51,aj h49 (ag h0) 1 (.int .u64 v51)∧
 ∃v52,aj h49 (ag h0) 2 (.int .u64 v52)∧
 ∃v53,aj h49 (ag h0) 3 (.int .u64 v53)∧
 ∃v54,aj h49 (ag h0) 4 (.pointer v54)∧
 ∃v55,aj h49 (ag h0) 5 (.pointer v55)∧
 (dq h49 (some (ag h2)) 0 [.int .i64 v50,.int .u64 v51,.int .u64 v52,.int .u64 v53,.pointer v54,.pointer v55]∧
 At (aV h49 (ag h2) 0 [.int .i64 v50,.int .u64 v51,.int .u64 v52,.int .u64 v53,.pointer v54,.pointer v55]) (fun h56=>
 ∃v57,aj h56 (ag h2) 0 (.int .i64 v57)∧
 ∃v58,aj h56 (ag h2) 1 (.int .u64 v58)∧
 ∃v59,aj h56 (ag h2) 2 (.int .u64 v59)∧
 ∃v60,aj h56 (ag h2) 3 (.int .u64 v60)∧
 ∃v61,aj h56 (ag h2) 4 (.pointer v61)∧
 ∃v62,aj h56 (ag h2) 5 (.pointer v62)∧
 K ((v57,v58,v59,v60,v61,v62),0) h56))))) h7))) h3)))
noncomputable def Cq:Ann:=.nil
theorem Cd(x0:T6)(x1:Option Addr)(x2:ByteArray×ByteArray){K:cJ[.agg[.int .i64,.int .u64,.int .u64,.int .u64,.ptr,.ptr],.c(.int .i64)]→af→Prop}{h0:af}(h:uQ x0 x1 x2 K h0):HC PG qc [.agg #[.int .i64 x0.1,.int .u64 x0.2.1,.int .u64 x0.2.2.1,.int .u64 x0.2.2.2.1,.pointer x0.2.2.2.2.1,.pointer x0.2.2.2.2.2],.pointer x1,.agg #[.string x2.1,.string x2.2]] [.agg [.int .i64,.int .u64,.int .u64,.int .u64,.ptr,.ptr],.c (.int .i64)] K h0:=HC.intro (an:=Cq) (c:=Tryz.f28.body.getD .skip) Tryz.mixed Tryz.func28 rfl Tryz.call28 (ae rfl) (di (by kernel_rfl) h)
def FM(x0:Int×Int×Int×Int×SliceV)(x1:ByteArray×ByteArray)(K:((Int×Int×Int×Int×SliceV)×Int)→af→Prop)(h0:af):Prop:=
 At (hnew h0 [.int .i64 x0.1,.int .u64 x0.2.1,.int .u64 x0.2.2.1,.int .u64 x0.2.2.2.1,.slice x0.2.2.2.2.a x0.2.2.2.2.len x0.2.2.2.2.cap] dH) (fun h1=>
 At (hnew h1 [.string x1.1,.string x1.2] dI) (fun h2=>
 At (hnew h2 [.int .i64 0,.int .u64 0,.int .u64 0,.int .u64 0,.slice none 0 0] dH) (fun h3=>
 ∃v4,aj h3 (ag h1) 0 (.string v4)∧
 ∃v5,aj h3 (ag h1) 1 (.string v5)∧
 HC PG tq [.string v4,.string v5] [.c (.int .i64)] (fun(e6:Int) h7=>
 CondP (e6 !=(0:Int)) (
 ∃v8,aj h7 (ag h0) 0 (.int .i64 v8)∧
 ∃v9,aj h7 (ag h0) 1 (.int .u64 v9)∧
 ∃v10,aj h7 (ag h0) 2 (.int .u64 v10)∧
 ∃v11,aj h7 (ag h0) 3 (.int .u64 v11)∧
 ∃v12:SliceV,aj h7 (ag h0) 4 (.slice v12.a v12.len v12.cap)∧
 (dq h7 (some (ag h2)) 0 [.int .i64 v8,.int .u64 v9,.int .u64 v10,.int .u64 v11,.slice v12.a v12.len v12.cap]∧
 At (aV h7 (ag h2) 0 [.int .i64 v8,.int .u64 v9,.int .u64 v10,.int .u64 v11,.slice v12.a v12.len v12.cap]) (fun h13=>
 ∃v14,aj h13 (ag h2) 0 (.int .i64 v14)∧
 ∃v15,aj h13 (ag h2) 1 (.int .u64 v15)∧
 ∃v16,aj h13 (ag h2) 2 (.int .u64 v16)∧
 ∃v17,aj h13 (ag h2) 3 (.int .u64 v17)∧
 ∃v18:SliceV,aj h13 (ag h2) 4 (.slice v18.a v18.len v18.cap)∧
 K ((v14,v15,v16,v17,v18),e6) h13))) (
 ∃v19:SliceV,aj h7 (ag h0) 4 (.slice v19.a v19.len v19.cap)∧
 ∃v20,aj h7 (ag h1) 0 (.string v20)∧
 ∃v21,aj h7 (ag h1) 1 (.string v21)∧
 HC PG rQ [.slice v19.a v19.len v19.cap,.agg #[.string v20,.string v21]] [.c .slice] (fun(e22:SliceV) h23=>
 (Wr h23 (adr (ag h0) 4)∧
 At (hset h23 (adr (ag h0) 4) (.slice e22.a e22.len e22.cap)) (fun h24=>
 ∃v25,aj h24 (ag h0) 0 (.int .i64 v25)∧
 ∃v26,aj h24 (ag h0) 1 (.int .u64 v26)∧
 ∃v27,aj h24 (ag h0) 2 (.int .u64 v27)∧
 ∃v28,aj h24 (ag h0) 3 (.int .u64 v28)∧
 ∃v29:SliceV,aj h24 (ag h0) 4 (.slice v29.a v29.len v29.cap)∧
 (dq h24 (some (ag h2)) 0 [.int .i64 v25,.int .u64 v26,.int .u64 v27,.int .u64 v28,.slice v29.a v29.len v29.cap]∧
 At (aV h24 (ag h2) 0 [.int .i64 v25,.int .u64 v26,.int .u64 v27,.int .u64 v28,.slice v29.a v29.len v29.cap]) (fun h30=>
 ∃v31,aj h30 (ag h2) 0 (.int .i64 v31)∧
 ∃v32,aj h30 (ag h2) 1 (.int .u64 v32)∧
 ∃v33,aj h30 (ag h2) 2 (.int .u64 v33)∧
 ∃v34,aj h30 (ag h2) 3 (.int .u64 v34)∧
 ∃v35:SliceV,aj h30 (ag h2) 4 (.slice v35.a v35.len v35.cap)∧
 K ((v31,v32,v33,v34,v35),0) h30))))) h7)) h3)))
noncomputable def NH:Ann:=.nil
theorem Nq(x0:Int×Int×Int×Int×SliceV)(x1:ByteArray×ByteArray){K:cJ[.agg[.int .i64,.int .u64,.int .u64,.int .u64,.slice],.c(.int .i64)]→af→Prop}{h0:af}(h:FM x0 x1 K h0):HC PG yU [.agg #[.int .i64 x0.1,.int .u64 x0.2.1,.int .u64 x0.2.2.1,.int .u64 x0.2.2.2.1,.slice x0.2.2.2.2.a x0.2.2.2.2.len x0.2.2.2.2.cap],.agg #[.string x1.1,.string x1.2]] [.agg [.int .i64,.int .u64,.int .u64,.int .u64,.slice],.c (.int .i64)] K h0:=HC.intro (an:=NH) (c:=Tryz.f29.body.getD .skip) Tryz.mixed Tryz.func29 rfl Tryz.call29 (ae rfl) (di (by kernel_rfl) h)
def ry(x0:T6)(x1:Option Addr)(x2:ByteArray)(K:((T6)×Int)→af→Prop)(h0:af):Prop:=
 At (hnew h0 [.int .i64 x0.1,.int .u64 x0.2.1,.int .u64 x0.2.2.1,.int .u64 x0.2.2.2.1,.pointer x0.2.2.2.2.1,.pointer x0.2.2.2.2.2] bE) (fun h1=>
 At (hnew h1 [.int .i64 0,.int .u64 0,.int .u64 0,.int .u64 0,.pointer none,.pointer none] bE) (fun h2=>
 HC PG kK [.string x2,.string (⟨#[]⟩:ByteArray)] [.c (.int .i64)] (fun(e3:Int) h4=>
 CondP (e3 !=(0:Int)) (
 ∃v5,aj h4 (ag h0) 0 (.int .i64 v5)∧
 ∃v6,aj h4 (ag h0) 1 (.int .u64 v6)∧
 ∃v7,aj h4 (ag h0) 2 (.int .u64 v7)∧
 ∃v8,aj h4 (ag h0) 3 (.int .u64 v8)∧
 ∃v9,aj h4 (ag h0) 4 (.pointer v9)∧
 ∃v10,aj h4 (ag h0) 5 (.pointer v10)∧
 (dq h4 (some (ag h1)) 0 [.int .i64 v5,.int .u64 v6,.int .u64 v7,.int .u64 v8,.pointer v9,.pointer v10]∧
 At (aV h4 (ag h1) 0 [.int .i64 v5,.int .u64 v6,.int .u64 v7,.int .u64 v8,.pointer v9,.pointer v10]) (fun h11=>
 ∃v12,aj h11 (ag h1) 0 (.int .i64 v12)∧
 ∃v13,aj h11 (ag h1) 1 (.int .u64 v13)∧
 ∃v14,aj h11 (ag h1) 2 (.int .u64 v14)∧
 ∃v15,aj h11 (ag h1) 3 (.int .u64 v15)∧
 ∃v16,aj h11 (ag h1) 4 (.pointer v16)∧
 ∃v17,aj h11 (ag h1) 5 (.pointer v17)∧
 K ((v12,v13,v14,v15,v16,v17),e3) h11))) (
 ∃v18,aj h4 (ag h0) 0 (.int .i64 v18)∧
 ∃v19,aj h4 (ag h0) 1 (.int .u64 v19)∧
 ∃v20,aj h4 (ag h0) 2 (.int .u64 v20)∧
 ∃v21,aj h4 (ag h0) 3 (.int .u64 v21)∧
 ∃v22,aj h4 (ag h0) 4 (.pointer v22)∧
 ∃v23,aj h4 (ag h0) 5 (.pointer v23)∧
 At (hnew h4 [.int .i64 0,.int .u64 0,.int .u64 0,.int .u64 0,.pointer none,.pointer none] bE) (fun h24=>
 (dq h24 (some (ag h4)) 0 [.int .i64 v18,.int .u64 v19,.int .u64 v20,.int .u64 v21,.pointer v22,.pointer v23]∧
 At (aV h24 (ag h4) 0 [.int .i64 v18,.int .u64 v19,.int .u64 v20,.int .u64 v21,.pointer v22,.pointer v23]) (fun h25=>
 Join (fun(t39:Bool) h40=>
 CondP (!t39) (
 ∃v41,aj h40 (ag h4) 0 (.int .i64 v41)∧
 ∃v42,aj h40 (ag h4) 1 (.int .u64 v42)∧
 ∃v43,aj h40 (ag h4) 2 (.int .u64 v43)∧
 ∃v44,aj h40 (ag h4) 3 (.int .u64 v44)∧
 ∃v45,aj h40 (ag h4) 4 (.pointer v45)∧
 ∃v46,aj h40 (ag h4) 5 (.pointer v46)∧
 (dq h40 (some (ag h1)) 0 [.int .i64 v41,.int .u64 v42,.int .u64 v43,.int .u64 v44,.pointer v45,.pointer v46]∧
 At (aV h40 (ag h1) 0 [.int .i64 v41,.int .u64 v42,.int .u64 v43,.int .u64 v44,.pointer v45,.pointer v46]) (fun h47=>
 ∃v48,aj h47 (ag h1) 0 (.int .i64 v48)∧
 ∃v49,aj h47 (ag h1) 1 (.int .u64 v49)∧
 ∃v50,aj h47 (ag h1) 2 (.int .u64 v50)∧
 ∃v51,aj h47 (ag h1) 3 (.int .u64 v51)∧
 ∃v52,aj h47 (ag h1) 4 (.pointer v52)∧
 ∃v53,aj h47 (ag h1) 5 (.pointer v53)∧
 K ((v48,v49,v50,v51,v52,v53),4) h47))) (
 ∃v54,aj h40 (ag h0) 0 (.int .i64 v54)∧
 ∃v55,aj h40 (ag h0) 1 (.int .u64 v55)∧
 ∃v56,aj h40 (ag h0) 2 (.int .u64 v56)∧
 ∃v57,aj h40 (ag h0) 3 (.int .u64 v57)∧
 ∃v58,aj h40 (ag h0) 4 (.pointer v58)∧
 ∃v59,aj h40 (ag h0) 5 (.pointer v59)∧
 (dq h40 (some (ag h1)) 0 [.int .i64 v54,.int .u64 v55,.int .u64 v56,.int .u64 v57,.pointer v58,.pointer v59]∧
 At (aV h40 (ag h1) 0 [.int .i64 v54,.int .u64 v55,.int .u64 v56,.int .u64 v57,.pointer v58,.pointer v59]) (fun h60=>
 ∃v61,aj h60 (ag h1) 0 (.int .i64 v61)∧
 ∃v62,aj h60 (ag h1) 1 (.int .u64 v62)∧
 ∃v63,aj h60 (ag h1) 2 (.int .u64 v63)∧
 ∃v64,aj h60 (ag h1) 3 (.int .u64 v64)∧
 ∃v65,aj h60 (ag h1) 4 (.pointer v65)∧
 ∃v66,aj h60 (ag h1) 5 (.pointer v66)∧
 K ((v61,v62,v63,v64,v65,v66),0) h60)))) (fun J26=>
 ∃v27,aj h25 (ag h0) 0 (.int .i64 v27)∧
 CondP (v27==(1:Int)) (
 ∃v28,aj h25 (ag h0) 5 (.pointer v28)∧
 HC PG vz [.pointer x1,.pointer v28,.string x2] [.c .ptr,.c .bool] (fun(e29:(Option Addr)×Bool) h30=>
 (Wr h30 (adr (ag h0) 5)∧
 At (hset h30 (adr (ag h0) 5) (.pointer e29.1)) (fun h31=>
 J26 e29.2 h31))) h25) (
 ∃v32,aj h25 (adr (ag h0) 1) 0 (.int .u64 v32)∧
 ∃v33,aj h25 (adr (ag h0) 1) 1 (.int .u64 v33)∧
 ∃v34,aj h25 (adr (ag h0) 1) 2 (.int .u64 v34)∧
 ∃v35,aj h25 (ag h0) 4 (.pointer v35)∧
 HC PG vE [.agg #[.int .u64 v32,.int .u64 v33,.int .u64 v34],.pointer x1,.pointer v35,.string x2] [.c .ptr,.c .bool] (fun(e36:(Option Addr)×Bool) h37=>
 (Wr h37 (adr (ag h0) 4)∧
 At (hset h37 (adr (ag h0) 4) (.pointer e36.1)) (fun h38=>
 J26 e36.2 h38))) h25))))))) h2))
noncomputable def xQ:Ann:=.node .nil (.node .nil (.node .nil (.join [(10,.c .bool)] .nil .nil)))
theorem xL(x0:T6)(x1:Option Addr)(x2:ByteArray){K:cJ[.agg[.int .i64,.int .u64,.int .u64,.int .u64,.ptr,.ptr],.c(.int .i64)]→af→Prop}{h0:af}(h:ry x0 x1 x2 K h0):HC PG np [.agg #[.int .i64 x0.1,.int .u64 x0.2.1,.int .u64 x0.2.2.1,.int .u64 x0.2.2.2.1,.pointer x0.2.2.2.2.1,.pointer x0.2.2.2.2.2],.pointer x1,.string x2] [.agg [.int .i64,.int .u64,.int .u64,.int .u64,.ptr,.ptr],.c (.int .i64)] K h0:=HC.intro (an:=xQ) (c:=Tryz.f30.body.getD .skip) Tryz.mixed Tryz.func30 rfl Tryz.call30 (ae rfl) (di (by kernel_rfl) h)
def yk(x0:Int×Int×Int×Int×SliceV)(x1:ByteArray)(K:((Int×Int×Int×Int×SliceV)×Int)→af→Prop)(h0:af):Prop:=
 At (hnew h0 [.int .i64 x0.1,.int .u64 x0.2.1,.int .u64 x0.2.2.1,.int .u64 x0.2.2.2.1,.slice x0.2.2.2.2.a x0.2.2.2.2.len x0.2.2.2.2.cap] dH) (fun h1=>
 At (hnew h1 [.int .i64 0,.int .u64 0,.int .u64 0,.int .u64 0,.slice none 0 0] dH) (fun h2=>
 CondP (decide ((x1.size:Int)>(256:Int))) (
 ∃v3,aj h2 (ag h0) 0 (.int .i64 v3)∧
 ∃v4,aj h2 (ag h0) 1 (.int .u64 v4)∧
 ∃v5,aj h2 (ag h0) 2 (.int .u64 v5)∧
 ∃v6,aj h2 (ag h0) 3 (.int .u64 v6)∧
 ∃v7:SliceV,aj h2 (ag h0) 4 (.slice v7.a v7.len v7.cap)∧
 (dq h2 (some (ag h1)) 0 [.int .i64 v3,.int .u64 v4,.int .u64 v5,.int .u64 v6,.slice v7.a v7.len v7.cap]∧
 At (aV h2 (ag h1) 0 [.int .i64 v3,.int .u64 v4,.int .u64 v5,.int .u64 v6,.slice v7.a v7.len v7.cap]) (fun h8=>
 ∃v9,aj h8 (ag h1) 0 (.int .i64 v9)∧
 ∃v10,aj h8 (ag h1) 1 (.int .u64 v10)∧
 ∃v11,aj h8 (ag h1) 2 (.int .u64 v11)∧
 ∃v12,aj h8 (ag h1) 3 (.int .u64 v12)∧
 ∃v13:SliceV,aj h8 (ag h1) 4 (.slice v13.a v13.len v13.cap)∧
 K ((v9,v10,v11,v12,v13),2) h8))) (
 ∃v14:SliceV,aj h2 (ag h0) 4 (.slice v14.a v14.len v14.cap)∧
 HC PG B0 [.slice v14.a v14.len v14.cap,.string x1] [.c .str,.c .bool] (fun(e15:ByteArray×Bool) h16=>
 CondP (!e15.2) (
 ∃v17,aj h16 (ag h0) 0 (.int .i64 v17)∧
 ∃v18,aj h16 (ag h0) 1 (.int .u64 v18)∧
 ∃v19,aj h16 (ag h0) 2 (.int .u64 v19)∧
 ∃v20,aj h16 (ag h0) 3 (.int .u64 v20)∧
 ∃v21:SliceV,aj h16 (ag h0) 4 (.slice v21.a v21.len v21.cap)∧
 (dq h16 (some (ag h1)) 0 [.int .i64 v17,.int .u64 v18,.int .u64 v19,.int .u64 v20,.slice v21.a v21.len v21.cap]∧
 At (aV h16 (ag h1) 0 [.int .i64 v17,.int .u64 v18,.int .u64 v19,.int .u64 v20,.slice v21.a v21.len v21.cap]) (fun h22=>
 ∃v23,aj h22 (ag h1) 0 (.int .i64 v23)∧
 ∃v24,aj h22 (ag h1) 1 (.int .u64 v24)∧
 ∃v25,aj h22 (ag h1) 2 (.int .u64 v25)∧
 ∃v26,aj h22 (ag h1) 3 (.int .u64 v26)∧
 ∃v27:SliceV,aj h22 (ag h1) 4 (.slice v27.a v27.len v27.cap)∧
 K ((v23,v24,v25,v26,v27),4) h22))) (
 ∃v28:SliceV,aj h16 (ag h0) 4 (.slice v28.a v28.len v28.cap)∧
 HC PG vB [.slice v28.a v28.len v28.cap,.string x1] [.c .slice] (fun(e29:SliceV) h30=>
 (Wr h30 (adr (ag h0) 4)∧
 At (hset h30 (adr (ag h0) 4) (.slice e29.a e29.len e29.cap)) (fun h31=>
 ∃v32,aj h31 (ag h0) 0 (.int .i64 v32)∧
 ∃v33,aj h31 (ag h0) 1 (.int .u64 v33)∧
 ∃v34,aj h31 (ag h0) 2 (.int .u64 v34)∧
 ∃v35,aj h31 (ag h0) 3 (.int .u64 v35)∧
 ∃v36:SliceV,aj h31 (ag h0) 4 (.slice v36.a v36.len v36.cap)∧
 (dq h31 (some (ag h1)) 0 [.int .i64 v32,.int .u64 v33,.int .u64 v34,.int .u64 v35,.slice v36.a v36.len v36.cap]∧
 At (aV h31 (ag h1) 0 [.int .i64 v32,.int .u64 v33,.int .u64 v34,.int .u64 v35,.slice v36.a v36.len v36.cap]) (fun h37=>
 ∃v38,aj h37 (ag h1) 0 (.int .i64 v38)∧
 ∃v39,aj h37 (ag h1) 1 (.int .u64 v39)∧
 ∃v40,aj h37 (ag h1) 2 (.int .u64 v40)∧
 ∃v41,aj h37 (ag h1) 3 (.int .u64 v41)∧
 ∃v42:SliceV,aj h37 (ag h1) 4 (.slice v42.a v42.len v42.cap)∧
 K ((v38,v39,v40,v41,v42),0) h37))))) h16)) h2)))
noncomputable def GJ:Ann:=.nil
theorem Gu(x0:Int×Int×Int×Int×SliceV)(x1:ByteArray){K:cJ[.agg[.int .i64,.int .u64,.int .u64,.int .u64,.slice],.c(.int .i64)]→af→Prop}{h0:af}(h:yk x0 x1 K h0):HC PG ug [.agg #[.int .i64 x0.1,.int .u64 x0.2.1,.int .u64 x0.2.2.1,.int .u64 x0.2.2.2.1,.slice x0.2.2.2.2.a x0.2.2.2.2.len x0.2.2.2.2.cap],.string x1] [.agg [.int .i64,.int .u64,.int .u64,.int .u64,.slice],.c (.int .i64)] K h0:=HC.intro (an:=GJ) (c:=Tryz.f31.body.getD .skip) Tryz.mixed Tryz.func31 rfl Tryz.call31 (ae rfl) (di (by kernel_rfl) h)
def Dl(x0:T6)(x1:T6)(K:(Bool)→af→Prop)(h0:af):Prop:=
 At (hnew h0 [.int .i64 x0.1,.int .u64 x0.2.1,.int .u64 x0.2.2.1,.int .u64 x0.2.2.2.1,.pointer x0.2.2.2.2.1,.pointer x0.2.2.2.2.2] bE) (fun h1=>
 At (hnew h1 [.int .i64 x1.1,.int .u64 x1.2.1,.int .u64 x1.2.2.1,.int .u64 x1.2.2.2.1,.pointer x1.2.2.2.2.1,.pointer x1.2.2.2.2.2] bE) (fun h2=>
 ∃v3,aj h2 (ag h0) 0 (.int .i64 v3)∧
 ∃v4,aj h2 (ag h1) 0 (.int .i64 v4)∧
 CondP (v3==v4) (
 ∃v5,aj h2 (adr (ag h0) 1) 0 (.int .u64 v5)∧
 ∃v6,aj h2 (adr (ag h0) 1) 1 (.int .u64 v6)∧
 ∃v7,aj h2 (adr (ag h0) 1) 2 (.int .u64 v7)∧
 ∃v8,aj h2 (adr (ag h1) 1) 0 (.int .u64 v8)∧
 ∃v9,aj h2 (adr (ag h1) 1) 1 (.int .u64 v9)∧
 ∃v10,aj h2 (adr (ag h1) 1) 2 (.int .u64 v10)∧
 K ((((v5==v8)&&((v6==v9)&&true)))&&((v7==v10)&&true)) h2) (
 K false h2)))
noncomputable def Ly:Ann:=.nil
theorem Lk(x0:T6)(x1:T6){K:cJ[.c .bool]→af→Prop}{h0:af}(h:Dl x0 x1 K h0):HC PG wU [.agg #[.int .i64 x0.1,.int .u64 x0.2.1,.int .u64 x0.2.2.1,.int .u64 x0.2.2.2.1,.pointer x0.2.2.2.2.1,.pointer x0.2.2.2.2.2],.agg #[.int .i64 x1.1,.int .u64 x1.2.1,.int .u64 x1.2.2.1,.int .u64 x1.2.2.2.1,.pointer x1.2.2.2.2.1,.pointer x1.2.2.2.2.2]] [.c .bool] K h0:=HC.intro (an:=Ly) (c:=Tryz.f32.body.getD .skip) Tryz.mixed Tryz.func32 rfl Tryz.call32 (ae rfl) (di (by kernel_rfl) h)
def sE(x0:T6)(K:(Int×Int×Int)→af→Prop)(h0:af):Prop:=
 At (hnew h0 [.int .i64 x0.1,.int .u64 x0.2.1,.int .u64 x0.2.2.1,.int .u64 x0.2.2.2.1,.pointer x0.2.2.2.2.1,.pointer x0.2.2.2.2.2] bE) (fun h1=>
 At (hnew h1 [.int .u64 0,.int .u64 0,.int .u64 0] ct) (fun h2=>
 ∃v3,aj h2 (adr (ag h0) 1) 0 (.int .u64 v3)∧
 ∃v4,aj h2 (adr (ag h0) 1) 1 (.int .u64 v4)∧
 ∃v5,aj h2 (adr (ag h0) 1) 2 (.int .u64 v5)∧
 (dq h2 (some (ag h1)) 0 [.int .u64 v3,.int .u64 v4,.int .u64 v5]∧
 At (aV h2 (ag h1) 0 [.int .u64 v3,.int .u64 v4,.int .u64 v5]) (fun h6=>
 ∃v7,aj h6 (ag h1) 0 (.int .u64 v7)∧
 ∃v8,aj h6 (ag h1) 1 (.int .u64 v8)∧
 ∃v9,aj h6 (ag h1) 2 (.int .u64 v9)∧
 K (v7,v8,v9) h6))))
noncomputable def zl:Ann:=.nil
theorem y7(x0:T6){K:cJ[.agg[.int .u64,.int .u64,.int .u64]]→af→Prop}{h0:af}(h:sE x0 K h0):HC PG oB [.agg #[.int .i64 x0.1,.int .u64 x0.2.1,.int .u64 x0.2.2.1,.int .u64 x0.2.2.2.1,.pointer x0.2.2.2.2.1,.pointer x0.2.2.2.2.2]] [.agg [.int .u64,.int .u64,.int .u64]] K h0:=HC.intro (an:=zl) (c:=Tryz.f33.body.getD .skip) Tryz.mixed Tryz.func33 rfl Tryz.call33 (ae rfl) (di (by kernel_rfl) h)
def uR(x0:T6)(K:(Int)→af→Prop)(h0:af):Prop:=
 At (hnew h0 [.int .i64 x0.1,.int .u64 x0.2.1,.int .u64 x0.2.2.1,.int .u64 x0.2.2.2.1,.pointer x0.2.2.2.2.1,.pointer x0.2.2.2.2.2] bE) (fun h1=>
 ∃v2,aj h1 (ag h0) 0 (.int .i64 v2)∧
 K v2 h1)
noncomputable def Cr:Ann:=.nil
theorem Ce(x0:T6){K:cJ[.c(.int .i64)]→af→Prop}{h0:af}(h:uR x0 K h0):HC PG qd [.agg #[.int .i64 x0.1,.int .u64 x0.2.1,.int .u64 x0.2.2.1,.int .u64 x0.2.2.2.1,.pointer x0.2.2.2.2.1,.pointer x0.2.2.2.2.2]] [.c (.int .i64)] K h0:=HC.intro (an:=Cr) (c:=Tryz.f34.body.getD .skip) Tryz.mixed Tryz.func34 rfl Tryz.call34 (ae rfl) (di (by kernel_rfl) h)
def qm(x0:Option Addr)(x1:Option Addr)(x2:Option Addr)(x3:ByteArray)(K:(Unit)→af→Prop)(h0:af):Prop:=
 (True∧(∀x y:Addr,x1=some x→x2=some y→fI h0 x∧fI h0 y)∧
 CondP (x1==x2) (
 K () h0) (
 Join (fun(t6:Bool) h7=>
 CondP t6 (
 HC PG jE [.pointer x1,.string x3] [.c .slice] (fun(e8:SliceV) h9=>
 HC PG jE [.pointer x2,.string x3] [.c .slice] (fun(e10:SliceV) h11=>
 HC PG gX [.pointer x0,.slice e8.a e8.len e8.cap,.slice e10.a e10.len e10.cap] [] (fun(e12:Unit) h13=>
 K () h13) h11) h9) h7) (
 HC PG dJ [.pointer x1] [.c .str] (fun(e14:ByteArray) h15=>
 (((x3.size+e14.size:Nat):Int)≤9223372036854775807∧
 HC PG vC [.pointer x1,.string (x3++e14)] [.c .slice] (fun(e16:SliceV) h17=>
 HC PG vC [.pointer x2,.string (x3++e14)] [.c .slice] (fun(e18:SliceV) h19=>
 HC PG gX [.pointer x0,.slice e16.a e16.len e16.cap,.slice e18.a e18.len e18.cap] [] (fun(e20:Unit) h21=>
 HC PG jB [.pointer x1] [.c .slice] (fun(e22:SliceV) h23=>
 HC PG jB [.pointer x2] [.c .slice] (fun(e24:SliceV) h25=>
 LoopP (fun I26 (t27:SliceV×SliceV) h28=>
 Join (fun(t30:Bool) h31=>
 CondP t30 (
 Join (fun(t43:Bool) h44=>
 CondP t43 (
 (bP 0 t27.1.len∧∃a45,t27.1.a=some a45∧
 ∃v46,aj h44 a45 ((0:Int).toNat*1) (.pointer v46)∧
 HC PG gV [.pointer x0,.pointer v46,.pointer none,.string (x3++e14)] [] (fun(e47:Unit) h48=>
 (((0:Int)≤(1:Int)∧(1:Int)≤((t27.1.len:Nat):Int))∧
 Bd (aP t27.1.a ((1:Int).toNat) t27.1.cap 1:Option Addr) (fun a49=>Bd (t27.1.len-((1:Int).toNat):Nat) (fun n50=>Bd (t27.1.cap-((1:Int).toNat):Nat) (fun n51=>
 I26 (⟨a49,n50,n51⟩,t27.2) h48))))) h44)) (
 Join (fun(t63:Bool) h64=>
 CondP t63 (
 (bP 0 t27.2.len∧∃a65,t27.2.a=some a65∧
 ∃v66,aj h64 a65 ((0:Int).toNat*1) (.pointer v66)∧
 HC PG gV [.pointer x0,.pointer none,.pointer v66,.string (x3++e14)] [] (fun(e67:Unit) h68=>
 (((0:Int)≤(1:Int)∧(1:Int)≤((t27.2.len:Nat):Int))∧
 Bd (aP t27.2.a ((1:Int).toNat) t27.2.cap 1:Option Addr) (fun a69=>Bd (t27.2.len-((1:Int).toNat):Nat) (fun n70=>Bd (t27.2.cap-((1:Int).toNat):Nat) (fun n71=>
 I26 (t27.1,⟨a69,n70,n71⟩) h68))))) h64)) (
 (bP 0 t27.1.len∧∃a72,t27.1.a=some a72∧
 ∃v73,aj h64 a72 ((0:Int).toNat*1) (.pointer v73)∧
 (bP 0 t27.2.len∧∃a74,t27.2.a=some a74∧
 ∃v75,aj h64 a74 ((0:Int).toNat*1) (.pointer v75)∧
 HC PG gV [.pointer x0,.pointer v73,.pointer v75,.string (x3++e14)] [] (fun(e76:Unit) h77=>
 (((0:Int)≤(1:Int)∧(1:Int)≤((t27.1.len:Nat):Int))∧
 Bd (aP t27.1.a ((1:Int).toNat) t27.1.cap 1:Option Addr) (fun a78=>Bd (t27.1.len-((1:Int).toNat):Nat) (fun n79=>Bd (t27.1.cap-((1:Int).toNat):Nat) (fun n80=>
 (((0:Int)≤(1:Int)∧(1:Int)≤((t27.2.len:Nat):Int))∧
 Bd (aP t27.2.a ((1:Int).toNat) t27.2.cap 1:Option Addr) (fun a81=>Bd (t27.2.len-((1:Int).toNat):Nat) (fun n82=>Bd (t27.2.cap-((1:Int).toNat):Nat) (fun n83=>
 I26 (⟨a78,n79,n80⟩,⟨a81,n82,n83⟩) h77))))))))) h64)))) (fun J52=>
 CondP ((t27.1.len:Int)==(0:Int)) (
 J52 true h44) (
 (bP 0 t27.2.len∧∃a53,t27.2.a=some a53∧
 ∃v54,aj h44 a53 ((0:Int).toNat*1) (.pointer v54)∧
 (bP 0 t27.1.len∧∃a55,t27.1.a=some a55∧
 ∃v56,aj h44 a55 ((0:Int).toNat*1) (.pointer v56)∧
 HC PG dJ [.pointer v54] [.c .str] (fun(e57:ByteArray) h58=>
 (aj h58 a55 ((0:Int).toNat*1) (.pointer v56)∧
 ∃b59,(0:Int)≤(0:Int)∧e57[(0:Int).toNat]?=some b59∧
 HC PG dJ [.pointer v56] [.c .str] (fun(e60:ByteArray) h61=>
 ∃b62,(0:Int)≤(0:Int)∧e60[(0:Int).toNat]?=some b62∧
 J52 (decide ((b59.toNat:Int)<(b62.toNat:Int))) h61) h58)) h44)))))) (fun J32=>
 CondP ((t27.2.len:Int)==(0:Int)) (
 J32 true h31) (
 CondP (decide ((t27.1.len:Int)>(0:Int))) (
 (bP 0 t27.1.len∧∃a33,t27.1.a=some a33∧
 ∃v34,aj h31 a33 ((0:Int).toNat*1) (.pointer v34)∧
 (bP 0 t27.2.len∧∃a35,t27.2.a=some a35∧
 ∃v36,aj h31 a35 ((0:Int).toNat*1) (.pointer v36)∧
 HC PG dJ [.pointer v34] [.c .str] (fun(e37:ByteArray) h38=>
 (aj h38 a35 ((0:Int).toNat*1) (.pointer v36)∧
 ∃b39,(0:Int)≤(0:Int)∧e37[(0:Int).toNat]?=some b39∧
 HC PG dJ [.pointer v36] [.c .str] (fun(e40:ByteArray) h41=>
 ∃b42,(0:Int)≤(0:Int)∧e40[(0:Int).toNat]?=some b42∧
 J32 (decide ((b39.toNat:Int)<(b42.toNat:Int))) h41) h38)) h31))) (
 J32 false h31)))) (
 K () h31)) (fun J29=>
 CondP (decide ((t27.1.len:Int)>(0:Int))) (
 J29 true h28) (
 J29 (decide ((t27.2.len:Int)>(0:Int))) h28))) (e22,e24) h25) h23) h21) h19) h17) h15)) h7)) (fun J1=>
 CondP x1.isNone (
 J1 true h0) (
 CondP x2.isNone (
 J1 true h0) (
 HC PG dJ [.pointer x1] [.c .str] (fun(e2:ByteArray) h3=>
 HC PG dJ [.pointer x2] [.c .str] (fun(e4:ByteArray) h5=>
 J1 (!(e2.toList==e4.toList)) h5) h3) h0)))))
noncomputable def CB:Ann:=.node (.node .nil (.node .nil (.join [(15,.c .bool)] .nil .nil))) (.node .nil (.node .nil (.node .nil (.loop [(9,.c .slice),(10,.c .slice)] (.node (.join [(60,.c .bool)] .nil .nil) (.join [(74,.c .bool)] .nil (.node .nil (.join [(104,.c .bool)] .nil .nil))))))))
theorem uO(x0:Option Addr)(x1:Option Addr)(x2:Option Addr)(x3:ByteArray){K:cJ[]→af→Prop}{h0:af}(h:qm x0 x1 x2 x3 K h0):HC PG gV [.pointer x0,.pointer x1,.pointer x2,.string x3] [] K h0:=HC.intro (an:=CB) (c:=Tryz.f35.body.getD .skip) Tryz.mixed Tryz.func35 rfl Tryz.call35 (ae rfl) (di (by kernel_rfl) h)
def tG(x0:T6)(K:(Option Addr)→af→Prop)(h0:af):Prop:=
 At (hnew h0 [.int .i64 x0.1,.int .u64 x0.2.1,.int .u64 x0.2.2.1,.int .u64 x0.2.2.2.1,.pointer x0.2.2.2.2.1,.pointer x0.2.2.2.2.2] bE) (fun h1=>
 ∃v2,aj h1 (ag h0) 5 (.pointer v2)∧
 K v2 h1)
noncomputable def Ba:Ann:=.nil
theorem AC(x0:T6){K:cJ[.c .ptr]→af→Prop}{h0:af}(h:tG x0 K h0):HC PG lV [.agg #[.int .i64 x0.1,.int .u64 x0.2.1,.int .u64 x0.2.2.1,.int .u64 x0.2.2.2.1,.pointer x0.2.2.2.2.1,.pointer x0.2.2.2.2.2]] [.c .ptr] K h0:=HC.intro (an:=Ba) (c:=Tryz.f36.body.getD .skip) Tryz.mixed Tryz.func36 rfl Tryz.call36 (ae rfl) (di (by kernel_rfl) h)
def ql(x0:Option Addr)(x1:Option Addr)(x2:Option Addr)(K:(Unit)→af→Prop)(h0:af):Prop:=
 (True∧(∀x y:Addr,x1=some x→x2=some y→fI h0 x∧fI h0 y)∧
 CondP (x1==x2) (
 K () h0) (
 HC PG eY [.pointer x1] [.c .bool] (fun(e1:Bool) h2=>
 CondP e1 (
 HC PG gh [.pointer x1] [.c .slice] (fun(e3:SliceV) h4=>
 HC PG gh [.pointer x2] [.c .slice] (fun(e5:SliceV) h6=>
 HC PG gX [.pointer x0,.slice e3.a e3.len e3.cap,.slice e5.a e5.len e5.cap] [] (fun(e7:Unit) h8=>
 K () h8) h6) h4) h2) (
 LoopP (fun I9 (t10:Int) h11=>
 CondP (decide (t10<(32:Int))) (
 Join (fun(t28:Unit) h29=>
 I9 (ac .i64 (t10+1)) h29) (fun J12=>
 HC PG iv [.pointer x1,.int .i64 t10] [.c .ptr,.c .bool] (fun(e13:(Option Addr)×Bool) h14=>
 HC PG iv [.pointer x2,.int .i64 t10] [.c .ptr,.c .bool] (fun(e15:(Option Addr)×Bool) h16=>
 Join (fun(t18:Bool) h19=>
 CondP t18 (
 HC PG mR [.pointer x0,.pointer e13.1,.pointer e15.1] [] (fun(e20:Unit) h21=>
 J12 () h21) h19) (
 HC PG tu [.pointer x1,.int .i64 t10] [.c .slice] (fun(e22:SliceV) h23=>
 HC PG tu [.pointer x2,.int .i64 t10] [.c .slice] (fun(e24:SliceV) h25=>
 HC PG gX [.pointer x0,.slice e22.a e22.len e22.cap,.slice e24.a e24.len e24.cap] [] (fun(e26:Unit) h27=>
 J12 () h27) h25) h23) h19)) (fun J17=>
 CondP e13.2 (
 J17 e15.2 h16) (
 J17 false h16))) h14) h11)) (
 K () h11)) 0 h2)) h0))
noncomputable def CA:Ann:=.node .nil (.node .nil (.node .nil (.loop [(22,.c (.int .i64))] (.node .nil (.node .nil (.join [] (.node .nil (.node .nil (.node .nil (.node (.join [(40,.c .bool)] .nil .nil) .nil)))) .nil))))))
theorem uN(x0:Option Addr)(x1:Option Addr)(x2:Option Addr){K:cJ[]→af→Prop}{h0:af}(h:ql x0 x1 x2 K h0):HC PG mR [.pointer x0,.pointer x1,.pointer x2] [] K h0:=HC.intro (an:=CA) (c:=Tryz.f37.body.getD .skip) Tryz.mixed Tryz.func37 rfl Tryz.call37 (ae rfl) (di (by kernel_rfl) h)
def tH(x0:T6)(K:(Option Addr)→af→Prop)(h0:af):Prop:=
 At (hnew h0 [.int .i64 x0.1,.int .u64 x0.2.1,.int .u64 x0.2.2.1,.int .u64 x0.2.2.2.1,.pointer x0.2.2.2.2.1,.pointer x0.2.2.2.2.2] bE) (fun h1=>
 Join (fun(t5:Bool) h6=>
 CondP t5 (
 HC PG nQ [] [.c .ptr] (fun(e7:Option Addr) h8=>
 K e7 h8) h6) (
 ∃v9,aj h6 (ag h0) 4 (.pointer v9)∧
 K v9 h6)) (fun J2=>
 ∃v3,aj h1 (ag h0) 0 (.int .i64 v3)∧
 CondP (v3==(0:Int)) (
 ∃v4,aj h1 (ag h0) 4 (.pointer v4)∧
 J2 v4.isNone h1) (
 J2 false h1)))
noncomputable def Bb:Ann:=.node .nil (.node (.join [(10,.c .bool)] .nil .nil) .nil)
theorem AD(x0:T6){K:cJ[.c .ptr]→af→Prop}{h0:af}(h:tH x0 K h0):HC PG lW [.agg #[.int .i64 x0.1,.int .u64 x0.2.1,.int .u64 x0.2.2.1,.int .u64 x0.2.2.2.1,.pointer x0.2.2.2.2.1,.pointer x0.2.2.2.2.2]] [.c .ptr] K h0:=HC.intro (an:=Bb) (c:=Tryz.f38.body.getD .skip) Tryz.mixed Tryz.func38 rfl Tryz.call38 (ae rfl) (di (by kernel_rfl) h)
def d9(x0:SliceV)(x1:Value)(K:(Unit)→af→Prop)(h0:af):Prop:=
 HC PG om [.int .u64 (ac .u64 (x0.len:Int))] [.c (.int .i64)] (fun(e1:Int) h2=>
 HC PG cW [.slice x0.a x0.len x0.cap,.int .i64 0,.int .i64 (x0.len:Int),.int .i64 e1,x1] [] (fun(e3:Unit) h4=>
 K () h4) h2) h0
noncomputable def km:Ann:=.nil
theorem gc(x0:SliceV)(x1:Value){K:cJ[]→af→Prop}{h0:af}(h:d9 x0 x1 K h0):HC PG cq [.slice x0.a x0.len x0.cap,x1] [] K h0:=HC.intro (an:=km) (c:=Tryz.f39.body.getD .skip) Tryz.mixed Tryz.func39 rfl Tryz.call39 (ae rfl) (di (by kernel_rfl) h)
def Dx(x0:ByteArray×ByteArray×ByteArray×Bool×Bool)(x1:ByteArray×ByteArray×ByteArray×Bool×Bool)(K:(Int)→af→Prop)(h0:af):Prop:=
 At (hnew h0 [.string x0.1,.string x0.2.1,.string x0.2.2.1,.bool x0.2.2.2.1,.bool x0.2.2.2.2] aM) (fun h1=>
 At (hnew h1 [.string x1.1,.string x1.2.1,.string x1.2.2.1,.bool x1.2.2.2.1,.bool x1.2.2.2.2] aM) (fun h2=>
 ∃v3,aj h2 (ag h0) 0 (.string v3)∧
 ∃v4,aj h2 (ag h1) 0 (.string v4)∧
 HC PG l3 [.string v3,.string v4] [.c (.int .i64)] (fun(e5:Int) h6=>
 K e5 h6) h2))
noncomputable def LK:Ann:=.nil
theorem Lv(x0:ByteArray×ByteArray×ByteArray×Bool×Bool)(x1:ByteArray×ByteArray×ByteArray×Bool×Bool){K:cJ[.c(.int .i64)]→af→Prop}{h0:af}(h:Dx x0 x1 K h0):HC PG my [.agg #[.string x0.1,.string x0.2.1,.string x0.2.2.1,.bool x0.2.2.2.1,.bool x0.2.2.2.2],.agg #[.string x1.1,.string x1.2.1,.string x1.2.2.1,.bool x1.2.2.2.1,.bool x1.2.2.2.2]] [.c (.int .i64)] K h0:=HC.intro (an:=LK) (c:=Tryz.f40.body.getD .skip) Tryz.mixed Tryz.func40 rfl Tryz.call40 (ae rfl) (di (by kernel_rfl) h)
def tU(x0:ByteArray)(x1:ByteArray)(K:(Int)→af→Prop)(h0:af):Prop:=
 HC PG oo [.string x0] [.c .bool] (fun(e1:Bool) h2=>
 HC PG oo [.string x1] [.c .bool] (fun(e3:Bool) h4=>
 CondP e1 (
 CondP e3 (
 K 0 h4) (
 K (-1) h4)) (
 CondP e3 (
 K 1 h4) (
 CondP (Op.bytesLess x0.toList x1.toList) (
 K (-1) h4) (
 CondP (!(Op.bytesLess x0.toList x1.toList||x0.toList==x1.toList)) (
 K 1 h4) (
 K 0 h4))))) h2) h0
noncomputable def Bq:Ann:=.nil
theorem AP(x0:ByteArray)(x1:ByteArray){K:cJ[.c(.int .i64)]→af→Prop}{h0:af}(h:tU x0 x1 K h0):HC PG l3 [.string x0,.string x1] [.c (.int .i64)] K h0:=HC.intro (an:=Bq) (c:=Tryz.f41.body.getD .skip) Tryz.mixed Tryz.func41 rfl Tryz.call41 (ae rfl) (di (by kernel_rfl) h)
def A4(x0:SliceV)(K:(Int)→af→Prop)(h0:af):Prop:=
 LoopP (fun I1 (t2:Int) h3=>
 CondP (decide (t2<(x0.len:Int))) (
 (bP (ac .i64 (t2-1)) x0.len∧∃a4,x0.a=some a4∧
 ∃v5,aj h3 (adr a4 ((ac .i64 (t2-1)).toNat*5)) 0 (.string v5)∧
 (bP t2 x0.len∧∃a6,x0.a=some a6∧
 ∃v7,aj h3 (adr a6 (t2.toNat*5)) 0 (.string v7)∧
 CondP (!(Op.bytesLess v5.toList v7.toList)) (
 K 13 h3) (
 I1 (ac .i64 (t2+1)) h3)))) (
 HC PG dB [.slice x0.a x0.len x0.cap,.func (.func r9) #[] #[]] [.c .bool] (fun(e8:Bool) h9=>
 CondP e8 (
 K 1 h9) (
 LoopP (fun I10 (t11:Int) h12=>
 CondP (decide (t11<(x0.len:Int))) (
 (bP t11 x0.len∧∃a13,x0.a=some a13∧
 ∃v14,aj h12 (adr a13 (t11.toNat*5)) 0 (.string v14)∧
 ∃v15,aj h12 (adr a13 (t11.toNat*5)) 1 (.string v15)∧
 ∃v16,aj h12 (adr a13 (t11.toNat*5)) 2 (.string v16)∧
 ∃v17,aj h12 (adr a13 (t11.toNat*5)) 3 (.bool v17)∧
 ∃v18,aj h12 (adr a13 (t11.toNat*5)) 4 (.bool v18)∧
 At (hnew h12 [.string (⟨#[]⟩:ByteArray),.string (⟨#[]⟩:ByteArray),.string (⟨#[]⟩:ByteArray),.bool false,.bool false] aM) (fun h19=>
 (dq h19 (some (ag h12)) 0 [.string v14,.string v15,.string v16,.bool v17,.bool v18]∧
 At (aV h19 (ag h12) 0 [.string v14,.string v15,.string v16,.bool v17,.bool v18]) (fun h20=>
 ∃v21,aj h20 (ag h12) 0 (.string v21)∧
 ∃v22,aj h20 (ag h12) 1 (.string v22)∧
 HC PG kK [.string v21,.string v22] [.c (.int .i64)] (fun(e23:Int) h24=>
 CondP (e23 !=(0:Int)) (
 K e23 h24) (
 ∃v25,aj h24 (ag h12) 0 (.string v25)∧
 ∃v26,aj h24 (ag h12) 2 (.string v26)∧
 HC PG kK [.string v25,.string v26] [.c (.int .i64)] (fun(e27:Int) h28=>
 CondP (e27 !=(0:Int)) (
 K e27 h28) (
 I10 (ac .i64 (t11+1)) h28)) h24)) h20))))) (
 K 0 h12)) 0 h9)) h3)) 1 h0
noncomputable def JD:Ann:=.node .nil (.node (.node .nil (.loop [(3,.c (.int .i64))] .nil)) (.node .nil (.node (.node .nil (.loop [(30,.c (.int .i64))] .nil)) .nil)))
theorem Jr(x0:SliceV){K:cJ[.c(.int .i64)]→af→Prop}{h0:af}(h:A4 x0 K h0):HC PG vD [.slice x0.a x0.len x0.cap] [.c (.int .i64)] K h0:=HC.intro (an:=JD) (c:=Tryz.f42.body.getD .skip) Tryz.mixed Tryz.func42 rfl Tryz.call42 (ae rfl) (di (by kernel_rfl) h)
def rC(x0:ByteArray×ByteArray×ByteArray×Bool×Bool)(K:(Bool)→af→Prop)(h0:af):Prop:=
 At (hnew h0 [.string x0.1,.string x0.2.1,.string x0.2.2.1,.bool x0.2.2.2.1,.bool x0.2.2.2.2] aM) (fun h1=>
 Join (fun(t13:Bool) h14=>
 CondP t13 (
 K false h14) (
 ∃v15,aj h14 (ag h0) 3 (.bool v15)∧
 CondP v15 (
 ∃v16,aj h14 (ag h0) 4 (.bool v16)∧
 CondP v16 (
 K true h14) (
 ∃v17,aj h14 (ag h0) 2 (.string v17)∧
 K (v17.toList==(⟨#[]⟩:ByteArray).toList) h14)) (
 ∃v18,aj h14 (ag h0) 1 (.string v18)∧
 CondP (v18.toList==(⟨#[]⟩:ByteArray).toList) (
 ∃v19,aj h14 (ag h0) 4 (.bool v19)∧
 CondP v19 (
 K true h14) (
 ∃v20,aj h14 (ag h0) 2 (.string v20)∧
 K (v20.toList==(⟨#[]⟩:ByteArray).toList) h14)) (
 K false h14)))) (fun J2=>
 ∃v3,aj h1 (ag h0) 3 (.bool v3)∧
 CondP (!v3) (
 ∃v4,aj h1 (ag h0) 4 (.bool v4)∧
 CondP (!v4) (
 J2 true h1) (
 ∃v5,aj h1 (ag h0) 3 (.bool v5)∧
 CondP v5 (
 ∃v6,aj h1 (ag h0) 4 (.bool v6)∧
 CondP v6 (
 ∃v7,aj h1 (ag h0) 1 (.string v7)∧
 ∃v8,aj h1 (ag h0) 2 (.string v8)∧
 J2 (v7.toList==v8.toList) h1) (
 J2 false h1)) (
 J2 false h1))) (
 ∃v9,aj h1 (ag h0) 3 (.bool v9)∧
 CondP v9 (
 ∃v10,aj h1 (ag h0) 4 (.bool v10)∧
 CondP v10 (
 ∃v11,aj h1 (ag h0) 1 (.string v11)∧
 ∃v12,aj h1 (ag h0) 2 (.string v12)∧
 J2 (v11.toList==v12.toList) h1) (
 J2 false h1)) (
 J2 false h1))))
noncomputable def xU:Ann:=.node .nil (.node (.join [(25,.c .bool)] .nil .nil) .nil)
theorem xP(x0:ByteArray×ByteArray×ByteArray×Bool×Bool){K:cJ[.c .bool]→af→Prop}{h0:af}(h:rC x0 K h0):HC PG gA [.agg #[.string x0.1,.string x0.2.1,.string x0.2.2.1,.bool x0.2.2.2.1,.bool x0.2.2.2.2]] [.c .bool] K h0:=HC.intro (an:=xU) (c:=Tryz.f43.body.getD .skip) Tryz.mixed Tryz.func43 rfl Tryz.call43 (ae rfl) (di (by kernel_rfl) h)
def gP(x0:SliceV)(x1:SliceV)(K:(Bool)→af→Prop)(h0:af):Prop:=
 CondP ((x0.len:Int) !=(x1.len:Int)) (
 K false h0) (
 LoopP (fun I1 (t2:Int) h3=>
 CondP (decide (t2<(x0.len:Int))) (
 (bP t2 x0.len∧∃a4,x0.a=some a4∧
 ∃v5,aj h3 (adr a4 (t2.toNat*5)) 0 (.string v5)∧
 ∃v6,aj h3 (adr a4 (t2.toNat*5)) 1 (.string v6)∧
 ∃v7,aj h3 (adr a4 (t2.toNat*5)) 2 (.string v7)∧
 ∃v8,aj h3 (adr a4 (t2.toNat*5)) 3 (.bool v8)∧
 ∃v9,aj h3 (adr a4 (t2.toNat*5)) 4 (.bool v9)∧
 (bP t2 x1.len∧∃a10,x1.a=some a10∧
 ∃v11,aj h3 (adr a10 (t2.toNat*5)) 0 (.string v11)∧
 ∃v12,aj h3 (adr a10 (t2.toNat*5)) 1 (.string v12)∧
 ∃v13,aj h3 (adr a10 (t2.toNat*5)) 2 (.string v13)∧
 ∃v14,aj h3 (adr a10 (t2.toNat*5)) 3 (.bool v14)∧
 ∃v15,aj h3 (adr a10 (t2.toNat*5)) 4 (.bool v15)∧
 CondP (!(((v5.toList==v11.toList)&&((v6.toList==v12.toList)&&((v7.toList==v13.toList)&&((v8==v14)&&((v9==v15)&&true))))))) (
 K false h3) (
 I1 (ac .i64 (t2+1)) h3)))) (
 K true h3)) 0 h0)
noncomputable def lL:Ann:=.node .nil (.node .nil (.node (.node .nil (.loop [(13,.c (.int .i64))] .nil)) .nil))
theorem lG(x0:SliceV)(x1:SliceV){K:cJ[.c .bool]→af→Prop}{h0:af}(h:gP x0 x1 K h0):HC PG gM [.slice x0.a x0.len x0.cap,.slice x1.a x1.len x1.cap] [.c .bool] K h0:=HC.intro (an:=lL) (c:=Tryz.f44.body.getD .skip) Tryz.mixed Tryz.func44 rfl Tryz.call44 (ae rfl) (di (by kernel_rfl) h)
def Dn(x0:SliceV)(K:(Int)→af→Prop)(h0:af):Prop:=
 LoopP (fun I1 (t2:Int) h3=>
 CondP (decide ((ac .i64 (t2+1))<(x0.len:Int))) (
 (bP t2 x0.len∧∃a4,x0.a=some a4∧
 ∃v5,aj h3 (adr a4 (t2.toNat*5)) 0 (.string v5)∧
 (bP (ac .i64 (t2+1)) x0.len∧∃a6,x0.a=some a6∧
 ∃v7,aj h3 (adr a6 ((ac .i64 (t2+1)).toNat*5)) 0 (.string v7)∧
 HC PG r8 [.string v5,.string v7] [.c .bool] (fun(e8:Bool) h9=>
 CondP (!e8) (
 K 13 h9) (
 I1 (ac .i64 (t2+1)) h9)) h3))) (
 LoopP (fun I10 (t11:Int) h12=>
 CondP (decide (t11<(x0.len:Int))) (
 (bP t11 x0.len∧∃a13,x0.a=some a13∧
 ∃v14,aj h12 (adr a13 (t11.toNat*5)) 0 (.string v14)∧
 ∃v15,aj h12 (adr a13 (t11.toNat*5)) 1 (.string v15)∧
 ∃v16,aj h12 (adr a13 (t11.toNat*5)) 2 (.string v16)∧
 ∃v17,aj h12 (adr a13 (t11.toNat*5)) 3 (.bool v17)∧
 ∃v18,aj h12 (adr a13 (t11.toNat*5)) 4 (.bool v18)∧
 At (hnew h12 [.string (⟨#[]⟩:ByteArray),.string (⟨#[]⟩:ByteArray),.string (⟨#[]⟩:ByteArray),.bool false,.bool false] dg) (fun h19=>
 (dq h19 (some (ag h12)) 0 [.string v14,.string v15,.string v16,.bool v17,.bool v18]∧
 At (aV h19 (ag h12) 0 [.string v14,.string v15,.string v16,.bool v17,.bool v18]) (fun h20=>
 Join (fun(t68:Bool) h69=>
 CondP t68 (
 K 1 h69) (
 I10 (ac .i64 (t11+1)) h69)) (fun J21=>
 ∃v22,aj h20 (ag h12) 3 (.bool v22)∧
 CondP (!v22) (
 ∃v23,aj h20 (ag h12) 4 (.bool v23)∧
 CondP (!v23) (
 J21 true h20) (
 ∃v24,aj h20 (ag h12) 3 (.bool v24)∧
 CondP v24 (
 ∃v25,aj h20 (ag h12) 4 (.bool v25)∧
 CondP v25 (
 ∃v26,aj h20 (ag h12) 1 (.string v26)∧
 ∃v27,aj h20 (ag h12) 2 (.string v27)∧
 CondP (v26.toList==v27.toList) (
 J21 true h20) (
 ∃v28,aj h20 (ag h12) 3 (.bool v28)∧
 CondP (!v28) (
 ∃v29,aj h20 (ag h12) 1 (.string v29)∧
 CondP (!(v29.toList==(⟨#[]⟩:ByteArray).toList)) (
 J21 true h20) (
 ∃v30,aj h20 (ag h12) 4 (.bool v30)∧
 CondP (!v30) (
 ∃v31,aj h20 (ag h12) 2 (.string v31)∧
 J21 (!(v31.toList==(⟨#[]⟩:ByteArray).toList)) h20) (
 J21 false h20))) (
 ∃v32,aj h20 (ag h12) 4 (.bool v32)∧
 CondP (!v32) (
 ∃v33,aj h20 (ag h12) 2 (.string v33)∧
 J21 (!(v33.toList==(⟨#[]⟩:ByteArray).toList)) h20) (
 J21 false h20)))) (
 ∃v34,aj h20 (ag h12) 3 (.bool v34)∧
 CondP (!v34) (
 ∃v35,aj h20 (ag h12) 1 (.string v35)∧
 CondP (!(v35.toList==(⟨#[]⟩:ByteArray).toList)) (
 J21 true h20) (
 ∃v36,aj h20 (ag h12) 4 (.bool v36)∧
 CondP (!v36) (
 ∃v37,aj h20 (ag h12) 2 (.string v37)∧
 J21 (!(v37.toList==(⟨#[]⟩:ByteArray).toList)) h20) (
 J21 false h20))) (
 ∃v38,aj h20 (ag h12) 4 (.bool v38)∧
 CondP (!v38) (
 ∃v39,aj h20 (ag h12) 2 (.string v39)∧
 J21 (!(v39.toList==(⟨#[]⟩:ByteArray).toList)) h20) (
 J21 false h20)))) (
 ∃v40,aj h20 (ag h12) 3 (.bool v40)∧
 CondP (!v40) (
 ∃v41,aj h20 (ag h12) 1 (.string v41)∧
 CondP (!(v41.toList==(⟨#[]⟩:ByteArray).toList)) (
 J21 true h20) (
 ∃v42,aj h20 (ag h12) 4 (.bool v42)∧
 CondP (!v42) (
 ∃v43,aj h20 (ag h12) 2 (.string v43)∧
 J21 (!(v43.toList==(⟨#[]⟩:ByteArray).toList)) h20) (
 J21 false h20))) (
 ∃v44,aj h20 (ag h12) 4 (.bool v44)∧
 CondP (!v44) (
 ∃v45,aj h20 (ag h12) 2 (.string v45)∧
 J21 (!(v45.toList==(⟨#[]⟩:ByteArray).toList)) h20) (
 J21 false h20))))) (
 ∃v46,aj h20 (ag h12) 3 (.bool v46)∧
 CondP v46 (
 ∃v47,aj h20 (ag h12) 4 (.bool v47)∧
 CondP v47 (
 ∃v48,aj h20 (ag h12) 1 (.string v48)∧
 ∃v49,aj h20 (ag h12) 2 (.string v49)∧
 CondP (v48.toList==v49.toList) (
 J21 true h20) (
 ∃v50,aj h20 (ag h12) 3 (.bool v50)∧
 CondP (!v50) (
 ∃v51,aj h20 (ag h12) 1 (.string v51)∧
 CondP (!(v51.toList==(⟨#[]⟩:ByteArray).toList)) (
 J21 true h20) (
 ∃v52,aj h20 (ag h12) 4 (.bool v52)∧
 CondP (!v52) (
 ∃v53,aj h20 (ag h12) 2 (.string v53)∧
 J21 (!(v53.toList==(⟨#[]⟩:ByteArray).toList)) h20) (
 J21 false h20))) (
 ∃v54,aj h20 (ag h12) 4 (.bool v54)∧
 CondP (!v54) (
 ∃v55,aj h20 (ag h12) 2 (.string v55)∧
 J21 (!(v55.toList==(⟨#[]⟩:ByteArray).toList)) h20) (
 J21 false h20)))) (
 ∃v56,aj h20 (ag h12) 3 (.bool v56)∧
 CondP (!v56) (
 ∃v57,aj h20 (ag h12) 1 (.string v57)∧
 CondP (!(v57.toList==(⟨#[]⟩:ByteArray).toList)) (
 J21 true h20) (
 ∃v58,aj h20 (ag h12) 4 (.bool v58)∧
 CondP (!v58) (
 ∃v59,aj h20 (ag h12) 2 (.string v59)∧
 J21 (!(v59.toList==(⟨#[]⟩:ByteArray).toList)) h20) (
 J21 false h20))) (
 ∃v60,aj h20 (ag h12) 4 (.bool v60)∧
 CondP (!v60) (
 ∃v61,aj h20 (ag h12) 2 (.string v61)∧
 J21 (!(v61.toList==(⟨#[]⟩:ByteArray).toList)) h20) (
 J21 false h20)))) (
 ∃v62,aj h20 (ag h12) 3 (.bool v62)∧
 CondP (!v62) (
 ∃v63,aj h20 (ag h12) 1 (.string v63)∧
 CondP (!(v63.toList==(⟨#[]⟩:ByteArray).toList)) (
 J21 true h20) (
 ∃v64,aj h20 (ag h12) 4 (.bool v64)∧
 CondP (!v64) (
 ∃v65,aj h20 (ag h12) 2 (.string v65)∧
 J21 (!(v65.toList==(⟨#[]⟩:ByteArray).toList)) h20) (
 J21 false h20))) (
 ∃v66,aj h20 (ag h12) 4 (.bool v66)∧
 CondP (!v66) (
 ∃v67,aj h20 (ag h12) 2 (.string v67)∧
 J21 (!(v67.toList==(⟨#[]⟩:ByteArray).toList)) h20) (
 J21 false h20)))))))))) (
 LoopP (fun I70 (t71:Int) h72=>
 CondP (decide (t71<(x0.len:Int))) (
 (bP t71 x0.len∧∃a73,x0.a=some a73∧
 ∃v74,aj h72 (adr a73 (t71.toNat*5)) 0 (.string v74)∧
 ∃v75,aj h72 (adr a73 (t71.toNat*5)) 1 (.string v75)∧
 ∃v76,aj h72 (adr a73 (t71.toNat*5)) 2 (.string v76)∧
 ∃v77,aj h72 (adr a73 (t71.toNat*5)) 3 (.bool v77)∧
 ∃v78,aj h72 (adr a73 (t71.toNat*5)) 4 (.bool v78)∧
 At (hnew h72 [.string (⟨#[]⟩:ByteArray),.string (⟨#[]⟩:ByteArray),.string (⟨#[]⟩:ByteArray),.bool false,.bool false] dg) (fun h79=>
 (dq h79 (some (ag h72)) 0 [.string v74,.string v75,.string v76,.bool v77,.bool v78]∧
 At (aV h79 (ag h72) 0 [.string v74,.string v75,.string v76,.bool v77,.bool v78]) (fun h80=>
 ∃v81,aj h80 (ag h72) 1 (.string v81)∧
 ∃v82,aj h80 (ag h72) 2 (.string v82)∧
 At (hnew h80 [.string v81,.string v82] sY) (fun h83=>
 LoopP (fun I84 (t85:Int) h86=>
 CondP (decide (t85<(2:Int))) (
 (bP t85 2∧∃a87,some (ag h80)=some a87∧
 ∃v88,aj h86 a87 (t85.toNat*1) (.string v88)∧
 ∃v89,aj h86 (ag h72) 0 (.string v89)∧
 HC PG tq [.string v89,.string v88] [.c (.int .i64)] (fun(e90:Int) h91=>
 CondP (e90 !=(0:Int)) (
 K e90 h91) (
 I84 (ac .i64 (t85+1)) h91)) h86)) (
 I70 (ac .i64 (t71+1)) h86)) 0 h83)))))) (
 K 0 h72)) 0 h12)) 0 h3)) 0 h0
noncomputable def LA:Ann:=.node .nil (.node (.node .nil (.loop [(3,.c (.int .i64))] .nil)) (.node (.node .nil (.loop [(33,.c (.int .i64))] (.node .nil (.node .nil (.node (.node .nil (.join [(79,.c .bool)] .nil .nil)) .nil))))) (.node (.node .nil (.loop [(83,.c (.int .i64))] (.node .nil (.node .nil (.node (.node .nil (.node .nil (.loop [(93,.c (.int .i64))] .nil))) .nil))))) .nil)))
theorem Lm(x0:SliceV){K:cJ[.c(.int .i64)]→af→Prop}{h0:af}(h:Dn x0 K h0):HC PG tl [.slice x0.a x0.len x0.cap] [.c (.int .i64)] K h0:=HC.intro (an:=LA) (c:=Tryz.f45.body.getD .skip) Tryz.mixed Tryz.func45 rfl Tryz.call45 (ae rfl) (di (by kernel_rfl) h)
def H4(x0:SliceV)(x1:ByteArray×ByteArray)(K:(SliceV)→af→Prop)(h0:af):Prop:=
 At (hnew h0 [.string x1.1,.string x1.2] dI) (fun h1=>
 ∃v2,aj h1 (ag h0) 0 (.string v2)∧
 HC PG vB [.slice x0.a x0.len x0.cap,.string v2] [.c .slice] (fun(e3:SliceV) h4=>
 LoopP (fun I5 (t6:SliceV×Bool×Int) h7=>
 CondP (decide (t6.2.2<(e3.len:Int))) (
 Join (fun(t36:SliceV×Bool) h37=>
 I5 (t36.1,t36.2,ac .i64 (t6.2.2+1)) h37) (fun J8=>
 (bP t6.2.2 e3.len∧∃a9,e3.a=some a9∧
 ∃v10,aj h7 (adr a9 (t6.2.2.toNat*2)) 0 (.string v10)∧
 ∃v11,aj h7 (adr a9 (t6.2.2.toNat*2)) 1 (.string v11)∧
 At (hnew h7 [.string (⟨#[]⟩:ByteArray),.string (⟨#[]⟩:ByteArray)] dI) (fun h12=>
 (dq h12 (some (ag h7)) 0 [.string v10,.string v11]∧
 At (aV h12 (ag h7) 0 [.string v10,.string v11]) (fun h13=>
 Join (fun(t28:SliceV×Bool) h29=>
 ∃v30,aj h29 (ag h7) 0 (.string v30)∧
 ∃v31,aj h29 (ag h7) 1 (.string v31)∧
 At (hnew h29 [.string v30,.string v31] dI) (fun h32=>
 ∃xs33,SRow h32 (some (ag h29)) (1*2) xs33∧
 AppP (some [.string (⟨#[]⟩:ByteArray),.string (⟨#[]⟩:ByteArray)]) 2 32 dI t28.1.a t28.1.len t28.1.cap 1 xs33 h32 (fun s34 h35=>
 J8 (s34,t28.2) h35))) (fun J14=>
 Join (fun(t20:Bool) h21=>
 CondP t20 (
 ∃v22,aj h21 (ag h0) 0 (.string v22)∧
 ∃v23,aj h21 (ag h0) 1 (.string v23)∧
 At (hnew h21 [.string v22,.string v23] dI) (fun h24=>
 ∃xs25,SRow h24 (some (ag h21)) (1*2) xs25∧
 AppP (some [.string (⟨#[]⟩:ByteArray),.string (⟨#[]⟩:ByteArray)]) 2 32 dI t6.1.a t6.1.len t6.1.cap 1 xs25 h24 (fun s26 h27=>
 J14 (s26,true) h27))) (
 J14 (t6.1,t6.2.1) h21)) (fun J15=>
 CondP (!t6.2.1) (
 ∃v16,aj h13 (ag h0) 0 (.string v16)∧
 ∃v17,aj h13 (ag h7) 0 (.string v17)∧
 HC PG r8 [.string v16,.string v17] [.c .bool] (fun(e18:Bool) h19=>
 J15 e18 h19) h13) (
 J15 false h13))))))))) (
 CondP (!t6.2.1) (
 ∃v38,aj h7 (ag h0) 0 (.string v38)∧
 ∃v39,aj h7 (ag h0) 1 (.string v39)∧
 At (hnew h7 [.string v38,.string v39] dI) (fun h40=>
 ∃xs41,SRow h40 (some (ag h7)) (1*2) xs41∧
 AppP (some [.string (⟨#[]⟩:ByteArray),.string (⟨#[]⟩:ByteArray)]) 2 32 dI t6.1.a t6.1.len t6.1.cap 1 xs41 h40 (fun s42 h43=>
 K s42 h43))) (
 K t6.1 h7))) (⟨none,0,0⟩,false,0) h4) h1)
noncomputable def PQ:Ann:=.node .nil (.node .nil (.node .nil (.node (.node .nil (.loop [(5,.c .slice),(6,.c .bool),(14,.c (.int .i64))] (.node .nil (.node .nil (.join [(5,.c .slice),(6,.c .bool)] (.node .nil (.join [(5,.c .slice),(6,.c .bool)] (.join [(26,.c .bool)] .nil .nil) .nil)) .nil))))) .nil)))
theorem PI(x0:SliceV)(x1:ByteArray×ByteArray){K:cJ[.c .slice]→af→Prop}{h0:af}(h:H4 x0 x1 K h0):HC PG rQ [.slice x0.a x0.len x0.cap,.agg #[.string x1.1,.string x1.2]] [.c .slice] K h0:=HC.intro (an:=PQ) (c:=Tryz.f46.body.getD .skip) Tryz.mixed Tryz.func46 rfl Tryz.call46 (ae rfl) (di (by kernel_rfl) h)
def FK(x0:SliceV)(x1:ByteArray)(K:((ByteArray×ByteArray×ByteArray×Bool×Bool)×Bool)→af→Prop)(h0:af):Prop:=
 At (hnew h0 [.string (⟨#[]⟩:ByteArray),.string (⟨#[]⟩:ByteArray),.string (⟨#[]⟩:ByteArray),.bool false,.bool false] dg) (fun h1=>
 LoopP (fun I2 (t3:Int) h4=>
 CondP (decide (t3<(x0.len:Int))) (
 (bP t3 x0.len∧∃a5,x0.a=some a5∧
 ∃v6,aj h4 (adr a5 (t3.toNat*5)) 0 (.string v6)∧
 ∃v7,aj h4 (adr a5 (t3.toNat*5)) 1 (.string v7)∧
 ∃v8,aj h4 (adr a5 (t3.toNat*5)) 2 (.string v8)∧
 ∃v9,aj h4 (adr a5 (t3.toNat*5)) 3 (.bool v9)∧
 ∃v10,aj h4 (adr a5 (t3.toNat*5)) 4 (.bool v10)∧
 At (hnew h4 [.string (⟨#[]⟩:ByteArray),.string (⟨#[]⟩:ByteArray),.string (⟨#[]⟩:ByteArray),.bool false,.bool false] dg) (fun h11=>
 (dq h11 (some (ag h4)) 0 [.string v6,.string v7,.string v8,.bool v9,.bool v10]∧
 At (aV h11 (ag h4) 0 [.string v6,.string v7,.string v8,.bool v9,.bool v10]) (fun h12=>
 ∃v13,aj h12 (ag h4) 0 (.string v13)∧
 CondP (v13.toList==x1.toList) (
 ∃v14,aj h12 (ag h4) 0 (.string v14)∧
 ∃v15,aj h12 (ag h4) 1 (.string v15)∧
 ∃v16,aj h12 (ag h4) 2 (.string v16)∧
 ∃v17,aj h12 (ag h4) 3 (.bool v17)∧
 ∃v18,aj h12 (ag h4) 4 (.bool v18)∧
 (dq h12 (some (ag h0)) 0 [.string v14,.string v15,.string v16,.bool v17,.bool v18]∧
 At (aV h12 (ag h0) 0 [.string v14,.string v15,.string v16,.bool v17,.bool v18]) (fun h19=>
 ∃v20,aj h19 (ag h0) 0 (.string v20)∧
 ∃v21,aj h19 (ag h0) 1 (.string v21)∧
 ∃v22,aj h19 (ag h0) 2 (.string v22)∧
 ∃v23,aj h19 (ag h0) 3 (.bool v23)∧
 ∃v24,aj h19 (ag h0) 4 (.bool v24)∧
 K ((v20,v21,v22,v23,v24),true) h19))) (
 I2 (ac .i64 (t3+1)) h12)))))) (
 (dq h4 (some (ag h0)) 0 [.string (⟨#[]⟩:ByteArray),.string (⟨#[]⟩:ByteArray),.string (⟨#[]⟩:ByteArray),.bool false,.bool false]∧
 At (aV h4 (ag h0) 0 [.string (⟨#[]⟩:ByteArray),.string (⟨#[]⟩:ByteArray),.string (⟨#[]⟩:ByteArray),.bool false,.bool false]) (fun h25=>
 ∃v26,aj h25 (ag h0) 0 (.string v26)∧
 ∃v27,aj h25 (ag h0) 1 (.string v27)∧
 ∃v28,aj h25 (ag h0) 2 (.string v28)∧
 ∃v29,aj h25 (ag h0) 3 (.bool v29)∧
 ∃v30,aj h25 (ag h0) 4 (.bool v30)∧
 K ((v26,v27,v28,v29,v30),false) h25)))) 0 h1)
noncomputable def NE:Ann:=.node .nil (.node (.node .nil (.loop [(10,.c (.int .i64))] .nil)) .nil)
theorem Nm(x0:SliceV)(x1:ByteArray){K:cJ[.agg[.str,.str,.str,.bool,.bool],.c .bool]→af→Prop}{h0:af}(h:FK x0 x1 K h0):HC PG vA [.slice x0.a x0.len x0.cap,.string x1] [.agg [.str,.str,.str,.bool,.bool],.c .bool] K h0:=HC.intro (an:=NE) (c:=Tryz.f47.body.getD .skip) Tryz.mixed Tryz.func47 rfl Tryz.call47 (ae rfl) (di (by kernel_rfl) h)
def fz(x0:SliceV)(x1:Value)(K:(Bool)→af→Prop)(h0:af):Prop:=
 HC PG fW [.slice x0.a x0.len x0.cap,x1] [.c (.int .i64)] (fun(e1:Int) h2=>
 K (decide (e1≥(0:Int))) h2) h0
noncomputable def jJ:Ann:=.nil
theorem jG(x0:SliceV)(x1:Value){K:cJ[.c .bool]→af→Prop}{h0:af}(h:fz x0 x1 K h0):HC PG dB [.slice x0.a x0.len x0.cap,x1] [.c .bool] K h0:=HC.intro (an:=jJ) (c:=Tryz.f48.body.getD .skip) Tryz.mixed Tryz.func48 rfl Tryz.call48 (ae rfl) (di (by kernel_rfl) h)
def AZ(x0:ByteArray)(x1:ByteArray)(K:(Int)→af→Prop)(h0:af):Prop:=
 CondP (decide ((x0.size:Int)>(256:Int))) (
 K 2 h0) (
 CondP (decide ((x1.size:Int)>(4096:Int))) (
 K 3 h0) (
 K 0 h0))
noncomputable def JB:Ann:=.nil
theorem Jp(x0:ByteArray)(x1:ByteArray){K:cJ[.c(.int .i64)]→af→Prop}{h0:af}(h:AZ x0 x1 K h0):HC PG kK [.string x0,.string x1] [.c (.int .i64)] K h0:=HC.intro (an:=JB) (c:=Tryz.f61.body.getD .skip) Tryz.mixed Tryz.func61 rfl Tryz.call61 (ae rfl) (di (by kernel_rfl) h)
def xf(x0:Option Addr)(K:(T6)→af→Prop)(h0:af):Prop:=
 At (hnew h0 [.int .i64 0,.int .u64 0,.int .u64 0,.int .u64 0,.pointer none,.pointer none] bE) (fun h1=>
 Join (fun(t5:Option Addr) h6=>
 (dq h6 (some (ag h0)) 0 [.int .i64 1,.int .u64 0,.int .u64 0,.int .u64 0,.pointer none,.pointer t5]∧
 At (aV h6 (ag h0) 0 [.int .i64 1,.int .u64 0,.int .u64 0,.int .u64 0,.pointer none,.pointer t5]) (fun h7=>
 ∃v8,aj h7 (ag h0) 0 (.int .i64 v8)∧
 ∃v9,aj h7 (ag h0) 1 (.int .u64 v9)∧
 ∃v10,aj h7 (ag h0) 2 (.int .u64 v10)∧
 ∃v11,aj h7 (ag h0) 3 (.int .u64 v11)∧
 ∃v12,aj h7 (ag h0) 4 (.pointer v12)∧
 ∃v13,aj h7 (ag h0) 5 (.pointer v13)∧
 K (v8,v9,v10,v11,v12,v13) h7))) (fun J2=>
 CondP x0.isNone (
 HC PG qx [] [.c .ptr] (fun(e3:Option Addr) h4=>
 J2 e3 h4) h1) (
 J2 x0 h1)))
noncomputable def FU:Ann:=.node .nil (.join [(0,.c .ptr)] .nil .nil)
theorem Fx(x0:Option Addr){K:cJ[.agg[.int .i64,.int .u64,.int .u64,.int .u64,.ptr,.ptr]]→af→Prop}{h0:af}(h:xf x0 K h0):HC PG pm [.pointer x0] [.agg [.int .i64,.int .u64,.int .u64,.int .u64,.ptr,.ptr]] K h0:=HC.intro (an:=FU) (c:=Tryz.f62.body.getD .skip) Tryz.mixed Tryz.func62 rfl Tryz.call62 (ae rfl) (di (by kernel_rfl) h)
def yq(x0:SliceV)(K:(Option Addr)→af→Prop)(h0:af):Prop:=
 HC PG nN [.slice x0.a x0.len x0.cap] [.c .slice] (fun(e1:SliceV) h2=>
 Join (fun(t6:ByteArray×Bool) h7=>
 Join (fun(t11:SliceV×ByteArray) h12=>
 HC PG rI [.slice t11.1.a t11.1.len t11.1.cap,.int .i64 0] [.c .slice] (fun(e13:SliceV) h14=>
 HC PG rH [.string (⟨#[]⟩:ByteArray),.bool t6.2,.string t11.2,.slice e13.a e13.len e13.cap] [.c .ptr] (fun(e15:Option Addr) h16=>
 K e15 h16) h14) h12) (fun J8=>
 CondP t6.2 (
 (bP 0 e1.len∧∃a9,e1.a=some a9∧
 ∃v10,aj h7 (adr a9 ((0:Int).toNat*2)) 1 (.string v10)∧
 (((0:Int)≤(1:Int)∧(1:Int)≤((e1.len:Nat):Int))∧
 J8 (⟨aP e1.a ((1:Int).toNat) e1.cap 2,e1.len-((1:Int).toNat),e1.cap-((1:Int).toNat)⟩,v10) h7))) (
 J8 (e1,t6.1) h7))) (fun J3=>
 CondP (decide ((e1.len:Int)>(0:Int))) (
 (bP 0 e1.len∧∃a4,e1.a=some a4∧
 ∃v5,aj h2 (adr a4 ((0:Int).toNat*2)) 0 (.string v5)∧
 J3 ((⟨#[]⟩:ByteArray),v5.toList==(⟨#[]⟩:ByteArray).toList) h2)) (
 J3 ((⟨#[]⟩:ByteArray),false) h2))) h0
noncomputable def GQ:Ann:=.node .nil (.node .nil (.join [(3,.c .str),(4,.c .bool)] .nil (.join [(0,.c .slice),(3,.c .str)] .nil .nil)))
theorem GA(x0:SliceV){K:cJ[.c .ptr]→af→Prop}{h0:af}(h:yq x0 K h0):HC PG ui [.slice x0.a x0.len x0.cap] [.c .ptr] K h0:=HC.intro (an:=GQ) (c:=Tryz.f63.body.getD .skip) Tryz.mixed Tryz.func63 rfl Tryz.call63 (ae rfl) (di (by kernel_rfl) h)
def xg(x0:Int×Int×Int)(x1:Option Addr)(K:(T6)→af→Prop)(h0:af):Prop:=
 At (hnew h0 [.int .u64 x0.1,.int .u64 x0.2.1,.int .u64 x0.2.2] ct) (fun h1=>
 At (hnew h1 [.int .i64 0,.int .u64 0,.int .u64 0,.int .u64 0,.pointer none,.pointer none] bE) (fun h2=>
 Join (fun(t6:Option Addr) h7=>
 ∃v8,aj h7 (ag h0) 0 (.int .u64 v8)∧
 ∃v9,aj h7 (ag h0) 1 (.int .u64 v9)∧
 ∃v10,aj h7 (ag h0) 2 (.int .u64 v10)∧
 (dq h7 (some (ag h1)) 0 [.int .i64 0,.int .u64 v8,.int .u64 v9,.int .u64 v10,.pointer t6,.pointer none]∧
 At (aV h7 (ag h1) 0 [.int .i64 0,.int .u64 v8,.int .u64 v9,.int .u64 v10,.pointer t6,.pointer none]) (fun h11=>
 ∃v12,aj h11 (ag h1) 0 (.int .i64 v12)∧
 ∃v13,aj h11 (ag h1) 1 (.int .u64 v13)∧
 ∃v14,aj h11 (ag h1) 2 (.int .u64 v14)∧
 ∃v15,aj h11 (ag h1) 3 (.int .u64 v15)∧
 ∃v16,aj h11 (ag h1) 4 (.pointer v16)∧
 ∃v17,aj h11 (ag h1) 5 (.pointer v17)∧
 K (v12,v13,v14,v15,v16,v17) h11))) (fun J3=>
 CondP x1.isNone (
 HC PG nQ [] [.c .ptr] (fun(e4:Option Addr) h5=>
 J3 e4 h5) h2) (
 J3 x1 h2))))
noncomputable def FV:Ann:=.node .nil (.join [(1,.c .ptr)] .nil .nil)
theorem Fy(x0:Int×Int×Int)(x1:Option Addr){K:cJ[.agg[.int .i64,.int .u64,.int .u64,.int .u64,.ptr,.ptr]]→af→Prop}{h0:af}(h:xg x0 x1 K h0):HC PG pn [.agg #[.int .u64 x0.1,.int .u64 x0.2.1,.int .u64 x0.2.2],.pointer x1] [.agg [.int .i64,.int .u64,.int .u64,.int .u64,.ptr,.ptr]] K h0:=HC.intro (an:=FV) (c:=Tryz.f64.body.getD .skip) Tryz.mixed Tryz.func64 rfl Tryz.call64 (ae rfl) (di (by kernel_rfl) h)
def yr(x0:Int×Int×Int)(x1:SliceV)(K:(Option Addr)→af→Prop)(h0:af):Prop:=
 At (hnew h0 [.int .u64 x0.1,.int .u64 x0.2.1,.int .u64 x0.2.2] ct) (fun h1=>
 HC PG nN [.slice x1.a x1.len x1.cap] [.c .slice] (fun(e2:SliceV) h3=>
 LoopP (fun I4 (t5:SliceV×Int) h6=>
 CondP (decide (t5.2<(e2.len:Int))) (
 Join (fun(t25:SliceV) h26=>
 I4 (t25,ac .i64 (t5.2+1)) h26) (fun J7=>
 (bP t5.2 e2.len∧∃a8,e2.a=some a8∧
 ∃v9,aj h6 (adr a8 (t5.2.toNat*2)) 0 (.string v9)∧
 ∃v10,aj h6 (adr a8 (t5.2.toNat*2)) 1 (.string v10)∧
 At (hnew h6 [.string (⟨#[]⟩:ByteArray),.string (⟨#[]⟩:ByteArray)] aq) (fun h11=>
 (dq h11 (some (ag h6)) 0 [.string v9,.string v10]∧
 At (aV h11 (ag h6) 0 [.string v9,.string v10]) (fun h12=>
 ∃v13,aj h12 (ag h6) 0 (.string v13)∧
 ∃v14,aj h12 (ag h6) 1 (.string v14)∧
 ∃v15,aj h12 (ag h0) 0 (.int .u64 v15)∧
 ∃v16,aj h12 (ag h0) 1 (.int .u64 v16)∧
 ∃v17,aj h12 (ag h0) 2 (.int .u64 v17)∧
 ∃v18,aj h12 (ag h6) 0 (.string v18)∧
 HC PG gg [.agg #[.int .u64 v15,.int .u64 v16,.int .u64 v17],.string v18] [.c (.int .u64)] (fun(e19:Int) h20=>
 ((aj h20 (ag h6) 0 (.string v13)∧aj h20 (ag h6) 1 (.string v14))∧
 At (hnew h20 [.string v13,.string v14,.int .u64 e19] aR) (fun h21=>
 ∃xs22,SRow h21 (some (ag h20)) (1*3) xs22∧
 AppP (some [.string (⟨#[]⟩:ByteArray),.string (⟨#[]⟩:ByteArray),.int .u64 0]) 3 40 aR t5.1.a t5.1.len t5.1.cap 1 xs22 h21 (fun s23 h24=>
 J7 s23 h24)))) h12)))))) (
 HC PG px [.slice t5.1.a t5.1.len t5.1.cap,.int .i64 0] [.c .ptr] (fun(e27:Option Addr) h28=>
 K e27 h28) h6)) (⟨none,0,0⟩,0) h3) h1)
noncomputable def GR:Ann:=.node .nil (.node .nil (.node (.node .nil (.loop [(5,.c .slice),(11,.c (.int .i64))] (.node .nil (.node .nil (.join [(5,.c .slice)] (.node .nil (.draw (tr 0 5 (.all (.lastT 5 (.take 6 (.all (.lastT 7 (.all (.lastT 8 (.take 9 (.done)))))))))))) .nil))))) .nil))
theorem GB(x0:Int×Int×Int)(x1:SliceV){K:cJ[.c .ptr]→af→Prop}{h0:af}(h:yr x0 x1 K h0):HC PG uj [.agg #[.int .u64 x0.1,.int .u64 x0.2.1,.int .u64 x0.2.2],.slice x1.a x1.len x1.cap] [.c .ptr] K h0:=HC.intro (an:=GR) (c:=Tryz.f65.body.getD .skip) Tryz.mixed Tryz.func65 rfl Tryz.call65 (ae rfl) (di (by kernel_rfl) h)
def Dm(x0:Option Addr)(x1:Option Addr)(x2:ByteArray×ByteArray)(K:((Option Addr)×Bool)→af→Prop)(h0:af):Prop:=
 At (hnew h0 [.string x2.1,.string x2.2] aq) (fun h1=>
 ∃v2,aj h1 (ag h0) 0 (.string v2)∧
 ∃v3,aj h1 (ag h0) 1 (.string v3)∧
 HC PG rG [.pointer x1] [.c .ptr] (fun(e4:Option Addr) h5=>
 (aj h5 (ag h0) 1 (.string v3)∧
 (aj h5 (ag h0) 0 (.string v2)∧
 HC PG mP [.pointer e4,.pointer x0,.string v2,.string v3] [.c .ptr,.c .bool,.c .bool] (fun(e6:(Option Addr)×Bool×Bool) h7=>
 K (e6.1,e6.2.1) h7) h5))) h1)
noncomputable def Lz:Ann:=.nil
theorem Ll(x0:Option Addr)(x1:Option Addr)(x2:ByteArray×ByteArray){K:cJ[.c .ptr,.c .bool]→af→Prop}{h0:af}(h:Dm x0 x1 x2 K h0):HC PG wV [.pointer x0,.pointer x1,.agg #[.string x2.1,.string x2.2]] [.c .ptr,.c .bool] K h0:=HC.intro (an:=Lz) (c:=Tryz.f66.body.getD .skip) Tryz.mixed Tryz.func66 rfl Tryz.call66 (ae rfl) (di (by kernel_rfl) h)
def Dz(x0:Int×Int×Int)(x1:Option Addr)(x2:Option Addr)(x3:ByteArray×ByteArray)(K:((Option Addr)×Bool)→af→Prop)(h0:af):Prop:=
 At (hnew h0 [.int .u64 x0.1,.int .u64 x0.2.1,.int .u64 x0.2.2] ct) (fun h1=>
 At (hnew h1 [.string x3.1,.string x3.2] aq) (fun h2=>
 ∃v3,aj h2 (ag h0) 0 (.int .u64 v3)∧
 ∃v4,aj h2 (ag h0) 1 (.int .u64 v4)∧
 ∃v5,aj h2 (ag h0) 2 (.int .u64 v5)∧
 ∃v6,aj h2 (ag h1) 0 (.string v6)∧
 ∃v7,aj h2 (ag h0) 0 (.int .u64 v7)∧
 ∃v8,aj h2 (ag h0) 1 (.int .u64 v8)∧
 ∃v9,aj h2 (ag h0) 2 (.int .u64 v9)∧
 ∃v10,aj h2 (ag h1) 0 (.string v10)∧
 ((HC PG gg [.agg #[.int .u64 v7,.int .u64 v8,.int .u64 v9],.string v10] [.c (.int .u64)] (fun(e11:Int) h12=>
 (aj h12 (ag h1) 0 (.string v6)∧
 ((aj h12 (ag h0) 0 (.int .u64 v3)∧aj h12 (ag h0) 1 (.int .u64 v4)∧aj h12 (ag h0) 2 (.int .u64 v5))∧
 At (hnew h12 [.int .u64 0,.int .u64 0,.int .u64 0,.pointer none,.string (⟨#[]⟩:ByteArray),.int .u64 0] cG) (fun h13=>
 (aj h13 (ag h1) 0 (.string v6)∧
 ((aj h13 (ag h0) 0 (.int .u64 v3)∧aj h13 (ag h0) 1 (.int .u64 v4)∧aj h13 (ag h0) 2 (.int .u64 v5))∧
 (dq h13 (some (ag h12)) 0 [.int .u64 v3,.int .u64 v4,.int .u64 v5,.pointer x1,.string v6,.int .u64 e11]∧
 At (aV h13 (ag h12) 0 [.int .u64 v3,.int .u64 v4,.int .u64 v5,.pointer x1,.string v6,.int .u64 e11]) (fun h14=>
 ∃v15,aj h14 (ag h12) 0 (.int .u64 v15)∧
 ∃v16,aj h14 (ag h12) 1 (.int .u64 v16)∧
 ∃v17,aj h14 (ag h12) 2 (.int .u64 v17)∧
 ∃v18,aj h14 (ag h12) 3 (.pointer v18)∧
 ∃v19,aj h14 (ag h12) 4 (.string v19)∧
 ∃v20,aj h14 (ag h12) 5 (.int .u64 v20)∧
 ∃v21,aj h14 (ag h1) 0 (.string v21)∧
 ∃v22,aj h14 (ag h1) 1 (.string v22)∧
 HC PG mS [.pointer x2] [.c .ptr] (fun(e23:Option Addr) h24=>
 ((aj h24 (ag h1) 0 (.string v21)∧aj h24 (ag h1) 1 (.string v22))∧
 ((aj h24 (ag h12) 0 (.int .u64 v15)∧aj h24 (ag h12) 1 (.int .u64 v16)∧aj h24 (ag h12) 2 (.int .u64 v17)∧aj h24 (ag h12) 3 (.pointer v18)∧aj h24 (ag h12) 4 (.string v19)∧aj h24 (ag h12) 5 (.int .u64 v20))∧
 HC PG jb [.agg #[.int .u64 v15,.int .u64 v16,.int .u64 v17,.pointer v18,.string v19,.int .u64 v20],.pointer e23,.agg #[.string v21,.string v22],.int .i64 0] [.c .ptr,.c .bool,.c .bool] (fun(e25:(Option Addr)×Bool×Bool) h26=>
 K (e25.1,e25.2.1) h26) h24))) h14)))))))) h2)∧
 At (hnew h2 [.int .u64 0,.int .u64 0,.int .u64 0,.pointer none,.string (⟨#[]⟩:ByteArray),.int .u64 0] cG) (fun h27=>
 (aj h27 (ag h1) 0 (.string v10)∧
 ((aj h27 (ag h0) 0 (.int .u64 v7)∧aj h27 (ag h0) 1 (.int .u64 v8)∧aj h27 (ag h0) 2 (.int .u64 v9))∧
 (aj h27 (ag h1) 0 (.string v6)∧
 ((aj h27 (ag h0) 0 (.int .u64 v3)∧aj h27 (ag h0) 1 (.int .u64 v4)∧aj h27 (ag h0) 2 (.int .u64 v5))∧
 HC PG gg [.agg #[.int .u64 v7,.int .u64 v8,.int .u64 v9],.string v10] [.c (.int .u64)] (fun(e28:Int) h29=>
 (aj h29 (ag h1) 0 (.string v6)∧
 ((aj h29 (ag h0) 0 (.int .u64 v3)∧aj h29 (ag h0) 1 (.int .u64 v4)∧aj h29 (ag h0) 2 (.int .u64 v5))∧
 (dq h29 (some (ag h2)) 0 [.int .u64 v3,.int .u64 v4,.int .u64 v5,.pointer x1,.string v6,.int .u64 e28]∧
 At (aV h29 (ag h2) 0 [.int .u64 v3,.int .u64 v4,.int .u64 v5,.pointer x1,.string v6,.int .u64 e28]) (fun h30=>
 ∃v31,aj h30 (ag h2) 0 (.int .u64 v31)∧
 ∃v32,aj h30 (ag h2) 1 (.int .u64 v32)∧
 ∃v33,aj h30 (ag h2) 2 (.int .u64 v33)∧
 ∃v34,aj h30 (ag h2) 3 (.pointer v34)∧
 ∃v35,aj h30 (ag h2) 4 (.string v35)∧
 ∃v36,aj h30 (ag h2) 5 (.int .u64 v36)∧
 ∃v37,aj h30 (ag h1) 0 (.string v37)∧
 ∃v38,aj h30 (ag h1) 1 (.string v38)∧
 HC PG mS [.pointer x2] [.c .ptr] (fun(e39:Option Addr) h40=>
 ((aj h40 (ag h1) 0 (.string v37)∧aj h40 (ag h1) 1 (.string v38))∧
 ((aj h40 (ag h2) 0 (.int .u64 v31)∧aj h40 (ag h2) 1 (.int .u64 v32)∧aj h40 (ag h2) 2 (.int .u64 v33)∧aj h40 (ag h2) 3 (.pointer v34)∧aj h40 (ag h2) 4 (.string v35)∧aj h40 (ag h2) 5 (.int .u64 v36))∧
 HC PG jb [.agg #[.int .u64 v31,.int .u64 v32,.int .u64 v33,.pointer v34,.string v35,.int .u64 v36],.pointer e39,.agg #[.string v37,.string v38],.int .i64 0] [.c .ptr,.c .bool,.c .bool] (fun(e41:(Option Addr)×Bool×Bool) h42=>
 K (e41.1,e41.2.1) h42) h40))) h30))))) h27))))))))
noncomputable def LM:Ann:=.node .nil (.node (.draw (tr 0 7 (.all (.pick 7 (.take 8 (.all (.lastT 9 (.all (.lastT 10 (.done)))))) (.last 9 (.all (.lastT 7 (.take 8 (.all (.lastT 10 (.done))))))))))) (.node (.draw (tk [0,1,3] (.all (.lastT 2 (.all (.lastT 4 (tr 5 7 (.done)))))))) .nil))
theorem Lx(x0:Int×Int×Int)(x1:Option Addr)(x2:Option Addr)(x3:ByteArray×ByteArray){K:cJ[.c .ptr,.c .bool]→af→Prop}{h0:af}(h:Dz x0 x1 x2 x3 K h0):HC PG w6 [.agg #[.int .u64 x0.1,.int .u64 x0.2.1,.int .u64 x0.2.2],.pointer x1,.pointer x2,.agg #[.string x3.1,.string x3.2]] [.c .ptr,.c .bool] K h0:=HC.intro (an:=LM) (c:=Tryz.f67.body.getD .skip) Tryz.mixed Tryz.func67 rfl Tryz.call67 (ae rfl) (di (by kernel_rfl) h)
def Dp(x0:ByteArray)(x1:ByteArray)(K:(Int)→af→Prop)(h0:af):Prop:=
 CondP (decide ((x0.size:Int)>(256:Int))) (
 K 2 h0) (
 CondP (decide ((x1.size:Int)>(4096:Int))) (
 K 3 h0) (
 K 0 h0))
noncomputable def LB:Ann:=.nil
theorem Ln(x0:ByteArray)(x1:ByteArray){K:cJ[.c(.int .i64)]→af→Prop}{h0:af}(h:Dp x0 x1 K h0):HC PG tq [.string x0,.string x1] [.c (.int .i64)] K h0:=HC.intro (an:=LB) (c:=Tryz.f68.body.getD .skip) Tryz.mixed Tryz.func68 rfl Tryz.call68 (ae rfl) (di (by kernel_rfl) h)
def AX(x0:Option Addr)(x1:Option Addr)(x2:ByteArray)(K:((Option Addr)×Bool)→af→Prop)(h0:af):Prop:=
 HC PG rG [.pointer x1] [.c .ptr] (fun(e1:Option Addr) h2=>
 HC PG lY [.pointer e1,.pointer x0,.string x2] [.c .ptr,.c .bool] (fun(e3:(Option Addr)×Bool) h4=>
 K (e3.1,e3.2) h4) h2) h0
noncomputable def Jz:Ann:=.nil
theorem Jn(x0:Option Addr)(x1:Option Addr)(x2:ByteArray){K:cJ[.c .ptr,.c .bool]→af→Prop}{h0:af}(h:AX x0 x1 x2 K h0):HC PG vz [.pointer x0,.pointer x1,.string x2] [.c .ptr,.c .bool] K h0:=HC.intro (an:=Jz) (c:=Tryz.f69.body.getD .skip) Tryz.mixed Tryz.func69 rfl Tryz.call69 (ae rfl) (di (by kernel_rfl) h)
def A6(x0:Int×Int×Int)(x1:Option Addr)(x2:Option Addr)(x3:ByteArray)(K:((Option Addr)×Bool)→af→Prop)(h0:af):Prop:=
 At (hnew h0 [.int .u64 x0.1,.int .u64 x0.2.1,.int .u64 x0.2.2] ct) (fun h1=>
 HC PG mS [.pointer x2] [.c .ptr] (fun(e2:Option Addr) h3=>
 ∃v4,aj h3 (ag h0) 0 (.int .u64 v4)∧
 ∃v5,aj h3 (ag h0) 1 (.int .u64 v5)∧
 ∃v6,aj h3 (ag h0) 2 (.int .u64 v6)∧
 ∃v7,aj h3 (ag h0) 0 (.int .u64 v7)∧
 ∃v8,aj h3 (ag h0) 1 (.int .u64 v8)∧
 ∃v9,aj h3 (ag h0) 2 (.int .u64 v9)∧
 HC PG gg [.agg #[.int .u64 v7,.int .u64 v8,.int .u64 v9],.string x3] [.c (.int .u64)] (fun(e10:Int) h11=>
 ((aj h11 (ag h0) 0 (.int .u64 v4)∧aj h11 (ag h0) 1 (.int .u64 v5)∧aj h11 (ag h0) 2 (.int .u64 v6))∧
 HC PG l4 [.agg #[.int .u64 v4,.int .u64 v5,.int .u64 v6,.pointer x1,.string x3,.int .u64 e10],.pointer e2,.int .i64 0] [.c .ptr,.c .bool] (fun(e12:(Option Addr)×Bool) h13=>
 K (e12.1,e12.2) h13) h11)) h3) h1)
noncomputable def JF:Ann:=.node .nil (.node .nil (.node (.draw (tk [0,1,2,3,4,7] (.all (.lastT 5 (.take 6 (.all (.lastT 8 (tr 9 4 (.done))))))))) .nil))
theorem Jt(x0:Int×Int×Int)(x1:Option Addr)(x2:Option Addr)(x3:ByteArray){K:cJ[.c .ptr,.c .bool]→af→Prop}{h0:af}(h:A6 x0 x1 x2 x3 K h0):HC PG vE [.agg #[.int .u64 x0.1,.int .u64 x0.2.1,.int .u64 x0.2.2],.pointer x1,.pointer x2,.string x3] [.c .ptr,.c .bool] K h0:=HC.intro (an:=JF) (c:=Tryz.f70.body.getD .skip) Tryz.mixed Tryz.func70 rfl Tryz.call70 (ae rfl) (di (by kernel_rfl) h)
def H5(x0:SliceV)(x1:ByteArray)(K:(ByteArray×Bool)→af→Prop)(h0:af):Prop:=
 HC PG yV [.slice x0.a x0.len x0.cap,.string x1] [.c (.int .i64),.c .bool] (fun(e1:Int×Bool) h2=>
 CondP (!e1.2) (
 K ((⟨#[]⟩:ByteArray),false) h2) (
 (bP e1.1 x0.len∧∃a3,x0.a=some a3∧
 ∃v4,aj h2 (adr a3 (e1.1.toNat*2)) 1 (.string v4)∧
 K (v4,true) h2))) h0
noncomputable def PR:Ann:=.nil
theorem PJ(x0:SliceV)(x1:ByteArray){K:cJ[.c .str,.c .bool]→af→Prop}{h0:af}(h:H5 x0 x1 K h0):HC PG B0 [.slice x0.a x0.len x0.cap,.string x1] [.c .str,.c .bool] K h0:=HC.intro (an:=PR) (c:=Tryz.f71.body.getD .skip) Tryz.mixed Tryz.func71 rfl Tryz.call71 (ae rfl) (di (by kernel_rfl) h)
def FP(x0:SliceV)(x1:ByteArray)(K:(SliceV)→af→Prop)(h0:af):Prop:=
 LoopP (fun I1 (t2:SliceV×Int) h3=>
 CondP (decide (t2.2<(x0.len:Int))) (
 Join (fun(t17:SliceV) h18=>
 I1 (t17,ac .i64 (t2.2+1)) h18) (fun J4=>
 (bP t2.2 x0.len∧∃a5,x0.a=some a5∧
 ∃v6,aj h3 (adr a5 (t2.2.toNat*2)) 0 (.string v6)∧
 ∃v7,aj h3 (adr a5 (t2.2.toNat*2)) 1 (.string v7)∧
 At (hnew h3 [.string (⟨#[]⟩:ByteArray),.string (⟨#[]⟩:ByteArray)] dI) (fun h8=>
 (dq h8 (some (ag h3)) 0 [.string v6,.string v7]∧
 At (aV h8 (ag h3) 0 [.string v6,.string v7]) (fun h9=>
 ∃v10,aj h9 (ag h3) 0 (.string v10)∧
 CondP (!(v10.toList==x1.toList)) (
 ∃v11,aj h9 (ag h3) 0 (.string v11)∧
 ∃v12,aj h9 (ag h3) 1 (.string v12)∧
 At (hnew h9 [.string v11,.string v12] dI) (fun h13=>
 ∃xs14,SRow h13 (some (ag h9)) (1*2) xs14∧
 AppP (some [.string (⟨#[]⟩:ByteArray),.string (⟨#[]⟩:ByteArray)]) 2 32 dI t2.1.a t2.1.len t2.1.cap 1 xs14 h13 (fun s15 h16=>
 J4 s15 h16))) (
 J4 t2.1 h9))))))) (
 K t2.1 h3)) (⟨none,0,0⟩,0) h0
noncomputable def NK:Ann:=.node .nil (.node .nil (.node (.node .nil (.loop [(5,.c .slice),(10,.c (.int .i64))] (.node .nil (.node .nil (.join [(5,.c .slice)] .nil .nil))))) .nil))
theorem Nt(x0:SliceV)(x1:ByteArray){K:cJ[.c .slice]→af→Prop}{h0:af}(h:FP x0 x1 K h0):HC PG vB [.slice x0.a x0.len x0.cap,.string x1] [.c .slice] K h0:=HC.intro (an:=NK) (c:=Tryz.f72.body.getD .skip) Tryz.mixed Tryz.func72 rfl Tryz.call72 (ae rfl) (di (by kernel_rfl) h)
def sM(x0:Option Addr)(K:(ByteArray)→af→Prop)(h0:af):Prop:=
 CondP x0.isNone (
 K (⟨#[]⟩:ByteArray) h0) (
 ∃a1,x0=some a1∧
 ∃v2,aj h0 a1 0 (.string v2)∧
 K v2 h0)
noncomputable def zu:Ann:=.nil
theorem zh(x0:Option Addr){K:cJ[.c .str]→af→Prop}{h0:af}(h:sM x0 K h0):HC PG dJ [.pointer x0] [.c .str] K h0:=HC.intro (an:=zu) (c:=Tryz.f73.body.getD .skip) Tryz.mixed Tryz.func73 rfl Tryz.call73 (ae rfl) (di (by kernel_rfl) h)
def uZ(x0:Option Addr)(x1:SliceV)(x2:SliceV)(K:(Unit)→af→Prop)(h0:af):Prop:=
 LoopP (fun I1 (t2:SliceV×SliceV) h3=>
 Join (fun(t5:Bool) h6=>
 CondP t5 (
 Join (fun(t12:Bool) h13=>
 CondP t12 (
 Join (fun(t27:Unit) h28=>
 (((0:Int)≤(1:Int)∧(1:Int)≤((t2.1.len:Nat):Int))∧
 Bd (aP t2.1.a ((1:Int).toNat) t2.1.cap 2:Option Addr) (fun a29=>Bd (t2.1.len-((1:Int).toNat):Nat) (fun n30=>Bd (t2.1.cap-((1:Int).toNat):Nat) (fun n31=>
 I1 (⟨a29,n30,n31⟩,t2.2) h28))))) (fun J14=>
 ∃a15,x0=some a15∧
 ∃v16:SliceV,aj h13 a15 3 (.slice v16.a v16.len v16.cap)∧
 (bP 0 t2.1.len∧∃a17,t2.1.a=some a17∧
 ∃v18,aj h13 (adr a17 ((0:Int).toNat*2)) 0 (.string v18)∧
 (bP 0 t2.1.len∧∃a19,t2.1.a=some a19∧
 ∃v20,aj h13 (adr a19 ((0:Int).toNat*2)) 1 (.string v20)∧
 At (hnew h13 [.string v18,.string v20,.string (⟨#[]⟩:ByteArray),.bool true,.bool false] aM) (fun h21=>
 (aj h21 a15 3 (.slice v16.a v16.len v16.cap)∧
 ∃xs22,SRow h21 (some (ag h13)) (1*5) xs22∧
 AppP (some [.string (⟨#[]⟩:ByteArray),.string (⟨#[]⟩:ByteArray),.string (⟨#[]⟩:ByteArray),.bool false,.bool false]) 5 56 aM v16.a v16.len v16.cap 1 xs22 h21 (fun s23 h24=>
 ∃a25,x0=some a25∧
 (Wr h24 (adr a25 3)∧
 At (hset h24 (adr a25 3) (.slice s23.a s23.len s23.cap)) (fun h26=>
 J14 () h26))))))))) (
 Join (fun(t37:Bool) h38=>
 CondP t37 (
 Join (fun(t52:Unit) h53=>
 (((0:Int)≤(1:Int)∧(1:Int)≤((t2.2.len:Nat):Int))∧
 Bd (aP t2.2.a ((1:Int).toNat) t2.2.cap 2:Option Addr) (fun a54=>Bd (t2.2.len-((1:Int).toNat):Nat) (fun n55=>Bd (t2.2.cap-((1:Int).toNat):Nat) (fun n56=>
 I1 (t2.1,⟨a54,n55,n56⟩) h53))))) (fun J39=>
 ∃a40,x0=some a40∧
 ∃v41:SliceV,aj h38 a40 3 (.slice v41.a v41.len v41.cap)∧
 (bP 0 t2.2.len∧∃a42,t2.2.a=some a42∧
 ∃v43,aj h38 (adr a42 ((0:Int).toNat*2)) 0 (.string v43)∧
 (bP 0 t2.2.len∧∃a44,t2.2.a=some a44∧
 ∃v45,aj h38 (adr a44 ((0:Int).toNat*2)) 1 (.string v45)∧
 At (hnew h38 [.string v43,.string (⟨#[]⟩:ByteArray),.string v45,.bool false,.bool true] aM) (fun h46=>
 (aj h46 a40 3 (.slice v41.a v41.len v41.cap)∧
 ∃xs47,SRow h46 (some (ag h38)) (1*5) xs47∧
 AppP (some [.string (⟨#[]⟩:ByteArray),.string (⟨#[]⟩:ByteArray),.string (⟨#[]⟩:ByteArray),.bool false,.bool false]) 5 56 aM v41.a v41.len v41.cap 1 xs47 h46 (fun s48 h49=>
 ∃a50,x0=some a50∧
 (Wr h49 (adr a50 3)∧
 At (hset h49 (adr a50 3) (.slice s48.a s48.len s48.cap)) (fun h51=>
 J39 () h51))))))))) (
 Join (fun(t76:Unit) h77=>
 (((0:Int)≤(1:Int)∧(1:Int)≤((t2.1.len:Nat):Int))∧
 Bd (aP t2.1.a ((1:Int).toNat) t2.1.cap 2:Option Addr) (fun a78=>Bd (t2.1.len-((1:Int).toNat):Nat) (fun n79=>Bd (t2.1.cap-((1:Int).toNat):Nat) (fun n80=>
 (((0:Int)≤(1:Int)∧(1:Int)≤((t2.2.len:Nat):Int))∧
 Bd (aP t2.2.a ((1:Int).toNat) t2.2.cap 2:Option Addr) (fun a81=>Bd (t2.2.len-((1:Int).toNat):Nat) (fun n82=>Bd (t2.2.cap-((1:Int).toNat):Nat) (fun n83=>
 I1 (⟨a78,n79,n80⟩,⟨a81,n82,n83⟩) h77))))))))) (fun J57=>
 (bP 0 t2.1.len∧∃a58,t2.1.a=some a58∧
 ∃v59,aj h38 (adr a58 ((0:Int).toNat*2)) 1 (.string v59)∧
 (bP 0 t2.2.len∧∃a60,t2.2.a=some a60∧
 ∃v61,aj h38 (adr a60 ((0:Int).toNat*2)) 1 (.string v61)∧
 CondP (!(v59.toList==v61.toList)) (
 ∃a62,x0=some a62∧
 ∃v63:SliceV,aj h38 a62 3 (.slice v63.a v63.len v63.cap)∧
 (bP 0 t2.1.len∧∃a64,t2.1.a=some a64∧
 ∃v65,aj h38 (adr a64 ((0:Int).toNat*2)) 0 (.string v65)∧
 (bP 0 t2.1.len∧∃a66,t2.1.a=some a66∧
 ∃v67,aj h38 (adr a66 ((0:Int).toNat*2)) 1 (.string v67)∧
 (bP 0 t2.2.len∧∃a68,t2.2.a=some a68∧
 ∃v69,aj h38 (adr a68 ((0:Int).toNat*2)) 1 (.string v69)∧
 At (hnew h38 [.string v65,.string v67,.string v69,.bool true,.bool true] aM) (fun h70=>
 (aj h70 a62 3 (.slice v63.a v63.len v63.cap)∧
 ∃xs71,SRow h70 (some (ag h38)) (1*5) xs71∧
 AppP (some [.string (⟨#[]⟩:ByteArray),.string (⟨#[]⟩:ByteArray),.string (⟨#[]⟩:ByteArray),.bool false,.bool false]) 5 56 aM v63.a v63.len v63.cap 1 xs71 h70 (fun s72 h73=>
 ∃a74,x0=some a74∧
 (Wr h73 (adr a74 3)∧
 At (hset h73 (adr a74 3) (.slice s72.a s72.len s72.cap)) (fun h75=>
 J57 () h75))))))))) (
 J57 () h38)))))) (fun J32=>
 CondP ((t2.1.len:Int)==(0:Int)) (
 J32 true h13) (
 (bP 0 t2.2.len∧∃a33,t2.2.a=some a33∧
 ∃v34,aj h13 (adr a33 ((0:Int).toNat*2)) 0 (.string v34)∧
 (bP 0 t2.1.len∧∃a35,t2.1.a=some a35∧
 ∃v36,aj h13 (adr a35 ((0:Int).toNat*2)) 0 (.string v36)∧
 J32 (Op.bytesLess v34.toList v36.toList) h13)))))) (fun J7=>
 CondP ((t2.2.len:Int)==(0:Int)) (
 J7 true h6) (
 CondP (decide ((t2.1.len:Int)>(0:Int))) (
 (bP 0 t2.1.len∧∃a8,t2.1.a=some a8∧
 ∃v9,aj h6 (adr a8 ((0:Int).toNat*2)) 0 (.string v9)∧
 (bP 0 t2.2.len∧∃a10,t2.2.a=some a10∧
 ∃v11,aj h6 (adr a10 ((0:Int).toNat*2)) 0 (.string v11)∧
 J7 (Op.bytesLess v9.toList v11.toList) h6))) (
 J7 false h6)))) (
 K () h6)) (fun J4=>
 CondP (decide ((t2.1.len:Int)>(0:Int))) (
 J4 true h3) (
 J4 (decide ((t2.2.len:Int)>(0:Int))) h3))) (x1,x2) h0
noncomputable def CC:Ann:=.loop [(1,.c .slice),(2,.c .slice)] (.node (.join [(13,.c .bool)] .nil .nil) (.join [(49,.c .bool)] (.draw (tr 0 4 (.split 53 (tr 4 16 (.done)) (tr 4 4 (.split 57 (tr 8 12 (.done)) (tr 8 12 (.done))))))) (.node (.join [] (.draw (tr 0 14 (.all (.lastT 14 (.all (.lastT 15 (.take 16 (.take 17 (.all (.lastT 18 (.done))))))))))) .nil) (.join [(89,.c .bool)] (.draw (tr 0 4 (.split 93 (tr 4 11 (.done)) (tr 4 11 (.done))))) (.node (.join [] (.draw (tr 0 14 (.all (.lastT 14 (.all (.lastT 15 (.take 16 (.take 17 (.all (.lastT 18 (.done))))))))))) .nil) (.join [] (.node (.draw (tr 0 9 (.done))) (.node (.draw (tr 0 18 (.all (.lastT 18 (.all (.lastT 19 (.take 20 (.take 21 (.all (.lastT 22 (.done))))))))))) .nil)) (.draw (tr 0 6 (.done)))))))))
theorem Cn(x0:Option Addr)(x1:SliceV)(x2:SliceV){K:cJ[]→af→Prop}{h0:af}(h:uZ x0 x1 x2 K h0):HC PG gX [.pointer x0,.slice x1.a x1.len x1.cap,.slice x2.a x2.len x2.cap] [] K h0:=HC.intro (an:=CC) (c:=Tryz.f74.body.getD .skip) Tryz.mixed Tryz.func74 rfl Tryz.call74 (ae rfl) (di (by kernel_rfl) h)
def xh(x0:Option Addr)(x1:ByteArray)(K:(SliceV)→af→Prop)(h0:af):Prop:=
 CondP x0.isNone (
 K ⟨none,0,0⟩ h0) (
 HC PG dJ [.pointer x0] [.c .str] (fun(e1:ByteArray) h2=>
 (((x1.size+e1.size:Nat):Int)≤9223372036854775807∧
 Join (fun(t10:SliceV) h11=>
 HC PG jB [.pointer x0] [.c .slice] (fun(e12:SliceV) h13=>
 LoopP (fun I14 (t15:SliceV×Int) h16=>
 CondP (decide (t15.2<(e12.len:Int))) (
 Join (fun(t25:SliceV) h26=>
 I14 (t25,ac .i64 (t15.2+1)) h26) (fun J17=>
 (bP t15.2 e12.len∧∃a18,e12.a=some a18∧
 ∃v19,aj h16 a18 (t15.2.toNat*1) (.pointer v19)∧
 HC PG jE [.pointer v19,.string (x1++e1)] [.c .slice] (fun(e20:SliceV) h21=>
 ∃xs22,SRow h21 e20.a (e20.len*2) xs22∧
 AppP (some [.string (⟨#[]⟩:ByteArray),.string (⟨#[]⟩:ByteArray)]) 2 32 aq t15.1.a t15.1.len t15.1.cap e20.len xs22 h21 (fun s23 h24=>
 J17 s23 h24)) h16))) (
 K t15.1 h16)) (t10,0) h13) h11) (fun J3=>
 HC PG kJ [.pointer x0] [.c .str,.c .bool] (fun(e4:ByteArray×Bool) h5=>
 CondP e4.2 (
 At (hnew h5 [.string (x1++e1),.string e4.1] aq) (fun h6=>
 ∃xs7,SRow h6 (some (ag h5)) (1*2) xs7∧
 AppP (some [.string (⟨#[]⟩:ByteArray),.string (⟨#[]⟩:ByteArray)]) 2 32 aq none 0 0 1 xs7 h6 (fun s8 h9=>
 J3 s8 h9))) (
 J3 ⟨none,0,0⟩ h5)) h2))) h0)
noncomputable def LH:Ann:=.node .nil (.node .nil (.node .nil (.node .nil (.join [(6,.c .slice)] .nil (.node (.node .nil (.loop [(6,.c .slice),(32,.c (.int .i64))] (.node .nil (.node .nil (.join [(6,.c .slice)] .nil .nil))))) .nil)))))
theorem Dk(x0:Option Addr)(x1:ByteArray){K:cJ[.c .slice]→af→Prop}{h0:af}(h:xh x0 x1 K h0):HC PG jE [.pointer x0,.string x1] [.c .slice] K h0:=HC.intro (an:=LH) (c:=Tryz.f75.body.getD .skip) Tryz.mixed Tryz.func75 rfl Tryz.call75 (ae rfl) (di (by kernel_rfl) h)
def FR(x0:Option Addr)(x1:ByteArray)(K:(SliceV)→af→Prop)(h0:af):Prop:=
 HC PG kJ [.pointer x0] [.c .str,.c .bool] (fun(e1:ByteArray×Bool) h2=>
 CondP (!e1.2) (
 K ⟨none,0,0⟩ h2) (
 At (hnew h2 [.string x1,.string e1.1] aq) (fun h3=>
 K ⟨some (ag h2),1,1⟩ h3))) h0
noncomputable def NM:Ann:=.nil
theorem Nv(x0:Option Addr)(x1:ByteArray){K:cJ[.c .slice]→af→Prop}{h0:af}(h:FR x0 x1 K h0):HC PG vC [.pointer x0,.string x1] [.c .slice] K h0:=HC.intro (an:=NM) (c:=Tryz.f76.body.getD .skip) Tryz.mixed Tryz.func76 rfl Tryz.call76 (ae rfl) (di (by kernel_rfl) h)
def tN(x0:Option Addr)(K:(SliceV)→af→Prop)(h0:af):Prop:=
 CondP x0.isNone (
 K ⟨none,0,0⟩ h0) (
 ∃a1,x0=some a1∧
 ∃v2:SliceV,aj h0 a1 3 (.slice v2.a v2.len v2.cap)∧
 HC PG cT [.slice v2.a v2.len v2.cap] [.c .slice] (fun(e3:SliceV) h4=>
 K e3 h4) h0)
noncomputable def Bh:Ann:=.nil
theorem AI(x0:Option Addr){K:cJ[.c .slice]→af→Prop}{h0:af}(h:tN x0 K h0):HC PG jB [.pointer x0] [.c .slice] K h0:=HC.intro (an:=Bh) (c:=Tryz.f77.body.getD .skip) Tryz.mixed Tryz.func77 rfl Tryz.call77 (ae rfl) (di (by kernel_rfl) h)
def qR(x0:Option Addr)(K:(Bool)→af→Prop)(h0:af):Prop:=
 CondP (!(x0.isNone)) (
 ∃a1,x0=some a1∧
 ∃v2,aj h0 a1 4 (.bool v2)∧
 K v2 h0) (
 K false h0)
noncomputable def xp:Ann:=.nil
theorem xd(x0:Option Addr){K:cJ[.c .bool]→af→Prop}{h0:af}(h:qR x0 K h0):HC PG eY [.pointer x0] [.c .bool] K h0:=HC.intro (an:=xp) (c:=Tryz.f78.body.getD .skip) Tryz.mixed Tryz.func78 rfl Tryz.call78 (ae rfl) (di (by kernel_rfl) h)
def pG(x0:Option Addr)(K:(SliceV)→af→Prop)(h0:af):Prop:=
 CondP x0.isNone (
 K ⟨none,0,0⟩ h0) (
 ∃a1,x0=some a1∧
 ∃v2:SliceV,aj h0 (adr a1 0) 2 (.slice v2.a v2.len v2.cap)∧
 HC PG cC [.slice v2.a v2.len v2.cap] [.c .slice] (fun(e3:SliceV) h4=>
 K e3 h4) h0)
noncomputable def Bk:Ann:=.nil
theorem tD(x0:Option Addr){K:cJ[.c .slice]→af→Prop}{h0:af}(h:pG x0 K h0):HC PG gh [.pointer x0] [.c .slice] K h0:=HC.intro (an:=Bk) (c:=Tryz.f79.body.getD .skip) Tryz.mixed Tryz.func79 rfl Tryz.call79 (ae rfl) (di (by kernel_rfl) h)
end Go.Proofs
