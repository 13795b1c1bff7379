/- A part of the proof that the named laws of this program answer true, whatever the input. -/
import Derived.Test.YtncppacbfagpgaaGreatTreeF
set_option maxRecDepth 100000
set_option linter.unusedVariables false
open Int renaming tmod→oQ
open Nat renaming le_of_ble_eq_true→ad
namespace Go.Proofs
open Go.Lift
def xd(x0:Int)(x1:Int×Int×Int)(x2:SliceV)(x3:SliceV)(x4:SliceV)(x5:Int)(x6:ByteArray)(K:(Bool)→af→Prop)(h0:af):Prop:=
 At (hnew h0 [.int .u64 x1.1,.int .u64 x1.2.1,.int .u64 x1.2.2] cn) (fun h1=>
 HC PG xL [] [.c .bool] (fun(e2:Bool) h3=>
 CondP (!e2) (
 K false h3) (
 ∃v4,ae h3 (ag h0) 0 (.int .u64 v4)∧
 ∃v5,ae h3 (ag h0) 1 (.int .u64 v5)∧
 ∃v6,ae h3 (ag h0) 2 (.int .u64 v6)∧
 HC PG xK [.int .u8 x0,.agg #[.int .u64 v4,.int .u64 v5,.int .u64 v6]] [.agg [.int .i64,.int .u64,.int .u64,.int .u64,.ptr,.ptr],.agg [.int .i64,.int .u64,.int .u64,.int .u64,.slice]] (fun(e7:(T6)×(Int×Int×Int×Int×SliceV)) h8=>
 At (hnew h8 [.int .i64 0,.int .u64 0,.int .u64 0,.int .u64 0,.pointer none,.pointer none] aV) (fun h9=>
 At (hnew h9 [.int .i64 0,.int .u64 0,.int .u64 0,.int .u64 0,.slice none 0 0] dQ) (fun h10=>
 (dq h10 (some (ag h8)) 0 [.int .i64 e7.1.1,.int .u64 e7.1.2.1,.int .u64 e7.1.2.2.1,.int .u64 e7.1.2.2.2.1,.pointer e7.1.2.2.2.2.1,.pointer e7.1.2.2.2.2.2]∧
 At (aX h10 (ag h8) 0 [.int .i64 e7.1.1,.int .u64 e7.1.2.1,.int .u64 e7.1.2.2.1,.int .u64 e7.1.2.2.2.1,.pointer e7.1.2.2.2.2.1,.pointer e7.1.2.2.2.2.2]) (fun h11=>
 (dq h11 (some (ag h9)) 0 [.int .i64 e7.2.1,.int .u64 e7.2.2.1,.int .u64 e7.2.2.2.1,.int .u64 e7.2.2.2.2.1,.slice e7.2.2.2.2.2.a e7.2.2.2.2.2.len e7.2.2.2.2.2.cap]∧
 At (aX h11 (ag h9) 0 [.int .i64 e7.2.1,.int .u64 e7.2.2.1,.int .u64 e7.2.2.2.1,.int .u64 e7.2.2.2.2.1,.slice e7.2.2.2.2.2.a e7.2.2.2.2.2.len e7.2.2.2.2.2.cap]) (fun h12=>
 ∃v13,ae h12 (ag h8) 0 (.int .i64 v13)∧
 ∃v14,ae h12 (ag h8) 1 (.int .u64 v14)∧
 ∃v15,ae h12 (ag h8) 2 (.int .u64 v15)∧
 ∃v16,ae h12 (ag h8) 3 (.int .u64 v16)∧
 ∃v17,ae h12 (ag h8) 4 (.pointer v17)∧
 ∃v18,ae h12 (ag h8) 5 (.pointer v18)∧
 ∃v19,ae h12 (ag h9) 0 (.int .i64 v19)∧
 ∃v20,ae h12 (ag h9) 1 (.int .u64 v20)∧
 ∃v21,ae h12 (ag h9) 2 (.int .u64 v21)∧
 ∃v22,ae h12 (ag h9) 3 (.int .u64 v22)∧
 ∃v23:SliceV,ae h12 (ag h9) 4 (.slice v23.a v23.len v23.cap)∧
 HC PG ua [.agg #[.int .i64 v13,.int .u64 v14,.int .u64 v15,.int .u64 v16,.pointer v17,.pointer v18],.agg #[.int .i64 v19,.int .u64 v20,.int .u64 v21,.int .u64 v22,.slice v23.a v23.len v23.cap],.slice x2.a x2.len x2.cap,.slice none 0 0] [.agg [.int .i64,.int .u64,.int .u64,.int .u64,.ptr,.ptr],.agg [.int .i64,.int .u64,.int .u64,.int .u64,.slice]] (fun(e24:(T6)×(Int×Int×Int×Int×SliceV)) h25=>
 At (hnew h25 [.int .i64 0,.int .u64 0,.int .u64 0,.int .u64 0,.pointer none,.pointer none] aV) (fun h26=>
 At (hnew h26 [.int .i64 0,.int .u64 0,.int .u64 0,.int .u64 0,.slice none 0 0] dQ) (fun h27=>
 (dq h27 (some (ag h25)) 0 [.int .i64 e24.1.1,.int .u64 e24.1.2.1,.int .u64 e24.1.2.2.1,.int .u64 e24.1.2.2.2.1,.pointer e24.1.2.2.2.2.1,.pointer e24.1.2.2.2.2.2]∧
 At (aX h27 (ag h25) 0 [.int .i64 e24.1.1,.int .u64 e24.1.2.1,.int .u64 e24.1.2.2.1,.int .u64 e24.1.2.2.2.1,.pointer e24.1.2.2.2.2.1,.pointer e24.1.2.2.2.2.2]) (fun h28=>
 (dq h28 (some (ag h26)) 0 [.int .i64 e24.2.1,.int .u64 e24.2.2.1,.int .u64 e24.2.2.2.1,.int .u64 e24.2.2.2.2.1,.slice e24.2.2.2.2.2.a e24.2.2.2.2.2.len e24.2.2.2.2.2.cap]∧
 At (aX h28 (ag h26) 0 [.int .i64 e24.2.1,.int .u64 e24.2.2.1,.int .u64 e24.2.2.2.1,.int .u64 e24.2.2.2.2.1,.slice e24.2.2.2.2.2.a e24.2.2.2.2.2.len e24.2.2.2.2.2.cap]) (fun h29=>
 ∃v30,ae h29 (ag h25) 0 (.int .i64 v30)∧
 ∃v31,ae h29 (ag h25) 1 (.int .u64 v31)∧
 ∃v32,ae h29 (ag h25) 2 (.int .u64 v32)∧
 ∃v33,ae h29 (ag h25) 3 (.int .u64 v33)∧
 ∃v34,ae h29 (ag h25) 4 (.pointer v34)∧
 ∃v35,ae h29 (ag h25) 5 (.pointer v35)∧
 ∃v36,ae h29 (ag h9) 0 (.int .i64 v36)∧
 ∃v37,ae h29 (ag h9) 1 (.int .u64 v37)∧
 ∃v38,ae h29 (ag h9) 2 (.int .u64 v38)∧
 ∃v39,ae h29 (ag h9) 3 (.int .u64 v39)∧
 ∃v40:SliceV,ae h29 (ag h9) 4 (.slice v40.a v40.len v40.cap)∧
 HC PG ua [.agg #[.int .i64 v30,.int .u64 v31,.int .u64 v32,.int .u64 v33,.pointer v34,.pointer v35],.agg #[.int .i64 v36,.int .u64 v37,.int .u64 v38,.int .u64 v39,.slice v40.a v40.len v40.cap],.slice x3.a x3.len x3.cap,.slice x4.a x4.len x4.cap] [.agg [.int .i64,.int .u64,.int .u64,.int .u64,.ptr,.ptr],.agg [.int .i64,.int .u64,.int .u64,.int .u64,.slice]] (fun(e41:(T6)×(Int×Int×Int×Int×SliceV)) h42=>
 At (hnew h42 [.int .i64 0,.int .u64 0,.int .u64 0,.int .u64 0,.pointer none,.pointer none] aV) (fun h43=>
 At (hnew h43 [.int .i64 0,.int .u64 0,.int .u64 0,.int .u64 0,.slice none 0 0] dQ) (fun h44=>
 (dq h44 (some (ag h42)) 0 [.int .i64 e41.1.1,.int .u64 e41.1.2.1,.int .u64 e41.1.2.2.1,.int .u64 e41.1.2.2.2.1,.pointer e41.1.2.2.2.2.1,.pointer e41.1.2.2.2.2.2]∧
 At (aX h44 (ag h42) 0 [.int .i64 e41.1.1,.int .u64 e41.1.2.1,.int .u64 e41.1.2.2.1,.int .u64 e41.1.2.2.2.1,.pointer e41.1.2.2.2.2.1,.pointer e41.1.2.2.2.2.2]) (fun h45=>
 (dq h45 (some (ag h43)) 0 [.int .i64 e41.2.1,.int .u64 e41.2.2.1,.int .u64 e41.2.2.2.1,.int .u64 e41.2.2.2.2.1,.slice e41.2.2.2.2.2.a e41.2.2.2.2.2.len e41.2.2.2.2.2.cap]∧
 At (aX h45 (ag h43) 0 [.int .i64 e41.2.1,.int .u64 e41.2.2.1,.int .u64 e41.2.2.2.1,.int .u64 e41.2.2.2.2.1,.slice e41.2.2.2.2.2.a e41.2.2.2.2.2.len e41.2.2.2.2.2.cap]) (fun h46=>
 ∃v47,ae h46 (ag h25) 0 (.int .i64 v47)∧
 ∃v48,ae h46 (ag h25) 1 (.int .u64 v48)∧
 ∃v49,ae h46 (ag h25) 2 (.int .u64 v49)∧
 ∃v50,ae h46 (ag h25) 3 (.int .u64 v50)∧
 ∃v51,ae h46 (ag h25) 4 (.pointer v51)∧
 ∃v52,ae h46 (ag h25) 5 (.pointer v52)∧
 ∃v53,ae h46 (ag h42) 0 (.int .i64 v53)∧
 ∃v54,ae h46 (ag h42) 1 (.int .u64 v54)∧
 ∃v55,ae h46 (ag h42) 2 (.int .u64 v55)∧
 ∃v56,ae h46 (ag h42) 3 (.int .u64 v56)∧
 ∃v57,ae h46 (ag h42) 4 (.pointer v57)∧
 ∃v58,ae h46 (ag h42) 5 (.pointer v58)∧
 HC PG sF [.agg #[.int .i64 v47,.int .u64 v48,.int .u64 v49,.int .u64 v50,.pointer v51,.pointer v52],.agg #[.int .i64 v53,.int .u64 v54,.int .u64 v55,.int .u64 v56,.pointer v57,.pointer v58]] [.c .slice,.c (.int .i64)] (fun(e59:SliceV×Int) h60=>
 ((IntKind.wrap .i64 ((e59.1.len:Int)+1))≠0∧
 Bd (oQ (IntKind.wrap .i64 x5) (IntKind.wrap .i64 ((e59.1.len:Int)+1)):Int) (fun n61=>
 Join (fun(t94:Addr×Int) h95=>
 Join (fun(t131:Addr×Int) h132=>
 (((0:Int)≤n61∧n61≤((e59.1.cap:Nat):Int))∧
 (((0:Int)≤n61∧n61≤((e59.1.len:Nat):Int))∧
 HC PG xN [.slice (aM e59.1.a 0 e59.1.cap 5) (n61.toNat-0) (e59.1.cap-0),.slice (aM e59.1.a n61.toNat e59.1.cap 5) (e59.1.len-n61.toNat) (e59.1.cap-n61.toNat)] [.c .slice,.c (.int .i64)] (fun(e133:SliceV×Int) h134=>
 Join (fun(t152:Bool) h153=>
 CondP t152 (
 K false h153) (
 (((0:Int)≤(if 30<(x6.size:Int)then 30 else(x6.size:Int))∧(if 30<(x6.size:Int)then 30 else(x6.size:Int))≤((x6.size:Nat):Int))∧
 Bd (x6.extract 0 ((if 30<(x6.size:Int)then 30 else(x6.size:Int)).toNat):ByteArray) (fun s154=>
 ∃v155,ae h153 (ag h25) 0 (.int .i64 v155)∧
 ∃v156,ae h153 (ag h25) 1 (.int .u64 v156)∧
 ∃v157,ae h153 (ag h25) 2 (.int .u64 v157)∧
 ∃v158,ae h153 (ag h25) 3 (.int .u64 v158)∧
 ∃v159,ae h153 (ag h25) 4 (.pointer v159)∧
 ∃v160,ae h153 (ag h25) 5 (.pointer v160)∧
 HC PG lQ [.agg #[.int .i64 v155,.int .u64 v156,.int .u64 v157,.int .u64 v158,.pointer v159,.pointer v160],.string s154] [.c .str,.c .bool] (fun(e161:ByteArray×Bool) h162=>
 ∃v163,ae h162 (ag h42) 0 (.int .i64 v163)∧
 ∃v164,ae h162 (ag h42) 1 (.int .u64 v164)∧
 ∃v165,ae h162 (ag h42) 2 (.int .u64 v165)∧
 ∃v166,ae h162 (ag h42) 3 (.int .u64 v166)∧
 ∃v167,ae h162 (ag h42) 4 (.pointer v167)∧
 ∃v168,ae h162 (ag h42) 5 (.pointer v168)∧
 HC PG lQ [.agg #[.int .i64 v163,.int .u64 v164,.int .u64 v165,.int .u64 v166,.pointer v167,.pointer v168],.string s154] [.c .str,.c .bool] (fun(e169:ByteArray×Bool) h170=>
 LoopP (fun I171 (t172:Bool×Int) h173=>
 CondP (decide (t172.2<(e59.1.len:Int))) (
 Join (fun(t184:Bool) h185=>
 I171 (t184,IntKind.wrap .i64 (t172.2+1)) h185) (fun J174=>
 (bS t172.2 e59.1.len∧∃a175,e59.1.a=some a175∧
 ∃v176,ae h173 (adr a175 (t172.2.toNat*5)) 0 (.string v176)∧
 ∃v177,ae h173 (adr a175 (t172.2.toNat*5)) 1 (.string v177)∧
 ∃v178,ae h173 (adr a175 (t172.2.toNat*5)) 2 (.string v178)∧
 ∃v179,ae h173 (adr a175 (t172.2.toNat*5)) 3 (.bool v179)∧
 ∃v180,ae h173 (adr a175 (t172.2.toNat*5)) 4 (.bool v180)∧
 At (hnew h173 [.string (⟨#[]⟩:ByteArray),.string (⟨#[]⟩:ByteArray),.string (⟨#[]⟩:ByteArray),.bool false,.bool false] aO) (fun h181=>
 (dq h181 (some (ag h173)) 0 [.string v176,.string v177,.string v178,.bool v179,.bool v180]∧
 At (aX h181 (ag h173) 0 [.string v176,.string v177,.string v178,.bool v179,.bool v180]) (fun h182=>
 CondP t172.1 (
 J174 true h182) (
 ∃v183,ae h182 (ag h173) 0 (.string v183)∧
 J174 (v183.toList==s154.toList) h182))))))) (
 CondP (!(e161.1.toList==e169.1.toList)) (
 K (t172.1==true) h173) (
 K (t172.1==(!(e161.2==e169.2))) h173))) (false,0) h170) h162) h153)))) (fun J135=>
 CondP (e59.2 !=(0:Int)) (
 J135 true h134) (
 CondP (t94.2 !=(0:Int)) (
 J135 true h134) (
 CondP (t131.2 !=(0:Int)) (
 J135 true h134) (
 CondP (e133.2 !=(0:Int)) (
 J135 true h134) (
 ∃v136,ae h134 t131.1 0 (.int .i64 v136)∧
 ∃v137,ae h134 t131.1 1 (.int .u64 v137)∧
 ∃v138,ae h134 t131.1 2 (.int .u64 v138)∧
 ∃v139,ae h134 t131.1 3 (.int .u64 v139)∧
 ∃v140,ae h134 t131.1 4 (.pointer v140)∧
 ∃v141,ae h134 t131.1 5 (.pointer v141)∧
 ∃v142,ae h134 (ag h42) 0 (.int .i64 v142)∧
 ∃v143,ae h134 (ag h42) 1 (.int .u64 v143)∧
 ∃v144,ae h134 (ag h42) 2 (.int .u64 v144)∧
 ∃v145,ae h134 (ag h42) 3 (.int .u64 v145)∧
 ∃v146,ae h134 (ag h42) 4 (.pointer v146)∧
 ∃v147,ae h134 (ag h42) 5 (.pointer v147)∧
 HC PG xF [.agg #[.int .i64 v136,.int .u64 v137,.int .u64 v138,.int .u64 v139,.pointer v140,.pointer v141],.agg #[.int .i64 v142,.int .u64 v143,.int .u64 v144,.int .u64 v145,.pointer v146,.pointer v147]] [.c .bool] (fun(e148:Bool) h149=>
 CondP (!e148) (
 J135 true h149) (
 HC PG xM [.slice e133.1.a e133.1.len e133.1.cap,.slice e59.1.a e59.1.len e59.1.cap] [.c .bool] (fun(e150:Bool) h151=>
 J135 (!e150) h151) h149)) h134)))))) h132))) (fun J116=>
 ∃v117,ae h95 t94.1 0 (.int .i64 v117)∧
 ∃v118,ae h95 t94.1 1 (.int .u64 v118)∧
 ∃v119,ae h95 t94.1 2 (.int .u64 v119)∧
 ∃v120,ae h95 t94.1 3 (.int .u64 v120)∧
 ∃v121,ae h95 t94.1 4 (.pointer v121)∧
 ∃v122,ae h95 t94.1 5 (.pointer v122)∧
 (((0:Int)≤n61∧n61≤((e59.1.len:Nat):Int))∧
 ((HC PG jS [.agg #[.int .i64 v117,.int .u64 v118,.int .u64 v119,.int .u64 v120,.pointer v121,.pointer v122],.slice (aM e59.1.a n61.toNat e59.1.cap 5) (e59.1.len-n61.toNat) (e59.1.cap-n61.toNat)] [.agg [.int .i64,.int .u64,.int .u64,.int .u64,.ptr,.ptr],.c (.int .i64)] (fun(e123:(T6)×Int) h124=>
 At (hnew h124 [.int .i64 0,.int .u64 0,.int .u64 0,.int .u64 0,.pointer none,.pointer none] aV) (fun h125=>
 (dq h125 (some (ag h124)) 0 [.int .i64 e123.1.1,.int .u64 e123.1.2.1,.int .u64 e123.1.2.2.1,.int .u64 e123.1.2.2.2.1,.pointer e123.1.2.2.2.2.1,.pointer e123.1.2.2.2.2.2]∧
 At (aX h125 (ag h124) 0 [.int .i64 e123.1.1,.int .u64 e123.1.2.1,.int .u64 e123.1.2.2.1,.int .u64 e123.1.2.2.2.1,.pointer e123.1.2.2.2.2.1,.pointer e123.1.2.2.2.2.2]) (fun h126=>
 J116 (ag h124,e123.2) h126)))) h95)∧
 At (hnew h95 [.int .i64 0,.int .u64 0,.int .u64 0,.int .u64 0,.pointer none,.pointer none] aV) (fun h127=>
 ((ae h127 t94.1 0 (.int .i64 v117)∧ae h127 t94.1 1 (.int .u64 v118)∧ae h127 t94.1 2 (.int .u64 v119)∧ae h127 t94.1 3 (.int .u64 v120)∧ae h127 t94.1 4 (.pointer v121)∧ae h127 t94.1 5 (.pointer v122))∧
 HC PG jS [.agg #[.int .i64 v117,.int .u64 v118,.int .u64 v119,.int .u64 v120,.pointer v121,.pointer v122],.slice (aM e59.1.a n61.toNat e59.1.cap 5) (e59.1.len-n61.toNat) (e59.1.cap-n61.toNat)] [.agg [.int .i64,.int .u64,.int .u64,.int .u64,.ptr,.ptr],.c (.int .i64)] (fun(e128:(T6)×Int) h129=>
 (dq h129 (some (ag h95)) 0 [.int .i64 e128.1.1,.int .u64 e128.1.2.1,.int .u64 e128.1.2.2.1,.int .u64 e128.1.2.2.2.1,.pointer e128.1.2.2.2.2.1,.pointer e128.1.2.2.2.2.2]∧
 At (aX h129 (ag h95) 0 [.int .i64 e128.1.1,.int .u64 e128.1.2.1,.int .u64 e128.1.2.2.1,.int .u64 e128.1.2.2.2.1,.pointer e128.1.2.2.2.2.1,.pointer e128.1.2.2.2.2.2]) (fun h130=>
 J116 (ag h95,e128.2) h130))) h127)))))) (fun J79=>
 ∃v80,ae h60 (ag h25) 0 (.int .i64 v80)∧
 ∃v81,ae h60 (ag h25) 1 (.int .u64 v81)∧
 ∃v82,ae h60 (ag h25) 2 (.int .u64 v82)∧
 ∃v83,ae h60 (ag h25) 3 (.int .u64 v83)∧
 ∃v84,ae h60 (ag h25) 4 (.pointer v84)∧
 ∃v85,ae h60 (ag h25) 5 (.pointer v85)∧
 (((0:Int)≤n61∧n61≤((e59.1.cap:Nat):Int))∧
 ((HC PG jS [.agg #[.int .i64 v80,.int .u64 v81,.int .u64 v82,.int .u64 v83,.pointer v84,.pointer v85],.slice (aM e59.1.a 0 e59.1.cap 5) (n61.toNat-0) (e59.1.cap-0)] [.agg [.int .i64,.int .u64,.int .u64,.int .u64,.ptr,.ptr],.c (.int .i64)] (fun(e86:(T6)×Int) h87=>
 At (hnew h87 [.int .i64 0,.int .u64 0,.int .u64 0,.int .u64 0,.pointer none,.pointer none] aV) (fun h88=>
 (dq h88 (some (ag h87)) 0 [.int .i64 e86.1.1,.int .u64 e86.1.2.1,.int .u64 e86.1.2.2.1,.int .u64 e86.1.2.2.2.1,.pointer e86.1.2.2.2.2.1,.pointer e86.1.2.2.2.2.2]∧
 At (aX h88 (ag h87) 0 [.int .i64 e86.1.1,.int .u64 e86.1.2.1,.int .u64 e86.1.2.2.1,.int .u64 e86.1.2.2.2.1,.pointer e86.1.2.2.2.2.1,.pointer e86.1.2.2.2.2.2]) (fun h89=>
 J79 (ag h87,e86.2) h89)))) h60)∧
 At (hnew h60 [.int .i64 0,.int .u64 0,.int .u64 0,.int .u64 0,.pointer none,.pointer none] aV) (fun h90=>
 ((ae h90 (ag h25) 0 (.int .i64 v80)∧ae h90 (ag h25) 1 (.int .u64 v81)∧ae h90 (ag h25) 2 (.int .u64 v82)∧ae h90 (ag h25) 3 (.int .u64 v83)∧ae h90 (ag h25) 4 (.pointer v84)∧ae h90 (ag h25) 5 (.pointer v85))∧
 HC PG jS [.agg #[.int .i64 v80,.int .u64 v81,.int .u64 v82,.int .u64 v83,.pointer v84,.pointer v85],.slice (aM e59.1.a 0 e59.1.cap 5) (n61.toNat-0) (e59.1.cap-0)] [.agg [.int .i64,.int .u64,.int .u64,.int .u64,.ptr,.ptr],.c (.int .i64)] (fun(e91:(T6)×Int) h92=>
 (dq h92 (some (ag h60)) 0 [.int .i64 e91.1.1,.int .u64 e91.1.2.1,.int .u64 e91.1.2.2.1,.int .u64 e91.1.2.2.2.1,.pointer e91.1.2.2.2.2.1,.pointer e91.1.2.2.2.2.2]∧
 At (aX h92 (ag h60) 0 [.int .i64 e91.1.1,.int .u64 e91.1.2.1,.int .u64 e91.1.2.2.1,.int .u64 e91.1.2.2.2.1,.pointer e91.1.2.2.2.2.1,.pointer e91.1.2.2.2.2.2]) (fun h93=>
 J79 (ag h60,e91.2) h93))) h90)))))))) h46))))))) h29))))))) h12))))))) h3)) h1)
noncomputable def EY:Ann:=.node .nil (.node .nil (.node .nil (.node .nil (.node .nil (.node .nil (.node .nil (.join [(24,.c .adr),(25,.c (.int .i64))] .nil (.join [(26,.c .adr),(27,.c (.int .i64))] .nil (.node .nil (.node (.join [(123,.c .bool)] .nil .nil) (.node .nil (.node .nil (.node .nil (.node .nil (.node (.node .nil (.loop [(34,.c .bool),(143,.c (.int .i64))] (.node .nil (.node .nil (.join [(34,.c .bool)] .nil .nil))))) .nil)))))))))))))))
theorem EO(x0:Int)(x1:Int×Int×Int)(x2:SliceV)(x3:SliceV)(x4:SliceV)(x5:Int)(x6:ByteArray){K:cD [.c .bool]→af→Prop}{h0:af}(h:xd x0 x1 x2 x3 x4 x5 x6 K h0):HC PG wW [.int .u8 x0,.agg #[.int .u64 x1.1,.int .u64 x1.2.1,.int .u64 x1.2.2],.slice x2.a x2.len x2.cap,.slice x3.a x3.len x3.cap,.slice x4.a x4.len x4.cap,.int .u8 x5,.string x6] [.c .bool] K h0:=HC.intro (an:=EY) (c:=Tryz.f4.body.getD .skip) Tryz.mixed Tryz.func4 rfl Tryz.call4 (ad rfl) (cT (by kernel_rfl) h)
def Et(K:(Bool)→af→Prop)(h0:af):Prop:=
 At (hnew h0 [.string (⟨#[97]⟩:ByteArray),.string (⟨#[49]⟩:ByteArray)] al) (fun h1=>
 HC PG sA [.int .i64 1,.agg #[.int .u64 0,.int .u64 0,.int .u64 0],.slice (some (ag h0)) 1 1] [.agg [.int .i64,.int .u64,.int .u64,.int .u64,.ptr,.ptr],.c (.int .i64)] (fun(e2:(T6)×Int) h3=>
 At (hnew h3 [.int .i64 0,.int .u64 0,.int .u64 0,.int .u64 0,.pointer none,.pointer none] aV) (fun h4=>
 (dq h4 (some (ag h3)) 0 [.int .i64 e2.1.1,.int .u64 e2.1.2.1,.int .u64 e2.1.2.2.1,.int .u64 e2.1.2.2.2.1,.pointer e2.1.2.2.2.2.1,.pointer e2.1.2.2.2.2.2]∧
 At (aX h4 (ag h3) 0 [.int .i64 e2.1.1,.int .u64 e2.1.2.1,.int .u64 e2.1.2.2.1,.int .u64 e2.1.2.2.2.1,.pointer e2.1.2.2.2.2.1,.pointer e2.1.2.2.2.2.2]) (fun h5=>
 At (hnew h5 [.string (⟨#[97]⟩:ByteArray),.string (⟨#[50]⟩:ByteArray),.string (⟨#[98]⟩:ByteArray),.string (⟨#[51]⟩:ByteArray)] al) (fun h6=>
 HC PG sA [.int .i64 1,.agg #[.int .u64 0,.int .u64 0,.int .u64 0],.slice (some (ag h5)) 2 2] [.agg [.int .i64,.int .u64,.int .u64,.int .u64,.ptr,.ptr],.c (.int .i64)] (fun(e7:(T6)×Int) h8=>
 At (hnew h8 [.int .i64 0,.int .u64 0,.int .u64 0,.int .u64 0,.pointer none,.pointer none] aV) (fun h9=>
 (dq h9 (some (ag h8)) 0 [.int .i64 e7.1.1,.int .u64 e7.1.2.1,.int .u64 e7.1.2.2.1,.int .u64 e7.1.2.2.2.1,.pointer e7.1.2.2.2.2.1,.pointer e7.1.2.2.2.2.2]∧
 At (aX h9 (ag h8) 0 [.int .i64 e7.1.1,.int .u64 e7.1.2.1,.int .u64 e7.1.2.2.1,.int .u64 e7.1.2.2.2.1,.pointer e7.1.2.2.2.2.1,.pointer e7.1.2.2.2.2.2]) (fun h10=>
 ∃v11,ae h10 (ag h3) 0 (.int .i64 v11)∧
 ∃v12,ae h10 (ag h3) 1 (.int .u64 v12)∧
 ∃v13,ae h10 (ag h3) 2 (.int .u64 v13)∧
 ∃v14,ae h10 (ag h3) 3 (.int .u64 v14)∧
 ∃v15,ae h10 (ag h3) 4 (.pointer v15)∧
 ∃v16,ae h10 (ag h3) 5 (.pointer v16)∧
 ∃v17,ae h10 (ag h8) 0 (.int .i64 v17)∧
 ∃v18,ae h10 (ag h8) 1 (.int .u64 v18)∧
 ∃v19,ae h10 (ag h8) 2 (.int .u64 v19)∧
 ∃v20,ae h10 (ag h8) 3 (.int .u64 v20)∧
 ∃v21,ae h10 (ag h8) 4 (.pointer v21)∧
 ∃v22,ae h10 (ag h8) 5 (.pointer v22)∧
 HC PG sF [.agg #[.int .i64 v11,.int .u64 v12,.int .u64 v13,.int .u64 v14,.pointer v15,.pointer v16],.agg #[.int .i64 v17,.int .u64 v18,.int .u64 v19,.int .u64 v20,.pointer v21,.pointer v22]] [.c .slice,.c (.int .i64)] (fun(e23:SliceV×Int) h24=>
 CondP (e23.2==(0:Int)) (
 CondP ((e23.1.len:Int)==(2:Int)) (
 (bS 0 e23.1.len∧∃a25,e23.1.a=some a25∧
 ∃v26,ae h24 (adr a25 ((0:Int).toNat*5)) 0 (.string v26)∧
 ∃v27,ae h24 (adr a25 ((0:Int).toNat*5)) 1 (.string v27)∧
 ∃v28,ae h24 (adr a25 ((0:Int).toNat*5)) 2 (.string v28)∧
 ∃v29,ae h24 (adr a25 ((0:Int).toNat*5)) 3 (.bool v29)∧
 ∃v30,ae h24 (adr a25 ((0:Int).toNat*5)) 4 (.bool v30)∧
 CondP ((v26.toList==(⟨#[97]⟩:ByteArray).toList)&&((v27.toList==(⟨#[49]⟩:ByteArray).toList)&&((v28.toList==(⟨#[50]⟩:ByteArray).toList)&&((v29==true)&&((v30==true)&&true))))) (
 (bS 1 e23.1.len∧∃a31,e23.1.a=some a31∧
 ∃v32,ae h24 (adr a31 ((1:Int).toNat*5)) 0 (.string v32)∧
 CondP (v32.toList==(⟨#[98]⟩:ByteArray).toList) (
 (bS 1 e23.1.len∧∃a33,e23.1.a=some a33∧
 ∃v34,ae h24 (adr a33 ((1:Int).toNat*5)) 3 (.bool v34)∧
 K (!v34) h24)) (
 K false h24))) (
 K false h24))) (
 K false h24)) (
 K false h24)) h10)))) h6))))) h1)
noncomputable def Nb:Ann:=.nil
theorem MS{K:cD [.c .bool]→af→Prop}{h0:af}(h:Et K h0):HC PG xL [] [.c .bool] K h0:=HC.intro (an:=Nb) (c:=Tryz.f7.body.getD .skip) Tryz.mixed Tryz.func7 rfl Tryz.call7 (ad rfl) (cT (by kernel_rfl) h)
def Es(x0:Int)(x1:Int×Int×Int)(K:((T6)×(Int×Int×Int×Int×SliceV))→af→Prop)(h0:af):Prop:=
 At (hnew h0 [.int .u64 x1.1,.int .u64 x1.2.1,.int .u64 x1.2.2] cn) (fun h1=>
 At (hnew h1 [.int .i64 0,.int .u64 0,.int .u64 0,.int .u64 0,.pointer none,.pointer none] aV) (fun h2=>
 At (hnew h2 [.int .i64 0,.int .u64 0,.int .u64 0,.int .u64 0,.slice none 0 0] dQ) (fun h3=>
 ((2:Int)≠0∧
 ∃v4,ae h3 (ag h0) 0 (.int .u64 v4)∧
 ∃v5,ae h3 (ag h0) 1 (.int .u64 v5)∧
 ∃v6,ae h3 (ag h0) 2 (.int .u64 v6)∧
 HC PG ww [.int .i64 (IntKind.wrap .i64 (oQ x0 2)),.agg #[.int .u64 v4,.int .u64 v5,.int .u64 v6]] [.agg [.int .i64,.int .u64,.int .u64,.int .u64,.ptr,.ptr],.c (.int .i64)] (fun(e7:(T6)×Int) h8=>
 At (hnew h8 [.int .i64 0,.int .u64 0,.int .u64 0,.int .u64 0,.pointer none,.pointer none] aV) (fun h9=>
 (dq h9 (some (ag h8)) 0 [.int .i64 e7.1.1,.int .u64 e7.1.2.1,.int .u64 e7.1.2.2.1,.int .u64 e7.1.2.2.2.1,.pointer e7.1.2.2.2.2.1,.pointer e7.1.2.2.2.2.2]∧
 At (aX h9 (ag h8) 0 [.int .i64 e7.1.1,.int .u64 e7.1.2.1,.int .u64 e7.1.2.2.1,.int .u64 e7.1.2.2.2.1,.pointer e7.1.2.2.2.2.1,.pointer e7.1.2.2.2.2.2]) (fun h10=>
 ((2:Int)≠0∧
 ∃v11,ae h10 (ag h0) 0 (.int .u64 v11)∧
 ∃v12,ae h10 (ag h0) 1 (.int .u64 v12)∧
 ∃v13,ae h10 (ag h0) 2 (.int .u64 v13)∧
 HC PG CW [.agg #[.int .u64 v11,.int .u64 v12,.int .u64 v13]] [.agg [.int .u64,.int .u64,.int .u64]] (fun(e14:Int×Int×Int) h15=>
 HC PG CT [.int .i64 (IntKind.wrap .i64 (oQ x0 2)),.agg #[.int .u64 e14.1,.int .u64 e14.2.1,.int .u64 e14.2.2]] [.agg [.int .i64,.int .u64,.int .u64,.int .u64,.slice],.c (.int .i64)] (fun(e16:(Int×Int×Int×Int×SliceV)×Int) h17=>
 At (hnew h17 [.int .i64 0,.int .u64 0,.int .u64 0,.int .u64 0,.slice none 0 0] dQ) (fun h18=>
 (dq h18 (some (ag h17)) 0 [.int .i64 e16.1.1,.int .u64 e16.1.2.1,.int .u64 e16.1.2.2.1,.int .u64 e16.1.2.2.2.1,.slice e16.1.2.2.2.2.a e16.1.2.2.2.2.len e16.1.2.2.2.2.cap]∧
 At (aX h18 (ag h17) 0 [.int .i64 e16.1.1,.int .u64 e16.1.2.1,.int .u64 e16.1.2.2.1,.int .u64 e16.1.2.2.2.1,.slice e16.1.2.2.2.2.a e16.1.2.2.2.2.len e16.1.2.2.2.2.cap]) (fun h19=>
 ∃v20,ae h19 (ag h8) 0 (.int .i64 v20)∧
 ∃v21,ae h19 (ag h8) 1 (.int .u64 v21)∧
 ∃v22,ae h19 (ag h8) 2 (.int .u64 v22)∧
 ∃v23,ae h19 (ag h8) 3 (.int .u64 v23)∧
 ∃v24,ae h19 (ag h8) 4 (.pointer v24)∧
 ∃v25,ae h19 (ag h8) 5 (.pointer v25)∧
 ∃v26,ae h19 (ag h17) 0 (.int .i64 v26)∧
 ∃v27,ae h19 (ag h17) 1 (.int .u64 v27)∧
 ∃v28,ae h19 (ag h17) 2 (.int .u64 v28)∧
 ∃v29,ae h19 (ag h17) 3 (.int .u64 v29)∧
 ∃v30:SliceV,ae h19 (ag h17) 4 (.slice v30.a v30.len v30.cap)∧
 (dq h19 (some (ag h1)) 0 [.int .i64 v20,.int .u64 v21,.int .u64 v22,.int .u64 v23,.pointer v24,.pointer v25]∧
 At (aX h19 (ag h1) 0 [.int .i64 v20,.int .u64 v21,.int .u64 v22,.int .u64 v23,.pointer v24,.pointer v25]) (fun h31=>
 ((ae h31 (ag h17) 0 (.int .i64 v26)∧ae h31 (ag h17) 1 (.int .u64 v27)∧ae h31 (ag h17) 2 (.int .u64 v28)∧ae h31 (ag h17) 3 (.int .u64 v29)∧ae h31 (ag h17) 4 (.slice v30.a v30.len v30.cap))∧
 (dq h31 (some (ag h2)) 0 [.int .i64 v26,.int .u64 v27,.int .u64 v28,.int .u64 v29,.slice v30.a v30.len v30.cap]∧
 At (aX h31 (ag h2) 0 [.int .i64 v26,.int .u64 v27,.int .u64 v28,.int .u64 v29,.slice v30.a v30.len v30.cap]) (fun h32=>
 ∃v33,ae h32 (ag h1) 0 (.int .i64 v33)∧
 ∃v34,ae h32 (ag h1) 1 (.int .u64 v34)∧
 ∃v35,ae h32 (ag h1) 2 (.int .u64 v35)∧
 ∃v36,ae h32 (ag h1) 3 (.int .u64 v36)∧
 ∃v37,ae h32 (ag h1) 4 (.pointer v37)∧
 ∃v38,ae h32 (ag h1) 5 (.pointer v38)∧
 ∃v39,ae h32 (ag h2) 0 (.int .i64 v39)∧
 ∃v40,ae h32 (ag h2) 1 (.int .u64 v40)∧
 ∃v41,ae h32 (ag h2) 2 (.int .u64 v41)∧
 ∃v42,ae h32 (ag h2) 3 (.int .u64 v42)∧
 ∃v43:SliceV,ae h32 (ag h2) 4 (.slice v43.a v43.len v43.cap)∧
 K ((v33,v34,v35,v36,v37,v38),(v39,v40,v41,v42,v43)) h32))))))))) h15) h10))))) h3))))
noncomputable def Na:Ann:=.nil
theorem MR(x0:Int)(x1:Int×Int×Int){K:cD [.agg [.int .i64,.int .u64,.int .u64,.int .u64,.ptr,.ptr],.agg [.int .i64,.int .u64,.int .u64,.int .u64,.slice]]→af→Prop}{h0:af}(h:Es x0 x1 K h0):HC PG xK [.int .u8 x0,.agg #[.int .u64 x1.1,.int .u64 x1.2.1,.int .u64 x1.2.2]] [.agg [.int .i64,.int .u64,.int .u64,.int .u64,.ptr,.ptr],.agg [.int .i64,.int .u64,.int .u64,.int .u64,.slice]] K h0:=HC.intro (an:=Na) (c:=Tryz.f8.body.getD .skip) Tryz.mixed Tryz.func8 rfl Tryz.call8 (ad rfl) (cT (by kernel_rfl) h)
def Er(x0:T6)(x1:Int×Int×Int×Int×SliceV)(x2:SliceV)(x3:SliceV)(K:((T6)×(Int×Int×Int×Int×SliceV))→af→Prop)(h0:af):Prop:=
 At (hnew h0 [.int .i64 x0.1,.int .u64 x0.2.1,.int .u64 x0.2.2.1,.int .u64 x0.2.2.2.1,.pointer x0.2.2.2.2.1,.pointer x0.2.2.2.2.2] aV) (fun h1=>
 At (hnew h1 [.int .i64 x1.1,.int .u64 x1.2.1,.int .u64 x1.2.2.1,.int .u64 x1.2.2.2.1,.slice x1.2.2.2.2.a x1.2.2.2.2.len x1.2.2.2.2.cap] dQ) (fun h2=>
 At (hnew h2 [.int .i64 0,.int .u64 0,.int .u64 0,.int .u64 0,.pointer none,.pointer none] aV) (fun h3=>
 At (hnew h3 [.int .i64 0,.int .u64 0,.int .u64 0,.int .u64 0,.slice none 0 0] dQ) (fun h4=>
 LoopP (fun I5 (t6:Int) h7=>
 CondP (decide (t6<(x2.len:Int))) (
 Join (fun(t43:Unit) h44=>
 I5 (IntKind.wrap .i64 (t6+1)) h44) (fun J8=>
 (bS t6 x2.len∧∃a9,x2.a=some a9∧
 ∃v10,ae h7 (adr a9 (t6.toNat*2)) 0 (.string v10)∧
 ∃v11,ae h7 (adr a9 (t6.toNat*2)) 1 (.string v11)∧
 At (hnew h7 [.string (⟨#[]⟩:ByteArray),.string (⟨#[]⟩:ByteArray)] al) (fun h12=>
 (dq h12 (some (ag h7)) 0 [.string v10,.string v11]∧
 At (aX h12 (ag h7) 0 [.string v10,.string v11]) (fun h13=>
 CondP (decide (t6<(25:Int))) (
 ∃v14,ae h13 (ag h7) 0 (.string v14)∧
 ∃v15,ae h13 (ag h7) 0 (.string v15)∧
 (((0:Int)≤(if 30<(v15.size:Int)then 30 else(v15.size:Int))∧(if 30<(v15.size:Int)then 30 else(v15.size:Int))≤((v14.size:Nat):Int))∧
 Bd (v14.extract 0 ((if 30<(v15.size:Int)then 30 else(v15.size:Int)).toNat):ByteArray) (fun s16=>
 ∃v17,ae h13 (ag h7) 1 (.string v17)∧
 ∃v18,ae h13 (ag h7) 1 (.string v18)∧
 (((0:Int)≤(if 30<(v18.size:Int)then 30 else(v18.size:Int))∧(if 30<(v18.size:Int)then 30 else(v18.size:Int))≤((v17.size:Nat):Int))∧
 Bd (v17.extract 0 ((if 30<(v18.size:Int)then 30 else(v18.size:Int)).toNat):ByteArray) (fun s19=>
 (Wr h13 (adr (ag h7) 0)∧
 At (hset h13 (adr (ag h7) 0) (.string s16)) (fun h20=>
 (Wr h20 (adr (ag h7) 1)∧
 At (hset h20 (adr (ag h7) 1) (.string s19)) (fun h21=>
 ∃v22,ae h21 (ag h0) 0 (.int .i64 v22)∧
 ∃v23,ae h21 (ag h0) 1 (.int .u64 v23)∧
 ∃v24,ae h21 (ag h0) 2 (.int .u64 v24)∧
 ∃v25,ae h21 (ag h0) 3 (.int .u64 v25)∧
 ∃v26,ae h21 (ag h0) 4 (.pointer v26)∧
 ∃v27,ae h21 (ag h0) 5 (.pointer v27)∧
 ∃v28,ae h21 (ag h7) 0 (.string v28)∧
 ∃v29,ae h21 (ag h7) 1 (.string v29)∧
 HC PG ns [.agg #[.int .i64 v22,.int .u64 v23,.int .u64 v24,.int .u64 v25,.pointer v26,.pointer v27],.pointer none,.agg #[.string v28,.string v29]] [.agg [.int .i64,.int .u64,.int .u64,.int .u64,.ptr,.ptr],.c (.int .i64)] (fun(e30:(T6)×Int) h31=>
 (dq h31 (some (ag h0)) 0 [.int .i64 e30.1.1,.int .u64 e30.1.2.1,.int .u64 e30.1.2.2.1,.int .u64 e30.1.2.2.2.1,.pointer e30.1.2.2.2.2.1,.pointer e30.1.2.2.2.2.2]∧
 At (aX h31 (ag h0) 0 [.int .i64 e30.1.1,.int .u64 e30.1.2.1,.int .u64 e30.1.2.2.1,.int .u64 e30.1.2.2.2.1,.pointer e30.1.2.2.2.2.1,.pointer e30.1.2.2.2.2.2]) (fun h32=>
 ∃v33,ae h32 (ag h1) 0 (.int .i64 v33)∧
 ∃v34,ae h32 (ag h1) 1 (.int .u64 v34)∧
 ∃v35,ae h32 (ag h1) 2 (.int .u64 v35)∧
 ∃v36,ae h32 (ag h1) 3 (.int .u64 v36)∧
 ∃v37:SliceV,ae h32 (ag h1) 4 (.slice v37.a v37.len v37.cap)∧
 ∃v38,ae h32 (ag h7) 0 (.string v38)∧
 ∃v39,ae h32 (ag h7) 1 (.string v39)∧
 HC PG zR [.agg #[.int .i64 v33,.int .u64 v34,.int .u64 v35,.int .u64 v36,.slice v37.a v37.len v37.cap],.agg #[.string v38,.string v39]] [.agg [.int .i64,.int .u64,.int .u64,.int .u64,.slice],.c (.int .i64)] (fun(e40:(Int×Int×Int×Int×SliceV)×Int) h41=>
 (dq h41 (some (ag h1)) 0 [.int .i64 e40.1.1,.int .u64 e40.1.2.1,.int .u64 e40.1.2.2.1,.int .u64 e40.1.2.2.2.1,.slice e40.1.2.2.2.2.a e40.1.2.2.2.2.len e40.1.2.2.2.2.cap]∧
 At (aX h41 (ag h1) 0 [.int .i64 e40.1.1,.int .u64 e40.1.2.1,.int .u64 e40.1.2.2.1,.int .u64 e40.1.2.2.2.1,.slice e40.1.2.2.2.2.a e40.1.2.2.2.2.len e40.1.2.2.2.2.cap]) (fun h42=>
 J8 () h42))) h32))) h21))))))))) (
 J8 () h13))))))) (
 LoopP (fun I45 (t46:Int) h47=>
 CondP (decide (t46<(x3.len:Int))) (
 Join (fun(t69:Unit) h70=>
 I45 (IntKind.wrap .i64 (t46+1)) h70) (fun J48=>
 (bS t46 x3.len∧∃a49,x3.a=some a49∧
 ∃v50,ae h47 a49 (t46.toNat*1) (.string v50)∧
 CondP (decide (t46<(15:Int))) (
 (((0:Int)≤(if 30<(v50.size:Int)then 30 else(v50.size:Int))∧(if 30<(v50.size:Int)then 30 else(v50.size:Int))≤((v50.size:Nat):Int))∧
 Bd (v50.extract 0 ((if 30<(v50.size:Int)then 30 else(v50.size:Int)).toNat):ByteArray) (fun s51=>
 ∃v52,ae h47 (ag h0) 0 (.int .i64 v52)∧
 ∃v53,ae h47 (ag h0) 1 (.int .u64 v53)∧
 ∃v54,ae h47 (ag h0) 2 (.int .u64 v54)∧
 ∃v55,ae h47 (ag h0) 3 (.int .u64 v55)∧
 ∃v56,ae h47 (ag h0) 4 (.pointer v56)∧
 ∃v57,ae h47 (ag h0) 5 (.pointer v57)∧
 HC PG kj [.agg #[.int .i64 v52,.int .u64 v53,.int .u64 v54,.int .u64 v55,.pointer v56,.pointer v57],.pointer none,.string s51] [.agg [.int .i64,.int .u64,.int .u64,.int .u64,.ptr,.ptr],.c (.int .i64)] (fun(e58:(T6)×Int) h59=>
 (dq h59 (some (ag h0)) 0 [.int .i64 e58.1.1,.int .u64 e58.1.2.1,.int .u64 e58.1.2.2.1,.int .u64 e58.1.2.2.2.1,.pointer e58.1.2.2.2.2.1,.pointer e58.1.2.2.2.2.2]∧
 At (aX h59 (ag h0) 0 [.int .i64 e58.1.1,.int .u64 e58.1.2.1,.int .u64 e58.1.2.2.1,.int .u64 e58.1.2.2.2.1,.pointer e58.1.2.2.2.2.1,.pointer e58.1.2.2.2.2.2]) (fun h60=>
 ∃v61,ae h60 (ag h1) 0 (.int .i64 v61)∧
 ∃v62,ae h60 (ag h1) 1 (.int .u64 v62)∧
 ∃v63,ae h60 (ag h1) 2 (.int .u64 v63)∧
 ∃v64,ae h60 (ag h1) 3 (.int .u64 v64)∧
 ∃v65:SliceV,ae h60 (ag h1) 4 (.slice v65.a v65.len v65.cap)∧
 HC PG uM [.agg #[.int .i64 v61,.int .u64 v62,.int .u64 v63,.int .u64 v64,.slice v65.a v65.len v65.cap],.string s51] [.agg [.int .i64,.int .u64,.int .u64,.int .u64,.slice],.c (.int .i64)] (fun(e66:(Int×Int×Int×Int×SliceV)×Int) h67=>
 (dq h67 (some (ag h1)) 0 [.int .i64 e66.1.1,.int .u64 e66.1.2.1,.int .u64 e66.1.2.2.1,.int .u64 e66.1.2.2.2.1,.slice e66.1.2.2.2.2.a e66.1.2.2.2.2.len e66.1.2.2.2.2.cap]∧
 At (aX h67 (ag h1) 0 [.int .i64 e66.1.1,.int .u64 e66.1.2.1,.int .u64 e66.1.2.2.1,.int .u64 e66.1.2.2.2.1,.slice e66.1.2.2.2.2.a e66.1.2.2.2.2.len e66.1.2.2.2.2.cap]) (fun h68=>
 J48 () h68))) h60))) h47))) (
 J48 () h47)))) (
 ∃v71,ae h47 (ag h0) 0 (.int .i64 v71)∧
 ∃v72,ae h47 (ag h0) 1 (.int .u64 v72)∧
 ∃v73,ae h47 (ag h0) 2 (.int .u64 v73)∧
 ∃v74,ae h47 (ag h0) 3 (.int .u64 v74)∧
 ∃v75,ae h47 (ag h0) 4 (.pointer v75)∧
 ∃v76,ae h47 (ag h0) 5 (.pointer v76)∧
 ∃v77,ae h47 (ag h1) 0 (.int .i64 v77)∧
 ∃v78,ae h47 (ag h1) 1 (.int .u64 v78)∧
 ∃v79,ae h47 (ag h1) 2 (.int .u64 v79)∧
 ∃v80,ae h47 (ag h1) 3 (.int .u64 v80)∧
 ∃v81:SliceV,ae h47 (ag h1) 4 (.slice v81.a v81.len v81.cap)∧
 (dq h47 (some (ag h2)) 0 [.int .i64 v71,.int .u64 v72,.int .u64 v73,.int .u64 v74,.pointer v75,.pointer v76]∧
 At (aX h47 (ag h2) 0 [.int .i64 v71,.int .u64 v72,.int .u64 v73,.int .u64 v74,.pointer v75,.pointer v76]) (fun h82=>
 ((ae h82 (ag h1) 0 (.int .i64 v77)∧ae h82 (ag h1) 1 (.int .u64 v78)∧ae h82 (ag h1) 2 (.int .u64 v79)∧ae h82 (ag h1) 3 (.int .u64 v80)∧ae h82 (ag h1) 4 (.slice v81.a v81.len v81.cap))∧
 (dq h82 (some (ag h3)) 0 [.int .i64 v77,.int .u64 v78,.int .u64 v79,.int .u64 v80,.slice v81.a v81.len v81.cap]∧
 At (aX h82 (ag h3) 0 [.int .i64 v77,.int .u64 v78,.int .u64 v79,.int .u64 v80,.slice v81.a v81.len v81.cap]) (fun h83=>
 ∃v84,ae h83 (ag h2) 0 (.int .i64 v84)∧
 ∃v85,ae h83 (ag h2) 1 (.int .u64 v85)∧
 ∃v86,ae h83 (ag h2) 2 (.int .u64 v86)∧
 ∃v87,ae h83 (ag h2) 3 (.int .u64 v87)∧
 ∃v88,ae h83 (ag h2) 4 (.pointer v88)∧
 ∃v89,ae h83 (ag h2) 5 (.pointer v89)∧
 ∃v90,ae h83 (ag h3) 0 (.int .i64 v90)∧
 ∃v91,ae h83 (ag h3) 1 (.int .u64 v91)∧
 ∃v92,ae h83 (ag h3) 2 (.int .u64 v92)∧
 ∃v93,ae h83 (ag h3) 3 (.int .u64 v93)∧
 ∃v94:SliceV,ae h83 (ag h3) 4 (.slice v94.a v94.len v94.cap)∧
 K ((v84,v85,v86,v87,v88,v89),(v90,v91,v92,v93,v94)) h83))))))) 0 h7)) 0 h4))))
noncomputable def M9:Ann:=.node .nil (.node (.node .nil (.loop [(16,.c (.int .i64))] (.node .nil (.node .nil (.join [] .nil .nil))))) (.node (.node .nil (.loop [(54,.c (.int .i64))] (.node .nil (.node .nil (.join [] .nil .nil))))) .nil))
theorem MQ(x0:T6)(x1:Int×Int×Int×Int×SliceV)(x2:SliceV)(x3:SliceV){K:cD [.agg [.int .i64,.int .u64,.int .u64,.int .u64,.ptr,.ptr],.agg [.int .i64,.int .u64,.int .u64,.int .u64,.slice]]→af→Prop}{h0:af}(h:Er x0 x1 x2 x3 K h0):HC PG ua [.agg #[.int .i64 x0.1,.int .u64 x0.2.1,.int .u64 x0.2.2.1,.int .u64 x0.2.2.2.1,.pointer x0.2.2.2.2.1,.pointer x0.2.2.2.2.2],.agg #[.int .i64 x1.1,.int .u64 x1.2.1,.int .u64 x1.2.2.1,.int .u64 x1.2.2.2.1,.slice x1.2.2.2.2.a x1.2.2.2.2.len x1.2.2.2.2.cap],.slice x2.a x2.len x2.cap,.slice x3.a x3.len x3.cap] [.agg [.int .i64,.int .u64,.int .u64,.int .u64,.ptr,.ptr],.agg [.int .i64,.int .u64,.int .u64,.int .u64,.slice]] K h0:=HC.intro (an:=M9) (c:=Tryz.f9.body.getD .skip) Tryz.mixed Tryz.func9 rfl Tryz.call9 (ad rfl) (cT (by kernel_rfl) h)
def Ju(x0:T6)(x1:T6)(K:(SliceV×Int)→af→Prop)(h0:af):Prop:=
 At (hnew h0 [.int .i64 x0.1,.int .u64 x0.2.1,.int .u64 x0.2.2.1,.int .u64 x0.2.2.2.1,.pointer x0.2.2.2.2.1,.pointer x0.2.2.2.2.2] aV) (fun h1=>
 At (hnew h1 [.int .i64 x1.1,.int .u64 x1.2.1,.int .u64 x1.2.2.1,.int .u64 x1.2.2.2.1,.pointer x1.2.2.2.2.1,.pointer x1.2.2.2.2.2] aV) (fun h2=>
 ∃v3,ae h2 (ag h0) 0 (.int .i64 v3)∧
 ∃v4,ae h2 (ag h0) 1 (.int .u64 v4)∧
 ∃v5,ae h2 (ag h0) 2 (.int .u64 v5)∧
 ∃v6,ae h2 (ag h0) 3 (.int .u64 v6)∧
 ∃v7,ae h2 (ag h0) 4 (.pointer v7)∧
 ∃v8,ae h2 (ag h0) 5 (.pointer v8)∧
 ∃v9,ae h2 (ag h1) 0 (.int .i64 v9)∧
 ∃v10,ae h2 (ag h1) 1 (.int .u64 v10)∧
 ∃v11,ae h2 (ag h1) 2 (.int .u64 v11)∧
 ∃v12,ae h2 (ag h1) 3 (.int .u64 v12)∧
 ∃v13,ae h2 (ag h1) 4 (.pointer v13)∧
 ∃v14,ae h2 (ag h1) 5 (.pointer v14)∧
 HC PG tY [.agg #[.int .i64 v3,.int .u64 v4,.int .u64 v5,.int .u64 v6,.pointer v7,.pointer v8],.agg #[.int .i64 v9,.int .u64 v10,.int .u64 v11,.int .u64 v12,.pointer v13,.pointer v14]] [.c .bool] (fun(e15:Bool) h16=>
 CondP (!e15) (
 K (⟨none,0,0⟩,11) h16) (
 ∃v17,ae h16 (ag h0) 0 (.int .i64 v17)∧
 ∃v18,ae h16 (ag h0) 1 (.int .u64 v18)∧
 ∃v19,ae h16 (ag h0) 2 (.int .u64 v19)∧
 ∃v20,ae h16 (ag h0) 3 (.int .u64 v20)∧
 ∃v21,ae h16 (ag h0) 4 (.pointer v21)∧
 ∃v22,ae h16 (ag h0) 5 (.pointer v22)∧
 HC PG pf [.agg #[.int .i64 v17,.int .u64 v18,.int .u64 v19,.int .u64 v20,.pointer v21,.pointer v22]] [.agg [.int .u64,.int .u64,.int .u64]] (fun(e23:Int×Int×Int) h24=>
 At (hnew h24 [.int .u64 e23.1,.int .u64 e23.2.1,.int .u64 e23.2.2,.slice none 0 0] zv) (fun h25=>
 Join (fun(t71:Unit) h72=>
 ∃a73,some (ag h24)=some a73∧
 ∃v74:SliceV,ae h72 a73 3 (.slice v74.a v74.len v74.cap)∧
 HC PG cq [.slice v74.a v74.len v74.cap,.func (.func m0) #[] #[]] [] (fun(e75:Unit) h76=>
 ∃a77,some (ag h24)=some a77∧
 ∃v78:SliceV,ae h76 a77 3 (.slice v78.a v78.len v78.cap)∧
 K (v78,0) h76) h72) (fun J26=>
 ∃v27,ae h25 (ag h0) 0 (.int .i64 v27)∧
 ∃v28,ae h25 (ag h0) 1 (.int .u64 v28)∧
 ∃v29,ae h25 (ag h0) 2 (.int .u64 v29)∧
 ∃v30,ae h25 (ag h0) 3 (.int .u64 v30)∧
 ∃v31,ae h25 (ag h0) 4 (.pointer v31)∧
 ∃v32,ae h25 (ag h0) 5 (.pointer v32)∧
 HC PG qH [.agg #[.int .i64 v27,.int .u64 v28,.int .u64 v29,.int .u64 v30,.pointer v31,.pointer v32]] [.c (.int .i64)] (fun(e33:Int) h34=>
 CondP (e33==(1:Int)) (
 ∃v35,ae h34 (ag h0) 0 (.int .i64 v35)∧
 ∃v36,ae h34 (ag h0) 1 (.int .u64 v36)∧
 ∃v37,ae h34 (ag h0) 2 (.int .u64 v37)∧
 ∃v38,ae h34 (ag h0) 3 (.int .u64 v38)∧
 ∃v39,ae h34 (ag h0) 4 (.pointer v39)∧
 ∃v40,ae h34 (ag h0) 5 (.pointer v40)∧
 ∃v41,ae h34 (ag h1) 0 (.int .i64 v41)∧
 ∃v42,ae h34 (ag h1) 1 (.int .u64 v42)∧
 ∃v43,ae h34 (ag h1) 2 (.int .u64 v43)∧
 ∃v44,ae h34 (ag h1) 3 (.int .u64 v44)∧
 ∃v45,ae h34 (ag h1) 4 (.pointer v45)∧
 ∃v46,ae h34 (ag h1) 5 (.pointer v46)∧
 HC PG mu [.agg #[.int .i64 v35,.int .u64 v36,.int .u64 v37,.int .u64 v38,.pointer v39,.pointer v40]] [.c .ptr] (fun(e47:Option Addr) h48=>
 ((ae h48 (ag h1) 0 (.int .i64 v41)∧ae h48 (ag h1) 1 (.int .u64 v42)∧ae h48 (ag h1) 2 (.int .u64 v43)∧ae h48 (ag h1) 3 (.int .u64 v44)∧ae h48 (ag h1) 4 (.pointer v45)∧ae h48 (ag h1) 5 (.pointer v46))∧
 HC PG mu [.agg #[.int .i64 v41,.int .u64 v42,.int .u64 v43,.int .u64 v44,.pointer v45,.pointer v46]] [.c .ptr] (fun(e49:Option Addr) h50=>
 HC PG ie [.pointer (some (ag h24)),.pointer e47,.pointer e49,.string (⟨#[]⟩:ByteArray)] [] (fun(e51:Unit) h52=>
 J26 () h52) h50) h48)) h34) (
 ∃v53,ae h34 (ag h0) 0 (.int .i64 v53)∧
 ∃v54,ae h34 (ag h0) 1 (.int .u64 v54)∧
 ∃v55,ae h34 (ag h0) 2 (.int .u64 v55)∧
 ∃v56,ae h34 (ag h0) 3 (.int .u64 v56)∧
 ∃v57,ae h34 (ag h0) 4 (.pointer v57)∧
 ∃v58,ae h34 (ag h0) 5 (.pointer v58)∧
 ∃v59,ae h34 (ag h1) 0 (.int .i64 v59)∧
 ∃v60,ae h34 (ag h1) 1 (.int .u64 v60)∧
 ∃v61,ae h34 (ag h1) 2 (.int .u64 v61)∧
 ∃v62,ae h34 (ag h1) 3 (.int .u64 v62)∧
 ∃v63,ae h34 (ag h1) 4 (.pointer v63)∧
 ∃v64,ae h34 (ag h1) 5 (.pointer v64)∧
 HC PG jJ [.agg #[.int .i64 v53,.int .u64 v54,.int .u64 v55,.int .u64 v56,.pointer v57,.pointer v58]] [.c .ptr] (fun(e65:Option Addr) h66=>
 ((ae h66 (ag h1) 0 (.int .i64 v59)∧ae h66 (ag h1) 1 (.int .u64 v60)∧ae h66 (ag h1) 2 (.int .u64 v61)∧ae h66 (ag h1) 3 (.int .u64 v62)∧ae h66 (ag h1) 4 (.pointer v63)∧ae h66 (ag h1) 5 (.pointer v64))∧
 HC PG jJ [.agg #[.int .i64 v59,.int .u64 v60,.int .u64 v61,.int .u64 v62,.pointer v63,.pointer v64]] [.c .ptr] (fun(e67:Option Addr) h68=>
 HC PG nE [.pointer (some (ag h24)),.pointer e65,.pointer e67] [] (fun(e69:Unit) h70=>
 J26 () h70) h68) h66)) h34)) h25))) h16)) h2))
noncomputable def RD:Ann:=.node .nil (.node .nil (.node .nil (.join [] .nil .nil)))
theorem Rw(x0:T6)(x1:T6){K:cD [.c .slice,.c (.int .i64)]→af→Prop}{h0:af}(h:Ju x0 x1 K h0):HC PG sF [.agg #[.int .i64 x0.1,.int .u64 x0.2.1,.int .u64 x0.2.2.1,.int .u64 x0.2.2.2.1,.pointer x0.2.2.2.2.1,.pointer x0.2.2.2.2.2],.agg #[.int .i64 x1.1,.int .u64 x1.2.1,.int .u64 x1.2.2.1,.int .u64 x1.2.2.2.1,.pointer x1.2.2.2.2.1,.pointer x1.2.2.2.2.2]] [.c .slice,.c (.int .i64)] K h0:=HC.intro (an:=RD) (c:=Tryz.f10.body.getD .skip) Tryz.mixed Tryz.func10 rfl Tryz.call10 (ad rfl) (cT (by kernel_rfl) h)
def Ey(x0:SliceV)(x1:SliceV)(K:(SliceV×Int)→af→Prop)(h0:af):Prop:=
 At (hnew h0 [.slice x0.a x0.len x0.cap,.slice x1.a x1.len x1.cap] ED) (fun h1=>
 LoopP (fun I2 (t3:Int) h4=>
 CondP (decide (t3<(2:Int))) (
 (bS t3 2∧∃a5,some (ag h0)=some a5∧
 ∃v6:SliceV,ae h4 a5 (t3.toNat*1) (.slice v6.a v6.len v6.cap)∧
 HC PG sx [.slice v6.a v6.len v6.cap] [.c (.int .i64)] (fun(e7:Int) h8=>
 CondP (e7 !=(0:Int)) (
 K (⟨none,0,0⟩,e7) h8) (
 I2 (IntKind.wrap .i64 (t3+1)) h8)) h4)) (
 LoopP (fun I9 (t10:SliceV×SliceV×SliceV) h11=>
 Join (fun(t13:Bool) h14=>
 CondP t13 (
 Join (fun(t20:Bool) h21=>
 CondP t20 (
 (bS 0 t10.1.len∧∃a22,t10.1.a=some a22∧
 ∃v23,ae h21 (adr a22 ((0:Int).toNat*5)) 0 (.string v23)∧
 ∃v24,ae h21 (adr a22 ((0:Int).toNat*5)) 1 (.string v24)∧
 ∃v25,ae h21 (adr a22 ((0:Int).toNat*5)) 2 (.string v25)∧
 ∃v26,ae h21 (adr a22 ((0:Int).toNat*5)) 3 (.bool v26)∧
 ∃v27,ae h21 (adr a22 ((0:Int).toNat*5)) 4 (.bool v27)∧
 (((0:Int)≤(1:Int)∧(1:Int)≤((t10.1.len:Nat):Int))∧
 Bd (aM t10.1.a ((1:Int).toNat) t10.1.cap 5:Option Addr) (fun a28=>Bd (t10.1.len-((1:Int).toNat):Nat) (fun n29=>Bd (t10.1.cap-((1:Int).toNat):Nat) (fun n30=>
 At (hnew h21 [.string v23,.string v24,.string v25,.bool v26,.bool v27] aO) (fun h31=>
 ∃xs32,SRow h31 (some (ag h21)) (1*5) xs32∧
 AppP (some [.string (⟨#[]⟩:ByteArray),.string (⟨#[]⟩:ByteArray),.string (⟨#[]⟩:ByteArray),.bool false,.bool false]) 5 56 aO t10.2.2.a t10.2.2.len t10.2.2.cap 1 xs32 h31 (fun s33 h34=>
 I9 (⟨a28,n29,n30⟩,t10.2.1,s33) h34)))))))) (
 Join (fun(t40:Bool) h41=>
 CondP t40 (
 (bS 0 t10.2.1.len∧∃a42,t10.2.1.a=some a42∧
 ∃v43,ae h41 (adr a42 ((0:Int).toNat*5)) 0 (.string v43)∧
 ∃v44,ae h41 (adr a42 ((0:Int).toNat*5)) 1 (.string v44)∧
 ∃v45,ae h41 (adr a42 ((0:Int).toNat*5)) 2 (.string v45)∧
 ∃v46,ae h41 (adr a42 ((0:Int).toNat*5)) 3 (.bool v46)∧
 ∃v47,ae h41 (adr a42 ((0:Int).toNat*5)) 4 (.bool v47)∧
 (((0:Int)≤(1:Int)∧(1:Int)≤((t10.2.1.len:Nat):Int))∧
 Bd (aM t10.2.1.a ((1:Int).toNat) t10.2.1.cap 5:Option Addr) (fun a48=>Bd (t10.2.1.len-((1:Int).toNat):Nat) (fun n49=>Bd (t10.2.1.cap-((1:Int).toNat):Nat) (fun n50=>
 At (hnew h41 [.string v43,.string v44,.string v45,.bool v46,.bool v47] aO) (fun h51=>
 ∃xs52,SRow h51 (some (ag h41)) (1*5) xs52∧
 AppP (some [.string (⟨#[]⟩:ByteArray),.string (⟨#[]⟩:ByteArray),.string (⟨#[]⟩:ByteArray),.bool false,.bool false]) 5 56 aO t10.2.2.a t10.2.2.len t10.2.2.cap 1 xs52 h51 (fun s53 h54=>
 I9 (t10.1,⟨a48,n49,n50⟩,s53) h54)))))))) (
 (bS 0 t10.1.len∧∃a55,t10.1.a=some a55∧
 ∃v56,ae h41 (adr a55 ((0:Int).toNat*5)) 0 (.string v56)∧
 ∃v57,ae h41 (adr a55 ((0:Int).toNat*5)) 1 (.string v57)∧
 ∃v58,ae h41 (adr a55 ((0:Int).toNat*5)) 2 (.string v58)∧
 ∃v59,ae h41 (adr a55 ((0:Int).toNat*5)) 3 (.bool v59)∧
 ∃v60,ae h41 (adr a55 ((0:Int).toNat*5)) 4 (.bool v60)∧
 (bS 0 t10.2.1.len∧∃a61,t10.2.1.a=some a61∧
 ∃v62,ae h41 (adr a61 ((0:Int).toNat*5)) 0 (.string v62)∧
 ∃v63,ae h41 (adr a61 ((0:Int).toNat*5)) 1 (.string v63)∧
 ∃v64,ae h41 (adr a61 ((0:Int).toNat*5)) 2 (.string v64)∧
 ∃v65,ae h41 (adr a61 ((0:Int).toNat*5)) 3 (.bool v65)∧
 ∃v66,ae h41 (adr a61 ((0:Int).toNat*5)) 4 (.bool v66)∧
 ((At (hnew h41 [.string (⟨#[]⟩:ByteArray),.string (⟨#[]⟩:ByteArray),.string (⟨#[]⟩:ByteArray),.bool false,.bool false] aO) (fun h67=>
 ((ae h67 (adr a61 ((0:Int).toNat*5)) 0 (.string v62)∧ae h67 (adr a61 ((0:Int).toNat*5)) 1 (.string v63)∧ae h67 (adr a61 ((0:Int).toNat*5)) 2 (.string v64)∧ae h67 (adr a61 ((0:Int).toNat*5)) 3 (.bool v65)∧ae h67 (adr a61 ((0:Int).toNat*5)) 4 (.bool v66))∧
 ((ae h67 (adr a55 ((0:Int).toNat*5)) 0 (.string v56)∧ae h67 (adr a55 ((0:Int).toNat*5)) 1 (.string v57)∧ae h67 (adr a55 ((0:Int).toNat*5)) 2 (.string v58)∧ae h67 (adr a55 ((0:Int).toNat*5)) 3 (.bool v59)∧ae h67 (adr a55 ((0:Int).toNat*5)) 4 (.bool v60))∧
 At (hnew h67 [.string (⟨#[]⟩:ByteArray),.string (⟨#[]⟩:ByteArray),.string (⟨#[]⟩:ByteArray),.bool false,.bool false] aO) (fun h68=>
 ((ae h68 (adr a61 ((0:Int).toNat*5)) 0 (.string v62)∧ae h68 (adr a61 ((0:Int).toNat*5)) 1 (.string v63)∧ae h68 (adr a61 ((0:Int).toNat*5)) 2 (.string v64)∧ae h68 (adr a61 ((0:Int).toNat*5)) 3 (.bool v65)∧ae h68 (adr a61 ((0:Int).toNat*5)) 4 (.bool v66))∧
 ((ae h68 (adr a55 ((0:Int).toNat*5)) 0 (.string v56)∧ae h68 (adr a55 ((0:Int).toNat*5)) 1 (.string v57)∧ae h68 (adr a55 ((0:Int).toNat*5)) 2 (.string v58)∧ae h68 (adr a55 ((0:Int).toNat*5)) 3 (.bool v59)∧ae h68 (adr a55 ((0:Int).toNat*5)) 4 (.bool v60))∧
 (dq h68 (some (ag h41)) 0 [.string v56,.string v57,.string v58,.bool v59,.bool v60]∧
 At (aX h68 (ag h41) 0 [.string v56,.string v57,.string v58,.bool v59,.bool v60]) (fun h69=>
 ((ae h69 (adr a61 ((0:Int).toNat*5)) 0 (.string v62)∧ae h69 (adr a61 ((0:Int).toNat*5)) 1 (.string v63)∧ae h69 (adr a61 ((0:Int).toNat*5)) 2 (.string v64)∧ae h69 (adr a61 ((0:Int).toNat*5)) 3 (.bool v65)∧ae h69 (adr a61 ((0:Int).toNat*5)) 4 (.bool v66))∧
 (dq h69 (some (ag h67)) 0 [.string v62,.string v63,.string v64,.bool v65,.bool v66]∧
 At (aX h69 (ag h67) 0 [.string v62,.string v63,.string v64,.bool v65,.bool v66]) (fun h70=>
 Join (fun(t76:Bool) h77=>
 CondP t76 (
 K (⟨none,0,0⟩,8) h77) (
 ∃v78,ae h77 (ag h41) 0 (.string v78)∧
 ∃v79,ae h77 (ag h41) 1 (.string v79)∧
 ∃v80,ae h77 (ag h67) 2 (.string v80)∧
 ∃v81,ae h77 (ag h41) 3 (.bool v81)∧
 ∃v82,ae h77 (ag h67) 4 (.bool v82)∧
 At (hnew h77 [.string (⟨#[]⟩:ByteArray),.string (⟨#[]⟩:ByteArray),.string (⟨#[]⟩:ByteArray),.bool false,.bool false] aO) (fun h83=>
 (dq h83 (some (ag h77)) 0 [.string v78,.string v79,.string v80,.bool v81,.bool v82]∧
 At (aX h83 (ag h77) 0 [.string v78,.string v79,.string v80,.bool v81,.bool v82]) (fun h84=>
 Join (fun(t102:SliceV) h103=>
 (((0:Int)≤(1:Int)∧(1:Int)≤((t10.1.len:Nat):Int))∧
 Bd (aM t10.1.a ((1:Int).toNat) t10.1.cap 5:Option Addr) (fun a104=>Bd (t10.1.len-((1:Int).toNat):Nat) (fun n105=>Bd (t10.1.cap-((1:Int).toNat):Nat) (fun n106=>
 (((0:Int)≤(1:Int)∧(1:Int)≤((t10.2.1.len:Nat):Int))∧
 Bd (aM t10.2.1.a ((1:Int).toNat) t10.2.1.cap 5:Option Addr) (fun a107=>Bd (t10.2.1.len-((1:Int).toNat):Nat) (fun n108=>Bd (t10.2.1.cap-((1:Int).toNat):Nat) (fun n109=>
 I9 (⟨a104,n105,n106⟩,⟨a107,n108,n109⟩,t102) h103))))))))) (fun J85=>
 ∃v86,ae h84 (ag h77) 0 (.string v86)∧
 ∃v87,ae h84 (ag h77) 1 (.string v87)∧
 ∃v88,ae h84 (ag h77) 2 (.string v88)∧
 ∃v89,ae h84 (ag h77) 3 (.bool v89)∧
 ∃v90,ae h84 (ag h77) 4 (.bool v90)∧
 HC PG gD [.agg #[.string v86,.string v87,.string v88,.bool v89,.bool v90]] [.c .bool] (fun(e91:Bool) h92=>
 CondP e91 (
 ∃v93,ae h92 (ag h77) 0 (.string v93)∧
 ∃v94,ae h92 (ag h77) 1 (.string v94)∧
 ∃v95,ae h92 (ag h77) 2 (.string v95)∧
 ∃v96,ae h92 (ag h77) 3 (.bool v96)∧
 ∃v97,ae h92 (ag h77) 4 (.bool v97)∧
 At (hnew h92 [.string v93,.string v94,.string v95,.bool v96,.bool v97] aO) (fun h98=>
 ∃xs99,SRow h98 (some (ag h92)) (1*5) xs99∧
 AppP (some [.string (⟨#[]⟩:ByteArray),.string (⟨#[]⟩:ByteArray),.string (⟨#[]⟩:ByteArray),.bool false,.bool false]) 5 56 aO t10.2.2.a t10.2.2.len t10.2.2.cap 1 xs99 h98 (fun s100 h101=>
 J85 s100 h101))) (
 J85 t10.2.2 h92)) h84)))))) (fun J71=>
 ∃v72,ae h70 (ag h41) 4 (.bool v72)∧
 ∃v73,ae h70 (ag h67) 3 (.bool v73)∧
 CondP (!(v72==v73)) (
 J71 true h70) (
 ∃v74,ae h70 (ag h41) 2 (.string v74)∧
 ∃v75,ae h70 (ag h67) 1 (.string v75)∧
 J71 (!(v74.toList==v75.toList)) h70))))))))))))))∧
 At (hnew h41 [.string (⟨#[]⟩:ByteArray),.string (⟨#[]⟩:ByteArray),.string (⟨#[]⟩:ByteArray),.bool false,.bool false] aO) (fun h110=>
 ((ae h110 (adr a61 ((0:Int).toNat*5)) 0 (.string v62)∧ae h110 (adr a61 ((0:Int).toNat*5)) 1 (.string v63)∧ae h110 (adr a61 ((0:Int).toNat*5)) 2 (.string v64)∧ae h110 (adr a61 ((0:Int).toNat*5)) 3 (.bool v65)∧ae h110 (adr a61 ((0:Int).toNat*5)) 4 (.bool v66))∧
 ((ae h110 (adr a55 ((0:Int).toNat*5)) 0 (.string v56)∧ae h110 (adr a55 ((0:Int).toNat*5)) 1 (.string v57)∧ae h110 (adr a55 ((0:Int).toNat*5)) 2 (.string v58)∧ae h110 (adr a55 ((0:Int).toNat*5)) 3 (.bool v59)∧ae h110 (adr a55 ((0:Int).toNat*5)) 4 (.bool v60))∧
 At (hnew h110 [.string (⟨#[]⟩:ByteArray),.string (⟨#[]⟩:ByteArray),.string (⟨#[]⟩:ByteArray),.bool false,.bool false] aO) (fun h111=>
 ((ae h111 (adr a61 ((0:Int).toNat*5)) 0 (.string v62)∧ae h111 (adr a61 ((0:Int).toNat*5)) 1 (.string v63)∧ae h111 (adr a61 ((0:Int).toNat*5)) 2 (.string v64)∧ae h111 (adr a61 ((0:Int).toNat*5)) 3 (.bool v65)∧ae h111 (adr a61 ((0:Int).toNat*5)) 4 (.bool v66))∧
 ((ae h111 (adr a55 ((0:Int).toNat*5)) 0 (.string v56)∧ae h111 (adr a55 ((0:Int).toNat*5)) 1 (.string v57)∧ae h111 (adr a55 ((0:Int).toNat*5)) 2 (.string v58)∧ae h111 (adr a55 ((0:Int).toNat*5)) 3 (.bool v59)∧ae h111 (adr a55 ((0:Int).toNat*5)) 4 (.bool v60))∧
 (dq h111 (some (ag h110)) 0 [.string v56,.string v57,.string v58,.bool v59,.bool v60]∧
 At (aX h111 (ag h110) 0 [.string v56,.string v57,.string v58,.bool v59,.bool v60]) (fun h112=>
 ((ae h112 (adr a61 ((0:Int).toNat*5)) 0 (.string v62)∧ae h112 (adr a61 ((0:Int).toNat*5)) 1 (.string v63)∧ae h112 (adr a61 ((0:Int).toNat*5)) 2 (.string v64)∧ae h112 (adr a61 ((0:Int).toNat*5)) 3 (.bool v65)∧ae h112 (adr a61 ((0:Int).toNat*5)) 4 (.bool v66))∧
 (dq h112 (some (ag h41)) 0 [.string v62,.string v63,.string v64,.bool v65,.bool v66]∧
 At (aX h112 (ag h41) 0 [.string v62,.string v63,.string v64,.bool v65,.bool v66]) (fun h113=>
 Join (fun(t119:Bool) h120=>
 CondP t119 (
 K (⟨none,0,0⟩,8) h120) (
 ∃v121,ae h120 (ag h110) 0 (.string v121)∧
 ∃v122,ae h120 (ag h110) 1 (.string v122)∧
 ∃v123,ae h120 (ag h41) 2 (.string v123)∧
 ∃v124,ae h120 (ag h110) 3 (.bool v124)∧
 ∃v125,ae h120 (ag h41) 4 (.bool v125)∧
 At (hnew h120 [.string (⟨#[]⟩:ByteArray),.string (⟨#[]⟩:ByteArray),.string (⟨#[]⟩:ByteArray),.bool false,.bool false] aO) (fun h126=>
 (dq h126 (some (ag h120)) 0 [.string v121,.string v122,.string v123,.bool v124,.bool v125]∧
 At (aX h126 (ag h120) 0 [.string v121,.string v122,.string v123,.bool v124,.bool v125]) (fun h127=>
 Join (fun(t145:SliceV) h146=>
 (((0:Int)≤(1:Int)∧(1:Int)≤((t10.1.len:Nat):Int))∧
 Bd (aM t10.1.a ((1:Int).toNat) t10.1.cap 5:Option Addr) (fun a147=>Bd (t10.1.len-((1:Int).toNat):Nat) (fun n148=>Bd (t10.1.cap-((1:Int).toNat):Nat) (fun n149=>
 (((0:Int)≤(1:Int)∧(1:Int)≤((t10.2.1.len:Nat):Int))∧
 Bd (aM t10.2.1.a ((1:Int).toNat) t10.2.1.cap 5:Option Addr) (fun a150=>Bd (t10.2.1.len-((1:Int).toNat):Nat) (fun n151=>Bd (t10.2.1.cap-((1:Int).toNat):Nat) (fun n152=>
 I9 (⟨a147,n148,n149⟩,⟨a150,n151,n152⟩,t145) h146))))))))) (fun J128=>
 ∃v129,ae h127 (ag h120) 0 (.string v129)∧
 ∃v130,ae h127 (ag h120) 1 (.string v130)∧
 ∃v131,ae h127 (ag h120) 2 (.string v131)∧
 ∃v132,ae h127 (ag h120) 3 (.bool v132)∧
 ∃v133,ae h127 (ag h120) 4 (.bool v133)∧
 HC PG gD [.agg #[.string v129,.string v130,.string v131,.bool v132,.bool v133]] [.c .bool] (fun(e134:Bool) h135=>
 CondP e134 (
 ∃v136,ae h135 (ag h120) 0 (.string v136)∧
 ∃v137,ae h135 (ag h120) 1 (.string v137)∧
 ∃v138,ae h135 (ag h120) 2 (.string v138)∧
 ∃v139,ae h135 (ag h120) 3 (.bool v139)∧
 ∃v140,ae h135 (ag h120) 4 (.bool v140)∧
 At (hnew h135 [.string v136,.string v137,.string v138,.bool v139,.bool v140] aO) (fun h141=>
 ∃xs142,SRow h141 (some (ag h135)) (1*5) xs142∧
 AppP (some [.string (⟨#[]⟩:ByteArray),.string (⟨#[]⟩:ByteArray),.string (⟨#[]⟩:ByteArray),.bool false,.bool false]) 5 56 aO t10.2.2.a t10.2.2.len t10.2.2.cap 1 xs142 h141 (fun s143 h144=>
 J128 s143 h144))) (
 J128 t10.2.2 h135)) h127)))))) (fun J114=>
 ∃v115,ae h113 (ag h110) 4 (.bool v115)∧
 ∃v116,ae h113 (ag h41) 3 (.bool v116)∧
 CondP (!(v115==v116)) (
 J114 true h113) (
 ∃v117,ae h113 (ag h110) 2 (.string v117)∧
 ∃v118,ae h113 (ag h41) 1 (.string v118)∧
 J114 (!(v117.toList==v118.toList)) h113)))))))))))))))))) (fun J35=>
 CondP ((t10.1.len:Int)==(0:Int)) (
 J35 true h21) (
 (bS 0 t10.2.1.len∧∃a36,t10.2.1.a=some a36∧
 ∃v37,ae h21 (adr a36 ((0:Int).toNat*5)) 0 (.string v37)∧
 (bS 0 t10.1.len∧∃a38,t10.1.a=some a38∧
 ∃v39,ae h21 (adr a38 ((0:Int).toNat*5)) 0 (.string v39)∧
 J35 (Op.bytesLess v37.toList v39.toList) h21)))))) (fun J15=>
 CondP ((t10.2.1.len:Int)==(0:Int)) (
 J15 true h14) (
 CondP (decide ((t10.1.len:Int)>(0:Int))) (
 (bS 0 t10.1.len∧∃a16,t10.1.a=some a16∧
 ∃v17,ae h14 (adr a16 ((0:Int).toNat*5)) 0 (.string v17)∧
 (bS 0 t10.2.1.len∧∃a18,t10.2.1.a=some a18∧
 ∃v19,ae h14 (adr a18 ((0:Int).toNat*5)) 0 (.string v19)∧
 J15 (Op.bytesLess v17.toList v19.toList) h14))) (
 J15 false h14)))) (
 K (t10.2.2,0) h14)) (fun J12=>
 CondP (decide ((t10.1.len:Int)>(0:Int))) (
 J12 true h11) (
 J12 (decide ((t10.2.1.len:Int)>(0:Int))) h11))) (x0,x1,⟨none,0,0⟩) h4)) 0 h1)
noncomputable def Nh:Ann:=.node .nil (.node (.node .nil (.loop [(17,.c (.int .i64))] .nil)) (.node .nil (.node (.loop [(0,.c .slice),(1,.c .slice),(9,.c .slice)] (.node (.join [(34,.c .bool)] .nil .nil) (.join [(74,.c .bool)] .nil (.node .nil (.join [(102,.c .bool)] .nil (.node .nil (.node .nil (.node (.join [(52,.c .bool)] .nil .nil) (.node .nil (.join [(9,.c .slice)] .nil .nil)))))))))) .nil)))
theorem MW(x0:SliceV)(x1:SliceV){K:cD [.c .slice,.c (.int .i64)]→af→Prop}{h0:af}(h:Ey x0 x1 K h0):HC PG xN [.slice x0.a x0.len x0.cap,.slice x1.a x1.len x1.cap] [.c .slice,.c (.int .i64)] K h0:=HC.intro (an:=Nh) (c:=Tryz.f11.body.getD .skip) Tryz.mixed Tryz.func11 rfl Tryz.call11 (ad rfl) (cT (by kernel_rfl) h)
def Ev(x0:SliceV)(x1:SliceV)(K:(Bool)→af→Prop)(h0:af):Prop:=
 HC PG gZ [.slice x0.a x0.len x0.cap,.slice x1.a x1.len x1.cap] [.c .bool] (fun(e1:Bool) h2=>
 K e1 h2) h0
noncomputable def Nf:Ann:=.nil
theorem MU(x0:SliceV)(x1:SliceV){K:cD [.c .bool]→af→Prop}{h0:af}(h:Ev x0 x1 K h0):HC PG xM [.slice x0.a x0.len x0.cap,.slice x1.a x1.len x1.cap] [.c .bool] K h0:=HC.intro (an:=Nf) (c:=Tryz.f12.body.getD .skip) Tryz.mixed Tryz.func12 rfl Tryz.call12 (ad rfl) (cT (by kernel_rfl) h)
def wN(x0:SliceV)(x1:SliceV)(K:(Bool)→af→Prop)(h0:af):Prop:=
 CondP ((x0.len:Int) !=(x1.len:Int)) (
 K false h0) (
 LoopP (fun I1 (t2:Int) h3=>
 CondP (decide (t2<(x0.len:Int))) (
 (bS t2 x0.len∧∃a4,x0.a=some a4∧
 ∃v5,ae h3 (adr a4 (t2.toNat*5)) 0 (.string v5)∧
 ∃v6,ae h3 (adr a4 (t2.toNat*5)) 1 (.string v6)∧
 ∃v7,ae h3 (adr a4 (t2.toNat*5)) 2 (.string v7)∧
 ∃v8,ae h3 (adr a4 (t2.toNat*5)) 3 (.bool v8)∧
 ∃v9,ae h3 (adr a4 (t2.toNat*5)) 4 (.bool v9)∧
 (bS t2 x1.len∧∃a10,x1.a=some a10∧
 ∃v11,ae h3 (adr a10 (t2.toNat*5)) 0 (.string v11)∧
 ∃v12,ae h3 (adr a10 (t2.toNat*5)) 1 (.string v12)∧
 ∃v13,ae h3 (adr a10 (t2.toNat*5)) 2 (.string v13)∧
 ∃v14,ae h3 (adr a10 (t2.toNat*5)) 3 (.bool v14)∧
 ∃v15,ae h3 (adr a10 (t2.toNat*5)) 4 (.bool v15)∧
 CondP (!(((v5.toList==v11.toList)&&((v6.toList==v12.toList)&&((v7.toList==v13.toList)&&((v8==v14)&&((v9==v15)&&true))))))) (
 K false h3) (
 I1 (IntKind.wrap .i64 (t2+1)) h3)))) (
 K true h3)) 0 h0)
noncomputable def Pj:Ann:=.node .nil (.node .nil (.node (.node .nil (.loop [(13,.c (.int .i64))] .nil)) .nil))
theorem Vw(x0:SliceV)(x1:SliceV){K:cD [.c .bool]→af→Prop}{h0:af}(h:wN x0 x1 K h0):HC PG Ox [.slice x0.a x0.len x0.cap,.slice x1.a x1.len x1.cap] [.c .bool] K h0:=HC.intro (an:=Pj) (c:=Tryz.f16.body.getD .skip) Tryz.mixed Tryz.func16 rfl Tryz.call16 (ad rfl) (cT (by kernel_rfl) h)
def BT(x0:T6)(x1:SliceV)(K:((T6)×Int)→af→Prop)(h0:af):Prop:=
 At (hnew h0 [.int .i64 x0.1,.int .u64 x0.2.1,.int .u64 x0.2.2.1,.int .u64 x0.2.2.2.1,.pointer x0.2.2.2.2.1,.pointer x0.2.2.2.2.2] aV) (fun h1=>
 At (hnew h1 [.int .i64 0,.int .u64 0,.int .u64 0,.int .u64 0,.pointer none,.pointer none] aV) (fun h2=>
 HC PG sx [.slice x1.a x1.len x1.cap] [.c (.int .i64)] (fun(e3:Int) h4=>
 CondP (e3 !=(0:Int)) (
 ∃v5,ae h4 (ag h0) 0 (.int .i64 v5)∧
 ∃v6,ae h4 (ag h0) 1 (.int .u64 v6)∧
 ∃v7,ae h4 (ag h0) 2 (.int .u64 v7)∧
 ∃v8,ae h4 (ag h0) 3 (.int .u64 v8)∧
 ∃v9,ae h4 (ag h0) 4 (.pointer v9)∧
 ∃v10,ae h4 (ag h0) 5 (.pointer v10)∧
 (dq h4 (some (ag h1)) 0 [.int .i64 v5,.int .u64 v6,.int .u64 v7,.int .u64 v8,.pointer v9,.pointer v10]∧
 At (aX h4 (ag h1) 0 [.int .i64 v5,.int .u64 v6,.int .u64 v7,.int .u64 v8,.pointer v9,.pointer v10]) (fun h11=>
 ∃v12,ae h11 (ag h1) 0 (.int .i64 v12)∧
 ∃v13,ae h11 (ag h1) 1 (.int .u64 v13)∧
 ∃v14,ae h11 (ag h1) 2 (.int .u64 v14)∧
 ∃v15,ae h11 (ag h1) 3 (.int .u64 v15)∧
 ∃v16,ae h11 (ag h1) 4 (.pointer v16)∧
 ∃v17,ae h11 (ag h1) 5 (.pointer v17)∧
 K ((v12,v13,v14,v15,v16,v17),e3) h11))) (
 HC PG cJ [.slice x1.a x1.len x1.cap,.func (.func xO) #[] #[.pointer (some (ag h0))]] [.c .bool] (fun(e18:Bool) h19=>
 CondP e18 (
 ∃v20,ae h19 (ag h0) 0 (.int .i64 v20)∧
 ∃v21,ae h19 (ag h0) 1 (.int .u64 v21)∧
 ∃v22,ae h19 (ag h0) 2 (.int .u64 v22)∧
 ∃v23,ae h19 (ag h0) 3 (.int .u64 v23)∧
 ∃v24,ae h19 (ag h0) 4 (.pointer v24)∧
 ∃v25,ae h19 (ag h0) 5 (.pointer v25)∧
 (dq h19 (some (ag h1)) 0 [.int .i64 v20,.int .u64 v21,.int .u64 v22,.int .u64 v23,.pointer v24,.pointer v25]∧
 At (aX h19 (ag h1) 0 [.int .i64 v20,.int .u64 v21,.int .u64 v22,.int .u64 v23,.pointer v24,.pointer v25]) (fun h26=>
 ∃v27,ae h26 (ag h1) 0 (.int .i64 v27)∧
 ∃v28,ae h26 (ag h1) 1 (.int .u64 v28)∧
 ∃v29,ae h26 (ag h1) 2 (.int .u64 v29)∧
 ∃v30,ae h26 (ag h1) 3 (.int .u64 v30)∧
 ∃v31,ae h26 (ag h1) 4 (.pointer v31)∧
 ∃v32,ae h26 (ag h1) 5 (.pointer v32)∧
 K ((v27,v28,v29,v30,v31,v32),8) h26))) (
 LoopP (fun I33 (t34:Int) h35=>
 CondP (decide (t34<(x1.len:Int))) (
 Join (fun(t67:Unit) h68=>
 I33 (IntKind.wrap .i64 (t34+1)) h68) (fun J36=>
 (bS t34 x1.len∧∃a37,x1.a=some a37∧
 ∃v38,ae h35 (adr a37 (t34.toNat*5)) 0 (.string v38)∧
 ∃v39,ae h35 (adr a37 (t34.toNat*5)) 1 (.string v39)∧
 ∃v40,ae h35 (adr a37 (t34.toNat*5)) 2 (.string v40)∧
 ∃v41,ae h35 (adr a37 (t34.toNat*5)) 3 (.bool v41)∧
 ∃v42,ae h35 (adr a37 (t34.toNat*5)) 4 (.bool v42)∧
 At (hnew h35 [.string (⟨#[]⟩:ByteArray),.string (⟨#[]⟩:ByteArray),.string (⟨#[]⟩:ByteArray),.bool false,.bool false] aO) (fun h43=>
 (dq h43 (some (ag h35)) 0 [.string v38,.string v39,.string v40,.bool v41,.bool v42]∧
 At (aX h43 (ag h35) 0 [.string v38,.string v39,.string v40,.bool v41,.bool v42]) (fun h44=>
 ∃v45,ae h44 (ag h35) 4 (.bool v45)∧
 CondP v45 (
 ∃v46,ae h44 (ag h0) 0 (.int .i64 v46)∧
 ∃v47,ae h44 (ag h0) 1 (.int .u64 v47)∧
 ∃v48,ae h44 (ag h0) 2 (.int .u64 v48)∧
 ∃v49,ae h44 (ag h0) 3 (.int .u64 v49)∧
 ∃v50,ae h44 (ag h0) 4 (.pointer v50)∧
 ∃v51,ae h44 (ag h0) 5 (.pointer v51)∧
 ∃v52,ae h44 (ag h35) 0 (.string v52)∧
 ∃v53,ae h44 (ag h35) 2 (.string v53)∧
 HC PG ns [.agg #[.int .i64 v46,.int .u64 v47,.int .u64 v48,.int .u64 v49,.pointer v50,.pointer v51],.pointer none,.agg #[.string v52,.string v53]] [.agg [.int .i64,.int .u64,.int .u64,.int .u64,.ptr,.ptr],.c (.int .i64)] (fun(e54:(T6)×Int) h55=>
 (dq h55 (some (ag h0)) 0 [.int .i64 e54.1.1,.int .u64 e54.1.2.1,.int .u64 e54.1.2.2.1,.int .u64 e54.1.2.2.2.1,.pointer e54.1.2.2.2.2.1,.pointer e54.1.2.2.2.2.2]∧
 At (aX h55 (ag h0) 0 [.int .i64 e54.1.1,.int .u64 e54.1.2.1,.int .u64 e54.1.2.2.1,.int .u64 e54.1.2.2.2.1,.pointer e54.1.2.2.2.2.1,.pointer e54.1.2.2.2.2.2]) (fun h56=>
 J36 () h56))) h44) (
 ∃v57,ae h44 (ag h0) 0 (.int .i64 v57)∧
 ∃v58,ae h44 (ag h0) 1 (.int .u64 v58)∧
 ∃v59,ae h44 (ag h0) 2 (.int .u64 v59)∧
 ∃v60,ae h44 (ag h0) 3 (.int .u64 v60)∧
 ∃v61,ae h44 (ag h0) 4 (.pointer v61)∧
 ∃v62,ae h44 (ag h0) 5 (.pointer v62)∧
 ∃v63,ae h44 (ag h35) 0 (.string v63)∧
 HC PG kj [.agg #[.int .i64 v57,.int .u64 v58,.int .u64 v59,.int .u64 v60,.pointer v61,.pointer v62],.pointer none,.string v63] [.agg [.int .i64,.int .u64,.int .u64,.int .u64,.ptr,.ptr],.c (.int .i64)] (fun(e64:(T6)×Int) h65=>
 (dq h65 (some (ag h0)) 0 [.int .i64 e64.1.1,.int .u64 e64.1.2.1,.int .u64 e64.1.2.2.1,.int .u64 e64.1.2.2.2.1,.pointer e64.1.2.2.2.2.1,.pointer e64.1.2.2.2.2.2]∧
 At (aX h65 (ag h0) 0 [.int .i64 e64.1.1,.int .u64 e64.1.2.1,.int .u64 e64.1.2.2.1,.int .u64 e64.1.2.2.2.1,.pointer e64.1.2.2.2.2.1,.pointer e64.1.2.2.2.2.2]) (fun h66=>
 J36 () h66))) h44))))))) (
 ∃v69,ae h35 (ag h0) 0 (.int .i64 v69)∧
 ∃v70,ae h35 (ag h0) 1 (.int .u64 v70)∧
 ∃v71,ae h35 (ag h0) 2 (.int .u64 v71)∧
 ∃v72,ae h35 (ag h0) 3 (.int .u64 v72)∧
 ∃v73,ae h35 (ag h0) 4 (.pointer v73)∧
 ∃v74,ae h35 (ag h0) 5 (.pointer v74)∧
 (dq h35 (some (ag h1)) 0 [.int .i64 v69,.int .u64 v70,.int .u64 v71,.int .u64 v72,.pointer v73,.pointer v74]∧
 At (aX h35 (ag h1) 0 [.int .i64 v69,.int .u64 v70,.int .u64 v71,.int .u64 v72,.pointer v73,.pointer v74]) (fun h75=>
 ∃v76,ae h75 (ag h1) 0 (.int .i64 v76)∧
 ∃v77,ae h75 (ag h1) 1 (.int .u64 v77)∧
 ∃v78,ae h75 (ag h1) 2 (.int .u64 v78)∧
 ∃v79,ae h75 (ag h1) 3 (.int .u64 v79)∧
 ∃v80,ae h75 (ag h1) 4 (.pointer v80)∧
 ∃v81,ae h75 (ag h1) 5 (.pointer v81)∧
 K ((v76,v77,v78,v79,v80,v81),0) h75)))) 0 h19)) h4)) h2))
noncomputable def KY:Ann:=.node .nil (.node .nil (.node .nil (.node (.node .nil (.loop [(21,.c (.int .i64))] (.node .nil (.node .nil (.join [] .nil .nil))))) .nil)))
theorem KH(x0:T6)(x1:SliceV){K:cD [.agg [.int .i64,.int .u64,.int .u64,.int .u64,.ptr,.ptr],.c (.int .i64)]→af→Prop}{h0:af}(h:BT x0 x1 K h0):HC PG jS [.agg #[.int .i64 x0.1,.int .u64 x0.2.1,.int .u64 x0.2.2.1,.int .u64 x0.2.2.2.1,.pointer x0.2.2.2.2.1,.pointer x0.2.2.2.2.2],.slice x1.a x1.len x1.cap] [.agg [.int .i64,.int .u64,.int .u64,.int .u64,.ptr,.ptr],.c (.int .i64)] K h0:=HC.intro (an:=KY) (c:=Tryz.f17.body.getD .skip) Tryz.mixed Tryz.func17 rfl Tryz.call17 (ad rfl) (cT (by kernel_rfl) h)
def Ej(x0:T6)(x1:T6)(K:(Bool)→af→Prop)(h0:af):Prop:=
 At (hnew h0 [.int .i64 x0.1,.int .u64 x0.2.1,.int .u64 x0.2.2.1,.int .u64 x0.2.2.2.1,.pointer x0.2.2.2.2.1,.pointer x0.2.2.2.2.2] aV) (fun h1=>
 At (hnew h1 [.int .i64 x1.1,.int .u64 x1.2.1,.int .u64 x1.2.2.1,.int .u64 x1.2.2.2.1,.pointer x1.2.2.2.2.1,.pointer x1.2.2.2.2.2] aV) (fun h2=>
 ∃v3,ae h2 (ag h0) 0 (.int .i64 v3)∧
 ∃v4,ae h2 (ag h0) 1 (.int .u64 v4)∧
 ∃v5,ae h2 (ag h0) 2 (.int .u64 v5)∧
 ∃v6,ae h2 (ag h0) 3 (.int .u64 v6)∧
 ∃v7,ae h2 (ag h0) 4 (.pointer v7)∧
 ∃v8,ae h2 (ag h0) 5 (.pointer v8)∧
 ∃v9,ae h2 (ag h1) 0 (.int .i64 v9)∧
 ∃v10,ae h2 (ag h1) 1 (.int .u64 v10)∧
 ∃v11,ae h2 (ag h1) 2 (.int .u64 v11)∧
 ∃v12,ae h2 (ag h1) 3 (.int .u64 v12)∧
 ∃v13,ae h2 (ag h1) 4 (.pointer v13)∧
 ∃v14,ae h2 (ag h1) 5 (.pointer v14)∧
 HC PG tY [.agg #[.int .i64 v3,.int .u64 v4,.int .u64 v5,.int .u64 v6,.pointer v7,.pointer v8],.agg #[.int .i64 v9,.int .u64 v10,.int .u64 v11,.int .u64 v12,.pointer v13,.pointer v14]] [.c .bool] (fun(e15:Bool) h16=>
 CondP e15 (
 ∃v17,ae h16 (ag h0) 0 (.int .i64 v17)∧
 ∃v18,ae h16 (ag h0) 1 (.int .u64 v18)∧
 ∃v19,ae h16 (ag h0) 2 (.int .u64 v19)∧
 ∃v20,ae h16 (ag h0) 3 (.int .u64 v20)∧
 ∃v21,ae h16 (ag h0) 4 (.pointer v21)∧
 ∃v22,ae h16 (ag h0) 5 (.pointer v22)∧
 ∃v23,ae h16 (ag h1) 0 (.int .i64 v23)∧
 ∃v24,ae h16 (ag h1) 1 (.int .u64 v24)∧
 ∃v25,ae h16 (ag h1) 2 (.int .u64 v25)∧
 ∃v26,ae h16 (ag h1) 3 (.int .u64 v26)∧
 ∃v27,ae h16 (ag h1) 4 (.pointer v27)∧
 ∃v28,ae h16 (ag h1) 5 (.pointer v28)∧
 HC PG mt [.agg #[.int .i64 v17,.int .u64 v18,.int .u64 v19,.int .u64 v20,.pointer v21,.pointer v22]] [.c .slice] (fun(e29:SliceV) h30=>
 ((ae h30 (ag h1) 0 (.int .i64 v23)∧ae h30 (ag h1) 1 (.int .u64 v24)∧ae h30 (ag h1) 2 (.int .u64 v25)∧ae h30 (ag h1) 3 (.int .u64 v26)∧ae h30 (ag h1) 4 (.pointer v27)∧ae h30 (ag h1) 5 (.pointer v28))∧
 HC PG mt [.agg #[.int .i64 v23,.int .u64 v24,.int .u64 v25,.int .u64 v26,.pointer v27,.pointer v28]] [.c .slice] (fun(e31:SliceV) h32=>
 HC PG uO [.slice e29.a e29.len e29.cap,.slice e31.a e31.len e31.cap] [.c .bool] (fun(e33:Bool) h34=>
 K e33 h34) h32) h30)) h16) (
 K false h16)) h2))
noncomputable def M0:Ann:=.nil
theorem MJ(x0:T6)(x1:T6){K:cD [.c .bool]→af→Prop}{h0:af}(h:Ej x0 x1 K h0):HC PG xF [.agg #[.int .i64 x0.1,.int .u64 x0.2.1,.int .u64 x0.2.2.1,.int .u64 x0.2.2.2.1,.pointer x0.2.2.2.2.1,.pointer x0.2.2.2.2.2],.agg #[.int .i64 x1.1,.int .u64 x1.2.1,.int .u64 x1.2.2.1,.int .u64 x1.2.2.2.1,.pointer x1.2.2.2.2.1,.pointer x1.2.2.2.2.2]] [.c .bool] K h0:=HC.intro (an:=M0) (c:=Tryz.f18.body.getD .skip) Tryz.mixed Tryz.func18 rfl Tryz.call18 (ad rfl) (cT (by kernel_rfl) h)
def w7(x0:T6)(x1:ByteArray)(K:(ByteArray×Bool)→af→Prop)(h0:af):Prop:=
 At (hnew h0 [.int .i64 x0.1,.int .u64 x0.2.1,.int .u64 x0.2.2.1,.int .u64 x0.2.2.2.1,.pointer x0.2.2.2.2.1,.pointer x0.2.2.2.2.2] aV) (fun h1=>
 ∃v2,ae h1 (ag h0) 0 (.int .i64 v2)∧
 CondP (v2==(1:Int)) (
 ∃v3,ae h1 (ag h0) 5 (.pointer v3)∧
 HC PG xH [.pointer v3,.string x1] [.c .str,.c .bool] (fun(e4:ByteArray×Bool) h5=>
 K (e4.1,e4.2) h5) h1) (
 ∃v6,ae h1 (adr (ag h0) 1) 0 (.int .u64 v6)∧
 ∃v7,ae h1 (adr (ag h0) 1) 1 (.int .u64 v7)∧
 ∃v8,ae h1 (adr (ag h0) 1) 2 (.int .u64 v8)∧
 ∃v9,ae h1 (ag h0) 4 (.pointer v9)∧
 HC PG xQ [.agg #[.int .u64 v6,.int .u64 v7,.int .u64 v8],.pointer v9,.string x1] [.c .str,.c .bool] (fun(e10:ByteArray×Bool) h11=>
 K (e10.1,e10.2) h11) h1))
noncomputable def ER:Ann:=.nil
theorem EJ(x0:T6)(x1:ByteArray){K:cD [.c .str,.c .bool]→af→Prop}{h0:af}(h:w7 x0 x1 K h0):HC PG lQ [.agg #[.int .i64 x0.1,.int .u64 x0.2.1,.int .u64 x0.2.2.1,.int .u64 x0.2.2.2.1,.pointer x0.2.2.2.2.1,.pointer x0.2.2.2.2.2],.string x1] [.c .str,.c .bool] K h0:=HC.intro (an:=ER) (c:=Tryz.f19.body.getD .skip) Tryz.mixed Tryz.func19 rfl Tryz.call19 (ad rfl) (cT (by kernel_rfl) h)
def BX(x0:Int)(x1:Int×Int×Int)(x2:SliceV)(K:((T6)×Int)→af→Prop)(h0:af):Prop:=
 At (hnew h0 [.int .u64 x1.1,.int .u64 x1.2.1,.int .u64 x1.2.2] cn) (fun h1=>
 At (hnew h1 [.int .i64 0,.int .u64 0,.int .u64 0,.int .u64 0,.pointer none,.pointer none] aV) (fun h2=>
 ∃v3,ae h2 (ag h0) 0 (.int .u64 v3)∧
 ∃v4,ae h2 (ag h0) 1 (.int .u64 v4)∧
 ∃v5,ae h2 (ag h0) 2 (.int .u64 v5)∧
 HC PG ww [.int .i64 x0,.agg #[.int .u64 v3,.int .u64 v4,.int .u64 v5]] [.agg [.int .i64,.int .u64,.int .u64,.int .u64,.ptr,.ptr],.c (.int .i64)] (fun(e6:(T6)×Int) h7=>
 At (hnew h7 [.int .i64 0,.int .u64 0,.int .u64 0,.int .u64 0,.pointer none,.pointer none] aV) (fun h8=>
 (dq h8 (some (ag h7)) 0 [.int .i64 e6.1.1,.int .u64 e6.1.2.1,.int .u64 e6.1.2.2.1,.int .u64 e6.1.2.2.2.1,.pointer e6.1.2.2.2.2.1,.pointer e6.1.2.2.2.2.2]∧
 At (aX h8 (ag h7) 0 [.int .i64 e6.1.1,.int .u64 e6.1.2.1,.int .u64 e6.1.2.2.1,.int .u64 e6.1.2.2.2.1,.pointer e6.1.2.2.2.2.1,.pointer e6.1.2.2.2.2.2]) (fun h9=>
 CondP (e6.2 !=(0:Int)) (
 (dq h9 (some (ag h1)) 0 [.int .i64 0,.int .u64 0,.int .u64 0,.int .u64 0,.pointer none,.pointer none]∧
 At (aX h9 (ag h1) 0 [.int .i64 0,.int .u64 0,.int .u64 0,.int .u64 0,.pointer none,.pointer none]) (fun h10=>
 ∃v11,ae h10 (ag h1) 0 (.int .i64 v11)∧
 ∃v12,ae h10 (ag h1) 1 (.int .u64 v12)∧
 ∃v13,ae h10 (ag h1) 2 (.int .u64 v13)∧
 ∃v14,ae h10 (ag h1) 3 (.int .u64 v14)∧
 ∃v15,ae h10 (ag h1) 4 (.pointer v15)∧
 ∃v16,ae h10 (ag h1) 5 (.pointer v16)∧
 K ((v11,v12,v13,v14,v15,v16),e6.2) h10))) (
 LoopP (fun I17 (t18:Int) h19=>
 CondP (decide (t18<(x2.len:Int))) (
 (bS t18 x2.len∧∃a20,x2.a=some a20∧
 ∃v21,ae h19 (adr a20 (t18.toNat*2)) 0 (.string v21)∧
 ∃v22,ae h19 (adr a20 (t18.toNat*2)) 1 (.string v22)∧
 At (hnew h19 [.string (⟨#[]⟩:ByteArray),.string (⟨#[]⟩:ByteArray)] al) (fun h23=>
 (dq h23 (some (ag h19)) 0 [.string v21,.string v22]∧
 At (aX h23 (ag h19) 0 [.string v21,.string v22]) (fun h24=>
 ∃v25,ae h24 (ag h19) 0 (.string v25)∧
 ∃v26,ae h24 (ag h19) 1 (.string v26)∧
 HC PG lq [.string v25,.string v26] [.c (.int .i64)] (fun(e27:Int) h28=>
 CondP (e27 !=(0:Int)) (
 (dq h28 (some (ag h1)) 0 [.int .i64 0,.int .u64 0,.int .u64 0,.int .u64 0,.pointer none,.pointer none]∧
 At (aX h28 (ag h1) 0 [.int .i64 0,.int .u64 0,.int .u64 0,.int .u64 0,.pointer none,.pointer none]) (fun h29=>
 ∃v30,ae h29 (ag h1) 0 (.int .i64 v30)∧
 ∃v31,ae h29 (ag h1) 1 (.int .u64 v31)∧
 ∃v32,ae h29 (ag h1) 2 (.int .u64 v32)∧
 ∃v33,ae h29 (ag h1) 3 (.int .u64 v33)∧
 ∃v34,ae h29 (ag h1) 4 (.pointer v34)∧
 ∃v35,ae h29 (ag h1) 5 (.pointer v35)∧
 K ((v30,v31,v32,v33,v34,v35),e27) h29))) (
 I17 (IntKind.wrap .i64 (t18+1)) h28)) h24))))) (
 CondP (x0==(1:Int)) (
 HC PG uP [.slice x2.a x2.len x2.cap] [.c .ptr] (fun(e36:Option Addr) h37=>
 HC PG pR [.pointer e36] [.agg [.int .i64,.int .u64,.int .u64,.int .u64,.ptr,.ptr]] (fun(e38:T6) h39=>
 (dq h39 (some (ag h1)) 0 [.int .i64 e38.1,.int .u64 e38.2.1,.int .u64 e38.2.2.1,.int .u64 e38.2.2.2.1,.pointer e38.2.2.2.2.1,.pointer e38.2.2.2.2.2]∧
 At (aX h39 (ag h1) 0 [.int .i64 e38.1,.int .u64 e38.2.1,.int .u64 e38.2.2.1,.int .u64 e38.2.2.2.1,.pointer e38.2.2.2.2.1,.pointer e38.2.2.2.2.2]) (fun h40=>
 ∃v41,ae h40 (ag h1) 0 (.int .i64 v41)∧
 ∃v42,ae h40 (ag h1) 1 (.int .u64 v42)∧
 ∃v43,ae h40 (ag h1) 2 (.int .u64 v43)∧
 ∃v44,ae h40 (ag h1) 3 (.int .u64 v44)∧
 ∃v45,ae h40 (ag h1) 4 (.pointer v45)∧
 ∃v46,ae h40 (ag h1) 5 (.pointer v46)∧
 K ((v41,v42,v43,v44,v45,v46),0) h40))) h37) h19) (
 ∃v47,ae h19 (ag h0) 0 (.int .u64 v47)∧
 ∃v48,ae h19 (ag h0) 1 (.int .u64 v48)∧
 ∃v49,ae h19 (ag h0) 2 (.int .u64 v49)∧
 ∃v50,ae h19 (ag h0) 0 (.int .u64 v50)∧
 ∃v51,ae h19 (ag h0) 1 (.int .u64 v51)∧
 ∃v52,ae h19 (ag h0) 2 (.int .u64 v52)∧
 HC PG uQ [.agg #[.int .u64 v50,.int .u64 v51,.int .u64 v52],.slice x2.a x2.len x2.cap] [.c .ptr] (fun(e53:Option Addr) h54=>
 ((ae h54 (ag h0) 0 (.int .u64 v47)∧ae h54 (ag h0) 1 (.int .u64 v48)∧ae h54 (ag h0) 2 (.int .u64 v49))∧
 HC PG pS [.agg #[.int .u64 v47,.int .u64 v48,.int .u64 v49],.pointer e53] [.agg [.int .i64,.int .u64,.int .u64,.int .u64,.ptr,.ptr]] (fun(e55:T6) h56=>
 (dq h56 (some (ag h1)) 0 [.int .i64 e55.1,.int .u64 e55.2.1,.int .u64 e55.2.2.1,.int .u64 e55.2.2.2.1,.pointer e55.2.2.2.2.1,.pointer e55.2.2.2.2.2]∧
 At (aX h56 (ag h1) 0 [.int .i64 e55.1,.int .u64 e55.2.1,.int .u64 e55.2.2.1,.int .u64 e55.2.2.2.1,.pointer e55.2.2.2.2.1,.pointer e55.2.2.2.2.2]) (fun h57=>
 ∃v58,ae h57 (ag h1) 0 (.int .i64 v58)∧
 ∃v59,ae h57 (ag h1) 1 (.int .u64 v59)∧
 ∃v60,ae h57 (ag h1) 2 (.int .u64 v60)∧
 ∃v61,ae h57 (ag h1) 3 (.int .u64 v61)∧
 ∃v62,ae h57 (ag h1) 4 (.pointer v62)∧
 ∃v63,ae h57 (ag h1) 5 (.pointer v63)∧
 K ((v58,v59,v60,v61,v62,v63),0) h57))) h54)) h19))) 0 h9))))) h2))
noncomputable def K6:Ann:=.node .nil (.node .nil (.node (.node .nil (.loop [(25,.c (.int .i64))] .nil)) .nil))
theorem KL(x0:Int)(x1:Int×Int×Int)(x2:SliceV){K:cD [.agg [.int .i64,.int .u64,.int .u64,.int .u64,.ptr,.ptr],.c (.int .i64)]→af→Prop}{h0:af}(h:BX x0 x1 x2 K h0):HC PG sA [.int .i64 x0,.agg #[.int .u64 x1.1,.int .u64 x1.2.1,.int .u64 x1.2.2],.slice x2.a x2.len x2.cap] [.agg [.int .i64,.int .u64,.int .u64,.int .u64,.ptr,.ptr],.c (.int .i64)] K h0:=HC.intro (an:=K6) (c:=Tryz.f24.body.getD .skip) Tryz.mixed Tryz.func24 rfl Tryz.call24 (ad rfl) (cT (by kernel_rfl) h)
def GQ(x0:Int)(x1:Int×Int×Int)(K:((T6)×Int)→af→Prop)(h0:af):Prop:=
 At (hnew h0 [.int .u64 x1.1,.int .u64 x1.2.1,.int .u64 x1.2.2] cn) (fun h1=>
 At (hnew h1 [.int .i64 0,.int .u64 0,.int .u64 0,.int .u64 0,.pointer none,.pointer none] aV) (fun h2=>
 CondP (x0==(0:Int)) (
 ∃v3,ae h2 (ag h0) 0 (.int .u64 v3)∧
 ∃v4,ae h2 (ag h0) 1 (.int .u64 v4)∧
 ∃v5,ae h2 (ag h0) 2 (.int .u64 v5)∧
 HC PG pS [.agg #[.int .u64 v3,.int .u64 v4,.int .u64 v5],.pointer none] [.agg [.int .i64,.int .u64,.int .u64,.int .u64,.ptr,.ptr]] (fun(e6:T6) h7=>
 (dq h7 (some (ag h1)) 0 [.int .i64 e6.1,.int .u64 e6.2.1,.int .u64 e6.2.2.1,.int .u64 e6.2.2.2.1,.pointer e6.2.2.2.2.1,.pointer e6.2.2.2.2.2]∧
 At (aX h7 (ag h1) 0 [.int .i64 e6.1,.int .u64 e6.2.1,.int .u64 e6.2.2.1,.int .u64 e6.2.2.2.1,.pointer e6.2.2.2.2.1,.pointer e6.2.2.2.2.2]) (fun h8=>
 ∃v9,ae h8 (ag h1) 0 (.int .i64 v9)∧
 ∃v10,ae h8 (ag h1) 1 (.int .u64 v10)∧
 ∃v11,ae h8 (ag h1) 2 (.int .u64 v11)∧
 ∃v12,ae h8 (ag h1) 3 (.int .u64 v12)∧
 ∃v13,ae h8 (ag h1) 4 (.pointer v13)∧
 ∃v14,ae h8 (ag h1) 5 (.pointer v14)∧
 K ((v9,v10,v11,v12,v13,v14),0) h8))) h2) (
 CondP (x0==(1:Int)) (
 HC PG pR [.pointer none] [.agg [.int .i64,.int .u64,.int .u64,.int .u64,.ptr,.ptr]] (fun(e15:T6) h16=>
 (dq h16 (some (ag h1)) 0 [.int .i64 e15.1,.int .u64 e15.2.1,.int .u64 e15.2.2.1,.int .u64 e15.2.2.2.1,.pointer e15.2.2.2.2.1,.pointer e15.2.2.2.2.2]∧
 At (aX h16 (ag h1) 0 [.int .i64 e15.1,.int .u64 e15.2.1,.int .u64 e15.2.2.1,.int .u64 e15.2.2.2.1,.pointer e15.2.2.2.2.1,.pointer e15.2.2.2.2.2]) (fun h17=>
 ∃v18,ae h17 (ag h1) 0 (.int .i64 v18)∧
 ∃v19,ae h17 (ag h1) 1 (.int .u64 v19)∧
 ∃v20,ae h17 (ag h1) 2 (.int .u64 v20)∧
 ∃v21,ae h17 (ag h1) 3 (.int .u64 v21)∧
 ∃v22,ae h17 (ag h1) 4 (.pointer v22)∧
 ∃v23,ae h17 (ag h1) 5 (.pointer v23)∧
 K ((v18,v19,v20,v21,v22,v23),0) h17))) h2) (
 (dq h2 (some (ag h1)) 0 [.int .i64 0,.int .u64 0,.int .u64 0,.int .u64 0,.pointer none,.pointer none]∧
 At (aX h2 (ag h1) 0 [.int .i64 0,.int .u64 0,.int .u64 0,.int .u64 0,.pointer none,.pointer none]) (fun h24=>
 ∃v25,ae h24 (ag h1) 0 (.int .i64 v25)∧
 ∃v26,ae h24 (ag h1) 1 (.int .u64 v26)∧
 ∃v27,ae h24 (ag h1) 2 (.int .u64 v27)∧
 ∃v28,ae h24 (ag h1) 3 (.int .u64 v28)∧
 ∃v29,ae h24 (ag h1) 4 (.pointer v29)∧
 ∃v30,ae h24 (ag h1) 5 (.pointer v30)∧
 K ((v25,v26,v27,v28,v29,v30),11) h24))))))
noncomputable def Pg:Ann:=.nil
theorem O1(x0:Int)(x1:Int×Int×Int){K:cD [.agg [.int .i64,.int .u64,.int .u64,.int .u64,.ptr,.ptr],.c (.int .i64)]→af→Prop}{h0:af}(h:GQ x0 x1 K h0):HC PG ww [.int .i64 x0,.agg #[.int .u64 x1.1,.int .u64 x1.2.1,.int .u64 x1.2.2]] [.agg [.int .i64,.int .u64,.int .u64,.int .u64,.ptr,.ptr],.c (.int .i64)] K h0:=HC.intro (an:=Pg) (c:=Tryz.f25.body.getD .skip) Tryz.mixed Tryz.func25 rfl Tryz.call25 (ad rfl) (cT (by kernel_rfl) h)
def Jq(x0:Int)(x1:Int×Int×Int)(K:((Int×Int×Int×Int×SliceV)×Int)→af→Prop)(h0:af):Prop:=
 At (hnew h0 [.int .u64 x1.1,.int .u64 x1.2.1,.int .u64 x1.2.2] AE) (fun h1=>
 At (hnew h1 [.int .i64 0,.int .u64 0,.int .u64 0,.int .u64 0,.slice none 0 0] dQ) (fun h2=>
 CondP (x0==(0:Int)) (
 ∃v3,ae h2 (ag h0) 0 (.int .u64 v3)∧
 ∃v4,ae h2 (ag h0) 1 (.int .u64 v4)∧
 ∃v5,ae h2 (ag h0) 2 (.int .u64 v5)∧
 (dq h2 (some (ag h1)) 0 [.int .i64 0,.int .u64 v3,.int .u64 v4,.int .u64 v5,.slice none 0 0]∧
 At (aX h2 (ag h1) 0 [.int .i64 0,.int .u64 v3,.int .u64 v4,.int .u64 v5,.slice none 0 0]) (fun h6=>
 ∃v7,ae h6 (ag h1) 0 (.int .i64 v7)∧
 ∃v8,ae h6 (ag h1) 1 (.int .u64 v8)∧
 ∃v9,ae h6 (ag h1) 2 (.int .u64 v9)∧
 ∃v10,ae h6 (ag h1) 3 (.int .u64 v10)∧
 ∃v11:SliceV,ae h6 (ag h1) 4 (.slice v11.a v11.len v11.cap)∧
 K ((v7,v8,v9,v10,v11),0) h6))) (
 CondP (x0==(1:Int)) (
 (dq h2 (some (ag h1)) 0 [.int .i64 1,.int .u64 0,.int .u64 0,.int .u64 0,.slice none 0 0]∧
 At (aX h2 (ag h1) 0 [.int .i64 1,.int .u64 0,.int .u64 0,.int .u64 0,.slice none 0 0]) (fun h12=>
 ∃v13,ae h12 (ag h1) 0 (.int .i64 v13)∧
 ∃v14,ae h12 (ag h1) 1 (.int .u64 v14)∧
 ∃v15,ae h12 (ag h1) 2 (.int .u64 v15)∧
 ∃v16,ae h12 (ag h1) 3 (.int .u64 v16)∧
 ∃v17:SliceV,ae h12 (ag h1) 4 (.slice v17.a v17.len v17.cap)∧
 K ((v13,v14,v15,v16,v17),0) h12))) (
 (dq h2 (some (ag h1)) 0 [.int .i64 0,.int .u64 0,.int .u64 0,.int .u64 0,.slice none 0 0]∧
 At (aX h2 (ag h1) 0 [.int .i64 0,.int .u64 0,.int .u64 0,.int .u64 0,.slice none 0 0]) (fun h18=>
 ∃v19,ae h18 (ag h1) 0 (.int .i64 v19)∧
 ∃v20,ae h18 (ag h1) 1 (.int .u64 v20)∧
 ∃v21,ae h18 (ag h1) 2 (.int .u64 v21)∧
 ∃v22,ae h18 (ag h1) 3 (.int .u64 v22)∧
 ∃v23:SliceV,ae h18 (ag h1) 4 (.slice v23.a v23.len v23.cap)∧
 K ((v19,v20,v21,v22,v23),11) h18))))))
noncomputable def Rz:Ann:=.nil
theorem Rr(x0:Int)(x1:Int×Int×Int){K:cD [.agg [.int .i64,.int .u64,.int .u64,.int .u64,.slice],.c (.int .i64)]→af→Prop}{h0:af}(h:Jq x0 x1 K h0):HC PG CT [.int .i64 x0,.agg #[.int .u64 x1.1,.int .u64 x1.2.1,.int .u64 x1.2.2]] [.agg [.int .i64,.int .u64,.int .u64,.int .u64,.slice],.c (.int .i64)] K h0:=HC.intro (an:=Rz) (c:=Tryz.f26.body.getD .skip) Tryz.mixed Tryz.func26 rfl Tryz.call26 (ad rfl) (cT (by kernel_rfl) h)
def Jt(x0:Int×Int×Int)(K:(Int×Int×Int)→af→Prop)(h0:af):Prop:=
 At (hnew h0 [.int .u64 x0.1,.int .u64 x0.2.1,.int .u64 x0.2.2] cn) (fun h1=>
 At (hnew h1 [.int .u64 0,.int .u64 0,.int .u64 0] AE) (fun h2=>
 ∃v3,ae h2 (adr (ag h0) 0) 0 (.int .u64 v3)∧
 ∃v4,ae h2 (adr (ag h0) 0) 1 (.int .u64 v4)∧
 ∃v5,ae h2 (ag h0) 2 (.int .u64 v5)∧
 (dq h2 (some (ag h1)) 0 [.int .u64 v3,.int .u64 v4,.int .u64 v5]∧
 At (aX h2 (ag h1) 0 [.int .u64 v3,.int .u64 v4,.int .u64 v5]) (fun h6=>
 ∃v7,ae h6 (ag h1) 0 (.int .u64 v7)∧
 ∃v8,ae h6 (ag h1) 1 (.int .u64 v8)∧
 ∃v9,ae h6 (ag h1) 2 (.int .u64 v9)∧
 K (v7,v8,v9) h6))))
noncomputable def RC:Ann:=.nil
theorem Rv(x0:Int×Int×Int){K:cD [.agg [.int .u64,.int .u64,.int .u64]]→af→Prop}{h0:af}(h:Jt x0 K h0):HC PG CW [.agg #[.int .u64 x0.1,.int .u64 x0.2.1,.int .u64 x0.2.2]] [.agg [.int .u64,.int .u64,.int .u64]] K h0:=HC.intro (an:=RC) (c:=Tryz.f27.body.getD .skip) Tryz.mixed Tryz.func27 rfl Tryz.call27 (ad rfl) (cT (by kernel_rfl) h)
def vB(x0:T6)(x1:Option Addr)(x2:ByteArray×ByteArray)(K:((T6)×Int)→af→Prop)(h0:af):Prop:=
 At (hnew h0 [.int .i64 x0.1,.int .u64 x0.2.1,.int .u64 x0.2.2.1,.int .u64 x0.2.2.2.1,.pointer x0.2.2.2.2.1,.pointer x0.2.2.2.2.2] aV) (fun h1=>
 At (hnew h1 [.string x2.1,.string x2.2] al) (fun h2=>
 At (hnew h2 [.int .i64 0,.int .u64 0,.int .u64 0,.int .u64 0,.pointer none,.pointer none] aV) (fun h3=>
 ∃v4,ae h3 (ag h1) 0 (.string v4)∧
 ∃v5,ae h3 (ag h1) 1 (.string v5)∧
 HC PG lq [.string v4,.string v5] [.c (.int .i64)] (fun(e6:Int) h7=>
 CondP (e6 !=(0:Int)) (
 ∃v8,ae h7 (ag h0) 0 (.int .i64 v8)∧
 ∃v9,ae h7 (ag h0) 1 (.int .u64 v9)∧
 ∃v10,ae h7 (ag h0) 2 (.int .u64 v10)∧
 ∃v11,ae h7 (ag h0) 3 (.int .u64 v11)∧
 ∃v12,ae h7 (ag h0) 4 (.pointer v12)∧
 ∃v13,ae h7 (ag h0) 5 (.pointer v13)∧
 (dq h7 (some (ag h2)) 0 [.int .i64 v8,.int .u64 v9,.int .u64 v10,.int .u64 v11,.pointer v12,.pointer v13]∧
 At (aX h7 (ag h2) 0 [.int .i64 v8,.int .u64 v9,.int .u64 v10,.int .u64 v11,.pointer v12,.pointer v13]) (fun h14=>
 ∃v15,ae h14 (ag h2) 0 (.int .i64 v15)∧
 ∃v16,ae h14 (ag h2) 1 (.int .u64 v16)∧
 ∃v17,ae h14 (ag h2) 2 (.int .u64 v17)∧
 ∃v18,ae h14 (ag h2) 3 (.int .u64 v18)∧
 ∃v19,ae h14 (ag h2) 4 (.pointer v19)∧
 ∃v20,ae h14 (ag h2) 5 (.pointer v20)∧
 K ((v15,v16,v17,v18,v19,v20),e6) h14))) (
 ∃v21,ae h7 (ag h0) 0 (.int .i64 v21)∧
 CondP (v21==(1:Int)) (
 ∃v22,ae h7 (ag h0) 5 (.pointer v22)∧
 ∃v23,ae h7 (ag h1) 0 (.string v23)∧
 ∃v24,ae h7 (ag h1) 1 (.string v24)∧
 HC PG xG [.pointer x1,.pointer v22,.agg #[.string v23,.string v24]] [.c .ptr,.c .bool] (fun(e25:(Option Addr)×Bool) h26=>
 (Wr h26 (adr (ag h0) 5)∧
 At (hset h26 (adr (ag h0) 5) (.pointer e25.1)) (fun h27=>
 ∃v28,ae h27 (ag h0) 0 (.int .i64 v28)∧
 ∃v29,ae h27 (ag h0) 1 (.int .u64 v29)∧
 ∃v30,ae h27 (ag h0) 2 (.int .u64 v30)∧
 ∃v31,ae h27 (ag h0) 3 (.int .u64 v31)∧
 ∃v32,ae h27 (ag h0) 4 (.pointer v32)∧
 ∃v33,ae h27 (ag h0) 5 (.pointer v33)∧
 (dq h27 (some (ag h2)) 0 [.int .i64 v28,.int .u64 v29,.int .u64 v30,.int .u64 v31,.pointer v32,.pointer v33]∧
 At (aX h27 (ag h2) 0 [.int .i64 v28,.int .u64 v29,.int .u64 v30,.int .u64 v31,.pointer v32,.pointer v33]) (fun h34=>
 ∃v35,ae h34 (ag h2) 0 (.int .i64 v35)∧
 ∃v36,ae h34 (ag h2) 1 (.int .u64 v36)∧
 ∃v37,ae h34 (ag h2) 2 (.int .u64 v37)∧
 ∃v38,ae h34 (ag h2) 3 (.int .u64 v38)∧
 ∃v39,ae h34 (ag h2) 4 (.pointer v39)∧
 ∃v40,ae h34 (ag h2) 5 (.pointer v40)∧
 K ((v35,v36,v37,v38,v39,v40),0) h34))))) h7) (
 ∃v41,ae h7 (adr (ag h0) 1) 0 (.int .u64 v41)∧
 ∃v42,ae h7 (adr (ag h0) 1) 1 (.int .u64 v42)∧
 ∃v43,ae h7 (adr (ag h0) 1) 2 (.int .u64 v43)∧
 ∃v44,ae h7 (ag h0) 4 (.pointer v44)∧
 ∃v45,ae h7 (ag h1) 0 (.string v45)∧
 ∃v46,ae h7 (ag h1) 1 (.string v46)∧
 HC PG xP [.agg #[.int .u64 v41,.int .u64 v42,.int .u64 v43],.pointer x1,.pointer v44,.agg #[.string v45,.string v46]] [.c .ptr,.c .bool] (fun(e47:(Option Addr)×Bool) h48=>
 (Wr h48 (adr (ag h0) 4)∧
 At (hset h48 (adr (ag h0) 4) (.pointer e47.1)) (fun h49=>
 ∃v50,ae h49 (ag h0) 0 (.int .i64 v50)∧
 ∃v51,ae h49 (ag h0) 1 (.int .u64 v51)∧
 ∃v52,ae h49 (ag h0) 2 (.int .u64 v52)∧
 ∃v53,ae h49 (ag h0) 3 (.int .u64 v53)∧
 ∃v54,ae h49 (ag h0) 4 (.pointer v54)∧
 ∃v55,ae h49 (ag h0) 5 (.pointer v55)∧
 (dq h49 (some (ag h2)) 0 [.int .i64 v50,.int .u64 v51,.int .u64 v52,.int .u64 v53,.pointer v54,.pointer v55]∧
 At (aX h49 (ag h2) 0 [.int .i64 v50,.int .u64 v51,.int .u64 v52,.int .u64 v53,.pointer v54,.pointer v55]) (fun h56=>
 ∃v57,ae h56 (ag h2) 0 (.int .i64 v57)∧
 ∃v58,ae h56 (ag h2) 1 (.int .u64 v58)∧
 ∃v59,ae h56 (ag h2) 2 (.int .u64 v59)∧
 ∃v60,ae h56 (ag h2) 3 (.int .u64 v60)∧
 ∃v61,ae h56 (ag h2) 4 (.pointer v61)∧
 ∃v62,ae h56 (ag h2) 5 (.pointer v62)∧
 K ((v57,v58,v59,v60,v61,v62),0) h56))))) h7))) h3)))
noncomputable def Ds:Ann:=.nil
theorem Df(x0:T6)(x1:Option Addr)(x2:ByteArray×ByteArray){K:cD [.agg [.int .i64,.int .u64,.int .u64,.int .u64,.ptr,.ptr],.c (.int .i64)]→af→Prop}{h0:af}(h:vB x0 x1 x2 K h0):HC PG ns [.agg #[.int .i64 x0.1,.int .u64 x0.2.1,.int .u64 x0.2.2.1,.int .u64 x0.2.2.2.1,.pointer x0.2.2.2.2.1,.pointer x0.2.2.2.2.2],.pointer x1,.agg #[.string x2.1,.string x2.2]] [.agg [.int .i64,.int .u64,.int .u64,.int .u64,.ptr,.ptr],.c (.int .i64)] K h0:=HC.intro (an:=Ds) (c:=Tryz.f28.body.getD .skip) Tryz.mixed Tryz.func28 rfl Tryz.call28 (ad rfl) (cT (by kernel_rfl) h)
def GT(x0:Int×Int×Int×Int×SliceV)(x1:ByteArray×ByteArray)(K:((Int×Int×Int×Int×SliceV)×Int)→af→Prop)(h0:af):Prop:=
 At (hnew h0 [.int .i64 x0.1,.int .u64 x0.2.1,.int .u64 x0.2.2.1,.int .u64 x0.2.2.2.1,.slice x0.2.2.2.2.a x0.2.2.2.2.len x0.2.2.2.2.cap] dQ) (fun h1=>
 At (hnew h1 [.string x1.1,.string x1.2] dR) (fun h2=>
 At (hnew h2 [.int .i64 0,.int .u64 0,.int .u64 0,.int .u64 0,.slice none 0 0] dQ) (fun h3=>
 ∃v4,ae h3 (ag h1) 0 (.string v4)∧
 ∃v5,ae h3 (ag h1) 1 (.string v5)∧
 HC PG xI [.string v4,.string v5] [.c (.int .i64)] (fun(e6:Int) h7=>
 CondP (e6 !=(0:Int)) (
 ∃v8,ae h7 (ag h0) 0 (.int .i64 v8)∧
 ∃v9,ae h7 (ag h0) 1 (.int .u64 v9)∧
 ∃v10,ae h7 (ag h0) 2 (.int .u64 v10)∧
 ∃v11,ae h7 (ag h0) 3 (.int .u64 v11)∧
 ∃v12:SliceV,ae h7 (ag h0) 4 (.slice v12.a v12.len v12.cap)∧
 (dq h7 (some (ag h2)) 0 [.int .i64 v8,.int .u64 v9,.int .u64 v10,.int .u64 v11,.slice v12.a v12.len v12.cap]∧
 At (aX h7 (ag h2) 0 [.int .i64 v8,.int .u64 v9,.int .u64 v10,.int .u64 v11,.slice v12.a v12.len v12.cap]) (fun h13=>
 ∃v14,ae h13 (ag h2) 0 (.int .i64 v14)∧
 ∃v15,ae h13 (ag h2) 1 (.int .u64 v15)∧
 ∃v16,ae h13 (ag h2) 2 (.int .u64 v16)∧
 ∃v17,ae h13 (ag h2) 3 (.int .u64 v17)∧
 ∃v18:SliceV,ae h13 (ag h2) 4 (.slice v18.a v18.len v18.cap)∧
 K ((v14,v15,v16,v17,v18),e6) h13))) (
 ∃v19:SliceV,ae h7 (ag h0) 4 (.slice v19.a v19.len v19.cap)∧
 ∃v20,ae h7 (ag h1) 0 (.string v20)∧
 ∃v21,ae h7 (ag h1) 1 (.string v21)∧
 HC PG CU [.slice v19.a v19.len v19.cap,.agg #[.string v20,.string v21]] [.c .slice] (fun(e22:SliceV) h23=>
 (Wr h23 (adr (ag h0) 4)∧
 At (hset h23 (adr (ag h0) 4) (.slice e22.a e22.len e22.cap)) (fun h24=>
 ∃v25,ae h24 (ag h0) 0 (.int .i64 v25)∧
 ∃v26,ae h24 (ag h0) 1 (.int .u64 v26)∧
 ∃v27,ae h24 (ag h0) 2 (.int .u64 v27)∧
 ∃v28,ae h24 (ag h0) 3 (.int .u64 v28)∧
 ∃v29:SliceV,ae h24 (ag h0) 4 (.slice v29.a v29.len v29.cap)∧
 (dq h24 (some (ag h2)) 0 [.int .i64 v25,.int .u64 v26,.int .u64 v27,.int .u64 v28,.slice v29.a v29.len v29.cap]∧
 At (aX h24 (ag h2) 0 [.int .i64 v25,.int .u64 v26,.int .u64 v27,.int .u64 v28,.slice v29.a v29.len v29.cap]) (fun h30=>
 ∃v31,ae h30 (ag h2) 0 (.int .i64 v31)∧
 ∃v32,ae h30 (ag h2) 1 (.int .u64 v32)∧
 ∃v33,ae h30 (ag h2) 2 (.int .u64 v33)∧
 ∃v34,ae h30 (ag h2) 3 (.int .u64 v34)∧
 ∃v35:SliceV,ae h30 (ag h2) 4 (.slice v35.a v35.len v35.cap)∧
 K ((v31,v32,v33,v34,v35),0) h30))))) h7)) h3)))
noncomputable def Pk:Ann:=.nil
theorem O4(x0:Int×Int×Int×Int×SliceV)(x1:ByteArray×ByteArray){K:cD [.agg [.int .i64,.int .u64,.int .u64,.int .u64,.slice],.c (.int .i64)]→af→Prop}{h0:af}(h:GT x0 x1 K h0):HC PG zR [.agg #[.int .i64 x0.1,.int .u64 x0.2.1,.int .u64 x0.2.2.1,.int .u64 x0.2.2.2.1,.slice x0.2.2.2.2.a x0.2.2.2.2.len x0.2.2.2.2.cap],.agg #[.string x1.1,.string x1.2]] [.agg [.int .i64,.int .u64,.int .u64,.int .u64,.slice],.c (.int .i64)] K h0:=HC.intro (an:=Pk) (c:=Tryz.f29.body.getD .skip) Tryz.mixed Tryz.func29 rfl Tryz.call29 (ad rfl) (cT (by kernel_rfl) h)
def sd(x0:T6)(x1:Option Addr)(x2:ByteArray)(K:((T6)×Int)→af→Prop)(h0:af):Prop:=
 At (hnew h0 [.int .i64 x0.1,.int .u64 x0.2.1,.int .u64 x0.2.2.1,.int .u64 x0.2.2.2.1,.pointer x0.2.2.2.2.1,.pointer x0.2.2.2.2.2] aV) (fun h1=>
 At (hnew h1 [.int .i64 0,.int .u64 0,.int .u64 0,.int .u64 0,.pointer none,.pointer none] aV) (fun h2=>
 HC PG lq [.string x2,.string (⟨#[]⟩:ByteArray)] [.c (.int .i64)] (fun(e3:Int) h4=>
 CondP (e3 !=(0:Int)) (
 ∃v5,ae h4 (ag h0) 0 (.int .i64 v5)∧
 ∃v6,ae h4 (ag h0) 1 (.int .u64 v6)∧
 ∃v7,ae h4 (ag h0) 2 (.int .u64 v7)∧
 ∃v8,ae h4 (ag h0) 3 (.int .u64 v8)∧
 ∃v9,ae h4 (ag h0) 4 (.pointer v9)∧
 ∃v10,ae h4 (ag h0) 5 (.pointer v10)∧
 (dq h4 (some (ag h1)) 0 [.int .i64 v5,.int .u64 v6,.int .u64 v7,.int .u64 v8,.pointer v9,.pointer v10]∧
 At (aX h4 (ag h1) 0 [.int .i64 v5,.int .u64 v6,.int .u64 v7,.int .u64 v8,.pointer v9,.pointer v10]) (fun h11=>
 ∃v12,ae h11 (ag h1) 0 (.int .i64 v12)∧
 ∃v13,ae h11 (ag h1) 1 (.int .u64 v13)∧
 ∃v14,ae h11 (ag h1) 2 (.int .u64 v14)∧
 ∃v15,ae h11 (ag h1) 3 (.int .u64 v15)∧
 ∃v16,ae h11 (ag h1) 4 (.pointer v16)∧
 ∃v17,ae h11 (ag h1) 5 (.pointer v17)∧
 K ((v12,v13,v14,v15,v16,v17),e3) h11))) (
 ∃v18,ae h4 (ag h0) 0 (.int .i64 v18)∧
 ∃v19,ae h4 (ag h0) 1 (.int .u64 v19)∧
 ∃v20,ae h4 (ag h0) 2 (.int .u64 v20)∧
 ∃v21,ae h4 (ag h0) 3 (.int .u64 v21)∧
 ∃v22,ae h4 (ag h0) 4 (.pointer v22)∧
 ∃v23,ae h4 (ag h0) 5 (.pointer v23)∧
 At (hnew h4 [.int .i64 0,.int .u64 0,.int .u64 0,.int .u64 0,.pointer none,.pointer none] aV) (fun h24=>
 (dq h24 (some (ag h4)) 0 [.int .i64 v18,.int .u64 v19,.int .u64 v20,.int .u64 v21,.pointer v22,.pointer v23]∧
 At (aX h24 (ag h4) 0 [.int .i64 v18,.int .u64 v19,.int .u64 v20,.int .u64 v21,.pointer v22,.pointer v23]) (fun h25=>
 Join (fun(t39:Bool) h40=>
 CondP (!t39) (
 ∃v41,ae h40 (ag h4) 0 (.int .i64 v41)∧
 ∃v42,ae h40 (ag h4) 1 (.int .u64 v42)∧
 ∃v43,ae h40 (ag h4) 2 (.int .u64 v43)∧
 ∃v44,ae h40 (ag h4) 3 (.int .u64 v44)∧
 ∃v45,ae h40 (ag h4) 4 (.pointer v45)∧
 ∃v46,ae h40 (ag h4) 5 (.pointer v46)∧
 (dq h40 (some (ag h1)) 0 [.int .i64 v41,.int .u64 v42,.int .u64 v43,.int .u64 v44,.pointer v45,.pointer v46]∧
 At (aX h40 (ag h1) 0 [.int .i64 v41,.int .u64 v42,.int .u64 v43,.int .u64 v44,.pointer v45,.pointer v46]) (fun h47=>
 ∃v48,ae h47 (ag h1) 0 (.int .i64 v48)∧
 ∃v49,ae h47 (ag h1) 1 (.int .u64 v49)∧
 ∃v50,ae h47 (ag h1) 2 (.int .u64 v50)∧
 ∃v51,ae h47 (ag h1) 3 (.int .u64 v51)∧
 ∃v52,ae h47 (ag h1) 4 (.pointer v52)∧
 ∃v53,ae h47 (ag h1) 5 (.pointer v53)∧
 K ((v48,v49,v50,v51,v52,v53),4) h47))) (
 ∃v54,ae h40 (ag h0) 0 (.int .i64 v54)∧
 ∃v55,ae h40 (ag h0) 1 (.int .u64 v55)∧
 ∃v56,ae h40 (ag h0) 2 (.int .u64 v56)∧
 ∃v57,ae h40 (ag h0) 3 (.int .u64 v57)∧
 ∃v58,ae h40 (ag h0) 4 (.pointer v58)∧
 ∃v59,ae h40 (ag h0) 5 (.pointer v59)∧
 (dq h40 (some (ag h1)) 0 [.int .i64 v54,.int .u64 v55,.int .u64 v56,.int .u64 v57,.pointer v58,.pointer v59]∧
 At (aX h40 (ag h1) 0 [.int .i64 v54,.int .u64 v55,.int .u64 v56,.int .u64 v57,.pointer v58,.pointer v59]) (fun h60=>
 ∃v61,ae h60 (ag h1) 0 (.int .i64 v61)∧
 ∃v62,ae h60 (ag h1) 1 (.int .u64 v62)∧
 ∃v63,ae h60 (ag h1) 2 (.int .u64 v63)∧
 ∃v64,ae h60 (ag h1) 3 (.int .u64 v64)∧
 ∃v65,ae h60 (ag h1) 4 (.pointer v65)∧
 ∃v66,ae h60 (ag h1) 5 (.pointer v66)∧
 K ((v61,v62,v63,v64,v65,v66),0) h60)))) (fun J26=>
 ∃v27,ae h25 (ag h0) 0 (.int .i64 v27)∧
 CondP (v27==(1:Int)) (
 ∃v28,ae h25 (ag h0) 5 (.pointer v28)∧
 HC PG wz [.pointer x1,.pointer v28,.string x2] [.c .ptr,.c .bool] (fun(e29:(Option Addr)×Bool) h30=>
 (Wr h30 (adr (ag h0) 5)∧
 At (hset h30 (adr (ag h0) 5) (.pointer e29.1)) (fun h31=>
 J26 e29.2 h31))) h25) (
 ∃v32,ae h25 (adr (ag h0) 1) 0 (.int .u64 v32)∧
 ∃v33,ae h25 (adr (ag h0) 1) 1 (.int .u64 v33)∧
 ∃v34,ae h25 (adr (ag h0) 1) 2 (.int .u64 v34)∧
 ∃v35,ae h25 (ag h0) 4 (.pointer v35)∧
 HC PG wD [.agg #[.int .u64 v32,.int .u64 v33,.int .u64 v34],.pointer x1,.pointer v35,.string x2] [.c .ptr,.c .bool] (fun(e36:(Option Addr)×Bool) h37=>
 (Wr h37 (adr (ag h0) 4)∧
 At (hset h37 (adr (ag h0) 4) (.pointer e36.1)) (fun h38=>
 J26 e36.2 h38))) h25))))))) h2))
noncomputable def yL:Ann:=.node .nil (.node .nil (.node .nil (.join [(10,.c .bool)] .nil .nil)))
theorem yF(x0:T6)(x1:Option Addr)(x2:ByteArray){K:cD [.agg [.int .i64,.int .u64,.int .u64,.int .u64,.ptr,.ptr],.c (.int .i64)]→af→Prop}{h0:af}(h:sd x0 x1 x2 K h0):HC PG kj [.agg #[.int .i64 x0.1,.int .u64 x0.2.1,.int .u64 x0.2.2.1,.int .u64 x0.2.2.2.1,.pointer x0.2.2.2.2.1,.pointer x0.2.2.2.2.2],.pointer x1,.string x2] [.agg [.int .i64,.int .u64,.int .u64,.int .u64,.ptr,.ptr],.c (.int .i64)] K h0:=HC.intro (an:=yL) (c:=Tryz.f30.body.getD .skip) Tryz.mixed Tryz.func30 rfl Tryz.call30 (ad rfl) (cT (by kernel_rfl) h)
def zi(x0:Int×Int×Int×Int×SliceV)(x1:ByteArray)(K:((Int×Int×Int×Int×SliceV)×Int)→af→Prop)(h0:af):Prop:=
 At (hnew h0 [.int .i64 x0.1,.int .u64 x0.2.1,.int .u64 x0.2.2.1,.int .u64 x0.2.2.2.1,.slice x0.2.2.2.2.a x0.2.2.2.2.len x0.2.2.2.2.cap] dQ) (fun h1=>
 At (hnew h1 [.int .i64 0,.int .u64 0,.int .u64 0,.int .u64 0,.slice none 0 0] dQ) (fun h2=>
 CondP (decide ((x1.size:Int)>(256:Int))) (
 ∃v3,ae h2 (ag h0) 0 (.int .i64 v3)∧
 ∃v4,ae h2 (ag h0) 1 (.int .u64 v4)∧
 ∃v5,ae h2 (ag h0) 2 (.int .u64 v5)∧
 ∃v6,ae h2 (ag h0) 3 (.int .u64 v6)∧
 ∃v7:SliceV,ae h2 (ag h0) 4 (.slice v7.a v7.len v7.cap)∧
 (dq h2 (some (ag h1)) 0 [.int .i64 v3,.int .u64 v4,.int .u64 v5,.int .u64 v6,.slice v7.a v7.len v7.cap]∧
 At (aX h2 (ag h1) 0 [.int .i64 v3,.int .u64 v4,.int .u64 v5,.int .u64 v6,.slice v7.a v7.len v7.cap]) (fun h8=>
 ∃v9,ae h8 (ag h1) 0 (.int .i64 v9)∧
 ∃v10,ae h8 (ag h1) 1 (.int .u64 v10)∧
 ∃v11,ae h8 (ag h1) 2 (.int .u64 v11)∧
 ∃v12,ae h8 (ag h1) 3 (.int .u64 v12)∧
 ∃v13:SliceV,ae h8 (ag h1) 4 (.slice v13.a v13.len v13.cap)∧
 K ((v9,v10,v11,v12,v13),2) h8))) (
 ∃v14:SliceV,ae h2 (ag h0) 4 (.slice v14.a v14.len v14.cap)∧
 HC PG CV [.slice v14.a v14.len v14.cap,.string x1] [.c .str,.c .bool] (fun(e15:ByteArray×Bool) h16=>
 CondP (!e15.2) (
 ∃v17,ae h16 (ag h0) 0 (.int .i64 v17)∧
 ∃v18,ae h16 (ag h0) 1 (.int .u64 v18)∧
 ∃v19,ae h16 (ag h0) 2 (.int .u64 v19)∧
 ∃v20,ae h16 (ag h0) 3 (.int .u64 v20)∧
 ∃v21:SliceV,ae h16 (ag h0) 4 (.slice v21.a v21.len v21.cap)∧
 (dq h16 (some (ag h1)) 0 [.int .i64 v17,.int .u64 v18,.int .u64 v19,.int .u64 v20,.slice v21.a v21.len v21.cap]∧
 At (aX h16 (ag h1) 0 [.int .i64 v17,.int .u64 v18,.int .u64 v19,.int .u64 v20,.slice v21.a v21.len v21.cap]) (fun h22=>
 ∃v23,ae h22 (ag h1) 0 (.int .i64 v23)∧
 ∃v24,ae h22 (ag h1) 1 (.int .u64 v24)∧
 ∃v25,ae h22 (ag h1) 2 (.int .u64 v25)∧
 ∃v26,ae h22 (ag h1) 3 (.int .u64 v26)∧
 ∃v27:SliceV,ae h22 (ag h1) 4 (.slice v27.a v27.len v27.cap)∧
 K ((v23,v24,v25,v26,v27),4) h22))) (
 ∃v28:SliceV,ae h16 (ag h0) 4 (.slice v28.a v28.len v28.cap)∧
 HC PG wB [.slice v28.a v28.len v28.cap,.string x1] [.c .slice] (fun(e29:SliceV) h30=>
 (Wr h30 (adr (ag h0) 4)∧
 At (hset h30 (adr (ag h0) 4) (.slice e29.a e29.len e29.cap)) (fun h31=>
 ∃v32,ae h31 (ag h0) 0 (.int .i64 v32)∧
 ∃v33,ae h31 (ag h0) 1 (.int .u64 v33)∧
 ∃v34,ae h31 (ag h0) 2 (.int .u64 v34)∧
 ∃v35,ae h31 (ag h0) 3 (.int .u64 v35)∧
 ∃v36:SliceV,ae h31 (ag h0) 4 (.slice v36.a v36.len v36.cap)∧
 (dq h31 (some (ag h1)) 0 [.int .i64 v32,.int .u64 v33,.int .u64 v34,.int .u64 v35,.slice v36.a v36.len v36.cap]∧
 At (aX h31 (ag h1) 0 [.int .i64 v32,.int .u64 v33,.int .u64 v34,.int .u64 v35,.slice v36.a v36.len v36.cap]) (fun h37=>
 ∃v38,ae h37 (ag h1) 0 (.int .i64 v38)∧
 ∃v39,ae h37 (ag h1) 1 (.int .u64 v39)∧
 ∃v40,ae h37 (ag h1) 2 (.int .u64 v40)∧
 ∃v41,ae h37 (ag h1) 3 (.int .u64 v41)∧
 ∃v42:SliceV,ae h37 (ag h1) 4 (.slice v42.a v42.len v42.cap)∧
 K ((v38,v39,v40,v41,v42),0) h37))))) h16)) h2)))
noncomputable def H1:Ann:=.nil
theorem HI(x0:Int×Int×Int×Int×SliceV)(x1:ByteArray){K:cD [.agg [.int .i64,.int .u64,.int .u64,.int .u64,.slice],.c (.int .i64)]→af→Prop}{h0:af}(h:zi x0 x1 K h0):HC PG uM [.agg #[.int .i64 x0.1,.int .u64 x0.2.1,.int .u64 x0.2.2.1,.int .u64 x0.2.2.2.1,.slice x0.2.2.2.2.a x0.2.2.2.2.len x0.2.2.2.2.cap],.string x1] [.agg [.int .i64,.int .u64,.int .u64,.int .u64,.slice],.c (.int .i64)] K h0:=HC.intro (an:=H1) (c:=Tryz.f31.body.getD .skip) Tryz.mixed Tryz.func31 rfl Tryz.call31 (ad rfl) (cT (by kernel_rfl) h)
def Ek(x0:T6)(x1:T6)(K:(Bool)→af→Prop)(h0:af):Prop:=
 At (hnew h0 [.int .i64 x0.1,.int .u64 x0.2.1,.int .u64 x0.2.2.1,.int .u64 x0.2.2.2.1,.pointer x0.2.2.2.2.1,.pointer x0.2.2.2.2.2] aV) (fun h1=>
 At (hnew h1 [.int .i64 x1.1,.int .u64 x1.2.1,.int .u64 x1.2.2.1,.int .u64 x1.2.2.2.1,.pointer x1.2.2.2.2.1,.pointer x1.2.2.2.2.2] aV) (fun h2=>
 ∃v3,ae h2 (ag h0) 0 (.int .i64 v3)∧
 ∃v4,ae h2 (ag h1) 0 (.int .i64 v4)∧
 CondP (v3==v4) (
 ∃v5,ae h2 (adr (ag h0) 1) 0 (.int .u64 v5)∧
 ∃v6,ae h2 (adr (ag h0) 1) 1 (.int .u64 v6)∧
 ∃v7,ae h2 (adr (ag h0) 1) 2 (.int .u64 v7)∧
 ∃v8,ae h2 (adr (ag h1) 1) 0 (.int .u64 v8)∧
 ∃v9,ae h2 (adr (ag h1) 1) 1 (.int .u64 v9)∧
 ∃v10,ae h2 (adr (ag h1) 1) 2 (.int .u64 v10)∧
 K ((((v5==v8)&&((v6==v9)&&true)))&&((v7==v10)&&true)) h2) (
 K false h2)))
noncomputable def M1:Ann:=.nil
theorem MK(x0:T6)(x1:T6){K:cD [.c .bool]→af→Prop}{h0:af}(h:Ek x0 x1 K h0):HC PG tY [.agg #[.int .i64 x0.1,.int .u64 x0.2.1,.int .u64 x0.2.2.1,.int .u64 x0.2.2.2.1,.pointer x0.2.2.2.2.1,.pointer x0.2.2.2.2.2],.agg #[.int .i64 x1.1,.int .u64 x1.2.1,.int .u64 x1.2.2.1,.int .u64 x1.2.2.2.1,.pointer x1.2.2.2.2.1,.pointer x1.2.2.2.2.2]] [.c .bool] K h0:=HC.intro (an:=M1) (c:=Tryz.f32.body.getD .skip) Tryz.mixed Tryz.func32 rfl Tryz.call32 (ad rfl) (cT (by kernel_rfl) h)
def tw(x0:T6)(K:(Int×Int×Int)→af→Prop)(h0:af):Prop:=
 At (hnew h0 [.int .i64 x0.1,.int .u64 x0.2.1,.int .u64 x0.2.2.1,.int .u64 x0.2.2.2.1,.pointer x0.2.2.2.2.1,.pointer x0.2.2.2.2.2] aV) (fun h1=>
 At (hnew h1 [.int .u64 0,.int .u64 0,.int .u64 0] cn) (fun h2=>
 ∃v3,ae h2 (adr (ag h0) 1) 0 (.int .u64 v3)∧
 ∃v4,ae h2 (adr (ag h0) 1) 1 (.int .u64 v4)∧
 ∃v5,ae h2 (adr (ag h0) 1) 2 (.int .u64 v5)∧
 (dq h2 (some (ag h1)) 0 [.int .u64 v3,.int .u64 v4,.int .u64 v5]∧
 At (aX h2 (ag h1) 0 [.int .u64 v3,.int .u64 v4,.int .u64 v5]) (fun h6=>
 ∃v7,ae h6 (ag h1) 0 (.int .u64 v7)∧
 ∃v8,ae h6 (ag h1) 1 (.int .u64 v8)∧
 ∃v9,ae h6 (ag h1) 2 (.int .u64 v9)∧
 K (v7,v8,v9) h6))))
noncomputable def Am:Ann:=.nil
theorem Ab(x0:T6){K:cD [.agg [.int .u64,.int .u64,.int .u64]]→af→Prop}{h0:af}(h:tw x0 K h0):HC PG pf [.agg #[.int .i64 x0.1,.int .u64 x0.2.1,.int .u64 x0.2.2.1,.int .u64 x0.2.2.2.1,.pointer x0.2.2.2.2.1,.pointer x0.2.2.2.2.2]] [.agg [.int .u64,.int .u64,.int .u64]] K h0:=HC.intro (an:=Am) (c:=Tryz.f33.body.getD .skip) Tryz.mixed Tryz.func33 rfl Tryz.call33 (ad rfl) (cT (by kernel_rfl) h)
def vC(x0:T6)(K:(Int)→af→Prop)(h0:af):Prop:=
 At (hnew h0 [.int .i64 x0.1,.int .u64 x0.2.1,.int .u64 x0.2.2.1,.int .u64 x0.2.2.2.1,.pointer x0.2.2.2.2.1,.pointer x0.2.2.2.2.2] aV) (fun h1=>
 ∃v2,ae h1 (ag h0) 0 (.int .i64 v2)∧
 K v2 h1)
noncomputable def Dt:Ann:=.nil
theorem Dg(x0:T6){K:cD [.c (.int .i64)]→af→Prop}{h0:af}(h:vC x0 K h0):HC PG qH [.agg #[.int .i64 x0.1,.int .u64 x0.2.1,.int .u64 x0.2.2.1,.int .u64 x0.2.2.2.1,.pointer x0.2.2.2.2.1,.pointer x0.2.2.2.2.2]] [.c (.int .i64)] K h0:=HC.intro (an:=Dt) (c:=Tryz.f34.body.getD .skip) Tryz.mixed Tryz.func34 rfl Tryz.call34 (ad rfl) (cT (by kernel_rfl) h)
def qR(x0:Option Addr)(x1:Option Addr)(x2:Option Addr)(x3:ByteArray)(K:(Unit)→af→Prop)(h0:af):Prop:=
 (True∧(∀x y:Addr,x1=some x→x2=some y→fL h0 x∧fL h0 y)∧
 CondP (x1==x2) (
 K () h0) (
 Join (fun(t6:Bool) h7=>
 CondP t6 (
 HC PG jR [.pointer x1,.string x3] [.c .slice] (fun(e8:SliceV) h9=>
 HC PG jR [.pointer x2,.string x3] [.c .slice] (fun(e10:SliceV) h11=>
 HC PG ig [.pointer x0,.slice e8.a e8.len e8.cap,.slice e10.a e10.len e10.cap] [] (fun(e12:Unit) h13=>
 K () h13) h11) h9) h7) (
 HC PG dE [.pointer x1] [.c .str] (fun(e14:ByteArray) h15=>
 (((x3.size+e14.size:Nat):Int)≤9223372036854775807∧
 HC PG wC [.pointer x1,.string (x3++e14)] [.c .slice] (fun(e16:SliceV) h17=>
 HC PG wC [.pointer x2,.string (x3++e14)] [.c .slice] (fun(e18:SliceV) h19=>
 HC PG ig [.pointer x0,.slice e16.a e16.len e16.cap,.slice e18.a e18.len e18.cap] [] (fun(e20:Unit) h21=>
 HC PG jN [.pointer x1] [.c .slice] (fun(e22:SliceV) h23=>
 HC PG jN [.pointer x2] [.c .slice] (fun(e24:SliceV) h25=>
 LoopP (fun I26 (t27:SliceV×SliceV) h28=>
 Join (fun(t30:Bool) h31=>
 CondP t30 (
 Join (fun(t43:Bool) h44=>
 CondP t43 (
 (bS 0 t27.1.len∧∃a45,t27.1.a=some a45∧
 ∃v46,ae h44 a45 ((0:Int).toNat*1) (.pointer v46)∧
 HC PG ie [.pointer x0,.pointer v46,.pointer none,.string (x3++e14)] [] (fun(e47:Unit) h48=>
 (((0:Int)≤(1:Int)∧(1:Int)≤((t27.1.len:Nat):Int))∧
 Bd (aM t27.1.a ((1:Int).toNat) t27.1.cap 1:Option Addr) (fun a49=>Bd (t27.1.len-((1:Int).toNat):Nat) (fun n50=>Bd (t27.1.cap-((1:Int).toNat):Nat) (fun n51=>
 I26 (⟨a49,n50,n51⟩,t27.2) h48))))) h44)) (
 Join (fun(t63:Bool) h64=>
 CondP t63 (
 (bS 0 t27.2.len∧∃a65,t27.2.a=some a65∧
 ∃v66,ae h64 a65 ((0:Int).toNat*1) (.pointer v66)∧
 HC PG ie [.pointer x0,.pointer none,.pointer v66,.string (x3++e14)] [] (fun(e67:Unit) h68=>
 (((0:Int)≤(1:Int)∧(1:Int)≤((t27.2.len:Nat):Int))∧
 Bd (aM t27.2.a ((1:Int).toNat) t27.2.cap 1:Option Addr) (fun a69=>Bd (t27.2.len-((1:Int).toNat):Nat) (fun n70=>Bd (t27.2.cap-((1:Int).toNat):Nat) (fun n71=>
 I26 (t27.1,⟨a69,n70,n71⟩) h68))))) h64)) (
 (bS 0 t27.1.len∧∃a72,t27.1.a=some a72∧
 ∃v73,ae h64 a72 ((0:Int).toNat*1) (.pointer v73)∧
 (bS 0 t27.2.len∧∃a74,t27.2.a=some a74∧
 ∃v75,ae h64 a74 ((0:Int).toNat*1) (.pointer v75)∧
 HC PG ie [.pointer x0,.pointer v73,.pointer v75,.string (x3++e14)] [] (fun(e76:Unit) h77=>
 (((0:Int)≤(1:Int)∧(1:Int)≤((t27.1.len:Nat):Int))∧
 Bd (aM t27.1.a ((1:Int).toNat) t27.1.cap 1:Option Addr) (fun a78=>Bd (t27.1.len-((1:Int).toNat):Nat) (fun n79=>Bd (t27.1.cap-((1:Int).toNat):Nat) (fun n80=>
 (((0:Int)≤(1:Int)∧(1:Int)≤((t27.2.len:Nat):Int))∧
 Bd (aM t27.2.a ((1:Int).toNat) t27.2.cap 1:Option Addr) (fun a81=>Bd (t27.2.len-((1:Int).toNat):Nat) (fun n82=>Bd (t27.2.cap-((1:Int).toNat):Nat) (fun n83=>
 I26 (⟨a78,n79,n80⟩,⟨a81,n82,n83⟩) h77))))))))) h64)))) (fun J52=>
 CondP ((t27.1.len:Int)==(0:Int)) (
 J52 true h44) (
 (bS 0 t27.2.len∧∃a53,t27.2.a=some a53∧
 ∃v54,ae h44 a53 ((0:Int).toNat*1) (.pointer v54)∧
 (bS 0 t27.1.len∧∃a55,t27.1.a=some a55∧
 ∃v56,ae h44 a55 ((0:Int).toNat*1) (.pointer v56)∧
 HC PG dE [.pointer v54] [.c .str] (fun(e57:ByteArray) h58=>
 (ae h58 a55 ((0:Int).toNat*1) (.pointer v56)∧
 ∃b59,(0:Int)≤(0:Int)∧e57[(0:Int).toNat]? =some b59∧
 HC PG dE [.pointer v56] [.c .str] (fun(e60:ByteArray) h61=>
 ∃b62,(0:Int)≤(0:Int)∧e60[(0:Int).toNat]? =some b62∧
 J52 (decide ((b59.toNat:Int)<(b62.toNat:Int))) h61) h58)) h44)))))) (fun J32=>
 CondP ((t27.2.len:Int)==(0:Int)) (
 J32 true h31) (
 CondP (decide ((t27.1.len:Int)>(0:Int))) (
 (bS 0 t27.1.len∧∃a33,t27.1.a=some a33∧
 ∃v34,ae h31 a33 ((0:Int).toNat*1) (.pointer v34)∧
 (bS 0 t27.2.len∧∃a35,t27.2.a=some a35∧
 ∃v36,ae h31 a35 ((0:Int).toNat*1) (.pointer v36)∧
 HC PG dE [.pointer v34] [.c .str] (fun(e37:ByteArray) h38=>
 (ae h38 a35 ((0:Int).toNat*1) (.pointer v36)∧
 ∃b39,(0:Int)≤(0:Int)∧e37[(0:Int).toNat]? =some b39∧
 HC PG dE [.pointer v36] [.c .str] (fun(e40:ByteArray) h41=>
 ∃b42,(0:Int)≤(0:Int)∧e40[(0:Int).toNat]? =some b42∧
 J32 (decide ((b39.toNat:Int)<(b42.toNat:Int))) h41) h38)) h31))) (
 J32 false h31)))) (
 K () h31)) (fun J29=>
 CondP (decide ((t27.1.len:Int)>(0:Int))) (
 J29 true h28) (
 J29 (decide ((t27.2.len:Int)>(0:Int))) h28))) (e22,e24) h25) h23) h21) h19) h17) h15)) h7)) (fun J1=>
 CondP x1.isNone (
 J1 true h0) (
 CondP x2.isNone (
 J1 true h0) (
 HC PG dE [.pointer x1] [.c .str] (fun(e2:ByteArray) h3=>
 HC PG dE [.pointer x2] [.c .str] (fun(e4:ByteArray) h5=>
 J1 (!(e2.toList==e4.toList)) h5) h3) h0)))))
noncomputable def DE:Ann:=.node (.node .nil (.node .nil (.join [(15,.c .bool)] .nil .nil))) (.node .nil (.node .nil (.node .nil (.loop [(9,.c .slice),(10,.c .slice)] (.node (.join [(60,.c .bool)] .nil .nil) (.join [(74,.c .bool)] .nil (.node .nil (.join [(104,.c .bool)] .nil .nil))))))))
theorem vz(x0:Option Addr)(x1:Option Addr)(x2:Option Addr)(x3:ByteArray){K:cD []→af→Prop}{h0:af}(h:qR x0 x1 x2 x3 K h0):HC PG ie [.pointer x0,.pointer x1,.pointer x2,.string x3] [] K h0:=HC.intro (an:=DE) (c:=Tryz.f35.body.getD .skip) Tryz.mixed Tryz.func35 rfl Tryz.call35 (ad rfl) (cT (by kernel_rfl) h)
def ul(x0:T6)(K:(Option Addr)→af→Prop)(h0:af):Prop:=
 At (hnew h0 [.int .i64 x0.1,.int .u64 x0.2.1,.int .u64 x0.2.2.1,.int .u64 x0.2.2.2.1,.pointer x0.2.2.2.2.1,.pointer x0.2.2.2.2.2] aV) (fun h1=>
 ∃v2,ae h1 (ag h0) 5 (.pointer v2)∧
 K v2 h1)
noncomputable def B4:Ann:=.nil
theorem Bq(x0:T6){K:cD [.c .ptr]→af→Prop}{h0:af}(h:ul x0 K h0):HC PG mu [.agg #[.int .i64 x0.1,.int .u64 x0.2.1,.int .u64 x0.2.2.1,.int .u64 x0.2.2.2.1,.pointer x0.2.2.2.2.1,.pointer x0.2.2.2.2.2]] [.c .ptr] K h0:=HC.intro (an:=B4) (c:=Tryz.f36.body.getD .skip) Tryz.mixed Tryz.func36 rfl Tryz.call36 (ad rfl) (cT (by kernel_rfl) h)
def qQ(x0:Option Addr)(x1:Option Addr)(x2:Option Addr)(K:(Unit)→af→Prop)(h0:af):Prop:=
 (True∧(∀x y:Addr,x1=some x→x2=some y→fL h0 x∧fL h0 y)∧
 CondP (x1==x2) (
 K () h0) (
 HC PG dy [.pointer x1] [.c .bool] (fun(e1:Bool) h2=>
 CondP e1 (
 HC PG eO [.pointer x1] [.c .slice] (fun(e3:SliceV) h4=>
 HC PG eO [.pointer x2] [.c .slice] (fun(e5:SliceV) h6=>
 HC PG ig [.pointer x0,.slice e3.a e3.len e3.cap,.slice e5.a e5.len e5.cap] [] (fun(e7:Unit) h8=>
 K () h8) h6) h4) h2) (
 LoopP (fun I9 (t10:Int) h11=>
 CondP (decide (t10<(32:Int))) (
 Join (fun(t28:Unit) h29=>
 I9 (IntKind.wrap .i64 (t10+1)) h29) (fun J12=>
 HC PG gK [.pointer x1,.int .i64 t10] [.c .ptr,.c .bool] (fun(e13:(Option Addr)×Bool) h14=>
 HC PG gK [.pointer x2,.int .i64 t10] [.c .ptr,.c .bool] (fun(e15:(Option Addr)×Bool) h16=>
 Join (fun(t18:Bool) h19=>
 CondP t18 (
 HC PG nE [.pointer x0,.pointer e13.1,.pointer e15.1] [] (fun(e20:Unit) h21=>
 J12 () h21) h19) (
 HC PG uc [.pointer x1,.int .i64 t10] [.c .slice] (fun(e22:SliceV) h23=>
 HC PG uc [.pointer x2,.int .i64 t10] [.c .slice] (fun(e24:SliceV) h25=>
 HC PG ig [.pointer x0,.slice e22.a e22.len e22.cap,.slice e24.a e24.len e24.cap] [] (fun(e26:Unit) h27=>
 J12 () h27) h25) h23) h19)) (fun J17=>
 CondP e13.2 (
 J17 e15.2 h16) (
 J17 false h16))) h14) h11)) (
 K () h11)) 0 h2)) h0))
noncomputable def DD:Ann:=.node .nil (.node .nil (.node .nil (.loop [(22,.c (.int .i64))] (.node .nil (.node .nil (.join [] (.node .nil (.node .nil (.node .nil (.node (.join [(40,.c .bool)] .nil .nil) .nil)))) .nil))))))
theorem vy(x0:Option Addr)(x1:Option Addr)(x2:Option Addr){K:cD []→af→Prop}{h0:af}(h:qQ x0 x1 x2 K h0):HC PG nE [.pointer x0,.pointer x1,.pointer x2] [] K h0:=HC.intro (an:=DD) (c:=Tryz.f37.body.getD .skip) Tryz.mixed Tryz.func37 rfl Tryz.call37 (ad rfl) (cT (by kernel_rfl) h)
def um(x0:T6)(K:(Option Addr)→af→Prop)(h0:af):Prop:=
 At (hnew h0 [.int .i64 x0.1,.int .u64 x0.2.1,.int .u64 x0.2.2.1,.int .u64 x0.2.2.2.1,.pointer x0.2.2.2.2.1,.pointer x0.2.2.2.2.2] aV) (fun h1=>
 Join (fun(t5:Bool) h6=>
 CondP t5 (
 HC PG oB [] [.c .ptr] (fun(e7:Option Addr) h8=>
 K e7 h8) h6) (
 ∃v9,ae h6 (ag h0) 4 (.pointer v9)∧
 K v9 h6)) (fun J2=>
 ∃v3,ae h1 (ag h0) 0 (.int .i64 v3)∧
 CondP (v3==(0:Int)) (
 ∃v4,ae h1 (ag h0) 4 (.pointer v4)∧
 J2 v4.isNone h1) (
 J2 false h1)))
noncomputable def B5:Ann:=.node .nil (.node (.join [(10,.c .bool)] .nil .nil) .nil)
theorem Bs(x0:T6){K:cD [.c .ptr]→af→Prop}{h0:af}(h:um x0 K h0):HC PG jJ [.agg #[.int .i64 x0.1,.int .u64 x0.2.1,.int .u64 x0.2.2.1,.int .u64 x0.2.2.2.1,.pointer x0.2.2.2.2.1,.pointer x0.2.2.2.2.2]] [.c .ptr] K h0:=HC.intro (an:=B5) (c:=Tryz.f38.body.getD .skip) Tryz.mixed Tryz.func38 rfl Tryz.call38 (ad rfl) (cT (by kernel_rfl) h)
def d8(x0:SliceV)(x1:Value)(K:(Unit)→af→Prop)(h0:af):Prop:=
 HC PG oT [.int .u64 (IntKind.wrap .u64 (x0.len:Int))] [.c (.int .i64)] (fun(e1:Int) h2=>
 HC PG cZ [.slice x0.a x0.len x0.cap,.int .i64 0,.int .i64 (x0.len:Int),.int .i64 e1,x1] [] (fun(e3:Unit) h4=>
 K () h4) h2) h0
noncomputable def kS:Ann:=.nil
theorem gh(x0:SliceV)(x1:Value){K:cD []→af→Prop}{h0:af}(h:d8 x0 x1 K h0):HC PG cq [.slice x0.a x0.len x0.cap,x1] [] K h0:=HC.intro (an:=kS) (c:=Tryz.f39.body.getD .skip) Tryz.mixed Tryz.func39 rfl Tryz.call39 (ad rfl) (cT (by kernel_rfl) h)
def Ew(x0:ByteArray×ByteArray×ByteArray×Bool×Bool)(x1:ByteArray×ByteArray×ByteArray×Bool×Bool)(K:(Int)→af→Prop)(h0:af):Prop:=
 At (hnew h0 [.string x0.1,.string x0.2.1,.string x0.2.2.1,.bool x0.2.2.2.1,.bool x0.2.2.2.2] aO) (fun h1=>
 At (hnew h1 [.string x1.1,.string x1.2.1,.string x1.2.2.1,.bool x1.2.2.2.1,.bool x1.2.2.2.2] aO) (fun h2=>
 ∃v3,ae h2 (ag h0) 0 (.string v3)∧
 ∃v4,ae h2 (ag h1) 0 (.string v4)∧
 HC PG mz [.string v3,.string v4] [.c (.int .i64)] (fun(e5:Int) h6=>
 K e5 h6) h2))
noncomputable def Ng:Ann:=.nil
theorem MV(x0:ByteArray×ByteArray×ByteArray×Bool×Bool)(x1:ByteArray×ByteArray×ByteArray×Bool×Bool){K:cD [.c (.int .i64)]→af→Prop}{h0:af}(h:Ew x0 x1 K h0):HC PG m0 [.agg #[.string x0.1,.string x0.2.1,.string x0.2.2.1,.bool x0.2.2.2.1,.bool x0.2.2.2.2],.agg #[.string x1.1,.string x1.2.1,.string x1.2.2.1,.bool x1.2.2.2.1,.bool x1.2.2.2.2]] [.c (.int .i64)] K h0:=HC.intro (an:=Ng) (c:=Tryz.f40.body.getD .skip) Tryz.mixed Tryz.func40 rfl Tryz.call40 (ad rfl) (cT (by kernel_rfl) h)
def uA(x0:ByteArray)(x1:ByteArray)(K:(Int)→af→Prop)(h0:af):Prop:=
 HC PG oU [.string x0] [.c .bool] (fun(e1:Bool) h2=>
 HC PG oU [.string x1] [.c .bool] (fun(e3:Bool) h4=>
 CondP e1 (
 CondP e3 (
 K 0 h4) (
 K (-1) h4)) (
 CondP e3 (
 K 1 h4) (
 CondP (Op.bytesLess x0.toList x1.toList) (
 K (-1) h4) (
 CondP (!(Op.bytesLess x0.toList x1.toList||x0.toList==x1.toList)) (
 K 1 h4) (
 K 0 h4))))) h2) h0
noncomputable def Cj:Ann:=.nil
theorem BG(x0:ByteArray)(x1:ByteArray){K:cD [.c (.int .i64)]→af→Prop}{h0:af}(h:uA x0 x1 K h0):HC PG mz [.string x0,.string x1] [.c (.int .i64)] K h0:=HC.intro (an:=Cj) (c:=Tryz.f41.body.getD .skip) Tryz.mixed Tryz.func41 rfl Tryz.call41 (ad rfl) (cT (by kernel_rfl) h)
def BS(x0:SliceV)(K:(Int)→af→Prop)(h0:af):Prop:=
 LoopP (fun I1 (t2:Int) h3=>
 CondP (decide (t2<(x0.len:Int))) (
 (bS (IntKind.wrap .i64 (t2-1)) x0.len∧∃a4,x0.a=some a4∧
 ∃v5,ae h3 (adr a4 ((IntKind.wrap .i64 (t2-1)).toNat*5)) 0 (.string v5)∧
 (bS t2 x0.len∧∃a6,x0.a=some a6∧
 ∃v7,ae h3 (adr a6 (t2.toNat*5)) 0 (.string v7)∧
 CondP (!(Op.bytesLess v5.toList v7.toList)) (
 K 13 h3) (
 I1 (IntKind.wrap .i64 (t2+1)) h3)))) (
 HC PG cJ [.slice x0.a x0.len x0.cap,.func (.func sQ) #[] #[]] [.c .bool] (fun(e8:Bool) h9=>
 CondP e8 (
 K 1 h9) (
 LoopP (fun I10 (t11:Int) h12=>
 CondP (decide (t11<(x0.len:Int))) (
 (bS t11 x0.len∧∃a13,x0.a=some a13∧
 ∃v14,ae h12 (adr a13 (t11.toNat*5)) 0 (.string v14)∧
 ∃v15,ae h12 (adr a13 (t11.toNat*5)) 1 (.string v15)∧
 ∃v16,ae h12 (adr a13 (t11.toNat*5)) 2 (.string v16)∧
 ∃v17,ae h12 (adr a13 (t11.toNat*5)) 3 (.bool v17)∧
 ∃v18,ae h12 (adr a13 (t11.toNat*5)) 4 (.bool v18)∧
 At (hnew h12 [.string (⟨#[]⟩:ByteArray),.string (⟨#[]⟩:ByteArray),.string (⟨#[]⟩:ByteArray),.bool false,.bool false] aO) (fun h19=>
 (dq h19 (some (ag h12)) 0 [.string v14,.string v15,.string v16,.bool v17,.bool v18]∧
 At (aX h19 (ag h12) 0 [.string v14,.string v15,.string v16,.bool v17,.bool v18]) (fun h20=>
 ∃v21,ae h20 (ag h12) 0 (.string v21)∧
 ∃v22,ae h20 (ag h12) 1 (.string v22)∧
 HC PG lq [.string v21,.string v22] [.c (.int .i64)] (fun(e23:Int) h24=>
 CondP (e23 !=(0:Int)) (
 K e23 h24) (
 ∃v25,ae h24 (ag h12) 0 (.string v25)∧
 ∃v26,ae h24 (ag h12) 2 (.string v26)∧
 HC PG lq [.string v25,.string v26] [.c (.int .i64)] (fun(e27:Int) h28=>
 CondP (e27 !=(0:Int)) (
 K e27 h28) (
 I10 (IntKind.wrap .i64 (t11+1)) h28)) h24)) h20))))) (
 K 0 h12)) 0 h9)) h3)) 1 h0
noncomputable def KW:Ann:=.node .nil (.node (.node .nil (.loop [(3,.c (.int .i64))] .nil)) (.node .nil (.node (.node .nil (.loop [(30,.c (.int .i64))] .nil)) .nil)))
theorem KG(x0:SliceV){K:cD [.c (.int .i64)]→af→Prop}{h0:af}(h:BS x0 K h0):HC PG sx [.slice x0.a x0.len x0.cap] [.c (.int .i64)] K h0:=HC.intro (an:=KW) (c:=Tryz.f42.body.getD .skip) Tryz.mixed Tryz.func42 rfl Tryz.call42 (ad rfl) (cT (by kernel_rfl) h)
def sn(x0:ByteArray×ByteArray×ByteArray×Bool×Bool)(K:(Bool)→af→Prop)(h0:af):Prop:=
 At (hnew h0 [.string x0.1,.string x0.2.1,.string x0.2.2.1,.bool x0.2.2.2.1,.bool x0.2.2.2.2] aO) (fun h1=>
 Join (fun(t13:Bool) h14=>
 CondP t13 (
 K false h14) (
 ∃v15,ae h14 (ag h0) 3 (.bool v15)∧
 CondP v15 (
 ∃v16,ae h14 (ag h0) 4 (.bool v16)∧
 CondP v16 (
 K true h14) (
 ∃v17,ae h14 (ag h0) 2 (.string v17)∧
 K (v17.toList==(⟨#[]⟩:ByteArray).toList) h14)) (
 ∃v18,ae h14 (ag h0) 1 (.string v18)∧
 CondP (v18.toList==(⟨#[]⟩:ByteArray).toList) (
 ∃v19,ae h14 (ag h0) 4 (.bool v19)∧
 CondP v19 (
 K true h14) (
 ∃v20,ae h14 (ag h0) 2 (.string v20)∧
 K (v20.toList==(⟨#[]⟩:ByteArray).toList) h14)) (
 K false h14)))) (fun J2=>
 ∃v3,ae h1 (ag h0) 3 (.bool v3)∧
 CondP (!v3) (
 ∃v4,ae h1 (ag h0) 4 (.bool v4)∧
 CondP (!v4) (
 J2 true h1) (
 ∃v5,ae h1 (ag h0) 3 (.bool v5)∧
 CondP v5 (
 ∃v6,ae h1 (ag h0) 4 (.bool v6)∧
 CondP v6 (
 ∃v7,ae h1 (ag h0) 1 (.string v7)∧
 ∃v8,ae h1 (ag h0) 2 (.string v8)∧
 J2 (v7.toList==v8.toList) h1) (
 J2 false h1)) (
 J2 false h1))) (
 ∃v9,ae h1 (ag h0) 3 (.bool v9)∧
 CondP v9 (
 ∃v10,ae h1 (ag h0) 4 (.bool v10)∧
 CondP v10 (
 ∃v11,ae h1 (ag h0) 1 (.string v11)∧
 ∃v12,ae h1 (ag h0) 2 (.string v12)∧
 J2 (v11.toList==v12.toList) h1) (
 J2 false h1)) (
 J2 false h1))))
noncomputable def yQ:Ann:=.node .nil (.node (.join [(25,.c .bool)] .nil .nil) .nil)
theorem yK(x0:ByteArray×ByteArray×ByteArray×Bool×Bool){K:cD [.c .bool]→af→Prop}{h0:af}(h:sn x0 K h0):HC PG gD [.agg #[.string x0.1,.string x0.2.1,.string x0.2.2.1,.bool x0.2.2.2.1,.bool x0.2.2.2.2]] [.c .bool] K h0:=HC.intro (an:=yQ) (c:=Tryz.f43.body.getD .skip) Tryz.mixed Tryz.func43 rfl Tryz.call43 (ad rfl) (cT (by kernel_rfl) h)
def g7(x0:SliceV)(x1:SliceV)(K:(Bool)→af→Prop)(h0:af):Prop:=
 CondP ((x0.len:Int) !=(x1.len:Int)) (
 K false h0) (
 LoopP (fun I1 (t2:Int) h3=>
 CondP (decide (t2<(x0.len:Int))) (
 (bS t2 x0.len∧∃a4,x0.a=some a4∧
 ∃v5,ae h3 (adr a4 (t2.toNat*5)) 0 (.string v5)∧
 ∃v6,ae h3 (adr a4 (t2.toNat*5)) 1 (.string v6)∧
 ∃v7,ae h3 (adr a4 (t2.toNat*5)) 2 (.string v7)∧
 ∃v8,ae h3 (adr a4 (t2.toNat*5)) 3 (.bool v8)∧
 ∃v9,ae h3 (adr a4 (t2.toNat*5)) 4 (.bool v9)∧
 (bS t2 x1.len∧∃a10,x1.a=some a10∧
 ∃v11,ae h3 (adr a10 (t2.toNat*5)) 0 (.string v11)∧
 ∃v12,ae h3 (adr a10 (t2.toNat*5)) 1 (.string v12)∧
 ∃v13,ae h3 (adr a10 (t2.toNat*5)) 2 (.string v13)∧
 ∃v14,ae h3 (adr a10 (t2.toNat*5)) 3 (.bool v14)∧
 ∃v15,ae h3 (adr a10 (t2.toNat*5)) 4 (.bool v15)∧
 CondP (!(((v5.toList==v11.toList)&&((v6.toList==v12.toList)&&((v7.toList==v13.toList)&&((v8==v14)&&((v9==v15)&&true))))))) (
 K false h3) (
 I1 (IntKind.wrap .i64 (t2+1)) h3)))) (
 K true h3)) 0 h0)
noncomputable def mh:Ann:=.node .nil (.node .nil (.node (.node .nil (.loop [(13,.c (.int .i64))] .nil)) .nil))
theorem mc(x0:SliceV)(x1:SliceV){K:cD [.c .bool]→af→Prop}{h0:af}(h:g7 x0 x1 K h0):HC PG gZ [.slice x0.a x0.len x0.cap,.slice x1.a x1.len x1.cap] [.c .bool] K h0:=HC.intro (an:=mh) (c:=Tryz.f44.body.getD .skip) Tryz.mixed Tryz.func44 rfl Tryz.call44 (ad rfl) (cT (by kernel_rfl) h)
def Jr(x0:SliceV)(x1:ByteArray×ByteArray)(K:(SliceV)→af→Prop)(h0:af):Prop:=
 At (hnew h0 [.string x1.1,.string x1.2] dR) (fun h1=>
 ∃v2,ae h1 (ag h0) 0 (.string v2)∧
 HC PG wB [.slice x0.a x0.len x0.cap,.string v2] [.c .slice] (fun(e3:SliceV) h4=>
 LoopP (fun I5 (t6:SliceV×Bool×Int) h7=>
 CondP (decide (t6.2.2<(e3.len:Int))) (
 Join (fun(t36:SliceV×Bool) h37=>
 I5 (t36.1,t36.2,IntKind.wrap .i64 (t6.2.2+1)) h37) (fun J8=>
 (bS t6.2.2 e3.len∧∃a9,e3.a=some a9∧
 ∃v10,ae h7 (adr a9 (t6.2.2.toNat*2)) 0 (.string v10)∧
 ∃v11,ae h7 (adr a9 (t6.2.2.toNat*2)) 1 (.string v11)∧
 At (hnew h7 [.string (⟨#[]⟩:ByteArray),.string (⟨#[]⟩:ByteArray)] dR) (fun h12=>
 (dq h12 (some (ag h7)) 0 [.string v10,.string v11]∧
 At (aX h12 (ag h7) 0 [.string v10,.string v11]) (fun h13=>
 Join (fun(t28:SliceV×Bool) h29=>
 ∃v30,ae h29 (ag h7) 0 (.string v30)∧
 ∃v31,ae h29 (ag h7) 1 (.string v31)∧
 At (hnew h29 [.string v30,.string v31] dR) (fun h32=>
 ∃xs33,SRow h32 (some (ag h29)) (1*2) xs33∧
 AppP (some [.string (⟨#[]⟩:ByteArray),.string (⟨#[]⟩:ByteArray)]) 2 32 dR t28.1.a t28.1.len t28.1.cap 1 xs33 h32 (fun s34 h35=>
 J8 (s34,t28.2) h35))) (fun J14=>
 Join (fun(t20:Bool) h21=>
 CondP t20 (
 ∃v22,ae h21 (ag h0) 0 (.string v22)∧
 ∃v23,ae h21 (ag h0) 1 (.string v23)∧
 At (hnew h21 [.string v22,.string v23] dR) (fun h24=>
 ∃xs25,SRow h24 (some (ag h21)) (1*2) xs25∧
 AppP (some [.string (⟨#[]⟩:ByteArray),.string (⟨#[]⟩:ByteArray)]) 2 32 dR t6.1.a t6.1.len t6.1.cap 1 xs25 h24 (fun s26 h27=>
 J14 (s26,true) h27))) (
 J14 (t6.1,t6.2.1) h21)) (fun J15=>
 CondP (!t6.2.1) (
 ∃v16,ae h13 (ag h0) 0 (.string v16)∧
 ∃v17,ae h13 (ag h7) 0 (.string v17)∧
 HC PG wA [.string v16,.string v17] [.c .bool] (fun(e18:Bool) h19=>
 J15 e18 h19) h13) (
 J15 false h13))))))))) (
 CondP (!t6.2.1) (
 ∃v38,ae h7 (ag h0) 0 (.string v38)∧
 ∃v39,ae h7 (ag h0) 1 (.string v39)∧
 At (hnew h7 [.string v38,.string v39] dR) (fun h40=>
 ∃xs41,SRow h40 (some (ag h7)) (1*2) xs41∧
 AppP (some [.string (⟨#[]⟩:ByteArray),.string (⟨#[]⟩:ByteArray)]) 2 32 dR t6.1.a t6.1.len t6.1.cap 1 xs41 h40 (fun s42 h43=>
 K s42 h43))) (
 K t6.1 h7))) (⟨none,0,0⟩,false,0) h4) h1)
noncomputable def RA:Ann:=.node .nil (.node .nil (.node .nil (.node (.node .nil (.loop [(5,.c .slice),(6,.c .bool),(14,.c (.int .i64))] (.node .nil (.node .nil (.join [(5,.c .slice),(6,.c .bool)] (.node .nil (.join [(5,.c .slice),(6,.c .bool)] (.join [(26,.c .bool)] .nil .nil) .nil)) .nil))))) .nil)))
theorem Rs(x0:SliceV)(x1:ByteArray×ByteArray){K:cD [.c .slice]→af→Prop}{h0:af}(h:Jr x0 x1 K h0):HC PG CU [.slice x0.a x0.len x0.cap,.agg #[.string x1.1,.string x1.2]] [.c .slice] K h0:=HC.intro (an:=RA) (c:=Tryz.f46.body.getD .skip) Tryz.mixed Tryz.func46 rfl Tryz.call46 (ad rfl) (cT (by kernel_rfl) h)
def fG(x0:SliceV)(x1:Value)(K:(Bool)→af→Prop)(h0:af):Prop:=
 HC PG fZ [.slice x0.a x0.len x0.cap,x1] [.c (.int .i64)] (fun(e1:Int) h2=>
 K (decide (e1≥(0:Int))) h2) h0
noncomputable def jX:Ann:=.nil
theorem jU(x0:SliceV)(x1:Value){K:cD [.c .bool]→af→Prop}{h0:af}(h:fG x0 x1 K h0):HC PG cJ [.slice x0.a x0.len x0.cap,x1] [.c .bool] K h0:=HC.intro (an:=jX) (c:=Tryz.f48.body.getD .skip) Tryz.mixed Tryz.func48 rfl Tryz.call48 (ad rfl) (cT (by kernel_rfl) h)
def yc(x0:ByteArray×ByteArray×ByteArray×Bool×Bool)(y0:Addr)(K:(Bool)→af→Prop)(h0:af):Prop:=
 At (hnew h0 [.string x0.1,.string x0.2.1,.string x0.2.2.1,.bool x0.2.2.2.1,.bool x0.2.2.2.2] aO) (fun h1=>
 ∃v2,ae h1 (ag h0) 0 (.string v2)∧
 ∃v3,ae h1 (ag h0) 1 (.string v3)∧
 ∃v4,ae h1 (ag h0) 2 (.string v4)∧
 ∃v5,ae h1 (ag h0) 3 (.bool v5)∧
 ∃v6,ae h1 (ag h0) 4 (.bool v6)∧
 ∃v7,ae h1 y0 0 (.int .i64 v7)∧
 ∃v8,ae h1 y0 1 (.int .u64 v8)∧
 ∃v9,ae h1 y0 2 (.int .u64 v9)∧
 ∃v10,ae h1 y0 3 (.int .u64 v10)∧
 ∃v11,ae h1 y0 4 (.pointer v11)∧
 ∃v12,ae h1 y0 5 (.pointer v12)∧
 HC PG pi [.agg #[.string v2,.string v3,.string v4,.bool v5,.bool v6],.agg #[.int .i64 v7,.int .u64 v8,.int .u64 v9,.int .u64 v10,.pointer v11,.pointer v12]] [.c .bool] (fun(e13:Bool) h14=>
 K (!e13) h14) h1)
noncomputable def G7:Ann:=.nil
theorem GH(x0:ByteArray×ByteArray×ByteArray×Bool×Bool)(y0:Addr){K:cD [.c .bool]→af→Prop}{h0:af}(h:yc x0 y0 K h0):HC PG xO [.agg #[.string x0.1,.string x0.2.1,.string x0.2.2.1,.bool x0.2.2.2.1,.bool x0.2.2.2.2],.pointer (some y0)] [.c .bool] K h0:=HC.intro (an:=G7) (c:=Tryz.f49.body.getD .skip) Tryz.mixed Tryz.func49 rfl Tryz.call49 (ad rfl) (cT (by kernel_rfl) h)
def tG(x0:ByteArray×ByteArray×ByteArray×Bool×Bool)(x1:T6)(K:(Bool)→af→Prop)(h0:af):Prop:=
 At (hnew h0 [.string x0.1,.string x0.2.1,.string x0.2.2.1,.bool x0.2.2.2.1,.bool x0.2.2.2.2] aO) (fun h1=>
 At (hnew h1 [.int .i64 x1.1,.int .u64 x1.2.1,.int .u64 x1.2.2.1,.int .u64 x1.2.2.2.1,.pointer x1.2.2.2.2.1,.pointer x1.2.2.2.2.2] aV) (fun h2=>
 ∃v3,ae h2 (ag h1) 0 (.int .i64 v3)∧
 ∃v4,ae h2 (ag h1) 1 (.int .u64 v4)∧
 ∃v5,ae h2 (ag h1) 2 (.int .u64 v5)∧
 ∃v6,ae h2 (ag h1) 3 (.int .u64 v6)∧
 ∃v7,ae h2 (ag h1) 4 (.pointer v7)∧
 ∃v8,ae h2 (ag h1) 5 (.pointer v8)∧
 ∃v9,ae h2 (ag h0) 0 (.string v9)∧
 HC PG lQ [.agg #[.int .i64 v3,.int .u64 v4,.int .u64 v5,.int .u64 v6,.pointer v7,.pointer v8],.string v9] [.c .str,.c .bool] (fun(e10:ByteArray×Bool) h11=>
 ∃v12,ae h11 (ag h0) 3 (.bool v12)∧
 CondP (e10.2==v12) (
 ∃v13,ae h11 (ag h0) 1 (.string v13)∧
 K (e10.1.toList==v13.toList) h11) (
 K false h11)) h2))
noncomputable def Aw:Ann:=.nil
theorem Aj(x0:ByteArray×ByteArray×ByteArray×Bool×Bool)(x1:T6){K:cD [.c .bool]→af→Prop}{h0:af}(h:tG x0 x1 K h0):HC PG pi [.agg #[.string x0.1,.string x0.2.1,.string x0.2.2.1,.bool x0.2.2.2.1,.bool x0.2.2.2.2],.agg #[.int .i64 x1.1,.int .u64 x1.2.1,.int .u64 x1.2.2.1,.int .u64 x1.2.2.2.1,.pointer x1.2.2.2.2.1,.pointer x1.2.2.2.2.2]] [.c .bool] K h0:=HC.intro (an:=Aw) (c:=Tryz.f50.body.getD .skip) Tryz.mixed Tryz.func50 rfl Tryz.call50 (ad rfl) (cT (by kernel_rfl) h)
def zn(x0:SliceV)(x1:SliceV)(K:(Bool)→af→Prop)(h0:af):Prop:=
 ∃s1,SRow h0 x0.a x0.len (ed s1)∧
 ∃s2,SRow h0 x1.a x1.len (ed s2)∧
 K (s1.toList==s2.toList) h0
noncomputable def H7:Ann:=.nil
theorem HN(x0:SliceV)(x1:SliceV){K:cD [.c .bool]→af→Prop}{h0:af}(h:zn x0 x1 K h0):HC PG uO [.slice x0.a x0.len x0.cap,.slice x1.a x1.len x1.cap] [.c .bool] K h0:=HC.intro (an:=H7) (c:=Tryz.f51.body.getD .skip) Tryz.mixed Tryz.func51 rfl Tryz.call51 (ad rfl) (cT (by kernel_rfl) h)
def uk(x0:T6)(K:(SliceV)→af→Prop)(h0:af):Prop:=
 At (hnew h0 [.int .i64 x0.1,.int .u64 x0.2.1,.int .u64 x0.2.2.1,.int .u64 x0.2.2.2.1,.pointer x0.2.2.2.2.1,.pointer x0.2.2.2.2.2] aV) (fun h1=>
 ∃v2,ae h1 (ag h0) 0 (.int .i64 v2)∧
 CondP (v2==(1:Int)) (
 At (hnew h1 [.int .u8 1] eZ) (fun h3=>
 ∃v4,ae h3 (ag h0) 5 (.pointer v4)∧
 HC PG uL [.pointer v4] [.c .slice] (fun(e5:SliceV) h6=>
 ∃xs7,SRow h6 e5.a (e5.len*1) xs7∧
 AppP (some [.int .u8 0]) 1 1 eZ (some (ag h1)) 1 1 e5.len xs7 h6 (fun s8 h9=>
 K s8 h9)) h3)) (
 At (hnew h1 [.int .u8 0] eZ) (fun h10=>
 ∃v11,ae h10 (ag h0) 0 (.int .i64 v11)∧
 ∃v12,ae h10 (ag h0) 1 (.int .u64 v12)∧
 ∃v13,ae h10 (ag h0) 2 (.int .u64 v13)∧
 ∃v14,ae h10 (ag h0) 3 (.int .u64 v14)∧
 ∃v15,ae h10 (ag h0) 4 (.pointer v15)∧
 ∃v16,ae h10 (ag h0) 5 (.pointer v16)∧
 HC PG jJ [.agg #[.int .i64 v11,.int .u64 v12,.int .u64 v13,.int .u64 v14,.pointer v15,.pointer v16]] [.c .ptr] (fun(e17:Option Addr) h18=>
 HC PG zQ [.pointer e17] [.c .slice] (fun(e19:SliceV) h20=>
 ∃xs21,SRow h20 e19.a (e19.len*1) xs21∧
 AppP (some [.int .u8 0]) 1 1 eZ (some (ag h1)) 1 1 e19.len xs21 h20 (fun s22 h23=>
 K s22 h23)) h18) h10)))
noncomputable def B0:Ann:=.nil
theorem Bp(x0:T6){K:cD [.c .slice]→af→Prop}{h0:af}(h:uk x0 K h0):HC PG mt [.agg #[.int .i64 x0.1,.int .u64 x0.2.1,.int .u64 x0.2.2.1,.int .u64 x0.2.2.2.1,.pointer x0.2.2.2.2.1,.pointer x0.2.2.2.2.2]] [.c .slice] K h0:=HC.intro (an:=B0) (c:=Tryz.f52.body.getD .skip) Tryz.mixed Tryz.func52 rfl Tryz.call52 (ad rfl) (cT (by kernel_rfl) h)
def Em(x0:Option Addr)(x1:ByteArray)(K:(ByteArray×Bool)→af→Prop)(h0:af):Prop:=
 HC PG pU [.pointer x0] [.c .ptr] (fun(e1:Option Addr) h2=>
 LoopP (fun I3 (t4:ByteArray×(Option Addr)) h5=>
 CondP (!(t4.1.toList==(⟨#[]⟩:ByteArray).toList)) (
 ∃b6,(0:Int)≤(0:Int)∧t4.1[(0:Int).toNat]? =some b6∧
 HC PG jM [.pointer t4.2,.int .u8 (b6.toNat:Int)] [.c (.int .i64),.c .bool] (fun(e7:Int×Bool) h8=>
 CondP (!e7.2) (
 K ((⟨#[]⟩:ByteArray),false) h8) (
 ∃a9,t4.2=some a9∧
 ∃v10:SliceV,ae h8 a9 3 (.slice v10.a v10.len v10.cap)∧
 (bS e7.1 v10.len∧∃a11,v10.a=some a11∧
 ∃v12,ae h8 a11 (e7.1.toNat*1) (.pointer v12)∧
 ∃a13,v12=some a13∧
 ∃v14,ae h8 a13 0 (.string v14)∧
 HC PG wt [.string t4.1,.string v14] [.c .str,.c .bool] (fun(e15:ByteArray×Bool) h16=>
 CondP (!e15.2) (
 K ((⟨#[]⟩:ByteArray),false) h16) (
 I3 (e15.1,v12) h16)) h8))) h5) (
 HC PG ic [.pointer t4.2] [.c .str,.c .bool] (fun(e17:ByteArray×Bool) h18=>
 K (e17.1,e17.2) h18) h5)) (x1,e1) h2) h0
noncomputable def M5:Ann:=.node .nil (.node .nil (.node (.loop [(1,.c .str),(6,.c .ptr)] .nil) .nil))
theorem MM(x0:Option Addr)(x1:ByteArray){K:cD [.c .str,.c .bool]→af→Prop}{h0:af}(h:Em x0 x1 K h0):HC PG xH [.pointer x0,.string x1] [.c .str,.c .bool] K h0:=HC.intro (an:=M5) (c:=Tryz.f53.body.getD .skip) Tryz.mixed Tryz.func53 rfl Tryz.call53 (ad rfl) (cT (by kernel_rfl) h)
def EA(x0:Int×Int×Int)(x1:Option Addr)(x2:ByteArray)(K:(ByteArray×Bool)→af→Prop)(h0:af):Prop:=
 At (hnew h0 [.int .u64 x0.1,.int .u64 x0.2.1,.int .u64 x0.2.2] cn) (fun h1=>
 ∃v2,ae h1 (ag h0) 0 (.int .u64 v2)∧
 ∃v3,ae h1 (ag h0) 1 (.int .u64 v3)∧
 ∃v4,ae h1 (ag h0) 2 (.int .u64 v4)∧
 HC PG fE [.agg #[.int .u64 v2,.int .u64 v3,.int .u64 v4],.string x2] [.c (.int .u64)] (fun(e5:Int) h6=>
 HC PG lu [.pointer x1] [.c .ptr] (fun(e7:Option Addr) h8=>
 LoopP (fun I9 (t10:(Option Addr)×Int) h11=>
 HC PG dy [.pointer t10.1] [.c .bool] (fun(e12:Bool) h13=>
 CondP e12 (
 HC PG qK [.pointer t10.1,.string x2] [.c .str,.c .bool] (fun(e14:ByteArray×Bool) h15=>
 K (e14.1,e14.2) h15) h13) (
 HC PG lr [.int .u64 e5,.int .i64 t10.2] [.c (.int .i64)] (fun(e16:Int) h17=>
 HC PG jl [.pointer t10.1,.int .i64 e16] [.agg [.str,.str],.c .bool] (fun(e18:(ByteArray×ByteArray)×Bool) h19=>
 At (hnew h19 [.string (⟨#[]⟩:ByteArray),.string (⟨#[]⟩:ByteArray)] al) (fun h20=>
 (dq h20 (some (ag h19)) 0 [.string e18.1.1,.string e18.1.2]∧
 At (aX h20 (ag h19) 0 [.string e18.1.1,.string e18.1.2]) (fun h21=>
 CondP e18.2 (
 ∃v22,ae h21 (ag h19) 0 (.string v22)∧
 CondP (!(v22.toList==x2.toList)) (
 K ((⟨#[]⟩:ByteArray),false) h21) (
 ∃v23,ae h21 (ag h19) 1 (.string v23)∧
 K (v23,true) h21)) (
 HC PG gK [.pointer t10.1,.int .i64 e16] [.c .ptr,.c .bool] (fun(e24:(Option Addr)×Bool) h25=>
 CondP (!e24.2) (
 K ((⟨#[]⟩:ByteArray),false) h25) (
 I9 (e24.1,IntKind.wrap .i64 (t10.2+1)) h25)) h21))))) h17) h13)) h11) (e7,0) h8) h6) h1)
noncomputable def Nj:Ann:=.node .nil (.node .nil (.node .nil (.loop [(9,.c .ptr),(10,.c (.int .i64))] .nil)))
theorem MY(x0:Int×Int×Int)(x1:Option Addr)(x2:ByteArray){K:cD [.c .str,.c .bool]→af→Prop}{h0:af}(h:EA x0 x1 x2 K h0):HC PG xQ [.agg #[.int .u64 x0.1,.int .u64 x0.2.1,.int .u64 x0.2.2],.pointer x1,.string x2] [.c .str,.c .bool] K h0:=HC.intro (an:=Nj) (c:=Tryz.f54.body.getD .skip) Tryz.mixed Tryz.func54 rfl Tryz.call54 (ad rfl) (cT (by kernel_rfl) h)
def BQ(x0:ByteArray)(x1:ByteArray)(K:(Int)→af→Prop)(h0:af):Prop:=
 CondP (decide ((x0.size:Int)>(256:Int))) (
 K 2 h0) (
 CondP (decide ((x1.size:Int)>(4096:Int))) (
 K 3 h0) (
 K 0 h0))
noncomputable def KU:Ann:=.nil
theorem KE(x0:ByteArray)(x1:ByteArray){K:cD [.c (.int .i64)]→af→Prop}{h0:af}(h:BQ x0 x1 K h0):HC PG lq [.string x0,.string x1] [.c (.int .i64)] K h0:=HC.intro (an:=KU) (c:=Tryz.f61.body.getD .skip) Tryz.mixed Tryz.func61 rfl Tryz.call61 (ad rfl) (cT (by kernel_rfl) h)
def xZ(x0:Option Addr)(K:(T6)→af→Prop)(h0:af):Prop:=
 At (hnew h0 [.int .i64 0,.int .u64 0,.int .u64 0,.int .u64 0,.pointer none,.pointer none] aV) (fun h1=>
 Join (fun(t5:Option Addr) h6=>
 (dq h6 (some (ag h0)) 0 [.int .i64 1,.int .u64 0,.int .u64 0,.int .u64 0,.pointer none,.pointer t5]∧
 At (aX h6 (ag h0) 0 [.int .i64 1,.int .u64 0,.int .u64 0,.int .u64 0,.pointer none,.pointer t5]) (fun h7=>
 ∃v8,ae h7 (ag h0) 0 (.int .i64 v8)∧
 ∃v9,ae h7 (ag h0) 1 (.int .u64 v9)∧
 ∃v10,ae h7 (ag h0) 2 (.int .u64 v10)∧
 ∃v11,ae h7 (ag h0) 3 (.int .u64 v11)∧
 ∃v12,ae h7 (ag h0) 4 (.pointer v12)∧
 ∃v13,ae h7 (ag h0) 5 (.pointer v13)∧
 K (v8,v9,v10,v11,v12,v13) h7))) (fun J2=>
 CondP x0.isNone (
 HC PG rc [] [.c .ptr] (fun(e3:Option Addr) h4=>
 J2 e3 h4) h1) (
 J2 x0 h1)))
noncomputable def G4:Ann:=.node .nil (.join [(0,.c .ptr)] .nil .nil)
theorem GE(x0:Option Addr){K:cD [.agg [.int .i64,.int .u64,.int .u64,.int .u64,.ptr,.ptr]]→af→Prop}{h0:af}(h:xZ x0 K h0):HC PG pR [.pointer x0] [.agg [.int .i64,.int .u64,.int .u64,.int .u64,.ptr,.ptr]] K h0:=HC.intro (an:=G4) (c:=Tryz.f62.body.getD .skip) Tryz.mixed Tryz.func62 rfl Tryz.call62 (ad rfl) (cT (by kernel_rfl) h)
def zo(x0:SliceV)(K:(Option Addr)→af→Prop)(h0:af):Prop:=
 HC PG oz [.slice x0.a x0.len x0.cap] [.c .slice] (fun(e1:SliceV) h2=>
 Join (fun(t6:ByteArray×Bool) h7=>
 Join (fun(t11:SliceV×ByteArray) h12=>
 HC PG sy [.slice t11.1.a t11.1.len t11.1.cap,.int .i64 0] [.c .slice] (fun(e13:SliceV) h14=>
 HC PG sw [.string (⟨#[]⟩:ByteArray),.bool t6.2,.string t11.2,.slice e13.a e13.len e13.cap] [.c .ptr] (fun(e15:Option Addr) h16=>
 K e15 h16) h14) h12) (fun J8=>
 CondP t6.2 (
 (bS 0 e1.len∧∃a9,e1.a=some a9∧
 ∃v10,ae h7 (adr a9 ((0:Int).toNat*2)) 1 (.string v10)∧
 (((0:Int)≤(1:Int)∧(1:Int)≤((e1.len:Nat):Int))∧
 J8 (⟨aM e1.a ((1:Int).toNat) e1.cap 2,e1.len-((1:Int).toNat),e1.cap-((1:Int).toNat)⟩,v10) h7))) (
 J8 (e1,t6.1) h7))) (fun J3=>
 CondP (decide ((e1.len:Int)>(0:Int))) (
 (bS 0 e1.len∧∃a4,e1.a=some a4∧
 ∃v5,ae h2 (adr a4 ((0:Int).toNat*2)) 0 (.string v5)∧
 J3 ((⟨#[]⟩:ByteArray),v5.toList==(⟨#[]⟩:ByteArray).toList) h2)) (
 J3 ((⟨#[]⟩:ByteArray),false) h2))) h0
noncomputable def H8:Ann:=.node .nil (.node .nil (.join [(3,.c .str),(4,.c .bool)] .nil (.join [(0,.c .slice),(3,.c .str)] .nil .nil)))
theorem HO(x0:SliceV){K:cD [.c .ptr]→af→Prop}{h0:af}(h:zo x0 K h0):HC PG uP [.slice x0.a x0.len x0.cap] [.c .ptr] K h0:=HC.intro (an:=H8) (c:=Tryz.f63.body.getD .skip) Tryz.mixed Tryz.func63 rfl Tryz.call63 (ad rfl) (cT (by kernel_rfl) h)
def x7(x0:Int×Int×Int)(x1:Option Addr)(K:(T6)→af→Prop)(h0:af):Prop:=
 At (hnew h0 [.int .u64 x0.1,.int .u64 x0.2.1,.int .u64 x0.2.2] cn) (fun h1=>
 At (hnew h1 [.int .i64 0,.int .u64 0,.int .u64 0,.int .u64 0,.pointer none,.pointer none] aV) (fun h2=>
 Join (fun(t6:Option Addr) h7=>
 ∃v8,ae h7 (ag h0) 0 (.int .u64 v8)∧
 ∃v9,ae h7 (ag h0) 1 (.int .u64 v9)∧
 ∃v10,ae h7 (ag h0) 2 (.int .u64 v10)∧
 (dq h7 (some (ag h1)) 0 [.int .i64 0,.int .u64 v8,.int .u64 v9,.int .u64 v10,.pointer t6,.pointer none]∧
 At (aX h7 (ag h1) 0 [.int .i64 0,.int .u64 v8,.int .u64 v9,.int .u64 v10,.pointer t6,.pointer none]) (fun h11=>
 ∃v12,ae h11 (ag h1) 0 (.int .i64 v12)∧
 ∃v13,ae h11 (ag h1) 1 (.int .u64 v13)∧
 ∃v14,ae h11 (ag h1) 2 (.int .u64 v14)∧
 ∃v15,ae h11 (ag h1) 3 (.int .u64 v15)∧
 ∃v16,ae h11 (ag h1) 4 (.pointer v16)∧
 ∃v17,ae h11 (ag h1) 5 (.pointer v17)∧
 K (v12,v13,v14,v15,v16,v17) h11))) (fun J3=>
 CondP x1.isNone (
 HC PG oB [] [.c .ptr] (fun(e4:Option Addr) h5=>
 J3 e4 h5) h2) (
 J3 x1 h2))))
noncomputable def G5:Ann:=.node .nil (.join [(1,.c .ptr)] .nil .nil)
theorem GF(x0:Int×Int×Int)(x1:Option Addr){K:cD [.agg [.int .i64,.int .u64,.int .u64,.int .u64,.ptr,.ptr]]→af→Prop}{h0:af}(h:x7 x0 x1 K h0):HC PG pS [.agg #[.int .u64 x0.1,.int .u64 x0.2.1,.int .u64 x0.2.2],.pointer x1] [.agg [.int .i64,.int .u64,.int .u64,.int .u64,.ptr,.ptr]] K h0:=HC.intro (an:=G5) (c:=Tryz.f64.body.getD .skip) Tryz.mixed Tryz.func64 rfl Tryz.call64 (ad rfl) (cT (by kernel_rfl) h)
def zq(x0:Int×Int×Int)(x1:SliceV)(K:(Option Addr)→af→Prop)(h0:af):Prop:=
 At (hnew h0 [.int .u64 x0.1,.int .u64 x0.2.1,.int .u64 x0.2.2] cn) (fun h1=>
 HC PG oz [.slice x1.a x1.len x1.cap] [.c .slice] (fun(e2:SliceV) h3=>
 LoopP (fun I4 (t5:SliceV×Int) h6=>
 CondP (decide (t5.2<(e2.len:Int))) (
 Join (fun(t25:SliceV) h26=>
 I4 (t25,IntKind.wrap .i64 (t5.2+1)) h26) (fun J7=>
 (bS t5.2 e2.len∧∃a8,e2.a=some a8∧
 ∃v9,ae h6 (adr a8 (t5.2.toNat*2)) 0 (.string v9)∧
 ∃v10,ae h6 (adr a8 (t5.2.toNat*2)) 1 (.string v10)∧
 At (hnew h6 [.string (⟨#[]⟩:ByteArray),.string (⟨#[]⟩:ByteArray)] al) (fun h11=>
 (dq h11 (some (ag h6)) 0 [.string v9,.string v10]∧
 At (aX h11 (ag h6) 0 [.string v9,.string v10]) (fun h12=>
 ∃v13,ae h12 (ag h6) 0 (.string v13)∧
 ∃v14,ae h12 (ag h6) 1 (.string v14)∧
 ∃v15,ae h12 (ag h0) 0 (.int .u64 v15)∧
 ∃v16,ae h12 (ag h0) 1 (.int .u64 v16)∧
 ∃v17,ae h12 (ag h0) 2 (.int .u64 v17)∧
 ∃v18,ae h12 (ag h6) 0 (.string v18)∧
 HC PG fE [.agg #[.int .u64 v15,.int .u64 v16,.int .u64 v17],.string v18] [.c (.int .u64)] (fun(e19:Int) h20=>
 ((ae h20 (ag h6) 0 (.string v13)∧ae h20 (ag h6) 1 (.string v14))∧
 At (hnew h20 [.string v13,.string v14,.int .u64 e19] aQ) (fun h21=>
 ∃xs22,SRow h21 (some (ag h20)) (1*3) xs22∧
 AppP (some [.string (⟨#[]⟩:ByteArray),.string (⟨#[]⟩:ByteArray),.int .u64 0]) 3 40 aQ t5.1.a t5.1.len t5.1.cap 1 xs22 h21 (fun s23 h24=>
 J7 s23 h24)))) h12)))))) (
 HC PG p4 [.slice t5.1.a t5.1.len t5.1.cap,.int .i64 0] [.c .ptr] (fun(e27:Option Addr) h28=>
 K e27 h28) h6)) (⟨none,0,0⟩,0) h3) h1)
noncomputable def H9:Ann:=.node .nil (.node .nil (.node (.node .nil (.loop [(5,.c .slice),(11,.c (.int .i64))] (.node .nil (.node .nil (.join [(5,.c .slice)] (.node .nil (.draw (tr 0 5 (.all (.lastT 5 (.take 6 (.all (.lastT 7 (.all (.lastT 8 (.take 9 (.done)))))))))))) .nil))))) .nil))
theorem HP(x0:Int×Int×Int)(x1:SliceV){K:cD [.c .ptr]→af→Prop}{h0:af}(h:zq x0 x1 K h0):HC PG uQ [.agg #[.int .u64 x0.1,.int .u64 x0.2.1,.int .u64 x0.2.2],.slice x1.a x1.len x1.cap] [.c .ptr] K h0:=HC.intro (an:=H9) (c:=Tryz.f65.body.getD .skip) Tryz.mixed Tryz.func65 rfl Tryz.call65 (ad rfl) (cT (by kernel_rfl) h)
def El(x0:Option Addr)(x1:Option Addr)(x2:ByteArray×ByteArray)(K:((Option Addr)×Bool)→af→Prop)(h0:af):Prop:=
 At (hnew h0 [.string x2.1,.string x2.2] al) (fun h1=>
 ∃v2,ae h1 (ag h0) 0 (.string v2)∧
 ∃v3,ae h1 (ag h0) 1 (.string v3)∧
 HC PG pU [.pointer x1] [.c .ptr] (fun(e4:Option Addr) h5=>
 (ae h5 (ag h0) 1 (.string v3)∧
 (ae h5 (ag h0) 0 (.string v2)∧
 HC PG ny [.pointer e4,.pointer x0,.string v2,.string v3] [.c .ptr,.c .bool,.c .bool] (fun(e6:(Option Addr)×Bool×Bool) h7=>
 K (e6.1,e6.2.1) h7) h5))) h1)
noncomputable def M4:Ann:=.nil
theorem ML(x0:Option Addr)(x1:Option Addr)(x2:ByteArray×ByteArray){K:cD [.c .ptr,.c .bool]→af→Prop}{h0:af}(h:El x0 x1 x2 K h0):HC PG xG [.pointer x0,.pointer x1,.agg #[.string x2.1,.string x2.2]] [.c .ptr,.c .bool] K h0:=HC.intro (an:=M4) (c:=Tryz.f66.body.getD .skip) Tryz.mixed Tryz.func66 rfl Tryz.call66 (ad rfl) (cT (by kernel_rfl) h)
def Ez(x0:Int×Int×Int)(x1:Option Addr)(x2:Option Addr)(x3:ByteArray×ByteArray)(K:((Option Addr)×Bool)→af→Prop)(h0:af):Prop:=
 At (hnew h0 [.int .u64 x0.1,.int .u64 x0.2.1,.int .u64 x0.2.2] cn) (fun h1=>
 At (hnew h1 [.string x3.1,.string x3.2] al) (fun h2=>
 ∃v3,ae h2 (ag h0) 0 (.int .u64 v3)∧
 ∃v4,ae h2 (ag h0) 1 (.int .u64 v4)∧
 ∃v5,ae h2 (ag h0) 2 (.int .u64 v5)∧
 ∃v6,ae h2 (ag h1) 0 (.string v6)∧
 ∃v7,ae h2 (ag h0) 0 (.int .u64 v7)∧
 ∃v8,ae h2 (ag h0) 1 (.int .u64 v8)∧
 ∃v9,ae h2 (ag h0) 2 (.int .u64 v9)∧
 ∃v10,ae h2 (ag h1) 0 (.string v10)∧
 ((HC PG fE [.agg #[.int .u64 v7,.int .u64 v8,.int .u64 v9],.string v10] [.c (.int .u64)] (fun(e11:Int) h12=>
 (ae h12 (ag h1) 0 (.string v6)∧
 ((ae h12 (ag h0) 0 (.int .u64 v3)∧ae h12 (ag h0) 1 (.int .u64 v4)∧ae h12 (ag h0) 2 (.int .u64 v5))∧
 At (hnew h12 [.int .u64 0,.int .u64 0,.int .u64 0,.pointer none,.string (⟨#[]⟩:ByteArray),.int .u64 0] cI) (fun h13=>
 (ae h13 (ag h1) 0 (.string v6)∧
 ((ae h13 (ag h0) 0 (.int .u64 v3)∧ae h13 (ag h0) 1 (.int .u64 v4)∧ae h13 (ag h0) 2 (.int .u64 v5))∧
 (dq h13 (some (ag h12)) 0 [.int .u64 v3,.int .u64 v4,.int .u64 v5,.pointer x1,.string v6,.int .u64 e11]∧
 At (aX h13 (ag h12) 0 [.int .u64 v3,.int .u64 v4,.int .u64 v5,.pointer x1,.string v6,.int .u64 e11]) (fun h14=>
 ∃v15,ae h14 (ag h12) 0 (.int .u64 v15)∧
 ∃v16,ae h14 (ag h12) 1 (.int .u64 v16)∧
 ∃v17,ae h14 (ag h12) 2 (.int .u64 v17)∧
 ∃v18,ae h14 (ag h12) 3 (.pointer v18)∧
 ∃v19,ae h14 (ag h12) 4 (.string v19)∧
 ∃v20,ae h14 (ag h12) 5 (.int .u64 v20)∧
 ∃v21,ae h14 (ag h1) 0 (.string v21)∧
 ∃v22,ae h14 (ag h1) 1 (.string v22)∧
 HC PG lu [.pointer x2] [.c .ptr] (fun(e23:Option Addr) h24=>
 ((ae h24 (ag h1) 0 (.string v21)∧ae h24 (ag h1) 1 (.string v22))∧
 ((ae h24 (ag h12) 0 (.int .u64 v15)∧ae h24 (ag h12) 1 (.int .u64 v16)∧ae h24 (ag h12) 2 (.int .u64 v17)∧ae h24 (ag h12) 3 (.pointer v18)∧ae h24 (ag h12) 4 (.string v19)∧ae h24 (ag h12) 5 (.int .u64 v20))∧
 HC PG jm [.agg #[.int .u64 v15,.int .u64 v16,.int .u64 v17,.pointer v18,.string v19,.int .u64 v20],.pointer e23,.agg #[.string v21,.string v22],.int .i64 0] [.c .ptr,.c .bool,.c .bool] (fun(e25:(Option Addr)×Bool×Bool) h26=>
 K (e25.1,e25.2.1) h26) h24))) h14)))))))) h2)∧
 At (hnew h2 [.int .u64 0,.int .u64 0,.int .u64 0,.pointer none,.string (⟨#[]⟩:ByteArray),.int .u64 0] cI) (fun h27=>
 (ae h27 (ag h1) 0 (.string v10)∧
 ((ae h27 (ag h0) 0 (.int .u64 v7)∧ae h27 (ag h0) 1 (.int .u64 v8)∧ae h27 (ag h0) 2 (.int .u64 v9))∧
 (ae h27 (ag h1) 0 (.string v6)∧
 ((ae h27 (ag h0) 0 (.int .u64 v3)∧ae h27 (ag h0) 1 (.int .u64 v4)∧ae h27 (ag h0) 2 (.int .u64 v5))∧
 HC PG fE [.agg #[.int .u64 v7,.int .u64 v8,.int .u64 v9],.string v10] [.c (.int .u64)] (fun(e28:Int) h29=>
 (ae h29 (ag h1) 0 (.string v6)∧
 ((ae h29 (ag h0) 0 (.int .u64 v3)∧ae h29 (ag h0) 1 (.int .u64 v4)∧ae h29 (ag h0) 2 (.int .u64 v5))∧
 (dq h29 (some (ag h2)) 0 [.int .u64 v3,.int .u64 v4,.int .u64 v5,.pointer x1,.string v6,.int .u64 e28]∧
 At (aX h29 (ag h2) 0 [.int .u64 v3,.int .u64 v4,.int .u64 v5,.pointer x1,.string v6,.int .u64 e28]) (fun h30=>
 ∃v31,ae h30 (ag h2) 0 (.int .u64 v31)∧
 ∃v32,ae h30 (ag h2) 1 (.int .u64 v32)∧
 ∃v33,ae h30 (ag h2) 2 (.int .u64 v33)∧
 ∃v34,ae h30 (ag h2) 3 (.pointer v34)∧
 ∃v35,ae h30 (ag h2) 4 (.string v35)∧
 ∃v36,ae h30 (ag h2) 5 (.int .u64 v36)∧
 ∃v37,ae h30 (ag h1) 0 (.string v37)∧
 ∃v38,ae h30 (ag h1) 1 (.string v38)∧
 HC PG lu [.pointer x2] [.c .ptr] (fun(e39:Option Addr) h40=>
 ((ae h40 (ag h1) 0 (.string v37)∧ae h40 (ag h1) 1 (.string v38))∧
 ((ae h40 (ag h2) 0 (.int .u64 v31)∧ae h40 (ag h2) 1 (.int .u64 v32)∧ae h40 (ag h2) 2 (.int .u64 v33)∧ae h40 (ag h2) 3 (.pointer v34)∧ae h40 (ag h2) 4 (.string v35)∧ae h40 (ag h2) 5 (.int .u64 v36))∧
 HC PG jm [.agg #[.int .u64 v31,.int .u64 v32,.int .u64 v33,.pointer v34,.string v35,.int .u64 v36],.pointer e39,.agg #[.string v37,.string v38],.int .i64 0] [.c .ptr,.c .bool,.c .bool] (fun(e41:(Option Addr)×Bool×Bool) h42=>
 K (e41.1,e41.2.1) h42) h40))) h30))))) h27))))))))
noncomputable def Ni:Ann:=.node .nil (.node (.draw (tr 0 7 (.all (.pick 7 (.take 8 (.all (.lastT 9 (.all (.lastT 10 (.done)))))) (.last 9 (.all (.lastT 7 (.take 8 (.all (.lastT 10 (.done))))))))))) (.node (.draw (tk [0,1,3] (.all (.lastT 2 (.all (.lastT 4 (tr 5 7 (.done)))))))) .nil))
theorem MX(x0:Int×Int×Int)(x1:Option Addr)(x2:Option Addr)(x3:ByteArray×ByteArray){K:cD [.c .ptr,.c .bool]→af→Prop}{h0:af}(h:Ez x0 x1 x2 x3 K h0):HC PG xP [.agg #[.int .u64 x0.1,.int .u64 x0.2.1,.int .u64 x0.2.2],.pointer x1,.pointer x2,.agg #[.string x3.1,.string x3.2]] [.c .ptr,.c .bool] K h0:=HC.intro (an:=Ni) (c:=Tryz.f67.body.getD .skip) Tryz.mixed Tryz.func67 rfl Tryz.call67 (ad rfl) (cT (by kernel_rfl) h)
def En(x0:ByteArray)(x1:ByteArray)(K:(Int)→af→Prop)(h0:af):Prop:=
 CondP (decide ((x0.size:Int)>(256:Int))) (
 K 2 h0) (
 CondP (decide ((x1.size:Int)>(4096:Int))) (
 K 3 h0) (
 K 0 h0))
noncomputable def M6:Ann:=.nil
theorem MN(x0:ByteArray)(x1:ByteArray){K:cD [.c (.int .i64)]→af→Prop}{h0:af}(h:En x0 x1 K h0):HC PG xI [.string x0,.string x1] [.c (.int .i64)] K h0:=HC.intro (an:=M6) (c:=Tryz.f68.body.getD .skip) Tryz.mixed Tryz.func68 rfl Tryz.call68 (ad rfl) (cT (by kernel_rfl) h)
def BO(x0:Option Addr)(x1:Option Addr)(x2:ByteArray)(K:((Option Addr)×Bool)→af→Prop)(h0:af):Prop:=
 HC PG pU [.pointer x1] [.c .ptr] (fun(e1:Option Addr) h2=>
 HC PG mw [.pointer e1,.pointer x0,.string x2] [.c .ptr,.c .bool] (fun(e3:(Option Addr)×Bool) h4=>
 K (e3.1,e3.2) h4) h2) h0
noncomputable def KS:Ann:=.nil
theorem KC(x0:Option Addr)(x1:Option Addr)(x2:ByteArray){K:cD [.c .ptr,.c .bool]→af→Prop}{h0:af}(h:BO x0 x1 x2 K h0):HC PG wz [.pointer x0,.pointer x1,.string x2] [.c .ptr,.c .bool] K h0:=HC.intro (an:=KS) (c:=Tryz.f69.body.getD .skip) Tryz.mixed Tryz.func69 rfl Tryz.call69 (ad rfl) (cT (by kernel_rfl) h)
def BV(x0:Int×Int×Int)(x1:Option Addr)(x2:Option Addr)(x3:ByteArray)(K:((Option Addr)×Bool)→af→Prop)(h0:af):Prop:=
 At (hnew h0 [.int .u64 x0.1,.int .u64 x0.2.1,.int .u64 x0.2.2] cn) (fun h1=>
 HC PG lu [.pointer x2] [.c .ptr] (fun(e2:Option Addr) h3=>
 ∃v4,ae h3 (ag h0) 0 (.int .u64 v4)∧
 ∃v5,ae h3 (ag h0) 1 (.int .u64 v5)∧
 ∃v6,ae h3 (ag h0) 2 (.int .u64 v6)∧
 ∃v7,ae h3 (ag h0) 0 (.int .u64 v7)∧
 ∃v8,ae h3 (ag h0) 1 (.int .u64 v8)∧
 ∃v9,ae h3 (ag h0) 2 (.int .u64 v9)∧
 HC PG fE [.agg #[.int .u64 v7,.int .u64 v8,.int .u64 v9],.string x3] [.c (.int .u64)] (fun(e10:Int) h11=>
 ((ae h11 (ag h0) 0 (.int .u64 v4)∧ae h11 (ag h0) 1 (.int .u64 v5)∧ae h11 (ag h0) 2 (.int .u64 v6))∧
 HC PG mA [.agg #[.int .u64 v4,.int .u64 v5,.int .u64 v6,.pointer x1,.string x3,.int .u64 e10],.pointer e2,.int .i64 0] [.c .ptr,.c .bool] (fun(e12:(Option Addr)×Bool) h13=>
 K (e12.1,e12.2) h13) h11)) h3) h1)
noncomputable def K3:Ann:=.node .nil (.node .nil (.node (.draw (tk [0,1,2,3,4,7] (.all (.lastT 5 (.take 6 (.all (.lastT 8 (tr 9 4 (.done))))))))) .nil))
theorem KJ(x0:Int×Int×Int)(x1:Option Addr)(x2:Option Addr)(x3:ByteArray){K:cD [.c .ptr,.c .bool]→af→Prop}{h0:af}(h:BV x0 x1 x2 x3 K h0):HC PG wD [.agg #[.int .u64 x0.1,.int .u64 x0.2.1,.int .u64 x0.2.2],.pointer x1,.pointer x2,.string x3] [.c .ptr,.c .bool] K h0:=HC.intro (an:=K3) (c:=Tryz.f70.body.getD .skip) Tryz.mixed Tryz.func70 rfl Tryz.call70 (ad rfl) (cT (by kernel_rfl) h)
def Js(x0:SliceV)(x1:ByteArray)(K:(ByteArray×Bool)→af→Prop)(h0:af):Prop:=
 HC PG zS [.slice x0.a x0.len x0.cap,.string x1] [.c (.int .i64),.c .bool] (fun(e1:Int×Bool) h2=>
 CondP (!e1.2) (
 K ((⟨#[]⟩:ByteArray),false) h2) (
 (bS e1.1 x0.len∧∃a3,x0.a=some a3∧
 ∃v4,ae h2 (adr a3 (e1.1.toNat*2)) 1 (.string v4)∧
 K (v4,true) h2))) h0
noncomputable def RB:Ann:=.nil
theorem Ru(x0:SliceV)(x1:ByteArray){K:cD [.c .str,.c .bool]→af→Prop}{h0:af}(h:Js x0 x1 K h0):HC PG CV [.slice x0.a x0.len x0.cap,.string x1] [.c .str,.c .bool] K h0:=HC.intro (an:=RB) (c:=Tryz.f71.body.getD .skip) Tryz.mixed Tryz.func71 rfl Tryz.call71 (ad rfl) (cT (by kernel_rfl) h)
def GW(x0:SliceV)(x1:ByteArray)(K:(SliceV)→af→Prop)(h0:af):Prop:=
 LoopP (fun I1 (t2:SliceV×Int) h3=>
 CondP (decide (t2.2<(x0.len:Int))) (
 Join (fun(t17:SliceV) h18=>
 I1 (t17,IntKind.wrap .i64 (t2.2+1)) h18) (fun J4=>
 (bS t2.2 x0.len∧∃a5,x0.a=some a5∧
 ∃v6,ae h3 (adr a5 (t2.2.toNat*2)) 0 (.string v6)∧
 ∃v7,ae h3 (adr a5 (t2.2.toNat*2)) 1 (.string v7)∧
 At (hnew h3 [.string (⟨#[]⟩:ByteArray),.string (⟨#[]⟩:ByteArray)] dR) (fun h8=>
 (dq h8 (some (ag h3)) 0 [.string v6,.string v7]∧
 At (aX h8 (ag h3) 0 [.string v6,.string v7]) (fun h9=>
 ∃v10,ae h9 (ag h3) 0 (.string v10)∧
 CondP (!(v10.toList==x1.toList)) (
 ∃v11,ae h9 (ag h3) 0 (.string v11)∧
 ∃v12,ae h9 (ag h3) 1 (.string v12)∧
 At (hnew h9 [.string v11,.string v12] dR) (fun h13=>
 ∃xs14,SRow h13 (some (ag h9)) (1*2) xs14∧
 AppP (some [.string (⟨#[]⟩:ByteArray),.string (⟨#[]⟩:ByteArray)]) 2 32 dR t2.1.a t2.1.len t2.1.cap 1 xs14 h13 (fun s15 h16=>
 J4 s15 h16))) (
 J4 t2.1 h9))))))) (
 K t2.1 h3)) (⟨none,0,0⟩,0) h0
noncomputable def Pn:Ann:=.node .nil (.node .nil (.node (.node .nil (.loop [(5,.c .slice),(10,.c (.int .i64))] (.node .nil (.node .nil (.join [(5,.c .slice)] .nil .nil))))) .nil))
theorem O7(x0:SliceV)(x1:ByteArray){K:cD [.c .slice]→af→Prop}{h0:af}(h:GW x0 x1 K h0):HC PG wB [.slice x0.a x0.len x0.cap,.string x1] [.c .slice] K h0:=HC.intro (an:=Pn) (c:=Tryz.f72.body.getD .skip) Tryz.mixed Tryz.func72 rfl Tryz.call72 (ad rfl) (cT (by kernel_rfl) h)
def tE(x0:Option Addr)(K:(ByteArray)→af→Prop)(h0:af):Prop:=
 CondP x0.isNone (
 K (⟨#[]⟩:ByteArray) h0) (
 ∃a1,x0=some a1∧
 ∃v2,ae h0 a1 0 (.string v2)∧
 K v2 h0)
noncomputable def Au:Ann:=.nil
theorem Ah(x0:Option Addr){K:cD [.c .str]→af→Prop}{h0:af}(h:tE x0 K h0):HC PG dE [.pointer x0] [.c .str] K h0:=HC.intro (an:=Au) (c:=Tryz.f73.body.getD .skip) Tryz.mixed Tryz.func73 rfl Tryz.call73 (ad rfl) (cT (by kernel_rfl) h)
def vK(x0:Option Addr)(x1:SliceV)(x2:SliceV)(K:(Unit)→af→Prop)(h0:af):Prop:=
 LoopP (fun I1 (t2:SliceV×SliceV) h3=>
 Join (fun(t5:Bool) h6=>
 CondP t5 (
 Join (fun(t12:Bool) h13=>
 CondP t12 (
 Join (fun(t27:Unit) h28=>
 (((0:Int)≤(1:Int)∧(1:Int)≤((t2.1.len:Nat):Int))∧
 Bd (aM t2.1.a ((1:Int).toNat) t2.1.cap 2:Option Addr) (fun a29=>Bd (t2.1.len-((1:Int).toNat):Nat) (fun n30=>Bd (t2.1.cap-((1:Int).toNat):Nat) (fun n31=>
 I1 (⟨a29,n30,n31⟩,t2.2) h28))))) (fun J14=>
 ∃a15,x0=some a15∧
 ∃v16:SliceV,ae h13 a15 3 (.slice v16.a v16.len v16.cap)∧
 (bS 0 t2.1.len∧∃a17,t2.1.a=some a17∧
 ∃v18,ae h13 (adr a17 ((0:Int).toNat*2)) 0 (.string v18)∧
 (bS 0 t2.1.len∧∃a19,t2.1.a=some a19∧
 ∃v20,ae h13 (adr a19 ((0:Int).toNat*2)) 1 (.string v20)∧
 At (hnew h13 [.string v18,.string v20,.string (⟨#[]⟩:ByteArray),.bool true,.bool false] aO) (fun h21=>
 (ae h21 a15 3 (.slice v16.a v16.len v16.cap)∧
 ∃xs22,SRow h21 (some (ag h13)) (1*5) xs22∧
 AppP (some [.string (⟨#[]⟩:ByteArray),.string (⟨#[]⟩:ByteArray),.string (⟨#[]⟩:ByteArray),.bool false,.bool false]) 5 56 aO v16.a v16.len v16.cap 1 xs22 h21 (fun s23 h24=>
 ∃a25,x0=some a25∧
 (Wr h24 (adr a25 3)∧
 At (hset h24 (adr a25 3) (.slice s23.a s23.len s23.cap)) (fun h26=>
 J14 () h26))))))))) (
 Join (fun(t37:Bool) h38=>
 CondP t37 (
 Join (fun(t52:Unit) h53=>
 (((0:Int)≤(1:Int)∧(1:Int)≤((t2.2.len:Nat):Int))∧
 Bd (aM t2.2.a ((1:Int).toNat) t2.2.cap 2:Option Addr) (fun a54=>Bd (t2.2.len-((1:Int).toNat):Nat) (fun n55=>Bd (t2.2.cap-((1:Int).toNat):Nat) (fun n56=>
 I1 (t2.1,⟨a54,n55,n56⟩) h53))))) (fun J39=>
 ∃a40,x0=some a40∧
 ∃v41:SliceV,ae h38 a40 3 (.slice v41.a v41.len v41.cap)∧
 (bS 0 t2.2.len∧∃a42,t2.2.a=some a42∧
 ∃v43,ae h38 (adr a42 ((0:Int).toNat*2)) 0 (.string v43)∧
 (bS 0 t2.2.len∧∃a44,t2.2.a=some a44∧
 ∃v45,ae h38 (adr a44 ((0:Int).toNat*2)) 1 (.string v45)∧
 At (hnew h38 [.string v43,.string (⟨#[]⟩:ByteArray),.string v45,.bool false,.bool true] aO) (fun h46=>
 (ae h46 a40 3 (.slice v41.a v41.len v41.cap)∧
 ∃xs47,SRow h46 (some (ag h38)) (1*5) xs47∧
 AppP (some [.string (⟨#[]⟩:ByteArray),.string (⟨#[]⟩:ByteArray),.string (⟨#[]⟩:ByteArray),.bool false,.bool false]) 5 56 aO v41.a v41.len v41.cap 1 xs47 h46 (fun s48 h49=>
 ∃a50,x0=some a50∧
 (Wr h49 (adr a50 3)∧
 At (hset h49 (adr a50 3) (.slice s48.a s48.len s48.cap)) (fun h51=>
 J39 () h51))))))))) (
 Join (fun(t76:Unit) h77=>
 (((0:Int)≤(1:Int)∧(1:Int)≤((t2.1.len:Nat):Int))∧
 Bd (aM t2.1.a ((1:Int).toNat) t2.1.cap 2:Option Addr) (fun a78=>Bd (t2.1.len-((1:Int).toNat):Nat) (fun n79=>Bd (t2.1.cap-((1:Int).toNat):Nat) (fun n80=>
 (((0:Int)≤(1:Int)∧(1:Int)≤((t2.2.len:Nat):Int))∧
 Bd (aM t2.2.a ((1:Int).toNat) t2.2.cap 2:Option Addr) (fun a81=>Bd (t2.2.len-((1:Int).toNat):Nat) (fun n82=>Bd (t2.2.cap-((1:Int).toNat):Nat) (fun n83=>
 I1 (⟨a78,n79,n80⟩,⟨a81,n82,n83⟩) h77))))))))) (fun J57=>
 (bS 0 t2.1.len∧∃a58,t2.1.a=some a58∧
 ∃v59,ae h38 (adr a58 ((0:Int).toNat*2)) 1 (.string v59)∧
 (bS 0 t2.2.len∧∃a60,t2.2.a=some a60∧
 ∃v61,ae h38 (adr a60 ((0:Int).toNat*2)) 1 (.string v61)∧
 CondP (!(v59.toList==v61.toList)) (
 ∃a62,x0=some a62∧
 ∃v63:SliceV,ae h38 a62 3 (.slice v63.a v63.len v63.cap)∧
 (bS 0 t2.1.len∧∃a64,t2.1.a=some a64∧
 ∃v65,ae h38 (adr a64 ((0:Int).toNat*2)) 0 (.string v65)∧
 (bS 0 t2.1.len∧∃a66,t2.1.a=some a66∧
 ∃v67,ae h38 (adr a66 ((0:Int).toNat*2)) 1 (.string v67)∧
 (bS 0 t2.2.len∧∃a68,t2.2.a=some a68∧
 ∃v69,ae h38 (adr a68 ((0:Int).toNat*2)) 1 (.string v69)∧
 At (hnew h38 [.string v65,.string v67,.string v69,.bool true,.bool true] aO) (fun h70=>
 (ae h70 a62 3 (.slice v63.a v63.len v63.cap)∧
 ∃xs71,SRow h70 (some (ag h38)) (1*5) xs71∧
 AppP (some [.string (⟨#[]⟩:ByteArray),.string (⟨#[]⟩:ByteArray),.string (⟨#[]⟩:ByteArray),.bool false,.bool false]) 5 56 aO v63.a v63.len v63.cap 1 xs71 h70 (fun s72 h73=>
 ∃a74,x0=some a74∧
 (Wr h73 (adr a74 3)∧
 At (hset h73 (adr a74 3) (.slice s72.a s72.len s72.cap)) (fun h75=>
 J57 () h75))))))))) (
 J57 () h38)))))) (fun J32=>
 CondP ((t2.1.len:Int)==(0:Int)) (
 J32 true h13) (
 (bS 0 t2.2.len∧∃a33,t2.2.a=some a33∧
 ∃v34,ae h13 (adr a33 ((0:Int).toNat*2)) 0 (.string v34)∧
 (bS 0 t2.1.len∧∃a35,t2.1.a=some a35∧
 ∃v36,ae h13 (adr a35 ((0:Int).toNat*2)) 0 (.string v36)∧
 J32 (Op.bytesLess v34.toList v36.toList) h13)))))) (fun J7=>
 CondP ((t2.2.len:Int)==(0:Int)) (
 J7 true h6) (
 CondP (decide ((t2.1.len:Int)>(0:Int))) (
 (bS 0 t2.1.len∧∃a8,t2.1.a=some a8∧
 ∃v9,ae h6 (adr a8 ((0:Int).toNat*2)) 0 (.string v9)∧
 (bS 0 t2.2.len∧∃a10,t2.2.a=some a10∧
 ∃v11,ae h6 (adr a10 ((0:Int).toNat*2)) 0 (.string v11)∧
 J7 (Op.bytesLess v9.toList v11.toList) h6))) (
 J7 false h6)))) (
 K () h6)) (fun J4=>
 CondP (decide ((t2.1.len:Int)>(0:Int))) (
 J4 true h3) (
 J4 (decide ((t2.2.len:Int)>(0:Int))) h3))) (x1,x2) h0
noncomputable def DF:Ann:=.loop [(1,.c .slice),(2,.c .slice)] (.node (.join [(13,.c .bool)] .nil .nil) (.join [(49,.c .bool)] (.draw (tr 0 4 (.split 53 (tr 4 16 (.done)) (tr 4 4 (.split 57 (tr 8 12 (.done)) (tr 8 12 (.done))))))) (.node (.join [] (.draw (tr 0 14 (.all (.lastT 14 (.all (.lastT 15 (.take 16 (.take 17 (.all (.lastT 18 (.done))))))))))) .nil) (.join [(89,.c .bool)] (.draw (tr 0 4 (.split 93 (tr 4 11 (.done)) (tr 4 11 (.done))))) (.node (.join [] (.draw (tr 0 14 (.all (.lastT 14 (.all (.lastT 15 (.take 16 (.take 17 (.all (.lastT 18 (.done))))))))))) .nil) (.join [] (.node (.draw (tr 0 9 (.done))) (.node (.draw (tr 0 18 (.all (.lastT 18 (.all (.lastT 19 (.take 20 (.take 21 (.all (.lastT 22 (.done))))))))))) .nil)) (.draw (tr 0 6 (.done)))))))))
theorem Dp(x0:Option Addr)(x1:SliceV)(x2:SliceV){K:cD []→af→Prop}{h0:af}(h:vK x0 x1 x2 K h0):HC PG ig [.pointer x0,.slice x1.a x1.len x1.cap,.slice x2.a x2.len x2.cap] [] K h0:=HC.intro (an:=DF) (c:=Tryz.f74.body.getD .skip) Tryz.mixed Tryz.func74 rfl Tryz.call74 (ad rfl) (cT (by kernel_rfl) h)
def ya(x0:Option Addr)(x1:ByteArray)(K:(SliceV)→af→Prop)(h0:af):Prop:=
 CondP x0.isNone (
 K ⟨none,0,0⟩ h0) (
 HC PG dE [.pointer x0] [.c .str] (fun(e1:ByteArray) h2=>
 (((x1.size+e1.size:Nat):Int)≤9223372036854775807∧
 Join (fun(t10:SliceV) h11=>
 HC PG jN [.pointer x0] [.c .slice] (fun(e12:SliceV) h13=>
 LoopP (fun I14 (t15:SliceV×Int) h16=>
 CondP (decide (t15.2<(e12.len:Int))) (
 Join (fun(t25:SliceV) h26=>
 I14 (t25,IntKind.wrap .i64 (t15.2+1)) h26) (fun J17=>
 (bS t15.2 e12.len∧∃a18,e12.a=some a18∧
 ∃v19,ae h16 a18 (t15.2.toNat*1) (.pointer v19)∧
 HC PG jR [.pointer v19,.string (x1++e1)] [.c .slice] (fun(e20:SliceV) h21=>
 ∃xs22,SRow h21 e20.a (e20.len*2) xs22∧
 AppP (some [.string (⟨#[]⟩:ByteArray),.string (⟨#[]⟩:ByteArray)]) 2 32 al t15.1.a t15.1.len t15.1.cap e20.len xs22 h21 (fun s23 h24=>
 J17 s23 h24)) h16))) (
 K t15.1 h16)) (t10,0) h13) h11) (fun J3=>
 HC PG ic [.pointer x0] [.c .str,.c .bool] (fun(e4:ByteArray×Bool) h5=>
 CondP e4.2 (
 At (hnew h5 [.string (x1++e1),.string e4.1] al) (fun h6=>
 ∃xs7,SRow h6 (some (ag h5)) (1*2) xs7∧
 AppP (some [.string (⟨#[]⟩:ByteArray),.string (⟨#[]⟩:ByteArray)]) 2 32 al none 0 0 1 xs7 h6 (fun s8 h9=>
 J3 s8 h9))) (
 J3 ⟨none,0,0⟩ h5)) h2))) h0)
noncomputable def Nc:Ann:=.node .nil (.node .nil (.node .nil (.node .nil (.join [(6,.c .slice)] .nil (.node (.node .nil (.loop [(6,.c .slice),(32,.c (.int .i64))] (.node .nil (.node .nil (.join [(6,.c .slice)] .nil .nil))))) .nil)))))
theorem Ei(x0:Option Addr)(x1:ByteArray){K:cD [.c .slice]→af→Prop}{h0:af}(h:ya x0 x1 K h0):HC PG jR [.pointer x0,.string x1] [.c .slice] K h0:=HC.intro (an:=Nc) (c:=Tryz.f75.body.getD .skip) Tryz.mixed Tryz.func75 rfl Tryz.call75 (ad rfl) (cT (by kernel_rfl) h)
def GY(x0:Option Addr)(x1:ByteArray)(K:(SliceV)→af→Prop)(h0:af):Prop:=
 HC PG ic [.pointer x0] [.c .str,.c .bool] (fun(e1:ByteArray×Bool) h2=>
 CondP (!e1.2) (
 K ⟨none,0,0⟩ h2) (
 At (hnew h2 [.string x1,.string e1.1] al) (fun h3=>
 K ⟨some (ag h2),1,1⟩ h3))) h0
noncomputable def Pp:Ann:=.nil
theorem O9(x0:Option Addr)(x1:ByteArray){K:cD [.c .slice]→af→Prop}{h0:af}(h:GY x0 x1 K h0):HC PG wC [.pointer x0,.string x1] [.c .slice] K h0:=HC.intro (an:=Pp) (c:=Tryz.f76.body.getD .skip) Tryz.mixed Tryz.func76 rfl Tryz.call76 (ad rfl) (cT (by kernel_rfl) h)
def ut(x0:Option Addr)(K:(SliceV)→af→Prop)(h0:af):Prop:=
 CondP x0.isNone (
 K ⟨none,0,0⟩ h0) (
 ∃a1,x0=some a1∧
 ∃v2:SliceV,ae h0 a1 3 (.slice v2.a v2.len v2.cap)∧
 HC PG cV [.slice v2.a v2.len v2.cap] [.c .slice] (fun(e3:SliceV) h4=>
 K e3 h4) h0)
noncomputable def Ca:Ann:=.nil
theorem Bz(x0:Option Addr){K:cD [.c .slice]→af→Prop}{h0:af}(h:ut x0 K h0):HC PG jN [.pointer x0] [.c .slice] K h0:=HC.intro (an:=Ca) (c:=Tryz.f77.body.getD .skip) Tryz.mixed Tryz.func77 rfl Tryz.call77 (ad rfl) (cT (by kernel_rfl) h)
def rG(x0:Option Addr)(K:(Bool)→af→Prop)(h0:af):Prop:=
 CondP (!(x0.isNone)) (
 ∃a1,x0=some a1∧
 ∃v2,ae h0 a1 4 (.bool v2)∧
 K v2 h0) (
 K false h0)
noncomputable def yi:Ann:=.nil
theorem xX(x0:Option Addr){K:cD [.c .bool]→af→Prop}{h0:af}(h:rG x0 K h0):HC PG dy [.pointer x0] [.c .bool] K h0:=HC.intro (an:=yi) (c:=Tryz.f78.body.getD .skip) Tryz.mixed Tryz.func78 rfl Tryz.call78 (ad rfl) (cT (by kernel_rfl) h)
def qb(x0:Option Addr)(K:(SliceV)→af→Prop)(h0:af):Prop:=
 CondP x0.isNone (
 K ⟨none,0,0⟩ h0) (
 ∃a1,x0=some a1∧
 ∃v2:SliceV,ae h0 (adr a1 0) 2 (.slice v2.a v2.len v2.cap)∧
 HC PG cC [.slice v2.a v2.len v2.cap] [.c .slice] (fun(e3:SliceV) h4=>
 K e3 h4) h0)
noncomputable def Cd:Ann:=.nil
theorem uh(x0:Option Addr){K:cD [.c .slice]→af→Prop}{h0:af}(h:qb x0 K h0):HC PG eO [.pointer x0] [.c .slice] K h0:=HC.intro (an:=Cd) (c:=Tryz.f79.body.getD .skip) Tryz.mixed Tryz.func79 rfl Tryz.call79 (ad rfl) (cT (by kernel_rfl) h)
def xa(x0:Option Addr)(x1:Int)(K:((Option Addr)×Bool)→af→Prop)(h0:af):Prop:=
 HC PG jQ [.pointer x0] [.c (.int .u32)] (fun(e1:Int) h2=>
 HC PG ga [.int .u32 e1,.int .i64 x1] [.c .bool] (fun(e3:Bool) h4=>
 CondP (!e3) (
 K (none,false) h4) (
 ∃a5,x0=some a5∧
 ∃v6:SliceV,ae h4 (adr a5 0) 3 (.slice v6.a v6.len v6.cap)∧
 ∃a7,x0=some a7∧
 ∃v8,ae h4 (adr a7 0) 1 (.int .u32 v8)∧
 HC PG df [.int .u32 v8,.int .i64 x1] [.c (.int .i64)] (fun(e9:Int) h10=>
 (ae h10 (adr a5 0) 3 (.slice v6.a v6.len v6.cap)∧
 (bS e9 v6.len∧∃a11,v6.a=some a11∧
 ∃v12,ae h10 a11 (e9.toNat*1) (.pointer v12)∧
 K (v12,true) h10))) h4)) h2) h0
noncomputable def EW:Ann:=.nil
theorem EM(x0:Option Addr)(x1:Int){K:cD [.c .ptr,.c .bool]→af→Prop}{h0:af}(h:xa x0 x1 K h0):HC PG gK [.pointer x0,.int .i64 x1] [.c .ptr,.c .bool] K h0:=HC.intro (an:=EW) (c:=Tryz.f80.body.getD .skip) Tryz.mixed Tryz.func80 rfl Tryz.call80 (ad rfl) (cT (by kernel_rfl) h)
end Go.Proofs
