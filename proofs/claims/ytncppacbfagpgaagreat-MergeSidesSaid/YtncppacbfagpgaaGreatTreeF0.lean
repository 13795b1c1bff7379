/- A part of the proof that the named laws of this program answer true, whatever the input. -/
import Derived.Test.YtncppacbfagpgaaGreatTreeF
set_option maxRecDepth 100000
set_option linter.unusedVariables false
namespace Go.Proofs
open Go.Lift
def vW(x0:Int)(x1:Int×Int×Int)(x2:SliceV)(x3:SliceV)(x4:SliceV)(x5:SliceV)(x6:SliceV)(x7:Bool)(K:(Bool)→ad→Prop)(h0:ad):Prop:=
 At (hnew h0 (Dl x1) cy) (fun h1=>
 HC PG xX [] [.c .bool] (fun(e2:Bool) h3=>
 CondP (!e2) (
 K false h3) (
 ∃v4,ae h3 h0 0 v4∧
 ∃v5,ae h3 h0 1 v5∧
 ∃v6,ae h3 h0 2 v6∧
 HC PG zP [.int .u8 x0,zl v4 v5 v6,.slice x2.a x2.len x2.cap,.slice x3.a x3.len x3.cap,.slice x4.a x4.len x4.cap,.slice x5.a x5.len x5.cap,.slice x6.a x6.len x6.cap,.bool x7] [.agg ((.int .i64)::(.int .u64)::(.int .u64)::(.int .u64):: .ptr:: .ptr::(.int .i64)::(.int .u64)::(.int .u64)::(.int .u64):: .ptr:: .ptr::(.int .i64)::(.int .u64)::(.int .u64)::(.int .u64):: .ptr:: .ptr::(.int .i64)::(.int .u64)::(.int .u64)::(.int .u64):: .slice::(.int .i64)::(.int .u64)::(.int .u64)::(.int .u64):: .slice::(.int .i64)::(.int .u64)::(.int .u64)::(.int .u64):: .slice:: [])] (fun(e7:Int×Int×Int×Int×(Option Addr)×(Option Addr)×Int×Int×Int×Int×(Option Addr)×(Option Addr)×Int×Int×Int×Int×(Option Addr)×(Option Addr)×Int×Int×Int×Int×SliceV×Int×Int×Int×Int×SliceV×T5) h8=>
 At (hnew h8 ((.int .i64 0)::(.int .u64 0)::(.int .u64 0)::(.int .u64 0)::(.pointer none)::(.pointer none)::(.int .i64 0)::(.int .u64 0)::(.int .u64 0)::(.int .u64 0)::(.pointer none)::(.pointer none)::(.int .i64 0)::(.int .u64 0)::(.int .u64 0)::(.int .u64 0)::(.pointer none)::(.pointer none)::(.int .i64 0)::(.int .u64 0)::(.int .u64 0)::(.int .u64 0)::(.slice none 0 0)::(.int .i64 0)::(.int .u64 0)::(.int .u64 0)::(.int .u64 0)::(.slice none 0 0)::(.int .i64 0)::(.int .u64 0)::(.int .u64 0)::(.int .u64 0)::(.slice none 0 0):: []) rH) (fun h9=>
 (qL h9 (some (aj h8)) 0 ((.int .i64 e7.1)::(.int .u64 e7.2.1)::(.int .u64 e7.2.2.1)::(.int .u64 e7.2.2.2.1)::(.pointer e7.2.2.2.2.1)::(.pointer e7.2.2.2.2.2.1)::(.int .i64 e7.2.2.2.2.2.2.1)::(.int .u64 e7.2.2.2.2.2.2.2.1)::(.int .u64 e7.2.2.2.2.2.2.2.2.1)::(.int .u64 e7.2.2.2.2.2.2.2.2.2.1)::(.pointer e7.2.2.2.2.2.2.2.2.2.2.1)::(.pointer e7.2.2.2.2.2.2.2.2.2.2.2.1)::(.int .i64 e7.2.2.2.2.2.2.2.2.2.2.2.2.1)::(.int .u64 e7.2.2.2.2.2.2.2.2.2.2.2.2.2.1)::(.int .u64 e7.2.2.2.2.2.2.2.2.2.2.2.2.2.2.1)::(.int .u64 e7.2.2.2.2.2.2.2.2.2.2.2.2.2.2.2.1)::(.pointer e7.2.2.2.2.2.2.2.2.2.2.2.2.2.2.2.2.1)::(.pointer e7.2.2.2.2.2.2.2.2.2.2.2.2.2.2.2.2.2.1)::(.int .i64 e7.2.2.2.2.2.2.2.2.2.2.2.2.2.2.2.2.2.2.1)::(.int .u64 e7.2.2.2.2.2.2.2.2.2.2.2.2.2.2.2.2.2.2.2.1)::(.int .u64 e7.2.2.2.2.2.2.2.2.2.2.2.2.2.2.2.2.2.2.2.2.1)::(.int .u64 e7.2.2.2.2.2.2.2.2.2.2.2.2.2.2.2.2.2.2.2.2.2.1)::(.slice e7.2.2.2.2.2.2.2.2.2.2.2.2.2.2.2.2.2.2.2.2.2.2.1.a e7.2.2.2.2.2.2.2.2.2.2.2.2.2.2.2.2.2.2.2.2.2.2.1.len e7.2.2.2.2.2.2.2.2.2.2.2.2.2.2.2.2.2.2.2.2.2.2.1.cap)::(.int .i64 e7.2.2.2.2.2.2.2.2.2.2.2.2.2.2.2.2.2.2.2.2.2.2.2.1)::(.int .u64 e7.2.2.2.2.2.2.2.2.2.2.2.2.2.2.2.2.2.2.2.2.2.2.2.2.1)::(.int .u64 e7.2.2.2.2.2.2.2.2.2.2.2.2.2.2.2.2.2.2.2.2.2.2.2.2.2.1)::(.int .u64 e7.2.2.2.2.2.2.2.2.2.2.2.2.2.2.2.2.2.2.2.2.2.2.2.2.2.2.1)::(.slice e7.2.2.2.2.2.2.2.2.2.2.2.2.2.2.2.2.2.2.2.2.2.2.2.2.2.2.2.1.a e7.2.2.2.2.2.2.2.2.2.2.2.2.2.2.2.2.2.2.2.2.2.2.2.2.2.2.2.1.len e7.2.2.2.2.2.2.2.2.2.2.2.2.2.2.2.2.2.2.2.2.2.2.2.2.2.2.2.1.cap)::(.int .i64 e7.2.2.2.2.2.2.2.2.2.2.2.2.2.2.2.2.2.2.2.2.2.2.2.2.2.2.2.2.1)::(.int .u64 e7.2.2.2.2.2.2.2.2.2.2.2.2.2.2.2.2.2.2.2.2.2.2.2.2.2.2.2.2.2.1)::(.int .u64 e7.2.2.2.2.2.2.2.2.2.2.2.2.2.2.2.2.2.2.2.2.2.2.2.2.2.2.2.2.2.2.1)::(.int .u64 e7.2.2.2.2.2.2.2.2.2.2.2.2.2.2.2.2.2.2.2.2.2.2.2.2.2.2.2.2.2.2.2.1)::(.slice e7.2.2.2.2.2.2.2.2.2.2.2.2.2.2.2.2.2.2.2.2.2.2.2.2.2.2.2.2.2.2.2.2.a e7.2.2.2.2.2.2.2.2.2.2.2.2.2.2.2.2.2.2.2.2.2.2.2.2.2.2.2.2.2.2.2.2.len e7.2.2.2.2.2.2.2.2.2.2.2.2.2.2.2.2.2.2.2.2.2.2.2.2.2.2.2.2.2.2.2.2.cap):: [])∧
 At (ff h9 (aj h8) 0 ((.int .i64 e7.1)::(.int .u64 e7.2.1)::(.int .u64 e7.2.2.1)::(.int .u64 e7.2.2.2.1)::(.pointer e7.2.2.2.2.1)::(.pointer e7.2.2.2.2.2.1)::(.int .i64 e7.2.2.2.2.2.2.1)::(.int .u64 e7.2.2.2.2.2.2.2.1)::(.int .u64 e7.2.2.2.2.2.2.2.2.1)::(.int .u64 e7.2.2.2.2.2.2.2.2.2.1)::(.pointer e7.2.2.2.2.2.2.2.2.2.2.1)::(.pointer e7.2.2.2.2.2.2.2.2.2.2.2.1)::(.int .i64 e7.2.2.2.2.2.2.2.2.2.2.2.2.1)::(.int .u64 e7.2.2.2.2.2.2.2.2.2.2.2.2.2.1)::(.int .u64 e7.2.2.2.2.2.2.2.2.2.2.2.2.2.2.1)::(.int .u64 e7.2.2.2.2.2.2.2.2.2.2.2.2.2.2.2.1)::(.pointer e7.2.2.2.2.2.2.2.2.2.2.2.2.2.2.2.2.1)::(.pointer e7.2.2.2.2.2.2.2.2.2.2.2.2.2.2.2.2.2.1)::(.int .i64 e7.2.2.2.2.2.2.2.2.2.2.2.2.2.2.2.2.2.2.1)::(.int .u64 e7.2.2.2.2.2.2.2.2.2.2.2.2.2.2.2.2.2.2.2.1)::(.int .u64 e7.2.2.2.2.2.2.2.2.2.2.2.2.2.2.2.2.2.2.2.2.1)::(.int .u64 e7.2.2.2.2.2.2.2.2.2.2.2.2.2.2.2.2.2.2.2.2.2.1)::(.slice e7.2.2.2.2.2.2.2.2.2.2.2.2.2.2.2.2.2.2.2.2.2.2.1.a e7.2.2.2.2.2.2.2.2.2.2.2.2.2.2.2.2.2.2.2.2.2.2.1.len e7.2.2.2.2.2.2.2.2.2.2.2.2.2.2.2.2.2.2.2.2.2.2.1.cap)::(.int .i64 e7.2.2.2.2.2.2.2.2.2.2.2.2.2.2.2.2.2.2.2.2.2.2.2.1)::(.int .u64 e7.2.2.2.2.2.2.2.2.2.2.2.2.2.2.2.2.2.2.2.2.2.2.2.2.1)::(.int .u64 e7.2.2.2.2.2.2.2.2.2.2.2.2.2.2.2.2.2.2.2.2.2.2.2.2.2.1)::(.int .u64 e7.2.2.2.2.2.2.2.2.2.2.2.2.2.2.2.2.2.2.2.2.2.2.2.2.2.2.1)::(.slice e7.2.2.2.2.2.2.2.2.2.2.2.2.2.2.2.2.2.2.2.2.2.2.2.2.2.2.2.1.a e7.2.2.2.2.2.2.2.2.2.2.2.2.2.2.2.2.2.2.2.2.2.2.2.2.2.2.2.1.len e7.2.2.2.2.2.2.2.2.2.2.2.2.2.2.2.2.2.2.2.2.2.2.2.2.2.2.2.1.cap)::(.int .i64 e7.2.2.2.2.2.2.2.2.2.2.2.2.2.2.2.2.2.2.2.2.2.2.2.2.2.2.2.2.1)::(.int .u64 e7.2.2.2.2.2.2.2.2.2.2.2.2.2.2.2.2.2.2.2.2.2.2.2.2.2.2.2.2.2.1)::(.int .u64 e7.2.2.2.2.2.2.2.2.2.2.2.2.2.2.2.2.2.2.2.2.2.2.2.2.2.2.2.2.2.2.1)::(.int .u64 e7.2.2.2.2.2.2.2.2.2.2.2.2.2.2.2.2.2.2.2.2.2.2.2.2.2.2.2.2.2.2.2.1)::(.slice e7.2.2.2.2.2.2.2.2.2.2.2.2.2.2.2.2.2.2.2.2.2.2.2.2.2.2.2.2.2.2.2.2.a e7.2.2.2.2.2.2.2.2.2.2.2.2.2.2.2.2.2.2.2.2.2.2.2.2.2.2.2.2.2.2.2.2.len e7.2.2.2.2.2.2.2.2.2.2.2.2.2.2.2.2.2.2.2.2.2.2.2.2.2.2.2.2.2.2.2.2.cap):: [])) (fun h10=>
 Join (fun(t117:Addr×Addr×Addr) h118=>
 ∃v119,aL h118 t117.1 0 (.int .i64 v119)∧
 ∃v120,aL h118 t117.1 1 (.int .u64 v120)∧
 ∃v121,aL h118 t117.1 2 (.int .u64 v121)∧
 ∃v122,aL h118 t117.1 3 (.int .u64 v122)∧
 ∃v123,aL h118 t117.1 4 (.pointer v123)∧
 ∃v124,aL h118 t117.1 5 (.pointer v124)∧
 ∃v125,aL h118 t117.1 0 (.int .i64 v125)∧
 ∃v126,aL h118 t117.1 1 (.int .u64 v126)∧
 ∃v127,aL h118 t117.1 2 (.int .u64 v127)∧
 ∃v128,aL h118 t117.1 3 (.int .u64 v128)∧
 ∃v129,aL h118 t117.1 4 (.pointer v129)∧
 ∃v130,aL h118 t117.1 5 (.pointer v130)∧
 ∃v131,aL h118 t117.2.2 0 (.int .i64 v131)∧
 ∃v132,aL h118 t117.2.2 1 (.int .u64 v132)∧
 ∃v133,aL h118 t117.2.2 2 (.int .u64 v133)∧
 ∃v134,aL h118 t117.2.2 3 (.int .u64 v134)∧
 ∃v135,aL h118 t117.2.2 4 (.pointer v135)∧
 ∃v136,aL h118 t117.2.2 5 (.pointer v136)∧
 HC PG ju [kU v119 v120 v121 v122 v123 v124,kU v125 v126 v127 v128 v129 v130,kU v131 v132 v133 v134 v135 v136,.int .i64 0] D0 (fun(e137:(T6)×SliceV×Int) h138=>
 nv h138 qK aH (mK e137.1) (fun h140=>
 ∃v141,aL h140 t117.1 0 (.int .i64 v141)∧
 ∃v142,aL h140 t117.1 1 (.int .u64 v142)∧
 ∃v143,aL h140 t117.1 2 (.int .u64 v143)∧
 ∃v144,aL h140 t117.1 3 (.int .u64 v144)∧
 ∃v145,aL h140 t117.1 4 (.pointer v145)∧
 ∃v146,aL h140 t117.1 5 (.pointer v146)∧
 ∃v147,aL h140 t117.2.1 0 (.int .i64 v147)∧
 ∃v148,aL h140 t117.2.1 1 (.int .u64 v148)∧
 ∃v149,aL h140 t117.2.1 2 (.int .u64 v149)∧
 ∃v150,aL h140 t117.2.1 3 (.int .u64 v150)∧
 ∃v151,aL h140 t117.2.1 4 (.pointer v151)∧
 ∃v152,aL h140 t117.2.1 5 (.pointer v152)∧
 ∃v153,aL h140 t117.1 0 (.int .i64 v153)∧
 ∃v154,aL h140 t117.1 1 (.int .u64 v154)∧
 ∃v155,aL h140 t117.1 2 (.int .u64 v155)∧
 ∃v156,aL h140 t117.1 3 (.int .u64 v156)∧
 ∃v157,aL h140 t117.1 4 (.pointer v157)∧
 ∃v158,aL h140 t117.1 5 (.pointer v158)∧
 HC PG ju [kU v141 v142 v143 v144 v145 v146,kU v147 v148 v149 v150 v151 v152,kU v153 v154 v155 v156 v157 v158,.int .i64 0] D0 (fun(e159:(T6)×SliceV×Int) h160=>
 nv h160 qK aH (mK e159.1) (fun h162=>
 ∃v163,aL h162 t117.1 0 (.int .i64 v163)∧
 ∃v164,aL h162 t117.1 1 (.int .u64 v164)∧
 ∃v165,aL h162 t117.1 2 (.int .u64 v165)∧
 ∃v166,aL h162 t117.1 3 (.int .u64 v166)∧
 ∃v167,aL h162 t117.1 4 (.pointer v167)∧
 ∃v168,aL h162 t117.1 5 (.pointer v168)∧
 ∃v169,aL h162 t117.2.1 0 (.int .i64 v169)∧
 ∃v170,aL h162 t117.2.1 1 (.int .u64 v170)∧
 ∃v171,aL h162 t117.2.1 2 (.int .u64 v171)∧
 ∃v172,aL h162 t117.2.1 3 (.int .u64 v172)∧
 ∃v173,aL h162 t117.2.1 4 (.pointer v173)∧
 ∃v174,aL h162 t117.2.1 5 (.pointer v174)∧
 ∃v175,aL h162 t117.2.1 0 (.int .i64 v175)∧
 ∃v176,aL h162 t117.2.1 1 (.int .u64 v176)∧
 ∃v177,aL h162 t117.2.1 2 (.int .u64 v177)∧
 ∃v178,aL h162 t117.2.1 3 (.int .u64 v178)∧
 ∃v179,aL h162 t117.2.1 4 (.pointer v179)∧
 ∃v180,aL h162 t117.2.1 5 (.pointer v180)∧
 HC PG ju [kU v163 v164 v165 v166 v167 v168,kU v169 v170 v171 v172 v173 v174,kU v175 v176 v177 v178 v179 v180,.int .i64 0] D0 (fun(e181:(T6)×SliceV×Int) h182=>
 nv h182 qK aH (mK e181.1) (fun h184=>
 Join (fun(t229:Bool) h230=>
 CondP t229 (
 K false h230) (
 ∃v231,aL h230 t117.1 0 (.int .i64 v231)∧
 ∃v232,aL h230 t117.1 1 (.int .u64 v232)∧
 ∃v233,aL h230 t117.1 2 (.int .u64 v233)∧
 ∃v234,aL h230 t117.1 3 (.int .u64 v234)∧
 ∃v235,aL h230 t117.1 4 (.pointer v235)∧
 ∃v236,aL h230 t117.1 5 (.pointer v236)∧
 ∃v237,aL h230 t117.2.1 0 (.int .i64 v237)∧
 ∃v238,aL h230 t117.2.1 1 (.int .u64 v238)∧
 ∃v239,aL h230 t117.2.1 2 (.int .u64 v239)∧
 ∃v240,aL h230 t117.2.1 3 (.int .u64 v240)∧
 ∃v241,aL h230 t117.2.1 4 (.pointer v241)∧
 ∃v242,aL h230 t117.2.1 5 (.pointer v242)∧
 ∃v243,aL h230 t117.2.2 0 (.int .i64 v243)∧
 ∃v244,aL h230 t117.2.2 1 (.int .u64 v244)∧
 ∃v245,aL h230 t117.2.2 2 (.int .u64 v245)∧
 ∃v246,aL h230 t117.2.2 3 (.int .u64 v246)∧
 ∃v247,aL h230 t117.2.2 4 (.pointer v247)∧
 ∃v248,aL h230 t117.2.2 5 (.pointer v248)∧
 HC PG ju [kU v231 v232 v233 v234 v235 v236,kU v237 v238 v239 v240 v241 v242,kU v243 v244 v245 v246 v247 v248,.int .i64 1] D0 (fun(e249:(T6)×SliceV×Int) h250=>
 nv h250 qK aH (mK e249.1) (fun h252=>
 ∃v253,aL h252 t117.1 0 (.int .i64 v253)∧
 ∃v254,aL h252 t117.1 1 (.int .u64 v254)∧
 ∃v255,aL h252 t117.1 2 (.int .u64 v255)∧
 ∃v256,aL h252 t117.1 3 (.int .u64 v256)∧
 ∃v257,aL h252 t117.1 4 (.pointer v257)∧
 ∃v258,aL h252 t117.1 5 (.pointer v258)∧
 ∃v259,aL h252 t117.2.2 0 (.int .i64 v259)∧
 ∃v260,aL h252 t117.2.2 1 (.int .u64 v260)∧
 ∃v261,aL h252 t117.2.2 2 (.int .u64 v261)∧
 ∃v262,aL h252 t117.2.2 3 (.int .u64 v262)∧
 ∃v263,aL h252 t117.2.2 4 (.pointer v263)∧
 ∃v264,aL h252 t117.2.2 5 (.pointer v264)∧
 ∃v265,aL h252 t117.2.1 0 (.int .i64 v265)∧
 ∃v266,aL h252 t117.2.1 1 (.int .u64 v266)∧
 ∃v267,aL h252 t117.2.1 2 (.int .u64 v267)∧
 ∃v268,aL h252 t117.2.1 3 (.int .u64 v268)∧
 ∃v269,aL h252 t117.2.1 4 (.pointer v269)∧
 ∃v270,aL h252 t117.2.1 5 (.pointer v270)∧
 HC PG ju [kU v253 v254 v255 v256 v257 v258,kU v259 v260 v261 v262 v263 v264,kU v265 v266 v267 v268 v269 v270,.int .i64 2] D0 (fun(e271:(T6)×SliceV×Int) h272=>
 nv h272 qK aH (mK e271.1) (fun h274=>
 ∃v275,aL h274 t117.1 0 (.int .i64 v275)∧
 ∃v276,aL h274 t117.1 1 (.int .u64 v276)∧
 ∃v277,aL h274 t117.1 2 (.int .u64 v277)∧
 ∃v278,aL h274 t117.1 3 (.int .u64 v278)∧
 ∃v279,aL h274 t117.1 4 (.pointer v279)∧
 ∃v280,aL h274 t117.1 5 (.pointer v280)∧
 ∃v281,aL h274 t117.2.1 0 (.int .i64 v281)∧
 ∃v282,aL h274 t117.2.1 1 (.int .u64 v282)∧
 ∃v283,aL h274 t117.2.1 2 (.int .u64 v283)∧
 ∃v284,aL h274 t117.2.1 3 (.int .u64 v284)∧
 ∃v285,aL h274 t117.2.1 4 (.pointer v285)∧
 ∃v286,aL h274 t117.2.1 5 (.pointer v286)∧
 ∃v287,aL h274 t117.2.2 0 (.int .i64 v287)∧
 ∃v288,aL h274 t117.2.2 1 (.int .u64 v288)∧
 ∃v289,aL h274 t117.2.2 2 (.int .u64 v289)∧
 ∃v290,aL h274 t117.2.2 3 (.int .u64 v290)∧
 ∃v291,aL h274 t117.2.2 4 (.pointer v291)∧
 ∃v292,aL h274 t117.2.2 5 (.pointer v292)∧
 HC PG ju [kU v275 v276 v277 v278 v279 v280,kU v281 v282 v283 v284 v285 v286,kU v287 v288 v289 v290 v291 v292,.int .i64 3] D0 (fun(e293:(T6)×SliceV×Int) h294=>
 nv h294 qK aH (mK e293.1) (fun h296=>
 ∃v297,aL h296 t117.1 0 (.int .i64 v297)∧
 ∃v298,aL h296 t117.1 1 (.int .u64 v298)∧
 ∃v299,aL h296 t117.1 2 (.int .u64 v299)∧
 ∃v300,aL h296 t117.1 3 (.int .u64 v300)∧
 ∃v301,aL h296 t117.1 4 (.pointer v301)∧
 ∃v302,aL h296 t117.1 5 (.pointer v302)∧
 ∃v303,aL h296 t117.2.2 0 (.int .i64 v303)∧
 ∃v304,aL h296 t117.2.2 1 (.int .u64 v304)∧
 ∃v305,aL h296 t117.2.2 2 (.int .u64 v305)∧
 ∃v306,aL h296 t117.2.2 3 (.int .u64 v306)∧
 ∃v307,aL h296 t117.2.2 4 (.pointer v307)∧
 ∃v308,aL h296 t117.2.2 5 (.pointer v308)∧
 ∃v309,aL h296 t117.2.1 0 (.int .i64 v309)∧
 ∃v310,aL h296 t117.2.1 1 (.int .u64 v310)∧
 ∃v311,aL h296 t117.2.1 2 (.int .u64 v311)∧
 ∃v312,aL h296 t117.2.1 3 (.int .u64 v312)∧
 ∃v313,aL h296 t117.2.1 4 (.pointer v313)∧
 ∃v314,aL h296 t117.2.1 5 (.pointer v314)∧
 HC PG ju [kU v297 v298 v299 v300 v301 v302,kU v303 v304 v305 v306 v307 v308,kU v309 v310 v311 v312 v313 v314,.int .i64 3] D0 (fun(e315:(T6)×SliceV×Int) h316=>
 nv h316 qK aH (mK e315.1) (fun h318=>
 Join (fun(t348:Bool) h349=>
 CondP t348 (
 K false h349) (
 LoopP (fun I350 (t351:Int) h352=>
 CondP (decide (t351<(e249.2.1.len:Int))) (
 Join (fun(t402:Bool) h403=>
 CondP t402 (
 K false h403) (
 I350 (IntKind.wrap .i64 (t351+1)) h403)) (fun J353=>
 (bZ t351 e249.2.1.len∧∃a354,e249.2.1.a=some a354∧
 ∃v355,ay h352 (adr a354 (t351.toNat*7)) 0 v355∧
 (bZ t351 e271.2.1.len∧∃a356,e271.2.1.a=some a356∧
 ∃v357,ay h352 (adr a356 (t351.toNat*7)) 0 v357∧
 CondP (!(v355.toList==v357.toList)) (
 J353 true h352) (
 (bZ t351 e249.2.1.len∧∃a358,e249.2.1.a=some a358∧
 ∃v359,ay h352 (adr (adr a358 (t351.toNat*7)) 1) 0 v359∧
 ∃v360,be h352 (adr (adr a358 (t351.toNat*7)) 1) 1 v360∧
 (bZ t351 e271.2.1.len∧∃a361,e271.2.1.a=some a361∧
 ∃v362,ay h352 (adr (adr a361 (t351.toNat*7)) 1) 0 v362∧
 ∃v363,be h352 (adr (adr a361 (t351.toNat*7)) 1) 1 v363∧
 CondP (!(((v359.toList==v362.toList)&&((v360==v363)&&true)))) (
 J353 true h352) (
 (bZ t351 e249.2.1.len∧∃a364,e249.2.1.a=some a364∧
 ∃v365,ay h352 (adr (adr a364 (t351.toNat*7)) 3) 0 v365∧
 ∃v366,be h352 (adr (adr a364 (t351.toNat*7)) 3) 1 v366∧
 (bZ t351 e271.2.1.len∧∃a367,e271.2.1.a=some a367∧
 ∃v368,ay h352 (adr (adr a367 (t351.toNat*7)) 5) 0 v368∧
 ∃v369,be h352 (adr (adr a367 (t351.toNat*7)) 5) 1 v369∧
 CondP (!(((v365.toList==v368.toList)&&((v366==v369)&&true)))) (
 J353 true h352) (
 (bZ t351 e249.2.1.len∧∃a370,e249.2.1.a=some a370∧
 ∃v371,ay h352 (adr (adr a370 (t351.toNat*7)) 5) 0 v371∧
 ∃v372,be h352 (adr (adr a370 (t351.toNat*7)) 5) 1 v372∧
 (bZ t351 e271.2.1.len∧∃a373,e271.2.1.a=some a373∧
 ∃v374,ay h352 (adr (adr a373 (t351.toNat*7)) 3) 0 v374∧
 ∃v375,be h352 (adr (adr a373 (t351.toNat*7)) 3) 1 v375∧
 CondP (!(((v371.toList==v374.toList)&&((v372==v375)&&true)))) (
 J353 true h352) (
 ∃v376,aM h352 h250 0 v376∧
 ∃v377,ae h352 h250 1 v377∧
 ∃v378,ae h352 h250 2 v378∧
 ∃v379,ae h352 h250 3 v379∧
 ∃v380,au h352 h250 4 v380∧
 ∃v381,au h352 h250 5 v381∧
 (bZ t351 e249.2.1.len∧∃a382,e249.2.1.a=some a382∧
 ∃v383,ay h352 (adr a382 (t351.toNat*7)) 0 v383∧
 (bZ t351 e249.2.1.len∧∃a384,e249.2.1.a=some a384∧
 ∃v385,ay h352 (adr (adr a384 (t351.toNat*7)) 3) 0 v385∧
 ∃v386,be h352 (adr (adr a384 (t351.toNat*7)) 3) 1 v386∧
 HC PG pN [kU v376 v377 v378 v379 v380 v381,.string v383] KZ (fun(e387:ByteArray×Bool) h388=>
 ((ay h388 (adr (adr a384 (t351.toNat*7)) 3) 0 v385∧be h388 (adr (adr a384 (t351.toNat*7)) 3) 1 v386)∧
 ((ay h388 (adr (adr a373 (t351.toNat*7)) 3) 0 v374∧be h388 (adr (adr a373 (t351.toNat*7)) 3) 1 v375)∧
 ((ay h388 (adr (adr a370 (t351.toNat*7)) 5) 0 v371∧be h388 (adr (adr a370 (t351.toNat*7)) 5) 1 v372)∧
 ((ay h388 (adr (adr a367 (t351.toNat*7)) 5) 0 v368∧be h388 (adr (adr a367 (t351.toNat*7)) 5) 1 v369)∧
 ((ay h388 (adr (adr a364 (t351.toNat*7)) 3) 0 v365∧be h388 (adr (adr a364 (t351.toNat*7)) 3) 1 v366)∧
 ((ay h388 (adr (adr a361 (t351.toNat*7)) 1) 0 v362∧be h388 (adr (adr a361 (t351.toNat*7)) 1) 1 v363)∧
 ((ay h388 (adr (adr a358 (t351.toNat*7)) 1) 0 v359∧be h388 (adr (adr a358 (t351.toNat*7)) 1) 1 v360)∧
 (ay h388 (adr a356 (t351.toNat*7)) 0 v357∧
 (ay h388 (adr a354 (t351.toNat*7)) 0 v355∧
 CondP (!(((e387.1.toList==v385.toList)&&((e387.2==v386)&&true)))) (
 J353 true h388) (
 ∃v389,aM h388 h294 0 v389∧
 ∃v390,ae h388 h294 1 v390∧
 ∃v391,ae h388 h294 2 v391∧
 ∃v392,ae h388 h294 3 v392∧
 ∃v393,au h388 h294 4 v393∧
 ∃v394,au h388 h294 5 v394∧
 (bZ t351 e249.2.1.len∧∃a395,e249.2.1.a=some a395∧
 ∃v396,ay h388 (adr a395 (t351.toNat*7)) 0 v396∧
 (bZ t351 e249.2.1.len∧∃a397,e249.2.1.a=some a397∧
 ∃v398,ay h388 (adr (adr a397 (t351.toNat*7)) 1) 0 v398∧
 ∃v399,be h388 (adr (adr a397 (t351.toNat*7)) 1) 1 v399∧
 HC PG pN [kU v389 v390 v391 v392 v393 v394,.string v396] KZ (fun(e400:ByteArray×Bool) h401=>
 ((ay h401 (adr (adr a397 (t351.toNat*7)) 1) 0 v398∧be h401 (adr (adr a397 (t351.toNat*7)) 1) 1 v399)∧
 ((ay h401 (adr (adr a384 (t351.toNat*7)) 3) 0 v385∧be h401 (adr (adr a384 (t351.toNat*7)) 3) 1 v386)∧
 ((ay h401 (adr (adr a373 (t351.toNat*7)) 3) 0 v374∧be h401 (adr (adr a373 (t351.toNat*7)) 3) 1 v375)∧
 ((ay h401 (adr (adr a370 (t351.toNat*7)) 5) 0 v371∧be h401 (adr (adr a370 (t351.toNat*7)) 5) 1 v372)∧
 ((ay h401 (adr (adr a367 (t351.toNat*7)) 5) 0 v368∧be h401 (adr (adr a367 (t351.toNat*7)) 5) 1 v369)∧
 ((ay h401 (adr (adr a364 (t351.toNat*7)) 3) 0 v365∧be h401 (adr (adr a364 (t351.toNat*7)) 3) 1 v366)∧
 ((ay h401 (adr (adr a361 (t351.toNat*7)) 1) 0 v362∧be h401 (adr (adr a361 (t351.toNat*7)) 1) 1 v363)∧
 ((ay h401 (adr (adr a358 (t351.toNat*7)) 1) 0 v359∧be h401 (adr (adr a358 (t351.toNat*7)) 1) 1 v360)∧
 (ay h401 (adr a356 (t351.toNat*7)) 0 v357∧
 (ay h401 (adr a354 (t351.toNat*7)) 0 v355∧
 J353 (!(((e400.1.toList==v398.toList)&&((e400.2==v399)&&true)))) h401))))))))))) h388))))))))))))) h352)))))))))))))))) (
 K true h352)) 0 h349)) (fun J319=>
 ∃v320,aM h318 h250 0 v320∧
 ∃v321,ae h318 h250 1 v321∧
 ∃v322,ae h318 h250 2 v322∧
 ∃v323,ae h318 h250 3 v323∧
 ∃v324,au h318 h250 4 v324∧
 ∃v325,au h318 h250 5 v325∧
 ∃v326,aM h318 h272 0 v326∧
 ∃v327,ae h318 h272 1 v327∧
 ∃v328,ae h318 h272 2 v328∧
 ∃v329,ae h318 h272 3 v329∧
 ∃v330,au h318 h272 4 v330∧
 ∃v331,au h318 h272 5 v331∧
 HC PG na [kU v320 v321 v322 v323 v324 v325,kU v326 v327 v328 v329 v330 v331] [.c .bool] (fun(e332:Bool) h333=>
 CondP (!e332) (
 J319 true h333) (
 ∃v334,aM h333 h294 0 v334∧
 ∃v335,ae h333 h294 1 v335∧
 ∃v336,ae h333 h294 2 v336∧
 ∃v337,ae h333 h294 3 v337∧
 ∃v338,au h333 h294 4 v338∧
 ∃v339,au h333 h294 5 v339∧
 ∃v340,aM h333 h316 0 v340∧
 ∃v341,ae h333 h316 1 v341∧
 ∃v342,ae h333 h316 2 v342∧
 ∃v343,ae h333 h316 3 v343∧
 ∃v344,au h333 h316 4 v344∧
 ∃v345,au h333 h316 5 v345∧
 HC PG na [kU v334 v335 v336 v337 v338 v339,kU v340 v341 v342 v343 v344 v345] [.c .bool] (fun(e346:Bool) h347=>
 CondP (!e346) (
 J319 true h347) (
 J319 ((e249.2.1.len:Int) !=(e271.2.1.len:Int)) h347)) h333)) h318))) h296)) h274)) h252)) h230)) (fun J185=>
 CondP (e137.2.2 !=(0:Int)) (
 J185 true h184) (
 CondP (e159.2.2 !=(0:Int)) (
 J185 true h184) (
 CondP (e181.2.2 !=(0:Int)) (
 J185 true h184) (
 Bd (IntKind.wrap .i64 ((IntKind.wrap .i64 ((e137.2.1.len:Int)+(e159.2.1.len:Int)))+(e181.2.1.len:Int)):Int) (fun n186=>
 CondP (n186 !=(0:Int)) (
 J185 true h184) (
 ∃v187,aM h184 h138 0 v187∧
 ∃v188,ae h184 h138 1 v188∧
 ∃v189,ae h184 h138 2 v189∧
 ∃v190,ae h184 h138 3 v190∧
 ∃v191,au h184 h138 4 v191∧
 ∃v192,au h184 h138 5 v192∧
 ∃v193,aL h184 t117.2.2 0 (.int .i64 v193)∧
 ∃v194,aL h184 t117.2.2 1 (.int .u64 v194)∧
 ∃v195,aL h184 t117.2.2 2 (.int .u64 v195)∧
 ∃v196,aL h184 t117.2.2 3 (.int .u64 v196)∧
 ∃v197,aL h184 t117.2.2 4 (.pointer v197)∧
 ∃v198,aL h184 t117.2.2 5 (.pointer v198)∧
 HC PG na [kU v187 v188 v189 v190 v191 v192,kU v193 v194 v195 v196 v197 v198] [.c .bool] (fun(e199:Bool) h200=>
 CondP (!e199) (
 J185 true h200) (
 ∃v201,aM h200 h160 0 v201∧
 ∃v202,ae h200 h160 1 v202∧
 ∃v203,ae h200 h160 2 v203∧
 ∃v204,ae h200 h160 3 v204∧
 ∃v205,au h200 h160 4 v205∧
 ∃v206,au h200 h160 5 v206∧
 ∃v207,aL h200 t117.2.1 0 (.int .i64 v207)∧
 ∃v208,aL h200 t117.2.1 1 (.int .u64 v208)∧
 ∃v209,aL h200 t117.2.1 2 (.int .u64 v209)∧
 ∃v210,aL h200 t117.2.1 3 (.int .u64 v210)∧
 ∃v211,aL h200 t117.2.1 4 (.pointer v211)∧
 ∃v212,aL h200 t117.2.1 5 (.pointer v212)∧
 HC PG na [kU v201 v202 v203 v204 v205 v206,kU v207 v208 v209 v210 v211 v212] [.c .bool] (fun(e213:Bool) h214=>
 CondP (!e213) (
 J185 true h214) (
 ∃v215,aM h214 h182 0 v215∧
 ∃v216,ae h214 h182 1 v216∧
 ∃v217,ae h214 h182 2 v217∧
 ∃v218,ae h214 h182 3 v218∧
 ∃v219,au h214 h182 4 v219∧
 ∃v220,au h214 h182 5 v220∧
 ∃v221,aL h214 t117.2.1 0 (.int .i64 v221)∧
 ∃v222,aL h214 t117.2.1 1 (.int .u64 v222)∧
 ∃v223,aL h214 t117.2.1 2 (.int .u64 v223)∧
 ∃v224,aL h214 t117.2.1 3 (.int .u64 v224)∧
 ∃v225,aL h214 t117.2.1 4 (.pointer v225)∧
 ∃v226,aL h214 t117.2.1 5 (.pointer v226)∧
 HC PG na [kU v215 v216 v217 v218 v219 v220,kU v221 v222 v223 v224 v225 v226] [.c .bool] (fun(e227:Bool) h228=>
 J185 (!e227) h228) h214)) h200)) h184)))))))) h162)) h140)) h118) (fun J65=>
 (bZ 0 3∧
 ∃v66,cS h10 (adr (adr (aj h8) 0) ((0:Int).toNat*6)) 0 v66∧
 ∃v67,aG h10 (adr (adr (aj h8) 0) ((0:Int).toNat*6)) 1 v67∧
 ∃v68,aG h10 (adr (adr (aj h8) 0) ((0:Int).toNat*6)) 2 v68∧
 ∃v69,aG h10 (adr (adr (aj h8) 0) ((0:Int).toNat*6)) 3 v69∧
 ∃v70,bi h10 (adr (adr (aj h8) 0) ((0:Int).toNat*6)) 4 v70∧
 ∃v71,bi h10 (adr (adr (aj h8) 0) ((0:Int).toNat*6)) 5 v71∧
 (bZ 1 3∧
 ∃v72,cS h10 (adr (adr (aj h8) 0) ((1:Int).toNat*6)) 0 v72∧
 ∃v73,aG h10 (adr (adr (aj h8) 0) ((1:Int).toNat*6)) 1 v73∧
 ∃v74,aG h10 (adr (adr (aj h8) 0) ((1:Int).toNat*6)) 2 v74∧
 ∃v75,aG h10 (adr (adr (aj h8) 0) ((1:Int).toNat*6)) 3 v75∧
 ∃v76,bi h10 (adr (adr (aj h8) 0) ((1:Int).toNat*6)) 4 v76∧
 ∃v77,bi h10 (adr (adr (aj h8) 0) ((1:Int).toNat*6)) 5 v77∧
 (bZ (2:Int) 3∧
 ∃v78,cS h10 (adr (adr (aj h8) 0) ((2:Int).toNat*6)) 0 v78∧
 ∃v79,aG h10 (adr (adr (aj h8) 0) ((2:Int).toNat*6)) 1 v79∧
 ∃v80,aG h10 (adr (adr (aj h8) 0) ((2:Int).toNat*6)) 2 v80∧
 ∃v81,aG h10 (adr (adr (aj h8) 0) ((2:Int).toNat*6)) 3 v81∧
 ∃v82,bi h10 (adr (adr (aj h8) 0) ((2:Int).toNat*6)) 4 v82∧
 ∃v83,bi h10 (adr (adr (aj h8) 0) ((2:Int).toNat*6)) 5 v83∧
 ((At (hnew h10 qK aH) (fun h84=>
 ((cS h84 (adr (adr (aj h8) 0) ((2:Int).toNat*6)) 0 v78∧aG h84 (adr (adr (aj h8) 0) ((2:Int).toNat*6)) 1 v79∧aG h84 (adr (adr (aj h8) 0) ((2:Int).toNat*6)) 2 v80∧aG h84 (adr (adr (aj h8) 0) ((2:Int).toNat*6)) 3 v81∧bi h84 (adr (adr (aj h8) 0) ((2:Int).toNat*6)) 4 v82∧bi h84 (adr (adr (aj h8) 0) ((2:Int).toNat*6)) 5 v83)∧
 ((cS h84 (adr (adr (aj h8) 0) ((1:Int).toNat*6)) 0 v72∧aG h84 (adr (adr (aj h8) 0) ((1:Int).toNat*6)) 1 v73∧aG h84 (adr (adr (aj h8) 0) ((1:Int).toNat*6)) 2 v74∧aG h84 (adr (adr (aj h8) 0) ((1:Int).toNat*6)) 3 v75∧bi h84 (adr (adr (aj h8) 0) ((1:Int).toNat*6)) 4 v76∧bi h84 (adr (adr (aj h8) 0) ((1:Int).toNat*6)) 5 v77)∧
 ((cS h84 (adr (adr (aj h8) 0) ((0:Int).toNat*6)) 0 v66∧aG h84 (adr (adr (aj h8) 0) ((0:Int).toNat*6)) 1 v67∧aG h84 (adr (adr (aj h8) 0) ((0:Int).toNat*6)) 2 v68∧aG h84 (adr (adr (aj h8) 0) ((0:Int).toNat*6)) 3 v69∧bi h84 (adr (adr (aj h8) 0) ((0:Int).toNat*6)) 4 v70∧bi h84 (adr (adr (aj h8) 0) ((0:Int).toNat*6)) 5 v71)∧
 ((At (hnew h84 qK aH) (fun h85=>
 ((cS h85 (adr (adr (aj h8) 0) ((2:Int).toNat*6)) 0 v78∧aG h85 (adr (adr (aj h8) 0) ((2:Int).toNat*6)) 1 v79∧aG h85 (adr (adr (aj h8) 0) ((2:Int).toNat*6)) 2 v80∧aG h85 (adr (adr (aj h8) 0) ((2:Int).toNat*6)) 3 v81∧bi h85 (adr (adr (aj h8) 0) ((2:Int).toNat*6)) 4 v82∧bi h85 (adr (adr (aj h8) 0) ((2:Int).toNat*6)) 5 v83)∧
 ((cS h85 (adr (adr (aj h8) 0) ((1:Int).toNat*6)) 0 v72∧aG h85 (adr (adr (aj h8) 0) ((1:Int).toNat*6)) 1 v73∧aG h85 (adr (adr (aj h8) 0) ((1:Int).toNat*6)) 2 v74∧aG h85 (adr (adr (aj h8) 0) ((1:Int).toNat*6)) 3 v75∧bi h85 (adr (adr (aj h8) 0) ((1:Int).toNat*6)) 4 v76∧bi h85 (adr (adr (aj h8) 0) ((1:Int).toNat*6)) 5 v77)∧
 ((cS h85 (adr (adr (aj h8) 0) ((0:Int).toNat*6)) 0 v66∧aG h85 (adr (adr (aj h8) 0) ((0:Int).toNat*6)) 1 v67∧aG h85 (adr (adr (aj h8) 0) ((0:Int).toNat*6)) 2 v68∧aG h85 (adr (adr (aj h8) 0) ((0:Int).toNat*6)) 3 v69∧bi h85 (adr (adr (aj h8) 0) ((0:Int).toNat*6)) 4 v70∧bi h85 (adr (adr (aj h8) 0) ((0:Int).toNat*6)) 5 v71)∧
 At (hnew h85 qK aH) (fun h86=>
 ((cS h86 (adr (adr (aj h8) 0) ((2:Int).toNat*6)) 0 v78∧aG h86 (adr (adr (aj h8) 0) ((2:Int).toNat*6)) 1 v79∧aG h86 (adr (adr (aj h8) 0) ((2:Int).toNat*6)) 2 v80∧aG h86 (adr (adr (aj h8) 0) ((2:Int).toNat*6)) 3 v81∧bi h86 (adr (adr (aj h8) 0) ((2:Int).toNat*6)) 4 v82∧bi h86 (adr (adr (aj h8) 0) ((2:Int).toNat*6)) 5 v83)∧
 ((cS h86 (adr (adr (aj h8) 0) ((1:Int).toNat*6)) 0 v72∧aG h86 (adr (adr (aj h8) 0) ((1:Int).toNat*6)) 1 v73∧aG h86 (adr (adr (aj h8) 0) ((1:Int).toNat*6)) 2 v74∧aG h86 (adr (adr (aj h8) 0) ((1:Int).toNat*6)) 3 v75∧bi h86 (adr (adr (aj h8) 0) ((1:Int).toNat*6)) 4 v76∧bi h86 (adr (adr (aj h8) 0) ((1:Int).toNat*6)) 5 v77)∧
 ((cS h86 (adr (adr (aj h8) 0) ((0:Int).toNat*6)) 0 v66∧aG h86 (adr (adr (aj h8) 0) ((0:Int).toNat*6)) 1 v67∧aG h86 (adr (adr (aj h8) 0) ((0:Int).toNat*6)) 2 v68∧aG h86 (adr (adr (aj h8) 0) ((0:Int).toNat*6)) 3 v69∧bi h86 (adr (adr (aj h8) 0) ((0:Int).toNat*6)) 4 v70∧bi h86 (adr (adr (aj h8) 0) ((0:Int).toNat*6)) 5 v71)∧
 (cU h86 h10 (uc v66 v67 v68 v69 v70 v71) (fun h87=>
 ((cS h87 (adr (adr (aj h8) 0) ((2:Int).toNat*6)) 0 v78∧aG h87 (adr (adr (aj h8) 0) ((2:Int).toNat*6)) 1 v79∧aG h87 (adr (adr (aj h8) 0) ((2:Int).toNat*6)) 2 v80∧aG h87 (adr (adr (aj h8) 0) ((2:Int).toNat*6)) 3 v81∧bi h87 (adr (adr (aj h8) 0) ((2:Int).toNat*6)) 4 v82∧bi h87 (adr (adr (aj h8) 0) ((2:Int).toNat*6)) 5 v83)∧
 ((cS h87 (adr (adr (aj h8) 0) ((1:Int).toNat*6)) 0 v72∧aG h87 (adr (adr (aj h8) 0) ((1:Int).toNat*6)) 1 v73∧aG h87 (adr (adr (aj h8) 0) ((1:Int).toNat*6)) 2 v74∧aG h87 (adr (adr (aj h8) 0) ((1:Int).toNat*6)) 3 v75∧bi h87 (adr (adr (aj h8) 0) ((1:Int).toNat*6)) 4 v76∧bi h87 (adr (adr (aj h8) 0) ((1:Int).toNat*6)) 5 v77)∧
 (cU h87 h84 (uc v72 v73 v74 v75 v76 v77) (fun h88=>
 ((cS h88 (adr (adr (aj h8) 0) ((2:Int).toNat*6)) 0 v78∧aG h88 (adr (adr (aj h8) 0) ((2:Int).toNat*6)) 1 v79∧aG h88 (adr (adr (aj h8) 0) ((2:Int).toNat*6)) 2 v80∧aG h88 (adr (adr (aj h8) 0) ((2:Int).toNat*6)) 3 v81∧bi h88 (adr (adr (aj h8) 0) ((2:Int).toNat*6)) 4 v82∧bi h88 (adr (adr (aj h8) 0) ((2:Int).toNat*6)) 5 v83)∧
 (cU h88 h85 (uc v78 v79 v80 v81 v82 v83) (fun h89=>
 J65 (aj h10,aj h84,aj h85) h89))))))))))))))))))∧
 At (hnew h84 qK aH) (fun h90=>
 ((cS h90 (adr (adr (aj h8) 0) ((2:Int).toNat*6)) 0 v78∧aG h90 (adr (adr (aj h8) 0) ((2:Int).toNat*6)) 1 v79∧aG h90 (adr (adr (aj h8) 0) ((2:Int).toNat*6)) 2 v80∧aG h90 (adr (adr (aj h8) 0) ((2:Int).toNat*6)) 3 v81∧bi h90 (adr (adr (aj h8) 0) ((2:Int).toNat*6)) 4 v82∧bi h90 (adr (adr (aj h8) 0) ((2:Int).toNat*6)) 5 v83)∧
 ((cS h90 (adr (adr (aj h8) 0) ((1:Int).toNat*6)) 0 v72∧aG h90 (adr (adr (aj h8) 0) ((1:Int).toNat*6)) 1 v73∧aG h90 (adr (adr (aj h8) 0) ((1:Int).toNat*6)) 2 v74∧aG h90 (adr (adr (aj h8) 0) ((1:Int).toNat*6)) 3 v75∧bi h90 (adr (adr (aj h8) 0) ((1:Int).toNat*6)) 4 v76∧bi h90 (adr (adr (aj h8) 0) ((1:Int).toNat*6)) 5 v77)∧
 ((cS h90 (adr (adr (aj h8) 0) ((0:Int).toNat*6)) 0 v66∧aG h90 (adr (adr (aj h8) 0) ((0:Int).toNat*6)) 1 v67∧aG h90 (adr (adr (aj h8) 0) ((0:Int).toNat*6)) 2 v68∧aG h90 (adr (adr (aj h8) 0) ((0:Int).toNat*6)) 3 v69∧bi h90 (adr (adr (aj h8) 0) ((0:Int).toNat*6)) 4 v70∧bi h90 (adr (adr (aj h8) 0) ((0:Int).toNat*6)) 5 v71)∧
 At (hnew h90 qK aH) (fun h91=>
 ((cS h91 (adr (adr (aj h8) 0) ((2:Int).toNat*6)) 0 v78∧aG h91 (adr (adr (aj h8) 0) ((2:Int).toNat*6)) 1 v79∧aG h91 (adr (adr (aj h8) 0) ((2:Int).toNat*6)) 2 v80∧aG h91 (adr (adr (aj h8) 0) ((2:Int).toNat*6)) 3 v81∧bi h91 (adr (adr (aj h8) 0) ((2:Int).toNat*6)) 4 v82∧bi h91 (adr (adr (aj h8) 0) ((2:Int).toNat*6)) 5 v83)∧
 ((cS h91 (adr (adr (aj h8) 0) ((1:Int).toNat*6)) 0 v72∧aG h91 (adr (adr (aj h8) 0) ((1:Int).toNat*6)) 1 v73∧aG h91 (adr (adr (aj h8) 0) ((1:Int).toNat*6)) 2 v74∧aG h91 (adr (adr (aj h8) 0) ((1:Int).toNat*6)) 3 v75∧bi h91 (adr (adr (aj h8) 0) ((1:Int).toNat*6)) 4 v76∧bi h91 (adr (adr (aj h8) 0) ((1:Int).toNat*6)) 5 v77)∧
 ((cS h91 (adr (adr (aj h8) 0) ((0:Int).toNat*6)) 0 v66∧aG h91 (adr (adr (aj h8) 0) ((0:Int).toNat*6)) 1 v67∧aG h91 (adr (adr (aj h8) 0) ((0:Int).toNat*6)) 2 v68∧aG h91 (adr (adr (aj h8) 0) ((0:Int).toNat*6)) 3 v69∧bi h91 (adr (adr (aj h8) 0) ((0:Int).toNat*6)) 4 v70∧bi h91 (adr (adr (aj h8) 0) ((0:Int).toNat*6)) 5 v71)∧
 (cU h91 h10 (uc v66 v67 v68 v69 v70 v71) (fun h92=>
 ((cS h92 (adr (adr (aj h8) 0) ((2:Int).toNat*6)) 0 v78∧aG h92 (adr (adr (aj h8) 0) ((2:Int).toNat*6)) 1 v79∧aG h92 (adr (adr (aj h8) 0) ((2:Int).toNat*6)) 2 v80∧aG h92 (adr (adr (aj h8) 0) ((2:Int).toNat*6)) 3 v81∧bi h92 (adr (adr (aj h8) 0) ((2:Int).toNat*6)) 4 v82∧bi h92 (adr (adr (aj h8) 0) ((2:Int).toNat*6)) 5 v83)∧
 ((cS h92 (adr (adr (aj h8) 0) ((1:Int).toNat*6)) 0 v72∧aG h92 (adr (adr (aj h8) 0) ((1:Int).toNat*6)) 1 v73∧aG h92 (adr (adr (aj h8) 0) ((1:Int).toNat*6)) 2 v74∧aG h92 (adr (adr (aj h8) 0) ((1:Int).toNat*6)) 3 v75∧bi h92 (adr (adr (aj h8) 0) ((1:Int).toNat*6)) 4 v76∧bi h92 (adr (adr (aj h8) 0) ((1:Int).toNat*6)) 5 v77)∧
 (cU h92 h90 (uc v72 v73 v74 v75 v76 v77) (fun h93=>
 ((cS h93 (adr (adr (aj h8) 0) ((2:Int).toNat*6)) 0 v78∧aG h93 (adr (adr (aj h8) 0) ((2:Int).toNat*6)) 1 v79∧aG h93 (adr (adr (aj h8) 0) ((2:Int).toNat*6)) 2 v80∧aG h93 (adr (adr (aj h8) 0) ((2:Int).toNat*6)) 3 v81∧bi h93 (adr (adr (aj h8) 0) ((2:Int).toNat*6)) 4 v82∧bi h93 (adr (adr (aj h8) 0) ((2:Int).toNat*6)) 5 v83)∧
 (cU h93 h84 (uc v78 v79 v80 v81 v82 v83) (fun h94=>
 J65 (aj h10,aj h90,aj h84) h94)))))))))))))))))))))))∧
 ((At (hnew h10 qK aH) (fun h95=>
 ((cS h95 (adr (adr (aj h8) 0) ((2:Int).toNat*6)) 0 v78∧aG h95 (adr (adr (aj h8) 0) ((2:Int).toNat*6)) 1 v79∧aG h95 (adr (adr (aj h8) 0) ((2:Int).toNat*6)) 2 v80∧aG h95 (adr (adr (aj h8) 0) ((2:Int).toNat*6)) 3 v81∧bi h95 (adr (adr (aj h8) 0) ((2:Int).toNat*6)) 4 v82∧bi h95 (adr (adr (aj h8) 0) ((2:Int).toNat*6)) 5 v83)∧
 ((cS h95 (adr (adr (aj h8) 0) ((1:Int).toNat*6)) 0 v72∧aG h95 (adr (adr (aj h8) 0) ((1:Int).toNat*6)) 1 v73∧aG h95 (adr (adr (aj h8) 0) ((1:Int).toNat*6)) 2 v74∧aG h95 (adr (adr (aj h8) 0) ((1:Int).toNat*6)) 3 v75∧bi h95 (adr (adr (aj h8) 0) ((1:Int).toNat*6)) 4 v76∧bi h95 (adr (adr (aj h8) 0) ((1:Int).toNat*6)) 5 v77)∧
 ((cS h95 (adr (adr (aj h8) 0) ((0:Int).toNat*6)) 0 v66∧aG h95 (adr (adr (aj h8) 0) ((0:Int).toNat*6)) 1 v67∧aG h95 (adr (adr (aj h8) 0) ((0:Int).toNat*6)) 2 v68∧aG h95 (adr (adr (aj h8) 0) ((0:Int).toNat*6)) 3 v69∧bi h95 (adr (adr (aj h8) 0) ((0:Int).toNat*6)) 4 v70∧bi h95 (adr (adr (aj h8) 0) ((0:Int).toNat*6)) 5 v71)∧
 ((At (hnew h95 qK aH) (fun h96=>
 ((cS h96 (adr (adr (aj h8) 0) ((2:Int).toNat*6)) 0 v78∧aG h96 (adr (adr (aj h8) 0) ((2:Int).toNat*6)) 1 v79∧aG h96 (adr (adr (aj h8) 0) ((2:Int).toNat*6)) 2 v80∧aG h96 (adr (adr (aj h8) 0) ((2:Int).toNat*6)) 3 v81∧bi h96 (adr (adr (aj h8) 0) ((2:Int).toNat*6)) 4 v82∧bi h96 (adr (adr (aj h8) 0) ((2:Int).toNat*6)) 5 v83)∧
 ((cS h96 (adr (adr (aj h8) 0) ((1:Int).toNat*6)) 0 v72∧aG h96 (adr (adr (aj h8) 0) ((1:Int).toNat*6)) 1 v73∧aG h96 (adr (adr (aj h8) 0) ((1:Int).toNat*6)) 2 v74∧aG h96 (adr (adr (aj h8) 0) ((1:Int).toNat*6)) 3 v75∧bi h96 (adr (adr (aj h8) 0) ((1:Int).toNat*6)) 4 v76∧bi h96 (adr (adr (aj h8) 0) ((1:Int).toNat*6)) 5 v77)∧
 ((cS h96 (adr (adr (aj h8) 0) ((0:Int).toNat*6)) 0 v66∧aG h96 (adr (adr (aj h8) 0) ((0:Int).toNat*6)) 1 v67∧aG h96 (adr (adr (aj h8) 0) ((0:Int).toNat*6)) 2 v68∧aG h96 (adr (adr (aj h8) 0) ((0:Int).toNat*6)) 3 v69∧bi h96 (adr (adr (aj h8) 0) ((0:Int).toNat*6)) 4 v70∧bi h96 (adr (adr (aj h8) 0) ((0:Int).toNat*6)) 5 v71)∧
 At (hnew h96 qK aH) (fun h97=>
 ((cS h97 (adr (adr (aj h8) 0) ((2:Int).toNat*6)) 0 v78∧aG h97 (adr (adr (aj h8) 0) ((2:Int).toNat*6)) 1 v79∧aG h97 (adr (adr (aj h8) 0) ((2:Int).toNat*6)) 2 v80∧aG h97 (adr (adr (aj h8) 0) ((2:Int).toNat*6)) 3 v81∧bi h97 (adr (adr (aj h8) 0) ((2:Int).toNat*6)) 4 v82∧bi h97 (adr (adr (aj h8) 0) ((2:Int).toNat*6)) 5 v83)∧
 ((cS h97 (adr (adr (aj h8) 0) ((1:Int).toNat*6)) 0 v72∧aG h97 (adr (adr (aj h8) 0) ((1:Int).toNat*6)) 1 v73∧aG h97 (adr (adr (aj h8) 0) ((1:Int).toNat*6)) 2 v74∧aG h97 (adr (adr (aj h8) 0) ((1:Int).toNat*6)) 3 v75∧bi h97 (adr (adr (aj h8) 0) ((1:Int).toNat*6)) 4 v76∧bi h97 (adr (adr (aj h8) 0) ((1:Int).toNat*6)) 5 v77)∧
 ((cS h97 (adr (adr (aj h8) 0) ((0:Int).toNat*6)) 0 v66∧aG h97 (adr (adr (aj h8) 0) ((0:Int).toNat*6)) 1 v67∧aG h97 (adr (adr (aj h8) 0) ((0:Int).toNat*6)) 2 v68∧aG h97 (adr (adr (aj h8) 0) ((0:Int).toNat*6)) 3 v69∧bi h97 (adr (adr (aj h8) 0) ((0:Int).toNat*6)) 4 v70∧bi h97 (adr (adr (aj h8) 0) ((0:Int).toNat*6)) 5 v71)∧
 (cU h97 h95 (uc v66 v67 v68 v69 v70 v71) (fun h98=>
 ((cS h98 (adr (adr (aj h8) 0) ((2:Int).toNat*6)) 0 v78∧aG h98 (adr (adr (aj h8) 0) ((2:Int).toNat*6)) 1 v79∧aG h98 (adr (adr (aj h8) 0) ((2:Int).toNat*6)) 2 v80∧aG h98 (adr (adr (aj h8) 0) ((2:Int).toNat*6)) 3 v81∧bi h98 (adr (adr (aj h8) 0) ((2:Int).toNat*6)) 4 v82∧bi h98 (adr (adr (aj h8) 0) ((2:Int).toNat*6)) 5 v83)∧
 ((cS h98 (adr (adr (aj h8) 0) ((1:Int).toNat*6)) 0 v72∧aG h98 (adr (adr (aj h8) 0) ((1:Int).toNat*6)) 1 v73∧aG h98 (adr (adr (aj h8) 0) ((1:Int).toNat*6)) 2 v74∧aG h98 (adr (adr (aj h8) 0) ((1:Int).toNat*6)) 3 v75∧bi h98 (adr (adr (aj h8) 0) ((1:Int).toNat*6)) 4 v76∧bi h98 (adr (adr (aj h8) 0) ((1:Int).toNat*6)) 5 v77)∧
 (cU h98 h10 (uc v72 v73 v74 v75 v76 v77) (fun h99=>
 ((cS h99 (adr (adr (aj h8) 0) ((2:Int).toNat*6)) 0 v78∧aG h99 (adr (adr (aj h8) 0) ((2:Int).toNat*6)) 1 v79∧aG h99 (adr (adr (aj h8) 0) ((2:Int).toNat*6)) 2 v80∧aG h99 (adr (adr (aj h8) 0) ((2:Int).toNat*6)) 3 v81∧bi h99 (adr (adr (aj h8) 0) ((2:Int).toNat*6)) 4 v82∧bi h99 (adr (adr (aj h8) 0) ((2:Int).toNat*6)) 5 v83)∧
 (cU h99 h96 (uc v78 v79 v80 v81 v82 v83) (fun h100=>
 J65 (aj h95,aj h10,aj h96) h100))))))))))))))))))∧
 At (hnew h95 qK aH) (fun h101=>
 ((cS h101 (adr (adr (aj h8) 0) ((2:Int).toNat*6)) 0 v78∧aG h101 (adr (adr (aj h8) 0) ((2:Int).toNat*6)) 1 v79∧aG h101 (adr (adr (aj h8) 0) ((2:Int).toNat*6)) 2 v80∧aG h101 (adr (adr (aj h8) 0) ((2:Int).toNat*6)) 3 v81∧bi h101 (adr (adr (aj h8) 0) ((2:Int).toNat*6)) 4 v82∧bi h101 (adr (adr (aj h8) 0) ((2:Int).toNat*6)) 5 v83)∧
 ((cS h101 (adr (adr (aj h8) 0) ((1:Int).toNat*6)) 0 v72∧aG h101 (adr (adr (aj h8) 0) ((1:Int).toNat*6)) 1 v73∧aG h101 (adr (adr (aj h8) 0) ((1:Int).toNat*6)) 2 v74∧aG h101 (adr (adr (aj h8) 0) ((1:Int).toNat*6)) 3 v75∧bi h101 (adr (adr (aj h8) 0) ((1:Int).toNat*6)) 4 v76∧bi h101 (adr (adr (aj h8) 0) ((1:Int).toNat*6)) 5 v77)∧
 ((cS h101 (adr (adr (aj h8) 0) ((0:Int).toNat*6)) 0 v66∧aG h101 (adr (adr (aj h8) 0) ((0:Int).toNat*6)) 1 v67∧aG h101 (adr (adr (aj h8) 0) ((0:Int).toNat*6)) 2 v68∧aG h101 (adr (adr (aj h8) 0) ((0:Int).toNat*6)) 3 v69∧bi h101 (adr (adr (aj h8) 0) ((0:Int).toNat*6)) 4 v70∧bi h101 (adr (adr (aj h8) 0) ((0:Int).toNat*6)) 5 v71)∧
 At (hnew h101 qK aH) (fun h102=>
 ((cS h102 (adr (adr (aj h8) 0) ((2:Int).toNat*6)) 0 v78∧aG h102 (adr (adr (aj h8) 0) ((2:Int).toNat*6)) 1 v79∧aG h102 (adr (adr (aj h8) 0) ((2:Int).toNat*6)) 2 v80∧aG h102 (adr (adr (aj h8) 0) ((2:Int).toNat*6)) 3 v81∧bi h102 (adr (adr (aj h8) 0) ((2:Int).toNat*6)) 4 v82∧bi h102 (adr (adr (aj h8) 0) ((2:Int).toNat*6)) 5 v83)∧
 ((cS h102 (adr (adr (aj h8) 0) ((1:Int).toNat*6)) 0 v72∧aG h102 (adr (adr (aj h8) 0) ((1:Int).toNat*6)) 1 v73∧aG h102 (adr (adr (aj h8) 0) ((1:Int).toNat*6)) 2 v74∧aG h102 (adr (adr (aj h8) 0) ((1:Int).toNat*6)) 3 v75∧bi h102 (adr (adr (aj h8) 0) ((1:Int).toNat*6)) 4 v76∧bi h102 (adr (adr (aj h8) 0) ((1:Int).toNat*6)) 5 v77)∧
 ((cS h102 (adr (adr (aj h8) 0) ((0:Int).toNat*6)) 0 v66∧aG h102 (adr (adr (aj h8) 0) ((0:Int).toNat*6)) 1 v67∧aG h102 (adr (adr (aj h8) 0) ((0:Int).toNat*6)) 2 v68∧aG h102 (adr (adr (aj h8) 0) ((0:Int).toNat*6)) 3 v69∧bi h102 (adr (adr (aj h8) 0) ((0:Int).toNat*6)) 4 v70∧bi h102 (adr (adr (aj h8) 0) ((0:Int).toNat*6)) 5 v71)∧
 (cU h102 h101 (uc v66 v67 v68 v69 v70 v71) (fun h103=>
 ((cS h103 (adr (adr (aj h8) 0) ((2:Int).toNat*6)) 0 v78∧aG h103 (adr (adr (aj h8) 0) ((2:Int).toNat*6)) 1 v79∧aG h103 (adr (adr (aj h8) 0) ((2:Int).toNat*6)) 2 v80∧aG h103 (adr (adr (aj h8) 0) ((2:Int).toNat*6)) 3 v81∧bi h103 (adr (adr (aj h8) 0) ((2:Int).toNat*6)) 4 v82∧bi h103 (adr (adr (aj h8) 0) ((2:Int).toNat*6)) 5 v83)∧
 ((cS h103 (adr (adr (aj h8) 0) ((1:Int).toNat*6)) 0 v72∧aG h103 (adr (adr (aj h8) 0) ((1:Int).toNat*6)) 1 v73∧aG h103 (adr (adr (aj h8) 0) ((1:Int).toNat*6)) 2 v74∧aG h103 (adr (adr (aj h8) 0) ((1:Int).toNat*6)) 3 v75∧bi h103 (adr (adr (aj h8) 0) ((1:Int).toNat*6)) 4 v76∧bi h103 (adr (adr (aj h8) 0) ((1:Int).toNat*6)) 5 v77)∧
 (cU h103 h10 (uc v72 v73 v74 v75 v76 v77) (fun h104=>
 ((cS h104 (adr (adr (aj h8) 0) ((2:Int).toNat*6)) 0 v78∧aG h104 (adr (adr (aj h8) 0) ((2:Int).toNat*6)) 1 v79∧aG h104 (adr (adr (aj h8) 0) ((2:Int).toNat*6)) 2 v80∧aG h104 (adr (adr (aj h8) 0) ((2:Int).toNat*6)) 3 v81∧bi h104 (adr (adr (aj h8) 0) ((2:Int).toNat*6)) 4 v82∧bi h104 (adr (adr (aj h8) 0) ((2:Int).toNat*6)) 5 v83)∧
 (cU h104 h95 (uc v78 v79 v80 v81 v82 v83) (fun h105=>
 J65 (aj h101,aj h10,aj h95) h105)))))))))))))))))))))))∧
 At (hnew h10 qK aH) (fun h106=>
 ((cS h106 (adr (adr (aj h8) 0) ((2:Int).toNat*6)) 0 v78∧aG h106 (adr (adr (aj h8) 0) ((2:Int).toNat*6)) 1 v79∧aG h106 (adr (adr (aj h8) 0) ((2:Int).toNat*6)) 2 v80∧aG h106 (adr (adr (aj h8) 0) ((2:Int).toNat*6)) 3 v81∧bi h106 (adr (adr (aj h8) 0) ((2:Int).toNat*6)) 4 v82∧bi h106 (adr (adr (aj h8) 0) ((2:Int).toNat*6)) 5 v83)∧
 ((cS h106 (adr (adr (aj h8) 0) ((1:Int).toNat*6)) 0 v72∧aG h106 (adr (adr (aj h8) 0) ((1:Int).toNat*6)) 1 v73∧aG h106 (adr (adr (aj h8) 0) ((1:Int).toNat*6)) 2 v74∧aG h106 (adr (adr (aj h8) 0) ((1:Int).toNat*6)) 3 v75∧bi h106 (adr (adr (aj h8) 0) ((1:Int).toNat*6)) 4 v76∧bi h106 (adr (adr (aj h8) 0) ((1:Int).toNat*6)) 5 v77)∧
 ((cS h106 (adr (adr (aj h8) 0) ((0:Int).toNat*6)) 0 v66∧aG h106 (adr (adr (aj h8) 0) ((0:Int).toNat*6)) 1 v67∧aG h106 (adr (adr (aj h8) 0) ((0:Int).toNat*6)) 2 v68∧aG h106 (adr (adr (aj h8) 0) ((0:Int).toNat*6)) 3 v69∧bi h106 (adr (adr (aj h8) 0) ((0:Int).toNat*6)) 4 v70∧bi h106 (adr (adr (aj h8) 0) ((0:Int).toNat*6)) 5 v71)∧
 ((At (hnew h106 qK aH) (fun h107=>
 ((cS h107 (adr (adr (aj h8) 0) ((2:Int).toNat*6)) 0 v78∧aG h107 (adr (adr (aj h8) 0) ((2:Int).toNat*6)) 1 v79∧aG h107 (adr (adr (aj h8) 0) ((2:Int).toNat*6)) 2 v80∧aG h107 (adr (adr (aj h8) 0) ((2:Int).toNat*6)) 3 v81∧bi h107 (adr (adr (aj h8) 0) ((2:Int).toNat*6)) 4 v82∧bi h107 (adr (adr (aj h8) 0) ((2:Int).toNat*6)) 5 v83)∧
 ((cS h107 (adr (adr (aj h8) 0) ((1:Int).toNat*6)) 0 v72∧aG h107 (adr (adr (aj h8) 0) ((1:Int).toNat*6)) 1 v73∧aG h107 (adr (adr (aj h8) 0) ((1:Int).toNat*6)) 2 v74∧aG h107 (adr (adr (aj h8) 0) ((1:Int).toNat*6)) 3 v75∧bi h107 (adr (adr (aj h8) 0) ((1:Int).toNat*6)) 4 v76∧bi h107 (adr (adr (aj h8) 0) ((1:Int).toNat*6)) 5 v77)∧
 ((cS h107 (adr (adr (aj h8) 0) ((0:Int).toNat*6)) 0 v66∧aG h107 (adr (adr (aj h8) 0) ((0:Int).toNat*6)) 1 v67∧aG h107 (adr (adr (aj h8) 0) ((0:Int).toNat*6)) 2 v68∧aG h107 (adr (adr (aj h8) 0) ((0:Int).toNat*6)) 3 v69∧bi h107 (adr (adr (aj h8) 0) ((0:Int).toNat*6)) 4 v70∧bi h107 (adr (adr (aj h8) 0) ((0:Int).toNat*6)) 5 v71)∧
 At (hnew h107 qK aH) (fun h108=>
 ((cS h108 (adr (adr (aj h8) 0) ((2:Int).toNat*6)) 0 v78∧aG h108 (adr (adr (aj h8) 0) ((2:Int).toNat*6)) 1 v79∧aG h108 (adr (adr (aj h8) 0) ((2:Int).toNat*6)) 2 v80∧aG h108 (adr (adr (aj h8) 0) ((2:Int).toNat*6)) 3 v81∧bi h108 (adr (adr (aj h8) 0) ((2:Int).toNat*6)) 4 v82∧bi h108 (adr (adr (aj h8) 0) ((2:Int).toNat*6)) 5 v83)∧
 ((cS h108 (adr (adr (aj h8) 0) ((1:Int).toNat*6)) 0 v72∧aG h108 (adr (adr (aj h8) 0) ((1:Int).toNat*6)) 1 v73∧aG h108 (adr (adr (aj h8) 0) ((1:Int).toNat*6)) 2 v74∧aG h108 (adr (adr (aj h8) 0) ((1:Int).toNat*6)) 3 v75∧bi h108 (adr (adr (aj h8) 0) ((1:Int).toNat*6)) 4 v76∧bi h108 (adr (adr (aj h8) 0) ((1:Int).toNat*6)) 5 v77)∧
 ((cS h108 (adr (adr (aj h8) 0) ((0:Int).toNat*6)) 0 v66∧aG h108 (adr (adr (aj h8) 0) ((0:Int).toNat*6)) 1 v67∧aG h108 (adr (adr (aj h8) 0) ((0:Int).toNat*6)) 2 v68∧aG h108 (adr (adr (aj h8) 0) ((0:Int).toNat*6)) 3 v69∧bi h108 (adr (adr (aj h8) 0) ((0:Int).toNat*6)) 4 v70∧bi h108 (adr (adr (aj h8) 0) ((0:Int).toNat*6)) 5 v71)∧
 (cU h108 h106 (uc v66 v67 v68 v69 v70 v71) (fun h109=>
 ((cS h109 (adr (adr (aj h8) 0) ((2:Int).toNat*6)) 0 v78∧aG h109 (adr (adr (aj h8) 0) ((2:Int).toNat*6)) 1 v79∧aG h109 (adr (adr (aj h8) 0) ((2:Int).toNat*6)) 2 v80∧aG h109 (adr (adr (aj h8) 0) ((2:Int).toNat*6)) 3 v81∧bi h109 (adr (adr (aj h8) 0) ((2:Int).toNat*6)) 4 v82∧bi h109 (adr (adr (aj h8) 0) ((2:Int).toNat*6)) 5 v83)∧
 ((cS h109 (adr (adr (aj h8) 0) ((1:Int).toNat*6)) 0 v72∧aG h109 (adr (adr (aj h8) 0) ((1:Int).toNat*6)) 1 v73∧aG h109 (adr (adr (aj h8) 0) ((1:Int).toNat*6)) 2 v74∧aG h109 (adr (adr (aj h8) 0) ((1:Int).toNat*6)) 3 v75∧bi h109 (adr (adr (aj h8) 0) ((1:Int).toNat*6)) 4 v76∧bi h109 (adr (adr (aj h8) 0) ((1:Int).toNat*6)) 5 v77)∧
 (cU h109 h107 (uc v72 v73 v74 v75 v76 v77) (fun h110=>
 ((cS h110 (adr (adr (aj h8) 0) ((2:Int).toNat*6)) 0 v78∧aG h110 (adr (adr (aj h8) 0) ((2:Int).toNat*6)) 1 v79∧aG h110 (adr (adr (aj h8) 0) ((2:Int).toNat*6)) 2 v80∧aG h110 (adr (adr (aj h8) 0) ((2:Int).toNat*6)) 3 v81∧bi h110 (adr (adr (aj h8) 0) ((2:Int).toNat*6)) 4 v82∧bi h110 (adr (adr (aj h8) 0) ((2:Int).toNat*6)) 5 v83)∧
 (cU h110 h10 (uc v78 v79 v80 v81 v82 v83) (fun h111=>
 J65 (aj h106,aj h107,aj h10) h111))))))))))))))))))∧
 At (hnew h106 qK aH) (fun h112=>
 ((cS h112 (adr (adr (aj h8) 0) ((2:Int).toNat*6)) 0 v78∧aG h112 (adr (adr (aj h8) 0) ((2:Int).toNat*6)) 1 v79∧aG h112 (adr (adr (aj h8) 0) ((2:Int).toNat*6)) 2 v80∧aG h112 (adr (adr (aj h8) 0) ((2:Int).toNat*6)) 3 v81∧bi h112 (adr (adr (aj h8) 0) ((2:Int).toNat*6)) 4 v82∧bi h112 (adr (adr (aj h8) 0) ((2:Int).toNat*6)) 5 v83)∧
 ((cS h112 (adr (adr (aj h8) 0) ((1:Int).toNat*6)) 0 v72∧aG h112 (adr (adr (aj h8) 0) ((1:Int).toNat*6)) 1 v73∧aG h112 (adr (adr (aj h8) 0) ((1:Int).toNat*6)) 2 v74∧aG h112 (adr (adr (aj h8) 0) ((1:Int).toNat*6)) 3 v75∧bi h112 (adr (adr (aj h8) 0) ((1:Int).toNat*6)) 4 v76∧bi h112 (adr (adr (aj h8) 0) ((1:Int).toNat*6)) 5 v77)∧
 ((cS h112 (adr (adr (aj h8) 0) ((0:Int).toNat*6)) 0 v66∧aG h112 (adr (adr (aj h8) 0) ((0:Int).toNat*6)) 1 v67∧aG h112 (adr (adr (aj h8) 0) ((0:Int).toNat*6)) 2 v68∧aG h112 (adr (adr (aj h8) 0) ((0:Int).toNat*6)) 3 v69∧bi h112 (adr (adr (aj h8) 0) ((0:Int).toNat*6)) 4 v70∧bi h112 (adr (adr (aj h8) 0) ((0:Int).toNat*6)) 5 v71)∧
 At (hnew h112 qK aH) (fun h113=>
 ((cS h113 (adr (adr (aj h8) 0) ((2:Int).toNat*6)) 0 v78∧aG h113 (adr (adr (aj h8) 0) ((2:Int).toNat*6)) 1 v79∧aG h113 (adr (adr (aj h8) 0) ((2:Int).toNat*6)) 2 v80∧aG h113 (adr (adr (aj h8) 0) ((2:Int).toNat*6)) 3 v81∧bi h113 (adr (adr (aj h8) 0) ((2:Int).toNat*6)) 4 v82∧bi h113 (adr (adr (aj h8) 0) ((2:Int).toNat*6)) 5 v83)∧
 ((cS h113 (adr (adr (aj h8) 0) ((1:Int).toNat*6)) 0 v72∧aG h113 (adr (adr (aj h8) 0) ((1:Int).toNat*6)) 1 v73∧aG h113 (adr (adr (aj h8) 0) ((1:Int).toNat*6)) 2 v74∧aG h113 (adr (adr (aj h8) 0) ((1:Int).toNat*6)) 3 v75∧bi h113 (adr (adr (aj h8) 0) ((1:Int).toNat*6)) 4 v76∧bi h113 (adr (adr (aj h8) 0) ((1:Int).toNat*6)) 5 v77)∧
 ((cS h113 (adr (adr (aj h8) 0) ((0:Int).toNat*6)) 0 v66∧aG h113 (adr (adr (aj h8) 0) ((0:Int).toNat*6)) 1 v67∧aG h113 (adr (adr (aj h8) 0) ((0:Int).toNat*6)) 2 v68∧aG h113 (adr (adr (aj h8) 0) ((0:Int).toNat*6)) 3 v69∧bi h113 (adr (adr (aj h8) 0) ((0:Int).toNat*6)) 4 v70∧bi h113 (adr (adr (aj h8) 0) ((0:Int).toNat*6)) 5 v71)∧
 (cU h113 h112 (uc v66 v67 v68 v69 v70 v71) (fun h114=>
 ((cS h114 (adr (adr (aj h8) 0) ((2:Int).toNat*6)) 0 v78∧aG h114 (adr (adr (aj h8) 0) ((2:Int).toNat*6)) 1 v79∧aG h114 (adr (adr (aj h8) 0) ((2:Int).toNat*6)) 2 v80∧aG h114 (adr (adr (aj h8) 0) ((2:Int).toNat*6)) 3 v81∧bi h114 (adr (adr (aj h8) 0) ((2:Int).toNat*6)) 4 v82∧bi h114 (adr (adr (aj h8) 0) ((2:Int).toNat*6)) 5 v83)∧
 ((cS h114 (adr (adr (aj h8) 0) ((1:Int).toNat*6)) 0 v72∧aG h114 (adr (adr (aj h8) 0) ((1:Int).toNat*6)) 1 v73∧aG h114 (adr (adr (aj h8) 0) ((1:Int).toNat*6)) 2 v74∧aG h114 (adr (adr (aj h8) 0) ((1:Int).toNat*6)) 3 v75∧bi h114 (adr (adr (aj h8) 0) ((1:Int).toNat*6)) 4 v76∧bi h114 (adr (adr (aj h8) 0) ((1:Int).toNat*6)) 5 v77)∧
 (cU h114 h106 (uc v72 v73 v74 v75 v76 v77) (fun h115=>
 ((cS h115 (adr (adr (aj h8) 0) ((2:Int).toNat*6)) 0 v78∧aG h115 (adr (adr (aj h8) 0) ((2:Int).toNat*6)) 1 v79∧aG h115 (adr (adr (aj h8) 0) ((2:Int).toNat*6)) 2 v80∧aG h115 (adr (adr (aj h8) 0) ((2:Int).toNat*6)) 3 v81∧bi h115 (adr (adr (aj h8) 0) ((2:Int).toNat*6)) 4 v82∧bi h115 (adr (adr (aj h8) 0) ((2:Int).toNat*6)) 5 v83)∧
 (cU h115 h10 (uc v78 v79 v80 v81 v82 v83) (fun h116=>
 J65 (aj h112,aj h106,aj h10) h116)))))))))))))))))))))))))))))))) h3)) h1)
noncomputable def CR:Ann:=.node .nil (.node .nil (.node .nil (.join [(18,.c .adr),(19,.c .adr),(20,.c .adr)] .nil (.node .nil (.node .nil (.node .nil (.node (.join [(125,.c .bool)] .nil .nil) (.node .nil (.node .nil (.node .nil (.node .nil (.node (.join [(174,.c .bool)] .nil .nil) (.node (.node .nil (.loop [(177,.c (.int .i64))] (.node .nil (.node .nil (.node (.node .nil (.join [(259,.c .bool)] .nil .nil)) .nil))))) .nil)))))))))))))
theorem CM(x0:Int)(x1:Int×Int×Int)(x2:SliceV)(x3:SliceV)(x4:SliceV)(x5:SliceV)(x6:SliceV)(x7:Bool){K:cN [.c .bool]→ad→Prop}{h0:ad}(h:vW x0 x1 x2 x3 x4 x5 x6 x7 K h0):HC PG vz [.int .u8 x0,MQ x1,.slice x2.a x2.len x2.cap,.slice x3.a x3.len x3.cap,.slice x4.a x4.len x4.cap,.slice x5.a x5.len x5.cap,.slice x6.a x6.len x6.cap,.bool x7] [.c .bool] K h0:=dB CR Tryz.func5 Tryz.call5 rfl rfl (by kernel_rfl) h
def Ic(x0:T6)(x1:T6)(K:(SliceV×Int)→ad→Prop)(h0:ad):Prop:=
 At (hnew h0 (mK x0) aH) (fun h1=>
 At (hnew h1 (mK x1) aH) (fun h2=>
 ∃v3,aM h2 h0 0 v3∧
 ∃v4,ae h2 h0 1 v4∧
 ∃v5,ae h2 h0 2 v5∧
 ∃v6,ae h2 h0 3 v6∧
 ∃v7,au h2 h0 4 v7∧
 ∃v8,au h2 h0 5 v8∧
 ∃v9,aM h2 h1 0 v9∧
 ∃v10,ae h2 h1 1 v10∧
 ∃v11,ae h2 h1 2 v11∧
 ∃v12,ae h2 h1 3 v12∧
 ∃v13,au h2 h1 4 v13∧
 ∃v14,au h2 h1 5 v14∧
 HC PG pM [kU v3 v4 v5 v6 v7 v8,kU v9 v10 v11 v12 v13 v14] [.c .bool] (fun(e15:Bool) h16=>
 CondP (!e15) (
 K (⟨none,0,0⟩,11) h16) (
 ∃v17,aM h16 h0 0 v17∧
 ∃v18,ae h16 h0 1 v18∧
 ∃v19,ae h16 h0 2 v19∧
 ∃v20,ae h16 h0 3 v20∧
 ∃v21,au h16 h0 4 v21∧
 ∃v22,au h16 h0 5 v22∧
 HC PG pn [kU v17 v18 v19 v20 v21 v22] KY (fun(e23:Int×Int×Int) h24=>
 At (hnew h24 [.int .u64 e23.1,.int .u64 e23.2.1,.int .u64 e23.2.2,.slice none 0 0] zr) (fun h25=>
 Join (fun(t71:Unit) h72=>
 ∃a73,some (aj h24)=some a73∧
 ∃v74:SliceV,bW h72 a73 3 v74∧
 HC PG cz [.slice v74.a v74.len v74.cap,.func (.func nh) #[] #[]] [] (fun(e75:Unit) h76=>
 ∃a77,some (aj h24)=some a77∧
 ∃v78:SliceV,bW h76 a77 3 v78∧
 K (v78,0) h76) h72) (fun J26=>
 ∃v27,aM h25 h0 0 v27∧
 ∃v28,ae h25 h0 1 v28∧
 ∃v29,ae h25 h0 2 v29∧
 ∃v30,ae h25 h0 3 v30∧
 ∃v31,au h25 h0 4 v31∧
 ∃v32,au h25 h0 5 v32∧
 HC PG rc [kU v27 v28 v29 v30 v31 v32] bT (fun(e33:Int) h34=>
 CondP (e33==(1:Int)) (
 ∃v35,aM h34 h0 0 v35∧
 ∃v36,ae h34 h0 1 v36∧
 ∃v37,ae h34 h0 2 v37∧
 ∃v38,ae h34 h0 3 v38∧
 ∃v39,au h34 h0 4 v39∧
 ∃v40,au h34 h0 5 v40∧
 ∃v41,aM h34 h1 0 v41∧
 ∃v42,ae h34 h1 1 v42∧
 ∃v43,ae h34 h1 2 v43∧
 ∃v44,ae h34 h1 3 v44∧
 ∃v45,au h34 h1 4 v45∧
 ∃v46,au h34 h1 5 v46∧
 HC PG mq [kU v35 v36 v37 v38 v39 v40] [.c .ptr] (fun(e47:Option Addr) h48=>
 ((aM h48 h1 0 v41∧ae h48 h1 1 v42∧ae h48 h1 2 v43∧ae h48 h1 3 v44∧au h48 h1 4 v45∧au h48 h1 5 v46)∧
 HC PG mq [kU v41 v42 v43 v44 v45 v46] [.c .ptr] (fun(e49:Option Addr) h50=>
 HC PG il (TR (some (aj h24)) e47 e49 (⟨#[]⟩:ByteArray)) [] (fun(e51:Unit) h52=>
 J26 () h52) h50) h48)) h34) (
 ∃v53,aM h34 h0 0 v53∧
 ∃v54,ae h34 h0 1 v54∧
 ∃v55,ae h34 h0 2 v55∧
 ∃v56,ae h34 h0 3 v56∧
 ∃v57,au h34 h0 4 v57∧
 ∃v58,au h34 h0 5 v58∧
 ∃v59,aM h34 h1 0 v59∧
 ∃v60,ae h34 h1 1 v60∧
 ∃v61,ae h34 h1 2 v61∧
 ∃v62,ae h34 h1 3 v62∧
 ∃v63,au h34 h1 4 v63∧
 ∃v64,au h34 h1 5 v64∧
 HC PG jO [kU v53 v54 v55 v56 v57 v58] [.c .ptr] (fun(e65:Option Addr) h66=>
 ((aM h66 h1 0 v59∧ae h66 h1 1 v60∧ae h66 h1 2 v61∧ae h66 h1 3 v62∧au h66 h1 4 v63∧au h66 h1 5 v64)∧
 HC PG jO [kU v59 v60 v61 v62 v63 v64] [.c .ptr] (fun(e67:Option Addr) h68=>
 HC PG nJ (UY (some (aj h24)) e65 e67) [] (fun(e69:Unit) h70=>
 J26 () h70) h68) h66)) h34)) h25))) h16)) h2))
noncomputable def Qp:Ann:=.node .nil (.node .nil (.node .nil (.join [] .nil .nil)))
theorem Ql(x0:T6)(x1:T6){K:cN Tx→ad→Prop}{h0:ad}(h:Ic x0 x1 K h0):HC PG sZ [Gs x0,Gs x1] Tx K h0:=dB Qp Tryz.func10 Tryz.call10 rfl rfl (by kernel_rfl) h
def DF(x0:T6)(x1:T6)(K:(Bool)→ad→Prop)(h0:ad):Prop:=
 At (hnew h0 (mK x0) aH) (fun h1=>
 At (hnew h1 (mK x1) aH) (fun h2=>
 ∃v3,aM h2 h0 0 v3∧
 ∃v4,ae h2 h0 1 v4∧
 ∃v5,ae h2 h0 2 v5∧
 ∃v6,ae h2 h0 3 v6∧
 ∃v7,au h2 h0 4 v7∧
 ∃v8,au h2 h0 5 v8∧
 ∃v9,aM h2 h1 0 v9∧
 ∃v10,ae h2 h1 1 v10∧
 ∃v11,ae h2 h1 2 v11∧
 ∃v12,ae h2 h1 3 v12∧
 ∃v13,au h2 h1 4 v13∧
 ∃v14,au h2 h1 5 v14∧
 HC PG pM [kU v3 v4 v5 v6 v7 v8,kU v9 v10 v11 v12 v13 v14] [.c .bool] (fun(e15:Bool) h16=>
 CondP e15 (
 ∃v17,aM h16 h0 0 v17∧
 ∃v18,ae h16 h0 1 v18∧
 ∃v19,ae h16 h0 2 v19∧
 ∃v20,ae h16 h0 3 v20∧
 ∃v21,au h16 h0 4 v21∧
 ∃v22,au h16 h0 5 v22∧
 ∃v23,aM h16 h1 0 v23∧
 ∃v24,ae h16 h1 1 v24∧
 ∃v25,ae h16 h1 2 v25∧
 ∃v26,ae h16 h1 3 v26∧
 ∃v27,au h16 h1 4 v27∧
 ∃v28,au h16 h1 5 v28∧
 HC PG mp [kU v17 v18 v19 v20 v21 v22] [.c .slice] (fun(e29:SliceV) h30=>
 ((aM h30 h1 0 v23∧ae h30 h1 1 v24∧ae h30 h1 2 v25∧ae h30 h1 3 v26∧au h30 h1 4 v27∧au h30 h1 5 v28)∧
 HC PG mp [kU v23 v24 v25 v26 v27 v28] [.c .slice] (fun(e31:SliceV) h32=>
 HC PG u4 (QF e29 e31) [.c .bool] (fun(e33:Bool) h34=>
 K e33 h34) h32) h30)) h16) (
 K false h16)) h2))
theorem LA(x0:T6)(x1:T6){K:cN [.c .bool]→ad→Prop}{h0:ad}(h:DF x0 x1 K h0):HC PG na [Gs x0,Gs x1] [.c .bool] K h0:=dB .nil Tryz.func18 Tryz.call18 rfl rfl (by kernel_rfl) h
def xi(x0:T6)(x1:ByteArray)(K:(ByteArray×Bool)→ad→Prop)(h0:ad):Prop:=
 At (hnew h0 (mK x0) aH) (fun h1=>
 ∃v2,aM h1 h0 0 v2∧
 CondP (v2==(1:Int)) (
 ∃v3,au h1 h0 5 v3∧
 HC PG xT (xx v3 x1) lj (fun(e4:ByteArray×Bool) h5=>
 K (e4.1,e4.2) h5) h1) (
 ∃v6,aG h1 (adr (aj h0) 1) 0 v6∧
 ∃v7,aG h1 (adr (aj h0) 1) 1 v7∧
 ∃v8,aG h1 (adr (aj h0) 1) 2 v8∧
 ∃v9,au h1 h0 4 v9∧
 HC PG xZ [zl v6 v7 v8,.pointer v9,.string x1] lj (fun(e10:ByteArray×Bool) h11=>
 K (e10.1,e10.2) h11) h1))
theorem D6(x0:T6)(x1:ByteArray){K:cN lj→ad→Prop}{h0:ad}(h:xi x0 x1 K h0):HC PG sr [Gs x0,.string x1] lj K h0:=dB .nil Tryz.func19 Tryz.call19 rfl rfl (by kernel_rfl) h
def DR(K:(Bool)→ad→Prop)(h0:ad):Prop:=
 At (hnew h0 (jG (⟨#[97]⟩:ByteArray) (⟨#[49]⟩:ByteArray)) af) (fun h1=>
 HC PG qn [.int .i64 0,VJ,.slice (some (aj h0)) 1 1] tw (fun(e2:(T6)×Int) h3=>
 nv h3 qK aH (mK e2.1) (fun h5=>
 At (hnew h5 (jG (⟨#[97]⟩:ByteArray) (⟨#[50]⟩:ByteArray)) af) (fun h6=>
 HC PG qn [.int .i64 0,VJ,.slice (some (aj h5)) 1 1] tw (fun(e7:(T6)×Int) h8=>
 nv h8 qK aH (mK e7.1) (fun h10=>
 At (hnew h10 (vl8 (⟨#[97]⟩:ByteArray) (⟨#[49]⟩:ByteArray) (⟨#[98]⟩:ByteArray) (⟨#[51]⟩:ByteArray)) af) (fun h11=>
 HC PG qn [.int .i64 0,VJ,.slice (some (aj h10)) 2 2] tw (fun(e12:(T6)×Int) h13=>
 nv h13 qK aH (mK e12.1) (fun h15=>
 ∃v16,aM h15 h3 0 v16∧
 ∃v17,ae h15 h3 1 v17∧
 ∃v18,ae h15 h3 2 v18∧
 ∃v19,ae h15 h3 3 v19∧
 ∃v20,au h15 h3 4 v20∧
 ∃v21,au h15 h3 5 v21∧
 ∃v22,aM h15 h8 0 v22∧
 ∃v23,ae h15 h8 1 v23∧
 ∃v24,ae h15 h8 2 v24∧
 ∃v25,ae h15 h8 3 v25∧
 ∃v26,au h15 h8 4 v26∧
 ∃v27,au h15 h8 5 v27∧
 ∃v28,aM h15 h13 0 v28∧
 ∃v29,ae h15 h13 1 v29∧
 ∃v30,ae h15 h13 2 v30∧
 ∃v31,ae h15 h13 3 v31∧
 ∃v32,au h15 h13 4 v32∧
 ∃v33,au h15 h13 5 v33∧
 HC PG ju [kU v16 v17 v18 v19 v20 v21,kU v22 v23 v24 v25 v26 v27,kU v28 v29 v30 v31 v32 v33,.int .i64 0] D0 (fun(e34:(T6)×SliceV×Int) h35=>
 nv h35 qK aH (mK e34.1) (fun h37=>
 ∃v38,aM h37 h35 0 v38∧
 ∃v39,ae h37 h35 1 v39∧
 ∃v40,ae h37 h35 2 v40∧
 ∃v41,ae h37 h35 3 v41∧
 ∃v42,au h37 h35 4 v42∧
 ∃v43,au h37 h35 5 v43∧
 HC PG qb [kU v38 v39 v40 v41 v42 v43] [.c .slice] (fun(e44:SliceV) h45=>
 CondP (e34.2.2==(0:Int)) (
 CondP ((e34.2.1.len:Int)==(0:Int)) (
 CondP ((e44.len:Int)==(2:Int)) (
 (bZ 0 e44.len∧∃a46,e44.a=some a46∧
 ∃v47,ay h45 (adr a46 ((0:Int).toNat*2)) 1 v47∧
 CondP (v47.toList==(⟨#[50]⟩:ByteArray).toList) (
 (bZ 1 e44.len∧∃a48,e44.a=some a48∧
 ∃v49,ay h45 (adr a48 ((1:Int).toNat*2)) 1 v49∧
 K (v49.toList==(⟨#[51]⟩:ByteArray).toList) h45)) (
 K false h45))) (
 K false h45)) (
 K false h45)) (
 K false h45)) h37)) h15)) h11))) h6))) h1)
theorem LL{K:cN [.c .bool]→ad→Prop}{h0:ad}(h:DR K h0):HC PG xX [] [.c .bool] K h0:=dB .nil Tryz.func20 Tryz.call20 rfl rfl (by kernel_rfl) h
def Gd(x0:Int)(x1:Int×Int×Int)(x2:SliceV)(x3:SliceV)(x4:SliceV)(x5:SliceV)(x6:SliceV)(x7:Bool)(K:(Int×Int×Int×Int×(Option Addr)×(Option Addr)×Int×Int×Int×Int×(Option Addr)×(Option Addr)×Int×Int×Int×Int×(Option Addr)×(Option Addr)×Int×Int×Int×Int×SliceV×Int×Int×Int×Int×SliceV×T5)→ad→Prop)(h0:ad):Prop:=
 At (hnew h0 (Dl x1) cy) (fun h1=>
 At (hnew h1 ((.int .i64 0)::(.int .u64 0)::(.int .u64 0)::(.int .u64 0)::(.pointer none)::(.pointer none)::(.int .i64 0)::(.int .u64 0)::(.int .u64 0)::(.int .u64 0)::(.pointer none)::(.pointer none)::(.int .i64 0)::(.int .u64 0)::(.int .u64 0)::(.int .u64 0)::(.pointer none)::(.pointer none)::(.int .i64 0)::(.int .u64 0)::(.int .u64 0)::(.int .u64 0)::(.slice none 0 0)::(.int .i64 0)::(.int .u64 0)::(.int .u64 0)::(.int .u64 0)::(.slice none 0 0)::(.int .i64 0)::(.int .u64 0)::(.int .u64 0)::(.int .u64 0)::(.slice none 0 0):: []) rH) (fun h2=>
 At (hnew h2 ((.int .i64 0)::(.int .u64 0)::(.int .u64 0)::(.int .u64 0)::(.pointer none)::(.pointer none)::(.int .i64 0)::(.int .u64 0)::(.int .u64 0)::(.int .u64 0)::(.pointer none)::(.pointer none)::(.int .i64 0)::(.int .u64 0)::(.int .u64 0)::(.int .u64 0)::(.pointer none)::(.pointer none)::(.int .i64 0)::(.int .u64 0)::(.int .u64 0)::(.int .u64 0)::(.slice none 0 0)::(.int .i64 0)::(.int .u64 0)::(.int .u64 0)::(.int .u64 0)::(.slice none 0 0)::(.int .i64 0)::(.int .u64 0)::(.int .u64 0)::(.int .u64 0)::(.slice none 0 0):: []) rH) (fun h3=>
 ∃v4,ae h3 h0 0 v4∧
 ∃v5,ae h3 h0 1 v5∧
 ∃v6,ae h3 h0 2 v6∧
 HC PG xW [.int .u8 x0,zl v4 v5 v6] Fm (fun(e7:(T6)×(T5)) h8=>
 At (hnew h8 qK aH) (fun h9=>
 At (hnew h9 N7 fz) (fun h10=>
 (cU h10 h8 (mK e7.1) (fun h11=>
 (cU h11 h9 (Ky e7.2) (fun h12=>
 ∃v13,aM h12 h8 0 v13∧
 ∃v14,ae h12 h8 1 v14∧
 ∃v15,ae h12 h8 2 v15∧
 ∃v16,ae h12 h8 3 v16∧
 ∃v17,au h12 h8 4 v17∧
 ∃v18,au h12 h8 5 v18∧
 ∃v19,aM h12 h9 0 v19∧
 ∃v20,ae h12 h9 1 v20∧
 ∃v21,ae h12 h9 2 v21∧
 ∃v22,ae h12 h9 3 v22∧
 ∃v23:SliceV,c7 h12 h9 4 v23∧
 HC PG ng [kU v13 v14 v15 v16 v17 v18,SK v19 v20 v21 v22 v23,.slice x2.a x2.len x2.cap,.slice none 0 0] Fm (fun(e24:(T6)×(T5)) h25=>
 (bZ 0 3∧
 (ft h25 (adr (adr (aj h2) 0) ((0:Int).toNat*6)) (mK e24.1) (fun h26=>
 (bZ 0 3∧
 (ft h26 (adr (adr (aj h2) 18) ((0:Int).toNat*5)) (Ky e24.2) (fun h27=>
 CondP x7 (
 ∃v28,aM h27 h8 0 v28∧
 ∃v29,ae h27 h8 1 v29∧
 ∃v30,ae h27 h8 2 v30∧
 ∃v31,ae h27 h8 3 v31∧
 ∃v32,au h27 h8 4 v32∧
 ∃v33,au h27 h8 5 v33∧
 ∃v34,aM h27 h9 0 v34∧
 ∃v35,ae h27 h9 1 v35∧
 ∃v36,ae h27 h9 2 v36∧
 ∃v37,ae h27 h9 3 v37∧
 ∃v38:SliceV,c7 h27 h9 4 v38∧
 HC PG ng [kU v28 v29 v30 v31 v32 v33,SK v34 v35 v36 v37 v38,.slice x3.a x3.len x3.cap,.slice x5.a x5.len x5.cap] Fm (fun(e39:(T6)×(T5)) h40=>
 (bZ 1 3∧
 (ft h40 (adr (adr (aj h2) 0) ((1:Int).toNat*6)) (mK e39.1) (fun h41=>
 (bZ 1 3∧
 (ft h41 (adr (adr (aj h2) 18) ((1:Int).toNat*5)) (Ky e39.2) (fun h42=>
 ∃v43,aM h42 h8 0 v43∧
 ∃v44,ae h42 h8 1 v44∧
 ∃v45,ae h42 h8 2 v45∧
 ∃v46,ae h42 h8 3 v46∧
 ∃v47,au h42 h8 4 v47∧
 ∃v48,au h42 h8 5 v48∧
 ∃v49,aM h42 h9 0 v49∧
 ∃v50,ae h42 h9 1 v50∧
 ∃v51,ae h42 h9 2 v51∧
 ∃v52,ae h42 h9 3 v52∧
 ∃v53:SliceV,c7 h42 h9 4 v53∧
 HC PG ng [kU v43 v44 v45 v46 v47 v48,SK v49 v50 v51 v52 v53,.slice x4.a x4.len x4.cap,.slice x6.a x6.len x6.cap] Fm (fun(e54:(T6)×(T5)) h55=>
 (bZ (2:Int) 3∧
 (ft h55 (adr (adr (aj h2) 0) ((2:Int).toNat*6)) (mK e54.1) (fun h56=>
 (bZ (2:Int) 3∧
 (ft h56 (adr (adr (aj h2) 18) ((2:Int).toNat*5)) (Ky e54.2) (fun h57=>
 ∃v58,aM h57 h2 0 v58∧
 ∃v59,ae h57 h2 1 v59∧
 ∃v60,ae h57 h2 2 v60∧
 ∃v61,ae h57 h2 3 v61∧
 ∃v62,au h57 h2 4 v62∧
 ∃v63,au h57 h2 5 v63∧
 ∃v64,aM h57 h2 6 v64∧
 ∃v65,ae h57 h2 7 v65∧
 ∃v66,ae h57 h2 8 v66∧
 ∃v67,ae h57 h2 9 v67∧
 ∃v68,au h57 h2 10 v68∧
 ∃v69,au h57 h2 11 v69∧
 ∃v70,aM h57 h2 12 v70∧
 ∃v71,ae h57 h2 13 v71∧
 ∃v72,ae h57 h2 14 v72∧
 ∃v73,ae h57 h2 15 v73∧
 ∃v74,au h57 h2 16 v74∧
 ∃v75,au h57 h2 17 v75∧
 ∃v76,aM h57 h2 18 v76∧
 ∃v77,ae h57 h2 19 v77∧
 ∃v78,ae h57 h2 20 v78∧
 ∃v79,ae h57 h2 21 v79∧
 ∃v80:SliceV,c7 h57 h2 22 v80∧
 ∃v81,aM h57 h2 23 v81∧
 ∃v82,ae h57 h2 24 v82∧
 ∃v83,ae h57 h2 25 v83∧
 ∃v84,ae h57 h2 26 v84∧
 ∃v85:SliceV,c7 h57 h2 27 v85∧
 ∃v86,aM h57 h2 28 v86∧
 ∃v87,ae h57 h2 29 v87∧
 ∃v88,ae h57 h2 30 v88∧
 ∃v89,ae h57 h2 31 v89∧
 ∃v90:SliceV,c7 h57 h2 32 v90∧
 (qL h57 (some (aj h1)) 0 ((.int .i64 v58)::(.int .u64 v59)::(.int .u64 v60)::(.int .u64 v61)::(.pointer v62)::(.pointer v63)::(.int .i64 v64)::(.int .u64 v65)::(.int .u64 v66)::(.int .u64 v67)::(.pointer v68)::(.pointer v69)::(.int .i64 v70)::(.int .u64 v71)::(.int .u64 v72)::(.int .u64 v73)::(.pointer v74)::(.pointer v75)::(.int .i64 v76)::(.int .u64 v77)::(.int .u64 v78)::(.int .u64 v79)::(.slice v80.a v80.len v80.cap)::(.int .i64 v81)::(.int .u64 v82)::(.int .u64 v83)::(.int .u64 v84)::(.slice v85.a v85.len v85.cap)::(.int .i64 v86)::(.int .u64 v87)::(.int .u64 v88)::(.int .u64 v89)::(.slice v90.a v90.len v90.cap):: [])∧
 At (ff h57 (aj h1) 0 ((.int .i64 v58)::(.int .u64 v59)::(.int .u64 v60)::(.int .u64 v61)::(.pointer v62)::(.pointer v63)::(.int .i64 v64)::(.int .u64 v65)::(.int .u64 v66)::(.int .u64 v67)::(.pointer v68)::(.pointer v69)::(.int .i64 v70)::(.int .u64 v71)::(.int .u64 v72)::(.int .u64 v73)::(.pointer v74)::(.pointer v75)::(.int .i64 v76)::(.int .u64 v77)::(.int .u64 v78)::(.int .u64 v79)::(.slice v80.a v80.len v80.cap)::(.int .i64 v81)::(.int .u64 v82)::(.int .u64 v83)::(.int .u64 v84)::(.slice v85.a v85.len v85.cap)::(.int .i64 v86)::(.int .u64 v87)::(.int .u64 v88)::(.int .u64 v89)::(.slice v90.a v90.len v90.cap):: [])) (fun h91=>
 ∃v92,aM h91 h1 0 v92∧
 ∃v93,ae h91 h1 1 v93∧
 ∃v94,ae h91 h1 2 v94∧
 ∃v95,ae h91 h1 3 v95∧
 ∃v96,au h91 h1 4 v96∧
 ∃v97,au h91 h1 5 v97∧
 ∃v98,aM h91 h1 6 v98∧
 ∃v99,ae h91 h1 7 v99∧
 ∃v100,ae h91 h1 8 v100∧
 ∃v101,ae h91 h1 9 v101∧
 ∃v102,au h91 h1 10 v102∧
 ∃v103,au h91 h1 11 v103∧
 ∃v104,aM h91 h1 12 v104∧
 ∃v105,ae h91 h1 13 v105∧
 ∃v106,ae h91 h1 14 v106∧
 ∃v107,ae h91 h1 15 v107∧
 ∃v108,au h91 h1 16 v108∧
 ∃v109,au h91 h1 17 v109∧
 ∃v110,aM h91 h1 18 v110∧
 ∃v111,ae h91 h1 19 v111∧
 ∃v112,ae h91 h1 20 v112∧
 ∃v113,ae h91 h1 21 v113∧
 ∃v114:SliceV,c7 h91 h1 22 v114∧
 ∃v115,aM h91 h1 23 v115∧
 ∃v116,ae h91 h1 24 v116∧
 ∃v117,ae h91 h1 25 v117∧
 ∃v118,ae h91 h1 26 v118∧
 ∃v119:SliceV,c7 h91 h1 27 v119∧
 ∃v120,aM h91 h1 28 v120∧
 ∃v121,ae h91 h1 29 v121∧
 ∃v122,ae h91 h1 30 v122∧
 ∃v123,ae h91 h1 31 v123∧
 ∃v124:SliceV,c7 h91 h1 32 v124∧
 K (v92,v93,v94,v95,v96,v97,v98,v99,v100,v101,v102,v103,v104,v105,v106,v107,v108,v109,v110,v111,v112,v113,v114,v115,v116,v117,v118,v119,v120,v121,v122,v123,v124) h91))))))))) h42))))))) h27) (
 (bZ 0 3∧
 ∃v125,cS h27 (adr (adr (aj h2) 0) ((0:Int).toNat*6)) 0 v125∧
 ∃v126,aG h27 (adr (adr (aj h2) 0) ((0:Int).toNat*6)) 1 v126∧
 ∃v127,aG h27 (adr (adr (aj h2) 0) ((0:Int).toNat*6)) 2 v127∧
 ∃v128,aG h27 (adr (adr (aj h2) 0) ((0:Int).toNat*6)) 3 v128∧
 ∃v129,bi h27 (adr (adr (aj h2) 0) ((0:Int).toNat*6)) 4 v129∧
 ∃v130,bi h27 (adr (adr (aj h2) 0) ((0:Int).toNat*6)) 5 v130∧
 (bZ 0 3∧
 ∃v131,cS h27 (adr (adr (aj h2) 18) ((0:Int).toNat*5)) 0 v131∧
 ∃v132,aG h27 (adr (adr (aj h2) 18) ((0:Int).toNat*5)) 1 v132∧
 ∃v133,aG h27 (adr (adr (aj h2) 18) ((0:Int).toNat*5)) 2 v133∧
 ∃v134,aG h27 (adr (adr (aj h2) 18) ((0:Int).toNat*5)) 3 v134∧
 ∃v135:SliceV,bW h27 (adr (adr (aj h2) 18) ((0:Int).toNat*5)) 4 v135∧
 HC PG ng [kU v125 v126 v127 v128 v129 v130,SK v131 v132 v133 v134 v135,.slice x3.a x3.len x3.cap,.slice x5.a x5.len x5.cap] Fm (fun(e136:(T6)×(T5)) h137=>
 (bZ 1 3∧
 (ft h137 (adr (adr (aj h2) 0) ((1:Int).toNat*6)) (mK e136.1) (fun h138=>
 (bZ 1 3∧
 (ft h138 (adr (adr (aj h2) 18) ((1:Int).toNat*5)) (Ky e136.2) (fun h139=>
 (bZ 0 3∧
 ∃v140,cS h139 (adr (adr (aj h2) 0) ((0:Int).toNat*6)) 0 v140∧
 ∃v141,aG h139 (adr (adr (aj h2) 0) ((0:Int).toNat*6)) 1 v141∧
 ∃v142,aG h139 (adr (adr (aj h2) 0) ((0:Int).toNat*6)) 2 v142∧
 ∃v143,aG h139 (adr (adr (aj h2) 0) ((0:Int).toNat*6)) 3 v143∧
 ∃v144,bi h139 (adr (adr (aj h2) 0) ((0:Int).toNat*6)) 4 v144∧
 ∃v145,bi h139 (adr (adr (aj h2) 0) ((0:Int).toNat*6)) 5 v145∧
 (bZ 0 3∧
 ∃v146,cS h139 (adr (adr (aj h2) 18) ((0:Int).toNat*5)) 0 v146∧
 ∃v147,aG h139 (adr (adr (aj h2) 18) ((0:Int).toNat*5)) 1 v147∧
 ∃v148,aG h139 (adr (adr (aj h2) 18) ((0:Int).toNat*5)) 2 v148∧
 ∃v149,aG h139 (adr (adr (aj h2) 18) ((0:Int).toNat*5)) 3 v149∧
 ∃v150:SliceV,bW h139 (adr (adr (aj h2) 18) ((0:Int).toNat*5)) 4 v150∧
 HC PG ng [kU v140 v141 v142 v143 v144 v145,SK v146 v147 v148 v149 v150,.slice x4.a x4.len x4.cap,.slice x6.a x6.len x6.cap] Fm (fun(e151:(T6)×(T5)) h152=>
 (bZ (2:Int) 3∧
 (ft h152 (adr (adr (aj h2) 0) ((2:Int).toNat*6)) (mK e151.1) (fun h153=>
 (bZ (2:Int) 3∧
 (ft h153 (adr (adr (aj h2) 18) ((2:Int).toNat*5)) (Ky e151.2) (fun h154=>
 ∃v155,aM h154 h2 0 v155∧
 ∃v156,ae h154 h2 1 v156∧
 ∃v157,ae h154 h2 2 v157∧
 ∃v158,ae h154 h2 3 v158∧
 ∃v159,au h154 h2 4 v159∧
 ∃v160,au h154 h2 5 v160∧
 ∃v161,aM h154 h2 6 v161∧
 ∃v162,ae h154 h2 7 v162∧
 ∃v163,ae h154 h2 8 v163∧
 ∃v164,ae h154 h2 9 v164∧
 ∃v165,au h154 h2 10 v165∧
 ∃v166,au h154 h2 11 v166∧
 ∃v167,aM h154 h2 12 v167∧
 ∃v168,ae h154 h2 13 v168∧
 ∃v169,ae h154 h2 14 v169∧
 ∃v170,ae h154 h2 15 v170∧
 ∃v171,au h154 h2 16 v171∧
 ∃v172,au h154 h2 17 v172∧
 ∃v173,aM h154 h2 18 v173∧
 ∃v174,ae h154 h2 19 v174∧
 ∃v175,ae h154 h2 20 v175∧
 ∃v176,ae h154 h2 21 v176∧
 ∃v177:SliceV,c7 h154 h2 22 v177∧
 ∃v178,aM h154 h2 23 v178∧
 ∃v179,ae h154 h2 24 v179∧
 ∃v180,ae h154 h2 25 v180∧
 ∃v181,ae h154 h2 26 v181∧
 ∃v182:SliceV,c7 h154 h2 27 v182∧
 ∃v183,aM h154 h2 28 v183∧
 ∃v184,ae h154 h2 29 v184∧
 ∃v185,ae h154 h2 30 v185∧
 ∃v186,ae h154 h2 31 v186∧
 ∃v187:SliceV,c7 h154 h2 32 v187∧
 (qL h154 (some (aj h1)) 0 ((.int .i64 v155)::(.int .u64 v156)::(.int .u64 v157)::(.int .u64 v158)::(.pointer v159)::(.pointer v160)::(.int .i64 v161)::(.int .u64 v162)::(.int .u64 v163)::(.int .u64 v164)::(.pointer v165)::(.pointer v166)::(.int .i64 v167)::(.int .u64 v168)::(.int .u64 v169)::(.int .u64 v170)::(.pointer v171)::(.pointer v172)::(.int .i64 v173)::(.int .u64 v174)::(.int .u64 v175)::(.int .u64 v176)::(.slice v177.a v177.len v177.cap)::(.int .i64 v178)::(.int .u64 v179)::(.int .u64 v180)::(.int .u64 v181)::(.slice v182.a v182.len v182.cap)::(.int .i64 v183)::(.int .u64 v184)::(.int .u64 v185)::(.int .u64 v186)::(.slice v187.a v187.len v187.cap):: [])∧
 At (ff h154 (aj h1) 0 ((.int .i64 v155)::(.int .u64 v156)::(.int .u64 v157)::(.int .u64 v158)::(.pointer v159)::(.pointer v160)::(.int .i64 v161)::(.int .u64 v162)::(.int .u64 v163)::(.int .u64 v164)::(.pointer v165)::(.pointer v166)::(.int .i64 v167)::(.int .u64 v168)::(.int .u64 v169)::(.int .u64 v170)::(.pointer v171)::(.pointer v172)::(.int .i64 v173)::(.int .u64 v174)::(.int .u64 v175)::(.int .u64 v176)::(.slice v177.a v177.len v177.cap)::(.int .i64 v178)::(.int .u64 v179)::(.int .u64 v180)::(.int .u64 v181)::(.slice v182.a v182.len v182.cap)::(.int .i64 v183)::(.int .u64 v184)::(.int .u64 v185)::(.int .u64 v186)::(.slice v187.a v187.len v187.cap):: [])) (fun h188=>
 ∃v189,aM h188 h1 0 v189∧
 ∃v190,ae h188 h1 1 v190∧
 ∃v191,ae h188 h1 2 v191∧
 ∃v192,ae h188 h1 3 v192∧
 ∃v193,au h188 h1 4 v193∧
 ∃v194,au h188 h1 5 v194∧
 ∃v195,aM h188 h1 6 v195∧
 ∃v196,ae h188 h1 7 v196∧
 ∃v197,ae h188 h1 8 v197∧
 ∃v198,ae h188 h1 9 v198∧
 ∃v199,au h188 h1 10 v199∧
 ∃v200,au h188 h1 11 v200∧
 ∃v201,aM h188 h1 12 v201∧
 ∃v202,ae h188 h1 13 v202∧
 ∃v203,ae h188 h1 14 v203∧
 ∃v204,ae h188 h1 15 v204∧
 ∃v205,au h188 h1 16 v205∧
 ∃v206,au h188 h1 17 v206∧
 ∃v207,aM h188 h1 18 v207∧
 ∃v208,ae h188 h1 19 v208∧
 ∃v209,ae h188 h1 20 v209∧
 ∃v210,ae h188 h1 21 v210∧
 ∃v211:SliceV,c7 h188 h1 22 v211∧
 ∃v212,aM h188 h1 23 v212∧
 ∃v213,ae h188 h1 24 v213∧
 ∃v214,ae h188 h1 25 v214∧
 ∃v215,ae h188 h1 26 v215∧
 ∃v216:SliceV,c7 h188 h1 27 v216∧
 ∃v217,aM h188 h1 28 v217∧
 ∃v218,ae h188 h1 29 v218∧
 ∃v219,ae h188 h1 30 v219∧
 ∃v220,ae h188 h1 31 v220∧
 ∃v221:SliceV,c7 h188 h1 32 v221∧
 K (v189,v190,v191,v192,v193,v194,v195,v196,v197,v198,v199,v200,v201,v202,v203,v204,v205,v206,v207,v208,v209,v210,v211,v212,v213,v214,v215,v216,v217,v218,v219,v220,v221) h188))))))))) h139))))))))) h27)))))))))) h12))))))) h3)))
theorem NU(x0:Int)(x1:Int×Int×Int)(x2:SliceV)(x3:SliceV)(x4:SliceV)(x5:SliceV)(x6:SliceV)(x7:Bool){K:cN [.agg ((.int .i64)::(.int .u64)::(.int .u64)::(.int .u64):: .ptr:: .ptr::(.int .i64)::(.int .u64)::(.int .u64)::(.int .u64):: .ptr:: .ptr::(.int .i64)::(.int .u64)::(.int .u64)::(.int .u64):: .ptr:: .ptr::(.int .i64)::(.int .u64)::(.int .u64)::(.int .u64):: .slice::(.int .i64)::(.int .u64)::(.int .u64)::(.int .u64):: .slice::(.int .i64)::(.int .u64)::(.int .u64)::(.int .u64):: .slice:: [])]→ad→Prop}{h0:ad}(h:Gd x0 x1 x2 x3 x4 x5 x6 x7 K h0):HC PG zP [.int .u8 x0,MQ x1,.slice x2.a x2.len x2.cap,.slice x3.a x3.len x3.cap,.slice x4.a x4.len x4.cap,.slice x5.a x5.len x5.cap,.slice x6.a x6.len x6.cap,.bool x7] [.agg ((.int .i64)::(.int .u64)::(.int .u64)::(.int .u64):: .ptr:: .ptr::(.int .i64)::(.int .u64)::(.int .u64)::(.int .u64):: .ptr:: .ptr::(.int .i64)::(.int .u64)::(.int .u64)::(.int .u64):: .ptr:: .ptr::(.int .i64)::(.int .u64)::(.int .u64)::(.int .u64):: .slice::(.int .i64)::(.int .u64)::(.int .u64)::(.int .u64):: .slice::(.int .i64)::(.int .u64)::(.int .u64)::(.int .u64):: .slice:: [])] K h0:=dB .nil Tryz.func21 Tryz.call21 rfl rfl (by kernel_rfl) h
def Gc(x0:T6)(x1:T6)(x2:T6)(x3:Int)(K:((T6)×SliceV×Int)→ad→Prop)(h0:ad):Prop:=
 At (hnew h0 (mK x0) aH) (fun h1=>
 At (hnew h1 (mK x1) aH) (fun h2=>
 At (hnew h2 (mK x2) aH) (fun h3=>
 At (hnew h3 qK aH) (fun h4=>
 HC PG wN [.int .i64 x3] [.c .str] (fun(e5:ByteArray) h6=>
 CondP (e5.toList==(⟨#[]⟩:ByteArray).toList) (
 ∃v7,aM h6 h1 0 v7∧
 ∃v8,ae h6 h1 1 v8∧
 ∃v9,ae h6 h1 2 v9∧
 ∃v10,ae h6 h1 3 v10∧
 ∃v11,au h6 h1 4 v11∧
 ∃v12,au h6 h1 5 v12∧
 (cU h6 h3 (uc v7 v8 v9 v10 v11 v12) (fun h13=>
 ∃v14,aM h13 h3 0 v14∧
 ∃v15,ae h13 h3 1 v15∧
 ∃v16,ae h13 h3 2 v16∧
 ∃v17,ae h13 h3 3 v17∧
 ∃v18,au h13 h3 4 v18∧
 ∃v19,au h13 h3 5 v19∧
 K ((v14,v15,v16,v17,v18,v19),⟨none,0,0⟩,1) h13))) (
 Join (fun(t49:Bool) h50=>
 CondP t49 (
 ∃v51,aM h50 h1 0 v51∧
 ∃v52,ae h50 h1 1 v52∧
 ∃v53,ae h50 h1 2 v53∧
 ∃v54,ae h50 h1 3 v54∧
 ∃v55,au h50 h1 4 v55∧
 ∃v56,au h50 h1 5 v56∧
 (cU h50 h3 (uc v51 v52 v53 v54 v55 v56) (fun h57=>
 ∃v58,aM h57 h3 0 v58∧
 ∃v59,ae h57 h3 1 v59∧
 ∃v60,ae h57 h3 2 v60∧
 ∃v61,ae h57 h3 3 v61∧
 ∃v62,au h57 h3 4 v62∧
 ∃v63,au h57 h3 5 v63∧
 K ((v58,v59,v60,v61,v62,v63),⟨none,0,0⟩,11) h57))) (
 ∃v64,aM h50 h0 0 v64∧
 ∃v65,ae h50 h0 1 v65∧
 ∃v66,ae h50 h0 2 v66∧
 ∃v67,ae h50 h0 3 v67∧
 ∃v68,au h50 h0 4 v68∧
 ∃v69,au h50 h0 5 v69∧
 ∃v70,aM h50 h2 0 v70∧
 ∃v71,ae h50 h2 1 v71∧
 ∃v72,ae h50 h2 2 v72∧
 ∃v73,ae h50 h2 3 v73∧
 ∃v74,au h50 h2 4 v74∧
 ∃v75,au h50 h2 5 v75∧
 HC PG sZ [kU v64 v65 v66 v67 v68 v69,kU v70 v71 v72 v73 v74 v75] Tx (fun(e76:SliceV×Int) h77=>
 ∃v78,aM h77 h1 0 v78∧
 ∃v79,ae h77 h1 1 v79∧
 ∃v80,ae h77 h1 2 v80∧
 ∃v81,ae h77 h1 3 v81∧
 ∃v82,au h77 h1 4 v82∧
 ∃v83,au h77 h1 5 v83∧
 nv h77 qK aH (uc v78 v79 v80 v81 v82 v83) (fun h85=>
 LoopP (fun I86 (t87:SliceV×Int) h88=>
 CondP (decide (t87.2<(e76.1.len:Int))) (
 (bZ t87.2 e76.1.len∧∃a89,e76.1.a=some a89∧
 ∃v90,ay h88 (adr a89 (t87.2.toNat*5)) 0 v90∧
 ∃v91,ay h88 (adr a89 (t87.2.toNat*5)) 1 v91∧
 ∃v92,ay h88 (adr a89 (t87.2.toNat*5)) 2 v92∧
 ∃v93,be h88 (adr a89 (t87.2.toNat*5)) 3 v93∧
 ∃v94,be h88 (adr a89 (t87.2.toNat*5)) 4 v94∧
 nv h88 Pd bQ (jC v90 v91 v92 v93 v94) (fun h96=>
 Join (fun(t141:Addr) h142=>
 ∃v143,ay h142 (adr t141 1) 0 v143∧
 ∃v144,be h142 (adr t141 1) 1 v144∧
 ∃v145,ay h142 (adr t141 3) 0 v145∧
 ∃v146,be h142 (adr t141 3) 1 v146∧
 ∃v147,ay h142 (adr t141 5) 0 v147∧
 ∃v148,be h142 (adr t141 5) 1 v148∧
 HC PG wM [QH v143 v144,QH v145 v146,QH v147 v148,.int .i64 x3] Tw (fun(e149:(ByteArray×Bool)×Bool) h150=>
 nv h150 Pc kZ (E7 e149.1) (fun h152=>
 Join (fun(t165:SliceV) h166=>
 ∃v167,aM h166 h77 0 v167∧
 ∃v168,ae h166 h77 1 v168∧
 ∃v169,ae h166 h77 2 v169∧
 ∃v170,ae h166 h77 3 v170∧
 ∃v171,au h166 h77 4 v171∧
 ∃v172,au h166 h77 5 v172∧
 ∃v173,av h166 h88 0 v173∧
 ∃v174,av h166 h150 0 v174∧
 ∃v175,fi h166 h150 1 v175∧
 HC PG um [kU v167 v168 v169 v170 v171 v172,.string v173,QH v174 v175] AL (fun(e176:T6) h177=>
 (cU h177 h77 (mK e176) (fun h178=>
 I86 (t165,IntKind.wrap .i64 (t87.2+1)) h178))) h166) (fun J153=>
 CondP (!e149.2) (
 ∃v154,ay h152 t141 0 v154∧
 ∃v155,ay h152 t141 1 v155∧
 ∃v156,be h152 t141 2 v156∧
 ∃v157,ay h152 t141 3 v157∧
 ∃v158,be h152 t141 4 v158∧
 ∃v159,ay h152 t141 5 v159∧
 ∃v160,be h152 t141 6 v160∧
 At (hnew h152 (SJ v154 v155 v156 v157 v158 v159 v160) dE) (fun h161=>
 ∃xs162,SRow h161 (some (aj h152)) (1*7) xs162∧
 AppP (some SD) 7 88 dE t87.1.a t87.1.len t87.1.cap 1 xs162 h161 (fun s163 h164=>
 J153 s163 h164))) (
 J153 t87.1 h152)))) h142) (fun J120=>
 ∃v121,av h96 h88 0 v121∧
 ∃v122,av h96 h88 1 v122∧
 ∃v123,fi h96 h88 3 v123∧
 ∃v124,aM h96 h1 0 v124∧
 ∃v125,ae h96 h1 1 v125∧
 ∃v126,ae h96 h1 2 v126∧
 ∃v127,ae h96 h1 3 v127∧
 ∃v128,au h96 h1 4 v128∧
 ∃v129,au h96 h1 5 v129∧
 ∃v130,av h96 h88 0 v130∧
 ∃v131,av h96 h88 2 v131∧
 ∃v132,fi h96 h88 4 v132∧
 ((HC PG pN [kU v124 v125 v126 v127 v128 v129,.string v130] KZ (fun(e133:ByteArray×Bool) h134=>
 (fi h134 h88 4 v132∧
 (av h134 h88 2 v131∧
 (fi h134 h88 3 v123∧
 (av h134 h88 1 v122∧
 (av h134 h88 0 v121∧
 At (hnew h134 SD dE) (fun h135=>
 (fi h135 h88 4 v132∧
 (av h135 h88 2 v131∧
 (fi h135 h88 3 v123∧
 (av h135 h88 1 v122∧
 (av h135 h88 0 v121∧
 (cU h135 h134 (SJ v121 v122 v123 e133.1 e133.2 v131 v132) (fun h136=>
 J120 (aj h134) h136)))))))))))))) h96)∧
 At (hnew h96 SD dE) (fun h137=>
 (fi h137 h88 4 v132∧
 (av h137 h88 2 v131∧
 (av h137 h88 0 v130∧
 ((aM h137 h1 0 v124∧ae h137 h1 1 v125∧ae h137 h1 2 v126∧ae h137 h1 3 v127∧au h137 h1 4 v128∧au h137 h1 5 v129)∧
 (fi h137 h88 3 v123∧
 (av h137 h88 1 v122∧
 (av h137 h88 0 v121∧
 HC PG pN [kU v124 v125 v126 v127 v128 v129,.string v130] KZ (fun(e138:ByteArray×Bool) h139=>
 (fi h139 h88 4 v132∧
 (av h139 h88 2 v131∧
 (fi h139 h88 3 v123∧
 (av h139 h88 1 v122∧
 (av h139 h88 0 v121∧
 (cU h139 h96 (SJ v121 v122 v123 e138.1 e138.2 v131 v132) (fun h140=>
 J120 (aj h96) h140)))))))) h137))))))))))))) (
 Join (fun(t180:Bool) h181=>
 CondP t180 (
 ∃v182,aM h181 h1 0 v182∧
 ∃v183,ae h181 h1 1 v183∧
 ∃v184,ae h181 h1 2 v184∧
 ∃v185,ae h181 h1 3 v185∧
 ∃v186,au h181 h1 4 v186∧
 ∃v187,au h181 h1 5 v187∧
 (cU h181 h3 (uc v182 v183 v184 v185 v186 v187) (fun h188=>
 ∃v189,aM h188 h3 0 v189∧
 ∃v190,ae h188 h3 1 v190∧
 ∃v191,ae h188 h3 2 v191∧
 ∃v192,ae h188 h3 3 v192∧
 ∃v193,au h188 h3 4 v193∧
 ∃v194,au h188 h3 5 v194∧
 K ((v189,v190,v191,v192,v193,v194),t87.1,8) h188))) (
 ∃v195,aM h181 h77 0 v195∧
 ∃v196,ae h181 h77 1 v196∧
 ∃v197,ae h181 h77 2 v197∧
 ∃v198,ae h181 h77 3 v198∧
 ∃v199,au h181 h77 4 v199∧
 ∃v200,au h181 h77 5 v200∧
 (cU h181 h3 (uc v195 v196 v197 v198 v199 v200) (fun h201=>
 ∃v202,aM h201 h3 0 v202∧
 ∃v203,ae h201 h3 1 v203∧
 ∃v204,ae h201 h3 2 v204∧
 ∃v205,ae h201 h3 3 v205∧
 ∃v206,au h201 h3 4 v206∧
 ∃v207,au h201 h3 5 v207∧
 K ((v202,v203,v204,v205,v206,v207),t87.1,0) h201)))) (fun J179=>
 CondP (x3==(0:Int)) (
 J179 (decide ((t87.1.len:Int)>(0:Int))) h88) (
 J179 false h88)))) (⟨none,0,0⟩,0) h85)) h50)) (fun J20=>
 ∃v21,aM h6 h0 0 v21∧
 ∃v22,ae h6 h0 1 v22∧
 ∃v23,ae h6 h0 2 v23∧
 ∃v24,ae h6 h0 3 v24∧
 ∃v25,au h6 h0 4 v25∧
 ∃v26,au h6 h0 5 v26∧
 ∃v27,aM h6 h1 0 v27∧
 ∃v28,ae h6 h1 1 v28∧
 ∃v29,ae h6 h1 2 v29∧
 ∃v30,ae h6 h1 3 v30∧
 ∃v31,au h6 h1 4 v31∧
 ∃v32,au h6 h1 5 v32∧
 HC PG pM [kU v21 v22 v23 v24 v25 v26,kU v27 v28 v29 v30 v31 v32] [.c .bool] (fun(e33:Bool) h34=>
 CondP (!e33) (
 J20 true h34) (
 ∃v35,aM h34 h0 0 v35∧
 ∃v36,ae h34 h0 1 v36∧
 ∃v37,ae h34 h0 2 v37∧
 ∃v38,ae h34 h0 3 v38∧
 ∃v39,au h34 h0 4 v39∧
 ∃v40,au h34 h0 5 v40∧
 ∃v41,aM h34 h2 0 v41∧
 ∃v42,ae h34 h2 1 v42∧
 ∃v43,ae h34 h2 2 v43∧
 ∃v44,ae h34 h2 3 v44∧
 ∃v45,au h34 h2 4 v45∧
 ∃v46,au h34 h2 5 v46∧
 HC PG pM [kU v35 v36 v37 v38 v39 v40,kU v41 v42 v43 v44 v45 v46] [.c .bool] (fun(e47:Bool) h48=>
 J20 (!e47) h48) h34)) h6))) h4))))
noncomputable def N4:Ann:=.node .nil (.node (.node .nil (.node .nil (.join [(25,.c .bool)] .nil .nil))) (.node .nil (.node .nil (.node .nil (.node (.node .nil (.loop [(14,.c .slice),(46,.c (.int .i64))] (.node .nil (.node .nil (.node (.node .nil (.join [(17,.c .adr)] (.draw (VR [0,1,2,3,4,5,6,7,8,9,11,12,13,14,15] (.all (.pick 10 (.take 16 (.all (.lastT 17 (.all (.lastT 18 (.done)))))) (.last 17 (.all (.lastT 10 (.take 16 (.all (.lastT 18 (.done))))))))))) (.node .nil (.join [(14,.c .slice)] .nil .nil)))) .nil))))) (.node (.join [(96,.c .bool)] .nil .nil) .nil))))))
theorem NT(x0:T6)(x1:T6)(x2:T6)(x3:Int){K:cN D0→ad→Prop}{h0:ad}(h:Gc x0 x1 x2 x3 K h0):HC PG ju [Gs x0,Gs x1,Gs x2,.int .i64 x3] D0 K h0:=dB N4 Tryz.func22 Tryz.call22 rfl rfl (by kernel_rfl) h
def DN(x0:T6)(x1:ByteArray)(K:(ByteArray×Bool)→ad→Prop)(h0:ad):Prop:=
 At (hnew h0 (mK x0) aH) (fun h1=>
 At (hnew h1 Pc kZ) (fun h2=>
 ∃v3,aM h2 h0 0 v3∧
 ∃v4,ae h2 h0 1 v4∧
 ∃v5,ae h2 h0 2 v5∧
 ∃v6,ae h2 h0 3 v6∧
 ∃v7,au h2 h0 4 v7∧
 ∃v8,au h2 h0 5 v8∧
 HC PG sr [kU v3 v4 v5 v6 v7 v8,.string x1] lj (fun(e9:ByteArray×Bool) h10=>
 (cU h10 h1 (E7 e9) (fun h11=>
 ∃v12,av h11 h1 0 v12∧
 ∃v13,fi h11 h1 1 v13∧
 K (v12,v13) h11))) h2))
theorem LI(x0:T6)(x1:ByteArray){K:cN KZ→ad→Prop}{h0:ad}(h:DN x0 x1 K h0):HC PG pN [Gs x0,.string x1] KZ K h0:=dB .nil Tryz.func23 Tryz.call23 rfl rfl (by kernel_rfl) h
def BG(x0:Int)(x1:Int×Int×Int)(x2:SliceV)(K:((T6)×Int)→ad→Prop)(h0:ad):Prop:=
 At (hnew h0 (Dl x1) cy) (fun h1=>
 At (hnew h1 qK aH) (fun h2=>
 ∃v3,ae h2 h0 0 v3∧
 ∃v4,ae h2 h0 1 v4∧
 ∃v5,ae h2 h0 2 v5∧
 HC PG wH [.int .i64 x0,zl v3 v4 v5] tw (fun(e6:(T6)×Int) h7=>
 nv h7 qK aH (mK e6.1) (fun h9=>
 CondP (e6.2 !=(0:Int)) (
 (cU h9 h1 qK (fun h10=>
 ∃v11,aM h10 h1 0 v11∧
 ∃v12,ae h10 h1 1 v12∧
 ∃v13,ae h10 h1 2 v13∧
 ∃v14,ae h10 h1 3 v14∧
 ∃v15,au h10 h1 4 v15∧
 ∃v16,au h10 h1 5 v16∧
 K ((v11,v12,v13,v14,v15,v16),e6.2) h10))) (
 LoopP (fun I17 (t18:Int) h19=>
 CondP (decide (t18<(x2.len:Int))) (
 (bZ t18 x2.len∧∃a20,x2.a=some a20∧
 ∃v21,ay h19 (adr a20 (t18.toNat*2)) 0 v21∧
 ∃v22,ay h19 (adr a20 (t18.toNat*2)) 1 v22∧
 nv h19 oT af (jG v21 v22) (fun h24=>
 ∃v25,av h24 h19 0 v25∧
 ∃v26,av h24 h19 1 v26∧
 HC PG qi (jG v25 v26) bT (fun(e27:Int) h28=>
 CondP (e27 !=(0:Int)) (
 (cU h28 h1 qK (fun h29=>
 ∃v30,aM h29 h1 0 v30∧
 ∃v31,ae h29 h1 1 v31∧
 ∃v32,ae h29 h1 2 v32∧
 ∃v33,ae h29 h1 3 v33∧
 ∃v34,au h29 h1 4 v34∧
 ∃v35,au h29 h1 5 v35∧
 K ((v30,v31,v32,v33,v34,v35),e27) h29))) (
 I17 (IntKind.wrap .i64 (t18+1)) h28)) h24))) (
 CondP (x0==(1:Int)) (
 HC PG GC [.slice x2.a x2.len x2.cap] [.c .ptr] (fun(e36:Option Addr) h37=>
 HC PG qc [.pointer e36] AL (fun(e38:T6) h39=>
 (cU h39 h1 (mK e38) (fun h40=>
 ∃v41,aM h40 h1 0 v41∧
 ∃v42,ae h40 h1 1 v42∧
 ∃v43,ae h40 h1 2 v43∧
 ∃v44,ae h40 h1 3 v44∧
 ∃v45,au h40 h1 4 v45∧
 ∃v46,au h40 h1 5 v46∧
 K ((v41,v42,v43,v44,v45,v46),0) h40))) h37) h19) (
 ∃v47,ae h19 h0 0 v47∧
 ∃v48,ae h19 h0 1 v48∧
 ∃v49,ae h19 h0 2 v49∧
 ∃v50,ae h19 h0 0 v50∧
 ∃v51,ae h19 h0 1 v51∧
 ∃v52,ae h19 h0 2 v52∧
 HC PG u5 [zl v50 v51 v52,.slice x2.a x2.len x2.cap] [.c .ptr] (fun(e53:Option Addr) h54=>
 ((ae h54 h0 0 v47∧ae h54 h0 1 v48∧ae h54 h0 2 v49)∧
 HC PG qd [zl v47 v48 v49,.pointer e53] AL (fun(e55:T6) h56=>
 (cU h56 h1 (mK e55) (fun h57=>
 ∃v58,aM h57 h1 0 v58∧
 ∃v59,ae h57 h1 1 v59∧
 ∃v60,ae h57 h1 2 v60∧
 ∃v61,ae h57 h1 3 v61∧
 ∃v62,au h57 h1 4 v62∧
 ∃v63,au h57 h1 5 v63∧
 K ((v58,v59,v60,v61,v62,v63),0) h57))) h54)) h19))) 0 h9))) h2))
noncomputable def JF:Ann:=.node .nil (.node .nil (.node (.node .nil (.loop [(25,.c (.int .i64))] .nil)) .nil))
theorem JB(x0:Int)(x1:Int×Int×Int)(x2:SliceV){K:cN tw→ad→Prop}{h0:ad}(h:BG x0 x1 x2 K h0):HC PG qn [.int .i64 x0,MQ x1,.slice x2.a x2.len x2.cap] tw K h0:=dB JF Tryz.func24 Tryz.call24 rfl rfl (by kernel_rfl) h
def F4(x0:Int)(x1:Int×Int×Int)(K:((T6)×Int)→ad→Prop)(h0:ad):Prop:=
 At (hnew h0 (Dl x1) cy) (fun h1=>
 At (hnew h1 qK aH) (fun h2=>
 CondP (x0==(0:Int)) (
 ∃v3,ae h2 h0 0 v3∧
 ∃v4,ae h2 h0 1 v4∧
 ∃v5,ae h2 h0 2 v5∧
 HC PG qd [zl v3 v4 v5,.pointer none] AL (fun(e6:T6) h7=>
 (cU h7 h1 (mK e6) (fun h8=>
 ∃v9,aM h8 h1 0 v9∧
 ∃v10,ae h8 h1 1 v10∧
 ∃v11,ae h8 h1 2 v11∧
 ∃v12,ae h8 h1 3 v12∧
 ∃v13,au h8 h1 4 v13∧
 ∃v14,au h8 h1 5 v14∧
 K ((v9,v10,v11,v12,v13,v14),0) h8))) h2) (
 CondP (x0==(1:Int)) (
 HC PG qc [.pointer none] AL (fun(e15:T6) h16=>
 (cU h16 h1 (mK e15) (fun h17=>
 ∃v18,aM h17 h1 0 v18∧
 ∃v19,ae h17 h1 1 v19∧
 ∃v20,ae h17 h1 2 v20∧
 ∃v21,ae h17 h1 3 v21∧
 ∃v22,au h17 h1 4 v22∧
 ∃v23,au h17 h1 5 v23∧
 K ((v18,v19,v20,v21,v22,v23),0) h17))) h2) (
 (cU h2 h1 qK (fun h24=>
 ∃v25,aM h24 h1 0 v25∧
 ∃v26,ae h24 h1 1 v26∧
 ∃v27,ae h24 h1 2 v27∧
 ∃v28,ae h24 h1 3 v28∧
 ∃v29,au h24 h1 4 v29∧
 ∃v30,au h24 h1 5 v30∧
 K ((v25,v26,v27,v28,v29,v30),11) h24))))))
theorem NL(x0:Int)(x1:Int×Int×Int){K:cN tw→ad→Prop}{h0:ad}(h:F4 x0 x1 K h0):HC PG wH [.int .i64 x0,MQ x1] tw K h0:=dB .nil Tryz.func25 Tryz.call25 rfl rfl (by kernel_rfl) h
def H8(x0:Int)(x1:Int×Int×Int)(K:((T5)×Int)→ad→Prop)(h0:ad):Prop:=
 At (hnew h0 (Dl x1) Ap) (fun h1=>
 At (hnew h1 N7 fz) (fun h2=>
 CondP (x0==(0:Int)) (
 ∃v3,ae h2 h0 0 v3∧
 ∃v4,ae h2 h0 1 v4∧
 ∃v5,ae h2 h0 2 v5∧
 (cU h2 h1 [.int .i64 0,.int .u64 v3,.int .u64 v4,.int .u64 v5,.slice none 0 0] (fun h6=>
 ∃v7,aM h6 h1 0 v7∧
 ∃v8,ae h6 h1 1 v8∧
 ∃v9,ae h6 h1 2 v9∧
 ∃v10,ae h6 h1 3 v10∧
 ∃v11:SliceV,c7 h6 h1 4 v11∧
 K ((v7,v8,v9,v10,v11),0) h6))) (
 CondP (x0==(1:Int)) (
 (cU h2 h1 [.int .i64 1,.int .u64 0,.int .u64 0,.int .u64 0,.slice none 0 0] (fun h12=>
 ∃v13,aM h12 h1 0 v13∧
 ∃v14,ae h12 h1 1 v14∧
 ∃v15,ae h12 h1 2 v15∧
 ∃v16,ae h12 h1 3 v16∧
 ∃v17:SliceV,c7 h12 h1 4 v17∧
 K ((v13,v14,v15,v16,v17),0) h12))) (
 (cU h2 h1 N7 (fun h18=>
 ∃v19,aM h18 h1 0 v19∧
 ∃v20,ae h18 h1 1 v20∧
 ∃v21,ae h18 h1 2 v21∧
 ∃v22,ae h18 h1 3 v22∧
 ∃v23:SliceV,c7 h18 h1 4 v23∧
 K ((v19,v20,v21,v22,v23),11) h18))))))
theorem Qh(x0:Int)(x1:Int×Int×Int){K:cN xK→ad→Prop}{h0:ad}(h:H8 x0 x1 K h0):HC PG Cm [.int .i64 x0,MQ x1] xK K h0:=dB .nil Tryz.func26 Tryz.call26 rfl rfl (by kernel_rfl) h
def vN(x0:T6)(x1:Option Addr)(x2:ByteArray×ByteArray)(K:((T6)×Int)→ad→Prop)(h0:ad):Prop:=
 At (hnew h0 (mK x0) aH) (fun h1=>
 At (hnew h1 (vo x2) af) (fun h2=>
 At (hnew h2 qK aH) (fun h3=>
 ∃v4,av h3 h1 0 v4∧
 ∃v5,av h3 h1 1 v5∧
 HC PG qi (jG v4 v5) bT (fun(e6:Int) h7=>
 CondP (e6 !=(0:Int)) (
 ∃v8,aM h7 h0 0 v8∧
 ∃v9,ae h7 h0 1 v9∧
 ∃v10,ae h7 h0 2 v10∧
 ∃v11,ae h7 h0 3 v11∧
 ∃v12,au h7 h0 4 v12∧
 ∃v13,au h7 h0 5 v13∧
 (cU h7 h2 (uc v8 v9 v10 v11 v12 v13) (fun h14=>
 ∃v15,aM h14 h2 0 v15∧
 ∃v16,ae h14 h2 1 v16∧
 ∃v17,ae h14 h2 2 v17∧
 ∃v18,ae h14 h2 3 v18∧
 ∃v19,au h14 h2 4 v19∧
 ∃v20,au h14 h2 5 v20∧
 K ((v15,v16,v17,v18,v19,v20),e6) h14))) (
 ∃v21,aM h7 h0 0 v21∧
 CondP (v21==(1:Int)) (
 ∃v22,au h7 h0 5 v22∧
 ∃v23,av h7 h1 0 v23∧
 ∃v24,av h7 h1 1 v24∧
 HC PG xS [.pointer x1,.pointer v22,qM v23 v24] gf (fun(e25:(Option Addr)×Bool) h26=>
 (dN h26 (adr (aj h0) 5) (.pointer e25.1) (fun h27=>
 ∃v28,aM h27 h0 0 v28∧
 ∃v29,ae h27 h0 1 v29∧
 ∃v30,ae h27 h0 2 v30∧
 ∃v31,ae h27 h0 3 v31∧
 ∃v32,au h27 h0 4 v32∧
 ∃v33,au h27 h0 5 v33∧
 (cU h27 h2 (uc v28 v29 v30 v31 v32 v33) (fun h34=>
 ∃v35,aM h34 h2 0 v35∧
 ∃v36,ae h34 h2 1 v36∧
 ∃v37,ae h34 h2 2 v37∧
 ∃v38,ae h34 h2 3 v38∧
 ∃v39,au h34 h2 4 v39∧
 ∃v40,au h34 h2 5 v40∧
 K ((v35,v36,v37,v38,v39,v40),0) h34))))) h7) (
 ∃v41,aG h7 (adr (aj h0) 1) 0 v41∧
 ∃v42,aG h7 (adr (aj h0) 1) 1 v42∧
 ∃v43,aG h7 (adr (aj h0) 1) 2 v43∧
 ∃v44,au h7 h0 4 v44∧
 ∃v45,av h7 h1 0 v45∧
 ∃v46,av h7 h1 1 v46∧
 HC PG xY [zl v41 v42 v43,.pointer x1,.pointer v44,qM v45 v46] gf (fun(e47:(Option Addr)×Bool) h48=>
 (dN h48 (adr (aj h0) 4) (.pointer e47.1) (fun h49=>
 ∃v50,aM h49 h0 0 v50∧
 ∃v51,ae h49 h0 1 v51∧
 ∃v52,ae h49 h0 2 v52∧
 ∃v53,ae h49 h0 3 v53∧
 ∃v54,au h49 h0 4 v54∧
 ∃v55,au h49 h0 5 v55∧
 (cU h49 h2 (uc v50 v51 v52 v53 v54 v55) (fun h56=>
 ∃v57,aM h56 h2 0 v57∧
 ∃v58,ae h56 h2 1 v58∧
 ∃v59,ae h56 h2 2 v59∧
 ∃v60,ae h56 h2 3 v60∧
 ∃v61,au h56 h2 4 v61∧
 ∃v62,au h56 h2 5 v62∧
 K ((v57,v58,v59,v60,v61,v62),0) h56))))) h7))) h3)))
theorem CC(x0:T6)(x1:Option Addr)(x2:ByteArray×ByteArray){K:cN tw→ad→Prop}{h0:ad}(h:vN x0 x1 x2 K h0):HC PG nA [Gs x0,.pointer x1,OD x2] tw K h0:=dB .nil Tryz.func28 Tryz.call28 rfl rfl (by kernel_rfl) h
def F7(x0:T5)(x1:ByteArray×ByteArray)(K:((T5)×Int)→ad→Prop)(h0:ad):Prop:=
 At (hnew h0 (Ky x0) fz) (fun h1=>
 At (hnew h1 (vo x1) dV) (fun h2=>
 At (hnew h2 N7 fz) (fun h3=>
 ∃v4,av h3 h1 0 v4∧
 ∃v5,av h3 h1 1 v5∧
 HC PG xU (jG v4 v5) bT (fun(e6:Int) h7=>
 CondP (e6 !=(0:Int)) (
 ∃v8,aM h7 h0 0 v8∧
 ∃v9,ae h7 h0 1 v9∧
 ∃v10,ae h7 h0 2 v10∧
 ∃v11,ae h7 h0 3 v11∧
 ∃v12:SliceV,c7 h7 h0 4 v12∧
 (cU h7 h2 (QE v8 v9 v10 v11 v12) (fun h13=>
 ∃v14,aM h13 h2 0 v14∧
 ∃v15,ae h13 h2 1 v15∧
 ∃v16,ae h13 h2 2 v16∧
 ∃v17,ae h13 h2 3 v17∧
 ∃v18:SliceV,c7 h13 h2 4 v18∧
 K ((v14,v15,v16,v17,v18),e6) h13))) (
 ∃v19:SliceV,c7 h7 h0 4 v19∧
 ∃v20,av h7 h1 0 v20∧
 ∃v21,av h7 h1 1 v21∧
 HC PG Cn [.slice v19.a v19.len v19.cap,qM v20 v21] [.c .slice] (fun(e22:SliceV) h23=>
 (dN h23 (adr (aj h0) 4) (.slice e22.a e22.len e22.cap) (fun h24=>
 ∃v25,aM h24 h0 0 v25∧
 ∃v26,ae h24 h0 1 v26∧
 ∃v27,ae h24 h0 2 v27∧
 ∃v28,ae h24 h0 3 v28∧
 ∃v29:SliceV,c7 h24 h0 4 v29∧
 (cU h24 h2 (QE v25 v26 v27 v28 v29) (fun h30=>
 ∃v31,aM h30 h2 0 v31∧
 ∃v32,ae h30 h2 1 v32∧
 ∃v33,ae h30 h2 2 v33∧
 ∃v34,ae h30 h2 3 v34∧
 ∃v35:SliceV,c7 h30 h2 4 v35∧
 K ((v31,v32,v33,v34,v35),0) h30))))) h7)) h3)))
theorem NO(x0:T5)(x1:ByteArray×ByteArray){K:cN xK→ad→Prop}{h0:ad}(h:F7 x0 x1 K h0):HC PG zM [V7 x0,OD x1] xK K h0:=dB .nil Tryz.func29 Tryz.call29 rfl rfl (by kernel_rfl) h
def sI(x0:T6)(x1:Option Addr)(x2:ByteArray)(K:((T6)×Int)→ad→Prop)(h0:ad):Prop:=
 At (hnew h0 (mK x0) aH) (fun h1=>
 At (hnew h1 qK aH) (fun h2=>
 HC PG qi (jG x2 (⟨#[]⟩:ByteArray)) bT (fun(e3:Int) h4=>
 CondP (e3 !=(0:Int)) (
 ∃v5,aM h4 h0 0 v5∧
 ∃v6,ae h4 h0 1 v6∧
 ∃v7,ae h4 h0 2 v7∧
 ∃v8,ae h4 h0 3 v8∧
 ∃v9,au h4 h0 4 v9∧
 ∃v10,au h4 h0 5 v10∧
 (cU h4 h1 (uc v5 v6 v7 v8 v9 v10) (fun h11=>
 ∃v12,aM h11 h1 0 v12∧
 ∃v13,ae h11 h1 1 v13∧
 ∃v14,ae h11 h1 2 v14∧
 ∃v15,ae h11 h1 3 v15∧
 ∃v16,au h11 h1 4 v16∧
 ∃v17,au h11 h1 5 v17∧
 K ((v12,v13,v14,v15,v16,v17),e3) h11))) (
 ∃v18,aM h4 h0 0 v18∧
 ∃v19,ae h4 h0 1 v19∧
 ∃v20,ae h4 h0 2 v20∧
 ∃v21,ae h4 h0 3 v21∧
 ∃v22,au h4 h0 4 v22∧
 ∃v23,au h4 h0 5 v23∧
 nv h4 qK aH (uc v18 v19 v20 v21 v22 v23) (fun h25=>
 Join (fun(t39:Bool) h40=>
 CondP (!t39) (
 ∃v41,aM h40 h4 0 v41∧
 ∃v42,ae h40 h4 1 v42∧
 ∃v43,ae h40 h4 2 v43∧
 ∃v44,ae h40 h4 3 v44∧
 ∃v45,au h40 h4 4 v45∧
 ∃v46,au h40 h4 5 v46∧
 (cU h40 h1 (uc v41 v42 v43 v44 v45 v46) (fun h47=>
 ∃v48,aM h47 h1 0 v48∧
 ∃v49,ae h47 h1 1 v49∧
 ∃v50,ae h47 h1 2 v50∧
 ∃v51,ae h47 h1 3 v51∧
 ∃v52,au h47 h1 4 v52∧
 ∃v53,au h47 h1 5 v53∧
 K ((v48,v49,v50,v51,v52,v53),4) h47))) (
 ∃v54,aM h40 h0 0 v54∧
 ∃v55,ae h40 h0 1 v55∧
 ∃v56,ae h40 h0 2 v56∧
 ∃v57,ae h40 h0 3 v57∧
 ∃v58,au h40 h0 4 v58∧
 ∃v59,au h40 h0 5 v59∧
 (cU h40 h1 (uc v54 v55 v56 v57 v58 v59) (fun h60=>
 ∃v61,aM h60 h1 0 v61∧
 ∃v62,ae h60 h1 1 v62∧
 ∃v63,ae h60 h1 2 v63∧
 ∃v64,ae h60 h1 3 v64∧
 ∃v65,au h60 h1 4 v65∧
 ∃v66,au h60 h1 5 v66∧
 K ((v61,v62,v63,v64,v65,v66),0) h60)))) (fun J26=>
 ∃v27,aM h25 h0 0 v27∧
 CondP (v27==(1:Int)) (
 ∃v28,au h25 h0 5 v28∧
 HC PG wJ (DX x1 v28 x2) gf (fun(e29:(Option Addr)×Bool) h30=>
 (dN h30 (adr (aj h0) 5) (.pointer e29.1) (fun h31=>
 J26 e29.2 h31))) h25) (
 ∃v32,aG h25 (adr (aj h0) 1) 0 v32∧
 ∃v33,aG h25 (adr (aj h0) 1) 1 v33∧
 ∃v34,aG h25 (adr (aj h0) 1) 2 v34∧
 ∃v35,au h25 h0 4 v35∧
 HC PG wP [zl v32 v33 v34,.pointer x1,.pointer v35,.string x2] gf (fun(e36:(Option Addr)×Bool) h37=>
 (dN h37 (adr (aj h0) 4) (.pointer e36.1) (fun h38=>
 J26 e36.2 h38))) h25))))) h2))
noncomputable def yL:Ann:=.node .nil (.node .nil (.node .nil (.join [(10,.c .bool)] .nil .nil)))
theorem yG(x0:T6)(x1:Option Addr)(x2:ByteArray){K:cN tw→ad→Prop}{h0:ad}(h:sI x0 x1 x2 K h0):HC PG km [Gs x0,.pointer x1,.string x2] tw K h0:=dB yL Tryz.func30 Tryz.call30 rfl rfl (by kernel_rfl) h
def y9(x0:T5)(x1:ByteArray)(K:((T5)×Int)→ad→Prop)(h0:ad):Prop:=
 At (hnew h0 (Ky x0) fz) (fun h1=>
 At (hnew h1 N7 fz) (fun h2=>
 CondP (decide ((x1.size:Int)>(256:Int))) (
 ∃v3,aM h2 h0 0 v3∧
 ∃v4,ae h2 h0 1 v4∧
 ∃v5,ae h2 h0 2 v5∧
 ∃v6,ae h2 h0 3 v6∧
 ∃v7:SliceV,c7 h2 h0 4 v7∧
 (cU h2 h1 (QE v3 v4 v5 v6 v7) (fun h8=>
 ∃v9,aM h8 h1 0 v9∧
 ∃v10,ae h8 h1 1 v10∧
 ∃v11,ae h8 h1 2 v11∧
 ∃v12,ae h8 h1 3 v12∧
 ∃v13:SliceV,c7 h8 h1 4 v13∧
 K ((v9,v10,v11,v12,v13),2) h8))) (
 ∃v14:SliceV,c7 h2 h0 4 v14∧
 HC PG Co (qQ v14 x1) lj (fun(e15:ByteArray×Bool) h16=>
 CondP (!e15.2) (
 ∃v17,aM h16 h0 0 v17∧
 ∃v18,ae h16 h0 1 v18∧
 ∃v19,ae h16 h0 2 v19∧
 ∃v20,ae h16 h0 3 v20∧
 ∃v21:SliceV,c7 h16 h0 4 v21∧
 (cU h16 h1 (QE v17 v18 v19 v20 v21) (fun h22=>
 ∃v23,aM h22 h1 0 v23∧
 ∃v24,ae h22 h1 1 v24∧
 ∃v25,ae h22 h1 2 v25∧
 ∃v26,ae h22 h1 3 v26∧
 ∃v27:SliceV,c7 h22 h1 4 v27∧
 K ((v23,v24,v25,v26,v27),4) h22))) (
 ∃v28:SliceV,c7 h16 h0 4 v28∧
 HC PG wL (qQ v28 x1) [.c .slice] (fun(e29:SliceV) h30=>
 (dN h30 (adr (aj h0) 4) (.slice e29.a e29.len e29.cap) (fun h31=>
 ∃v32,aM h31 h0 0 v32∧
 ∃v33,ae h31 h0 1 v33∧
 ∃v34,ae h31 h0 2 v34∧
 ∃v35,ae h31 h0 3 v35∧
 ∃v36:SliceV,c7 h31 h0 4 v36∧
 (cU h31 h1 (QE v32 v33 v34 v35 v36) (fun h37=>
 ∃v38,aM h37 h1 0 v38∧
 ∃v39,ae h37 h1 1 v39∧
 ∃v40,ae h37 h1 2 v40∧
 ∃v41,ae h37 h1 3 v41∧
 ∃v42:SliceV,c7 h37 h1 4 v42∧
 K ((v38,v39,v40,v41,v42),0) h37))))) h16)) h2)))
theorem GP(x0:T5)(x1:ByteArray){K:cN xK→ad→Prop}{h0:ad}(h:y9 x0 x1 K h0):HC PG uZ [V7 x0,.string x1] xK K h0:=dB .nil Tryz.func31 Tryz.call31 rfl rfl (by kernel_rfl) h
def DG(x0:T6)(x1:T6)(K:(Bool)→ad→Prop)(h0:ad):Prop:=
 At (hnew h0 (mK x0) aH) (fun h1=>
 At (hnew h1 (mK x1) aH) (fun h2=>
 ∃v3,aM h2 h0 0 v3∧
 ∃v4,aM h2 h1 0 v4∧
 CondP (v3==v4) (
 ∃v5,aG h2 (adr (aj h0) 1) 0 v5∧
 ∃v6,aG h2 (adr (aj h0) 1) 1 v6∧
 ∃v7,aG h2 (adr (aj h0) 1) 2 v7∧
 ∃v8,aG h2 (adr (aj h1) 1) 0 v8∧
 ∃v9,aG h2 (adr (aj h1) 1) 1 v9∧
 ∃v10,aG h2 (adr (aj h1) 1) 2 v10∧
 K ((((v5==v8)&&((v6==v9)&&true)))&&((v7==v10)&&true)) h2) (
 K false h2)))
theorem LB(x0:T6)(x1:T6){K:cN [.c .bool]→ad→Prop}{h0:ad}(h:DG x0 x1 K h0):HC PG pM [Gs x0,Gs x1] [.c .bool] K h0:=dB .nil Tryz.func32 Tryz.call32 rfl rfl (by kernel_rfl) h
def tP(x0:T6)(K:(Int×Int×Int)→ad→Prop)(h0:ad):Prop:=
 At (hnew h0 (mK x0) aH) (fun h1=>
 At (hnew h1 VI cy) (fun h2=>
 ∃v3,aG h2 (adr (aj h0) 1) 0 v3∧
 ∃v4,aG h2 (adr (aj h0) 1) 1 v4∧
 ∃v5,aG h2 (adr (aj h0) 1) 2 v5∧
 (cU h2 h1 (VL v3 v4 v5) (fun h6=>
 ∃v7,ae h6 h1 0 v7∧
 ∃v8,ae h6 h1 1 v8∧
 ∃v9,ae h6 h1 2 v9∧
 K (v7,v8,v9) h6))))
theorem zW(x0:T6){K:cN KY→ad→Prop}{h0:ad}(h:tP x0 K h0):HC PG pn [Gs x0] KY K h0:=dB .nil Tryz.func33 Tryz.call33 rfl rfl (by kernel_rfl) h
def vO(x0:T6)(K:(Int)→ad→Prop)(h0:ad):Prop:=
 At (hnew h0 (mK x0) aH) (fun h1=>
 ∃v2,aM h1 h0 0 v2∧
 K v2 h1)
theorem CD(x0:T6){K:cN bT→ad→Prop}{h0:ad}(h:vO x0 K h0):HC PG rc [Gs x0] bT K h0:=dB .nil Tryz.func34 Tryz.call34 rfl rfl (by kernel_rfl) h
def rm(x0:Option Addr)(x1:Option Addr)(x2:Option Addr)(x3:ByteArray)(K:(Unit)→ad→Prop)(h0:ad):Prop:=
 (True∧(∀x y:Addr,x1=some x→x2=some y→fQ h0 x∧fQ h0 y)∧
 CondP (x1==x2) (
 K () h0) (
 Join (fun(t6:Bool) h7=>
 CondP t6 (
 HC PG jV (xx x1 x3) [.c .slice] (fun(e8:SliceV) h9=>
 HC PG jV (xx x2 x3) [.c .slice] (fun(e10:SliceV) h11=>
 HC PG im (Ik x0 e8 e10) [] (fun(e12:Unit) h13=>
 K () h13) h11) h9) h7) (
 HC PG dK [.pointer x1] [.c .str] (fun(e14:ByteArray) h15=>
 (((x3.size+e14.size:Nat):Int)≤9223372036854775807∧
 HC PG wO (xx x1 (x3++e14)) [.c .slice] (fun(e16:SliceV) h17=>
 HC PG wO (xx x2 (x3++e14)) [.c .slice] (fun(e18:SliceV) h19=>
 HC PG im (Ik x0 e16 e18) [] (fun(e20:Unit) h21=>
 HC PG jR [.pointer x1] [.c .slice] (fun(e22:SliceV) h23=>
 HC PG jR [.pointer x2] [.c .slice] (fun(e24:SliceV) h25=>
 LoopP (fun I26 (t27:SliceV×SliceV) h28=>
 Join (fun(t30:Bool) h31=>
 CondP t30 (
 Join (fun(t43:Bool) h44=>
 CondP t43 (
 (bZ 0 t27.1.len∧∃a45,t27.1.a=some a45∧
 ∃v46,aL h44 a45 ((0:Int).toNat*1) (.pointer v46)∧
 HC PG il (TR x0 v46 none (x3++e14)) [] (fun(e47:Unit) h48=>
 (((0:Int)≤(1:Int)∧(1:Int)≤((t27.1.len:Nat):Int))∧
 Bd (aU t27.1.a ((1:Int).toNat) t27.1.cap 1:Option Addr) (fun a49=>Bd (t27.1.len-((1:Int).toNat):Nat) (fun n50=>Bd (t27.1.cap-((1:Int).toNat):Nat) (fun n51=>
 I26 (⟨a49,n50,n51⟩,t27.2) h48))))) h44)) (
 Join (fun(t63:Bool) h64=>
 CondP t63 (
 (bZ 0 t27.2.len∧∃a65,t27.2.a=some a65∧
 ∃v66,aL h64 a65 ((0:Int).toNat*1) (.pointer v66)∧
 HC PG il (TR x0 none v66 (x3++e14)) [] (fun(e67:Unit) h68=>
 (((0:Int)≤(1:Int)∧(1:Int)≤((t27.2.len:Nat):Int))∧
 Bd (aU t27.2.a ((1:Int).toNat) t27.2.cap 1:Option Addr) (fun a69=>Bd (t27.2.len-((1:Int).toNat):Nat) (fun n70=>Bd (t27.2.cap-((1:Int).toNat):Nat) (fun n71=>
 I26 (t27.1,⟨a69,n70,n71⟩) h68))))) h64)) (
 (bZ 0 t27.1.len∧∃a72,t27.1.a=some a72∧
 ∃v73,aL h64 a72 ((0:Int).toNat*1) (.pointer v73)∧
 (bZ 0 t27.2.len∧∃a74,t27.2.a=some a74∧
 ∃v75,aL h64 a74 ((0:Int).toNat*1) (.pointer v75)∧
 HC PG il (TR x0 v73 v75 (x3++e14)) [] (fun(e76:Unit) h77=>
 (((0:Int)≤(1:Int)∧(1:Int)≤((t27.1.len:Nat):Int))∧
 Bd (aU t27.1.a ((1:Int).toNat) t27.1.cap 1:Option Addr) (fun a78=>Bd (t27.1.len-((1:Int).toNat):Nat) (fun n79=>Bd (t27.1.cap-((1:Int).toNat):Nat) (fun n80=>
 (((0:Int)≤(1:Int)∧(1:Int)≤((t27.2.len:Nat):Int))∧
 Bd (aU t27.2.a ((1:Int).toNat) t27.2.cap 1:Option Addr) (fun a81=>Bd (t27.2.len-((1:Int).toNat):Nat) (fun n82=>Bd (t27.2.cap-((1:Int).toNat):Nat) (fun n83=>
 I26 (⟨a78,n79,n80⟩,⟨a81,n82,n83⟩) h77))))))))) h64)))) (fun J52=>
 CondP ((t27.1.len:Int)==(0:Int)) (
 J52 true h44) (
 (bZ 0 t27.2.len∧∃a53,t27.2.a=some a53∧
 ∃v54,aL h44 a53 ((0:Int).toNat*1) (.pointer v54)∧
 (bZ 0 t27.1.len∧∃a55,t27.1.a=some a55∧
 ∃v56,aL h44 a55 ((0:Int).toNat*1) (.pointer v56)∧
 HC PG dK [.pointer v54] [.c .str] (fun(e57:ByteArray) h58=>
 (aL h58 a55 ((0:Int).toNat*1) (.pointer v56)∧
 ∃b59,(0:Int)≤(0:Int)∧e57[(0:Int).toNat]? =some b59∧
 HC PG dK [.pointer v56] [.c .str] (fun(e60:ByteArray) h61=>
 ∃b62,(0:Int)≤(0:Int)∧e60[(0:Int).toNat]? =some b62∧
 J52 (decide ((b59.toNat:Int)<(b62.toNat:Int))) h61) h58)) h44)))))) (fun J32=>
 CondP ((t27.2.len:Int)==(0:Int)) (
 J32 true h31) (
 CondP (decide ((t27.1.len:Int)>(0:Int))) (
 (bZ 0 t27.1.len∧∃a33,t27.1.a=some a33∧
 ∃v34,aL h31 a33 ((0:Int).toNat*1) (.pointer v34)∧
 (bZ 0 t27.2.len∧∃a35,t27.2.a=some a35∧
 ∃v36,aL h31 a35 ((0:Int).toNat*1) (.pointer v36)∧
 HC PG dK [.pointer v34] [.c .str] (fun(e37:ByteArray) h38=>
 (aL h38 a35 ((0:Int).toNat*1) (.pointer v36)∧
 ∃b39,(0:Int)≤(0:Int)∧e37[(0:Int).toNat]? =some b39∧
 HC PG dK [.pointer v36] [.c .str] (fun(e40:ByteArray) h41=>
 ∃b42,(0:Int)≤(0:Int)∧e40[(0:Int).toNat]? =some b42∧
 J32 (decide ((b39.toNat:Int)<(b42.toNat:Int))) h41) h38)) h31))) (
 J32 false h31)))) (
 K () h31)) (fun J29=>
 CondP (decide ((t27.1.len:Int)>(0:Int))) (
 J29 true h28) (
 J29 (decide ((t27.2.len:Int)>(0:Int))) h28))) (e22,e24) h25) h23) h21) h19) h17) h15)) h7)) (fun J1=>
 CondP x1.isNone (
 J1 true h0) (
 CondP x2.isNone (
 J1 true h0) (
 HC PG dK [.pointer x1] [.c .str] (fun(e2:ByteArray) h3=>
 HC PG dK [.pointer x2] [.c .str] (fun(e4:ByteArray) h5=>
 J1 (!(e2.toList==e4.toList)) h5) h3) h0)))))
noncomputable def CT:Ann:=.node (.node .nil (.node .nil (.join [(15,.c .bool)] .nil .nil))) (.node .nil (.node .nil (.node .nil (.loop [(9,.c .slice),(10,.c .slice)] (.node (.join [(60,.c .bool)] .nil .nil) (.join [(74,.c .bool)] .nil (.node .nil (.join [(104,.c .bool)] .nil .nil))))))))
theorem vL(x0:Option Addr)(x1:Option Addr)(x2:Option Addr)(x3:ByteArray){K:cN []→ad→Prop}{h0:ad}(h:rm x0 x1 x2 x3 K h0):HC PG il (TR x0 x1 x2 x3) [] K h0:=dB CT Tryz.func35 Tryz.call35 rfl rfl (by kernel_rfl) h
def uA(x0:T6)(K:(Option Addr)→ad→Prop)(h0:ad):Prop:=
 At (hnew h0 (mK x0) aH) (fun h1=>
 ∃v2,au h1 h0 5 v2∧
 K v2 h1)
theorem A9(x0:T6){K:cN [.c .ptr]→ad→Prop}{h0:ad}(h:uA x0 K h0):HC PG mq [Gs x0] [.c .ptr] K h0:=dB .nil Tryz.func36 Tryz.call36 rfl rfl (by kernel_rfl) h
def rl(x0:Option Addr)(x1:Option Addr)(x2:Option Addr)(K:(Unit)→ad→Prop)(h0:ad):Prop:=
 (True∧(∀x y:Addr,x1=some x→x2=some y→fQ h0 x∧fQ h0 y)∧
 CondP (x1==x2) (
 K () h0) (
 HC PG dF [.pointer x1] [.c .bool] (fun(e1:Bool) h2=>
 CondP e1 (
 HC PG eN [.pointer x1] [.c .slice] (fun(e3:SliceV) h4=>
 HC PG eN [.pointer x2] [.c .slice] (fun(e5:SliceV) h6=>
 HC PG im (Ik x0 e3 e5) [] (fun(e7:Unit) h8=>
 K () h8) h6) h4) h2) (
 LoopP (fun I9 (t10:Int) h11=>
 CondP (decide (t10<(32:Int))) (
 Join (fun(t28:Unit) h29=>
 I9 (IntKind.wrap .i64 (t10+1)) h29) (fun J12=>
 HC PG gT (kY x1 t10) gf (fun(e13:(Option Addr)×Bool) h14=>
 HC PG gT (kY x2 t10) gf (fun(e15:(Option Addr)×Bool) h16=>
 Join (fun(t18:Bool) h19=>
 CondP t18 (
 HC PG nJ (UY x0 e13.1 e15.1) [] (fun(e20:Unit) h21=>
 J12 () h21) h19) (
 HC PG un (kY x1 t10) [.c .slice] (fun(e22:SliceV) h23=>
 HC PG un (kY x2 t10) [.c .slice] (fun(e24:SliceV) h25=>
 HC PG im (Ik x0 e22 e24) [] (fun(e26:Unit) h27=>
 J12 () h27) h25) h23) h19)) (fun J17=>
 CondP e13.2 (
 J17 e15.2 h16) (
 J17 false h16))) h14) h11)) (
 K () h11)) 0 h2)) h0))
noncomputable def CS:Ann:=.node .nil (.node .nil (.node .nil (.loop [(22,.c (.int .i64))] (.node .nil (.node .nil (.join [] (.node .nil (.node .nil (.node .nil (.node (.join [(40,.c .bool)] .nil .nil) .nil)))) .nil))))))
theorem vK(x0:Option Addr)(x1:Option Addr)(x2:Option Addr){K:cN []→ad→Prop}{h0:ad}(h:rl x0 x1 x2 K h0):HC PG nJ (UY x0 x1 x2) [] K h0:=dB CS Tryz.func37 Tryz.call37 rfl rfl (by kernel_rfl) h
end Go.Proofs
