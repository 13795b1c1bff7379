/- A part of the proof that the named laws of this program answer true, whatever the input. -/
import Derived.Test.YtncppacbfagpgaaGreatTreeF
set_option maxRecDepth 100000
set_option linter.unusedVariables false
namespace Go.Proofs
open Go.Lift
def tT(x0:Int)(x1:Int×Int×Int)(x2:SliceV)(x3:SliceV)(x4:SliceV)(x5:SliceV)(x6:SliceV)(K:(Bool)→ad→Prop)(h0:ad):Prop:=
 At (hnew h0 (Dm x1) cC) (fun h1=>
 HC PG xX [] [.c .bool] (fun(e2:Bool) h3=>
 CondP (!e2) (
 K false h3) (
 ∃v4,ae h3 h0 0 v4∧
 ∃v5,ae h3 h0 1 v5∧
 ∃v6,ae h3 h0 2 v6∧
 HC PG zR [.int .u8 x0,zm v4 v5 v6,.slice x2.a x2.len x2.cap,.slice x3.a x3.len x3.cap,.slice x4.a x4.len x4.cap,.slice x5.a x5.len x5.cap,.slice x6.a x6.len x6.cap,.bool false] [.agg ((.int .i64)::(.int .u64)::(.int .u64)::(.int .u64):: .ptr:: .ptr::(.int .i64)::(.int .u64)::(.int .u64)::(.int .u64):: .ptr:: .ptr::(.int .i64)::(.int .u64)::(.int .u64)::(.int .u64):: .ptr:: .ptr::(.int .i64)::(.int .u64)::(.int .u64)::(.int .u64):: .slice::(.int .i64)::(.int .u64)::(.int .u64)::(.int .u64):: .slice::(.int .i64)::(.int .u64)::(.int .u64)::(.int .u64):: .slice:: [])] (fun(e7:Int×Int×Int×Int×(Option Addr)×(Option Addr)×Int×Int×Int×Int×(Option Addr)×(Option Addr)×Int×Int×Int×Int×(Option Addr)×(Option Addr)×Int×Int×Int×Int×SliceV×Int×Int×Int×Int×SliceV×T5) h8=>
 At (hnew h8 ((.int .i64 0)::(.int .u64 0)::(.int .u64 0)::(.int .u64 0)::(.pointer none)::(.pointer none)::(.int .i64 0)::(.int .u64 0)::(.int .u64 0)::(.int .u64 0)::(.pointer none)::(.pointer none)::(.int .i64 0)::(.int .u64 0)::(.int .u64 0)::(.int .u64 0)::(.pointer none)::(.pointer none)::(.int .i64 0)::(.int .u64 0)::(.int .u64 0)::(.int .u64 0)::(.slice none 0 0)::(.int .i64 0)::(.int .u64 0)::(.int .u64 0)::(.int .u64 0)::(.slice none 0 0)::(.int .i64 0)::(.int .u64 0)::(.int .u64 0)::(.int .u64 0)::(.slice none 0 0):: []) rC) (fun h9=>
 (qE h9 (some (ag h8)) 0 ((.int .i64 e7.1)::(.int .u64 e7.2.1)::(.int .u64 e7.2.2.1)::(.int .u64 e7.2.2.2.1)::(.pointer e7.2.2.2.2.1)::(.pointer e7.2.2.2.2.2.1)::(.int .i64 e7.2.2.2.2.2.2.1)::(.int .u64 e7.2.2.2.2.2.2.2.1)::(.int .u64 e7.2.2.2.2.2.2.2.2.1)::(.int .u64 e7.2.2.2.2.2.2.2.2.2.1)::(.pointer e7.2.2.2.2.2.2.2.2.2.2.1)::(.pointer e7.2.2.2.2.2.2.2.2.2.2.2.1)::(.int .i64 e7.2.2.2.2.2.2.2.2.2.2.2.2.1)::(.int .u64 e7.2.2.2.2.2.2.2.2.2.2.2.2.2.1)::(.int .u64 e7.2.2.2.2.2.2.2.2.2.2.2.2.2.2.1)::(.int .u64 e7.2.2.2.2.2.2.2.2.2.2.2.2.2.2.2.1)::(.pointer e7.2.2.2.2.2.2.2.2.2.2.2.2.2.2.2.2.1)::(.pointer e7.2.2.2.2.2.2.2.2.2.2.2.2.2.2.2.2.2.1)::(.int .i64 e7.2.2.2.2.2.2.2.2.2.2.2.2.2.2.2.2.2.2.1)::(.int .u64 e7.2.2.2.2.2.2.2.2.2.2.2.2.2.2.2.2.2.2.2.1)::(.int .u64 e7.2.2.2.2.2.2.2.2.2.2.2.2.2.2.2.2.2.2.2.2.1)::(.int .u64 e7.2.2.2.2.2.2.2.2.2.2.2.2.2.2.2.2.2.2.2.2.2.1)::(.slice e7.2.2.2.2.2.2.2.2.2.2.2.2.2.2.2.2.2.2.2.2.2.2.1.a e7.2.2.2.2.2.2.2.2.2.2.2.2.2.2.2.2.2.2.2.2.2.2.1.len e7.2.2.2.2.2.2.2.2.2.2.2.2.2.2.2.2.2.2.2.2.2.2.1.cap)::(.int .i64 e7.2.2.2.2.2.2.2.2.2.2.2.2.2.2.2.2.2.2.2.2.2.2.2.1)::(.int .u64 e7.2.2.2.2.2.2.2.2.2.2.2.2.2.2.2.2.2.2.2.2.2.2.2.2.1)::(.int .u64 e7.2.2.2.2.2.2.2.2.2.2.2.2.2.2.2.2.2.2.2.2.2.2.2.2.2.1)::(.int .u64 e7.2.2.2.2.2.2.2.2.2.2.2.2.2.2.2.2.2.2.2.2.2.2.2.2.2.2.1)::(.slice e7.2.2.2.2.2.2.2.2.2.2.2.2.2.2.2.2.2.2.2.2.2.2.2.2.2.2.2.1.a e7.2.2.2.2.2.2.2.2.2.2.2.2.2.2.2.2.2.2.2.2.2.2.2.2.2.2.2.1.len e7.2.2.2.2.2.2.2.2.2.2.2.2.2.2.2.2.2.2.2.2.2.2.2.2.2.2.2.1.cap)::(.int .i64 e7.2.2.2.2.2.2.2.2.2.2.2.2.2.2.2.2.2.2.2.2.2.2.2.2.2.2.2.2.1)::(.int .u64 e7.2.2.2.2.2.2.2.2.2.2.2.2.2.2.2.2.2.2.2.2.2.2.2.2.2.2.2.2.2.1)::(.int .u64 e7.2.2.2.2.2.2.2.2.2.2.2.2.2.2.2.2.2.2.2.2.2.2.2.2.2.2.2.2.2.2.1)::(.int .u64 e7.2.2.2.2.2.2.2.2.2.2.2.2.2.2.2.2.2.2.2.2.2.2.2.2.2.2.2.2.2.2.2.1)::(.slice e7.2.2.2.2.2.2.2.2.2.2.2.2.2.2.2.2.2.2.2.2.2.2.2.2.2.2.2.2.2.2.2.2.a e7.2.2.2.2.2.2.2.2.2.2.2.2.2.2.2.2.2.2.2.2.2.2.2.2.2.2.2.2.2.2.2.2.len e7.2.2.2.2.2.2.2.2.2.2.2.2.2.2.2.2.2.2.2.2.2.2.2.2.2.2.2.2.2.2.2.2.cap):: [])∧
 At (fk h9 (ag h8) 0 ((.int .i64 e7.1)::(.int .u64 e7.2.1)::(.int .u64 e7.2.2.1)::(.int .u64 e7.2.2.2.1)::(.pointer e7.2.2.2.2.1)::(.pointer e7.2.2.2.2.2.1)::(.int .i64 e7.2.2.2.2.2.2.1)::(.int .u64 e7.2.2.2.2.2.2.2.1)::(.int .u64 e7.2.2.2.2.2.2.2.2.1)::(.int .u64 e7.2.2.2.2.2.2.2.2.2.1)::(.pointer e7.2.2.2.2.2.2.2.2.2.2.1)::(.pointer e7.2.2.2.2.2.2.2.2.2.2.2.1)::(.int .i64 e7.2.2.2.2.2.2.2.2.2.2.2.2.1)::(.int .u64 e7.2.2.2.2.2.2.2.2.2.2.2.2.2.1)::(.int .u64 e7.2.2.2.2.2.2.2.2.2.2.2.2.2.2.1)::(.int .u64 e7.2.2.2.2.2.2.2.2.2.2.2.2.2.2.2.1)::(.pointer e7.2.2.2.2.2.2.2.2.2.2.2.2.2.2.2.2.1)::(.pointer e7.2.2.2.2.2.2.2.2.2.2.2.2.2.2.2.2.2.1)::(.int .i64 e7.2.2.2.2.2.2.2.2.2.2.2.2.2.2.2.2.2.2.1)::(.int .u64 e7.2.2.2.2.2.2.2.2.2.2.2.2.2.2.2.2.2.2.2.1)::(.int .u64 e7.2.2.2.2.2.2.2.2.2.2.2.2.2.2.2.2.2.2.2.2.1)::(.int .u64 e7.2.2.2.2.2.2.2.2.2.2.2.2.2.2.2.2.2.2.2.2.2.1)::(.slice e7.2.2.2.2.2.2.2.2.2.2.2.2.2.2.2.2.2.2.2.2.2.2.1.a e7.2.2.2.2.2.2.2.2.2.2.2.2.2.2.2.2.2.2.2.2.2.2.1.len e7.2.2.2.2.2.2.2.2.2.2.2.2.2.2.2.2.2.2.2.2.2.2.1.cap)::(.int .i64 e7.2.2.2.2.2.2.2.2.2.2.2.2.2.2.2.2.2.2.2.2.2.2.2.1)::(.int .u64 e7.2.2.2.2.2.2.2.2.2.2.2.2.2.2.2.2.2.2.2.2.2.2.2.2.1)::(.int .u64 e7.2.2.2.2.2.2.2.2.2.2.2.2.2.2.2.2.2.2.2.2.2.2.2.2.2.1)::(.int .u64 e7.2.2.2.2.2.2.2.2.2.2.2.2.2.2.2.2.2.2.2.2.2.2.2.2.2.2.1)::(.slice e7.2.2.2.2.2.2.2.2.2.2.2.2.2.2.2.2.2.2.2.2.2.2.2.2.2.2.2.1.a e7.2.2.2.2.2.2.2.2.2.2.2.2.2.2.2.2.2.2.2.2.2.2.2.2.2.2.2.1.len e7.2.2.2.2.2.2.2.2.2.2.2.2.2.2.2.2.2.2.2.2.2.2.2.2.2.2.2.1.cap)::(.int .i64 e7.2.2.2.2.2.2.2.2.2.2.2.2.2.2.2.2.2.2.2.2.2.2.2.2.2.2.2.2.1)::(.int .u64 e7.2.2.2.2.2.2.2.2.2.2.2.2.2.2.2.2.2.2.2.2.2.2.2.2.2.2.2.2.2.1)::(.int .u64 e7.2.2.2.2.2.2.2.2.2.2.2.2.2.2.2.2.2.2.2.2.2.2.2.2.2.2.2.2.2.2.1)::(.int .u64 e7.2.2.2.2.2.2.2.2.2.2.2.2.2.2.2.2.2.2.2.2.2.2.2.2.2.2.2.2.2.2.2.1)::(.slice e7.2.2.2.2.2.2.2.2.2.2.2.2.2.2.2.2.2.2.2.2.2.2.2.2.2.2.2.2.2.2.2.2.a e7.2.2.2.2.2.2.2.2.2.2.2.2.2.2.2.2.2.2.2.2.2.2.2.2.2.2.2.2.2.2.2.2.len e7.2.2.2.2.2.2.2.2.2.2.2.2.2.2.2.2.2.2.2.2.2.2.2.2.2.2.2.2.2.2.2.2.cap):: [])) (fun h10=>
 Join (fun(t117:Addr×Addr×Addr) h118=>
 ∃v119,ay h118 t117.1 0 (.int .i64 v119)∧
 ∃v120,ay h118 t117.1 1 (.int .u64 v120)∧
 ∃v121,ay h118 t117.1 2 (.int .u64 v121)∧
 ∃v122,ay h118 t117.1 3 (.int .u64 v122)∧
 ∃v123,ay h118 t117.1 4 (.pointer v123)∧
 ∃v124,ay h118 t117.1 5 (.pointer v124)∧
 ∃v125,ay h118 t117.2.1 0 (.int .i64 v125)∧
 ∃v126,ay h118 t117.2.1 1 (.int .u64 v126)∧
 ∃v127,ay h118 t117.2.1 2 (.int .u64 v127)∧
 ∃v128,ay h118 t117.2.1 3 (.int .u64 v128)∧
 ∃v129,ay h118 t117.2.1 4 (.pointer v129)∧
 ∃v130,ay h118 t117.2.1 5 (.pointer v130)∧
 ∃v131,ay h118 t117.2.2 0 (.int .i64 v131)∧
 ∃v132,ay h118 t117.2.2 1 (.int .u64 v132)∧
 ∃v133,ay h118 t117.2.2 2 (.int .u64 v133)∧
 ∃v134,ay h118 t117.2.2 3 (.int .u64 v134)∧
 ∃v135,ay h118 t117.2.2 4 (.pointer v135)∧
 ∃v136,ay h118 t117.2.2 5 (.pointer v136)∧
 HC PG qY [jR v119 v120 v121 v122 v123 v124,jR v125 v126 v127 v128 v129 v130,jR v131 v132 v133 v134 v135 v136,.int .i64 0] MZ (fun(e137:(T6)×SliceV×Int) h138=>
 nv h138 rB aL (oa e137.1) (fun h140=>
 CondP (e137.2.2 !=(0:Int)) (
 CondP (e137.2.2==(8:Int)) (
 K (decide ((e137.2.1.len:Int)>(0:Int))) h140) (
 K false h140)) (
 ∃v141,ay h140 t117.1 0 (.int .i64 v141)∧
 ∃v142,ay h140 t117.1 1 (.int .u64 v142)∧
 ∃v143,ay h140 t117.1 2 (.int .u64 v143)∧
 ∃v144,ay h140 t117.1 3 (.int .u64 v144)∧
 ∃v145,ay h140 t117.1 4 (.pointer v145)∧
 ∃v146,ay h140 t117.1 5 (.pointer v146)∧
 ∃v147,ay h140 t117.2.2 0 (.int .i64 v147)∧
 ∃v148,ay h140 t117.2.2 1 (.int .u64 v148)∧
 ∃v149,ay h140 t117.2.2 2 (.int .u64 v149)∧
 ∃v150,ay h140 t117.2.2 3 (.int .u64 v150)∧
 ∃v151,ay h140 t117.2.2 4 (.pointer v151)∧
 ∃v152,ay h140 t117.2.2 5 (.pointer v152)∧
 ∃v153,ay h140 t117.2.1 0 (.int .i64 v153)∧
 ∃v154,ay h140 t117.2.1 1 (.int .u64 v154)∧
 ∃v155,ay h140 t117.2.1 2 (.int .u64 v155)∧
 ∃v156,ay h140 t117.2.1 3 (.int .u64 v156)∧
 ∃v157,ay h140 t117.2.1 4 (.pointer v157)∧
 ∃v158,ay h140 t117.2.1 5 (.pointer v158)∧
 HC PG qY [jR v141 v142 v143 v144 v145 v146,jR v147 v148 v149 v150 v151 v152,jR v153 v154 v155 v156 v157 v158,.int .i64 0] MZ (fun(e159:(T6)×SliceV×Int) h160=>
 nv h160 rB aL (oa e159.1) (fun h162=>
 (cj (2:Int) 3∧
 ∃v163:SliceV,cd h162 (adr (adr (ag h8) 18) ((2:Int).toNat*5)) 4 v163∧
 LoopP (fun I164 (t165:Int) h166=>
 CondP (decide (t165<(v163.len:Int))) (
 (cj t165 v163.len∧∃a167,v163.a=some a167∧
 ∃v168,aD h166 (adr a167 (t165.toNat*2)) 0 v168∧
 ∃v169,aD h166 (adr a167 (t165.toNat*2)) 1 v169∧
 nv h166 nZ dH (jH v168 v169) (fun h171=>
 Join (fun(t352:Addr×Addr) h353=>
 Join (fun(t369:Bool) h370=>
 CondP t369 (
 K false h370) (
 I164 (IntKind.wrap .i64 (t165+1)) h370)) (fun J354=>
 ∃v355,ay h353 t352.1 0 (.string v355)∧
 ∃v356,ay h353 t352.1 1 (.bool v356)∧
 ∃v357,ay h353 t352.2 0 (.string v357)∧
 ∃v358,ay h353 t352.2 1 (.bool v358)∧
 CondP ((v355.toList==v357.toList)&&((v356==v358)&&true)) (
 ∃v359,aN h353 h138 0 v359∧
 ∃v360,ae h353 h138 1 v360∧
 ∃v361,ae h353 h138 2 v361∧
 ∃v362,ae h353 h138 3 v362∧
 ∃v363,ax h353 h138 4 v363∧
 ∃v364,ax h353 h138 5 v364∧
 ∃v365,au h353 h166 0 v365∧
 ∃v366,au h353 h166 1 v366∧
 HC PG bV [jR v359 v360 v361 v362 v363 v364,.string v365] kV (fun(e367:ByteArray×Bool) h368=>
 (au h368 h166 1 v366∧
 ((ay h368 t352.2 0 (.string v357)∧ay h368 t352.2 1 (.bool v358))∧
 ((ay h368 t352.1 0 (.string v355)∧ay h368 t352.1 1 (.bool v356))∧
 J354 (!(((e367.1.toList==v366.toList)&&((e367.2==true)&&true)))) h368)))) h353) (
 J354 false h353))) (fun J263=>
 ∃v264,ay h171 t117.1 0 (.int .i64 v264)∧
 ∃v265,ay h171 t117.1 1 (.int .u64 v265)∧
 ∃v266,ay h171 t117.1 2 (.int .u64 v266)∧
 ∃v267,ay h171 t117.1 3 (.int .u64 v267)∧
 ∃v268,ay h171 t117.1 4 (.pointer v268)∧
 ∃v269,ay h171 t117.1 5 (.pointer v269)∧
 ∃v270,au h171 h166 0 v270∧
 ∃v271,ay h171 t117.2.1 0 (.int .i64 v271)∧
 ∃v272,ay h171 t117.2.1 1 (.int .u64 v272)∧
 ∃v273,ay h171 t117.2.1 2 (.int .u64 v273)∧
 ∃v274,ay h171 t117.2.1 3 (.int .u64 v274)∧
 ∃v275,ay h171 t117.2.1 4 (.pointer v275)∧
 ∃v276,ay h171 t117.2.1 5 (.pointer v276)∧
 ∃v277,au h171 h166 0 v277∧
 ((HC PG bV [jR v264 v265 v266 v267 v268 v269,.string v270] kV (fun(e278:ByteArray×Bool) h279=>
 (au h279 h166 0 v277∧
 ((ay h279 t117.2.1 0 (.int .i64 v271)∧ay h279 t117.2.1 1 (.int .u64 v272)∧ay h279 t117.2.1 2 (.int .u64 v273)∧ay h279 t117.2.1 3 (.int .u64 v274)∧ay h279 t117.2.1 4 (.pointer v275)∧ay h279 t117.2.1 5 (.pointer v276))∧
 ((HC PG bV [jR v271 v272 v273 v274 v275 v276,.string v277] kV (fun(e280:ByteArray×Bool) h281=>
 ((At (hnew h281 uT bf) (fun h282=>
 At (hnew h282 uT bf) (fun h283=>
 (cp h283 h281 (pO e278) (fun h284=>
 (cp h284 h282 (pO e280) (fun h285=>
 J263 (ag h281,ag h282) h285)))))))∧
 At (hnew h281 uT bf) (fun h286=>
 nv h286 uT bf (pO e278) (fun h288=>
 (cp h288 h281 (pO e280) (fun h289=>
 J263 (ag h286,ag h281) h289)))))) h279)∧
 ((At (hnew h279 uT bf) (fun h290=>
 (au h290 h166 0 v277∧
 ((ay h290 t117.2.1 0 (.int .i64 v271)∧ay h290 t117.2.1 1 (.int .u64 v272)∧ay h290 t117.2.1 2 (.int .u64 v273)∧ay h290 t117.2.1 3 (.int .u64 v274)∧ay h290 t117.2.1 4 (.pointer v275)∧ay h290 t117.2.1 5 (.pointer v276))∧
 ((HC PG bV [jR v271 v272 v273 v274 v275 v276,.string v277] kV (fun(e291:ByteArray×Bool) h292=>
 At (hnew h292 uT bf) (fun h293=>
 (cp h293 h279 (pO e278) (fun h294=>
 (cp h294 h292 (pO e291) (fun h295=>
 J263 (ag h279,ag h292) h295)))))) h290)∧
 At (hnew h290 uT bf) (fun h296=>
 (au h296 h166 0 v277∧
 ((ay h296 t117.2.1 0 (.int .i64 v271)∧ay h296 t117.2.1 1 (.int .u64 v272)∧ay h296 t117.2.1 2 (.int .u64 v273)∧ay h296 t117.2.1 3 (.int .u64 v274)∧ay h296 t117.2.1 4 (.pointer v275)∧ay h296 t117.2.1 5 (.pointer v276))∧
 HC PG bV [jR v271 v272 v273 v274 v275 v276,.string v277] kV (fun(e297:ByteArray×Bool) h298=>
 (cp h298 h279 (pO e278) (fun h299=>
 (cp h299 h290 (pO e297) (fun h300=>
 J263 (ag h279,ag h290) h300))))) h296))))))))∧
 At (hnew h279 uT bf) (fun h301=>
 (au h301 h166 0 v277∧
 ((ay h301 t117.2.1 0 (.int .i64 v271)∧ay h301 t117.2.1 1 (.int .u64 v272)∧ay h301 t117.2.1 2 (.int .u64 v273)∧ay h301 t117.2.1 3 (.int .u64 v274)∧ay h301 t117.2.1 4 (.pointer v275)∧ay h301 t117.2.1 5 (.pointer v276))∧
 ((HC PG bV [jR v271 v272 v273 v274 v275 v276,.string v277] kV (fun(e302:ByteArray×Bool) h303=>
 nv h303 uT bf (pO e278) (fun h305=>
 (cp h305 h279 (pO e302) (fun h306=>
 J263 (ag h303,ag h279) h306)))) h301)∧
 At (hnew h301 uT bf) (fun h307=>
 (au h307 h166 0 v277∧
 ((ay h307 t117.2.1 0 (.int .i64 v271)∧ay h307 t117.2.1 1 (.int .u64 v272)∧ay h307 t117.2.1 2 (.int .u64 v273)∧ay h307 t117.2.1 3 (.int .u64 v274)∧ay h307 t117.2.1 4 (.pointer v275)∧ay h307 t117.2.1 5 (.pointer v276))∧
 HC PG bV [jR v271 v272 v273 v274 v275 v276,.string v277] kV (fun(e308:ByteArray×Bool) h309=>
 (cp h309 h301 (pO e278) (fun h310=>
 (cp h310 h279 (pO e308) (fun h311=>
 J263 (ag h301,ag h279) h311))))) h307)))))))))))) h171)∧
 ((At (hnew h171 uT bf) (fun h312=>
 (au h312 h166 0 v277∧
 ((ay h312 t117.2.1 0 (.int .i64 v271)∧ay h312 t117.2.1 1 (.int .u64 v272)∧ay h312 t117.2.1 2 (.int .u64 v273)∧ay h312 t117.2.1 3 (.int .u64 v274)∧ay h312 t117.2.1 4 (.pointer v275)∧ay h312 t117.2.1 5 (.pointer v276))∧
 (au h312 h166 0 v270∧
 ((ay h312 t117.1 0 (.int .i64 v264)∧ay h312 t117.1 1 (.int .u64 v265)∧ay h312 t117.1 2 (.int .u64 v266)∧ay h312 t117.1 3 (.int .u64 v267)∧ay h312 t117.1 4 (.pointer v268)∧ay h312 t117.1 5 (.pointer v269))∧
 ((HC PG bV [jR v264 v265 v266 v267 v268 v269,.string v270] kV (fun(e313:ByteArray×Bool) h314=>
 (au h314 h166 0 v277∧
 ((ay h314 t117.2.1 0 (.int .i64 v271)∧ay h314 t117.2.1 1 (.int .u64 v272)∧ay h314 t117.2.1 2 (.int .u64 v273)∧ay h314 t117.2.1 3 (.int .u64 v274)∧ay h314 t117.2.1 4 (.pointer v275)∧ay h314 t117.2.1 5 (.pointer v276))∧
 ((HC PG bV [jR v271 v272 v273 v274 v275 v276,.string v277] kV (fun(e315:ByteArray×Bool) h316=>
 At (hnew h316 uT bf) (fun h317=>
 (cp h317 h171 (pO e313) (fun h318=>
 (cp h318 h316 (pO e315) (fun h319=>
 J263 (ag h171,ag h316) h319)))))) h314)∧
 At (hnew h314 uT bf) (fun h320=>
 (au h320 h166 0 v277∧
 ((ay h320 t117.2.1 0 (.int .i64 v271)∧ay h320 t117.2.1 1 (.int .u64 v272)∧ay h320 t117.2.1 2 (.int .u64 v273)∧ay h320 t117.2.1 3 (.int .u64 v274)∧ay h320 t117.2.1 4 (.pointer v275)∧ay h320 t117.2.1 5 (.pointer v276))∧
 HC PG bV [jR v271 v272 v273 v274 v275 v276,.string v277] kV (fun(e321:ByteArray×Bool) h322=>
 (cp h322 h171 (pO e313) (fun h323=>
 (cp h323 h314 (pO e321) (fun h324=>
 J263 (ag h171,ag h314) h324))))) h320))))))) h312)∧
 At (hnew h312 uT bf) (fun h325=>
 (au h325 h166 0 v277∧
 ((ay h325 t117.2.1 0 (.int .i64 v271)∧ay h325 t117.2.1 1 (.int .u64 v272)∧ay h325 t117.2.1 2 (.int .u64 v273)∧ay h325 t117.2.1 3 (.int .u64 v274)∧ay h325 t117.2.1 4 (.pointer v275)∧ay h325 t117.2.1 5 (.pointer v276))∧
 (au h325 h166 0 v270∧
 ((ay h325 t117.1 0 (.int .i64 v264)∧ay h325 t117.1 1 (.int .u64 v265)∧ay h325 t117.1 2 (.int .u64 v266)∧ay h325 t117.1 3 (.int .u64 v267)∧ay h325 t117.1 4 (.pointer v268)∧ay h325 t117.1 5 (.pointer v269))∧
 HC PG bV [jR v264 v265 v266 v267 v268 v269,.string v270] kV (fun(e326:ByteArray×Bool) h327=>
 (au h327 h166 0 v277∧
 ((ay h327 t117.2.1 0 (.int .i64 v271)∧ay h327 t117.2.1 1 (.int .u64 v272)∧ay h327 t117.2.1 2 (.int .u64 v273)∧ay h327 t117.2.1 3 (.int .u64 v274)∧ay h327 t117.2.1 4 (.pointer v275)∧ay h327 t117.2.1 5 (.pointer v276))∧
 HC PG bV [jR v271 v272 v273 v274 v275 v276,.string v277] kV (fun(e328:ByteArray×Bool) h329=>
 (cp h329 h171 (pO e326) (fun h330=>
 (cp h330 h312 (pO e328) (fun h331=>
 J263 (ag h171,ag h312) h331))))) h327))) h325))))))))))))∧
 At (hnew h171 uT bf) (fun h332=>
 (au h332 h166 0 v277∧
 ((ay h332 t117.2.1 0 (.int .i64 v271)∧ay h332 t117.2.1 1 (.int .u64 v272)∧ay h332 t117.2.1 2 (.int .u64 v273)∧ay h332 t117.2.1 3 (.int .u64 v274)∧ay h332 t117.2.1 4 (.pointer v275)∧ay h332 t117.2.1 5 (.pointer v276))∧
 (au h332 h166 0 v270∧
 ((ay h332 t117.1 0 (.int .i64 v264)∧ay h332 t117.1 1 (.int .u64 v265)∧ay h332 t117.1 2 (.int .u64 v266)∧ay h332 t117.1 3 (.int .u64 v267)∧ay h332 t117.1 4 (.pointer v268)∧ay h332 t117.1 5 (.pointer v269))∧
 ((HC PG bV [jR v264 v265 v266 v267 v268 v269,.string v270] kV (fun(e333:ByteArray×Bool) h334=>
 (au h334 h166 0 v277∧
 ((ay h334 t117.2.1 0 (.int .i64 v271)∧ay h334 t117.2.1 1 (.int .u64 v272)∧ay h334 t117.2.1 2 (.int .u64 v273)∧ay h334 t117.2.1 3 (.int .u64 v274)∧ay h334 t117.2.1 4 (.pointer v275)∧ay h334 t117.2.1 5 (.pointer v276))∧
 ((HC PG bV [jR v271 v272 v273 v274 v275 v276,.string v277] kV (fun(e335:ByteArray×Bool) h336=>
 nv h336 uT bf (pO e333) (fun h338=>
 (cp h338 h171 (pO e335) (fun h339=>
 J263 (ag h336,ag h171) h339)))) h334)∧
 At (hnew h334 uT bf) (fun h340=>
 (au h340 h166 0 v277∧
 ((ay h340 t117.2.1 0 (.int .i64 v271)∧ay h340 t117.2.1 1 (.int .u64 v272)∧ay h340 t117.2.1 2 (.int .u64 v273)∧ay h340 t117.2.1 3 (.int .u64 v274)∧ay h340 t117.2.1 4 (.pointer v275)∧ay h340 t117.2.1 5 (.pointer v276))∧
 HC PG bV [jR v271 v272 v273 v274 v275 v276,.string v277] kV (fun(e341:ByteArray×Bool) h342=>
 (cp h342 h334 (pO e333) (fun h343=>
 (cp h343 h171 (pO e341) (fun h344=>
 J263 (ag h334,ag h171) h344))))) h340))))))) h332)∧
 At (hnew h332 uT bf) (fun h345=>
 (au h345 h166 0 v277∧
 ((ay h345 t117.2.1 0 (.int .i64 v271)∧ay h345 t117.2.1 1 (.int .u64 v272)∧ay h345 t117.2.1 2 (.int .u64 v273)∧ay h345 t117.2.1 3 (.int .u64 v274)∧ay h345 t117.2.1 4 (.pointer v275)∧ay h345 t117.2.1 5 (.pointer v276))∧
 (au h345 h166 0 v270∧
 ((ay h345 t117.1 0 (.int .i64 v264)∧ay h345 t117.1 1 (.int .u64 v265)∧ay h345 t117.1 2 (.int .u64 v266)∧ay h345 t117.1 3 (.int .u64 v267)∧ay h345 t117.1 4 (.pointer v268)∧ay h345 t117.1 5 (.pointer v269))∧
 HC PG bV [jR v264 v265 v266 v267 v268 v269,.string v270] kV (fun(e346:ByteArray×Bool) h347=>
 (au h347 h166 0 v277∧
 ((ay h347 t117.2.1 0 (.int .i64 v271)∧ay h347 t117.2.1 1 (.int .u64 v272)∧ay h347 t117.2.1 2 (.int .u64 v273)∧ay h347 t117.2.1 3 (.int .u64 v274)∧ay h347 t117.2.1 4 (.pointer v275)∧ay h347 t117.2.1 5 (.pointer v276))∧
 HC PG bV [jR v271 v272 v273 v274 v275 v276,.string v277] kV (fun(e348:ByteArray×Bool) h349=>
 (cp h349 h332 (pO e346) (fun h350=>
 (cp h350 h171 (pO e348) (fun h351=>
 J263 (ag h332,ag h171) h351))))) h347))) h345))))))))))))))))) (
 (cj 1 3∧
 ∃v371:SliceV,cd h166 (adr (adr (ag h8) 18) ((1:Int).toNat*5)) 4 v371∧
 LoopP (fun I372 (t373:Int) h374=>
 CondP (decide (t373<(v371.len:Int))) (
 (cj t373 v371.len∧∃a375,v371.a=some a375∧
 ∃v376,aD h374 (adr a375 (t373.toNat*2)) 0 v376∧
 ∃v377,aD h374 (adr a375 (t373.toNat*2)) 1 v377∧
 nv h374 nZ dH (jH v376 v377) (fun h379=>
 Join (fun(t560:Addr×Addr) h561=>
 Join (fun(t577:Bool) h578=>
 CondP t577 (
 K false h578) (
 I372 (IntKind.wrap .i64 (t373+1)) h578)) (fun J562=>
 ∃v563,ay h561 t560.1 0 (.string v563)∧
 ∃v564,ay h561 t560.1 1 (.bool v564)∧
 ∃v565,ay h561 t560.2 0 (.string v565)∧
 ∃v566,ay h561 t560.2 1 (.bool v566)∧
 CondP ((v563.toList==v565.toList)&&((v564==v566)&&true)) (
 ∃v567,aN h561 h138 0 v567∧
 ∃v568,ae h561 h138 1 v568∧
 ∃v569,ae h561 h138 2 v569∧
 ∃v570,ae h561 h138 3 v570∧
 ∃v571,ax h561 h138 4 v571∧
 ∃v572,ax h561 h138 5 v572∧
 ∃v573,au h561 h374 0 v573∧
 ∃v574,au h561 h374 1 v574∧
 HC PG bV [jR v567 v568 v569 v570 v571 v572,.string v573] kV (fun(e575:ByteArray×Bool) h576=>
 (au h576 h374 1 v574∧
 ((ay h576 t560.2 0 (.string v565)∧ay h576 t560.2 1 (.bool v566))∧
 ((ay h576 t560.1 0 (.string v563)∧ay h576 t560.1 1 (.bool v564))∧
 J562 (!(((e575.1.toList==v574.toList)&&((e575.2==true)&&true)))) h576)))) h561) (
 J562 false h561))) (fun J471=>
 ∃v472,ay h379 t117.1 0 (.int .i64 v472)∧
 ∃v473,ay h379 t117.1 1 (.int .u64 v473)∧
 ∃v474,ay h379 t117.1 2 (.int .u64 v474)∧
 ∃v475,ay h379 t117.1 3 (.int .u64 v475)∧
 ∃v476,ay h379 t117.1 4 (.pointer v476)∧
 ∃v477,ay h379 t117.1 5 (.pointer v477)∧
 ∃v478,au h379 h374 0 v478∧
 ∃v479,ay h379 t117.2.2 0 (.int .i64 v479)∧
 ∃v480,ay h379 t117.2.2 1 (.int .u64 v480)∧
 ∃v481,ay h379 t117.2.2 2 (.int .u64 v481)∧
 ∃v482,ay h379 t117.2.2 3 (.int .u64 v482)∧
 ∃v483,ay h379 t117.2.2 4 (.pointer v483)∧
 ∃v484,ay h379 t117.2.2 5 (.pointer v484)∧
 ∃v485,au h379 h374 0 v485∧
 ((HC PG bV [jR v472 v473 v474 v475 v476 v477,.string v478] kV (fun(e486:ByteArray×Bool) h487=>
 (au h487 h374 0 v485∧
 ((ay h487 t117.2.2 0 (.int .i64 v479)∧ay h487 t117.2.2 1 (.int .u64 v480)∧ay h487 t117.2.2 2 (.int .u64 v481)∧ay h487 t117.2.2 3 (.int .u64 v482)∧ay h487 t117.2.2 4 (.pointer v483)∧ay h487 t117.2.2 5 (.pointer v484))∧
 ((HC PG bV [jR v479 v480 v481 v482 v483 v484,.string v485] kV (fun(e488:ByteArray×Bool) h489=>
 ((At (hnew h489 uT bf) (fun h490=>
 At (hnew h490 uT bf) (fun h491=>
 (cp h491 h489 (pO e486) (fun h492=>
 (cp h492 h490 (pO e488) (fun h493=>
 J471 (ag h489,ag h490) h493)))))))∧
 At (hnew h489 uT bf) (fun h494=>
 nv h494 uT bf (pO e486) (fun h496=>
 (cp h496 h489 (pO e488) (fun h497=>
 J471 (ag h494,ag h489) h497)))))) h487)∧
 ((At (hnew h487 uT bf) (fun h498=>
 (au h498 h374 0 v485∧
 ((ay h498 t117.2.2 0 (.int .i64 v479)∧ay h498 t117.2.2 1 (.int .u64 v480)∧ay h498 t117.2.2 2 (.int .u64 v481)∧ay h498 t117.2.2 3 (.int .u64 v482)∧ay h498 t117.2.2 4 (.pointer v483)∧ay h498 t117.2.2 5 (.pointer v484))∧
 ((HC PG bV [jR v479 v480 v481 v482 v483 v484,.string v485] kV (fun(e499:ByteArray×Bool) h500=>
 At (hnew h500 uT bf) (fun h501=>
 (cp h501 h487 (pO e486) (fun h502=>
 (cp h502 h500 (pO e499) (fun h503=>
 J471 (ag h487,ag h500) h503)))))) h498)∧
 At (hnew h498 uT bf) (fun h504=>
 (au h504 h374 0 v485∧
 ((ay h504 t117.2.2 0 (.int .i64 v479)∧ay h504 t117.2.2 1 (.int .u64 v480)∧ay h504 t117.2.2 2 (.int .u64 v481)∧ay h504 t117.2.2 3 (.int .u64 v482)∧ay h504 t117.2.2 4 (.pointer v483)∧ay h504 t117.2.2 5 (.pointer v484))∧
 HC PG bV [jR v479 v480 v481 v482 v483 v484,.string v485] kV (fun(e505:ByteArray×Bool) h506=>
 (cp h506 h487 (pO e486) (fun h507=>
 (cp h507 h498 (pO e505) (fun h508=>
 J471 (ag h487,ag h498) h508))))) h504))))))))∧
 At (hnew h487 uT bf) (fun h509=>
 (au h509 h374 0 v485∧
 ((ay h509 t117.2.2 0 (.int .i64 v479)∧ay h509 t117.2.2 1 (.int .u64 v480)∧ay h509 t117.2.2 2 (.int .u64 v481)∧ay h509 t117.2.2 3 (.int .u64 v482)∧ay h509 t117.2.2 4 (.pointer v483)∧ay h509 t117.2.2 5 (.pointer v484))∧
 ((HC PG bV [jR v479 v480 v481 v482 v483 v484,.string v485] kV (fun(e510:ByteArray×Bool) h511=>
 nv h511 uT bf (pO e486) (fun h513=>
 (cp h513 h487 (pO e510) (fun h514=>
 J471 (ag h511,ag h487) h514)))) h509)∧
 At (hnew h509 uT bf) (fun h515=>
 (au h515 h374 0 v485∧
 ((ay h515 t117.2.2 0 (.int .i64 v479)∧ay h515 t117.2.2 1 (.int .u64 v480)∧ay h515 t117.2.2 2 (.int .u64 v481)∧ay h515 t117.2.2 3 (.int .u64 v482)∧ay h515 t117.2.2 4 (.pointer v483)∧ay h515 t117.2.2 5 (.pointer v484))∧
 HC PG bV [jR v479 v480 v481 v482 v483 v484,.string v485] kV (fun(e516:ByteArray×Bool) h517=>
 (cp h517 h509 (pO e486) (fun h518=>
 (cp h518 h487 (pO e516) (fun h519=>
 J471 (ag h509,ag h487) h519))))) h515)))))))))))) h379)∧
 ((At (hnew h379 uT bf) (fun h520=>
 (au h520 h374 0 v485∧
 ((ay h520 t117.2.2 0 (.int .i64 v479)∧ay h520 t117.2.2 1 (.int .u64 v480)∧ay h520 t117.2.2 2 (.int .u64 v481)∧ay h520 t117.2.2 3 (.int .u64 v482)∧ay h520 t117.2.2 4 (.pointer v483)∧ay h520 t117.2.2 5 (.pointer v484))∧
 (au h520 h374 0 v478∧
 ((ay h520 t117.1 0 (.int .i64 v472)∧ay h520 t117.1 1 (.int .u64 v473)∧ay h520 t117.1 2 (.int .u64 v474)∧ay h520 t117.1 3 (.int .u64 v475)∧ay h520 t117.1 4 (.pointer v476)∧ay h520 t117.1 5 (.pointer v477))∧
 ((HC PG bV [jR v472 v473 v474 v475 v476 v477,.string v478] kV (fun(e521:ByteArray×Bool) h522=>
 (au h522 h374 0 v485∧
 ((ay h522 t117.2.2 0 (.int .i64 v479)∧ay h522 t117.2.2 1 (.int .u64 v480)∧ay h522 t117.2.2 2 (.int .u64 v481)∧ay h522 t117.2.2 3 (.int .u64 v482)∧ay h522 t117.2.2 4 (.pointer v483)∧ay h522 t117.2.2 5 (.pointer v484))∧
 ((HC PG bV [jR v479 v480 v481 v482 v483 v484,.string v485] kV (fun(e523:ByteArray×Bool) h524=>
 At (hnew h524 uT bf) (fun h525=>
 (cp h525 h379 (pO e521) (fun h526=>
 (cp h526 h524 (pO e523) (fun h527=>
 J471 (ag h379,ag h524) h527)))))) h522)∧
 At (hnew h522 uT bf) (fun h528=>
 (au h528 h374 0 v485∧
 ((ay h528 t117.2.2 0 (.int .i64 v479)∧ay h528 t117.2.2 1 (.int .u64 v480)∧ay h528 t117.2.2 2 (.int .u64 v481)∧ay h528 t117.2.2 3 (.int .u64 v482)∧ay h528 t117.2.2 4 (.pointer v483)∧ay h528 t117.2.2 5 (.pointer v484))∧
 HC PG bV [jR v479 v480 v481 v482 v483 v484,.string v485] kV (fun(e529:ByteArray×Bool) h530=>
 (cp h530 h379 (pO e521) (fun h531=>
 (cp h531 h522 (pO e529) (fun h532=>
 J471 (ag h379,ag h522) h532))))) h528))))))) h520)∧
 At (hnew h520 uT bf) (fun h533=>
 (au h533 h374 0 v485∧
 ((ay h533 t117.2.2 0 (.int .i64 v479)∧ay h533 t117.2.2 1 (.int .u64 v480)∧ay h533 t117.2.2 2 (.int .u64 v481)∧ay h533 t117.2.2 3 (.int .u64 v482)∧ay h533 t117.2.2 4 (.pointer v483)∧ay h533 t117.2.2 5 (.pointer v484))∧
 (au h533 h374 0 v478∧
 ((ay h533 t117.1 0 (.int .i64 v472)∧ay h533 t117.1 1 (.int .u64 v473)∧ay h533 t117.1 2 (.int .u64 v474)∧ay h533 t117.1 3 (.int .u64 v475)∧ay h533 t117.1 4 (.pointer v476)∧ay h533 t117.1 5 (.pointer v477))∧
 HC PG bV [jR v472 v473 v474 v475 v476 v477,.string v478] kV (fun(e534:ByteArray×Bool) h535=>
 (au h535 h374 0 v485∧
 ((ay h535 t117.2.2 0 (.int .i64 v479)∧ay h535 t117.2.2 1 (.int .u64 v480)∧ay h535 t117.2.2 2 (.int .u64 v481)∧ay h535 t117.2.2 3 (.int .u64 v482)∧ay h535 t117.2.2 4 (.pointer v483)∧ay h535 t117.2.2 5 (.pointer v484))∧
 HC PG bV [jR v479 v480 v481 v482 v483 v484,.string v485] kV (fun(e536:ByteArray×Bool) h537=>
 (cp h537 h379 (pO e534) (fun h538=>
 (cp h538 h520 (pO e536) (fun h539=>
 J471 (ag h379,ag h520) h539))))) h535))) h533))))))))))))∧
 At (hnew h379 uT bf) (fun h540=>
 (au h540 h374 0 v485∧
 ((ay h540 t117.2.2 0 (.int .i64 v479)∧ay h540 t117.2.2 1 (.int .u64 v480)∧ay h540 t117.2.2 2 (.int .u64 v481)∧ay h540 t117.2.2 3 (.int .u64 v482)∧ay h540 t117.2.2 4 (.pointer v483)∧ay h540 t117.2.2 5 (.pointer v484))∧
 (au h540 h374 0 v478∧
 ((ay h540 t117.1 0 (.int .i64 v472)∧ay h540 t117.1 1 (.int .u64 v473)∧ay h540 t117.1 2 (.int .u64 v474)∧ay h540 t117.1 3 (.int .u64 v475)∧ay h540 t117.1 4 (.pointer v476)∧ay h540 t117.1 5 (.pointer v477))∧
 ((HC PG bV [jR v472 v473 v474 v475 v476 v477,.string v478] kV (fun(e541:ByteArray×Bool) h542=>
 (au h542 h374 0 v485∧
 ((ay h542 t117.2.2 0 (.int .i64 v479)∧ay h542 t117.2.2 1 (.int .u64 v480)∧ay h542 t117.2.2 2 (.int .u64 v481)∧ay h542 t117.2.2 3 (.int .u64 v482)∧ay h542 t117.2.2 4 (.pointer v483)∧ay h542 t117.2.2 5 (.pointer v484))∧
 ((HC PG bV [jR v479 v480 v481 v482 v483 v484,.string v485] kV (fun(e543:ByteArray×Bool) h544=>
 nv h544 uT bf (pO e541) (fun h546=>
 (cp h546 h379 (pO e543) (fun h547=>
 J471 (ag h544,ag h379) h547)))) h542)∧
 At (hnew h542 uT bf) (fun h548=>
 (au h548 h374 0 v485∧
 ((ay h548 t117.2.2 0 (.int .i64 v479)∧ay h548 t117.2.2 1 (.int .u64 v480)∧ay h548 t117.2.2 2 (.int .u64 v481)∧ay h548 t117.2.2 3 (.int .u64 v482)∧ay h548 t117.2.2 4 (.pointer v483)∧ay h548 t117.2.2 5 (.pointer v484))∧
 HC PG bV [jR v479 v480 v481 v482 v483 v484,.string v485] kV (fun(e549:ByteArray×Bool) h550=>
 (cp h550 h542 (pO e541) (fun h551=>
 (cp h551 h379 (pO e549) (fun h552=>
 J471 (ag h542,ag h379) h552))))) h548))))))) h540)∧
 At (hnew h540 uT bf) (fun h553=>
 (au h553 h374 0 v485∧
 ((ay h553 t117.2.2 0 (.int .i64 v479)∧ay h553 t117.2.2 1 (.int .u64 v480)∧ay h553 t117.2.2 2 (.int .u64 v481)∧ay h553 t117.2.2 3 (.int .u64 v482)∧ay h553 t117.2.2 4 (.pointer v483)∧ay h553 t117.2.2 5 (.pointer v484))∧
 (au h553 h374 0 v478∧
 ((ay h553 t117.1 0 (.int .i64 v472)∧ay h553 t117.1 1 (.int .u64 v473)∧ay h553 t117.1 2 (.int .u64 v474)∧ay h553 t117.1 3 (.int .u64 v475)∧ay h553 t117.1 4 (.pointer v476)∧ay h553 t117.1 5 (.pointer v477))∧
 HC PG bV [jR v472 v473 v474 v475 v476 v477,.string v478] kV (fun(e554:ByteArray×Bool) h555=>
 (au h555 h374 0 v485∧
 ((ay h555 t117.2.2 0 (.int .i64 v479)∧ay h555 t117.2.2 1 (.int .u64 v480)∧ay h555 t117.2.2 2 (.int .u64 v481)∧ay h555 t117.2.2 3 (.int .u64 v482)∧ay h555 t117.2.2 4 (.pointer v483)∧ay h555 t117.2.2 5 (.pointer v484))∧
 HC PG bV [jR v479 v480 v481 v482 v483 v484,.string v485] kV (fun(e556:ByteArray×Bool) h557=>
 (cp h557 h540 (pO e554) (fun h558=>
 (cp h558 h379 (pO e556) (fun h559=>
 J471 (ag h540,ag h379) h559))))) h555))) h553))))))))))))))))) (
 CondP (e159.2.2==(0:Int)) (
 CondP ((IntKind.wrap .i64 ((e137.2.1.len:Int)+(e159.2.1.len:Int)))==(0:Int)) (
 ∃v579,aN h374 h138 0 v579∧
 ∃v580,ae h374 h138 1 v580∧
 ∃v581,ae h374 h138 2 v581∧
 ∃v582,ae h374 h138 3 v582∧
 ∃v583,ax h374 h138 4 v583∧
 ∃v584,ax h374 h138 5 v584∧
 ∃v585,aN h374 h160 0 v585∧
 ∃v586,ae h374 h160 1 v586∧
 ∃v587,ae h374 h160 2 v587∧
 ∃v588,ae h374 h160 3 v588∧
 ∃v589,ax h374 h160 4 v589∧
 ∃v590,ax h374 h160 5 v590∧
 HC PG xR [jR v579 v580 v581 v582 v583 v584,jR v585 v586 v587 v588 v589 v590] [.c .bool] (fun(e591:Bool) h592=>
 K e591 h592) h374) (
 K false h374)) (
 K false h374))) 0 h166))) 0 h162))) h140))) h118) (fun J65=>
 (cj 0 3∧
 ∃v66,cX h10 (adr (adr (ag h8) 0) ((0:Int).toNat*6)) 0 v66∧
 ∃v67,aH h10 (adr (adr (ag h8) 0) ((0:Int).toNat*6)) 1 v67∧
 ∃v68,aH h10 (adr (adr (ag h8) 0) ((0:Int).toNat*6)) 2 v68∧
 ∃v69,aH h10 (adr (adr (ag h8) 0) ((0:Int).toNat*6)) 3 v69∧
 ∃v70,bj h10 (adr (adr (ag h8) 0) ((0:Int).toNat*6)) 4 v70∧
 ∃v71,bj h10 (adr (adr (ag h8) 0) ((0:Int).toNat*6)) 5 v71∧
 (cj 1 3∧
 ∃v72,cX h10 (adr (adr (ag h8) 0) ((1:Int).toNat*6)) 0 v72∧
 ∃v73,aH h10 (adr (adr (ag h8) 0) ((1:Int).toNat*6)) 1 v73∧
 ∃v74,aH h10 (adr (adr (ag h8) 0) ((1:Int).toNat*6)) 2 v74∧
 ∃v75,aH h10 (adr (adr (ag h8) 0) ((1:Int).toNat*6)) 3 v75∧
 ∃v76,bj h10 (adr (adr (ag h8) 0) ((1:Int).toNat*6)) 4 v76∧
 ∃v77,bj h10 (adr (adr (ag h8) 0) ((1:Int).toNat*6)) 5 v77∧
 (cj (2:Int) 3∧
 ∃v78,cX h10 (adr (adr (ag h8) 0) ((2:Int).toNat*6)) 0 v78∧
 ∃v79,aH h10 (adr (adr (ag h8) 0) ((2:Int).toNat*6)) 1 v79∧
 ∃v80,aH h10 (adr (adr (ag h8) 0) ((2:Int).toNat*6)) 2 v80∧
 ∃v81,aH h10 (adr (adr (ag h8) 0) ((2:Int).toNat*6)) 3 v81∧
 ∃v82,bj h10 (adr (adr (ag h8) 0) ((2:Int).toNat*6)) 4 v82∧
 ∃v83,bj h10 (adr (adr (ag h8) 0) ((2:Int).toNat*6)) 5 v83∧
 ((At (hnew h10 rB aL) (fun h84=>
 ((cX h84 (adr (adr (ag h8) 0) ((2:Int).toNat*6)) 0 v78∧aH h84 (adr (adr (ag h8) 0) ((2:Int).toNat*6)) 1 v79∧aH h84 (adr (adr (ag h8) 0) ((2:Int).toNat*6)) 2 v80∧aH h84 (adr (adr (ag h8) 0) ((2:Int).toNat*6)) 3 v81∧bj h84 (adr (adr (ag h8) 0) ((2:Int).toNat*6)) 4 v82∧bj h84 (adr (adr (ag h8) 0) ((2:Int).toNat*6)) 5 v83)∧
 ((cX h84 (adr (adr (ag h8) 0) ((1:Int).toNat*6)) 0 v72∧aH h84 (adr (adr (ag h8) 0) ((1:Int).toNat*6)) 1 v73∧aH h84 (adr (adr (ag h8) 0) ((1:Int).toNat*6)) 2 v74∧aH h84 (adr (adr (ag h8) 0) ((1:Int).toNat*6)) 3 v75∧bj h84 (adr (adr (ag h8) 0) ((1:Int).toNat*6)) 4 v76∧bj h84 (adr (adr (ag h8) 0) ((1:Int).toNat*6)) 5 v77)∧
 ((cX h84 (adr (adr (ag h8) 0) ((0:Int).toNat*6)) 0 v66∧aH h84 (adr (adr (ag h8) 0) ((0:Int).toNat*6)) 1 v67∧aH h84 (adr (adr (ag h8) 0) ((0:Int).toNat*6)) 2 v68∧aH h84 (adr (adr (ag h8) 0) ((0:Int).toNat*6)) 3 v69∧bj h84 (adr (adr (ag h8) 0) ((0:Int).toNat*6)) 4 v70∧bj h84 (adr (adr (ag h8) 0) ((0:Int).toNat*6)) 5 v71)∧
 ((At (hnew h84 rB aL) (fun h85=>
 ((cX h85 (adr (adr (ag h8) 0) ((2:Int).toNat*6)) 0 v78∧aH h85 (adr (adr (ag h8) 0) ((2:Int).toNat*6)) 1 v79∧aH h85 (adr (adr (ag h8) 0) ((2:Int).toNat*6)) 2 v80∧aH h85 (adr (adr (ag h8) 0) ((2:Int).toNat*6)) 3 v81∧bj h85 (adr (adr (ag h8) 0) ((2:Int).toNat*6)) 4 v82∧bj h85 (adr (adr (ag h8) 0) ((2:Int).toNat*6)) 5 v83)∧
 ((cX h85 (adr (adr (ag h8) 0) ((1:Int).toNat*6)) 0 v72∧aH h85 (adr (adr (ag h8) 0) ((1:Int).toNat*6)) 1 v73∧aH h85 (adr (adr (ag h8) 0) ((1:Int).toNat*6)) 2 v74∧aH h85 (adr (adr (ag h8) 0) ((1:Int).toNat*6)) 3 v75∧bj h85 (adr (adr (ag h8) 0) ((1:Int).toNat*6)) 4 v76∧bj h85 (adr (adr (ag h8) 0) ((1:Int).toNat*6)) 5 v77)∧
 ((cX h85 (adr (adr (ag h8) 0) ((0:Int).toNat*6)) 0 v66∧aH h85 (adr (adr (ag h8) 0) ((0:Int).toNat*6)) 1 v67∧aH h85 (adr (adr (ag h8) 0) ((0:Int).toNat*6)) 2 v68∧aH h85 (adr (adr (ag h8) 0) ((0:Int).toNat*6)) 3 v69∧bj h85 (adr (adr (ag h8) 0) ((0:Int).toNat*6)) 4 v70∧bj h85 (adr (adr (ag h8) 0) ((0:Int).toNat*6)) 5 v71)∧
 At (hnew h85 rB aL) (fun h86=>
 ((cX h86 (adr (adr (ag h8) 0) ((2:Int).toNat*6)) 0 v78∧aH h86 (adr (adr (ag h8) 0) ((2:Int).toNat*6)) 1 v79∧aH h86 (adr (adr (ag h8) 0) ((2:Int).toNat*6)) 2 v80∧aH h86 (adr (adr (ag h8) 0) ((2:Int).toNat*6)) 3 v81∧bj h86 (adr (adr (ag h8) 0) ((2:Int).toNat*6)) 4 v82∧bj h86 (adr (adr (ag h8) 0) ((2:Int).toNat*6)) 5 v83)∧
 ((cX h86 (adr (adr (ag h8) 0) ((1:Int).toNat*6)) 0 v72∧aH h86 (adr (adr (ag h8) 0) ((1:Int).toNat*6)) 1 v73∧aH h86 (adr (adr (ag h8) 0) ((1:Int).toNat*6)) 2 v74∧aH h86 (adr (adr (ag h8) 0) ((1:Int).toNat*6)) 3 v75∧bj h86 (adr (adr (ag h8) 0) ((1:Int).toNat*6)) 4 v76∧bj h86 (adr (adr (ag h8) 0) ((1:Int).toNat*6)) 5 v77)∧
 ((cX h86 (adr (adr (ag h8) 0) ((0:Int).toNat*6)) 0 v66∧aH h86 (adr (adr (ag h8) 0) ((0:Int).toNat*6)) 1 v67∧aH h86 (adr (adr (ag h8) 0) ((0:Int).toNat*6)) 2 v68∧aH h86 (adr (adr (ag h8) 0) ((0:Int).toNat*6)) 3 v69∧bj h86 (adr (adr (ag h8) 0) ((0:Int).toNat*6)) 4 v70∧bj h86 (adr (adr (ag h8) 0) ((0:Int).toNat*6)) 5 v71)∧
 (cp h86 h10 (tY v66 v67 v68 v69 v70 v71) (fun h87=>
 ((cX h87 (adr (adr (ag h8) 0) ((2:Int).toNat*6)) 0 v78∧aH h87 (adr (adr (ag h8) 0) ((2:Int).toNat*6)) 1 v79∧aH h87 (adr (adr (ag h8) 0) ((2:Int).toNat*6)) 2 v80∧aH h87 (adr (adr (ag h8) 0) ((2:Int).toNat*6)) 3 v81∧bj h87 (adr (adr (ag h8) 0) ((2:Int).toNat*6)) 4 v82∧bj h87 (adr (adr (ag h8) 0) ((2:Int).toNat*6)) 5 v83)∧
 ((cX h87 (adr (adr (ag h8) 0) ((1:Int).toNat*6)) 0 v72∧aH h87 (adr (adr (ag h8) 0) ((1:Int).toNat*6)) 1 v73∧aH h87 (adr (adr (ag h8) 0) ((1:Int).toNat*6)) 2 v74∧aH h87 (adr (adr (ag h8) 0) ((1:Int).toNat*6)) 3 v75∧bj h87 (adr (adr (ag h8) 0) ((1:Int).toNat*6)) 4 v76∧bj h87 (adr (adr (ag h8) 0) ((1:Int).toNat*6)) 5 v77)∧
 (cp h87 h84 (tY v72 v73 v74 v75 v76 v77) (fun h88=>
 ((cX h88 (adr (adr (ag h8) 0) ((2:Int).toNat*6)) 0 v78∧aH h88 (adr (adr (ag h8) 0) ((2:Int).toNat*6)) 1 v79∧aH h88 (adr (adr (ag h8) 0) ((2:Int).toNat*6)) 2 v80∧aH h88 (adr (adr (ag h8) 0) ((2:Int).toNat*6)) 3 v81∧bj h88 (adr (adr (ag h8) 0) ((2:Int).toNat*6)) 4 v82∧bj h88 (adr (adr (ag h8) 0) ((2:Int).toNat*6)) 5 v83)∧
 (cp h88 h85 (tY v78 v79 v80 v81 v82 v83) (fun h89=>
 J65 (ag h10,ag h84,ag h85) h89))))))))))))))))))∧
 At (hnew h84 rB aL) (fun h90=>
 ((cX h90 (adr (adr (ag h8) 0) ((2:Int).toNat*6)) 0 v78∧aH h90 (adr (adr (ag h8) 0) ((2:Int).toNat*6)) 1 v79∧aH h90 (adr (adr (ag h8) 0) ((2:Int).toNat*6)) 2 v80∧aH h90 (adr (adr (ag h8) 0) ((2:Int).toNat*6)) 3 v81∧bj h90 (adr (adr (ag h8) 0) ((2:Int).toNat*6)) 4 v82∧bj h90 (adr (adr (ag h8) 0) ((2:Int).toNat*6)) 5 v83)∧
 ((cX h90 (adr (adr (ag h8) 0) ((1:Int).toNat*6)) 0 v72∧aH h90 (adr (adr (ag h8) 0) ((1:Int).toNat*6)) 1 v73∧aH h90 (adr (adr (ag h8) 0) ((1:Int).toNat*6)) 2 v74∧aH h90 (adr (adr (ag h8) 0) ((1:Int).toNat*6)) 3 v75∧bj h90 (adr (adr (ag h8) 0) ((1:Int).toNat*6)) 4 v76∧bj h90 (adr (adr (ag h8) 0) ((1:Int).toNat*6)) 5 v77)∧
 ((cX h90 (adr (adr (ag h8) 0) ((0:Int).toNat*6)) 0 v66∧aH h90 (adr (adr (ag h8) 0) ((0:Int).toNat*6)) 1 v67∧aH h90 (adr (adr (ag h8) 0) ((0:Int).toNat*6)) 2 v68∧aH h90 (adr (adr (ag h8) 0) ((0:Int).toNat*6)) 3 v69∧bj h90 (adr (adr (ag h8) 0) ((0:Int).toNat*6)) 4 v70∧bj h90 (adr (adr (ag h8) 0) ((0:Int).toNat*6)) 5 v71)∧
 At (hnew h90 rB aL) (fun h91=>
 ((cX h91 (adr (adr (ag h8) 0) ((2:Int).toNat*6)) 0 v78∧aH h91 (adr (adr (ag h8) 0) ((2:Int).toNat*6)) 1 v79∧aH h91 (adr (adr (ag h8) 0) ((2:Int).toNat*6)) 2 v80∧aH h91 (adr (adr (ag h8) 0) ((2:Int).toNat*6)) 3 v81∧bj h91 (adr (adr (ag h8) 0) ((2:Int).toNat*6)) 4 v82∧bj h91 (adr (adr (ag h8) 0) ((2:Int).toNat*6)) 5 v83)∧
 ((cX h91 (adr (adr (ag h8) 0) ((1:Int).toNat*6)) 0 v72∧aH h91 (adr (adr (ag h8) 0) ((1:Int).toNat*6)) 1 v73∧aH h91 (adr (adr (ag h8) 0) ((1:Int).toNat*6)) 2 v74∧aH h91 (adr (adr (ag h8) 0) ((1:Int).toNat*6)) 3 v75∧bj h91 (adr (adr (ag h8) 0) ((1:Int).toNat*6)) 4 v76∧bj h91 (adr (adr (ag h8) 0) ((1:Int).toNat*6)) 5 v77)∧
 ((cX h91 (adr (adr (ag h8) 0) ((0:Int).toNat*6)) 0 v66∧aH h91 (adr (adr (ag h8) 0) ((0:Int).toNat*6)) 1 v67∧aH h91 (adr (adr (ag h8) 0) ((0:Int).toNat*6)) 2 v68∧aH h91 (adr (adr (ag h8) 0) ((0:Int).toNat*6)) 3 v69∧bj h91 (adr (adr (ag h8) 0) ((0:Int).toNat*6)) 4 v70∧bj h91 (adr (adr (ag h8) 0) ((0:Int).toNat*6)) 5 v71)∧
 (cp h91 h10 (tY v66 v67 v68 v69 v70 v71) (fun h92=>
 ((cX h92 (adr (adr (ag h8) 0) ((2:Int).toNat*6)) 0 v78∧aH h92 (adr (adr (ag h8) 0) ((2:Int).toNat*6)) 1 v79∧aH h92 (adr (adr (ag h8) 0) ((2:Int).toNat*6)) 2 v80∧aH h92 (adr (adr (ag h8) 0) ((2:Int).toNat*6)) 3 v81∧bj h92 (adr (adr (ag h8) 0) ((2:Int).toNat*6)) 4 v82∧bj h92 (adr (adr (ag h8) 0) ((2:Int).toNat*6)) 5 v83)∧
 ((cX h92 (adr (adr (ag h8) 0) ((1:Int).toNat*6)) 0 v72∧aH h92 (adr (adr (ag h8) 0) ((1:Int).toNat*6)) 1 v73∧aH h92 (adr (adr (ag h8) 0) ((1:Int).toNat*6)) 2 v74∧aH h92 (adr (adr (ag h8) 0) ((1:Int).toNat*6)) 3 v75∧bj h92 (adr (adr (ag h8) 0) ((1:Int).toNat*6)) 4 v76∧bj h92 (adr (adr (ag h8) 0) ((1:Int).toNat*6)) 5 v77)∧
 (cp h92 h90 (tY v72 v73 v74 v75 v76 v77) (fun h93=>
 ((cX h93 (adr (adr (ag h8) 0) ((2:Int).toNat*6)) 0 v78∧aH h93 (adr (adr (ag h8) 0) ((2:Int).toNat*6)) 1 v79∧aH h93 (adr (adr (ag h8) 0) ((2:Int).toNat*6)) 2 v80∧aH h93 (adr (adr (ag h8) 0) ((2:Int).toNat*6)) 3 v81∧bj h93 (adr (adr (ag h8) 0) ((2:Int).toNat*6)) 4 v82∧bj h93 (adr (adr (ag h8) 0) ((2:Int).toNat*6)) 5 v83)∧
 (cp h93 h84 (tY v78 v79 v80 v81 v82 v83) (fun h94=>
 J65 (ag h10,ag h90,ag h84) h94)))))))))))))))))))))))∧
 ((At (hnew h10 rB aL) (fun h95=>
 ((cX h95 (adr (adr (ag h8) 0) ((2:Int).toNat*6)) 0 v78∧aH h95 (adr (adr (ag h8) 0) ((2:Int).toNat*6)) 1 v79∧aH h95 (adr (adr (ag h8) 0) ((2:Int).toNat*6)) 2 v80∧aH h95 (adr (adr (ag h8) 0) ((2:Int).toNat*6)) 3 v81∧bj h95 (adr (adr (ag h8) 0) ((2:Int).toNat*6)) 4 v82∧bj h95 (adr (adr (ag h8) 0) ((2:Int).toNat*6)) 5 v83)∧
 ((cX h95 (adr (adr (ag h8) 0) ((1:Int).toNat*6)) 0 v72∧aH h95 (adr (adr (ag h8) 0) ((1:Int).toNat*6)) 1 v73∧aH h95 (adr (adr (ag h8) 0) ((1:Int).toNat*6)) 2 v74∧aH h95 (adr (adr (ag h8) 0) ((1:Int).toNat*6)) 3 v75∧bj h95 (adr (adr (ag h8) 0) ((1:Int).toNat*6)) 4 v76∧bj h95 (adr (adr (ag h8) 0) ((1:Int).toNat*6)) 5 v77)∧
 ((cX h95 (adr (adr (ag h8) 0) ((0:Int).toNat*6)) 0 v66∧aH h95 (adr (adr (ag h8) 0) ((0:Int).toNat*6)) 1 v67∧aH h95 (adr (adr (ag h8) 0) ((0:Int).toNat*6)) 2 v68∧aH h95 (adr (adr (ag h8) 0) ((0:Int).toNat*6)) 3 v69∧bj h95 (adr (adr (ag h8) 0) ((0:Int).toNat*6)) 4 v70∧bj h95 (adr (adr (ag h8) 0) ((0:Int).toNat*6)) 5 v71)∧
 ((At (hnew h95 rB aL) (fun h96=>
 ((cX h96 (adr (adr (ag h8) 0) ((2:Int).toNat*6)) 0 v78∧aH h96 (adr (adr (ag h8) 0) ((2:Int).toNat*6)) 1 v79∧aH h96 (adr (adr (ag h8) 0) ((2:Int).toNat*6)) 2 v80∧aH h96 (adr (adr (ag h8) 0) ((2:Int).toNat*6)) 3 v81∧bj h96 (adr (adr (ag h8) 0) ((2:Int).toNat*6)) 4 v82∧bj h96 (adr (adr (ag h8) 0) ((2:Int).toNat*6)) 5 v83)∧
 ((cX h96 (adr (adr (ag h8) 0) ((1:Int).toNat*6)) 0 v72∧aH h96 (adr (adr (ag h8) 0) ((1:Int).toNat*6)) 1 v73∧aH h96 (adr (adr (ag h8) 0) ((1:Int).toNat*6)) 2 v74∧aH h96 (adr (adr (ag h8) 0) ((1:Int).toNat*6)) 3 v75∧bj h96 (adr (adr (ag h8) 0) ((1:Int).toNat*6)) 4 v76∧bj h96 (adr (adr (ag h8) 0) ((1:Int).toNat*6)) 5 v77)∧
 ((cX h96 (adr (adr (ag h8) 0) ((0:Int).toNat*6)) 0 v66∧aH h96 (adr (adr (ag h8) 0) ((0:Int).toNat*6)) 1 v67∧aH h96 (adr (adr (ag h8) 0) ((0:Int).toNat*6)) 2 v68∧aH h96 (adr (adr (ag h8) 0) ((0:Int).toNat*6)) 3 v69∧bj h96 (adr (adr (ag h8) 0) ((0:Int).toNat*6)) 4 v70∧bj h96 (adr (adr (ag h8) 0) ((0:Int).toNat*6)) 5 v71)∧
 At (hnew h96 rB aL) (fun h97=>
 ((cX h97 (adr (adr (ag h8) 0) ((2:Int).toNat*6)) 0 v78∧aH h97 (adr (adr (ag h8) 0) ((2:Int).toNat*6)) 1 v79∧aH h97 (adr (adr (ag h8) 0) ((2:Int).toNat*6)) 2 v80∧aH h97 (adr (adr (ag h8) 0) ((2:Int).toNat*6)) 3 v81∧bj h97 (adr (adr (ag h8) 0) ((2:Int).toNat*6)) 4 v82∧bj h97 (adr (adr (ag h8) 0) ((2:Int).toNat*6)) 5 v83)∧
 ((cX h97 (adr (adr (ag h8) 0) ((1:Int).toNat*6)) 0 v72∧aH h97 (adr (adr (ag h8) 0) ((1:Int).toNat*6)) 1 v73∧aH h97 (adr (adr (ag h8) 0) ((1:Int).toNat*6)) 2 v74∧aH h97 (adr (adr (ag h8) 0) ((1:Int).toNat*6)) 3 v75∧bj h97 (adr (adr (ag h8) 0) ((1:Int).toNat*6)) 4 v76∧bj h97 (adr (adr (ag h8) 0) ((1:Int).toNat*6)) 5 v77)∧
 ((cX h97 (adr (adr (ag h8) 0) ((0:Int).toNat*6)) 0 v66∧aH h97 (adr (adr (ag h8) 0) ((0:Int).toNat*6)) 1 v67∧aH h97 (adr (adr (ag h8) 0) ((0:Int).toNat*6)) 2 v68∧aH h97 (adr (adr (ag h8) 0) ((0:Int).toNat*6)) 3 v69∧bj h97 (adr (adr (ag h8) 0) ((0:Int).toNat*6)) 4 v70∧bj h97 (adr (adr (ag h8) 0) ((0:Int).toNat*6)) 5 v71)∧
 (cp h97 h95 (tY v66 v67 v68 v69 v70 v71) (fun h98=>
 ((cX h98 (adr (adr (ag h8) 0) ((2:Int).toNat*6)) 0 v78∧aH h98 (adr (adr (ag h8) 0) ((2:Int).toNat*6)) 1 v79∧aH h98 (adr (adr (ag h8) 0) ((2:Int).toNat*6)) 2 v80∧aH h98 (adr (adr (ag h8) 0) ((2:Int).toNat*6)) 3 v81∧bj h98 (adr (adr (ag h8) 0) ((2:Int).toNat*6)) 4 v82∧bj h98 (adr (adr (ag h8) 0) ((2:Int).toNat*6)) 5 v83)∧
 ((cX h98 (adr (adr (ag h8) 0) ((1:Int).toNat*6)) 0 v72∧aH h98 (adr (adr (ag h8) 0) ((1:Int).toNat*6)) 1 v73∧aH h98 (adr (adr (ag h8) 0) ((1:Int).toNat*6)) 2 v74∧aH h98 (adr (adr (ag h8) 0) ((1:Int).toNat*6)) 3 v75∧bj h98 (adr (adr (ag h8) 0) ((1:Int).toNat*6)) 4 v76∧bj h98 (adr (adr (ag h8) 0) ((1:Int).toNat*6)) 5 v77)∧
 (cp h98 h10 (tY v72 v73 v74 v75 v76 v77) (fun h99=>
 ((cX h99 (adr (adr (ag h8) 0) ((2:Int).toNat*6)) 0 v78∧aH h99 (adr (adr (ag h8) 0) ((2:Int).toNat*6)) 1 v79∧aH h99 (adr (adr (ag h8) 0) ((2:Int).toNat*6)) 2 v80∧aH h99 (adr (adr (ag h8) 0) ((2:Int).toNat*6)) 3 v81∧bj h99 (adr (adr (ag h8) 0) ((2:Int).toNat*6)) 4 v82∧bj h99 (adr (adr (ag h8) 0) ((2:Int).toNat*6)) 5 v83)∧
 (cp h99 h96 (tY v78 v79 v80 v81 v82 v83) (fun h100=>
 J65 (ag h95,ag h10,ag h96) h100))))))))))))))))))∧
 At (hnew h95 rB aL) (fun h101=>
 ((cX h101 (adr (adr (ag h8) 0) ((2:Int).toNat*6)) 0 v78∧aH h101 (adr (adr (ag h8) 0) ((2:Int).toNat*6)) 1 v79∧aH h101 (adr (adr (ag h8) 0) ((2:Int).toNat*6)) 2 v80∧aH h101 (adr (adr (ag h8) 0) ((2:Int).toNat*6)) 3 v81∧bj h101 (adr (adr (ag h8) 0) ((2:Int).toNat*6)) 4 v82∧bj h101 (adr (adr (ag h8) 0) ((2:Int).toNat*6)) 5 v83)∧
 ((cX h101 (adr (adr (ag h8) 0) ((1:Int).toNat*6)) 0 v72∧aH h101 (adr (adr (ag h8) 0) ((1:Int).toNat*6)) 1 v73∧aH h101 (adr (adr (ag h8) 0) ((1:Int).toNat*6)) 2 v74∧aH h101 (adr (adr (ag h8) 0) ((1:Int).toNat*6)) 3 v75∧bj h101 (adr (adr (ag h8) 0) ((1:Int).toNat*6)) 4 v76∧bj h101 (adr (adr (ag h8) 0) ((1:Int).toNat*6)) 5 v77)∧
 ((cX h101 (adr (adr (ag h8) 0) ((0:Int).toNat*6)) 0 v66∧aH h101 (adr (adr (ag h8) 0) ((0:Int).toNat*6)) 1 v67∧aH h101 (adr (adr (ag h8) 0) ((0:Int).toNat*6)) 2 v68∧aH h101 (adr (adr (ag h8) 0) ((0:Int).toNat*6)) 3 v69∧bj h101 (adr (adr (ag h8) 0) ((0:Int).toNat*6)) 4 v70∧bj h101 (adr (adr (ag h8) 0) ((0:Int).toNat*6)) 5 v71)∧
 At (hnew h101 rB aL) (fun h102=>
 ((cX h102 (adr (adr (ag h8) 0) ((2:Int).toNat*6)) 0 v78∧aH h102 (adr (adr (ag h8) 0) ((2:Int).toNat*6)) 1 v79∧aH h102 (adr (adr (ag h8) 0) ((2:Int).toNat*6)) 2 v80∧aH h102 (adr (adr (ag h8) 0) ((2:Int).toNat*6)) 3 v81∧bj h102 (adr (adr (ag h8) 0) ((2:Int).toNat*6)) 4 v82∧bj h102 (adr (adr (ag h8) 0) ((2:Int).toNat*6)) 5 v83)∧
 ((cX h102 (adr (adr (ag h8) 0) ((1:Int).toNat*6)) 0 v72∧aH h102 (adr (adr (ag h8) 0) ((1:Int).toNat*6)) 1 v73∧aH h102 (adr (adr (ag h8) 0) ((1:Int).toNat*6)) 2 v74∧aH h102 (adr (adr (ag h8) 0) ((1:Int).toNat*6)) 3 v75∧bj h102 (adr (adr (ag h8) 0) ((1:Int).toNat*6)) 4 v76∧bj h102 (adr (adr (ag h8) 0) ((1:Int).toNat*6)) 5 v77)∧
 ((cX h102 (adr (adr (ag h8) 0) ((0:Int).toNat*6)) 0 v66∧aH h102 (adr (adr (ag h8) 0) ((0:Int).toNat*6)) 1 v67∧aH h102 (adr (adr (ag h8) 0) ((0:Int).toNat*6)) 2 v68∧aH h102 (adr (adr (ag h8) 0) ((0:Int).toNat*6)) 3 v69∧bj h102 (adr (adr (ag h8) 0) ((0:Int).toNat*6)) 4 v70∧bj h102 (adr (adr (ag h8) 0) ((0:Int).toNat*6)) 5 v71)∧
 (cp h102 h101 (tY v66 v67 v68 v69 v70 v71) (fun h103=>
 ((cX h103 (adr (adr (ag h8) 0) ((2:Int).toNat*6)) 0 v78∧aH h103 (adr (adr (ag h8) 0) ((2:Int).toNat*6)) 1 v79∧aH h103 (adr (adr (ag h8) 0) ((2:Int).toNat*6)) 2 v80∧aH h103 (adr (adr (ag h8) 0) ((2:Int).toNat*6)) 3 v81∧bj h103 (adr (adr (ag h8) 0) ((2:Int).toNat*6)) 4 v82∧bj h103 (adr (adr (ag h8) 0) ((2:Int).toNat*6)) 5 v83)∧
 ((cX h103 (adr (adr (ag h8) 0) ((1:Int).toNat*6)) 0 v72∧aH h103 (adr (adr (ag h8) 0) ((1:Int).toNat*6)) 1 v73∧aH h103 (adr (adr (ag h8) 0) ((1:Int).toNat*6)) 2 v74∧aH h103 (adr (adr (ag h8) 0) ((1:Int).toNat*6)) 3 v75∧bj h103 (adr (adr (ag h8) 0) ((1:Int).toNat*6)) 4 v76∧bj h103 (adr (adr (ag h8) 0) ((1:Int).toNat*6)) 5 v77)∧
 (cp h103 h10 (tY v72 v73 v74 v75 v76 v77) (fun h104=>
 ((cX h104 (adr (adr (ag h8) 0) ((2:Int).toNat*6)) 0 v78∧aH h104 (adr (adr (ag h8) 0) ((2:Int).toNat*6)) 1 v79∧aH h104 (adr (adr (ag h8) 0) ((2:Int).toNat*6)) 2 v80∧aH h104 (adr (adr (ag h8) 0) ((2:Int).toNat*6)) 3 v81∧bj h104 (adr (adr (ag h8) 0) ((2:Int).toNat*6)) 4 v82∧bj h104 (adr (adr (ag h8) 0) ((2:Int).toNat*6)) 5 v83)∧
 (cp h104 h95 (tY v78 v79 v80 v81 v82 v83) (fun h105=>
 J65 (ag h101,ag h10,ag h95) h105)))))))))))))))))))))))∧
 At (hnew h10 rB aL) (fun h106=>
 ((cX h106 (adr (adr (ag h8) 0) ((2:Int).toNat*6)) 0 v78∧aH h106 (adr (adr (ag h8) 0) ((2:Int).toNat*6)) 1 v79∧aH h106 (adr (adr (ag h8) 0) ((2:Int).toNat*6)) 2 v80∧aH h106 (adr (adr (ag h8) 0) ((2:Int).toNat*6)) 3 v81∧bj h106 (adr (adr (ag h8) 0) ((2:Int).toNat*6)) 4 v82∧bj h106 (adr (adr (ag h8) 0) ((2:Int).toNat*6)) 5 v83)∧
 ((cX h106 (adr (adr (ag h8) 0) ((1:Int).toNat*6)) 0 v72∧aH h106 (adr (adr (ag h8) 0) ((1:Int).toNat*6)) 1 v73∧aH h106 (adr (adr (ag h8) 0) ((1:Int).toNat*6)) 2 v74∧aH h106 (adr (adr (ag h8) 0) ((1:Int).toNat*6)) 3 v75∧bj h106 (adr (adr (ag h8) 0) ((1:Int).toNat*6)) 4 v76∧bj h106 (adr (adr (ag h8) 0) ((1:Int).toNat*6)) 5 v77)∧
 ((cX h106 (adr (adr (ag h8) 0) ((0:Int).toNat*6)) 0 v66∧aH h106 (adr (adr (ag h8) 0) ((0:Int).toNat*6)) 1 v67∧aH h106 (adr (adr (ag h8) 0) ((0:Int).toNat*6)) 2 v68∧aH h106 (adr (adr (ag h8) 0) ((0:Int).toNat*6)) 3 v69∧bj h106 (adr (adr (ag h8) 0) ((0:Int).toNat*6)) 4 v70∧bj h106 (adr (adr (ag h8) 0) ((0:Int).toNat*6)) 5 v71)∧
 ((At (hnew h106 rB aL) (fun h107=>
 ((cX h107 (adr (adr (ag h8) 0) ((2:Int).toNat*6)) 0 v78∧aH h107 (adr (adr (ag h8) 0) ((2:Int).toNat*6)) 1 v79∧aH h107 (adr (adr (ag h8) 0) ((2:Int).toNat*6)) 2 v80∧aH h107 (adr (adr (ag h8) 0) ((2:Int).toNat*6)) 3 v81∧bj h107 (adr (adr (ag h8) 0) ((2:Int).toNat*6)) 4 v82∧bj h107 (adr (adr (ag h8) 0) ((2:Int).toNat*6)) 5 v83)∧
 ((cX h107 (adr (adr (ag h8) 0) ((1:Int).toNat*6)) 0 v72∧aH h107 (adr (adr (ag h8) 0) ((1:Int).toNat*6)) 1 v73∧aH h107 (adr (adr (ag h8) 0) ((1:Int).toNat*6)) 2 v74∧aH h107 (adr (adr (ag h8) 0) ((1:Int).toNat*6)) 3 v75∧bj h107 (adr (adr (ag h8) 0) ((1:Int).toNat*6)) 4 v76∧bj h107 (adr (adr (ag h8) 0) ((1:Int).toNat*6)) 5 v77)∧
 ((cX h107 (adr (adr (ag h8) 0) ((0:Int).toNat*6)) 0 v66∧aH h107 (adr (adr (ag h8) 0) ((0:Int).toNat*6)) 1 v67∧aH h107 (adr (adr (ag h8) 0) ((0:Int).toNat*6)) 2 v68∧aH h107 (adr (adr (ag h8) 0) ((0:Int).toNat*6)) 3 v69∧bj h107 (adr (adr (ag h8) 0) ((0:Int).toNat*6)) 4 v70∧bj h107 (adr (adr (ag h8) 0) ((0:Int).toNat*6)) 5 v71)∧
 At (hnew h107 rB aL) (fun h108=>
 ((cX h108 (adr (adr (ag h8) 0) ((2:Int).toNat*6)) 0 v78∧aH h108 (adr (adr (ag h8) 0) ((2:Int).toNat*6)) 1 v79∧aH h108 (adr (adr (ag h8) 0) ((2:Int).toNat*6)) 2 v80∧aH h108 (adr (adr (ag h8) 0) ((2:Int).toNat*6)) 3 v81∧bj h108 (adr (adr (ag h8) 0) ((2:Int).toNat*6)) 4 v82∧bj h108 (adr (adr (ag h8) 0) ((2:Int).toNat*6)) 5 v83)∧
 ((cX h108 (adr (adr (ag h8) 0) ((1:Int).toNat*6)) 0 v72∧aH h108 (adr (adr (ag h8) 0) ((1:Int).toNat*6)) 1 v73∧aH h108 (adr (adr (ag h8) 0) ((1:Int).toNat*6)) 2 v74∧aH h108 (adr (adr (ag h8) 0) ((1:Int).toNat*6)) 3 v75∧bj h108 (adr (adr (ag h8) 0) ((1:Int).toNat*6)) 4 v76∧bj h108 (adr (adr (ag h8) 0) ((1:Int).toNat*6)) 5 v77)∧
 ((cX h108 (adr (adr (ag h8) 0) ((0:Int).toNat*6)) 0 v66∧aH h108 (adr (adr (ag h8) 0) ((0:Int).toNat*6)) 1 v67∧aH h108 (adr (adr (ag h8) 0) ((0:Int).toNat*6)) 2 v68∧aH h108 (adr (adr (ag h8) 0) ((0:Int).toNat*6)) 3 v69∧bj h108 (adr (adr (ag h8) 0) ((0:Int).toNat*6)) 4 v70∧bj h108 (adr (adr (ag h8) 0) ((0:Int).toNat*6)) 5 v71)∧
 (cp h108 h106 (tY v66 v67 v68 v69 v70 v71) (fun h109=>
 ((cX h109 (adr (adr (ag h8) 0) ((2:Int).toNat*6)) 0 v78∧aH h109 (adr (adr (ag h8) 0) ((2:Int).toNat*6)) 1 v79∧aH h109 (adr (adr (ag h8) 0) ((2:Int).toNat*6)) 2 v80∧aH h109 (adr (adr (ag h8) 0) ((2:Int).toNat*6)) 3 v81∧bj h109 (adr (adr (ag h8) 0) ((2:Int).toNat*6)) 4 v82∧bj h109 (adr (adr (ag h8) 0) ((2:Int).toNat*6)) 5 v83)∧
 ((cX h109 (adr (adr (ag h8) 0) ((1:Int).toNat*6)) 0 v72∧aH h109 (adr (adr (ag h8) 0) ((1:Int).toNat*6)) 1 v73∧aH h109 (adr (adr (ag h8) 0) ((1:Int).toNat*6)) 2 v74∧aH h109 (adr (adr (ag h8) 0) ((1:Int).toNat*6)) 3 v75∧bj h109 (adr (adr (ag h8) 0) ((1:Int).toNat*6)) 4 v76∧bj h109 (adr (adr (ag h8) 0) ((1:Int).toNat*6)) 5 v77)∧
 (cp h109 h107 (tY v72 v73 v74 v75 v76 v77) (fun h110=>
 ((cX h110 (adr (adr (ag h8) 0) ((2:Int).toNat*6)) 0 v78∧aH h110 (adr (adr (ag h8) 0) ((2:Int).toNat*6)) 1 v79∧aH h110 (adr (adr (ag h8) 0) ((2:Int).toNat*6)) 2 v80∧aH h110 (adr (adr (ag h8) 0) ((2:Int).toNat*6)) 3 v81∧bj h110 (adr (adr (ag h8) 0) ((2:Int).toNat*6)) 4 v82∧bj h110 (adr (adr (ag h8) 0) ((2:Int).toNat*6)) 5 v83)∧
 (cp h110 h10 (tY v78 v79 v80 v81 v82 v83) (fun h111=>
 J65 (ag h106,ag h107,ag h10) h111))))))))))))))))))∧
 At (hnew h106 rB aL) (fun h112=>
 ((cX h112 (adr (adr (ag h8) 0) ((2:Int).toNat*6)) 0 v78∧aH h112 (adr (adr (ag h8) 0) ((2:Int).toNat*6)) 1 v79∧aH h112 (adr (adr (ag h8) 0) ((2:Int).toNat*6)) 2 v80∧aH h112 (adr (adr (ag h8) 0) ((2:Int).toNat*6)) 3 v81∧bj h112 (adr (adr (ag h8) 0) ((2:Int).toNat*6)) 4 v82∧bj h112 (adr (adr (ag h8) 0) ((2:Int).toNat*6)) 5 v83)∧
 ((cX h112 (adr (adr (ag h8) 0) ((1:Int).toNat*6)) 0 v72∧aH h112 (adr (adr (ag h8) 0) ((1:Int).toNat*6)) 1 v73∧aH h112 (adr (adr (ag h8) 0) ((1:Int).toNat*6)) 2 v74∧aH h112 (adr (adr (ag h8) 0) ((1:Int).toNat*6)) 3 v75∧bj h112 (adr (adr (ag h8) 0) ((1:Int).toNat*6)) 4 v76∧bj h112 (adr (adr (ag h8) 0) ((1:Int).toNat*6)) 5 v77)∧
 ((cX h112 (adr (adr (ag h8) 0) ((0:Int).toNat*6)) 0 v66∧aH h112 (adr (adr (ag h8) 0) ((0:Int).toNat*6)) 1 v67∧aH h112 (adr (adr (ag h8) 0) ((0:Int).toNat*6)) 2 v68∧aH h112 (adr (adr (ag h8) 0) ((0:Int).toNat*6)) 3 v69∧bj h112 (adr (adr (ag h8) 0) ((0:Int).toNat*6)) 4 v70∧bj h112 (adr (adr (ag h8) 0) ((0:Int).toNat*6)) 5 v71)∧
 At (hnew h112 rB aL) (fun h113=>
 ((cX h113 (adr (adr (ag h8) 0) ((2:Int).toNat*6)) 0 v78∧aH h113 (adr (adr (ag h8) 0) ((2:Int).toNat*6)) 1 v79∧aH h113 (adr (adr (ag h8) 0) ((2:Int).toNat*6)) 2 v80∧aH h113 (adr (adr (ag h8) 0) ((2:Int).toNat*6)) 3 v81∧bj h113 (adr (adr (ag h8) 0) ((2:Int).toNat*6)) 4 v82∧bj h113 (adr (adr (ag h8) 0) ((2:Int).toNat*6)) 5 v83)∧
 ((cX h113 (adr (adr (ag h8) 0) ((1:Int).toNat*6)) 0 v72∧aH h113 (adr (adr (ag h8) 0) ((1:Int).toNat*6)) 1 v73∧aH h113 (adr (adr (ag h8) 0) ((1:Int).toNat*6)) 2 v74∧aH h113 (adr (adr (ag h8) 0) ((1:Int).toNat*6)) 3 v75∧bj h113 (adr (adr (ag h8) 0) ((1:Int).toNat*6)) 4 v76∧bj h113 (adr (adr (ag h8) 0) ((1:Int).toNat*6)) 5 v77)∧
 ((cX h113 (adr (adr (ag h8) 0) ((0:Int).toNat*6)) 0 v66∧aH h113 (adr (adr (ag h8) 0) ((0:Int).toNat*6)) 1 v67∧aH h113 (adr (adr (ag h8) 0) ((0:Int).toNat*6)) 2 v68∧aH h113 (adr (adr (ag h8) 0) ((0:Int).toNat*6)) 3 v69∧bj h113 (adr (adr (ag h8) 0) ((0:Int).toNat*6)) 4 v70∧bj h113 (adr (adr (ag h8) 0) ((0:Int).toNat*6)) 5 v71)∧
 (cp h113 h112 (tY v66 v67 v68 v69 v70 v71) (fun h114=>
 ((cX h114 (adr (adr (ag h8) 0) ((2:Int).toNat*6)) 0 v78∧aH h114 (adr (adr (ag h8) 0) ((2:Int).toNat*6)) 1 v79∧aH h114 (adr (adr (ag h8) 0) ((2:Int).toNat*6)) 2 v80∧aH h114 (adr (adr (ag h8) 0) ((2:Int).toNat*6)) 3 v81∧bj h114 (adr (adr (ag h8) 0) ((2:Int).toNat*6)) 4 v82∧bj h114 (adr (adr (ag h8) 0) ((2:Int).toNat*6)) 5 v83)∧
 ((cX h114 (adr (adr (ag h8) 0) ((1:Int).toNat*6)) 0 v72∧aH h114 (adr (adr (ag h8) 0) ((1:Int).toNat*6)) 1 v73∧aH h114 (adr (adr (ag h8) 0) ((1:Int).toNat*6)) 2 v74∧aH h114 (adr (adr (ag h8) 0) ((1:Int).toNat*6)) 3 v75∧bj h114 (adr (adr (ag h8) 0) ((1:Int).toNat*6)) 4 v76∧bj h114 (adr (adr (ag h8) 0) ((1:Int).toNat*6)) 5 v77)∧
 (cp h114 h106 (tY v72 v73 v74 v75 v76 v77) (fun h115=>
 ((cX h115 (adr (adr (ag h8) 0) ((2:Int).toNat*6)) 0 v78∧aH h115 (adr (adr (ag h8) 0) ((2:Int).toNat*6)) 1 v79∧aH h115 (adr (adr (ag h8) 0) ((2:Int).toNat*6)) 2 v80∧aH h115 (adr (adr (ag h8) 0) ((2:Int).toNat*6)) 3 v81∧bj h115 (adr (adr (ag h8) 0) ((2:Int).toNat*6)) 4 v82∧bj h115 (adr (adr (ag h8) 0) ((2:Int).toNat*6)) 5 v83)∧
 (cp h115 h10 (tY v78 v79 v80 v81 v82 v83) (fun h116=>
 J65 (ag h112,ag h106,ag h10) h116)))))))))))))))))))))))))))))))) h3)) h1)
noncomputable def Al:Ann:=.node .nil (.node .nil (.node .nil (.join [(16,.c .adr),(17,.c .adr),(18,.c .adr)] .nil (.node .nil (.node .nil (.node .nil (.node (.node .nil (.loop [(82,.c (.int .i64))] (.node .nil (.node .nil (.node (.node .nil (.join [(27,.c .adr),(28,.c .adr)] .nil (.join [(106,.c .bool)] .nil .nil))) .nil))))) (.node (.node .nil (.loop [(113,.c (.int .i64))] (.node .nil (.node .nil (.node (.node .nil (.join [(31,.c .adr),(32,.c .adr)] .nil (.join [(137,.c .bool)] .nil .nil))) .nil))))) .nil))))))))
theorem Af(x0:Int)(x1:Int×Int×Int)(x2:SliceV)(x3:SliceV)(x4:SliceV)(x5:SliceV)(x6:SliceV){K:cQ [.c .bool]→ad→Prop}{h0:ad}(h:tT x0 x1 x2 x3 x4 x5 x6 K h0):HC PG tl [.int .u8 x0,MF x1,.slice x2.a x2.len x2.cap,.slice x3.a x3.len x3.cap,.slice x4.a x4.len x4.cap,.slice x5.a x5.len x5.cap,.slice x6.a x6.len x6.cap] [.c .bool] K h0:=dG Al Tryz.func6 Tryz.call6 rfl rfl (by kernel_rfl) h
def H5(x0:T6)(x1:T6)(K:(SliceV×Int)→ad→Prop)(h0:ad):Prop:=
 At (hnew h0 (oa x0) aL) (fun h1=>
 At (hnew h1 (oa x1) aL) (fun h2=>
 ∃v3,aN h2 h0 0 v3∧
 ∃v4,ae h2 h0 1 v4∧
 ∃v5,ae h2 h0 2 v5∧
 ∃v6,ae h2 h0 3 v6∧
 ∃v7,ax h2 h0 4 v7∧
 ∃v8,ax h2 h0 5 v8∧
 ∃v9,aN h2 h1 0 v9∧
 ∃v10,ae h2 h1 1 v10∧
 ∃v11,ae h2 h1 2 v11∧
 ∃v12,ae h2 h1 3 v12∧
 ∃v13,ax h2 h1 4 v13∧
 ∃v14,ax h2 h1 5 v14∧
 HC PG pJ [jR v3 v4 v5 v6 v7 v8,jR v9 v10 v11 v12 v13 v14] [.c .bool] (fun(e15:Bool) h16=>
 CondP (!e15) (
 K (⟨none,0,0⟩,11) h16) (
 ∃v17,aN h16 h0 0 v17∧
 ∃v18,ae h16 h0 1 v18∧
 ∃v19,ae h16 h0 2 v19∧
 ∃v20,ae h16 h0 3 v20∧
 ∃v21,ax h16 h0 4 v21∧
 ∃v22,ax h16 h0 5 v22∧
 HC PG pm [jR v17 v18 v19 v20 v21 v22] KP (fun(e23:Int×Int×Int) h24=>
 At (hnew h24 [.int .u64 e23.1,.int .u64 e23.2.1,.int .u64 e23.2.2,.slice none 0 0] zt) (fun h25=>
 Join (fun(t71:Unit) h72=>
 ∃a73,some (ag h24)=some a73∧
 ∃v74:SliceV,cd h72 a73 3 v74∧
 HC PG cD [.slice v74.a v74.len v74.cap,.func (.func ng) #[] #[]] [] (fun(e75:Unit) h76=>
 ∃a77,some (ag h24)=some a77∧
 ∃v78:SliceV,cd h76 a77 3 v78∧
 K (v78,0) h76) h72) (fun J26=>
 ∃v27,aN h25 h0 0 v27∧
 ∃v28,ae h25 h0 1 v28∧
 ∃v29,ae h25 h0 2 v29∧
 ∃v30,ae h25 h0 3 v30∧
 ∃v31,ax h25 h0 4 v31∧
 ∃v32,ax h25 h0 5 v32∧
 HC PG qV [jR v27 v28 v29 v30 v31 v32] bX (fun(e33:Int) h34=>
 CondP (e33==(1:Int)) (
 ∃v35,aN h34 h0 0 v35∧
 ∃v36,ae h34 h0 1 v36∧
 ∃v37,ae h34 h0 2 v37∧
 ∃v38,ae h34 h0 3 v38∧
 ∃v39,ax h34 h0 4 v39∧
 ∃v40,ax h34 h0 5 v40∧
 ∃v41,aN h34 h1 0 v41∧
 ∃v42,ae h34 h1 1 v42∧
 ∃v43,ae h34 h1 2 v43∧
 ∃v44,ae h34 h1 3 v44∧
 ∃v45,ax h34 h1 4 v45∧
 ∃v46,ax h34 h1 5 v46∧
 HC PG mu [jR v35 v36 v37 v38 v39 v40] [.c .ptr] (fun(e47:Option Addr) h48=>
 ((aN h48 h1 0 v41∧ae h48 h1 1 v42∧ae h48 h1 2 v43∧ae h48 h1 3 v44∧ax h48 h1 4 v45∧ax h48 h1 5 v46)∧
 HC PG mu [jR v41 v42 v43 v44 v45 v46] [.c .ptr] (fun(e49:Option Addr) h50=>
 HC PG iu (TE (some (ag h24)) e47 e49 (⟨#[]⟩:ByteArray)) [] (fun(e51:Unit) h52=>
 J26 () h52) h50) h48)) h34) (
 ∃v53,aN h34 h0 0 v53∧
 ∃v54,ae h34 h0 1 v54∧
 ∃v55,ae h34 h0 2 v55∧
 ∃v56,ae h34 h0 3 v56∧
 ∃v57,ax h34 h0 4 v57∧
 ∃v58,ax h34 h0 5 v58∧
 ∃v59,aN h34 h1 0 v59∧
 ∃v60,ae h34 h1 1 v60∧
 ∃v61,ae h34 h1 2 v61∧
 ∃v62,ae h34 h1 3 v62∧
 ∃v63,ax h34 h1 4 v63∧
 ∃v64,ax h34 h1 5 v64∧
 HC PG jX [jR v53 v54 v55 v56 v57 v58] [.c .ptr] (fun(e65:Option Addr) h66=>
 ((aN h66 h1 0 v59∧ae h66 h1 1 v60∧ae h66 h1 2 v61∧ae h66 h1 3 v62∧ax h66 h1 4 v63∧ax h66 h1 5 v64)∧
 HC PG jX [jR v59 v60 v61 v62 v63 v64] [.c .ptr] (fun(e67:Option Addr) h68=>
 HC PG nH (UN (some (ag h24)) e65 e67) [] (fun(e69:Unit) h70=>
 J26 () h70) h68) h66)) h34)) h25))) h16)) h2))
noncomputable def Qf:Ann:=.node .nil (.node .nil (.node .nil (.join [] .nil .nil)))
theorem Qb(x0:T6)(x1:T6){K:cQ Tj→ad→Prop}{h0:ad}(h:H5 x0 x1 K h0):HC PG sR [Gq x0,Gq x1] Tj K h0:=dG Qf Tryz.func10 Tryz.call10 rfl rfl (by kernel_rfl) h
def DG(x0:T6)(x1:T6)(K:(Bool)→ad→Prop)(h0:ad):Prop:=
 At (hnew h0 (oa x0) aL) (fun h1=>
 At (hnew h1 (oa x1) aL) (fun h2=>
 ∃v3,aN h2 h0 0 v3∧
 ∃v4,ae h2 h0 1 v4∧
 ∃v5,ae h2 h0 2 v5∧
 ∃v6,ae h2 h0 3 v6∧
 ∃v7,ax h2 h0 4 v7∧
 ∃v8,ax h2 h0 5 v8∧
 ∃v9,aN h2 h1 0 v9∧
 ∃v10,ae h2 h1 1 v10∧
 ∃v11,ae h2 h1 2 v11∧
 ∃v12,ae h2 h1 3 v12∧
 ∃v13,ax h2 h1 4 v13∧
 ∃v14,ax h2 h1 5 v14∧
 HC PG pJ [jR v3 v4 v5 v6 v7 v8,jR v9 v10 v11 v12 v13 v14] [.c .bool] (fun(e15:Bool) h16=>
 CondP e15 (
 ∃v17,aN h16 h0 0 v17∧
 ∃v18,ae h16 h0 1 v18∧
 ∃v19,ae h16 h0 2 v19∧
 ∃v20,ae h16 h0 3 v20∧
 ∃v21,ax h16 h0 4 v21∧
 ∃v22,ax h16 h0 5 v22∧
 ∃v23,aN h16 h1 0 v23∧
 ∃v24,ae h16 h1 1 v24∧
 ∃v25,ae h16 h1 2 v25∧
 ∃v26,ae h16 h1 3 v26∧
 ∃v27,ax h16 h1 4 v27∧
 ∃v28,ax h16 h1 5 v28∧
 HC PG mr [jR v17 v18 v19 v20 v21 v22] [.c .slice] (fun(e29:SliceV) h30=>
 ((aN h30 h1 0 v23∧ae h30 h1 1 v24∧ae h30 h1 2 v25∧ae h30 h1 3 v26∧ax h30 h1 4 v27∧ax h30 h1 5 v28)∧
 HC PG mr [jR v23 v24 v25 v26 v27 v28] [.c .slice] (fun(e31:SliceV) h32=>
 HC PG u5 (Qv e29 e31) [.c .bool] (fun(e33:Bool) h34=>
 K e33 h34) h32) h30)) h16) (
 K false h16)) h2))
theorem Lq(x0:T6)(x1:T6){K:cQ [.c .bool]→ad→Prop}{h0:ad}(h:DG x0 x1 K h0):HC PG xR [Gq x0,Gq x1] [.c .bool] K h0:=dG .nil Tryz.func18 Tryz.call18 rfl rfl (by kernel_rfl) h
def xg(x0:T6)(x1:ByteArray)(K:(ByteArray×Bool)→ad→Prop)(h0:ad):Prop:=
 At (hnew h0 (oa x0) aL) (fun h1=>
 ∃v2,aN h1 h0 0 v2∧
 CondP (v2==(1:Int)) (
 ∃v3,ax h1 h0 5 v3∧
 HC PG xT (xu v3 x1) lx (fun(e4:ByteArray×Bool) h5=>
 K (e4.1,e4.2) h5) h1) (
 ∃v6,aH h1 (adr (ag h0) 1) 0 v6∧
 ∃v7,aH h1 (adr (ag h0) 1) 1 v7∧
 ∃v8,aH h1 (adr (ag h0) 1) 2 v8∧
 ∃v9,ax h1 h0 4 v9∧
 HC PG xZ [zm v6 v7 v8,.pointer v9,.string x1] lx (fun(e10:ByteArray×Bool) h11=>
 K (e10.1,e10.2) h11) h1))
theorem D7(x0:T6)(x1:ByteArray){K:cQ lx→ad→Prop}{h0:ad}(h:xg x0 x1 K h0):HC PG r8 [Gq x0,.string x1] lx K h0:=dG .nil Tryz.func19 Tryz.call19 rfl rfl (by kernel_rfl) h
def DS(K:(Bool)→ad→Prop)(h0:ad):Prop:=
 At (hnew h0 (jH (⟨#[97]⟩:ByteArray) (⟨#[49]⟩:ByteArray)) af) (fun h1=>
 HC PG qg [.int .i64 0,Vz,.slice (some (ag h0)) 1 1] tf (fun(e2:(T6)×Int) h3=>
 nv h3 rB aL (oa e2.1) (fun h5=>
 At (hnew h5 (jH (⟨#[97]⟩:ByteArray) (⟨#[50]⟩:ByteArray)) af) (fun h6=>
 HC PG qg [.int .i64 0,Vz,.slice (some (ag h5)) 1 1] tf (fun(e7:(T6)×Int) h8=>
 nv h8 rB aL (oa e7.1) (fun h10=>
 At (hnew h10 (vl9 (⟨#[97]⟩:ByteArray) (⟨#[49]⟩:ByteArray) (⟨#[98]⟩:ByteArray) (⟨#[51]⟩:ByteArray)) af) (fun h11=>
 HC PG qg [.int .i64 0,Vz,.slice (some (ag h10)) 2 2] tf (fun(e12:(T6)×Int) h13=>
 nv h13 rB aL (oa e12.1) (fun h15=>
 ∃v16,aN h15 h3 0 v16∧
 ∃v17,ae h15 h3 1 v17∧
 ∃v18,ae h15 h3 2 v18∧
 ∃v19,ae h15 h3 3 v19∧
 ∃v20,ax h15 h3 4 v20∧
 ∃v21,ax h15 h3 5 v21∧
 ∃v22,aN h15 h8 0 v22∧
 ∃v23,ae h15 h8 1 v23∧
 ∃v24,ae h15 h8 2 v24∧
 ∃v25,ae h15 h8 3 v25∧
 ∃v26,ax h15 h8 4 v26∧
 ∃v27,ax h15 h8 5 v27∧
 ∃v28,aN h15 h13 0 v28∧
 ∃v29,ae h15 h13 1 v29∧
 ∃v30,ae h15 h13 2 v30∧
 ∃v31,ae h15 h13 3 v31∧
 ∃v32,ax h15 h13 4 v32∧
 ∃v33,ax h15 h13 5 v33∧
 HC PG qY [jR v16 v17 v18 v19 v20 v21,jR v22 v23 v24 v25 v26 v27,jR v28 v29 v30 v31 v32 v33,.int .i64 0] MZ (fun(e34:(T6)×SliceV×Int) h35=>
 nv h35 rB aL (oa e34.1) (fun h37=>
 ∃v38,aN h37 h35 0 v38∧
 ∃v39,ae h37 h35 1 v39∧
 ∃v40,ae h37 h35 2 v40∧
 ∃v41,ae h37 h35 3 v41∧
 ∃v42,ax h37 h35 4 v42∧
 ∃v43,ax h37 h35 5 v43∧
 HC PG p4 [jR v38 v39 v40 v41 v42 v43] [.c .slice] (fun(e44:SliceV) h45=>
 CondP (e34.2.2==(0:Int)) (
 CondP ((e34.2.1.len:Int)==(0:Int)) (
 CondP ((e44.len:Int)==(2:Int)) (
 (cj 0 e44.len∧∃a46,e44.a=some a46∧
 ∃v47,aD h45 (adr a46 ((0:Int).toNat*2)) 1 v47∧
 CondP (v47.toList==(⟨#[50]⟩:ByteArray).toList) (
 (cj 1 e44.len∧∃a48,e44.a=some a48∧
 ∃v49,aD h45 (adr a48 ((1:Int).toNat*2)) 1 v49∧
 K (v49.toList==(⟨#[51]⟩:ByteArray).toList) h45)) (
 K false h45))) (
 K false h45)) (
 K false h45)) (
 K false h45)) h37)) h15)) h11))) h6))) h1)
theorem LB{K:cQ [.c .bool]→ad→Prop}{h0:ad}(h:DS K h0):HC PG xX [] [.c .bool] K h0:=dG .nil Tryz.func20 Tryz.call20 rfl rfl (by kernel_rfl) h
def Gc(x0:Int)(x1:Int×Int×Int)(x2:SliceV)(x3:SliceV)(x4:SliceV)(x5:SliceV)(x6:SliceV)(x7:Bool)(K:(Int×Int×Int×Int×(Option Addr)×(Option Addr)×Int×Int×Int×Int×(Option Addr)×(Option Addr)×Int×Int×Int×Int×(Option Addr)×(Option Addr)×Int×Int×Int×Int×SliceV×Int×Int×Int×Int×SliceV×T5)→ad→Prop)(h0:ad):Prop:=
 At (hnew h0 (Dm x1) cC) (fun h1=>
 At (hnew h1 ((.int .i64 0)::(.int .u64 0)::(.int .u64 0)::(.int .u64 0)::(.pointer none)::(.pointer none)::(.int .i64 0)::(.int .u64 0)::(.int .u64 0)::(.int .u64 0)::(.pointer none)::(.pointer none)::(.int .i64 0)::(.int .u64 0)::(.int .u64 0)::(.int .u64 0)::(.pointer none)::(.pointer none)::(.int .i64 0)::(.int .u64 0)::(.int .u64 0)::(.int .u64 0)::(.slice none 0 0)::(.int .i64 0)::(.int .u64 0)::(.int .u64 0)::(.int .u64 0)::(.slice none 0 0)::(.int .i64 0)::(.int .u64 0)::(.int .u64 0)::(.int .u64 0)::(.slice none 0 0):: []) rC) (fun h2=>
 At (hnew h2 ((.int .i64 0)::(.int .u64 0)::(.int .u64 0)::(.int .u64 0)::(.pointer none)::(.pointer none)::(.int .i64 0)::(.int .u64 0)::(.int .u64 0)::(.int .u64 0)::(.pointer none)::(.pointer none)::(.int .i64 0)::(.int .u64 0)::(.int .u64 0)::(.int .u64 0)::(.pointer none)::(.pointer none)::(.int .i64 0)::(.int .u64 0)::(.int .u64 0)::(.int .u64 0)::(.slice none 0 0)::(.int .i64 0)::(.int .u64 0)::(.int .u64 0)::(.int .u64 0)::(.slice none 0 0)::(.int .i64 0)::(.int .u64 0)::(.int .u64 0)::(.int .u64 0)::(.slice none 0 0):: []) rC) (fun h3=>
 ∃v4,ae h3 h0 0 v4∧
 ∃v5,ae h3 h0 1 v5∧
 ∃v6,ae h3 h0 2 v6∧
 HC PG xW [.int .u8 x0,zm v4 v5 v6] Fl (fun(e7:(T6)×(T5)) h8=>
 At (hnew h8 rB aL) (fun h9=>
 At (hnew h9 Am fI) (fun h10=>
 (cp h10 h8 (oa e7.1) (fun h11=>
 (cp h11 h9 (xB e7.2) (fun h12=>
 ∃v13,aN h12 h8 0 v13∧
 ∃v14,ae h12 h8 1 v14∧
 ∃v15,ae h12 h8 2 v15∧
 ∃v16,ae h12 h8 3 v16∧
 ∃v17,ax h12 h8 4 v17∧
 ∃v18,ax h12 h8 5 v18∧
 ∃v19,aN h12 h9 0 v19∧
 ∃v20,ae h12 h9 1 v20∧
 ∃v21,ae h12 h9 2 v21∧
 ∃v22,ae h12 h9 3 v22∧
 ∃v23:SliceV,df h12 h9 4 v23∧
 HC PG nf [jR v13 v14 v15 v16 v17 v18,Ic v19 v20 v21 v22 v23,.slice x2.a x2.len x2.cap,.slice none 0 0] Fl (fun(e24:(T6)×(T5)) h25=>
 (cj 0 3∧
 (fC h25 (adr (adr (ag h2) 0) ((0:Int).toNat*6)) (oa e24.1) (fun h26=>
 (cj 0 3∧
 (fC h26 (adr (adr (ag h2) 18) ((0:Int).toNat*5)) (xB e24.2) (fun h27=>
 CondP x7 (
 ∃v28,aN h27 h8 0 v28∧
 ∃v29,ae h27 h8 1 v29∧
 ∃v30,ae h27 h8 2 v30∧
 ∃v31,ae h27 h8 3 v31∧
 ∃v32,ax h27 h8 4 v32∧
 ∃v33,ax h27 h8 5 v33∧
 ∃v34,aN h27 h9 0 v34∧
 ∃v35,ae h27 h9 1 v35∧
 ∃v36,ae h27 h9 2 v36∧
 ∃v37,ae h27 h9 3 v37∧
 ∃v38:SliceV,df h27 h9 4 v38∧
 HC PG nf [jR v28 v29 v30 v31 v32 v33,Ic v34 v35 v36 v37 v38,.slice x3.a x3.len x3.cap,.slice x5.a x5.len x5.cap] Fl (fun(e39:(T6)×(T5)) h40=>
 (cj 1 3∧
 (fC h40 (adr (adr (ag h2) 0) ((1:Int).toNat*6)) (oa e39.1) (fun h41=>
 (cj 1 3∧
 (fC h41 (adr (adr (ag h2) 18) ((1:Int).toNat*5)) (xB e39.2) (fun h42=>
 ∃v43,aN h42 h8 0 v43∧
 ∃v44,ae h42 h8 1 v44∧
 ∃v45,ae h42 h8 2 v45∧
 ∃v46,ae h42 h8 3 v46∧
 ∃v47,ax h42 h8 4 v47∧
 ∃v48,ax h42 h8 5 v48∧
 ∃v49,aN h42 h9 0 v49∧
 ∃v50,ae h42 h9 1 v50∧
 ∃v51,ae h42 h9 2 v51∧
 ∃v52,ae h42 h9 3 v52∧
 ∃v53:SliceV,df h42 h9 4 v53∧
 HC PG nf [jR v43 v44 v45 v46 v47 v48,Ic v49 v50 v51 v52 v53,.slice x4.a x4.len x4.cap,.slice x6.a x6.len x6.cap] Fl (fun(e54:(T6)×(T5)) h55=>
 (cj (2:Int) 3∧
 (fC h55 (adr (adr (ag h2) 0) ((2:Int).toNat*6)) (oa e54.1) (fun h56=>
 (cj (2:Int) 3∧
 (fC h56 (adr (adr (ag h2) 18) ((2:Int).toNat*5)) (xB e54.2) (fun h57=>
 ∃v58,aN h57 h2 0 v58∧
 ∃v59,ae h57 h2 1 v59∧
 ∃v60,ae h57 h2 2 v60∧
 ∃v61,ae h57 h2 3 v61∧
 ∃v62,ax h57 h2 4 v62∧
 ∃v63,ax h57 h2 5 v63∧
 ∃v64,aN h57 h2 6 v64∧
 ∃v65,ae h57 h2 7 v65∧
 ∃v66,ae h57 h2 8 v66∧
 ∃v67,ae h57 h2 9 v67∧
 ∃v68,ax h57 h2 10 v68∧
 ∃v69,ax h57 h2 11 v69∧
 ∃v70,aN h57 h2 12 v70∧
 ∃v71,ae h57 h2 13 v71∧
 ∃v72,ae h57 h2 14 v72∧
 ∃v73,ae h57 h2 15 v73∧
 ∃v74,ax h57 h2 16 v74∧
 ∃v75,ax h57 h2 17 v75∧
 ∃v76,aN h57 h2 18 v76∧
 ∃v77,ae h57 h2 19 v77∧
 ∃v78,ae h57 h2 20 v78∧
 ∃v79,ae h57 h2 21 v79∧
 ∃v80:SliceV,df h57 h2 22 v80∧
 ∃v81,aN h57 h2 23 v81∧
 ∃v82,ae h57 h2 24 v82∧
 ∃v83,ae h57 h2 25 v83∧
 ∃v84,ae h57 h2 26 v84∧
 ∃v85:SliceV,df h57 h2 27 v85∧
 ∃v86,aN h57 h2 28 v86∧
 ∃v87,ae h57 h2 29 v87∧
 ∃v88,ae h57 h2 30 v88∧
 ∃v89,ae h57 h2 31 v89∧
 ∃v90:SliceV,df h57 h2 32 v90∧
 (qE h57 (some (ag h1)) 0 ((.int .i64 v58)::(.int .u64 v59)::(.int .u64 v60)::(.int .u64 v61)::(.pointer v62)::(.pointer v63)::(.int .i64 v64)::(.int .u64 v65)::(.int .u64 v66)::(.int .u64 v67)::(.pointer v68)::(.pointer v69)::(.int .i64 v70)::(.int .u64 v71)::(.int .u64 v72)::(.int .u64 v73)::(.pointer v74)::(.pointer v75)::(.int .i64 v76)::(.int .u64 v77)::(.int .u64 v78)::(.int .u64 v79)::(.slice v80.a v80.len v80.cap)::(.int .i64 v81)::(.int .u64 v82)::(.int .u64 v83)::(.int .u64 v84)::(.slice v85.a v85.len v85.cap)::(.int .i64 v86)::(.int .u64 v87)::(.int .u64 v88)::(.int .u64 v89)::(.slice v90.a v90.len v90.cap):: [])∧
 At (fk h57 (ag h1) 0 ((.int .i64 v58)::(.int .u64 v59)::(.int .u64 v60)::(.int .u64 v61)::(.pointer v62)::(.pointer v63)::(.int .i64 v64)::(.int .u64 v65)::(.int .u64 v66)::(.int .u64 v67)::(.pointer v68)::(.pointer v69)::(.int .i64 v70)::(.int .u64 v71)::(.int .u64 v72)::(.int .u64 v73)::(.pointer v74)::(.pointer v75)::(.int .i64 v76)::(.int .u64 v77)::(.int .u64 v78)::(.int .u64 v79)::(.slice v80.a v80.len v80.cap)::(.int .i64 v81)::(.int .u64 v82)::(.int .u64 v83)::(.int .u64 v84)::(.slice v85.a v85.len v85.cap)::(.int .i64 v86)::(.int .u64 v87)::(.int .u64 v88)::(.int .u64 v89)::(.slice v90.a v90.len v90.cap):: [])) (fun h91=>
 ∃v92,aN h91 h1 0 v92∧
 ∃v93,ae h91 h1 1 v93∧
 ∃v94,ae h91 h1 2 v94∧
 ∃v95,ae h91 h1 3 v95∧
 ∃v96,ax h91 h1 4 v96∧
 ∃v97,ax h91 h1 5 v97∧
 ∃v98,aN h91 h1 6 v98∧
 ∃v99,ae h91 h1 7 v99∧
 ∃v100,ae h91 h1 8 v100∧
 ∃v101,ae h91 h1 9 v101∧
 ∃v102,ax h91 h1 10 v102∧
 ∃v103,ax h91 h1 11 v103∧
 ∃v104,aN h91 h1 12 v104∧
 ∃v105,ae h91 h1 13 v105∧
 ∃v106,ae h91 h1 14 v106∧
 ∃v107,ae h91 h1 15 v107∧
 ∃v108,ax h91 h1 16 v108∧
 ∃v109,ax h91 h1 17 v109∧
 ∃v110,aN h91 h1 18 v110∧
 ∃v111,ae h91 h1 19 v111∧
 ∃v112,ae h91 h1 20 v112∧
 ∃v113,ae h91 h1 21 v113∧
 ∃v114:SliceV,df h91 h1 22 v114∧
 ∃v115,aN h91 h1 23 v115∧
 ∃v116,ae h91 h1 24 v116∧
 ∃v117,ae h91 h1 25 v117∧
 ∃v118,ae h91 h1 26 v118∧
 ∃v119:SliceV,df h91 h1 27 v119∧
 ∃v120,aN h91 h1 28 v120∧
 ∃v121,ae h91 h1 29 v121∧
 ∃v122,ae h91 h1 30 v122∧
 ∃v123,ae h91 h1 31 v123∧
 ∃v124:SliceV,df h91 h1 32 v124∧
 K (v92,v93,v94,v95,v96,v97,v98,v99,v100,v101,v102,v103,v104,v105,v106,v107,v108,v109,v110,v111,v112,v113,v114,v115,v116,v117,v118,v119,v120,v121,v122,v123,v124) h91))))))))) h42))))))) h27) (
 (cj 0 3∧
 ∃v125,cX h27 (adr (adr (ag h2) 0) ((0:Int).toNat*6)) 0 v125∧
 ∃v126,aH h27 (adr (adr (ag h2) 0) ((0:Int).toNat*6)) 1 v126∧
 ∃v127,aH h27 (adr (adr (ag h2) 0) ((0:Int).toNat*6)) 2 v127∧
 ∃v128,aH h27 (adr (adr (ag h2) 0) ((0:Int).toNat*6)) 3 v128∧
 ∃v129,bj h27 (adr (adr (ag h2) 0) ((0:Int).toNat*6)) 4 v129∧
 ∃v130,bj h27 (adr (adr (ag h2) 0) ((0:Int).toNat*6)) 5 v130∧
 (cj 0 3∧
 ∃v131,cX h27 (adr (adr (ag h2) 18) ((0:Int).toNat*5)) 0 v131∧
 ∃v132,aH h27 (adr (adr (ag h2) 18) ((0:Int).toNat*5)) 1 v132∧
 ∃v133,aH h27 (adr (adr (ag h2) 18) ((0:Int).toNat*5)) 2 v133∧
 ∃v134,aH h27 (adr (adr (ag h2) 18) ((0:Int).toNat*5)) 3 v134∧
 ∃v135:SliceV,cd h27 (adr (adr (ag h2) 18) ((0:Int).toNat*5)) 4 v135∧
 HC PG nf [jR v125 v126 v127 v128 v129 v130,Ic v131 v132 v133 v134 v135,.slice x3.a x3.len x3.cap,.slice x5.a x5.len x5.cap] Fl (fun(e136:(T6)×(T5)) h137=>
 (cj 1 3∧
 (fC h137 (adr (adr (ag h2) 0) ((1:Int).toNat*6)) (oa e136.1) (fun h138=>
 (cj 1 3∧
 (fC h138 (adr (adr (ag h2) 18) ((1:Int).toNat*5)) (xB e136.2) (fun h139=>
 (cj 0 3∧
 ∃v140,cX h139 (adr (adr (ag h2) 0) ((0:Int).toNat*6)) 0 v140∧
 ∃v141,aH h139 (adr (adr (ag h2) 0) ((0:Int).toNat*6)) 1 v141∧
 ∃v142,aH h139 (adr (adr (ag h2) 0) ((0:Int).toNat*6)) 2 v142∧
 ∃v143,aH h139 (adr (adr (ag h2) 0) ((0:Int).toNat*6)) 3 v143∧
 ∃v144,bj h139 (adr (adr (ag h2) 0) ((0:Int).toNat*6)) 4 v144∧
 ∃v145,bj h139 (adr (adr (ag h2) 0) ((0:Int).toNat*6)) 5 v145∧
 (cj 0 3∧
 ∃v146,cX h139 (adr (adr (ag h2) 18) ((0:Int).toNat*5)) 0 v146∧
 ∃v147,aH h139 (adr (adr (ag h2) 18) ((0:Int).toNat*5)) 1 v147∧
 ∃v148,aH h139 (adr (adr (ag h2) 18) ((0:Int).toNat*5)) 2 v148∧
 ∃v149,aH h139 (adr (adr (ag h2) 18) ((0:Int).toNat*5)) 3 v149∧
 ∃v150:SliceV,cd h139 (adr (adr (ag h2) 18) ((0:Int).toNat*5)) 4 v150∧
 HC PG nf [jR v140 v141 v142 v143 v144 v145,Ic v146 v147 v148 v149 v150,.slice x4.a x4.len x4.cap,.slice x6.a x6.len x6.cap] Fl (fun(e151:(T6)×(T5)) h152=>
 (cj (2:Int) 3∧
 (fC h152 (adr (adr (ag h2) 0) ((2:Int).toNat*6)) (oa e151.1) (fun h153=>
 (cj (2:Int) 3∧
 (fC h153 (adr (adr (ag h2) 18) ((2:Int).toNat*5)) (xB e151.2) (fun h154=>
 ∃v155,aN h154 h2 0 v155∧
 ∃v156,ae h154 h2 1 v156∧
 ∃v157,ae h154 h2 2 v157∧
 ∃v158,ae h154 h2 3 v158∧
 ∃v159,ax h154 h2 4 v159∧
 ∃v160,ax h154 h2 5 v160∧
 ∃v161,aN h154 h2 6 v161∧
 ∃v162,ae h154 h2 7 v162∧
 ∃v163,ae h154 h2 8 v163∧
 ∃v164,ae h154 h2 9 v164∧
 ∃v165,ax h154 h2 10 v165∧
 ∃v166,ax h154 h2 11 v166∧
 ∃v167,aN h154 h2 12 v167∧
 ∃v168,ae h154 h2 13 v168∧
 ∃v169,ae h154 h2 14 v169∧
 ∃v170,ae h154 h2 15 v170∧
 ∃v171,ax h154 h2 16 v171∧
 ∃v172,ax h154 h2 17 v172∧
 ∃v173,aN h154 h2 18 v173∧
 ∃v174,ae h154 h2 19 v174∧
 ∃v175,ae h154 h2 20 v175∧
 ∃v176,ae h154 h2 21 v176∧
 ∃v177:SliceV,df h154 h2 22 v177∧
 ∃v178,aN h154 h2 23 v178∧
 ∃v179,ae h154 h2 24 v179∧
 ∃v180,ae h154 h2 25 v180∧
 ∃v181,ae h154 h2 26 v181∧
 ∃v182:SliceV,df h154 h2 27 v182∧
 ∃v183,aN h154 h2 28 v183∧
 ∃v184,ae h154 h2 29 v184∧
 ∃v185,ae h154 h2 30 v185∧
 ∃v186,ae h154 h2 31 v186∧
 ∃v187:SliceV,df h154 h2 32 v187∧
 (qE h154 (some (ag h1)) 0 ((.int .i64 v155)::(.int .u64 v156)::(.int .u64 v157)::(.int .u64 v158)::(.pointer v159)::(.pointer v160)::(.int .i64 v161)::(.int .u64 v162)::(.int .u64 v163)::(.int .u64 v164)::(.pointer v165)::(.pointer v166)::(.int .i64 v167)::(.int .u64 v168)::(.int .u64 v169)::(.int .u64 v170)::(.pointer v171)::(.pointer v172)::(.int .i64 v173)::(.int .u64 v174)::(.int .u64 v175)::(.int .u64 v176)::(.slice v177.a v177.len v177.cap)::(.int .i64 v178)::(.int .u64 v179)::(.int .u64 v180)::(.int .u64 v181)::(.slice v182.a v182.len v182.cap)::(.int .i64 v183)::(.int .u64 v184)::(.int .u64 v185)::(.int .u64 v186)::(.slice v187.a v187.len v187.cap):: [])∧
 At (fk h154 (ag h1) 0 ((.int .i64 v155)::(.int .u64 v156)::(.int .u64 v157)::(.int .u64 v158)::(.pointer v159)::(.pointer v160)::(.int .i64 v161)::(.int .u64 v162)::(.int .u64 v163)::(.int .u64 v164)::(.pointer v165)::(.pointer v166)::(.int .i64 v167)::(.int .u64 v168)::(.int .u64 v169)::(.int .u64 v170)::(.pointer v171)::(.pointer v172)::(.int .i64 v173)::(.int .u64 v174)::(.int .u64 v175)::(.int .u64 v176)::(.slice v177.a v177.len v177.cap)::(.int .i64 v178)::(.int .u64 v179)::(.int .u64 v180)::(.int .u64 v181)::(.slice v182.a v182.len v182.cap)::(.int .i64 v183)::(.int .u64 v184)::(.int .u64 v185)::(.int .u64 v186)::(.slice v187.a v187.len v187.cap):: [])) (fun h188=>
 ∃v189,aN h188 h1 0 v189∧
 ∃v190,ae h188 h1 1 v190∧
 ∃v191,ae h188 h1 2 v191∧
 ∃v192,ae h188 h1 3 v192∧
 ∃v193,ax h188 h1 4 v193∧
 ∃v194,ax h188 h1 5 v194∧
 ∃v195,aN h188 h1 6 v195∧
 ∃v196,ae h188 h1 7 v196∧
 ∃v197,ae h188 h1 8 v197∧
 ∃v198,ae h188 h1 9 v198∧
 ∃v199,ax h188 h1 10 v199∧
 ∃v200,ax h188 h1 11 v200∧
 ∃v201,aN h188 h1 12 v201∧
 ∃v202,ae h188 h1 13 v202∧
 ∃v203,ae h188 h1 14 v203∧
 ∃v204,ae h188 h1 15 v204∧
 ∃v205,ax h188 h1 16 v205∧
 ∃v206,ax h188 h1 17 v206∧
 ∃v207,aN h188 h1 18 v207∧
 ∃v208,ae h188 h1 19 v208∧
 ∃v209,ae h188 h1 20 v209∧
 ∃v210,ae h188 h1 21 v210∧
 ∃v211:SliceV,df h188 h1 22 v211∧
 ∃v212,aN h188 h1 23 v212∧
 ∃v213,ae h188 h1 24 v213∧
 ∃v214,ae h188 h1 25 v214∧
 ∃v215,ae h188 h1 26 v215∧
 ∃v216:SliceV,df h188 h1 27 v216∧
 ∃v217,aN h188 h1 28 v217∧
 ∃v218,ae h188 h1 29 v218∧
 ∃v219,ae h188 h1 30 v219∧
 ∃v220,ae h188 h1 31 v220∧
 ∃v221:SliceV,df h188 h1 32 v221∧
 K (v189,v190,v191,v192,v193,v194,v195,v196,v197,v198,v199,v200,v201,v202,v203,v204,v205,v206,v207,v208,v209,v210,v211,v212,v213,v214,v215,v216,v217,v218,v219,v220,v221) h188))))))))) h139))))))))) h27)))))))))) h12))))))) h3)))
theorem NL(x0:Int)(x1:Int×Int×Int)(x2:SliceV)(x3:SliceV)(x4:SliceV)(x5:SliceV)(x6:SliceV)(x7:Bool){K:cQ [.agg ((.int .i64)::(.int .u64)::(.int .u64)::(.int .u64):: .ptr:: .ptr::(.int .i64)::(.int .u64)::(.int .u64)::(.int .u64):: .ptr:: .ptr::(.int .i64)::(.int .u64)::(.int .u64)::(.int .u64):: .ptr:: .ptr::(.int .i64)::(.int .u64)::(.int .u64)::(.int .u64):: .slice::(.int .i64)::(.int .u64)::(.int .u64)::(.int .u64):: .slice::(.int .i64)::(.int .u64)::(.int .u64)::(.int .u64):: .slice:: [])]→ad→Prop}{h0:ad}(h:Gc x0 x1 x2 x3 x4 x5 x6 x7 K h0):HC PG zR [.int .u8 x0,MF x1,.slice x2.a x2.len x2.cap,.slice x3.a x3.len x3.cap,.slice x4.a x4.len x4.cap,.slice x5.a x5.len x5.cap,.slice x6.a x6.len x6.cap,.bool x7] [.agg ((.int .i64)::(.int .u64)::(.int .u64)::(.int .u64):: .ptr:: .ptr::(.int .i64)::(.int .u64)::(.int .u64)::(.int .u64):: .ptr:: .ptr::(.int .i64)::(.int .u64)::(.int .u64)::(.int .u64):: .ptr:: .ptr::(.int .i64)::(.int .u64)::(.int .u64)::(.int .u64):: .slice::(.int .i64)::(.int .u64)::(.int .u64)::(.int .u64):: .slice::(.int .i64)::(.int .u64)::(.int .u64)::(.int .u64):: .slice:: [])] K h0:=dG .nil Tryz.func21 Tryz.call21 rfl rfl (by kernel_rfl) h
def Gb(x0:T6)(x1:T6)(x2:T6)(x3:Int)(K:((T6)×SliceV×Int)→ad→Prop)(h0:ad):Prop:=
 At (hnew h0 (oa x0) aL) (fun h1=>
 At (hnew h1 (oa x1) aL) (fun h2=>
 At (hnew h2 (oa x2) aL) (fun h3=>
 At (hnew h3 rB aL) (fun h4=>
 HC PG wN [.int .i64 x3] [.c .str] (fun(e5:ByteArray) h6=>
 CondP (e5.toList==(⟨#[]⟩:ByteArray).toList) (
 ∃v7,aN h6 h1 0 v7∧
 ∃v8,ae h6 h1 1 v8∧
 ∃v9,ae h6 h1 2 v9∧
 ∃v10,ae h6 h1 3 v10∧
 ∃v11,ax h6 h1 4 v11∧
 ∃v12,ax h6 h1 5 v12∧
 (cp h6 h3 (tY v7 v8 v9 v10 v11 v12) (fun h13=>
 ∃v14,aN h13 h3 0 v14∧
 ∃v15,ae h13 h3 1 v15∧
 ∃v16,ae h13 h3 2 v16∧
 ∃v17,ae h13 h3 3 v17∧
 ∃v18,ax h13 h3 4 v18∧
 ∃v19,ax h13 h3 5 v19∧
 K ((v14,v15,v16,v17,v18,v19),⟨none,0,0⟩,1) h13))) (
 Join (fun(t49:Bool) h50=>
 CondP t49 (
 ∃v51,aN h50 h1 0 v51∧
 ∃v52,ae h50 h1 1 v52∧
 ∃v53,ae h50 h1 2 v53∧
 ∃v54,ae h50 h1 3 v54∧
 ∃v55,ax h50 h1 4 v55∧
 ∃v56,ax h50 h1 5 v56∧
 (cp h50 h3 (tY v51 v52 v53 v54 v55 v56) (fun h57=>
 ∃v58,aN h57 h3 0 v58∧
 ∃v59,ae h57 h3 1 v59∧
 ∃v60,ae h57 h3 2 v60∧
 ∃v61,ae h57 h3 3 v61∧
 ∃v62,ax h57 h3 4 v62∧
 ∃v63,ax h57 h3 5 v63∧
 K ((v58,v59,v60,v61,v62,v63),⟨none,0,0⟩,11) h57))) (
 ∃v64,aN h50 h0 0 v64∧
 ∃v65,ae h50 h0 1 v65∧
 ∃v66,ae h50 h0 2 v66∧
 ∃v67,ae h50 h0 3 v67∧
 ∃v68,ax h50 h0 4 v68∧
 ∃v69,ax h50 h0 5 v69∧
 ∃v70,aN h50 h2 0 v70∧
 ∃v71,ae h50 h2 1 v71∧
 ∃v72,ae h50 h2 2 v72∧
 ∃v73,ae h50 h2 3 v73∧
 ∃v74,ax h50 h2 4 v74∧
 ∃v75,ax h50 h2 5 v75∧
 HC PG sR [jR v64 v65 v66 v67 v68 v69,jR v70 v71 v72 v73 v74 v75] Tj (fun(e76:SliceV×Int) h77=>
 ∃v78,aN h77 h1 0 v78∧
 ∃v79,ae h77 h1 1 v79∧
 ∃v80,ae h77 h1 2 v80∧
 ∃v81,ae h77 h1 3 v81∧
 ∃v82,ax h77 h1 4 v82∧
 ∃v83,ax h77 h1 5 v83∧
 nv h77 rB aL (tY v78 v79 v80 v81 v82 v83) (fun h85=>
 LoopP (fun I86 (t87:SliceV×Int) h88=>
 CondP (decide (t87.2<(e76.1.len:Int))) (
 (cj t87.2 e76.1.len∧∃a89,e76.1.a=some a89∧
 ∃v90,aD h88 (adr a89 (t87.2.toNat*5)) 0 v90∧
 ∃v91,aD h88 (adr a89 (t87.2.toNat*5)) 1 v91∧
 ∃v92,aD h88 (adr a89 (t87.2.toNat*5)) 2 v92∧
 ∃v93,bI h88 (adr a89 (t87.2.toNat*5)) 3 v93∧
 ∃v94,bI h88 (adr a89 (t87.2.toNat*5)) 4 v94∧
 nv h88 O2 bT (jJ v90 v91 v92 v93 v94) (fun h96=>
 Join (fun(t141:Addr) h142=>
 ∃v143,aD h142 (adr t141 1) 0 v143∧
 ∃v144,bI h142 (adr t141 1) 1 v144∧
 ∃v145,aD h142 (adr t141 3) 0 v145∧
 ∃v146,bI h142 (adr t141 3) 1 v146∧
 ∃v147,aD h142 (adr t141 5) 0 v147∧
 ∃v148,bI h142 (adr t141 5) 1 v148∧
 HC PG wM [UZ v143 v144,UZ v145 v146,UZ v147 v148,.int .i64 x3] Ti (fun(e149:(ByteArray×Bool)×Bool) h150=>
 nv h150 uT bf (pO e149.1) (fun h152=>
 Join (fun(t165:SliceV) h166=>
 ∃v167,aN h166 h77 0 v167∧
 ∃v168,ae h166 h77 1 v168∧
 ∃v169,ae h166 h77 2 v169∧
 ∃v170,ae h166 h77 3 v170∧
 ∃v171,ax h166 h77 4 v171∧
 ∃v172,ax h166 h77 5 v172∧
 ∃v173,au h166 h88 0 v173∧
 ∃v174,au h166 h150 0 v174∧
 ∃v175,ft h166 h150 1 v175∧
 HC PG uj [jR v167 v168 v169 v170 v171 v172,.string v173,UZ v174 v175] AN (fun(e176:T6) h177=>
 (cp h177 h77 (oa e176) (fun h178=>
 I86 (t165,IntKind.wrap .i64 (t87.2+1)) h178))) h166) (fun J153=>
 CondP (!e149.2) (
 ∃v154,aD h152 t141 0 v154∧
 ∃v155,aD h152 t141 1 v155∧
 ∃v156,bI h152 t141 2 v156∧
 ∃v157,aD h152 t141 3 v157∧
 ∃v158,bI h152 t141 4 v158∧
 ∃v159,aD h152 t141 5 v159∧
 ∃v160,bI h152 t141 6 v160∧
 At (hnew h152 (Sz v154 v155 v156 v157 v158 v159 v160) dK) (fun h161=>
 ∃xs162,SRow h161 (some (ag h152)) (1*7) xs162∧
 AppP (some Su) 7 88 dK t87.1.a t87.1.len t87.1.cap 1 xs162 h161 (fun s163 h164=>
 J153 s163 h164))) (
 J153 t87.1 h152)))) h142) (fun J120=>
 ∃v121,au h96 h88 0 v121∧
 ∃v122,au h96 h88 1 v122∧
 ∃v123,ft h96 h88 3 v123∧
 ∃v124,aN h96 h1 0 v124∧
 ∃v125,ae h96 h1 1 v125∧
 ∃v126,ae h96 h1 2 v126∧
 ∃v127,ae h96 h1 3 v127∧
 ∃v128,ax h96 h1 4 v128∧
 ∃v129,ax h96 h1 5 v129∧
 ∃v130,au h96 h88 0 v130∧
 ∃v131,au h96 h88 2 v131∧
 ∃v132,ft h96 h88 4 v132∧
 ((HC PG bV [jR v124 v125 v126 v127 v128 v129,.string v130] kV (fun(e133:ByteArray×Bool) h134=>
 (ft h134 h88 4 v132∧
 (au h134 h88 2 v131∧
 (ft h134 h88 3 v123∧
 (au h134 h88 1 v122∧
 (au h134 h88 0 v121∧
 At (hnew h134 Su dK) (fun h135=>
 (ft h135 h88 4 v132∧
 (au h135 h88 2 v131∧
 (ft h135 h88 3 v123∧
 (au h135 h88 1 v122∧
 (au h135 h88 0 v121∧
 (cp h135 h134 (Sz v121 v122 v123 e133.1 e133.2 v131 v132) (fun h136=>
 J120 (ag h134) h136)))))))))))))) h96)∧
 At (hnew h96 Su dK) (fun h137=>
 (ft h137 h88 4 v132∧
 (au h137 h88 2 v131∧
 (au h137 h88 0 v130∧
 ((aN h137 h1 0 v124∧ae h137 h1 1 v125∧ae h137 h1 2 v126∧ae h137 h1 3 v127∧ax h137 h1 4 v128∧ax h137 h1 5 v129)∧
 (ft h137 h88 3 v123∧
 (au h137 h88 1 v122∧
 (au h137 h88 0 v121∧
 HC PG bV [jR v124 v125 v126 v127 v128 v129,.string v130] kV (fun(e138:ByteArray×Bool) h139=>
 (ft h139 h88 4 v132∧
 (au h139 h88 2 v131∧
 (ft h139 h88 3 v123∧
 (au h139 h88 1 v122∧
 (au h139 h88 0 v121∧
 (cp h139 h96 (Sz v121 v122 v123 e138.1 e138.2 v131 v132) (fun h140=>
 J120 (ag h96) h140)))))))) h137))))))))))))) (
 Join (fun(t180:Bool) h181=>
 CondP t180 (
 ∃v182,aN h181 h1 0 v182∧
 ∃v183,ae h181 h1 1 v183∧
 ∃v184,ae h181 h1 2 v184∧
 ∃v185,ae h181 h1 3 v185∧
 ∃v186,ax h181 h1 4 v186∧
 ∃v187,ax h181 h1 5 v187∧
 (cp h181 h3 (tY v182 v183 v184 v185 v186 v187) (fun h188=>
 ∃v189,aN h188 h3 0 v189∧
 ∃v190,ae h188 h3 1 v190∧
 ∃v191,ae h188 h3 2 v191∧
 ∃v192,ae h188 h3 3 v192∧
 ∃v193,ax h188 h3 4 v193∧
 ∃v194,ax h188 h3 5 v194∧
 K ((v189,v190,v191,v192,v193,v194),t87.1,8) h188))) (
 ∃v195,aN h181 h77 0 v195∧
 ∃v196,ae h181 h77 1 v196∧
 ∃v197,ae h181 h77 2 v197∧
 ∃v198,ae h181 h77 3 v198∧
 ∃v199,ax h181 h77 4 v199∧
 ∃v200,ax h181 h77 5 v200∧
 (cp h181 h3 (tY v195 v196 v197 v198 v199 v200) (fun h201=>
 ∃v202,aN h201 h3 0 v202∧
 ∃v203,ae h201 h3 1 v203∧
 ∃v204,ae h201 h3 2 v204∧
 ∃v205,ae h201 h3 3 v205∧
 ∃v206,ax h201 h3 4 v206∧
 ∃v207,ax h201 h3 5 v207∧
 K ((v202,v203,v204,v205,v206,v207),t87.1,0) h201)))) (fun J179=>
 CondP (x3==(0:Int)) (
 J179 (decide ((t87.1.len:Int)>(0:Int))) h88) (
 J179 false h88)))) (⟨none,0,0⟩,0) h85)) h50)) (fun J20=>
 ∃v21,aN h6 h0 0 v21∧
 ∃v22,ae h6 h0 1 v22∧
 ∃v23,ae h6 h0 2 v23∧
 ∃v24,ae h6 h0 3 v24∧
 ∃v25,ax h6 h0 4 v25∧
 ∃v26,ax h6 h0 5 v26∧
 ∃v27,aN h6 h1 0 v27∧
 ∃v28,ae h6 h1 1 v28∧
 ∃v29,ae h6 h1 2 v29∧
 ∃v30,ae h6 h1 3 v30∧
 ∃v31,ax h6 h1 4 v31∧
 ∃v32,ax h6 h1 5 v32∧
 HC PG pJ [jR v21 v22 v23 v24 v25 v26,jR v27 v28 v29 v30 v31 v32] [.c .bool] (fun(e33:Bool) h34=>
 CondP (!e33) (
 J20 true h34) (
 ∃v35,aN h34 h0 0 v35∧
 ∃v36,ae h34 h0 1 v36∧
 ∃v37,ae h34 h0 2 v37∧
 ∃v38,ae h34 h0 3 v38∧
 ∃v39,ax h34 h0 4 v39∧
 ∃v40,ax h34 h0 5 v40∧
 ∃v41,aN h34 h2 0 v41∧
 ∃v42,ae h34 h2 1 v42∧
 ∃v43,ae h34 h2 2 v43∧
 ∃v44,ae h34 h2 3 v44∧
 ∃v45,ax h34 h2 4 v45∧
 ∃v46,ax h34 h2 5 v46∧
 HC PG pJ [jR v35 v36 v37 v38 v39 v40,jR v41 v42 v43 v44 v45 v46] [.c .bool] (fun(e47:Bool) h48=>
 J20 (!e47) h48) h34)) h6))) h4))))
noncomputable def NV:Ann:=.node .nil (.node (.node .nil (.node .nil (.join [(25,.c .bool)] .nil .nil))) (.node .nil (.node .nil (.node .nil (.node (.node .nil (.loop [(14,.c .slice),(46,.c (.int .i64))] (.node .nil (.node .nil (.node (.node .nil (.join [(17,.c .adr)] (.draw (VI [0,1,2,3,4,5,6,7,8,9,11,12,13,14,15] (.all (.pick 10 (.take 16 (.all (.lastT 17 (.all (.lastT 18 (.done)))))) (.last 17 (.all (.lastT 10 (.take 16 (.all (.lastT 18 (.done))))))))))) (.node .nil (.join [(14,.c .slice)] .nil .nil)))) .nil))))) (.node (.join [(96,.c .bool)] .nil .nil) .nil))))))
theorem NK(x0:T6)(x1:T6)(x2:T6)(x3:Int){K:cQ MZ→ad→Prop}{h0:ad}(h:Gb x0 x1 x2 x3 K h0):HC PG qY [Gq x0,Gq x1,Gq x2,.int .i64 x3] MZ K h0:=dG NV Tryz.func22 Tryz.call22 rfl rfl (by kernel_rfl) h
def DP(x0:T6)(x1:ByteArray)(K:(ByteArray×Bool)→ad→Prop)(h0:ad):Prop:=
 At (hnew h0 (oa x0) aL) (fun h1=>
 At (hnew h1 uT bf) (fun h2=>
 ∃v3,aN h2 h0 0 v3∧
 ∃v4,ae h2 h0 1 v4∧
 ∃v5,ae h2 h0 2 v5∧
 ∃v6,ae h2 h0 3 v6∧
 ∃v7,ax h2 h0 4 v7∧
 ∃v8,ax h2 h0 5 v8∧
 HC PG r8 [jR v3 v4 v5 v6 v7 v8,.string x1] lx (fun(e9:ByteArray×Bool) h10=>
 (cp h10 h1 (pO e9) (fun h11=>
 ∃v12,au h11 h1 0 v12∧
 ∃v13,ft h11 h1 1 v13∧
 K (v12,v13) h11))) h2))
theorem Ly(x0:T6)(x1:ByteArray){K:cQ kV→ad→Prop}{h0:ad}(h:DP x0 x1 K h0):HC PG bV [Gq x0,.string x1] kV K h0:=dG .nil Tryz.func23 Tryz.call23 rfl rfl (by kernel_rfl) h
def BJ(x0:Int)(x1:Int×Int×Int)(x2:SliceV)(K:((T6)×Int)→ad→Prop)(h0:ad):Prop:=
 At (hnew h0 (Dm x1) cC) (fun h1=>
 At (hnew h1 rB aL) (fun h2=>
 ∃v3,ae h2 h0 0 v3∧
 ∃v4,ae h2 h0 1 v4∧
 ∃v5,ae h2 h0 2 v5∧
 HC PG wH [.int .i64 x0,zm v3 v4 v5] tf (fun(e6:(T6)×Int) h7=>
 nv h7 rB aL (oa e6.1) (fun h9=>
 CondP (e6.2 !=(0:Int)) (
 (cp h9 h1 rB (fun h10=>
 ∃v11,aN h10 h1 0 v11∧
 ∃v12,ae h10 h1 1 v12∧
 ∃v13,ae h10 h1 2 v13∧
 ∃v14,ae h10 h1 3 v14∧
 ∃v15,ax h10 h1 4 v15∧
 ∃v16,ax h10 h1 5 v16∧
 K ((v11,v12,v13,v14,v15,v16),e6.2) h10))) (
 LoopP (fun I17 (t18:Int) h19=>
 CondP (decide (t18<(x2.len:Int))) (
 (cj t18 x2.len∧∃a20,x2.a=some a20∧
 ∃v21,aD h19 (adr a20 (t18.toNat*2)) 0 v21∧
 ∃v22,aD h19 (adr a20 (t18.toNat*2)) 1 v22∧
 nv h19 nZ af (jH v21 v22) (fun h24=>
 ∃v25,au h24 h19 0 v25∧
 ∃v26,au h24 h19 1 v26∧
 HC PG qb (jH v25 v26) bX (fun(e27:Int) h28=>
 CondP (e27 !=(0:Int)) (
 (cp h28 h1 rB (fun h29=>
 ∃v30,aN h29 h1 0 v30∧
 ∃v31,ae h29 h1 1 v31∧
 ∃v32,ae h29 h1 2 v32∧
 ∃v33,ae h29 h1 3 v33∧
 ∃v34,ax h29 h1 4 v34∧
 ∃v35,ax h29 h1 5 v35∧
 K ((v30,v31,v32,v33,v34,v35),e27) h29))) (
 I17 (IntKind.wrap .i64 (t18+1)) h28)) h24))) (
 CondP (x0==(1:Int)) (
 HC PG Gz [.slice x2.a x2.len x2.cap] [.c .ptr] (fun(e36:Option Addr) h37=>
 HC PG p5 [.pointer e36] AN (fun(e38:T6) h39=>
 (cp h39 h1 (oa e38) (fun h40=>
 ∃v41,aN h40 h1 0 v41∧
 ∃v42,ae h40 h1 1 v42∧
 ∃v43,ae h40 h1 2 v43∧
 ∃v44,ae h40 h1 3 v44∧
 ∃v45,ax h40 h1 4 v45∧
 ∃v46,ax h40 h1 5 v46∧
 K ((v41,v42,v43,v44,v45,v46),0) h40))) h37) h19) (
 ∃v47,ae h19 h0 0 v47∧
 ∃v48,ae h19 h0 1 v48∧
 ∃v49,ae h19 h0 2 v49∧
 ∃v50,ae h19 h0 0 v50∧
 ∃v51,ae h19 h0 1 v51∧
 ∃v52,ae h19 h0 2 v52∧
 HC PG u7 [zm v50 v51 v52,.slice x2.a x2.len x2.cap] [.c .ptr] (fun(e53:Option Addr) h54=>
 ((ae h54 h0 0 v47∧ae h54 h0 1 v48∧ae h54 h0 2 v49)∧
 HC PG p6 [zm v47 v48 v49,.pointer e53] AN (fun(e55:T6) h56=>
 (cp h56 h1 (oa e55) (fun h57=>
 ∃v58,aN h57 h1 0 v58∧
 ∃v59,ae h57 h1 1 v59∧
 ∃v60,ae h57 h1 2 v60∧
 ∃v61,ae h57 h1 3 v61∧
 ∃v62,ax h57 h1 4 v62∧
 ∃v63,ax h57 h1 5 v63∧
 K ((v58,v59,v60,v61,v62,v63),0) h57))) h54)) h19))) 0 h9))) h2))
noncomputable def JA:Ann:=.node .nil (.node .nil (.node (.node .nil (.loop [(25,.c (.int .i64))] .nil)) .nil))
theorem Jw(x0:Int)(x1:Int×Int×Int)(x2:SliceV){K:cQ tf→ad→Prop}{h0:ad}(h:BJ x0 x1 x2 K h0):HC PG qg [.int .i64 x0,MF x1,.slice x2.a x2.len x2.cap] tf K h0:=dG JA Tryz.func24 Tryz.call24 rfl rfl (by kernel_rfl) h
def F3(x0:Int)(x1:Int×Int×Int)(K:((T6)×Int)→ad→Prop)(h0:ad):Prop:=
 At (hnew h0 (Dm x1) cC) (fun h1=>
 At (hnew h1 rB aL) (fun h2=>
 CondP (x0==(0:Int)) (
 ∃v3,ae h2 h0 0 v3∧
 ∃v4,ae h2 h0 1 v4∧
 ∃v5,ae h2 h0 2 v5∧
 HC PG p6 [zm v3 v4 v5,.pointer none] AN (fun(e6:T6) h7=>
 (cp h7 h1 (oa e6) (fun h8=>
 ∃v9,aN h8 h1 0 v9∧
 ∃v10,ae h8 h1 1 v10∧
 ∃v11,ae h8 h1 2 v11∧
 ∃v12,ae h8 h1 3 v12∧
 ∃v13,ax h8 h1 4 v13∧
 ∃v14,ax h8 h1 5 v14∧
 K ((v9,v10,v11,v12,v13,v14),0) h8))) h2) (
 CondP (x0==(1:Int)) (
 HC PG p5 [.pointer none] AN (fun(e15:T6) h16=>
 (cp h16 h1 (oa e15) (fun h17=>
 ∃v18,aN h17 h1 0 v18∧
 ∃v19,ae h17 h1 1 v19∧
 ∃v20,ae h17 h1 2 v20∧
 ∃v21,ae h17 h1 3 v21∧
 ∃v22,ax h17 h1 4 v22∧
 ∃v23,ax h17 h1 5 v23∧
 K ((v18,v19,v20,v21,v22,v23),0) h17))) h2) (
 (cp h2 h1 rB (fun h24=>
 ∃v25,aN h24 h1 0 v25∧
 ∃v26,ae h24 h1 1 v26∧
 ∃v27,ae h24 h1 2 v27∧
 ∃v28,ae h24 h1 3 v28∧
 ∃v29,ax h24 h1 4 v29∧
 ∃v30,ax h24 h1 5 v30∧
 K ((v25,v26,v27,v28,v29,v30),11) h24))))))
theorem NB(x0:Int)(x1:Int×Int×Int){K:cQ tf→ad→Prop}{h0:ad}(h:F3 x0 x1 K h0):HC PG wH [.int .i64 x0,MF x1] tf K h0:=dG .nil Tryz.func25 Tryz.call25 rfl rfl (by kernel_rfl) h
def H1(x0:Int)(x1:Int×Int×Int)(K:((T5)×Int)→ad→Prop)(h0:ad):Prop:=
 At (hnew h0 (Dm x1) Av) (fun h1=>
 At (hnew h1 Am fI) (fun h2=>
 CondP (x0==(0:Int)) (
 ∃v3,ae h2 h0 0 v3∧
 ∃v4,ae h2 h0 1 v4∧
 ∃v5,ae h2 h0 2 v5∧
 (cp h2 h1 [.int .i64 0,.int .u64 v3,.int .u64 v4,.int .u64 v5,.slice none 0 0] (fun h6=>
 ∃v7,aN h6 h1 0 v7∧
 ∃v8,ae h6 h1 1 v8∧
 ∃v9,ae h6 h1 2 v9∧
 ∃v10,ae h6 h1 3 v10∧
 ∃v11:SliceV,df h6 h1 4 v11∧
 K ((v7,v8,v9,v10,v11),0) h6))) (
 CondP (x0==(1:Int)) (
 (cp h2 h1 [.int .i64 1,.int .u64 0,.int .u64 0,.int .u64 0,.slice none 0 0] (fun h12=>
 ∃v13,aN h12 h1 0 v13∧
 ∃v14,ae h12 h1 1 v14∧
 ∃v15,ae h12 h1 2 v15∧
 ∃v16,ae h12 h1 3 v16∧
 ∃v17:SliceV,df h12 h1 4 v17∧
 K ((v13,v14,v15,v16,v17),0) h12))) (
 (cp h2 h1 Am (fun h18=>
 ∃v19,aN h18 h1 0 v19∧
 ∃v20,ae h18 h1 1 v20∧
 ∃v21,ae h18 h1 2 v21∧
 ∃v22,ae h18 h1 3 v22∧
 ∃v23:SliceV,df h18 h1 4 v23∧
 K ((v19,v20,v21,v22,v23),11) h18))))))
theorem P7(x0:Int)(x1:Int×Int×Int){K:cQ xJ→ad→Prop}{h0:ad}(h:H1 x0 x1 K h0):HC PG Cp [.int .i64 x0,MF x1] xJ K h0:=dG .nil Tryz.func26 Tryz.call26 rfl rfl (by kernel_rfl) h
def vN(x0:T6)(x1:Option Addr)(x2:ByteArray×ByteArray)(K:((T6)×Int)→ad→Prop)(h0:ad):Prop:=
 At (hnew h0 (oa x0) aL) (fun h1=>
 At (hnew h1 (vp x2) af) (fun h2=>
 At (hnew h2 rB aL) (fun h3=>
 ∃v4,au h3 h1 0 v4∧
 ∃v5,au h3 h1 1 v5∧
 HC PG qb (jH v4 v5) bX (fun(e6:Int) h7=>
 CondP (e6 !=(0:Int)) (
 ∃v8,aN h7 h0 0 v8∧
 ∃v9,ae h7 h0 1 v9∧
 ∃v10,ae h7 h0 2 v10∧
 ∃v11,ae h7 h0 3 v11∧
 ∃v12,ax h7 h0 4 v12∧
 ∃v13,ax h7 h0 5 v13∧
 (cp h7 h2 (tY v8 v9 v10 v11 v12 v13) (fun h14=>
 ∃v15,aN h14 h2 0 v15∧
 ∃v16,ae h14 h2 1 v16∧
 ∃v17,ae h14 h2 2 v17∧
 ∃v18,ae h14 h2 3 v18∧
 ∃v19,ax h14 h2 4 v19∧
 ∃v20,ax h14 h2 5 v20∧
 K ((v15,v16,v17,v18,v19,v20),e6) h14))) (
 ∃v21,aN h7 h0 0 v21∧
 CondP (v21==(1:Int)) (
 ∃v22,ax h7 h0 5 v22∧
 ∃v23,au h7 h1 0 v23∧
 ∃v24,au h7 h1 1 v24∧
 HC PG xS [.pointer x1,.pointer v22,qF v23 v24] gm (fun(e25:(Option Addr)×Bool) h26=>
 (dU h26 (adr (ag h0) 5) (.pointer e25.1) (fun h27=>
 ∃v28,aN h27 h0 0 v28∧
 ∃v29,ae h27 h0 1 v29∧
 ∃v30,ae h27 h0 2 v30∧
 ∃v31,ae h27 h0 3 v31∧
 ∃v32,ax h27 h0 4 v32∧
 ∃v33,ax h27 h0 5 v33∧
 (cp h27 h2 (tY v28 v29 v30 v31 v32 v33) (fun h34=>
 ∃v35,aN h34 h2 0 v35∧
 ∃v36,ae h34 h2 1 v36∧
 ∃v37,ae h34 h2 2 v37∧
 ∃v38,ae h34 h2 3 v38∧
 ∃v39,ax h34 h2 4 v39∧
 ∃v40,ax h34 h2 5 v40∧
 K ((v35,v36,v37,v38,v39,v40),0) h34))))) h7) (
 ∃v41,aH h7 (adr (ag h0) 1) 0 v41∧
 ∃v42,aH h7 (adr (ag h0) 1) 1 v42∧
 ∃v43,aH h7 (adr (ag h0) 1) 2 v43∧
 ∃v44,ax h7 h0 4 v44∧
 ∃v45,au h7 h1 0 v45∧
 ∃v46,au h7 h1 1 v46∧
 HC PG xY [zm v41 v42 v43,.pointer x1,.pointer v44,qF v45 v46] gm (fun(e47:(Option Addr)×Bool) h48=>
 (dU h48 (adr (ag h0) 4) (.pointer e47.1) (fun h49=>
 ∃v50,aN h49 h0 0 v50∧
 ∃v51,ae h49 h0 1 v51∧
 ∃v52,ae h49 h0 2 v52∧
 ∃v53,ae h49 h0 3 v53∧
 ∃v54,ax h49 h0 4 v54∧
 ∃v55,ax h49 h0 5 v55∧
 (cp h49 h2 (tY v50 v51 v52 v53 v54 v55) (fun h56=>
 ∃v57,aN h56 h2 0 v57∧
 ∃v58,ae h56 h2 1 v58∧
 ∃v59,ae h56 h2 2 v59∧
 ∃v60,ae h56 h2 3 v60∧
 ∃v61,ax h56 h2 4 v61∧
 ∃v62,ax h56 h2 5 v62∧
 K ((v57,v58,v59,v60,v61,v62),0) h56))))) h7))) h3)))
theorem CE(x0:T6)(x1:Option Addr)(x2:ByteArray×ByteArray){K:cQ tf→ad→Prop}{h0:ad}(h:vN x0 x1 x2 K h0):HC PG ny [Gq x0,.pointer x1,Ot x2] tf K h0:=dG .nil Tryz.func28 Tryz.call28 rfl rfl (by kernel_rfl) h
def F6(x0:T5)(x1:ByteArray×ByteArray)(K:((T5)×Int)→ad→Prop)(h0:ad):Prop:=
 At (hnew h0 (xB x0) fI) (fun h1=>
 At (hnew h1 (vp x1) dH) (fun h2=>
 At (hnew h2 Am fI) (fun h3=>
 ∃v4,au h3 h1 0 v4∧
 ∃v5,au h3 h1 1 v5∧
 HC PG xU (jH v4 v5) bX (fun(e6:Int) h7=>
 CondP (e6 !=(0:Int)) (
 ∃v8,aN h7 h0 0 v8∧
 ∃v9,ae h7 h0 1 v9∧
 ∃v10,ae h7 h0 2 v10∧
 ∃v11,ae h7 h0 3 v11∧
 ∃v12:SliceV,df h7 h0 4 v12∧
 (cp h7 h2 (EE v8 v9 v10 v11 v12) (fun h13=>
 ∃v14,aN h13 h2 0 v14∧
 ∃v15,ae h13 h2 1 v15∧
 ∃v16,ae h13 h2 2 v16∧
 ∃v17,ae h13 h2 3 v17∧
 ∃v18:SliceV,df h13 h2 4 v18∧
 K ((v14,v15,v16,v17,v18),e6) h13))) (
 ∃v19:SliceV,df h7 h0 4 v19∧
 ∃v20,au h7 h1 0 v20∧
 ∃v21,au h7 h1 1 v21∧
 HC PG Cq [.slice v19.a v19.len v19.cap,qF v20 v21] [.c .slice] (fun(e22:SliceV) h23=>
 (dU h23 (adr (ag h0) 4) (.slice e22.a e22.len e22.cap) (fun h24=>
 ∃v25,aN h24 h0 0 v25∧
 ∃v26,ae h24 h0 1 v26∧
 ∃v27,ae h24 h0 2 v27∧
 ∃v28,ae h24 h0 3 v28∧
 ∃v29:SliceV,df h24 h0 4 v29∧
 (cp h24 h2 (EE v25 v26 v27 v28 v29) (fun h30=>
 ∃v31,aN h30 h2 0 v31∧
 ∃v32,ae h30 h2 1 v32∧
 ∃v33,ae h30 h2 2 v33∧
 ∃v34,ae h30 h2 3 v34∧
 ∃v35:SliceV,df h30 h2 4 v35∧
 K ((v31,v32,v33,v34,v35),0) h30))))) h7)) h3)))
theorem NF(x0:T5)(x1:ByteArray×ByteArray){K:cQ xJ→ad→Prop}{h0:ad}(h:F6 x0 x1 K h0):HC PG zO [Ur x0,Ot x1] xJ K h0:=dG .nil Tryz.func29 Tryz.call29 rfl rfl (by kernel_rfl) h
def sC(x0:T6)(x1:Option Addr)(x2:ByteArray)(K:((T6)×Int)→ad→Prop)(h0:ad):Prop:=
 At (hnew h0 (oa x0) aL) (fun h1=>
 At (hnew h1 rB aL) (fun h2=>
 HC PG qb (jH x2 (⟨#[]⟩:ByteArray)) bX (fun(e3:Int) h4=>
 CondP (e3 !=(0:Int)) (
 ∃v5,aN h4 h0 0 v5∧
 ∃v6,ae h4 h0 1 v6∧
 ∃v7,ae h4 h0 2 v7∧
 ∃v8,ae h4 h0 3 v8∧
 ∃v9,ax h4 h0 4 v9∧
 ∃v10,ax h4 h0 5 v10∧
 (cp h4 h1 (tY v5 v6 v7 v8 v9 v10) (fun h11=>
 ∃v12,aN h11 h1 0 v12∧
 ∃v13,ae h11 h1 1 v13∧
 ∃v14,ae h11 h1 2 v14∧
 ∃v15,ae h11 h1 3 v15∧
 ∃v16,ax h11 h1 4 v16∧
 ∃v17,ax h11 h1 5 v17∧
 K ((v12,v13,v14,v15,v16,v17),e3) h11))) (
 ∃v18,aN h4 h0 0 v18∧
 ∃v19,ae h4 h0 1 v19∧
 ∃v20,ae h4 h0 2 v20∧
 ∃v21,ae h4 h0 3 v21∧
 ∃v22,ax h4 h0 4 v22∧
 ∃v23,ax h4 h0 5 v23∧
 nv h4 rB aL (tY v18 v19 v20 v21 v22 v23) (fun h25=>
 Join (fun(t39:Bool) h40=>
 CondP (!t39) (
 ∃v41,aN h40 h4 0 v41∧
 ∃v42,ae h40 h4 1 v42∧
 ∃v43,ae h40 h4 2 v43∧
 ∃v44,ae h40 h4 3 v44∧
 ∃v45,ax h40 h4 4 v45∧
 ∃v46,ax h40 h4 5 v46∧
 (cp h40 h1 (tY v41 v42 v43 v44 v45 v46) (fun h47=>
 ∃v48,aN h47 h1 0 v48∧
 ∃v49,ae h47 h1 1 v49∧
 ∃v50,ae h47 h1 2 v50∧
 ∃v51,ae h47 h1 3 v51∧
 ∃v52,ax h47 h1 4 v52∧
 ∃v53,ax h47 h1 5 v53∧
 K ((v48,v49,v50,v51,v52,v53),4) h47))) (
 ∃v54,aN h40 h0 0 v54∧
 ∃v55,ae h40 h0 1 v55∧
 ∃v56,ae h40 h0 2 v56∧
 ∃v57,ae h40 h0 3 v57∧
 ∃v58,ax h40 h0 4 v58∧
 ∃v59,ax h40 h0 5 v59∧
 (cp h40 h1 (tY v54 v55 v56 v57 v58 v59) (fun h60=>
 ∃v61,aN h60 h1 0 v61∧
 ∃v62,ae h60 h1 1 v62∧
 ∃v63,ae h60 h1 2 v63∧
 ∃v64,ae h60 h1 3 v64∧
 ∃v65,ax h60 h1 4 v65∧
 ∃v66,ax h60 h1 5 v66∧
 K ((v61,v62,v63,v64,v65,v66),0) h60)))) (fun J26=>
 ∃v27,aN h25 h0 0 v27∧
 CondP (v27==(1:Int)) (
 ∃v28,ax h25 h0 5 v28∧
 HC PG wJ (DY x1 v28 x2) gm (fun(e29:(Option Addr)×Bool) h30=>
 (dU h30 (adr (ag h0) 5) (.pointer e29.1) (fun h31=>
 J26 e29.2 h31))) h25) (
 ∃v32,aH h25 (adr (ag h0) 1) 0 v32∧
 ∃v33,aH h25 (adr (ag h0) 1) 1 v33∧
 ∃v34,aH h25 (adr (ag h0) 1) 2 v34∧
 ∃v35,ax h25 h0 4 v35∧
 HC PG wP [zm v32 v33 v34,.pointer x1,.pointer v35,.string x2] gm (fun(e36:(Option Addr)×Bool) h37=>
 (dU h37 (adr (ag h0) 4) (.pointer e36.1) (fun h38=>
 J26 e36.2 h38))) h25))))) h2))
noncomputable def yM:Ann:=.node .nil (.node .nil (.node .nil (.join [(10,.c .bool)] .nil .nil)))
theorem yH(x0:T6)(x1:Option Addr)(x2:ByteArray){K:cQ tf→ad→Prop}{h0:ad}(h:sC x0 x1 x2 K h0):HC PG kw [Gq x0,.pointer x1,.string x2] tf K h0:=dG yM Tryz.func30 Tryz.call30 rfl rfl (by kernel_rfl) h
end Go.Proofs
