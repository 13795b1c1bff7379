/- A part of the proof that the named laws of this program answer true, whatever the input. -/
import Derived.Test.YtncppacbfagpgaaGreatDoorTreeF
set_option maxRecDepth 100000
set_option linter.unusedVariables false
open BitVec renaming ofInt→aq
open Int renaming tmod→cn,tdiv→l8
namespace Go.Proofs
open Go.Lift
def vr(x0:Int)(x1:Int×Int×Int)(x2:SliceV)(K:(Bool)→ad→Prop)(h0:ad):Prop:=
 At (hnew h0 (yM x1) cr) (fun h1=>
 HC PG vX [] [.c .bool] (fun(e2:Bool) h3=>
 CondP (!e2) (
 K false h3) (
 ∃v4,ao h3 h0 0 v4∧
 ∃v5,ao h3 h0 1 v5∧
 ∃v6,ao h3 h0 2 v6∧
 HC PG rk [.int .i64 x0,tK v4 v5 v6] AU (fun(e7:(T6)×Int) h8=>
 nv h8 Aw bF (qY e7.1) (fun h10=>
 ∃v11,ao h10 h0 0 v11∧
 ∃v12,ao h10 h0 1 v12∧
 ∃v13,ao h10 h0 2 v13∧
 HC PG wP [tK v11 v12 v13] Hq (fun(e14:Int×Int×Int) h15=>
 HC PG wN [.int .i64 x0,Jj e14] E3 (fun(e16:(T5)×Int) h17=>
 nv h17 Ik cY (OD e16.1) (fun h19=>
 CondP (e7.2 !=e16.2) (
 K false h19) (
 CondP (e7.2 !=(0:Int)) (
 ∃v20,bj h19 h8 0 v20∧
 ∃v21,ao h19 h8 1 v21∧
 ∃v22,ao h19 h8 2 v22∧
 ∃v23,ao h19 h8 3 v23∧
 ∃v24,aI h19 h8 4 v24∧
 ∃v25,aI h19 h8 5 v25∧
 ∃v26,bj h19 h17 0 v26∧
 ∃v27,ao h19 h17 1 v27∧
 ∃v28,ao h19 h17 2 v28∧
 ∃v29,ao h19 h17 3 v29∧
 ∃v30:SliceV,dI h19 h17 4 v30∧
 HC PG rl [As v20 v21 v22 v23 v24 v25,Tu v26 v27 v28 v29 v30] [.c .bool] (fun(e31:Bool) h32=>
 K e31 h32) h19) (
 Join (fun(t49:SliceV×SliceV) h50=>
 Join (fun(t236:SliceV×SliceV) h237=>
 LoopP (fun I238 (t239:Int) h240=>
 CondP (decide (t239<(t236.1.len:Int))) (
 (cD t239 t236.1.len∧∃a241,t236.1.a=some a241∧
 ∃v242,P8 h240 (adr a241 (t239.toNat*6)) 0 v242∧
 ∃v243,cP h240 (adr a241 (t239.toNat*6)) 1 v243∧
 ∃v244,cP h240 (adr a241 (t239.toNat*6)) 2 v244∧
 ∃v245,cP h240 (adr a241 (t239.toNat*6)) 3 v245∧
 ∃v246,re h240 (adr a241 (t239.toNat*6)) 4 v246∧
 ∃v247,re h240 (adr a241 (t239.toNat*6)) 5 v247∧
 (cD t239 t236.2.len∧∃a248,t236.2.a=some a248∧
 ∃v249,P8 h240 (adr a248 (t239.toNat*5)) 0 v249∧
 ∃v250,cP h240 (adr a248 (t239.toNat*5)) 1 v250∧
 ∃v251,cP h240 (adr a248 (t239.toNat*5)) 2 v251∧
 ∃v252,cP h240 (adr a248 (t239.toNat*5)) 3 v252∧
 ∃v253:SliceV,bC h240 (adr a248 (t239.toNat*5)) 4 v253∧
 HC PG rl [As v242 v243 v244 v245 v246 v247,Tu v249 v250 v251 v252 v253] [.c .bool] (fun(e254:Bool) h255=>
 CondP (!e254) (
 K false h255) (
 I238 (IntKind.wrap .i64 (t239+1)) h255)) h240))) (
 K true h240)) 0 h237) (fun J51=>
 LoopP (fun I52 (t53:SliceV×SliceV×Int) h54=>
 CondP (decide (t53.2.2<(x2.len:Int))) (
 Join (fun(t234:SliceV×SliceV) h235=>
 I52 (t234.1,t234.2,IntKind.wrap .i64 (t53.2.2+1)) h235) (fun J55=>
 (cD t53.2.2 x2.len∧∃a56,x2.a=some a56∧
 ∃v57,P9 h54 (adr a56 (t53.2.2.toNat*6)) 0 v57∧
 ∃v58,aQ h54 (adr a56 (t53.2.2.toNat*6)) 1 v58∧
 ∃v59,aQ h54 (adr a56 (t53.2.2.toNat*6)) 2 v59∧
 ∃v60,P9 h54 (adr a56 (t53.2.2.toNat*6)) 3 v60∧
 ∃v61,bl h54 (adr a56 (t53.2.2.toNat*6)) 4 (.int .u16 v61)∧
 ∃v62,bl h54 (adr a56 (t53.2.2.toNat*6)) 5 (.int .u16 v62)∧
 nv h54 zl3 qX (vl3 v57 v58 v59 v60 v61 v62) (fun h64=>
 CondP (decide (t53.2.2≥(25:Int))) (
 J51 (t53.1,t53.2.1) h64) (
 ∃v65,Lm h64 h54 3 v65∧
 ((t53.1.len:Int)≠0∧
 Join (fun(t119:Addr) h120=>
 Join (fun(t167:Int×Int) h168=>
 ∃v169,bj h168 h8 0 v169∧
 ∃v170,ao h168 h8 1 v170∧
 ∃v171,ao h168 h8 2 v171∧
 ∃v172,ao h168 h8 3 v172∧
 ∃v173,aI h168 h8 4 v173∧
 ∃v174,aI h168 h8 5 v174∧
 ∃v175,aQ h168 t119 0 v175∧
 HC PG qo [As v169 v170 v171 v172 v173 v174,.string v175] kq (fun(e176:ByteArray×Bool) h177=>
 ∃v178:SliceV,dI h177 h17 4 v178∧
 ∃v179,aQ h177 t119 0 v179∧
 HC PG wO (yR v178 v179) kq (fun(e180:ByteArray×Bool) h181=>
 Join (fun(t198:Bool) h199=>
 CondP t198 (
 K false h199) (
 ∃v200,bj h199 h8 0 v200∧
 ∃v201,ao h199 h8 1 v201∧
 ∃v202,ao h199 h8 2 v202∧
 ∃v203,ao h199 h8 3 v203∧
 ∃v204,aI h199 h8 4 v204∧
 ∃v205,aI h199 h8 5 v205∧
 ∃v206,bj h199 h17 0 v206∧
 ∃v207,ao h199 h17 1 v207∧
 ∃v208,ao h199 h17 2 v208∧
 ∃v209,ao h199 h17 3 v209∧
 ∃v210:SliceV,dI h199 h17 4 v210∧
 ((At (hnew h199 (FH v200 v201 v202 v203 v204 v205) bF) (fun h211=>
 ((bj h211 h17 0 v206∧ao h211 h17 1 v207∧ao h211 h17 2 v208∧ao h211 h17 3 v209∧dI h211 h17 4 v210)∧
 ((∃xs212,SRow h211 (some (aA h199)) (1*6) xs212∧
 AppP (some Aw) 6 48 bF t53.1.a t53.1.len t53.1.cap 1 xs212 h211 (fun s213 h214=>
 ((bj h214 h17 0 v206∧ao h214 h17 1 v207∧ao h214 h17 2 v208∧ao h214 h17 3 v209∧dI h214 h17 4 v210)∧
 At (hnew h214 (M4 v206 v207 v208 v209 v210) cY) (fun h215=>
 ∃xs216,SRow h215 (some (aA h214)) (1*5) xs216∧
 AppP (some Ik) 5 56 cY t53.2.1.a t53.2.1.len t53.2.1.cap 1 xs216 h215 (fun s217 h218=>
 J55 (s213,s217) h218)))))∧
 At (hnew h211 (M4 v206 v207 v208 v209 v210) cY) (fun h219=>
 ∃xs220,SRow h219 (some (aA h199)) (1*6) xs220∧
 AppP (some Aw) 6 48 bF t53.1.a t53.1.len t53.1.cap 1 xs220 h219 (fun s221 h222=>
 ∃xs223,SRow h222 (some (aA h211)) (1*5) xs223∧
 AppP (some Ik) 5 56 cY t53.2.1.a t53.2.1.len t53.2.1.cap 1 xs223 h222 (fun s224 h225=>
 J55 (s221,s224) h225)))))))∧
 At (hnew h199 (M4 v206 v207 v208 v209 v210) cY) (fun h226=>
 ((bj h226 h8 0 v200∧ao h226 h8 1 v201∧ao h226 h8 2 v202∧ao h226 h8 3 v203∧aI h226 h8 4 v204∧aI h226 h8 5 v205)∧
 At (hnew h226 (FH v200 v201 v202 v203 v204 v205) bF) (fun h227=>
 ∃xs228,SRow h227 (some (aA h226)) (1*6) xs228∧
 AppP (some Aw) 6 48 bF t53.1.a t53.1.len t53.1.cap 1 xs228 h227 (fun s229 h230=>
 ∃xs231,SRow h230 (some (aA h199)) (1*5) xs231∧
 AppP (some Ik) 5 56 cY t53.2.1.a t53.2.1.len t53.2.1.cap 1 xs231 h230 (fun s232 h233=>
 J55 (s229,s232) h233)))))))) (fun J182=>
 CondP (t167.1 !=t167.2) (
 J182 true h181) (
 CondP (!(e176.2==e180.2)) (
 J182 true h181) (
 CondP (!(e176.1.toList==e180.1.toList)) (
 J182 true h181) (
 CondP (t167.1 !=(0:Int)) (
 ∃v183,bj h181 h8 0 v183∧
 ∃v184,ao h181 h8 1 v184∧
 ∃v185,ao h181 h8 2 v185∧
 ∃v186,ao h181 h8 3 v186∧
 ∃v187,aI h181 h8 4 v187∧
 ∃v188,aI h181 h8 5 v188∧
 (cD (cn (IntKind.wrap .i64 v65) (t53.1.len:Int)) t53.1.len∧∃a189,t53.1.a=some a189∧
 ∃v190,bl h181 (adr a189 ((cn (IntKind.wrap .i64 v65) (t53.1.len:Int)).toNat*6)) 0 (.int .i64 v190)∧
 ∃v191,bl h181 (adr a189 ((cn (IntKind.wrap .i64 v65) (t53.1.len:Int)).toNat*6)) 1 (.int .u64 v191)∧
 ∃v192,bl h181 (adr a189 ((cn (IntKind.wrap .i64 v65) (t53.1.len:Int)).toNat*6)) 2 (.int .u64 v192)∧
 ∃v193,bl h181 (adr a189 ((cn (IntKind.wrap .i64 v65) (t53.1.len:Int)).toNat*6)) 3 (.int .u64 v193)∧
 ∃v194,bl h181 (adr a189 ((cn (IntKind.wrap .i64 v65) (t53.1.len:Int)).toNat*6)) 4 (.pointer v194)∧
 ∃v195,bl h181 (adr a189 ((cn (IntKind.wrap .i64 v65) (t53.1.len:Int)).toNat*6)) 5 (.pointer v195)∧
 HC PG yc [As v183 v184 v185 v186 v187 v188,As v190 v191 v192 v193 v194 v195] [.c .bool] (fun(e196:Bool) h197=>
 J182 (!e196) h197) h181)) (
 J182 false h181)))))) h177) h168) (fun J121=>
 ∃v122,Lm h120 h54 0 v122∧
 ((4:Int)≠0∧
 CondP ((cn v122 4)==(3:Int)) (
 (cD (cn (IntKind.wrap .i64 v65) (t53.1.len:Int)) t53.1.len∧∃a123,t53.1.a=some a123∧
 ∃v124,bl h120 (adr a123 ((cn (IntKind.wrap .i64 v65) (t53.1.len:Int)).toNat*6)) 0 (.int .i64 v124)∧
 ∃v125,bl h120 (adr a123 ((cn (IntKind.wrap .i64 v65) (t53.1.len:Int)).toNat*6)) 1 (.int .u64 v125)∧
 ∃v126,bl h120 (adr a123 ((cn (IntKind.wrap .i64 v65) (t53.1.len:Int)).toNat*6)) 2 (.int .u64 v126)∧
 ∃v127,bl h120 (adr a123 ((cn (IntKind.wrap .i64 v65) (t53.1.len:Int)).toNat*6)) 3 (.int .u64 v127)∧
 ∃v128,bl h120 (adr a123 ((cn (IntKind.wrap .i64 v65) (t53.1.len:Int)).toNat*6)) 4 (.pointer v128)∧
 ∃v129,bl h120 (adr a123 ((cn (IntKind.wrap .i64 v65) (t53.1.len:Int)).toNat*6)) 5 (.pointer v129)∧
 ∃v130,aQ h120 t119 0 v130∧
 HC PG jI [As v124 v125 v126 v127 v128 v129,.pointer none,.string v130] AU (fun(e131:(T6)×Int) h132=>
 (fj h132 h8 (qY e131.1) (fun h133=>
 (cD (cn (IntKind.wrap .i64 v65) (t53.1.len:Int)) t53.2.1.len∧∃a134,t53.2.1.a=some a134∧
 ∃v135,bl h133 (adr a134 ((cn (IntKind.wrap .i64 v65) (t53.1.len:Int)).toNat*5)) 0 (.int .i64 v135)∧
 ∃v136,bl h133 (adr a134 ((cn (IntKind.wrap .i64 v65) (t53.1.len:Int)).toNat*5)) 1 (.int .u64 v136)∧
 ∃v137,bl h133 (adr a134 ((cn (IntKind.wrap .i64 v65) (t53.1.len:Int)).toNat*5)) 2 (.int .u64 v137)∧
 ∃v138,bl h133 (adr a134 ((cn (IntKind.wrap .i64 v65) (t53.1.len:Int)).toNat*5)) 3 (.int .u64 v138)∧
 ∃v139:SliceV,bl h133 (adr a134 ((cn (IntKind.wrap .i64 v65) (t53.1.len:Int)).toNat*5)) 4 (.slice v139.a v139.len v139.cap)∧
 ∃v140,aQ h133 t119 0 v140∧
 HC PG tw [Tu v135 v136 v137 v138 v139,.string v140] E3 (fun(e141:(T5)×Int) h142=>
 (fj h142 h17 (OD e141.1) (fun h143=>
 J121 (e131.2,e141.2) h143))) h133)))) h120)) (
 (cD (cn (IntKind.wrap .i64 v65) (t53.1.len:Int)) t53.1.len∧∃a144,t53.1.a=some a144∧
 ∃v145,bl h120 (adr a144 ((cn (IntKind.wrap .i64 v65) (t53.1.len:Int)).toNat*6)) 0 (.int .i64 v145)∧
 ∃v146,bl h120 (adr a144 ((cn (IntKind.wrap .i64 v65) (t53.1.len:Int)).toNat*6)) 1 (.int .u64 v146)∧
 ∃v147,bl h120 (adr a144 ((cn (IntKind.wrap .i64 v65) (t53.1.len:Int)).toNat*6)) 2 (.int .u64 v147)∧
 ∃v148,bl h120 (adr a144 ((cn (IntKind.wrap .i64 v65) (t53.1.len:Int)).toNat*6)) 3 (.int .u64 v148)∧
 ∃v149,bl h120 (adr a144 ((cn (IntKind.wrap .i64 v65) (t53.1.len:Int)).toNat*6)) 4 (.pointer v149)∧
 ∃v150,bl h120 (adr a144 ((cn (IntKind.wrap .i64 v65) (t53.1.len:Int)).toNat*6)) 5 (.pointer v150)∧
 ∃v151,aQ h120 t119 0 v151∧
 ∃v152,aQ h120 t119 1 v152∧
 HC PG jS [As v145 v146 v147 v148 v149 v150,.pointer none,pn v151 v152] AU (fun(e153:(T6)×Int) h154=>
 (fj h154 h8 (qY e153.1) (fun h155=>
 (cD (cn (IntKind.wrap .i64 v65) (t53.1.len:Int)) t53.2.1.len∧∃a156,t53.2.1.a=some a156∧
 ∃v157,bl h155 (adr a156 ((cn (IntKind.wrap .i64 v65) (t53.1.len:Int)).toNat*5)) 0 (.int .i64 v157)∧
 ∃v158,bl h155 (adr a156 ((cn (IntKind.wrap .i64 v65) (t53.1.len:Int)).toNat*5)) 1 (.int .u64 v158)∧
 ∃v159,bl h155 (adr a156 ((cn (IntKind.wrap .i64 v65) (t53.1.len:Int)).toNat*5)) 2 (.int .u64 v159)∧
 ∃v160,bl h155 (adr a156 ((cn (IntKind.wrap .i64 v65) (t53.1.len:Int)).toNat*5)) 3 (.int .u64 v160)∧
 ∃v161:SliceV,bl h155 (adr a156 ((cn (IntKind.wrap .i64 v65) (t53.1.len:Int)).toNat*5)) 4 (.slice v161.a v161.len v161.cap)∧
 ∃v162,aQ h155 t119 0 v162∧
 ∃v163,aQ h155 t119 1 v163∧
 HC PG uF [Tu v157 v158 v159 v160 v161,pn v162 v163] E3 (fun(e164:(T5)×Int) h165=>
 (fj h165 h17 (OD e164.1) (fun h166=>
 J121 (e153.2,e164.2) h166))) h155)))) h120))))) (fun J98=>
 ∃v99,aQ h64 (adr (aA h54) 1) 0 v99∧
 ∃v100,bl h64 (aA h54) 4 (.int .u16 v100)∧
 ((300:Int)≠0∧
 ∃v101,aQ h64 (adr (aA h54) 1) 1 v101∧
 ∃v102,bl h64 (aA h54) 5 (.int .u16 v102)∧
 ((4200:Int)≠0∧
 ((HC PG nD (Tl v99 (cn (IntKind.wrap .i64 v100) 300)) [.c .str] (fun(e103:ByteArray) h104=>
 (bl h104 (aA h54) 5 (.int .u16 v102)∧
 (aQ h104 (adr (aA h54) 1) 1 v101∧
 (bl h104 (aA h54) 4 (.int .u16 v100)∧
 ((HC PG nD (Tl v101 (cn (IntKind.wrap .i64 v102) 4200)) [.c .str] (fun(e105:ByteArray) h106=>
 (bl h106 (aA h54) 5 (.int .u16 v102)∧
 (bl h106 (aA h54) 4 (.int .u16 v100)∧
 At (hnew h106 jN aj) (fun h107=>
 (bl h107 (aA h54) 5 (.int .u16 v102)∧
 (bl h107 (aA h54) 4 (.int .u16 v100)∧
 (fj h107 h106 (gZ e103 e105) (fun h108=>
 J98 (aA h106) h108)))))))) h104)∧
 At (hnew h104 jN aj) (fun h109=>
 (bl h109 (aA h54) 5 (.int .u16 v102)∧
 (aQ h109 (adr (aA h54) 1) 1 v101∧
 (bl h109 (aA h54) 4 (.int .u16 v100)∧
 HC PG nD (Tl v101 (cn (IntKind.wrap .i64 v102) 4200)) [.c .str] (fun(e110:ByteArray) h111=>
 (bl h111 (aA h54) 5 (.int .u16 v102)∧
 (bl h111 (aA h54) 4 (.int .u16 v100)∧
 (fj h111 h104 (gZ e103 e110) (fun h112=>
 J98 (aA h104) h112))))) h109))))))))) h64)∧
 At (hnew h64 jN aj) (fun h113=>
 (bl h113 (aA h54) 5 (.int .u16 v102)∧
 (aQ h113 (adr (aA h54) 1) 1 v101∧
 (bl h113 (aA h54) 4 (.int .u16 v100)∧
 (aQ h113 (adr (aA h54) 1) 0 v99∧
 HC PG nD (Tl v99 (cn (IntKind.wrap .i64 v100) 300)) [.c .str] (fun(e114:ByteArray) h115=>
 (bl h115 (aA h54) 5 (.int .u16 v102)∧
 (aQ h115 (adr (aA h54) 1) 1 v101∧
 (bl h115 (aA h54) 4 (.int .u16 v100)∧
 HC PG nD (Tl v101 (cn (IntKind.wrap .i64 v102) 4200)) [.c .str] (fun(e116:ByteArray) h117=>
 (bl h117 (aA h54) 5 (.int .u16 v102)∧
 (bl h117 (aA h54) 4 (.int .u16 v100)∧
 (fj h117 h64 (gZ e114 e116) (fun h118=>
 J98 (aA h64) h118))))) h115)))) h113))))))))))))))) (
 J51 (t53.1,t53.2.1) h54)) (t49.1,t49.2,0) h50)) (fun J33=>
 ∃v34,bj h19 h8 0 v34∧
 ∃v35,ao h19 h8 1 v35∧
 ∃v36,ao h19 h8 2 v36∧
 ∃v37,ao h19 h8 3 v37∧
 ∃v38,aI h19 h8 4 v38∧
 ∃v39,aI h19 h8 5 v39∧
 ∃v40,bj h19 h17 0 v40∧
 ∃v41,ao h19 h17 1 v41∧
 ∃v42,ao h19 h17 2 v42∧
 ∃v43,ao h19 h17 3 v43∧
 ∃v44:SliceV,dI h19 h17 4 v44∧
 ((At (hnew h19 (FH v34 v35 v36 v37 v38 v39) bF) (fun h45=>
 ((bj h45 h17 0 v40∧ao h45 h17 1 v41∧ao h45 h17 2 v42∧ao h45 h17 3 v43∧dI h45 h17 4 v44)∧
 At (hnew h45 (M4 v40 v41 v42 v43 v44) cY) (fun h46=>
 J33 (⟨some (aA h19),1,1⟩,⟨some (aA h45),1,1⟩) h46))))∧
 At (hnew h19 (M4 v40 v41 v42 v43 v44) cY) (fun h47=>
 ((bj h47 h8 0 v34∧ao h47 h8 1 v35∧ao h47 h8 2 v36∧ao h47 h8 3 v37∧aI h47 h8 4 v38∧aI h47 h8 5 v39)∧
 At (hnew h47 (FH v34 v35 v36 v37 v38 v39) bF) (fun h48=>
 J33 (⟨some (aA h47),1,1⟩,⟨some (aA h19),1,1⟩) h48))))))))) h15) h10)) h3)) h1)
noncomputable def Cw:Ann:=.node .nil (.node .nil (.node .nil (.node .nil (.node .nil (.node .nil (.join [(11,.c .slice),(12,.c .slice)] .nil (.join [(11,.c .slice),(12,.c .slice)] (.node .nil (.loop [(11,.c .slice),(12,.c .slice),(51,.c (.int .i64))] (.node .nil (.node .nil (.join [(11,.c .slice),(12,.c .slice)] (.node .nil (.node .nil (.node .nil (.join [(16,.c .adr)] .nil (.join [(8,.c (.int .i64)),(10,.c (.int .i64))] .nil (.node .nil (.node .nil (.node (.join [(163,.c .bool)] .nil .nil) .nil)))))))) .nil))))) (.node (.node .nil (.loop [(175,.c (.int .i64))] .nil)) .nil))))))))
theorem Cu(x0:Int)(x1:Int×Int×Int)(x2:SliceV){K:cL [.c .bool]→ad→Prop}{h0:ad}(h:vr x0 x1 x2 K h0):HC PG vf [.int .i64 x0,Jj x1,.slice x2.a x2.len x2.cap] [.c .bool] K h0:=dJ Cw Tryz.func5 Tryz.call5 rfl rfl (by kernel_rfl) h
def yD(x0:Int)(x1:Int×Int×Int)(K:((T6)×Int)→ad→Prop)(h0:ad):Prop:=
 At (hnew h0 (yM x1) cr) (fun h1=>
 At (hnew h1 Aw bF) (fun h2=>
 CondP (x0==(0:Int)) (
 ∃v3,ao h2 h0 0 v3∧
 ∃v4,ao h2 h0 1 v4∧
 ∃v5,ao h2 h0 2 v5∧
 HC PG rj [tK v3 v4 v5,.pointer none] Jz (fun(e6:T6) h7=>
 (fj h7 h1 (qY e6) (fun h8=>
 ∃v9,bj h8 h1 0 v9∧
 ∃v10,ao h8 h1 1 v10∧
 ∃v11,ao h8 h1 2 v11∧
 ∃v12,ao h8 h1 3 v12∧
 ∃v13,aI h8 h1 4 v13∧
 ∃v14,aI h8 h1 5 v14∧
 K ((v9,v10,v11,v12,v13,v14),0) h8))) h2) (
 CondP (x0==(1:Int)) (
 HC PG ri [.pointer none] Jz (fun(e15:T6) h16=>
 (fj h16 h1 (qY e15) (fun h17=>
 ∃v18,bj h17 h1 0 v18∧
 ∃v19,ao h17 h1 1 v19∧
 ∃v20,ao h17 h1 2 v20∧
 ∃v21,ao h17 h1 3 v21∧
 ∃v22,aI h17 h1 4 v22∧
 ∃v23,aI h17 h1 5 v23∧
 K ((v18,v19,v20,v21,v22,v23),0) h17))) h2) (
 (fj h2 h1 Aw (fun h24=>
 ∃v25,bj h24 h1 0 v25∧
 ∃v26,ao h24 h1 1 v26∧
 ∃v27,ao h24 h1 2 v27∧
 ∃v28,ao h24 h1 3 v28∧
 ∃v29,aI h24 h1 4 v29∧
 ∃v30,aI h24 h1 5 v30∧
 K ((v25,v26,v27,v28,v29,v30),11) h24))))))
theorem Ek(x0:Int)(x1:Int×Int×Int){K:cL AU→ad→Prop}{h0:ad}(h:yD x0 x1 K h0):HC PG rk [.int .i64 x0,Jj x1] AU K h0:=dJ .nil Tryz.func18 Tryz.call18 rfl rfl (by kernel_rfl) h
def ng(x0:T6)(K:(Int)→ad→Prop)(h0:ad):Prop:=
 At (hnew h0 (qY x0) bF) (fun h1=>
 ∃v2,bj h1 h0 0 v2∧
 CondP (v2==(1:Int)) (
 ∃v3,aI h1 h0 5 v3∧
 HC PG rZ [.pointer v3] cd (fun(e4:Int) h5=>
 K e4 h5) h1) (
 ∃v6,aI h1 h0 4 v6∧
 HC PG r8 [.pointer v6] cd (fun(e7:Int) h8=>
 K e7 h8) h1))
theorem qu(x0:T6){K:cL cd→ad→Prop}{h0:ad}(h:ng x0 K h0):HC PG ii [Nk x0] cd K h0:=dJ .nil Tryz.func20 Tryz.call20 rfl rfl (by kernel_rfl) h
def Ey(x0:SliceV)(x1:SliceV)(K:(Bool)→ad→Prop)(h0:ad):Prop:=
 CondP ((x0.len:Int) !=(x1.len:Int)) (
 K false h0) (
 LoopP (fun I1 (t2:Int) h3=>
 CondP (decide (t2<(x0.len:Int))) (
 (cD t2 x0.len∧∃a4,x0.a=some a4∧
 ∃v5,bl h3 a4 (t2.toNat*1) (.int .u8 v5)∧
 (cD t2 x1.len∧∃a6,x1.a=some a6∧
 ∃v7,bl h3 a6 (t2.toNat*1) (.int .u8 v7)∧
 CondP (v5 !=v7) (
 K false h3) (
 I1 (IntKind.wrap .i64 (t2+1)) h3)))) (
 K true h3)) 0 h0)
noncomputable def MP:Ann:=.node .nil (.node .nil (.node (.node .nil (.loop [(13,.c (.int .i64))] .nil)) .nil))
theorem MA(x0:SliceV)(x1:SliceV){K:cL [.c .bool]→ad→Prop}{h0:ad}(h:Ey x0 x1 K h0):HC PG yf (PH x0 x1) [.c .bool] K h0:=dJ MP Tryz.func22 Tryz.call22 rfl rfl (by kernel_rfl) h
def oK(x0:T6)(K:(SliceV)→ad→Prop)(h0:ad):Prop:=
 At (hnew h0 (qY x0) bF) (fun h1=>
 ∃v2,bj h1 h0 0 v2∧
 CondP (v2==(1:Int)) (
 At (hnew h1 [.int .u8 1] cy) (fun h3=>
 ∃v4,aI h3 h0 5 v4∧
 HC PG tq [.pointer v4] [.c .slice] (fun(e5:SliceV) h6=>
 ∃xs7,SRow h6 e5.a (e5.len*1) xs7∧
 AppP (some [.int .u8 0]) 1 1 cy (some (aA h1)) 1 1 e5.len xs7 h6 (fun s8 h9=>
 K s8 h9)) h3)) (
 At (hnew h1 [.int .u8 0] cy) (fun h10=>
 ∃v11,bj h10 h0 0 v11∧
 ∃v12,ao h10 h0 1 v12∧
 ∃v13,ao h10 h0 2 v13∧
 ∃v14,ao h10 h0 3 v14∧
 ∃v15,aI h10 h0 4 v15∧
 ∃v16,aI h10 h0 5 v16∧
 HC PG fC [As v11 v12 v13 v14 v15 v16] [.c .ptr] (fun(e17:Option Addr) h18=>
 HC PG ye [.pointer e17] [.c .slice] (fun(e19:SliceV) h20=>
 ∃xs21,SRow h20 e19.a (e19.len*1) xs21∧
 AppP (some [.int .u8 0]) 1 1 cy (some (aA h1)) 1 1 e19.len xs21 h20 (fun s22 h23=>
 K s22 h23)) h18) h10)))
theorem sm(x0:T6){K:cL [.c .slice]→ad→Prop}{h0:ad}(h:oK x0 K h0):HC PG li [Nk x0] [.c .slice] K h0:=dJ .nil Tryz.func23 Tryz.call23 rfl rfl (by kernel_rfl) h
def B6(x0:T5)(K:(SliceV)→ad→Prop)(h0:ad):Prop:=
 At (hnew h0 (OD x0) cY) (fun h1=>
 ∃v2,bj h1 h0 0 v2∧
 CondP (v2==(1:Int)) (
 At (hnew h1 [.int .u8 1] cy) (fun h3=>
 ∃v4:SliceV,dI h3 h0 4 v4∧
 HC PG DW [.slice v4.a v4.len v4.cap] [.c .ptr] (fun(e5:Option Addr) h6=>
 HC PG r6 [.pointer e5] [.c .slice] (fun(e7:SliceV) h8=>
 ∃xs9,SRow h8 e7.a (e7.len*1) xs9∧
 AppP (some [.int .u8 0]) 1 1 cy (some (aA h1)) 1 1 e7.len xs9 h8 (fun s10 h11=>
 K s10 h11)) h6) h3)) (
 At (hnew h1 [.int .u8 0] cy) (fun h12=>
 ∃v13,cP h12 (adr (aA h0) 1) 0 v13∧
 ∃v14,cP h12 (adr (aA h0) 1) 1 v14∧
 ∃v15,cP h12 (adr (aA h0) 1) 2 v15∧
 ∃v16:SliceV,dI h12 h0 4 v16∧
 HC PG DX [tK v13 v14 v15,.slice v16.a v16.len v16.cap,.int .i64 0] [.c .ptr] (fun(e17:Option Addr) h18=>
 HC PG zu (un e17 0) [.c .slice] (fun(e19:SliceV) h20=>
 ∃xs21,SRow h20 e19.a (e19.len*1) xs21∧
 AppP (some [.int .u8 0]) 1 1 cy (some (aA h1)) 1 1 e19.len xs21 h20 (fun s22 h23=>
 K s22 h23)) h18) h12)))
theorem Kf(x0:T5){K:cL [.c .slice]→ad→Prop}{h0:ad}(h:B6 x0 K h0):HC PG vV [U7 x0] [.c .slice] K h0:=dJ .nil Tryz.func24 Tryz.call24 rfl rfl (by kernel_rfl) h
def oL(x0:T6)(K:(Bool)→ad→Prop)(h0:ad):Prop:=
 At (hnew h0 (qY x0) bF) (fun h1=>
 ∃v2,bj h1 h0 0 v2∧
 CondP (v2==(1:Int)) (
 ∃v3,aI h1 h0 5 v3∧
 HC PG tu [.pointer v3] [.c .bool] (fun(e4:Bool) h5=>
 K e4 h5) h1) (
 ∃v6,cP h1 (adr (aA h0) 1) 0 v6∧
 ∃v7,cP h1 (adr (aA h0) 1) 1 v7∧
 ∃v8,cP h1 (adr (aA h0) 1) 2 v8∧
 ∃v9,bj h1 h0 0 v9∧
 ∃v10,ao h1 h0 1 v10∧
 ∃v11,ao h1 h0 2 v11∧
 ∃v12,ao h1 h0 3 v12∧
 ∃v13,aI h1 h0 4 v13∧
 ∃v14,aI h1 h0 5 v14∧
 HC PG fC [As v9 v10 v11 v12 v13 v14] [.c .ptr] (fun(e15:Option Addr) h16=>
 ((cP h16 (adr (aA h0) 1) 0 v6∧cP h16 (adr (aA h0) 1) 1 v7∧cP h16 (adr (aA h0) 1) 2 v8)∧
 HC PG xn [tK v6 v7 v8,.pointer e15] [.c .bool] (fun(e17:Bool) h18=>
 K e17 h18) h16)) h1))
theorem sq(x0:T6){K:cL [.c .bool]→ad→Prop}{h0:ad}(h:oL x0 K h0):HC PG lj [Nk x0] [.c .bool] K h0:=dJ .nil Tryz.func25 Tryz.call25 rfl rfl (by kernel_rfl) h
def Cc(K:(Bool)→ad→Prop)(h0:ad):Prop:=
 HC PG rk [.int .i64 1,zg0] AU (fun(e1:(T6)×Int) h2=>
 nv h2 Aw bF (qY e1.1) (fun h4=>
 ∃v5,bj h4 h2 0 v5∧
 ∃v6,ao h4 h2 1 v6∧
 ∃v7,ao h4 h2 2 v7∧
 ∃v8,ao h4 h2 3 v8∧
 ∃v9,aI h4 h2 4 v9∧
 ∃v10,aI h4 h2 5 v10∧
 HC PG jS [As v5 v6 v7 v8 v9 v10,.pointer none,pn (⟨#[97]⟩:ByteArray) (⟨#[49]⟩:ByteArray)] AU (fun(e11:(T6)×Int) h12=>
 nv h12 Aw bF (qY e11.1) (fun h14=>
 ∃v15,bj h14 h12 0 v15∧
 ∃v16,ao h14 h12 1 v16∧
 ∃v17,ao h14 h12 2 v17∧
 ∃v18,ao h14 h12 3 v18∧
 ∃v19,aI h14 h12 4 v19∧
 ∃v20,aI h14 h12 5 v20∧
 HC PG f9 [As v15 v16 v17 v18 v19 v20] [.c .slice] (fun(e21:SliceV) h22=>
 CondP (e1.2==(0:Int)) (
 CondP (e11.2==(0:Int)) (
 CondP ((e21.len:Int)==(1:Int)) (
 (cD 0 e21.len∧∃a23,e21.a=some a23∧
 ∃v24,aQ h22 (adr a23 ((0:Int).toNat*2)) 0 v24∧
 CondP (v24.toList==(⟨#[97]⟩:ByteArray).toList) (
 ∃v25,bj h22 h2 0 v25∧
 ∃v26,ao h22 h2 1 v26∧
 ∃v27,ao h22 h2 2 v27∧
 ∃v28,ao h22 h2 3 v28∧
 ∃v29,aI h22 h2 4 v29∧
 ∃v30,aI h22 h2 5 v30∧
 HC PG ii [As v25 v26 v27 v28 v29 v30] cd (fun(e31:Int) h32=>
 CondP (e31==(0:Int)) (
 ∃v33,bj h32 h12 0 v33∧
 ∃v34,ao h32 h12 1 v34∧
 ∃v35,ao h32 h12 2 v35∧
 ∃v36,ao h32 h12 3 v36∧
 ∃v37,aI h32 h12 4 v37∧
 ∃v38,aI h32 h12 5 v38∧
 HC PG mh [As v33 v34 v35 v36 v37 v38] cd (fun(e39:Int) h40=>
 K (e39==(1:Int)) h40) h32) (
 K false h32)) h22) (
 K false h22))) (
 K false h22)) (
 K false h22)) (
 K false h22)) h14)) h4)) h0
theorem Ko{K:cL [.c .bool]→ad→Prop}{h0:ad}(h:Cc K h0):HC PG vX [] [.c .bool] K h0:=dJ .nil Tryz.func26 Tryz.call26 rfl rfl (by kernel_rfl) h
def wr(x0:Int×Int×Int)(x1:Option Addr)(K:(T6)→ad→Prop)(h0:ad):Prop:=
 At (hnew h0 (yM x0) cr) (fun h1=>
 At (hnew h1 Aw bF) (fun h2=>
 Join (fun(t6:Option Addr) h7=>
 ∃v8,ao h7 h0 0 v8∧
 ∃v9,ao h7 h0 1 v9∧
 ∃v10,ao h7 h0 2 v10∧
 (fj h7 h1 (FH 0 v8 v9 v10 t6 none) (fun h11=>
 ∃v12,bj h11 h1 0 v12∧
 ∃v13,ao h11 h1 1 v13∧
 ∃v14,ao h11 h1 2 v14∧
 ∃v15,ao h11 h1 3 v15∧
 ∃v16,aI h11 h1 4 v16∧
 ∃v17,aI h11 h1 5 v17∧
 K (v12,v13,v14,v15,v16,v17) h11))) (fun J3=>
 CondP x1.isNone (
 HC PG mW [] [.c .ptr] (fun(e4:Option Addr) h5=>
 J3 e4 h5) h2) (
 J3 x1 h2))))
noncomputable def EN:Ann:=.node .nil (.join [(1,.c .ptr)] .nil .nil)
theorem Ej(x0:Int×Int×Int)(x1:Option Addr){K:cL Jz→ad→Prop}{h0:ad}(h:wr x0 x1 K h0):HC PG rj [Jj x0,.pointer x1] Jz K h0:=dJ EN Tryz.func28 Tryz.call28 rfl rfl (by kernel_rfl) h
def lz(x0:T6)(K:(Option Addr)→ad→Prop)(h0:ad):Prop:=
 At (hnew h0 (qY x0) bF) (fun h1=>
 Join (fun(t5:Bool) h6=>
 CondP t5 (
 HC PG mW [] [.c .ptr] (fun(e7:Option Addr) h8=>
 K e7 h8) h6) (
 ∃v9,aI h6 h0 4 v9∧
 K v9 h6)) (fun J2=>
 ∃v3,bj h1 h0 0 v3∧
 CondP (v3==(0:Int)) (
 ∃v4,aI h1 h0 4 v4∧
 J2 v4.isNone h1) (
 J2 false h1)))
noncomputable def Ap:Ann:=.node .nil (.node (.join [(10,.c .bool)] .nil .nil) .nil)
theorem oG(x0:T6){K:cL [.c .ptr]→ad→Prop}{h0:ad}(h:lz x0 K h0):HC PG fC [Nk x0] [.c .ptr] K h0:=dJ Ap Tryz.func29 Tryz.call29 rfl rfl (by kernel_rfl) h
def wq(x0:Option Addr)(K:(T6)→ad→Prop)(h0:ad):Prop:=
 At (hnew h0 Aw bF) (fun h1=>
 Join (fun(t5:Option Addr) h6=>
 (fj h6 h0 (FH 1 0 0 0 none t5) (fun h7=>
 ∃v8,bj h7 h0 0 v8∧
 ∃v9,ao h7 h0 1 v9∧
 ∃v10,ao h7 h0 2 v10∧
 ∃v11,ao h7 h0 3 v11∧
 ∃v12,aI h7 h0 4 v12∧
 ∃v13,aI h7 h0 5 v13∧
 K (v8,v9,v10,v11,v12,v13) h7))) (fun J2=>
 CondP x0.isNone (
 HC PG pR [] [.c .ptr] (fun(e3:Option Addr) h4=>
 J2 e3 h4) h1) (
 J2 x0 h1)))
noncomputable def EM:Ann:=.node .nil (.join [(0,.c .ptr)] .nil .nil)
theorem Ei(x0:Option Addr){K:cL Jz→ad→Prop}{h0:ad}(h:wq x0 K h0):HC PG ri [.pointer x0] Jz K h0:=dJ EM Tryz.func30 Tryz.call30 rfl rfl (by kernel_rfl) h
def sA(x0:T6)(K:(Option Addr)→ad→Prop)(h0:ad):Prop:=
 At (hnew h0 (qY x0) bF) (fun h1=>
 ∃v2,aI h1 h0 5 v2∧
 K v2 h1)
theorem zM(x0:T6){K:cL [.c .ptr]→ad→Prop}{h0:ad}(h:sA x0 K h0):HC PG ot [Nk x0] [.c .ptr] K h0:=dJ .nil Tryz.func31 Tryz.call31 rfl rfl (by kernel_rfl) h
def pE(x0:T6)(x1:Option Addr)(x2:ByteArray×ByteArray)(K:((T6)×Int)→ad→Prop)(h0:ad):Prop:=
 At (hnew h0 (qY x0) bF) (fun h1=>
 At (hnew h1 (rM x2) aj) (fun h2=>
 At (hnew h2 Aw bF) (fun h3=>
 ∃v4,aw h3 h1 0 v4∧
 ∃v5,aw h3 h1 1 v5∧
 HC PG oA (gZ v4 v5) cd (fun(e6:Int) h7=>
 CondP (e6 !=(0:Int)) (
 ∃v8,bj h7 h0 0 v8∧
 ∃v9,ao h7 h0 1 v9∧
 ∃v10,ao h7 h0 2 v10∧
 ∃v11,ao h7 h0 3 v11∧
 ∃v12,aI h7 h0 4 v12∧
 ∃v13,aI h7 h0 5 v13∧
 (fj h7 h2 (FH v8 v9 v10 v11 v12 v13) (fun h14=>
 ∃v15,bj h14 h2 0 v15∧
 ∃v16,ao h14 h2 1 v16∧
 ∃v17,ao h14 h2 2 v17∧
 ∃v18,ao h14 h2 3 v18∧
 ∃v19,aI h14 h2 4 v19∧
 ∃v20,aI h14 h2 5 v20∧
 K ((v15,v16,v17,v18,v19,v20),e6) h14))) (
 ∃v21,bj h7 h0 0 v21∧
 CondP (v21==(1:Int)) (
 ∃v22,aI h7 h0 5 v22∧
 ∃v23,aw h7 h1 0 v23∧
 ∃v24,aw h7 h1 1 v24∧
 HC PG vT [.pointer x1,.pointer v22,pn v23 v24] jR (fun(e25:(Option Addr)×Bool) h26=>
 (cT h26 (adr (aA h0) 5) (.pointer e25.1) (fun h27=>
 ∃v28,bj h27 h0 0 v28∧
 ∃v29,ao h27 h0 1 v29∧
 ∃v30,ao h27 h0 2 v30∧
 ∃v31,ao h27 h0 3 v31∧
 ∃v32,aI h27 h0 4 v32∧
 ∃v33,aI h27 h0 5 v33∧
 (fj h27 h2 (FH v28 v29 v30 v31 v32 v33) (fun h34=>
 ∃v35,bj h34 h2 0 v35∧
 ∃v36,ao h34 h2 1 v36∧
 ∃v37,ao h34 h2 2 v37∧
 ∃v38,ao h34 h2 3 v38∧
 ∃v39,aI h34 h2 4 v39∧
 ∃v40,aI h34 h2 5 v40∧
 K ((v35,v36,v37,v38,v39,v40),0) h34))))) h7) (
 ∃v41,cP h7 (adr (aA h0) 1) 0 v41∧
 ∃v42,cP h7 (adr (aA h0) 1) 1 v42∧
 ∃v43,cP h7 (adr (aA h0) 1) 2 v43∧
 ∃v44,aI h7 h0 4 v44∧
 ∃v45,aw h7 h1 0 v45∧
 ∃v46,aw h7 h1 1 v46∧
 HC PG vZ [tK v41 v42 v43,.pointer x1,.pointer v44,pn v45 v46] jR (fun(e47:(Option Addr)×Bool) h48=>
 (cT h48 (adr (aA h0) 4) (.pointer e47.1) (fun h49=>
 ∃v50,bj h49 h0 0 v50∧
 ∃v51,ao h49 h0 1 v51∧
 ∃v52,ao h49 h0 2 v52∧
 ∃v53,ao h49 h0 3 v53∧
 ∃v54,aI h49 h0 4 v54∧
 ∃v55,aI h49 h0 5 v55∧
 (fj h49 h2 (FH v50 v51 v52 v53 v54 v55) (fun h56=>
 ∃v57,bj h56 h2 0 v57∧
 ∃v58,ao h56 h2 1 v58∧
 ∃v59,ao h56 h2 2 v59∧
 ∃v60,ao h56 h2 3 v60∧
 ∃v61,aI h56 h2 4 v61∧
 ∃v62,aI h56 h2 5 v62∧
 K ((v57,v58,v59,v60,v61,v62),0) h56))))) h7))) h3)))
theorem tV(x0:T6)(x1:Option Addr)(x2:ByteArray×ByteArray){K:cL AU→ad→Prop}{h0:ad}(h:pE x0 x1 x2 K h0):HC PG jS [Nk x0,.pointer x1,Nj x2] AU K h0:=dJ .nil Tryz.func32 Tryz.call32 rfl rfl (by kernel_rfl) h
def EJ(x0:T6)(x1:T5)(K:(Bool)→ad→Prop)(h0:ad):Prop:=
 At (hnew h0 (qY x0) bF) (fun h1=>
 At (hnew h1 (OD x1) cY) (fun h2=>
 ∃v3,bj h2 h0 0 v3∧
 ∃v4,ao h2 h0 1 v4∧
 ∃v5,ao h2 h0 2 v5∧
 ∃v6,ao h2 h0 3 v6∧
 ∃v7,aI h2 h0 4 v7∧
 ∃v8,aI h2 h0 5 v8∧
 HC PG f9 [As v3 v4 v5 v6 v7 v8] [.c .slice] (fun(e9:SliceV) h10=>
 Join (fun(t68:Bool) h69=>
 CondP t68 (
 K false h69) (
 LoopP (fun I70 (t71:Int) h72=>
 CondP (decide (t71<(e9.len:Int))) (
 (cD t71 e9.len∧∃a73,e9.a=some a73∧
 ∃v74,aQ h72 (adr a73 (t71.toNat*2)) 0 v74∧
 ∃v75,aQ h72 (adr a73 (t71.toNat*2)) 1 v75∧
 ∃v76:SliceV,dI h72 h1 4 v76∧
 (cD t71 v76.len∧∃a77,v76.a=some a77∧
 ∃v78,aQ h72 (adr a77 (t71.toNat*2)) 0 v78∧
 ∃v79,aQ h72 (adr a77 (t71.toNat*2)) 1 v79∧
 CondP (!(((v74.toList==v78.toList)&&((v75.toList==v79.toList)&&true)))) (
 K false h72) (
 I70 (IntKind.wrap .i64 (t71+1)) h72)))) (
 ∃v80,bj h72 h0 0 v80∧
 ∃v81,ao h72 h0 1 v81∧
 ∃v82,ao h72 h0 2 v82∧
 ∃v83,ao h72 h0 3 v83∧
 ∃v84,aI h72 h0 4 v84∧
 ∃v85,aI h72 h0 5 v85∧
 ∃v86,bj h72 h1 0 v86∧
 HC PG fC [As v80 v81 v82 v83 v84 v85] [.c .ptr] (fun(e87:Option Addr) h88=>
 (bj h88 h1 0 v86∧
 CondP ((!(e87.isNone))==(v86==(0:Int))) (
 ∃v89,bj h88 h0 0 v89∧
 ∃v90,ao h88 h0 1 v90∧
 ∃v91,ao h88 h0 2 v91∧
 ∃v92,ao h88 h0 3 v92∧
 ∃v93,aI h88 h0 4 v93∧
 ∃v94,aI h88 h0 5 v94∧
 ∃v95,bj h88 h1 0 v95∧
 HC PG ot [As v89 v90 v91 v92 v93 v94] [.c .ptr] (fun(e96:Option Addr) h97=>
 (bj h97 h1 0 v95∧
 (bj h97 h1 0 v86∧
 K ((!(e96.isNone))==(v95==(1:Int))) h97))) h88) (
 K false h88))) h72)) 0 h69)) (fun J11=>
 ∃v12,bj h10 h0 0 v12∧
 ∃v13,ao h10 h0 1 v13∧
 ∃v14,ao h10 h0 2 v14∧
 ∃v15,ao h10 h0 3 v15∧
 ∃v16,aI h10 h0 4 v16∧
 ∃v17,aI h10 h0 5 v17∧
 ∃v18,bj h10 h1 0 v18∧
 HC PG mh [As v12 v13 v14 v15 v16 v17] cd (fun(e19:Int) h20=>
 (bj h20 h1 0 v18∧
 CondP (e19 !=v18) (
 J11 true h20) (
 ∃v21,bj h20 h0 0 v21∧
 ∃v22,ao h20 h0 1 v22∧
 ∃v23,ao h20 h0 2 v23∧
 ∃v24,ao h20 h0 3 v24∧
 ∃v25,aI h20 h0 4 v25∧
 ∃v26,aI h20 h0 5 v26∧
 ∃v27,cP h20 (adr (aA h1) 1) 0 v27∧
 ∃v28,cP h20 (adr (aA h1) 1) 1 v28∧
 ∃v29,cP h20 (adr (aA h1) 1) 2 v29∧
 HC PG ny [As v21 v22 v23 v24 v25 v26] Hq (fun(e30:Int×Int×Int) h31=>
 ((cP h31 (adr (aA h1) 1) 0 v27∧cP h31 (adr (aA h1) 1) 1 v28∧cP h31 (adr (aA h1) 1) 2 v29)∧
 (bj h31 h1 0 v18∧
 HC PG wP [Jj e30] Hq (fun(e32:Int×Int×Int) h33=>
 ((cP h33 (adr (aA h1) 1) 0 v27∧cP h33 (adr (aA h1) 1) 1 v28∧cP h33 (adr (aA h1) 1) 2 v29)∧
 (bj h33 h1 0 v18∧
 CondP (!(((e32.1==v27)&&((e32.2.1==v28)&&((e32.2.2==v29)&&true))))) (
 J11 true h33) (
 ∃v34:SliceV,dI h33 h1 4 v34∧
 CondP ((e9.len:Int) !=(v34.len:Int)) (
 J11 true h33) (
 ∃v35,bj h33 h0 0 v35∧
 ∃v36,ao h33 h0 1 v36∧
 ∃v37,ao h33 h0 2 v37∧
 ∃v38,ao h33 h0 3 v38∧
 ∃v39,aI h33 h0 4 v39∧
 ∃v40,aI h33 h0 5 v40∧
 HC PG ii [As v35 v36 v37 v38 v39 v40] cd (fun(e41:Int) h42=>
 (dI h42 h1 4 v34∧
 ((cP h42 (adr (aA h1) 1) 0 v27∧cP h42 (adr (aA h1) 1) 1 v28∧cP h42 (adr (aA h1) 1) 2 v29)∧
 (bj h42 h1 0 v18∧
 CondP (e41 !=(e9.len:Int)) (
 J11 true h42) (
 ∃v43,bj h42 h0 0 v43∧
 ∃v44,ao h42 h0 1 v44∧
 ∃v45,ao h42 h0 2 v45∧
 ∃v46,ao h42 h0 3 v46∧
 ∃v47,aI h42 h0 4 v47∧
 ∃v48,aI h42 h0 5 v48∧
 ∃v49,bj h42 h1 0 v49∧
 ∃v50,ao h42 h1 1 v50∧
 ∃v51,ao h42 h1 2 v51∧
 ∃v52,ao h42 h1 3 v52∧
 ∃v53:SliceV,dI h42 h1 4 v53∧
 HC PG li [As v43 v44 v45 v46 v47 v48] [.c .slice] (fun(e54:SliceV) h55=>
 ((bj h55 h1 0 v49∧ao h55 h1 1 v50∧ao h55 h1 2 v51∧ao h55 h1 3 v52∧dI h55 h1 4 v53)∧
 (dI h55 h1 4 v34∧
 ((cP h55 (adr (aA h1) 1) 0 v27∧cP h55 (adr (aA h1) 1) 1 v28∧cP h55 (adr (aA h1) 1) 2 v29)∧
 (bj h55 h1 0 v18∧
 HC PG vV [Tu v49 v50 v51 v52 v53] [.c .slice] (fun(e56:SliceV) h57=>
 (dI h57 h1 4 v34∧
 ((cP h57 (adr (aA h1) 1) 0 v27∧cP h57 (adr (aA h1) 1) 1 v28∧cP h57 (adr (aA h1) 1) 2 v29)∧
 (bj h57 h1 0 v18∧
 HC PG yf (PH e54 e56) [.c .bool] (fun(e58:Bool) h59=>
 (dI h59 h1 4 v34∧
 ((cP h59 (adr (aA h1) 1) 0 v27∧cP h59 (adr (aA h1) 1) 1 v28∧cP h59 (adr (aA h1) 1) 2 v29)∧
 (bj h59 h1 0 v18∧
 CondP (!e58) (
 J11 true h59) (
 ∃v60,bj h59 h0 0 v60∧
 ∃v61,ao h59 h0 1 v61∧
 ∃v62,ao h59 h0 2 v62∧
 ∃v63,ao h59 h0 3 v63∧
 ∃v64,aI h59 h0 4 v64∧
 ∃v65,aI h59 h0 5 v65∧
 HC PG lj [As v60 v61 v62 v63 v64 v65] [.c .bool] (fun(e66:Bool) h67=>
 (dI h67 h1 4 v34∧
 ((cP h67 (adr (aA h1) 1) 0 v27∧cP h67 (adr (aA h1) 1) 1 v28∧cP h67 (adr (aA h1) 1) 2 v29)∧
 (bj h67 h1 0 v18∧
 J11 (!e66) h67)))) h59))))) h57)))) h55))))) h42))))) h33))))) h31))) h20))) h10)) h2))
noncomputable def MW:Ann:=.node .nil (.node .nil (.node (.join [(49,.c .bool)] .nil .nil) (.node (.node .nil (.loop [(52,.c (.int .i64))] .nil)) .nil)))
theorem MJ(x0:T6)(x1:T5){K:cL [.c .bool]→ad→Prop}{h0:ad}(h:EJ x0 x1 K h0):HC PG rl [Nk x0,U7 x1] [.c .bool] K h0:=dJ MW Tryz.func33 Tryz.call33 rfl rfl (by kernel_rfl) h
def Er(x0:T6)(x1:T6)(K:(Bool)→ad→Prop)(h0:ad):Prop:=
 At (hnew h0 (qY x0) bF) (fun h1=>
 At (hnew h1 (qY x1) bF) (fun h2=>
 ∃v3,bj h2 h0 0 v3∧
 ∃v4,ao h2 h0 1 v4∧
 ∃v5,ao h2 h0 2 v5∧
 ∃v6,ao h2 h0 3 v6∧
 ∃v7,aI h2 h0 4 v7∧
 ∃v8,aI h2 h0 5 v8∧
 ∃v9,bj h2 h1 0 v9∧
 ∃v10,ao h2 h1 1 v10∧
 ∃v11,ao h2 h1 2 v11∧
 ∃v12,ao h2 h1 3 v12∧
 ∃v13,aI h2 h1 4 v13∧
 ∃v14,aI h2 h1 5 v14∧
 (ql h2 [(v7,v13),(v8,v14)]∧
 K ((v3==v9)&&((((((v4==v10)&&((v5==v11)&&true)))&&((v6==v12)&&true)))&&((v7==v13)&&((v8==v14)&&true)))) h2)))
theorem Mu(x0:T6)(x1:T6){K:cL [.c .bool]→ad→Prop}{h0:ad}(h:Er x0 x1 K h0):HC PG yc [Nk x0,Nk x1] [.c .bool] K h0:=dJ .nil Tryz.func34 Tryz.call34 rfl rfl (by kernel_rfl) h
def GI(x0:Int×Int×Int)(K:(Int×Int×Int)→ad→Prop)(h0:ad):Prop:=
 At (hnew h0 (yM x0) cr) (fun h1=>
 At (hnew h1 U0 qM) (fun h2=>
 ∃v3,cP h2 (adr (aA h0) 0) 0 v3∧
 ∃v4,cP h2 (adr (aA h0) 0) 1 v4∧
 ∃v5,ao h2 h0 2 v5∧
 (fj h2 h1 (U3 v3 v4 v5) (fun h6=>
 ∃v7,ao h6 h1 0 v7∧
 ∃v8,ao h6 h1 1 v8∧
 ∃v9,ao h6 h1 2 v9∧
 K (v7,v8,v9) h6))))
theorem Pi(x0:Int×Int×Int){K:cL Hq→ad→Prop}{h0:ad}(h:GI x0 K h0):HC PG wP [Jj x0] Hq K h0:=dJ .nil Tryz.func35 Tryz.call35 rfl rfl (by kernel_rfl) h
def Bs(x0:Int)(x1:Int×Int×Int)(K:((T5)×Int)→ad→Prop)(h0:ad):Prop:=
 At (hnew h0 (yM x1) qM) (fun h1=>
 At (hnew h1 Ik cY) (fun h2=>
 CondP (x0==(0:Int)) (
 ∃v3,ao h2 h0 0 v3∧
 ∃v4,ao h2 h0 1 v4∧
 ∃v5,ao h2 h0 2 v5∧
 (fj h2 h1 [.int .i64 0,.int .u64 v3,.int .u64 v4,.int .u64 v5,.slice none 0 0] (fun h6=>
 ∃v7,bj h6 h1 0 v7∧
 ∃v8,ao h6 h1 1 v8∧
 ∃v9,ao h6 h1 2 v9∧
 ∃v10,ao h6 h1 3 v10∧
 ∃v11:SliceV,dI h6 h1 4 v11∧
 K ((v7,v8,v9,v10,v11),0) h6))) (
 CondP (x0==(1:Int)) (
 (fj h2 h1 [.int .i64 1,.int .u64 0,.int .u64 0,.int .u64 0,.slice none 0 0] (fun h12=>
 ∃v13,bj h12 h1 0 v13∧
 ∃v14,ao h12 h1 1 v14∧
 ∃v15,ao h12 h1 2 v15∧
 ∃v16,ao h12 h1 3 v16∧
 ∃v17:SliceV,dI h12 h1 4 v17∧
 K ((v13,v14,v15,v16,v17),0) h12))) (
 (fj h2 h1 Ik (fun h18=>
 ∃v19,bj h18 h1 0 v19∧
 ∃v20,ao h18 h1 1 v20∧
 ∃v21,ao h18 h1 2 v21∧
 ∃v22,ao h18 h1 3 v22∧
 ∃v23:SliceV,dI h18 h1 4 v23∧
 K ((v19,v20,v21,v22,v23),11) h18))))))
theorem GC(x0:Int)(x1:Int×Int×Int){K:cL E3→ad→Prop}{h0:ad}(h:Bs x0 x1 K h0):HC PG wN [.int .i64 x0,Jj x1] E3 K h0:=dJ .nil Tryz.func36 Tryz.call36 rfl rfl (by kernel_rfl) h
def EI(x0:ByteArray)(x1:Int)(K:(ByteArray)→ad→Prop)(h0:ad):Prop:=
 (((0:Int)≤(if 30<(x0.size:Int)then 30 else(x0.size:Int))∧(if 30<(x0.size:Int)then 30 else(x0.size:Int))≤((x0.size:Nat):Int))∧
 Bd (x0.extract 0 ((if 30<(x0.size:Int)then 30 else(x0.size:Int)).toNat):ByteArray) (fun s1=>
 CondP (decide (x1>(0:Int))) (
 (((0:Int)≤x1∧x1≤x1∧x1≤9223372036854775807∧1*x1≤2^48)∧
 At (hnew h0 (dK x1.toNat [.int .u8 0]) cy) (fun h2=>
 ∃s3,SRow h2 (some (aA h0)) x1.toNat (dS s3)∧
 (((s1.size+s3.size:Nat):Int)≤9223372036854775807∧
 K (s1++s3) h2)))) (
 K s1 h0)))
theorem MI(x0:ByteArray)(x1:Int){K:cL [.c .str]→ad→Prop}{h0:ad}(h:EI x0 x1 K h0):HC PG nD (Tl x0 x1) [.c .str] K h0:=dJ .nil Tryz.func37 Tryz.call37 rfl rfl (by kernel_rfl) h
def mK(x0:T6)(x1:Option Addr)(x2:ByteArray)(K:((T6)×Int)→ad→Prop)(h0:ad):Prop:=
 At (hnew h0 (qY x0) bF) (fun h1=>
 At (hnew h1 Aw bF) (fun h2=>
 HC PG oA (gZ x2 (⟨#[]⟩:ByteArray)) cd (fun(e3:Int) h4=>
 CondP (e3 !=(0:Int)) (
 ∃v5,bj h4 h0 0 v5∧
 ∃v6,ao h4 h0 1 v6∧
 ∃v7,ao h4 h0 2 v7∧
 ∃v8,ao h4 h0 3 v8∧
 ∃v9,aI h4 h0 4 v9∧
 ∃v10,aI h4 h0 5 v10∧
 (fj h4 h1 (FH v5 v6 v7 v8 v9 v10) (fun h11=>
 ∃v12,bj h11 h1 0 v12∧
 ∃v13,ao h11 h1 1 v13∧
 ∃v14,ao h11 h1 2 v14∧
 ∃v15,ao h11 h1 3 v15∧
 ∃v16,aI h11 h1 4 v16∧
 ∃v17,aI h11 h1 5 v17∧
 K ((v12,v13,v14,v15,v16,v17),e3) h11))) (
 ∃v18,bj h4 h0 0 v18∧
 ∃v19,ao h4 h0 1 v19∧
 ∃v20,ao h4 h0 2 v20∧
 ∃v21,ao h4 h0 3 v21∧
 ∃v22,aI h4 h0 4 v22∧
 ∃v23,aI h4 h0 5 v23∧
 nv h4 Aw bF (FH v18 v19 v20 v21 v22 v23) (fun h25=>
 Join (fun(t39:Bool) h40=>
 CondP (!t39) (
 ∃v41,bj h40 h4 0 v41∧
 ∃v42,ao h40 h4 1 v42∧
 ∃v43,ao h40 h4 2 v43∧
 ∃v44,ao h40 h4 3 v44∧
 ∃v45,aI h40 h4 4 v45∧
 ∃v46,aI h40 h4 5 v46∧
 (fj h40 h1 (FH v41 v42 v43 v44 v45 v46) (fun h47=>
 ∃v48,bj h47 h1 0 v48∧
 ∃v49,ao h47 h1 1 v49∧
 ∃v50,ao h47 h1 2 v50∧
 ∃v51,ao h47 h1 3 v51∧
 ∃v52,aI h47 h1 4 v52∧
 ∃v53,aI h47 h1 5 v53∧
 K ((v48,v49,v50,v51,v52,v53),4) h47))) (
 ∃v54,bj h40 h0 0 v54∧
 ∃v55,ao h40 h0 1 v55∧
 ∃v56,ao h40 h0 2 v56∧
 ∃v57,ao h40 h0 3 v57∧
 ∃v58,aI h40 h0 4 v58∧
 ∃v59,aI h40 h0 5 v59∧
 (fj h40 h1 (FH v54 v55 v56 v57 v58 v59) (fun h60=>
 ∃v61,bj h60 h1 0 v61∧
 ∃v62,ao h60 h1 1 v62∧
 ∃v63,ao h60 h1 2 v63∧
 ∃v64,ao h60 h1 3 v64∧
 ∃v65,aI h60 h1 4 v65∧
 ∃v66,aI h60 h1 5 v66∧
 K ((v61,v62,v63,v64,v65,v66),0) h60)))) (fun J26=>
 ∃v27,bj h25 h0 0 v27∧
 CondP (v27==(1:Int)) (
 ∃v28,aI h25 h0 5 v28∧
 HC PG uE (NZ x1 v28 x2) jR (fun(e29:(Option Addr)×Bool) h30=>
 (cT h30 (adr (aA h0) 5) (.pointer e29.1) (fun h31=>
 J26 e29.2 h31))) h25) (
 ∃v32,cP h25 (adr (aA h0) 1) 0 v32∧
 ∃v33,cP h25 (adr (aA h0) 1) 1 v33∧
 ∃v34,cP h25 (adr (aA h0) 1) 2 v34∧
 ∃v35,aI h25 h0 4 v35∧
 HC PG uM [tK v32 v33 v34,.pointer x1,.pointer v35,.string x2] jR (fun(e36:(Option Addr)×Bool) h37=>
 (cT h37 (adr (aA h0) 4) (.pointer e36.1) (fun h38=>
 J26 e36.2 h38))) h25))))) h2))
noncomputable def w8:Ann:=.node .nil (.node .nil (.node .nil (.join [(10,.c .bool)] .nil .nil)))
theorem qF(x0:T6)(x1:Option Addr)(x2:ByteArray){K:cL AU→ad→Prop}{h0:ad}(h:mK x0 x1 x2 K h0):HC PG jI [Nk x0,.pointer x1,.string x2] AU K h0:=dJ w8 Tryz.func38 Tryz.call38 rfl rfl (by kernel_rfl) h
def xF(x0:T5)(x1:ByteArray)(K:((T5)×Int)→ad→Prop)(h0:ad):Prop:=
 At (hnew h0 (OD x0) cY) (fun h1=>
 At (hnew h1 Ik cY) (fun h2=>
 CondP (decide ((x1.size:Int)>(256:Int))) (
 ∃v3,bj h2 h0 0 v3∧
 ∃v4,ao h2 h0 1 v4∧
 ∃v5,ao h2 h0 2 v5∧
 ∃v6,ao h2 h0 3 v6∧
 ∃v7:SliceV,dI h2 h0 4 v7∧
 (fj h2 h1 (M4 v3 v4 v5 v6 v7) (fun h8=>
 ∃v9,bj h8 h1 0 v9∧
 ∃v10,ao h8 h1 1 v10∧
 ∃v11,ao h8 h1 2 v11∧
 ∃v12,ao h8 h1 3 v12∧
 ∃v13:SliceV,dI h8 h1 4 v13∧
 K ((v9,v10,v11,v12,v13),2) h8))) (
 ∃v14:SliceV,dI h2 h0 4 v14∧
 HC PG wO (yR v14 x1) kq (fun(e15:ByteArray×Bool) h16=>
 CondP (!e15.2) (
 ∃v17,bj h16 h0 0 v17∧
 ∃v18,ao h16 h0 1 v18∧
 ∃v19,ao h16 h0 2 v19∧
 ∃v20,ao h16 h0 3 v20∧
 ∃v21:SliceV,dI h16 h0 4 v21∧
 (fj h16 h1 (M4 v17 v18 v19 v20 v21) (fun h22=>
 ∃v23,bj h22 h1 0 v23∧
 ∃v24,ao h22 h1 1 v24∧
 ∃v25,ao h22 h1 2 v25∧
 ∃v26,ao h22 h1 3 v26∧
 ∃v27:SliceV,dI h22 h1 4 v27∧
 K ((v23,v24,v25,v26,v27),4) h22))) (
 ∃v28:SliceV,dI h16 h0 4 v28∧
 HC PG uK (yR v28 x1) [.c .slice] (fun(e29:SliceV) h30=>
 (cT h30 (adr (aA h0) 4) (.slice e29.a e29.len e29.cap) (fun h31=>
 ∃v32,bj h31 h0 0 v32∧
 ∃v33,ao h31 h0 1 v33∧
 ∃v34,ao h31 h0 2 v34∧
 ∃v35,ao h31 h0 3 v35∧
 ∃v36:SliceV,dI h31 h0 4 v36∧
 (fj h31 h1 (M4 v32 v33 v34 v35 v36) (fun h37=>
 ∃v38,bj h37 h1 0 v38∧
 ∃v39,ao h37 h1 1 v39∧
 ∃v40,ao h37 h1 2 v40∧
 ∃v41,ao h37 h1 3 v41∧
 ∃v42:SliceV,dI h37 h1 4 v42∧
 K ((v38,v39,v40,v41,v42),0) h37))))) h16)) h2)))
theorem Fp(x0:T5)(x1:ByteArray){K:cL E3→ad→Prop}{h0:ad}(h:xF x0 x1 K h0):HC PG tw [U7 x0,.string x1] E3 K h0:=dJ .nil Tryz.func39 Tryz.call39 rfl rfl (by kernel_rfl) h
def yE(x0:T5)(x1:ByteArray×ByteArray)(K:((T5)×Int)→ad→Prop)(h0:ad):Prop:=
 At (hnew h0 (OD x0) cY) (fun h1=>
 At (hnew h1 (rM x1) bU) (fun h2=>
 At (hnew h2 Ik cY) (fun h3=>
 ∃v4,aw h3 h1 0 v4∧
 ∃v5,aw h3 h1 1 v5∧
 HC PG r7 (gZ v4 v5) cd (fun(e6:Int) h7=>
 CondP (e6 !=(0:Int)) (
 ∃v8,bj h7 h0 0 v8∧
 ∃v9,ao h7 h0 1 v9∧
 ∃v10,ao h7 h0 2 v10∧
 ∃v11,ao h7 h0 3 v11∧
 ∃v12:SliceV,dI h7 h0 4 v12∧
 (fj h7 h2 (M4 v8 v9 v10 v11 v12) (fun h13=>
 ∃v14,bj h13 h2 0 v14∧
 ∃v15,ao h13 h2 1 v15∧
 ∃v16,ao h13 h2 2 v16∧
 ∃v17,ao h13 h2 3 v17∧
 ∃v18:SliceV,dI h13 h2 4 v18∧
 K ((v14,v15,v16,v17,v18),e6) h13))) (
 ∃v19:SliceV,dI h7 h0 4 v19∧
 ∃v20,aw h7 h1 0 v20∧
 ∃v21,aw h7 h1 1 v21∧
 HC PG A4 [.slice v19.a v19.len v19.cap,pn v20 v21] [.c .slice] (fun(e22:SliceV) h23=>
 (cT h23 (adr (aA h0) 4) (.slice e22.a e22.len e22.cap) (fun h24=>
 ∃v25,bj h24 h0 0 v25∧
 ∃v26,ao h24 h0 1 v26∧
 ∃v27,ao h24 h0 2 v27∧
 ∃v28,ao h24 h0 3 v28∧
 ∃v29:SliceV,dI h24 h0 4 v29∧
 (fj h24 h2 (M4 v25 v26 v27 v28 v29) (fun h30=>
 ∃v31,bj h30 h2 0 v31∧
 ∃v32,ao h30 h2 1 v32∧
 ∃v33,ao h30 h2 2 v33∧
 ∃v34,ao h30 h2 3 v34∧
 ∃v35:SliceV,dI h30 h2 4 v35∧
 K ((v31,v32,v33,v34,v35),0) h30))))) h7)) h3)))
theorem El(x0:T5)(x1:ByteArray×ByteArray){K:cL E3→ad→Prop}{h0:ad}(h:yE x0 x1 K h0):HC PG uF [U7 x0,Nj x1] E3 K h0:=dJ .nil Tryz.func40 Tryz.call40 rfl rfl (by kernel_rfl) h
def vl(x0:T6)(x1:ByteArray)(K:(ByteArray×Bool)→ad→Prop)(h0:ad):Prop:=
 At (hnew h0 (qY x0) bF) (fun h1=>
 ∃v2,bj h1 h0 0 v2∧
 CondP (v2==(1:Int)) (
 ∃v3,aI h1 h0 5 v3∧
 HC PG vU (qL v3 x1) kq (fun(e4:ByteArray×Bool) h5=>
 K (e4.1,e4.2) h5) h1) (
 ∃v6,cP h1 (adr (aA h0) 1) 0 v6∧
 ∃v7,cP h1 (adr (aA h0) 1) 1 v7∧
 ∃v8,cP h1 (adr (aA h0) 1) 2 v8∧
 ∃v9,aI h1 h0 4 v9∧
 HC PG wa [tK v6 v7 v8,.pointer v9,.string x1] kq (fun(e10:ByteArray×Bool) h11=>
 K (e10.1,e10.2) h11) h1))
theorem Co(x0:T6)(x1:ByteArray){K:cL kq→ad→Prop}{h0:ad}(h:vl x0 x1 K h0):HC PG qo [Nk x0,.string x1] kq K h0:=dJ .nil Tryz.func41 Tryz.call41 rfl rfl (by kernel_rfl) h
def GG(x0:SliceV)(x1:ByteArray)(K:(ByteArray×Bool)→ad→Prop)(h0:ad):Prop:=
 HC PG yh (yR x0 x1) kW (fun(e1:Int×Bool) h2=>
 CondP (!e1.2) (
 K ((⟨#[]⟩:ByteArray),false) h2) (
 (cD e1.1 x0.len∧∃a3,x0.a=some a3∧
 ∃v4,aQ h2 (adr a3 (e1.1.toNat*2)) 1 v4∧
 K (v4,true) h2))) h0
theorem Pg(x0:SliceV)(x1:ByteArray){K:cL kq→ad→Prop}{h0:ad}(h:GG x0 x1 K h0):HC PG wO (yR x0 x1) kq K h0:=dJ .nil Tryz.func42 Tryz.call42 rfl rfl (by kernel_rfl) h
def ly(x0:T6)(K:(SliceV)→ad→Prop)(h0:ad):Prop:=
 At (hnew h0 (qY x0) bF) (fun h1=>
 ∃v2,bj h1 h0 0 v2∧
 CondP (v2==(1:Int)) (
 ∃v3,aI h1 h0 5 v3∧
 HC PG DU [] OT (fun(e4:ByteArray×ByteArray×Bool) h5=>
 (aI h5 h0 5 v3∧
 HC PG uC [.pointer v3,Hh e4] [.c .slice] (fun(e6:SliceV) h7=>
 K e6 h7) h5)) h1) (
 ∃v8,aI h1 h0 4 v8∧
 HC PG tg [.pointer v8] [.c .slice] (fun(e9:SliceV) h10=>
 K e9 h10) h1))
theorem oF(x0:T6){K:cL [.c .slice]→ad→Prop}{h0:ad}(h:ly x0 K h0):HC PG f9 [Nk x0] [.c .slice] K h0:=dJ .nil Tryz.func66 Tryz.call66 rfl rfl (by kernel_rfl) h
def uU(x0:ByteArray)(x1:ByteArray)(K:(Int)→ad→Prop)(h0:ad):Prop:=
 CondP (decide ((x0.size:Int)>(256:Int))) (
 K 2 h0) (
 CondP (decide ((x1.size:Int)>(4096:Int))) (
 K 3 h0) (
 K 0 h0))
theorem zS(x0:ByteArray)(x1:ByteArray){K:cL cd→ad→Prop}{h0:ad}(h:uU x0 x1 K h0):HC PG oA (gZ x0 x1) cd K h0:=dJ .nil Tryz.func67 Tryz.call67 rfl rfl (by kernel_rfl) h
def ww(x0:ByteArray)(x1:ByteArray)(K:(Int)→ad→Prop)(h0:ad):Prop:=
 CondP (decide ((x0.size:Int)>(256:Int))) (
 K 2 h0) (
 CondP (decide ((x1.size:Int)>(4096:Int))) (
 K 3 h0) (
 K 0 h0))
theorem BX(x0:ByteArray)(x1:ByteArray){K:cL cd→ad→Prop}{h0:ad}(h:ww x0 x1 K h0):HC PG r7 (gZ x0 x1) cd K h0:=dJ .nil Tryz.func70 Tryz.call70 rfl rfl (by kernel_rfl) h
def tZ(x0:T6)(K:(Int)→ad→Prop)(h0:ad):Prop:=
 At (hnew h0 (qY x0) bF) (fun h1=>
 ∃v2,bj h1 h0 0 v2∧
 K v2 h1)
theorem Bf(x0:T6){K:cL cd→ad→Prop}{h0:ad}(h:tZ x0 K h0):HC PG mh [Nk x0] cd K h0:=dJ .nil Tryz.func73 Tryz.call73 rfl rfl (by kernel_rfl) h
def rv(x0:T6)(K:(Int×Int×Int)→ad→Prop)(h0:ad):Prop:=
 At (hnew h0 (qY x0) bF) (fun h1=>
 At (hnew h1 U0 cr) (fun h2=>
 ∃v3,cP h2 (adr (aA h0) 1) 0 v3∧
 ∃v4,cP h2 (adr (aA h0) 1) 1 v4∧
 ∃v5,cP h2 (adr (aA h0) 1) 2 v5∧
 (fj h2 h1 (U3 v3 v4 v5) (fun h6=>
 ∃v7,ao h6 h1 0 v7∧
 ∃v8,ao h6 h1 1 v8∧
 ∃v9,ao h6 h1 2 v9∧
 K (v7,v8,v9) h6))))
theorem yp(x0:T6){K:cL Hq→ad→Prop}{h0:ad}(h:rv x0 K h0):HC PG ny [Nk x0] Hq K h0:=dJ .nil Tryz.func74 Tryz.call74 rfl rfl (by kernel_rfl) h
def B4(x0:Option Addr)(K:(Int)→ad→Prop)(h0:ad):Prop:=
 Join (fun(t4:Int) h5=>
 HC PG lq [.pointer x0] [.c .slice] (fun(e6:SliceV) h7=>
 LoopP (fun I8 (t9:Int×Int) h10=>
 CondP (decide (t9.2<(e6.len:Int))) (
 (cD t9.2 e6.len∧∃a11,e6.a=some a11∧
 ∃v12,bl h10 a11 (t9.2.toNat*1) (.pointer v12)∧
 HC PG rZ [.pointer v12] cd (fun(e13:Int) h14=>
 I8 (IntKind.wrap .i64 (t9.1+e13),IntKind.wrap .i64 (t9.2+1)) h14) h10)) (
 K t9.1 h10)) (t4,0) h7) h5) (fun J1=>
 HC PG gG [.pointer x0] kq (fun(e2:ByteArray×Bool) h3=>
 CondP e2.2 (
 J1 1 h3) (
 J1 0 h3)) h0)
noncomputable def Kz:Ann:=.node .nil (.node .nil (.join [(3,.c (.int .i64))] .nil (.node (.node .nil (.loop [(3,.c (.int .i64)),(17,.c (.int .i64))] .nil)) .nil)))
theorem Kd(x0:Option Addr){K:cL cd→ad→Prop}{h0:ad}(h:B4 x0 K h0):HC PG rZ [.pointer x0] cd K h0:=dJ Kz Tryz.func75 Tryz.call75 rfl rfl (by kernel_rfl) h
def sP(x0:Option Addr)(K:(Int)→ad→Prop)(h0:ad):Prop:=
 HC PG eS [.pointer x0] [.c .slice] (fun(e1:SliceV) h2=>
 HC PG jT [.pointer x0] [.c .slice] (fun(e3:SliceV) h4=>
 LoopP (fun I5 (t6:Int×Int) h7=>
 CondP (decide (t6.2<(e3.len:Int))) (
 (cD t6.2 e3.len∧∃a8,e3.a=some a8∧
 ∃v9,bl h7 a8 (t6.2.toNat*1) (.pointer v9)∧
 HC PG r8 [.pointer v9] cd (fun(e10:Int) h11=>
 I5 (IntKind.wrap .i64 (t6.1+e10),IntKind.wrap .i64 (t6.2+1)) h11) h7)) (
 K t6.1 h7)) ((e1.len:Int),0) h4) h2) h0
noncomputable def KE:Ann:=.node .nil (.node .nil (.node (.node .nil (.loop [(3,.c (.int .i64)),(12,.c (.int .i64))] .nil)) .nil))
theorem wp(x0:Option Addr){K:cL cd→ad→Prop}{h0:ad}(h:sP x0 K h0):HC PG r8 [.pointer x0] cd K h0:=dJ KE Tryz.func76 Tryz.call76 rfl rfl (by kernel_rfl) h
def xC(x0:Option Addr)(K:(SliceV)→ad→Prop)(h0:ad):Prop:=
 CondP x0.isNone (
 K ⟨none,0,0⟩ h0) (
 HC PG jK [.pointer x0,.slice none 0 0] [.c .slice] (fun(e1:SliceV) h2=>
 K e1 h2) h0)
theorem Fj(x0:Option Addr){K:cL [.c .slice]→ad→Prop}{h0:ad}(h:xC x0 K h0):HC PG tq [.pointer x0] [.c .slice] K h0:=dJ .nil Tryz.func79 Tryz.call79 rfl rfl (by kernel_rfl) h
def Ev(x0:Option Addr)(K:(SliceV)→ad→Prop)(h0:ad):Prop:=
 CondP x0.isNone (
 K ⟨none,0,0⟩ h0) (
 HC PG rY [.slice none 0 0,.pointer x0,.int .i64 0] [.c .slice] (fun(e1:SliceV) h2=>
 K e1 h2) h0)
theorem My(x0:Option Addr){K:cL [.c .slice]→ad→Prop}{h0:ad}(h:Ev x0 K h0):HC PG ye [.pointer x0] [.c .slice] K h0:=dJ .nil Tryz.func80 Tryz.call80 rfl rfl (by kernel_rfl) h
def B7(x0:Option Addr)(K:(SliceV)→ad→Prop)(h0:ad):Prop:=
 ∃a1,x0=some a1∧
 ∃v2,aQ h0 a1 0 v2∧
 HC PG pz [.string v2] [.c .slice] (fun(e3:SliceV) h4=>
 Join (fun(t23:SliceV) h24=>
 Join (fun(t33:SliceV) h34=>
 ∃a35,x0=some a35∧
 ∃v36:SliceV,bC h34 a35 3 v36∧
 LoopP (fun I37 (t38:SliceV×Int) h39=>
 CondP (decide (t38.2<(v36.len:Int))) (
 Join (fun(t48:SliceV) h49=>
 I37 (t48,IntKind.wrap .i64 (t38.2+1)) h49) (fun J40=>
 (cD t38.2 v36.len∧∃a41,v36.a=some a41∧
 ∃v42,bl h39 a41 (t38.2.toNat*1) (.pointer v42)∧
 HC PG r6 [.pointer v42] [.c .slice] (fun(e43:SliceV) h44=>
 ∃xs45,SRow h44 e43.a (e43.len*1) xs45∧
 AppP (some [.int .u8 0]) 1 1 cy t38.1.a t38.1.len t38.1.cap e43.len xs45 h44 (fun s46 h47=>
 J40 s46 h47)) h39))) (
 K t38.1 h39)) (t33,0) h34) (fun J25=>
 ∃a26,x0=some a26∧
 ∃v27:SliceV,bC h24 a26 3 v27∧
 HC PG q9 [.int .i64 (v27.len:Int)] [.c .slice] (fun(e28:SliceV) h29=>
 ∃xs30,SRow h29 e28.a (e28.len*1) xs30∧
 AppP (some [.int .u8 0]) 1 1 cy t23.a t23.len t23.cap e28.len xs30 h29 (fun s31 h32=>
 J25 s31 h32)) h24)) (fun J5=>
 ∃a6,x0=some a6∧
 ∃v7,dT h4 a6 1 v7∧
 CondP v7 (
 ∃a8,x0=some a8∧
 ∃v9,aQ h4 a8 2 v9∧
 At (hnew h4 [.int .u8 1] cy) (fun h10=>
 (aQ h10 a8 2 v9∧
 ∃xs11,SRow h10 (some (aA h4)) (1*1) xs11∧
 AppP (some [.int .u8 0]) 1 1 cy e3.a e3.len e3.cap 1 xs11 h10 (fun s12 h13=>
 (aQ h13 a8 2 v9∧
 HC PG pz [.string v9] [.c .slice] (fun(e14:SliceV) h15=>
 ∃xs16,SRow h15 e14.a (e14.len*1) xs16∧
 AppP (some [.int .u8 0]) 1 1 cy s12.a s12.len s12.cap e14.len xs16 h15 (fun s17 h18=>
 J5 s17 h18)) h13))))) (
 At (hnew h4 [.int .u8 0] cy) (fun h19=>
 ∃xs20,SRow h19 (some (aA h4)) (1*1) xs20∧
 AppP (some [.int .u8 0]) 1 1 cy e3.a e3.len e3.cap 1 xs20 h19 (fun s21 h22=>
 J5 s21 h22))))) h0
noncomputable def KB:Ann:=.node .nil (.node .nil (.join [(3,.c .slice)] .nil (.join [(3,.c .slice)] .nil (.node (.node .nil (.loop [(3,.c .slice),(40,.c (.int .i64))] (.node .nil (.node .nil (.join [(3,.c .slice)] .nil .nil))))) .nil))))
theorem Kg(x0:Option Addr){K:cL [.c .slice]→ad→Prop}{h0:ad}(h:B7 x0 K h0):HC PG r6 [.pointer x0] [.c .slice] K h0:=dJ KB Tryz.func81 Tryz.call81 rfl rfl (by kernel_rfl) h
def Ks(x0:SliceV)(K:(Option Addr)→ad→Prop)(h0:ad):Prop:=
 At (hnew h0 Uk nn) (fun h1=>
 Join (fun(t14:SliceV) h15=>
 HC PG qR [.slice t14.a t14.len t14.cap] [.c .slice] (fun(e16:SliceV) h17=>
 ∃a18,some (aA h0)=some a18∧
 (cT h17 (adr a18 3) (.slice e16.a e16.len e16.cap) (fun h19=>
 K (some (aA h0)) h19))) h15) (fun J2=>
 Join (fun(t6:Bool) h7=>
 CondP t6 (
 (cD 0 x0.len∧∃a8,x0.a=some a8∧
 ∃v9,aQ h7 (adr a8 ((0:Int).toNat*2)) 1 v9∧
 ∃a10,some (aA h0)=some a10∧
 (cT h7 (adr a10 1) (.bool true) (fun h11=>
 ∃a12,some (aA h0)=some a12∧
 (cT h11 (adr a12 2) (.string v9) (fun h13=>
 (((0:Int)≤(1:Int)∧(1:Int)≤((x0.len:Nat):Int))∧
 J2 ⟨aV x0.a ((1:Int).toNat) x0.cap 2,x0.len-((1:Int).toNat),x0.cap-((1:Int).toNat)⟩ h13))))))) (
 J2 x0 h7)) (fun J3=>
 CondP (decide ((x0.len:Int)>(0:Int))) (
 (cD 0 x0.len∧∃a4,x0.a=some a4∧
 ∃v5,aQ h1 (adr a4 ((0:Int).toNat*2)) 0 v5∧
 J3 (v5.toList==(⟨#[]⟩:ByteArray).toList) h1)) (
 J3 false h1))))
noncomputable def Rm:Ann:=.node .nil (.node .nil (.join [(0,.c .slice)] (.join [(15,.c .bool)] .nil .nil) .nil))
theorem Rf(x0:SliceV){K:cL [.c .ptr]→ad→Prop}{h0:ad}(h:Ks x0 K h0):HC PG DW [.slice x0.a x0.len x0.cap] [.c .ptr] K h0:=dJ Rm Tryz.func82 Tryz.call82 rfl rfl (by kernel_rfl) h
def Ez(x0:Option Addr)(x1:Int)(K:(SliceV)→ad→Prop)(h0:ad):Prop:=
 ∃a1,x0=some a1∧
 ∃v2,dT h0 a1 0 v2∧
 CondP v2 (
 ∃a3,x0=some a3∧
 ∃v4:SliceV,bC h0 a3 1 v4∧
 ∃a5,x0=some a5∧
 ∃v6:SliceV,bC h0 a5 1 v6∧
 ((At (hnew h0 [.int .u8 1] cy) (fun h7=>
 (bC h7 a5 1 v6∧
 (bC h7 a3 1 v4∧
 HC PG q9 [.int .i64 (v4.len:Int)] [.c .slice] (fun(e8:SliceV) h9=>
 (bC h9 a5 1 v6∧
 (bC h9 a3 1 v4∧
 ∃xs10,SRow h9 e8.a (e8.len*1) xs10∧
 AppP (some [.int .u8 0]) 1 1 cy (some (aA h0)) 1 1 e8.len xs10 h9 (fun s11 h12=>
 (bC h12 a5 1 v6∧
 (bC h12 a3 1 v4∧
 HC PG p6 [.slice v6.a v6.len v6.cap] [.c .slice] (fun(e13:SliceV) h14=>
 (bC h14 a3 1 v4∧
 ∃xs15,SRow h14 e13.a (e13.len*1) xs15∧
 AppP (some [.int .u8 0]) 1 1 cy s11.a s11.len s11.cap e13.len xs15 h14 (fun s16 h17=>
 (bC h17 a3 1 v4∧
 K s16 h17)))) h12)))))) h7))))∧
 HC PG q9 [.int .i64 (v4.len:Int)] [.c .slice] (fun(e18:SliceV) h19=>
 (bC h19 a5 1 v6∧
 (bC h19 a3 1 v4∧
 At (hnew h19 [.int .u8 1] cy) (fun h20=>
 (bC h20 a5 1 v6∧
 (bC h20 a3 1 v4∧
 ∃xs21,SRow h20 e18.a (e18.len*1) xs21∧
 AppP (some [.int .u8 0]) 1 1 cy (some (aA h19)) 1 1 e18.len xs21 h20 (fun s22 h23=>
 (bC h23 a5 1 v6∧
 (bC h23 a3 1 v4∧
 HC PG p6 [.slice v6.a v6.len v6.cap] [.c .slice] (fun(e24:SliceV) h25=>
 (bC h25 a3 1 v4∧
 ∃xs26,SRow h25 e24.a (e24.len*1) xs26∧
 AppP (some [.int .u8 0]) 1 1 cy s22.a s22.len s22.cap e24.len xs26 h25 (fun s27 h28=>
 (bC h28 a3 1 v4∧
 K s27 h28)))) h23))))))))) h0)) (
 LoopP (fun I29 (t30:Int×Int×SliceV×SliceV×Int×Int) h31=>
 CondP (decide (t30.2.2.2.2.2<(32:Int))) (
 Join (fun(t42:Int×SliceV) h43=>
 Join (fun(t54:Int×SliceV) h55=>
 I29 (t42.1,t54.1,t42.2,t54.2,IntKind.wrap .u32 (t30.2.2.2.2.1*2),IntKind.wrap .i64 (t30.2.2.2.2.2+1)) h55) (fun J44=>
 ∃a45,x0=some a45∧
 (cD t30.2.2.2.2.2 32∧
 ∃v46,bl h43 (adr a45 2) (t30.2.2.2.2.2.toNat*1) (.int .i64 v46)∧
 CondP (v46==(2:Int)) (
 CondP (decide (x1<(13:Int))) (
 ∃a47,x0=some a47∧
 (cD t30.2.2.2.2.2 32∧
 ∃v48,bl h43 (adr a47 98) (t30.2.2.2.2.2.toNat*1) (.pointer v48)∧
 HC PG zu (un v48 (IntKind.wrap .i64 (x1+1))) [.c .slice] (fun(e49:SliceV) h50=>
 ∃xs51,SRow h50 e49.a (e49.len*1) xs51∧
 AppP (some [.int .u8 0]) 1 1 cy t30.2.2.2.1.a t30.2.2.2.1.len t30.2.2.2.1.cap e49.len xs51 h50 (fun s52 h53=>
 J44 (IntKind.wrap .u32 (t30.2.1+t30.2.2.2.2.1),s52) h53)) h43)) (
 J44 (IntKind.wrap .u32 (t30.2.1+t30.2.2.2.2.1),t30.2.2.2.1) h43)) (
 J44 (t30.2.1,t30.2.2.2.1) h43)))) (fun J32=>
 ∃a33,x0=some a33∧
 (cD t30.2.2.2.2.2 32∧
 ∃v34,bl h31 (adr a33 2) (t30.2.2.2.2.2.toNat*1) (.int .i64 v34)∧
 CondP (v34==(1:Int)) (
 ∃a35,x0=some a35∧
 (cD t30.2.2.2.2.2 32∧
 ∃v36,aQ h31 (adr (adr a35 34) (t30.2.2.2.2.2.toNat*2)) 0 v36∧
 ∃v37,aQ h31 (adr (adr a35 34) (t30.2.2.2.2.2.toNat*2)) 1 v37∧
 At (hnew h31 (gZ v36 v37) bU) (fun h38=>
 ∃xs39,SRow h38 (some (aA h31)) (1*2) xs39∧
 AppP (some jN) 2 32 bU t30.2.2.1.a t30.2.2.1.len t30.2.2.1.cap 1 xs39 h38 (fun s40 h41=>
 J32 (IntKind.wrap .u32 (t30.1+t30.2.2.2.2.1),s40) h41)))) (
 J32 (t30.1,t30.2.2.1) h31)))) (
 Join (fun(t63:SliceV) h64=>
 Join (fun(t71:SliceV) h72=>
 Join (fun(t79:SliceV) h80=>
 ∃xs81,SRow h80 t30.2.2.2.1.a (t30.2.2.2.1.len*1) xs81∧
 AppP (some [.int .u8 0]) 1 1 cy t79.a t79.len t79.cap t30.2.2.2.1.len xs81 h80 (fun s82 h83=>
 K s82 h83)) (fun J73=>
 HC PG p6 [.slice t30.2.2.1.a t30.2.2.1.len t30.2.2.1.cap] [.c .slice] (fun(e74:SliceV) h75=>
 ∃xs76,SRow h75 e74.a (e74.len*1) xs76∧
 AppP (some [.int .u8 0]) 1 1 cy t71.a t71.len t71.cap e74.len xs76 h75 (fun s77 h78=>
 J73 s77 h78)) h72)) (fun J65=>
 HC PG uI [.int .u32 t30.2.1] [.c .slice] (fun(e66:SliceV) h67=>
 ∃xs68,SRow h67 e66.a (e66.len*1) xs68∧
 AppP (some [.int .u8 0]) 1 1 cy t63.a t63.len t63.cap e66.len xs68 h67 (fun s69 h70=>
 J65 s69 h70)) h64)) (fun J56=>
 At (hnew h31 [.int .u8 0] cy) (fun h57=>
 HC PG uI [.int .u32 t30.1] [.c .slice] (fun(e58:SliceV) h59=>
 ∃xs60,SRow h59 e58.a (e58.len*1) xs60∧
 AppP (some [.int .u8 0]) 1 1 cy (some (aA h31)) 1 1 e58.len xs60 h59 (fun s61 h62=>
 J56 s61 h62)) h57)))) (0,0,⟨none,0,0⟩,⟨none,0,0⟩,1,0) h0)
noncomputable def Rn:Ann:=.node .nil (.node .nil (.node .nil (.node .nil (.node .nil (.node .nil (.node (.node .nil (.loop [(5,.c (.int .u32)),(6,.c (.int .u32)),(7,.c .slice),(8,.c .slice),(9,.c (.int .u32)),(10,.c (.int .i64))] (.node .nil (.node (.join [(5,.c (.int .u32)),(7,.c .slice)] .nil (.join [(6,.c (.int .u32)),(8,.c .slice)] .nil .nil)) .nil)))) (.join [(11,.c .slice)] .nil (.join [(11,.c .slice)] .nil (.join [(11,.c .slice)] .nil .nil)))))))))
theorem Ki(x0:Option Addr)(x1:Int){K:cL [.c .slice]→ad→Prop}{h0:ad}(h:Ez x0 x1 K h0):HC PG zu (un x0 x1) [.c .slice] K h0:=dJ Rn Tryz.func83 Tryz.call83 rfl rfl (by kernel_rfl) h
def Kt(x0:Int×Int×Int)(x1:SliceV)(x2:Int)(K:(Option Addr)→ad→Prop)(h0:ad):Prop:=
 At (hnew h0 (yM x0) qM) (fun h1=>
 LoopP (fun I2 (t3:SliceV×Int) h4=>
 CondP (decide (t3.2<(x1.len:Int))) (
 Join (fun(t21:SliceV) h22=>
 I2 (t21,IntKind.wrap .i64 (t3.2+1)) h22) (fun J5=>
 (cD t3.2 x1.len∧∃a6,x1.a=some a6∧
 ∃v7,aQ h4 (adr a6 (t3.2.toNat*2)) 0 v7∧
 ∃v8,aQ h4 (adr a6 (t3.2.toNat*2)) 1 v8∧
 nv h4 jN bU (gZ v7 v8) (fun h10=>
 ∃v11,ao h10 h0 0 v11∧
 ∃v12,ao h10 h0 1 v12∧
 ∃v13,ao h10 h0 2 v13∧
 ∃v14,aw h10 h4 0 v14∧
 HC PG yg [tK v11 v12 v13,.string v14] g5 (fun(e15:Int) h16=>
 At (hnew h16 [.int .u64 e15] nZ) (fun h17=>
 ∃xs18,SRow h17 (some (aA h16)) (1*1) xs18∧
 AppP (some [.int .u64 0]) 1 8 nZ t3.1.a t3.1.len t3.1.cap 1 xs18 h17 (fun s19 h20=>
 J5 s19 h20))) h10)))) (
 HC PG zv (N3 x1 t3.1 x2) [.c .ptr] (fun(e23:Option Addr) h24=>
 K e23 h24) h4)) (⟨none,0,0⟩,0) h1)
noncomputable def Rp:Ann:=.node .nil (.node .nil (.node (.node .nil (.loop [(7,.c .slice),(12,.c (.int .i64))] (.node .nil (.node .nil (.join [(7,.c .slice)] .nil .nil))))) .nil))
theorem Rh(x0:Int×Int×Int)(x1:SliceV)(x2:Int){K:cL [.c .ptr]→ad→Prop}{h0:ad}(h:Kt x0 x1 x2 K h0):HC PG DX [Jj x0,.slice x1.a x1.len x1.cap,.int .i64 x2] [.c .ptr] K h0:=dJ Rp Tryz.func84 Tryz.call84 rfl rfl (by kernel_rfl) h
def xE(x0:Option Addr)(K:(Bool)→ad→Prop)(h0:ad):Prop:=
 CondP (!(x0.isNone)) (
 ∃a1,x0=some a1∧
 ∃v2,aQ h0 a1 0 v2∧
 CondP (v2.toList==(⟨#[]⟩:ByteArray).toList) (
 HC PG kr [.pointer x0] [.c .bool] (fun(e3:Bool) h4=>
 CondP e3 (
 ∃a5,x0=some a5∧
 ∃v6:SliceV,bC h4 a5 3 v6∧
 HC PG cI [.slice v6.a v6.len v6.cap,.func (.func ve) #[] #[]] [.c .bool] (fun(e7:Bool) h8=>
 K (!e7) h8) h4) (
 K false h4)) h0) (
 K false h0)) (
 K false h0)
theorem Fm(x0:Option Addr){K:cL [.c .bool]→ad→Prop}{h0:ad}(h:xE x0 K h0):HC PG tu [.pointer x0] [.c .bool] K h0:=dJ .nil Tryz.func85 Tryz.call85 rfl rfl (by kernel_rfl) h
def tH(x0:Int×Int×Int)(x1:Option Addr)(K:(Bool)→ad→Prop)(h0:ad):Prop:=
 At (hnew h0 (yM x0) cr) (fun h1=>
 CondP x1.isNone (
 K false h1) (
 ∃v2,ao h1 h0 0 v2∧
 ∃v3,ao h1 h0 1 v3∧
 ∃v4,ao h1 h0 2 v4∧
 HC PG mU [tK v2 v3 v4,.pointer x1,.slice none 0 0] kW (fun(e5:Int×Bool) h6=>
 K e5.2 h6) h1))
theorem xt(x0:Int×Int×Int)(x1:Option Addr){K:cL [.c .bool]→ad→Prop}{h0:ad}(h:tH x0 x1 K h0):HC PG xn [Jj x0,.pointer x1] [.c .bool] K h0:=dJ .nil Tryz.func86 Tryz.call86 rfl rfl (by kernel_rfl) h
def tI(K:(Option Addr)→ad→Prop)(h0:ad):Prop:=
 HC PG oC [] [.c .ptr] (fun(e1:Option Addr) h2=>
 K e1 h2) h0
theorem xu{K:cL [.c .ptr]→ad→Prop}{h0:ad}(h:tI K h0):HC PG mW [] [.c .ptr] K h0:=dJ .nil Tryz.func87 Tryz.call87 rfl rfl (by kernel_rfl) h
def xD(K:(Option Addr)→ad→Prop)(h0:ad):Prop:=
 At (hnew h0 Ip bT) (fun h1=>
 K (some (aA h0)) h1)
theorem Fl{K:cL [.c .ptr]→ad→Prop}{h0:ad}(h:xD K h0):HC PG pR [] [.c .ptr] K h0:=dJ .nil Tryz.func88 Tryz.call88 rfl rfl (by kernel_rfl) h
def B0(x0:Option Addr)(x1:Option Addr)(x2:ByteArray×ByteArray)(K:((Option Addr)×Bool)→ad→Prop)(h0:ad):Prop:=
 At (hnew h0 (rM x2) aj) (fun h1=>
 ∃v2,aw h1 h0 0 v2∧
 ∃v3,aw h1 h0 1 v3∧
 HC PG ox [.pointer x1] [.c .ptr] (fun(e4:Option Addr) h5=>
 (aw h5 h0 1 v3∧
 (aw h5 h0 0 v2∧
 HC PG mo (PI e4 x0 v2 v3) rV (fun(e6:(Option Addr)×Bool×Bool) h7=>
 K (e6.1,e6.2.1) h7) h5))) h1)
theorem Kc(x0:Option Addr)(x1:Option Addr)(x2:ByteArray×ByteArray){K:cL jR→ad→Prop}{h0:ad}(h:B0 x0 x1 x2 K h0):HC PG vT [.pointer x0,.pointer x1,Nj x2] jR K h0:=dJ .nil Tryz.func89 Tryz.call89 rfl rfl (by kernel_rfl) h
def Ce(x0:Int×Int×Int)(x1:Option Addr)(x2:Option Addr)(x3:ByteArray×ByteArray)(K:((Option Addr)×Bool)→ad→Prop)(h0:ad):Prop:=
 At (hnew h0 (yM x0) cr) (fun h1=>
 At (hnew h1 (rM x3) aj) (fun h2=>
 ∃v3,ao h2 h0 0 v3∧
 ∃v4,ao h2 h0 1 v4∧
 ∃v5,ao h2 h0 2 v5∧
 ∃v6,aw h2 h1 0 v6∧
 ∃v7,ao h2 h0 0 v7∧
 ∃v8,ao h2 h0 1 v8∧
 ∃v9,ao h2 h0 2 v9∧
 ∃v10,aw h2 h1 0 v10∧
 ((HC PG eo [tK v7 v8 v9,.string v10] g5 (fun(e11:Int) h12=>
 (aw h12 h1 0 v6∧
 ((ao h12 h0 0 v3∧ao h12 h0 1 v4∧ao h12 h0 2 v5)∧
 At (hnew h12 Tj cK) (fun h13=>
 (aw h13 h1 0 v6∧
 ((ao h13 h0 0 v3∧ao h13 h0 1 v4∧ao h13 h0 2 v5)∧
 (fj h13 h12 (Tq v3 v4 v5 x1 v6 e11) (fun h14=>
 ∃v15,ao h14 h12 0 v15∧
 ∃v16,ao h14 h12 1 v16∧
 ∃v17,ao h14 h12 2 v17∧
 ∃v18,aI h14 h12 3 v18∧
 ∃v19,aw h14 h12 4 v19∧
 ∃v20,ao h14 h12 5 v20∧
 ∃v21,aw h14 h1 0 v21∧
 ∃v22,aw h14 h1 1 v22∧
 HC PG kz [.pointer x2] [.c .ptr] (fun(e23:Option Addr) h24=>
 ((aw h24 h1 0 v21∧aw h24 h1 1 v22)∧
 ((ao h24 h12 0 v15∧ao h24 h12 1 v16∧ao h24 h12 2 v17∧aI h24 h12 3 v18∧aw h24 h12 4 v19∧ao h24 h12 5 v20)∧
 HC PG iM [xM v15 v16 v17 v18 v19 v20,.pointer e23,pn v21 v22,.int .i64 0] rV (fun(e25:(Option Addr)×Bool×Bool) h26=>
 K (e25.1,e25.2.1) h26) h24))) h14)))))))) h2)∧
 At (hnew h2 Tj cK) (fun h27=>
 (aw h27 h1 0 v10∧
 ((ao h27 h0 0 v7∧ao h27 h0 1 v8∧ao h27 h0 2 v9)∧
 (aw h27 h1 0 v6∧
 ((ao h27 h0 0 v3∧ao h27 h0 1 v4∧ao h27 h0 2 v5)∧
 HC PG eo [tK v7 v8 v9,.string v10] g5 (fun(e28:Int) h29=>
 (aw h29 h1 0 v6∧
 ((ao h29 h0 0 v3∧ao h29 h0 1 v4∧ao h29 h0 2 v5)∧
 (fj h29 h2 (Tq v3 v4 v5 x1 v6 e28) (fun h30=>
 ∃v31,ao h30 h2 0 v31∧
 ∃v32,ao h30 h2 1 v32∧
 ∃v33,ao h30 h2 2 v33∧
 ∃v34,aI h30 h2 3 v34∧
 ∃v35,aw h30 h2 4 v35∧
 ∃v36,ao h30 h2 5 v36∧
 ∃v37,aw h30 h1 0 v37∧
 ∃v38,aw h30 h1 1 v38∧
 HC PG kz [.pointer x2] [.c .ptr] (fun(e39:Option Addr) h40=>
 ((aw h40 h1 0 v37∧aw h40 h1 1 v38)∧
 ((ao h40 h2 0 v31∧ao h40 h2 1 v32∧ao h40 h2 2 v33∧aI h40 h2 3 v34∧aw h40 h2 4 v35∧ao h40 h2 5 v36)∧
 HC PG iM [xM v31 v32 v33 v34 v35 v36,.pointer e39,pn v37 v38,.int .i64 0] rV (fun(e41:(Option Addr)×Bool×Bool) h42=>
 K (e41.1,e41.2.1) h42) h40))) h30))))) h27))))))))
noncomputable def KD:Ann:=.node .nil (.node (.draw (U9 0 7 (.all (.pick 7 (.take 8 (.all (.lastT 9 (.all (.lastT 10 (.done)))))) (.last 9 (.all (.lastT 7 (.take 8 (.all (.lastT 10 (.done))))))))))) (.node (.draw (Vu [0,1,3] (.all (.lastT 2 (.all (.lastT 4 (U9 5 7 (.done)))))))) .nil))
theorem Kq(x0:Int×Int×Int)(x1:Option Addr)(x2:Option Addr)(x3:ByteArray×ByteArray){K:cL jR→ad→Prop}{h0:ad}(h:Ce x0 x1 x2 x3 K h0):HC PG vZ [Jj x0,.pointer x1,.pointer x2,Nj x3] jR K h0:=dJ KD Tryz.func90 Tryz.call90 rfl rfl (by kernel_rfl) h
def Af(x0:Option Addr)(x1:Option Addr)(x2:ByteArray)(K:((Option Addr)×Bool)→ad→Prop)(h0:ad):Prop:=
 HC PG ox [.pointer x1] [.c .ptr] (fun(e1:Option Addr) h2=>
 HC PG ll (NZ e1 x0 x2) jR (fun(e3:(Option Addr)×Bool) h4=>
 K (e3.1,e3.2) h4) h2) h0
theorem H3(x0:Option Addr)(x1:Option Addr)(x2:ByteArray){K:cL jR→ad→Prop}{h0:ad}(h:Af x0 x1 x2 K h0):HC PG uE (NZ x0 x1 x2) jR K h0:=dJ .nil Tryz.func91 Tryz.call91 rfl rfl (by kernel_rfl) h
def An(x0:Int×Int×Int)(x1:Option Addr)(x2:Option Addr)(x3:ByteArray)(K:((Option Addr)×Bool)→ad→Prop)(h0:ad):Prop:=
 At (hnew h0 (yM x0) cr) (fun h1=>
 HC PG kz [.pointer x2] [.c .ptr] (fun(e2:Option Addr) h3=>
 ∃v4,ao h3 h0 0 v4∧
 ∃v5,ao h3 h0 1 v5∧
 ∃v6,ao h3 h0 2 v6∧
 ∃v7,ao h3 h0 0 v7∧
 ∃v8,ao h3 h0 1 v8∧
 ∃v9,ao h3 h0 2 v9∧
 HC PG eo [tK v7 v8 v9,.string x3] g5 (fun(e10:Int) h11=>
 ((ao h11 h0 0 v4∧ao h11 h0 1 v5∧ao h11 h0 2 v6)∧
 HC PG lw [xM v4 v5 v6 x1 x3 e10,.pointer e2,.int .i64 0] jR (fun(e12:(Option Addr)×Bool) h13=>
 K (e12.1,e12.2) h13) h11)) h3) h1)
noncomputable def Ij:Ann:=.node .nil (.node .nil (.node (.draw (Vu [0,1,2,3,4,7] (.all (.lastT 5 (.take 6 (.all (.lastT 8 (U9 9 4 (.done))))))))) .nil))
theorem Ib(x0:Int×Int×Int)(x1:Option Addr)(x2:Option Addr)(x3:ByteArray){K:cL jR→ad→Prop}{h0:ad}(h:An x0 x1 x2 x3 K h0):HC PG uM [Jj x0,.pointer x1,.pointer x2,.string x3] jR K h0:=dJ Ij Tryz.func92 Tryz.call92 rfl rfl (by kernel_rfl) h
def EF(x0:SliceV)(x1:ByteArray)(K:(SliceV)→ad→Prop)(h0:ad):Prop:=
 LoopP (fun I1 (t2:SliceV×Int) h3=>
 CondP (decide (t2.2<(x0.len:Int))) (
 Join (fun(t17:SliceV) h18=>
 I1 (t17,IntKind.wrap .i64 (t2.2+1)) h18) (fun J4=>
 (cD t2.2 x0.len∧∃a5,x0.a=some a5∧
 ∃v6,aQ h3 (adr a5 (t2.2.toNat*2)) 0 v6∧
 ∃v7,aQ h3 (adr a5 (t2.2.toNat*2)) 1 v7∧
 nv h3 jN bU (gZ v6 v7) (fun h9=>
 ∃v10,aw h9 h3 0 v10∧
 CondP (!(v10.toList==x1.toList)) (
 ∃v11,aw h9 h3 0 v11∧
 ∃v12,aw h9 h3 1 v12∧
 At (hnew h9 (gZ v11 v12) bU) (fun h13=>
 ∃xs14,SRow h13 (some (aA h9)) (1*2) xs14∧
 AppP (some jN) 2 32 bU t2.1.a t2.1.len t2.1.cap 1 xs14 h13 (fun s15 h16=>
 J4 s15 h16))) (
 J4 t2.1 h9))))) (
 K t2.1 h3)) (⟨none,0,0⟩,0) h0
noncomputable def MS:Ann:=.node .nil (.node .nil (.node (.node .nil (.loop [(5,.c .slice),(10,.c (.int .i64))] (.node .nil (.node .nil (.join [(5,.c .slice)] .nil .nil))))) .nil))
theorem MF(x0:SliceV)(x1:ByteArray){K:cL [.c .slice]→ad→Prop}{h0:ad}(h:EF x0 x1 K h0):HC PG uK (yR x0 x1) [.c .slice] K h0:=dJ MS Tryz.func93 Tryz.call93 rfl rfl (by kernel_rfl) h
def GF(x0:SliceV)(x1:ByteArray×ByteArray)(K:(SliceV)→ad→Prop)(h0:ad):Prop:=
 At (hnew h0 (rM x1) bU) (fun h1=>
 ∃v2,aw h1 h0 0 v2∧
 HC PG uK (yR x0 v2) [.c .slice] (fun(e3:SliceV) h4=>
 LoopP (fun I5 (t6:SliceV×Bool×Int) h7=>
 CondP (decide (t6.2.2<(e3.len:Int))) (
 Join (fun(t36:SliceV×Bool) h37=>
 I5 (t36.1,t36.2,IntKind.wrap .i64 (t6.2.2+1)) h37) (fun J8=>
 (cD t6.2.2 e3.len∧∃a9,e3.a=some a9∧
 ∃v10,aQ h7 (adr a9 (t6.2.2.toNat*2)) 0 v10∧
 ∃v11,aQ h7 (adr a9 (t6.2.2.toNat*2)) 1 v11∧
 nv h7 jN bU (gZ v10 v11) (fun h13=>
 Join (fun(t28:SliceV×Bool) h29=>
 ∃v30,aw h29 h7 0 v30∧
 ∃v31,aw h29 h7 1 v31∧
 At (hnew h29 (gZ v30 v31) bU) (fun h32=>
 ∃xs33,SRow h32 (some (aA h29)) (1*2) xs33∧
 AppP (some jN) 2 32 bU t28.1.a t28.1.len t28.1.cap 1 xs33 h32 (fun s34 h35=>
 J8 (s34,t28.2) h35))) (fun J14=>
 Join (fun(t20:Bool) h21=>
 CondP t20 (
 ∃v22,aw h21 h0 0 v22∧
 ∃v23,aw h21 h0 1 v23∧
 At (hnew h21 (gZ v22 v23) bU) (fun h24=>
 ∃xs25,SRow h24 (some (aA h21)) (1*2) xs25∧
 AppP (some jN) 2 32 bU t6.1.a t6.1.len t6.1.cap 1 xs25 h24 (fun s26 h27=>
 J14 (s26,true) h27))) (
 J14 (t6.1,t6.2.1) h21)) (fun J15=>
 CondP (!t6.2.1) (
 ∃v16,aw h13 h0 0 v16∧
 ∃v17,aw h13 h7 0 v17∧
 HC PG uJ (gZ v16 v17) [.c .bool] (fun(e18:Bool) h19=>
 J15 e18 h19) h13) (
 J15 false h13))))))) (
 CondP (!t6.2.1) (
 ∃v38,aw h7 h0 0 v38∧
 ∃v39,aw h7 h0 1 v39∧
 At (hnew h7 (gZ v38 v39) bU) (fun h40=>
 ∃xs41,SRow h40 (some (aA h7)) (1*2) xs41∧
 AppP (some jN) 2 32 bU t6.1.a t6.1.len t6.1.cap 1 xs41 h40 (fun s42 h43=>
 K s42 h43))) (
 K t6.1 h7))) (⟨none,0,0⟩,false,0) h4) h1)
noncomputable def Pk:Ann:=.node .nil (.node .nil (.node .nil (.node (.node .nil (.loop [(5,.c .slice),(6,.c .bool),(14,.c (.int .i64))] (.node .nil (.node .nil (.join [(5,.c .slice),(6,.c .bool)] (.node .nil (.join [(5,.c .slice),(6,.c .bool)] (.join [(26,.c .bool)] .nil .nil) .nil)) .nil))))) .nil)))
theorem Pf(x0:SliceV)(x1:ByteArray×ByteArray){K:cL [.c .slice]→ad→Prop}{h0:ad}(h:GF x0 x1 K h0):HC PG A4 [.slice x0.a x0.len x0.cap,Nj x1] [.c .slice] K h0:=dJ Pk Tryz.func94 Tryz.call94 rfl rfl (by kernel_rfl) h
def B5(x0:Option Addr)(x1:ByteArray)(K:(ByteArray×Bool)→ad→Prop)(h0:ad):Prop:=
 HC PG ox [.pointer x0] [.c .ptr] (fun(e1:Option Addr) h2=>
 LoopP (fun I3 (t4:ByteArray×(Option Addr)) h5=>
 CondP (!(t4.1.toList==(⟨#[]⟩:ByteArray).toList)) (
 ∃b6,(0:Int)≤(0:Int)∧t4.1[(0:Int).toNat]? =some b6∧
 HC PG jq (C2 t4.2 (b6.toNat:Int)) kW (fun(e7:Int×Bool) h8=>
 CondP (!e7.2) (
 K ((⟨#[]⟩:ByteArray),false) h8) (
 ∃a9,t4.2=some a9∧
 ∃v10:SliceV,bC h8 a9 3 v10∧
 (cD e7.1 v10.len∧∃a11,v10.a=some a11∧
 ∃v12,bl h8 a11 (e7.1.toNat*1) (.pointer v12)∧
 ∃a13,v12=some a13∧
 ∃v14,aQ h8 a13 0 v14∧
 HC PG uB (gZ t4.1 v14) kq (fun(e15:ByteArray×Bool) h16=>
 CondP (!e15.2) (
 K ((⟨#[]⟩:ByteArray),false) h16) (
 I3 (e15.1,v12) h16)) h8))) h5) (
 HC PG gG [.pointer t4.2] kq (fun(e17:ByteArray×Bool) h18=>
 K (e17.1,e17.2) h18) h5)) (x1,e1) h2) h0
noncomputable def KA:Ann:=.node .nil (.node .nil (.node (.loop [(1,.c .str),(6,.c .ptr)] .nil) .nil))
theorem Ke(x0:Option Addr)(x1:ByteArray){K:cL kq→ad→Prop}{h0:ad}(h:B5 x0 x1 K h0):HC PG vU (qL x0 x1) kq K h0:=dJ KA Tryz.func95 Tryz.call95 rfl rfl (by kernel_rfl) h
def Cf(x0:Int×Int×Int)(x1:Option Addr)(x2:ByteArray)(K:(ByteArray×Bool)→ad→Prop)(h0:ad):Prop:=
 At (hnew h0 (yM x0) cr) (fun h1=>
 ∃v2,ao h1 h0 0 v2∧
 ∃v3,ao h1 h0 1 v3∧
 ∃v4,ao h1 h0 2 v4∧
 HC PG eo [tK v2 v3 v4,.string x2] g5 (fun(e5:Int) h6=>
 HC PG kz [.pointer x1] [.c .ptr] (fun(e7:Option Addr) h8=>
 LoopP (fun I9 (t10:(Option Addr)×Int) h11=>
 HC PG dQ [.pointer t10.1] [.c .bool] (fun(e12:Bool) h13=>
 CondP e12 (
 HC PG pB (qL t10.1 x2) kq (fun(e14:ByteArray×Bool) h15=>
 K (e14.1,e14.2) h15) h13) (
 HC PG kw (lJ e5 t10.2) cd (fun(e16:Int) h17=>
 HC PG iL (un t10.1 e16) lh (fun(e18:(ByteArray×ByteArray)×Bool) h19=>
 nv h19 jN aj (rM e18.1) (fun h21=>
 CondP e18.2 (
 ∃v22,aw h21 h19 0 v22∧
 CondP (!(v22.toList==x2.toList)) (
 K ((⟨#[]⟩:ByteArray),false) h21) (
 ∃v23,aw h21 h19 1 v23∧
 K (v23,true) h21)) (
 HC PG ij (un t10.1 e16) jR (fun(e24:(Option Addr)×Bool) h25=>
 CondP (!e24.2) (
 K ((⟨#[]⟩:ByteArray),false) h25) (
 I9 (e24.1,IntKind.wrap .i64 (t10.2+1)) h25)) h21))) h17) h13)) h11) (e7,0) h8) h6) h1)
noncomputable def KF:Ann:=.node .nil (.node .nil (.node .nil (.loop [(9,.c .ptr),(10,.c (.int .i64))] .nil)))
theorem Kr(x0:Int×Int×Int)(x1:Option Addr)(x2:ByteArray){K:cL kq→ad→Prop}{h0:ad}(h:Cf x0 x1 x2 K h0):HC PG wa [Jj x0,.pointer x1,.string x2] kq K h0:=dJ KF Tryz.func96 Tryz.call96 rfl rfl (by kernel_rfl) h
def EE(x0:SliceV)(x1:ByteArray)(K:(Int×Bool)→ad→Prop)(h0:ad):Prop:=
 LoopP (fun I1 (t2:Int) h3=>
 Join (fun(t9:Bool) h10=>
 CondP t9 (
 I1 (IntKind.wrap .i64 (t2+1)) h10) (
 CondP (decide (t2<(x0.len:Int))) (
 (cD t2 x0.len∧∃a11,x0.a=some a11∧
 ∃v12,aQ h10 (adr a11 (t2.toNat*2)) 0 v12∧
 K (t2,v12.toList==x1.toList) h10)) (
 K (t2,false) h10))) (fun J4=>
 CondP (decide (t2<(x0.len:Int))) (
 (cD t2 x0.len∧∃a5,x0.a=some a5∧
 ∃v6,aQ h3 (adr a5 (t2.toNat*2)) 0 v6∧
 HC PG uJ (gZ v6 x1) [.c .bool] (fun(e7:Bool) h8=>
 J4 e7 h8) h3)) (
 J4 false h3))) 0 h0
noncomputable def MR:Ann:=.node .nil (.node .nil (.node (.loop [(6,.c (.int .i64))] (.node (.join [(19,.c .bool)] .nil .nil) .nil)) .nil))
theorem ME(x0:SliceV)(x1:ByteArray){K:cL kW→ad→Prop}{h0:ad}(h:EE x0 x1 K h0):HC PG yh (yR x0 x1) kW K h0:=dJ MR Tryz.func97 Tryz.call97 rfl rfl (by kernel_rfl) h
def ED(x0:ByteArray)(x1:ByteArray)(K:(Bool)→ad→Prop)(h0:ad):Prop:=
 LoopP (fun I1 (t2:Int) h3=>
 Join (fun(t5:Bool) h6=>
 CondP t5 (
 ∃b7,(0:Int)≤t2∧x0[t2.toNat]? =some b7∧
 ∃b8,(0:Int)≤t2∧x1[t2.toNat]? =some b8∧
 CondP ((b7.toNat:Int) !=(b8.toNat:Int)) (
 ∃b9,(0:Int)≤t2∧x0[t2.toNat]? =some b9∧
 ∃b10,(0:Int)≤t2∧x1[t2.toNat]? =some b10∧
 K (decide ((b9.toNat:Int)<(b10.toNat:Int))) h6) (
 I1 (IntKind.wrap .i64 (t2+1)) h6)) (
 K (decide ((x0.size:Int)<(x1.size:Int))) h6)) (fun J4=>
 CondP (decide (t2<(x0.size:Int))) (
 J4 (decide (t2<(x1.size:Int))) h3) (
 J4 false h3))) 0 h0
noncomputable def MQ:Ann:=.node .nil (.node (.node .nil (.loop [(5,.c (.int .i64))] (.node (.join [(15,.c .bool)] .nil .nil) .nil))) .nil)
theorem MD(x0:ByteArray)(x1:ByteArray){K:cL [.c .bool]→ad→Prop}{h0:ad}(h:ED x0 x1 K h0):HC PG uJ (gZ x0 x1) [.c .bool] K h0:=dJ MQ Tryz.func104 Tryz.call104 rfl rfl (by kernel_rfl) h
def Cd(x0:ByteArray×ByteArray×ByteArray×Bool×Bool)(x1:ByteArray×ByteArray×ByteArray×Bool×Bool)(K:(Int)→ad→Prop)(h0:ad):Prop:=
 At (hnew h0 (TM x0) sY) (fun h1=>
 At (hnew h1 (TM x1) sY) (fun h2=>
 ∃v3,aw h2 h0 0 v3∧
 ∃v4,aw h2 h1 0 v4∧
 HC PG lu (gZ v3 v4) cd (fun(e5:Int) h6=>
 K e5 h6) h2))
theorem Kp(x0:ByteArray×ByteArray×ByteArray×Bool×Bool)(x1:ByteArray×ByteArray×ByteArray×Bool×Bool){K:cL cd→ad→Prop}{h0:ad}(h:Cd x0 x1 K h0):HC PG vY [UJ x0,UJ x1] cd K h0:=dJ .nil Tryz.func109 Tryz.call109 rfl rfl (by kernel_rfl) h
def sM(x0:ByteArray)(x1:ByteArray)(K:(Int)→ad→Prop)(h0:ad):Prop:=
 HC PG m9 [.string x0] [.c .bool] (fun(e1:Bool) h2=>
 HC PG m9 [.string x1] [.c .bool] (fun(e3:Bool) h4=>
 CondP e1 (
 CondP e3 (
 K 0 h4) (
 K (-1) h4)) (
 CondP e3 (
 K 1 h4) (
 CondP (Op.bytesLess x0.toList x1.toList) (
 K (-1) h4) (
 CondP (!(Op.bytesLess x0.toList x1.toList||x0.toList==x1.toList)) (
 K 1 h4) (
 K 0 h4))))) h2) h0
theorem zY(x0:ByteArray)(x1:ByteArray){K:cL cd→ad→Prop}{h0:ad}(h:sM x0 x1 K h0):HC PG lu (gZ x0 x1) cd K h0:=dJ .nil Tryz.func110 Tryz.call110 rfl rfl (by kernel_rfl) h
def Ab(x0:Option Addr)(x1:ByteArray×ByteArray×Bool)(K:(SliceV)→ad→Prop)(h0:ad):Prop:=
 At (hnew h0 (EY x1) nT) (fun h1=>
 ∃v2,aw h1 h0 0 v2∧
 ∃v3,aw h1 h0 1 v3∧
 ∃v4,pr h1 h0 2 v4∧
 HC PG vS [.pointer x0,Ix v2 v3 v4,.bool false] [.c .raw] (fun(e5:Value) h6=>
 HC PG gb [e5] [.c .slice] (fun(e7:SliceV) h8=>
 K e7 h8) h6) h1)
theorem H0(x0:Option Addr)(x1:ByteArray×ByteArray×Bool){K:cL [.c .slice]→ad→Prop}{h0:ad}(h:Ab x0 x1 K h0):HC PG uC [.pointer x0,Hh x1] [.c .slice] K h0:=dJ .nil Tryz.func120 Tryz.call120 rfl rfl (by kernel_rfl) h
def Et(K:(ByteArray×ByteArray×Bool)→ad→Prop)(h0:ad):Prop:=
 nv h0 Ul nT (Uq (⟨#[]⟩:ByteArray) (⟨#[]⟩:ByteArray) true) (fun h2=>
 ∃v3,aw h2 h0 0 v3∧
 ∃v4,aw h2 h0 1 v4∧
 ∃v5,pr h2 h0 2 v5∧
 K (v3,v4,v5) h2)
theorem Mw{K:cL OT→ad→Prop}{h0:ad}(h:Et K h0):HC PG DU [] OT K h0:=dJ .nil Tryz.func121 Tryz.call121 rfl rfl (by kernel_rfl) h
def xw(x0:Option Addr)(K:(SliceV)→ad→Prop)(h0:ad):Prop:=
 HC PG yb [.pointer x0] [.c .raw] (fun(e1:Value) h2=>
 HC PG gb [e1] [.c .slice] (fun(e3:SliceV) h4=>
 HC PG pS [.slice e3.a e3.len e3.cap] [.c .slice] (fun(e5:SliceV) h6=>
 K e5 h6) h4) h2) h0
theorem Fc(x0:Option Addr){K:cL [.c .slice]→ad→Prop}{h0:ad}(h:xw x0 K h0):HC PG tg [.pointer x0] [.c .slice] K h0:=dJ .nil Tryz.func122 Tryz.call122 rfl rfl (by kernel_rfl) h
def xG(x0:SliceV)(K:(SliceV)→ad→Prop)(h0:ad):Prop:=
 HC PG cG [.slice x0.a x0.len x0.cap] [.c .slice] (fun(e1:SliceV) h2=>
 HC PG cS [.slice e1.a e1.len e1.cap,.func (.func qq) #[] #[]] [] (fun(e3:Unit) h4=>
 LoopP (fun I5 (t6:Int×Int) h7=>
 CondP (decide (t6.2<(e1.len:Int))) (
 Join (fun(t24:Int) h25=>
 I5 (t24,IntKind.wrap .i64 (t6.2+1)) h25) (fun J8=>
 (cD t6.2 e1.len∧∃a9,e1.a=some a9∧
 ∃v10,aQ h7 (adr a9 (t6.2.toNat*2)) 0 v10∧
 ∃v11,aQ h7 (adr a9 (t6.2.toNat*2)) 1 v11∧
 nv h7 jN aj (gZ v10 v11) (fun h13=>
 Join (fun(t18:Bool) h19=>
 CondP t18 (
 J8 t6.1 h19) (
 ∃v20,aw h19 h7 0 v20∧
 ∃v21,aw h19 h7 1 v21∧
 (cD t6.1 e1.len∧∃a22,e1.a=some a22∧
 (ni h19 (adr a22 (t6.1.toNat*2)) (gZ v20 v21) (fun h23=>
 J8 (IntKind.wrap .i64 (t6.1+1)) h23))))) (fun J14=>
 CondP (decide ((IntKind.wrap .i64 (t6.2+1))<(e1.len:Int))) (
 (cD (IntKind.wrap .i64 (t6.2+1)) e1.len∧∃a15,e1.a=some a15∧
 ∃v16,bl h13 (adr a15 ((IntKind.wrap .i64 (t6.2+1)).toNat*2)) 0 (.string v16)∧
 ∃v17,aw h13 h7 0 v17∧
 J14 (v16.toList==v17.toList) h13)) (
 J14 false h13)))))) (
 (((0:Int)≤t6.1∧t6.1≤((e1.cap:Nat):Int))∧
 K ⟨aV e1.a 0 e1.cap 2,t6.1.toNat-0,e1.cap-0⟩ h7))) (0,0) h4) h2) h0
noncomputable def FC:Ann:=.node .nil (.node .nil (.node .nil (.node .nil (.node (.node .nil (.loop [(4,.c (.int .i64)),(13,.c (.int .i64))] (.node .nil (.node .nil (.join [(4,.c (.int .i64))] (.node .nil (.node (.join [(33,.c .bool)] .nil .nil) .nil)) .nil))))) .nil))))
theorem Fq(x0:SliceV){K:cL [.c .slice]→ad→Prop}{h0:ad}(h:xG x0 K h0):HC PG pS [.slice x0.a x0.len x0.cap] [.c .slice] K h0:=dJ FC Tryz.func123 Tryz.call123 rfl rfl (by kernel_rfl) h
def sB(x0:Int×Int×Int)(x1:ByteArray)(K:(Int)→ad→Prop)(h0:ad):Prop:=
 At (hnew h0 (yM x0) cr) (fun h1=>
 ∃v2,cP h1 (adr (aA h0) 0) 0 v2∧
 ∃v3,cP h1 (adr (aA h0) 0) 1 v3∧
 ∃v4,ao h1 h0 2 v4∧
 HC PG A2 [Us v2 v3,.string x1] g5 (fun(e5:Int) h6=>
 (ao h6 h0 2 v4∧
 Bd (IntKind.wrap .u64 (aq (IntKind.bits .u64) e5&&&aq (IntKind.bits .u64) v4).toNat:Int) (fun n7=>
 K n7 h6))) h1)
theorem zN(x0:Int×Int×Int)(x1:ByteArray){K:cL g5→ad→Prop}{h0:ad}(h:sB x0 x1 K h0):HC PG eo [Jj x0,.string x1] g5 K h0:=dJ .nil Tryz.func126 Tryz.call126 rfl rfl (by kernel_rfl) h
def nK(x0:Option Addr)(K:(ByteArray×Bool)→ad→Prop)(h0:ad):Prop:=
 CondP x0.isNone (
 K ((⟨#[]⟩:ByteArray),false) h0) (
 ∃a1,x0=some a1∧
 ∃v2,aQ h0 a1 2 v2∧
 ∃a3,x0=some a3∧
 ∃v4,dT h0 a3 1 v4∧
 K (v2,v4) h0)
theorem rt(x0:Option Addr){K:cL kq→ad→Prop}{h0:ad}(h:nK x0 K h0):HC PG gG [.pointer x0] kq K h0:=dJ .nil Tryz.func128 Tryz.call128 rfl rfl (by kernel_rfl) h
def sG(x0:Option Addr)(K:(SliceV)→ad→Prop)(h0:ad):Prop:=
 CondP x0.isNone (
 K ⟨none,0,0⟩ h0) (
 ∃a1,x0=some a1∧
 ∃v2:SliceV,bC h0 a1 3 v2∧
 HC PG de [.slice v2.a v2.len v2.cap] [.c .slice] (fun(e3:SliceV) h4=>
 K e3 h4) h0)
theorem zR(x0:Option Addr){K:cL [.c .slice]→ad→Prop}{h0:ad}(h:sG x0 K h0):HC PG lq [.pointer x0] [.c .slice] K h0:=dJ .nil Tryz.func129 Tryz.call129 rfl rfl (by kernel_rfl) h
def lA(x0:Option Addr)(K:(SliceV)→ad→Prop)(h0:ad):Prop:=
 CondP x0.isNone (
 K ⟨none,0,0⟩ h0) (
 ∃a1,x0=some a1∧
 ∃v2:SliceV,bC h0 (adr a1 0) 2 v2∧
 HC PG cG [.slice v2.a v2.len v2.cap] [.c .slice] (fun(e3:SliceV) h4=>
 K e3 h4) h0)
theorem oJ(x0:Option Addr){K:cL [.c .slice]→ad→Prop}{h0:ad}(h:lA x0 K h0):HC PG eS [.pointer x0] [.c .slice] K h0:=dJ .nil Tryz.func130 Tryz.call130 rfl rfl (by kernel_rfl) h
def mz(x0:Option Addr)(K:(SliceV)→ad→Prop)(h0:ad):Prop:=
 CondP x0.isNone (
 K ⟨none,0,0⟩ h0) (
 ∃a1,x0=some a1∧
 ∃v2:SliceV,bC h0 (adr a1 0) 3 v2∧
 HC PG dH [.slice v2.a v2.len v2.cap] [.c .slice] (fun(e3:SliceV) h4=>
 K e3 h4) h0)
theorem pD(x0:Option Addr){K:cL [.c .slice]→ad→Prop}{h0:ad}(h:mz x0 K h0):HC PG jT [.pointer x0] [.c .slice] K h0:=dJ .nil Tryz.func131 Tryz.call131 rfl rfl (by kernel_rfl) h
def qH(x0:Option Addr)(x1:SliceV)(K:(SliceV)→ad→Prop)(h0:ad):Prop:=
 ∃a1,x0=some a1∧
 ∃v2,aQ h0 a1 0 v2∧
 HC PG mn (yR x1 v2) [.c .slice] (fun(e3:SliceV) h4=>
 Join (fun(t20:SliceV) h21=>
 Join (fun(t32:SliceV) h33=>
 ∃a34,x0=some a34∧
 ∃v35:SliceV,bC h33 a34 3 v35∧
 LoopP (fun I36 (t37:SliceV×Int) h38=>
 CondP (decide (t37.2<(v35.len:Int))) (
 (cD t37.2 v35.len∧∃a39,v35.a=some a39∧
 ∃v40,bl h38 a39 (t37.2.toNat*1) (.pointer v40)∧
 HC PG jK (Ts v40 t37.1) [.c .slice] (fun(e41:SliceV) h42=>
 I36 (e41,IntKind.wrap .i64 (t37.2+1)) h42) h38)) (
 K t37.1 h38)) (t32,0) h33) (fun J22=>
 ∃a23,x0=some a23∧
 ∃v24:SliceV,bC h21 a23 3 v24∧
 ∃a25,x0=some a25∧
 ∃v26:SliceV,bC h21 a25 3 v26∧
 ((0:Int)≤(8:Int)∧
 Bd (Int.fdiv (v26.len:Int) (2^(min (8:Int).toNat (IntKind.bits .i64))):Int) (fun n27=>
 At (hnew h21 (RH (IntKind.wrap .u8 (v24.len:Int)) (IntKind.wrap .u8 n27)) cy) (fun h28=>
 (bC h28 a25 3 v26∧
 (bC h28 a23 3 v24∧
 ∃xs29,SRow h28 (some (aA h21)) (2*1) xs29∧
 AppP (some [.int .u8 0]) 1 1 cy t20.a t20.len t20.cap 2 xs29 h28 (fun s30 h31=>
 (bC h31 a25 3 v26∧
 (bC h31 a23 3 v24∧
 J22 s30 h31)))))))))) (fun J5=>
 ∃a6,x0=some a6∧
 ∃v7,dT h4 a6 1 v7∧
 CondP v7 (
 ∃a8,x0=some a8∧
 ∃v9,aQ h4 a8 2 v9∧
 At (hnew h4 [.int .u8 1] cy) (fun h10=>
 (aQ h10 a8 2 v9∧
 ∃xs11,SRow h10 (some (aA h4)) (1*1) xs11∧
 AppP (some [.int .u8 0]) 1 1 cy e3.a e3.len e3.cap 1 xs11 h10 (fun s12 h13=>
 (aQ h13 a8 2 v9∧
 HC PG mn (yR s12 v9) [.c .slice] (fun(e14:SliceV) h15=>
 J5 e14 h15) h13))))) (
 At (hnew h4 [.int .u8 0] cy) (fun h16=>
 ∃xs17,SRow h16 (some (aA h4)) (1*1) xs17∧
 AppP (some [.int .u8 0]) 1 1 cy e3.a e3.len e3.cap 1 xs17 h16 (fun s18 h19=>
 J5 s18 h19))))) h0
noncomputable def w9:Ann:=.node .nil (.node .nil (.join [(1,.c .slice)] .nil (.join [(1,.c .slice)] .nil (.node (.node .nil (.loop [(1,.c .slice),(49,.c (.int .i64))] .nil)) .nil))))
theorem wX(x0:Option Addr)(x1:SliceV){K:cL [.c .slice]→ad→Prop}{h0:ad}(h:qH x0 x1 K h0):HC PG jK (Ts x0 x1) [.c .slice] K h0:=dJ w9 Tryz.func132 Tryz.call132 rfl rfl (by kernel_rfl) h
def ws(x0:SliceV)(x1:Option Addr)(x2:Int)(K:(SliceV)→ad→Prop)(h0:ad):Prop:=
 HC PG dQ [.pointer x1] [.c .bool] (fun(e1:Bool) h2=>
 CondP e1 (
 At (hnew h2 [.int .u8 1] cy) (fun h3=>
 ∃xs4,SRow h3 (some (aA h2)) (1*1) xs4∧
 AppP (some [.int .u8 0]) 1 1 cy x0.a x0.len x0.cap 1 xs4 h3 (fun s5 h6=>
 HC PG kI [.pointer x1] cd (fun(e7:Int) h8=>
 HC PG lY (N2 s5 (IntKind.wrap .u64 e7) 2) [.c .slice] (fun(e9:SliceV) h10=>
 HC PG eS [.pointer x1] [.c .slice] (fun(e11:SliceV) h12=>
 HC PG pQ (PH e9 e11) [.c .slice] (fun(e13:SliceV) h14=>
 K e13 h14) h12) h10) h8) h6))) (
 Join (fun(t28:SliceV) h29=>
 HC PG eS [.pointer x1] [.c .slice] (fun(e30:SliceV) h31=>
 HC PG pQ (PH t28 e30) [.c .slice] (fun(e32:SliceV) h33=>
 CondP (x2==(13:Int)) (
 K e32 h33) (
 HC PG jT [.pointer x1] [.c .slice] (fun(e34:SliceV) h35=>
 LoopP (fun I36 (t37:SliceV×Int) h38=>
 CondP (decide (t37.2<(e34.len:Int))) (
 (cD t37.2 e34.len∧∃a39,e34.a=some a39∧
 ∃v40,bl h38 a39 (t37.2.toNat*1) (.pointer v40)∧
 HC PG rY (RI t37.1 v40 (IntKind.wrap .i64 (x2+1))) [.c .slice] (fun(e41:SliceV) h42=>
 I36 (e41,IntKind.wrap .i64 (t37.2+1)) h42) h38)) (
 K t37.1 h38)) (e32,0) h35) h33)) h31) h29) (fun J15=>
 At (hnew h2 [.int .u8 0] cy) (fun h16=>
 ∃xs17,SRow h16 (some (aA h2)) (1*1) xs17∧
 AppP (some [.int .u8 0]) 1 1 cy x0.a x0.len x0.cap 1 xs17 h16 (fun s18 h19=>
 HC PG jU [.pointer x1] iG (fun(e20:Int) h21=>
 HC PG lY (N2 s18 (IntKind.wrap .u64 e20) 4) [.c .slice] (fun(e22:SliceV) h23=>
 HC PG gc [.pointer x1] iG (fun(e24:Int) h25=>
 HC PG lY (N2 e22 (IntKind.wrap .u64 e24) 4) [.c .slice] (fun(e26:SliceV) h27=>
 J15 e26 h27) h25) h23) h21) h19))))) h0
noncomputable def Kw:Ann:=.node .nil (.node .nil (.join [(0,.c .slice)] .nil (.node .nil (.node .nil (.node (.node .nil (.loop [(0,.c .slice),(42,.c (.int .i64))] .nil)) .nil)))))
theorem BV(x0:SliceV)(x1:Option Addr)(x2:Int){K:cL [.c .slice]→ad→Prop}{h0:ad}(h:ws x0 x1 x2 K h0):HC PG rY (RI x0 x1 x2) [.c .slice] K h0:=dJ Kw Tryz.func133 Tryz.call133 rfl rfl (by kernel_rfl) h
def Ew(x0:ByteArray)(K:(SliceV)→ad→Prop)(h0:ad):Prop:=
 HC PG q9 [.int .i64 (x0.size:Int)] [.c .slice] (fun(e1:SliceV) h2=>
 ByP cy x0 h2 (fun c3 h4=>
 ∃xs5,SRow h4 (some (aA h2)) (x0.size*1) xs5∧
 AppP (some [.int .u8 0]) 1 1 cy e1.a e1.len e1.cap x0.size xs5 h4 (fun s6 h7=>
 K s6 h7))) h0
theorem Mz(x0:ByteArray){K:cL [.c .slice]→ad→Prop}{h0:ad}(h:Ew x0 K h0):HC PG pz [.string x0] [.c .slice] K h0:=dJ .nil Tryz.func134 Tryz.call134 rfl rfl (by kernel_rfl) h
def GE(x0:Int)(K:(SliceV)→ad→Prop)(h0:ad):Prop:=
 ((256:Int)≠0∧
 At (hnew h0 (RH (IntKind.wrap .u8 x0) (IntKind.wrap .u8 (IntKind.wrap .i64 (l8 x0 256)))) cy) (fun h1=>
 K ⟨some (aA h0),2,2⟩ h1))
theorem Pe(x0:Int){K:cL [.c .slice]→ad→Prop}{h0:ad}(h:GE x0 K h0):HC PG q9 [.int .i64 x0] [.c .slice] K h0:=dJ .nil Tryz.func135 Tryz.call135 rfl rfl (by kernel_rfl) h
def Ag(x0:SliceV)(K:(SliceV)→ad→Prop)(h0:ad):Prop:=
 LoopP (fun I1 (t2:SliceV×Int) h3=>
 CondP (decide (t2.2<(x0.len:Int))) (
 LoopP (fun I4 (t5:Int) h6=>
 Join (fun(t14:Bool) h15=>
 CondP t14 (
 I4 (IntKind.wrap .i64 (t5+1)) h15) (
 (((0:Int)≤t5∧t5≤((x0.cap:Nat):Int))∧
 (((0:Int)≤t2.2∧t2.2≤((t5.toNat:Nat):Int))∧
 HC PG uG [.slice (aV x0.a t2.2.toNat x0.cap 2) (t5.toNat-t2.2.toNat) (x0.cap-t2.2.toNat)] [.c .ptr] (fun(e16:Option Addr) h17=>
 At (hnew h17 [.pointer e16] qN) (fun h18=>
 ∃xs19,SRow h18 (some (aA h17)) (1*1) xs19∧
 AppP (some [.pointer none]) 1 8 qN t2.1.a t2.1.len t2.1.cap 1 xs19 h18 (fun s20 h21=>
 I1 (s20,t5) h21))) h15)))) (fun J7=>
 CondP (decide (t5<(x0.len:Int))) (
 (cD t5 x0.len∧∃a8,x0.a=some a8∧
 ∃v9,aQ h6 (adr a8 (t5.toNat*2)) 0 v9∧
 ∃b10,(0:Int)≤(0:Int)∧v9[(0:Int).toNat]? =some b10∧
 (cD t2.2 x0.len∧∃a11,x0.a=some a11∧
 ∃v12,aQ h6 (adr a11 (t2.2.toNat*2)) 0 v12∧
 ∃b13,(0:Int)≤(0:Int)∧v12[(0:Int).toNat]? =some b13∧
 J7 ((b10.toNat:Int)==(b13.toNat:Int)) h6))) (
 J7 false h6))) t2.2 h3) (
 K t2.1 h3)) (⟨none,0,0⟩,0) h0
noncomputable def Ie:Ann:=.node .nil (.node .nil (.node (.node .nil (.loop [(3,.c .slice),(4,.c (.int .i64))] (.node .nil (.node .nil (.node (.loop [(5,.c (.int .i64))] (.node (.join [(29,.c .bool)] .nil .nil) .nil)) .nil))))) .nil))
theorem H4(x0:SliceV){K:cL [.c .slice]→ad→Prop}{h0:ad}(h:Ag x0 K h0):HC PG qR [.slice x0.a x0.len x0.cap] [.c .slice] K h0:=dJ Ie Tryz.func136 Tryz.call136 rfl rfl (by kernel_rfl) h
def B8(x0:SliceV)(K:(SliceV)→ad→Prop)(h0:ad):Prop:=
 LoopP (fun I1 (t2:SliceV×Int) h3=>
 CondP (decide (t2.2<(x0.len:Int))) (
 Join (fun(t22:SliceV) h23=>
 I1 (t22,IntKind.wrap .i64 (t2.2+1)) h23) (fun J4=>
 (cD t2.2 x0.len∧∃a5,x0.a=some a5∧
 ∃v6,aQ h3 (adr a5 (t2.2.toNat*2)) 0 v6∧
 ∃v7,aQ h3 (adr a5 (t2.2.toNat*2)) 1 v7∧
 nv h3 jN bU (gZ v6 v7) (fun h9=>
 ∃v10,aw h9 h3 0 v10∧
 ∃v11,aw h9 h3 1 v11∧
 HC PG pz [.string v10] [.c .slice] (fun(e12:SliceV) h13=>
 (aw h13 h3 1 v11∧
 ∃xs14,SRow h13 e12.a (e12.len*1) xs14∧
 AppP (some [.int .u8 0]) 1 1 cy t2.1.a t2.1.len t2.1.cap e12.len xs14 h13 (fun s15 h16=>
 (aw h16 h3 1 v11∧
 HC PG pz [.string v11] [.c .slice] (fun(e17:SliceV) h18=>
 ∃xs19,SRow h18 e17.a (e17.len*1) xs19∧
 AppP (some [.int .u8 0]) 1 1 cy s15.a s15.len s15.cap e17.len xs19 h18 (fun s20 h21=>
 J4 s20 h21)) h16)))) h9)))) (
 K t2.1 h3)) (⟨none,0,0⟩,0) h0
noncomputable def KC:Ann:=.node .nil (.node .nil (.node (.node .nil (.loop [(3,.c .slice),(8,.c (.int .i64))] (.node .nil (.node .nil (.join [(3,.c .slice)] .nil .nil))))) .nil))
theorem Kh(x0:SliceV){K:cL [.c .slice]→ad→Prop}{h0:ad}(h:B8 x0 K h0):HC PG p6 [.slice x0.a x0.len x0.cap] [.c .slice] K h0:=dJ KC Tryz.func137 Tryz.call137 rfl rfl (by kernel_rfl) h
def EA(x0:Int)(K:(SliceV)→ad→Prop)(h0:ad):Prop:=
 ((256:Int)≠0∧
 ((65536:Int)≠0∧
 ((16777216:Int)≠0∧
 At (hnew h0 (Un (IntKind.wrap .u8 x0) (IntKind.wrap .u8 (IntKind.wrap .u32 (l8 x0 256))) (IntKind.wrap .u8 (IntKind.wrap .u32 (l8 x0 65536))) (IntKind.wrap .u8 (IntKind.wrap .u32 (l8 x0 16777216)))) cy) (fun h1=>
 K ⟨some (aA h0),4,4⟩ h1))))
theorem MB(x0:Int){K:cL [.c .slice]→ad→Prop}{h0:ad}(h:EA x0 K h0):HC PG uI [.int .u32 x0] [.c .slice] K h0:=dJ .nil Tryz.func138 Tryz.call138 rfl rfl (by kernel_rfl) h
def EC(x0:Int×Int×Int)(x1:ByteArray)(K:(Int)→ad→Prop)(h0:ad):Prop:=
 At (hnew h0 (yM x0) qM) (fun h1=>
 ∃v2,ao h1 h0 0 v2∧
 ∃v3,ao h1 h0 1 v3∧
 ∃v4,ao h1 h0 2 v4∧
 HC PG A5 (Tp v2 v3 x1) g5 (fun(e5:Int) h6=>
 (ao h6 h0 2 v4∧
 Bd (IntKind.wrap .u64 (aq (IntKind.bits .u64) e5&&&aq (IntKind.bits .u64) v4).toNat:Int) (fun n7=>
 K n7 h6))) h1)
theorem MC(x0:Int×Int×Int)(x1:ByteArray){K:cL g5→ad→Prop}{h0:ad}(h:EC x0 x1 K h0):HC PG yg [Jj x0,.string x1] g5 K h0:=dJ .nil Tryz.func139 Tryz.call139 rfl rfl (by kernel_rfl) h
def EB(x0:SliceV)(x1:SliceV)(x2:Int)(K:(Option Addr)→ad→Prop)(h0:ad):Prop:=
 CondP (x2==(13:Int)) (
 At (hnew h0 ((.bool true)::(.slice x0.a x0.len x0.cap)::(.int .i64 0)::(.int .i64 0)::(.int .i64 0)::(.int .i64 0)::(.int .i64 0)::(.int .i64 0)::(.int .i64 0)::(.int .i64 0)::(.int .i64 0)::(.int .i64 0)::(.int .i64 0)::(.int .i64 0)::(.int .i64 0)::(.int .i64 0)::(.int .i64 0)::(.int .i64 0)::(.int .i64 0)::(.int .i64 0)::(.int .i64 0)::(.int .i64 0)::(.int .i64 0)::(.int .i64 0)::(.int .i64 0)::(.int .i64 0)::(.int .i64 0)::(.int .i64 0)::(.int .i64 0)::(.int .i64 0)::(.int .i64 0)::(.int .i64 0)::(.int .i64 0)::(.int .i64 0)::(.string (⟨#[]⟩:ByteArray))::(.string (⟨#[]⟩:ByteArray))::(.string (⟨#[]⟩:ByteArray))::(.string (⟨#[]⟩:ByteArray))::(.string (⟨#[]⟩:ByteArray))::(.string (⟨#[]⟩:ByteArray))::(.string (⟨#[]⟩:ByteArray))::(.string (⟨#[]⟩:ByteArray))::(.string (⟨#[]⟩:ByteArray))::(.string (⟨#[]⟩:ByteArray))::(.string (⟨#[]⟩:ByteArray))::(.string (⟨#[]⟩:ByteArray))::(.string (⟨#[]⟩:ByteArray))::(.string (⟨#[]⟩:ByteArray))::(.string (⟨#[]⟩:ByteArray))::(.string (⟨#[]⟩:ByteArray))::(.string (⟨#[]⟩:ByteArray))::(.string (⟨#[]⟩:ByteArray))::(.string (⟨#[]⟩:ByteArray))::(.string (⟨#[]⟩:ByteArray))::(.string (⟨#[]⟩:ByteArray))::(.string (⟨#[]⟩:ByteArray))::(.string (⟨#[]⟩:ByteArray))::(.string (⟨#[]⟩:ByteArray))::(.string (⟨#[]⟩:ByteArray))::(.string (⟨#[]⟩:ByteArray))::(.string (⟨#[]⟩:ByteArray))::(.string (⟨#[]⟩:ByteArray))::(.string (⟨#[]⟩:ByteArray))::(.string (⟨#[]⟩:ByteArray))::(.string (⟨#[]⟩:ByteArray))::(.string (⟨#[]⟩:ByteArray))::(.string (⟨#[]⟩:ByteArray))::(.string (⟨#[]⟩:ByteArray))::(.string (⟨#[]⟩:ByteArray))::(.string (⟨#[]⟩:ByteArray))::(.string (⟨#[]⟩:ByteArray))::(.string (⟨#[]⟩:ByteArray))::(.string (⟨#[]⟩:ByteArray))::(.string (⟨#[]⟩:ByteArray))::(.string (⟨#[]⟩:ByteArray))::(.string (⟨#[]⟩:ByteArray))::(.string (⟨#[]⟩:ByteArray))::(.string (⟨#[]⟩:ByteArray))::(.string (⟨#[]⟩:ByteArray))::(.string (⟨#[]⟩:ByteArray))::(.string (⟨#[]⟩:ByteArray))::(.string (⟨#[]⟩:ByteArray))::(.string (⟨#[]⟩:ByteArray))::(.string (⟨#[]⟩:ByteArray))::(.string (⟨#[]⟩:ByteArray))::(.string (⟨#[]⟩:ByteArray))::(.string (⟨#[]⟩:ByteArray))::(.string (⟨#[]⟩:ByteArray))::(.string (⟨#[]⟩:ByteArray))::(.string (⟨#[]⟩:ByteArray))::(.string (⟨#[]⟩:ByteArray))::(.string (⟨#[]⟩:ByteArray))::(.string (⟨#[]⟩:ByteArray))::(.string (⟨#[]⟩:ByteArray))::(.string (⟨#[]⟩:ByteArray))::(.string (⟨#[]⟩:ByteArray))::(.string (⟨#[]⟩:ByteArray))::(.string (⟨#[]⟩:ByteArray))::(.pointer none)::(.pointer none)::(.pointer none)::(.pointer none)::(.pointer none)::(.pointer none)::(.pointer none)::(.pointer none)::(.pointer none)::(.pointer none)::(.pointer none)::(.pointer none)::(.pointer none)::(.pointer none)::(.pointer none)::(.pointer none)::(.pointer none)::(.pointer none)::(.pointer none)::(.pointer none)::(.pointer none)::(.pointer none)::(.pointer none)::(.pointer none)::(.pointer none)::(.pointer none)::(.pointer none)::(.pointer none)::(.pointer none)::(.pointer none)::(.pointer none)::(.pointer none):: []) ia) (fun h1=>
 K (some (aA h0)) h1)) (
 At (hnew h0 ((.bool false)::(.slice none 0 0)::(.int .i64 0)::(.int .i64 0)::(.int .i64 0)::(.int .i64 0)::(.int .i64 0)::(.int .i64 0)::(.int .i64 0)::(.int .i64 0)::(.int .i64 0)::(.int .i64 0)::(.int .i64 0)::(.int .i64 0)::(.int .i64 0)::(.int .i64 0)::(.int .i64 0)::(.int .i64 0)::(.int .i64 0)::(.int .i64 0)::(.int .i64 0)::(.int .i64 0)::(.int .i64 0)::(.int .i64 0)::(.int .i64 0)::(.int .i64 0)::(.int .i64 0)::(.int .i64 0)::(.int .i64 0)::(.int .i64 0)::(.int .i64 0)::(.int .i64 0)::(.int .i64 0)::(.int .i64 0)::(.string (⟨#[]⟩:ByteArray))::(.string (⟨#[]⟩:ByteArray))::(.string (⟨#[]⟩:ByteArray))::(.string (⟨#[]⟩:ByteArray))::(.string (⟨#[]⟩:ByteArray))::(.string (⟨#[]⟩:ByteArray))::(.string (⟨#[]⟩:ByteArray))::(.string (⟨#[]⟩:ByteArray))::(.string (⟨#[]⟩:ByteArray))::(.string (⟨#[]⟩:ByteArray))::(.string (⟨#[]⟩:ByteArray))::(.string (⟨#[]⟩:ByteArray))::(.string (⟨#[]⟩:ByteArray))::(.string (⟨#[]⟩:ByteArray))::(.string (⟨#[]⟩:ByteArray))::(.string (⟨#[]⟩:ByteArray))::(.string (⟨#[]⟩:ByteArray))::(.string (⟨#[]⟩:ByteArray))::(.string (⟨#[]⟩:ByteArray))::(.string (⟨#[]⟩:ByteArray))::(.string (⟨#[]⟩:ByteArray))::(.string (⟨#[]⟩:ByteArray))::(.string (⟨#[]⟩:ByteArray))::(.string (⟨#[]⟩:ByteArray))::(.string (⟨#[]⟩:ByteArray))::(.string (⟨#[]⟩:ByteArray))::(.string (⟨#[]⟩:ByteArray))::(.string (⟨#[]⟩:ByteArray))::(.string (⟨#[]⟩:ByteArray))::(.string (⟨#[]⟩:ByteArray))::(.string (⟨#[]⟩:ByteArray))::(.string (⟨#[]⟩:ByteArray))::(.string (⟨#[]⟩:ByteArray))::(.string (⟨#[]⟩:ByteArray))::(.string (⟨#[]⟩:ByteArray))::(.string (⟨#[]⟩:ByteArray))::(.string (⟨#[]⟩:ByteArray))::(.string (⟨#[]⟩:ByteArray))::(.string (⟨#[]⟩:ByteArray))::(.string (⟨#[]⟩:ByteArray))::(.string (⟨#[]⟩:ByteArray))::(.string (⟨#[]⟩:ByteArray))::(.string (⟨#[]⟩:ByteArray))::(.string (⟨#[]⟩:ByteArray))::(.string (⟨#[]⟩:ByteArray))::(.string (⟨#[]⟩:ByteArray))::(.string (⟨#[]⟩:ByteArray))::(.string (⟨#[]⟩:ByteArray))::(.string (⟨#[]⟩:ByteArray))::(.string (⟨#[]⟩:ByteArray))::(.string (⟨#[]⟩:ByteArray))::(.string (⟨#[]⟩:ByteArray))::(.string (⟨#[]⟩:ByteArray))::(.string (⟨#[]⟩:ByteArray))::(.string (⟨#[]⟩:ByteArray))::(.string (⟨#[]⟩:ByteArray))::(.string (⟨#[]⟩:ByteArray))::(.string (⟨#[]⟩:ByteArray))::(.string (⟨#[]⟩:ByteArray))::(.string (⟨#[]⟩:ByteArray))::(.string (⟨#[]⟩:ByteArray))::(.string (⟨#[]⟩:ByteArray))::(.string (⟨#[]⟩:ByteArray))::(.string (⟨#[]⟩:ByteArray))::(.pointer none)::(.pointer none)::(.pointer none)::(.pointer none)::(.pointer none)::(.pointer none)::(.pointer none)::(.pointer none)::(.pointer none)::(.pointer none)::(.pointer none)::(.pointer none)::(.pointer none)::(.pointer none)::(.pointer none)::(.pointer none)::(.pointer none)::(.pointer none)::(.pointer none)::(.pointer none)::(.pointer none)::(.pointer none)::(.pointer none)::(.pointer none)::(.pointer none)::(.pointer none)::(.pointer none)::(.pointer none)::(.pointer none)::(.pointer none)::(.pointer none)::(.pointer none):: []) ia) (fun h2=>
 LoopP (fun I3 (t4:Int) h5=>
 CondP (decide (t4<(32:Int))) (
 Join (fun(t65:Unit) h66=>
 I3 (IntKind.wrap .i64 (t4+1)) h66) (fun J6=>
 LoopP (fun I7 (t8:SliceV×SliceV×Int) h9=>
 CondP (decide (t8.2.2<(x0.len:Int))) (
 Join (fun(t47:SliceV×SliceV) h48=>
 I7 (t47.1,t47.2,IntKind.wrap .i64 (t8.2.2+1)) h48) (fun J10=>
 (cD t8.2.2 x0.len∧∃a11,x0.a=some a11∧
 ∃v12,aQ h9 (adr a11 (t8.2.2.toNat*2)) 0 v12∧
 ∃v13,aQ h9 (adr a11 (t8.2.2.toNat*2)) 1 v13∧
 nv h9 jN bU (gZ v12 v13) (fun h15=>
 (cD t8.2.2 x1.len∧∃a16,x1.a=some a16∧
 ∃v17,bl h15 a16 (t8.2.2.toNat*1) (.int .u64 v17)∧
 HC PG zw (lJ v17 x2) cd (fun(e18:Int) h19=>
 CondP (e18==t4) (
 ∃v20,aw h19 h9 0 v20∧
 ∃v21,aw h19 h9 1 v21∧
 (cD t8.2.2 x1.len∧∃a22,x1.a=some a22∧
 ∃v23,bl h19 a22 (t8.2.2.toNat*1) (.int .u64 v23)∧
 ((At (hnew h19 (gZ v20 v21) bU) (fun h24=>
 (bl h24 a22 (t8.2.2.toNat*1) (.int .u64 v23)∧
 ((∃xs25,SRow h24 (some (aA h19)) (1*2) xs25∧
 AppP (some jN) 2 32 bU t8.1.a t8.1.len t8.1.cap 1 xs25 h24 (fun s26 h27=>
 (bl h27 a22 (t8.2.2.toNat*1) (.int .u64 v23)∧
 At (hnew h27 [.int .u64 v23] nZ) (fun h28=>
 ∃xs29,SRow h28 (some (aA h27)) (1*1) xs29∧
 AppP (some [.int .u64 0]) 1 8 nZ t8.2.1.a t8.2.1.len t8.2.1.cap 1 xs29 h28 (fun s30 h31=>
 J10 (s26,s30) h31)))))∧
 At (hnew h24 [.int .u64 v23] nZ) (fun h32=>
 ∃xs33,SRow h32 (some (aA h19)) (1*2) xs33∧
 AppP (some jN) 2 32 bU t8.1.a t8.1.len t8.1.cap 1 xs33 h32 (fun s34 h35=>
 ∃xs36,SRow h35 (some (aA h24)) (1*1) xs36∧
 AppP (some [.int .u64 0]) 1 8 nZ t8.2.1.a t8.2.1.len t8.2.1.cap 1 xs36 h35 (fun s37 h38=>
 J10 (s34,s37) h38)))))))∧
 At (hnew h19 [.int .u64 v23] nZ) (fun h39=>
 ((aw h39 h9 0 v20∧aw h39 h9 1 v21)∧
 At (hnew h39 (gZ v20 v21) bU) (fun h40=>
 ∃xs41,SRow h40 (some (aA h39)) (1*2) xs41∧
 AppP (some jN) 2 32 bU t8.1.a t8.1.len t8.1.cap 1 xs41 h40 (fun s42 h43=>
 ∃xs44,SRow h43 (some (aA h19)) (1*1) xs44∧
 AppP (some [.int .u64 0]) 1 8 nZ t8.2.1.a t8.2.1.len t8.2.1.cap 1 xs44 h43 (fun s45 h46=>
 J10 (s42,s45) h46)))))))) (
 J10 (t8.1,t8.2.1) h19)) h15))))) (
 Join (fun(t57:Unit) h58=>
 CondP (decide ((t8.1.len:Int)>(1:Int))) (
 ∃a59,some (aA h0)=some a59∧
 ∃a60,some (aA h0)=some a60∧
 HC PG zv (N3 t8.1 t8.2.1 (IntKind.wrap .i64 (x2+1))) [.c .ptr] (fun(e61:Option Addr) h62=>
 (cD t4 32∧
 (cT h62 (adr (adr a59 2) (t4.toNat*1)) (.int .i64 2) (fun h63=>
 (cD t4 32∧
 (cT h63 (adr (adr a60 98) (t4.toNat*1)) (.pointer e61) (fun h64=>
 J6 () h64))))))) h58) (
 J6 () h58)) (fun J49=>
 CondP ((t8.1.len:Int)==(1:Int)) (
 (cD 0 t8.1.len∧∃a50,t8.1.a=some a50∧
 ∃v51,aQ h9 (adr a50 ((0:Int).toNat*2)) 0 v51∧
 ∃v52,aQ h9 (adr a50 ((0:Int).toNat*2)) 1 v52∧
 ∃a53,some (aA h0)=some a53∧
 (cD t4 32∧
 ∃a54,some (aA h0)=some a54∧
 (cT h9 (adr (adr a53 2) (t4.toNat*1)) (.int .i64 1) (fun h55=>
 (cD t4 32∧
 (ni h55 (adr (adr a54 34) (t4.toNat*2)) (gZ v51 v52) (fun h56=>
 J49 () h56)))))))) (
 J49 () h9)))) (⟨none,0,0⟩,⟨none,0,0⟩,0) h5)) (
 K (some (aA h0)) h5)) 0 h2))
noncomputable def Ro:Ann:=.node .nil (.node .nil (.node .nil (.node (.node .nil (.loop [(8,.c (.int .i64))] (.node .nil (.join [] (.node .nil (.node .nil (.node (.node .nil (.loop [(9,.c .slice),(10,.c .slice),(26,.c (.int .i64))] (.node .nil (.node .nil (.join [(9,.c .slice),(10,.c .slice)] .nil .nil))))) (.join [] .nil .nil)))) .nil)))) .nil)))
theorem Kj(x0:SliceV)(x1:SliceV)(x2:Int){K:cL [.c .ptr]→ad→Prop}{h0:ad}(h:EB x0 x1 x2 K h0):HC PG zv (N3 x0 x1 x2) [.c .ptr] K h0:=dJ Ro Tryz.func140 Tryz.call140 rfl rfl (by kernel_rfl) h
def rC(x0:Option Addr)(K:(Bool)→ad→Prop)(h0:ad):Prop:=
 ∃a1,x0=some a1∧
 ∃v2:SliceV,bC h0 a1 3 v2∧
 LoopP (fun I3 (t4:Int) h5=>
 CondP (decide (t4<(v2.len:Int))) (
 (cD t4 v2.len∧∃a6,v2.a=some a6∧
 ∃v7,bl h5 a6 (t4.toNat*1) (.pointer v7)∧
 Join (fun(t21:Bool) h22=>
 CondP t21 (
 K false h22) (
 I3 (IntKind.wrap .i64 (t4+1)) h22)) (fun J8=>
 ∃a9,v7=some a9∧
 ∃v10,aQ h5 a9 0 v10∧
 CondP (v10.toList==(⟨#[]⟩:ByteArray).toList) (
 J8 true h5) (
 CondP (decide (t4>(0:Int))) (
 ∃a11,x0=some a11∧
 ∃v12:SliceV,bC h5 a11 3 v12∧
 (cD (IntKind.wrap .i64 (t4-1)) v12.len∧∃a13,v12.a=some a13∧
 ∃v14,bl h5 a13 ((IntKind.wrap .i64 (t4-1)).toNat*1) (.pointer v14)∧
 ∃a15,v14=some a15∧
 ∃v16,aQ h5 a15 0 v16∧
 ∃b17,(0:Int)≤(0:Int)∧v16[(0:Int).toNat]? =some b17∧
 ∃a18,v7=some a18∧
 ∃v19,aQ h5 a18 0 v19∧
 ∃b20,(0:Int)≤(0:Int)∧v19[(0:Int).toNat]? =some b20∧
 J8 (decide ((b17.toNat:Int)≥(b20.toNat:Int))) h5)) (
 J8 false h5))))) (
 K true h5)) 0 h0
noncomputable def yK:Ann:=.node .nil (.node (.node .nil (.loop [(10,.c (.int .i64))] (.node .nil (.node .nil (.node (.node .nil (.join [(43,.c .bool)] .nil .nil)) .nil))))) .nil)
theorem yx(x0:Option Addr){K:cL [.c .bool]→ad→Prop}{h0:ad}(h:rC x0 K h0):HC PG kr [.pointer x0] [.c .bool] K h0:=dJ yK Tryz.func141 Tryz.call141 rfl rfl (by kernel_rfl) h
def fk(x0:SliceV)(x1:Value)(K:(Bool)→ad→Prop)(h0:ad):Prop:=
 HC PG fK [.slice x0.a x0.len x0.cap,x1] cd (fun(e1:Int) h2=>
 K (decide (e1≥(0:Int))) h2) h0
theorem ja(x0:SliceV)(x1:Value){K:cL [.c .bool]→ad→Prop}{h0:ad}(h:fk x0 x1 K h0):HC PG cI [.slice x0.a x0.len x0.cap,x1] [.c .bool] K h0:=dJ .nil Tryz.func142 Tryz.call142 rfl rfl (by kernel_rfl) h
def vn(x0:Option Addr)(K:(Bool)→ad→Prop)(h0:ad):Prop:=
 HC PG jL [.pointer x0] [.c .bool] (fun(e1:Bool) h2=>
 K (!e1) h2) h0
theorem Cq(x0:Option Addr){K:cL [.c .bool]→ad→Prop}{h0:ad}(h:vn x0 K h0):HC PG ve [.pointer x0] [.c .bool] K h0:=dJ .nil Tryz.func143 Tryz.call143 rfl rfl (by kernel_rfl) h
def qJ(x0:Option Addr)(K:(Bool)→ad→Prop)(h0:ad):Prop:=
 Join (fun(t8:Bool) h9=>
 CondP t8 (
 K false h9) (
 ∃a10,x0=some a10∧
 ∃v11:SliceV,bC h9 a10 3 v11∧
 HC PG cI [.slice v11.a v11.len v11.cap,.func (.func pg) #[] #[]] [.c .bool] (fun(e12:Bool) h13=>
 K (!e12) h13) h9)) (fun J1=>
 HC PG kr [.pointer x0] [.c .bool] (fun(e2:Bool) h3=>
 CondP (!e2) (
 J1 true h3) (
 ∃a4,x0=some a4∧
 ∃v5,dT h3 a4 1 v5∧
 CondP (!v5) (
 ∃a6,x0=some a6∧
 ∃v7:SliceV,bC h3 a6 3 v7∧
 J1 (decide ((v7.len:Int)<(2:Int))) h3) (
 J1 false h3))) h0)
noncomputable def xa:Ann:=.node .nil (.node (.join [(20,.c .bool)] .nil .nil) .nil)
theorem wZ(x0:Option Addr){K:cL [.c .bool]→ad→Prop}{h0:ad}(h:qJ x0 K h0):HC PG jL [.pointer x0] [.c .bool] K h0:=dJ xa Tryz.func144 Tryz.call144 rfl rfl (by kernel_rfl) h
end Go.Proofs
