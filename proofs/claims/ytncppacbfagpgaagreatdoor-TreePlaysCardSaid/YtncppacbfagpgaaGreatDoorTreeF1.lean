/- A part of the proof that the named laws of this program answer true, whatever the input. -/
import Derived.Test.YtncppacbfagpgaaGreatDoorTreeF
set_option maxRecDepth 100000
set_option linter.unusedVariables false
open Array renaming size→bS,setIfInBounds→bP
open BitVec renaming ofInt→aq
open Int renaming fdiv→eD,tmod→cn
open Nat renaming beq→bN,min→dY
namespace Go.Proofs
open Go.Lift
def tG(x0:Int×Int×Int)(x1:Option Addr)(x2:SliceV)(K:(Int×Bool)→ad→Prop)(h0:ad):Prop:=
 At (hnew h0 (yM x0) cr) (fun h1=>
 At (hnew h1 [.pointer x1] bO) (fun h2=>
 At (hnew h2 [.slice x2.a x2.len x2.cap] M8) (fun h3=>
 At (hnew h3 [.int .i64 0] pf) (fun h4=>
 At (hnew h4 [.bool false] sZ) (fun h5=>
 ∃v6,aE h5 (aA h1)=some (.pointer v6)∧
 HC PG eS [.pointer v6] [.c .slice] (fun(e7:SliceV) h8=>
 ∃v9,aE h8 (aA h1)=some (.pointer v9)∧
 HC PG dQ [.pointer v9] [.c .bool] (fun(e10:Bool) h11=>
 CondP e10 (
 Join (fun(t16:Bool) h17=>
 CondP t16 (
 (Wr h17 (aA h3)∧
 At (hset h17 (aA h3) (.int .i64 0)) (fun h18=>
 (Wr h18 (aA h4)∧
 At (hset h18 (aA h4) (.bool false)) (fun h19=>
 ∃v20,aE h19 (aA h3)=some (.int .i64 v20)∧
 ∃v21,aE h19 (aA h4)=some (.bool v21)∧
 K (v20,v21) h19))))) (
 LoopP (fun I22 (t23:Int) h24=>
 CondP (decide (t23<(e7.len:Int))) (
 (cD t23 e7.len∧∃a25,e7.a=some a25∧
 ∃v26,aQ h24 (adr a25 (t23.toNat*2)) 0 v26∧
 ∃v27,aQ h24 (adr a25 (t23.toNat*2)) 1 v27∧
 nv h24 jN aj (gZ v26 v27) (fun h29=>
 ∃v30,ao h29 h0 0 v30∧
 ∃v31,ao h29 h0 1 v31∧
 ∃v32,ao h29 h0 2 v32∧
 ∃v33,aw h29 h24 0 v33∧
 ∃v34:SliceV,aE h29 (aA h2)=some (.slice v34.a v34.len v34.cap)∧
 HC PG eo [tK v30 v31 v32,.string v33] g5 (fun(e35:Int) h36=>
 (aE h36 (aA h2)=some (.slice v34.a v34.len v34.cap)∧
 HC PG mS (N1 e35 v34) [.c .bool] (fun(e37:Bool) h38=>
 CondP (!e37) (
 (Wr h38 (aA h3)∧
 At (hset h38 (aA h3) (.int .i64 0)) (fun h39=>
 (Wr h39 (aA h4)∧
 At (hset h39 (aA h4) (.bool false)) (fun h40=>
 ∃v41,aE h40 (aA h3)=some (.int .i64 v41)∧
 ∃v42,aE h40 (aA h4)=some (.bool v42)∧
 K (v41,v42) h40))))) (
 I22 (IntKind.wrap .i64 (t23+1)) h38)) h36)) h29))) (
 (Wr h24 (aA h3)∧
 At (hset h24 (aA h3) (.int .i64 (e7.len:Int))) (fun h43=>
 (Wr h43 (aA h4)∧
 At (hset h43 (aA h4) (.bool true)) (fun h44=>
 ∃v45,aE h44 (aA h3)=some (.int .i64 v45)∧
 ∃v46,aE h44 (aA h4)=some (.bool v46)∧
 K (v45,v46) h44)))))) 0 h17)) (fun J12=>
 ∃v13:SliceV,aE h11 (aA h2)=some (.slice v13.a v13.len v13.cap)∧
 CondP ((v13.len:Int) !=(13:Int)) (
 J12 true h11) (
 HC PG uL [.slice e7.a e7.len e7.cap] [.c .bool] (fun(e14:Bool) h15=>
 J12 (!e14) h15) h11))) (
 ∃v47:SliceV,aE h11 (aA h2)=some (.slice v47.a v47.len v47.cap)∧
 CondP (decide ((v47.len:Int)≥(13:Int))) (
 (Wr h11 (aA h3)∧
 At (hset h11 (aA h3) (.int .i64 0)) (fun h48=>
 (Wr h48 (aA h4)∧
 At (hset h48 (aA h4) (.bool false)) (fun h49=>
 ∃v50,aE h49 (aA h3)=some (.int .i64 v50)∧
 ∃v51,aE h49 (aA h4)=some (.bool v51)∧
 K (v50,v51) h49))))) (
 At (hnew h11 [.int .i64 0] pf) (fun h52=>
 (Wr h52 (aA h11)∧
 At (hset h52 (aA h11) (.int .i64 (e7.len:Int))) (fun h53=>
 ∃v54:SliceV,aE h53 (aA h2)=some (.slice v54.a v54.len v54.cap)∧
 ∃v55:SliceV,aE h53 (aA h2)=some (.slice v55.a v55.len v55.cap)∧
 ∃v56:SliceV,aE h53 (aA h2)=some (.slice v56.a v56.len v56.cap)∧
 (((0:Int)≤(v56.len:Int)∧(v56.len:Int)≤((v54.cap:Nat):Int))∧
 (((0:Int)≤(v55.len:Int)∧(v55.len:Int)≤(((v56.len:Int).toNat:Nat):Int))∧
 (Wr h53 (aA h2)∧
 At (hset h53 (aA h2) (.slice (aV v54.a 0 ((v56.len:Int).toNat) 1) (((v55.len:Int).toNat)-0) (((v56.len:Int).toNat)-0))) (fun h57=>
 ∃v58,aE h57 (aA h1)=some (.pointer v58)∧
 HC PG jU [.pointer v58] iG (fun(e59:Int) h60=>
 HC PG mp [.int .u32 e59] [.c .raw] (fun(e61:Value) h62=>
 RangeP PG e61 cd h62 (fun rdy63 bz64 (x65:Int) k66 h67=>
 (h67[(bS h62+1)]? =some rdy63∧At (bP h67 (bS h62+1) bz64) (fun h69=>
 ∃v71,aE h69 (aA h1)=some (.pointer v71)∧
 HC PG iL (un v71 x65) lh (fun(e72:(ByteArray×ByteArray)×Bool) h73=>
 nv h73 jN aj (rM e72.1) (fun h75=>
 Join (fun(t98:Bool) h99=>
 CondP t98 (
 (Wr h99 (aA h3)∧
 At (hset h99 (aA h3) (.int .i64 0)) (fun h100=>
 (Wr h100 (aA h4)∧
 At (hset h100 (aA h4) (.bool false)) (fun h101=>
 k66 (some .ret) h101))))) (
 k66 none h99)) (fun J76=>
 ∃v77,ao h75 h0 0 v77∧
 ∃v78,ao h75 h0 1 v78∧
 ∃v79,ao h75 h0 2 v79∧
 ∃v80,aw h75 h73 0 v80∧
 ∃v81:SliceV,aE h75 (aA h2)=some (.slice v81.a v81.len v81.cap)∧
 ((HC PG eo [tK v77 v78 v79,.string v80] g5 (fun(e82:Int) h83=>
 (aE h83 (aA h2)=some (.slice v81.a v81.len v81.cap)∧
 At (hnew h83 [.int .i64 x65] pf) (fun h84=>
 (aE h84 (aA h2)=some (.slice v81.a v81.len v81.cap)∧
 ∃xs85,SRow h84 (some (aA h83)) (1*1) xs85∧
 AppP (some [.int .i64 0]) 1 8 pf v81.a v81.len v81.cap 1 xs85 h84 (fun s86 h87=>
 HC PG mS (N1 e82 s86) [.c .bool] (fun(e88:Bool) h89=>
 J76 (!e88) h89) h87))))) h75)∧
 At (hnew h75 [.int .i64 x65] pf) (fun h90=>
 (aE h90 (aA h2)=some (.slice v81.a v81.len v81.cap)∧
 (aw h90 h73 0 v80∧
 ((ao h90 h0 0 v77∧ao h90 h0 1 v78∧ao h90 h0 2 v79)∧
 HC PG eo [tK v77 v78 v79,.string v80] g5 (fun(e91:Int) h92=>
 (aE h92 (aA h2)=some (.slice v81.a v81.len v81.cap)∧
 ∃xs93,SRow h92 (some (aA h75)) (1*1) xs93∧
 AppP (some [.int .i64 0]) 1 8 pf v81.a v81.len v81.cap 1 xs93 h92 (fun s94 h95=>
 HC PG mS (N1 e91 s94) [.c .bool] (fun(e96:Bool) h97=>
 J76 (!e96) h97) h95))) h90)))))))) h69))) (fun h102=>
 ∃v105,aE h102 (aA h1)=some (.pointer v105)∧
 HC PG gc [.pointer v105] iG (fun(e106:Int) h107=>
 HC PG mp [.int .u32 e106] [.c .raw] (fun(e108:Value) h109=>
 RangeP PG e108 cd h109 (fun rdy110 bz111 (x112:Int) k113 h114=>
 (h114[(bS h109+1)]? =some rdy110∧At (bP h114 (bS h109+1) bz111) (fun h116=>
 ∃v118,aE h116 (aA h1)=some (.pointer v118)∧
 HC PG ij (un v118 x112) jR (fun(e119:(Option Addr)×Bool) h120=>
 Join (fun(t132:Int×Bool) h133=>
 Join (fun(t135:Bool) h136=>
 CondP t135 (
 (Wr h136 (aA h3)∧
 At (hset h136 (aA h3) (.int .i64 0)) (fun h137=>
 (Wr h137 (aA h4)∧
 At (hset h137 (aA h4) (.bool false)) (fun h138=>
 k113 (some .ret) h138))))) (
 ∃v139,aE h136 (aA h11)=some (.int .i64 v139)∧
 (Wr h136 (aA h11)∧
 At (hset h136 (aA h11) (.int .i64 (IntKind.wrap .i64 (v139+t132.1)))) (fun h140=>
 k113 none h140)))) (fun J134=>
 CondP (!t132.2) (
 J134 true h133) (
 J134 (decide (t132.1<(2:Int))) h133))) (fun J121=>
 ∃v122,ao h120 h0 0 v122∧
 ∃v123,ao h120 h0 1 v123∧
 ∃v124,ao h120 h0 2 v124∧
 ∃v125:SliceV,aE h120 (aA h2)=some (.slice v125.a v125.len v125.cap)∧
 At (hnew h120 [.int .i64 x112] pf) (fun h126=>
 (aE h126 (aA h2)=some (.slice v125.a v125.len v125.cap)∧
 ((ao h126 h0 0 v122∧ao h126 h0 1 v123∧ao h126 h0 2 v124)∧
 ∃xs127,SRow h126 (some (aA h120)) (1*1) xs127∧
 AppP (some [.int .i64 0]) 1 8 pf v125.a v125.len v125.cap 1 xs127 h126 (fun s128 h129=>
 ((ao h129 h0 0 v122∧ao h129 h0 1 v123∧ao h129 h0 2 v124)∧
 HC PG mU [tK v122 v123 v124,.pointer e119.1,.slice s128.a s128.len s128.cap] kW (fun(e130:Int×Bool) h131=>
 J121 (e130.1,e130.2) h131) h129))))))) h116))) (fun h141=>
 ∃v144,aE h141 (aA h11)=some (.int .i64 v144)∧
 (Wr h141 (aA h3)∧
 At (hset h141 (aA h3) (.int .i64 v144)) (fun h145=>
 (Wr h145 (aA h4)∧
 At (hset h145 (aA h4) (.bool true)) (fun h146=>
 (h146[(bS h109)]? =some (.deferred (some []))∧At (bP h146 (bS h109) (.deferred none)) (fun h147=>
 (h147[(bS h62)]? =some (.deferred (some []))∧At (bP h147 (bS h62) (.deferred none)) (fun h148=>
 ∃v149,aE h148 (aA h3)=some (.int .i64 v149)∧
 ∃v150,aE h148 (aA h4)=some (.bool v150)∧
 K (v149,v150) h148))))))))) (fun i117 h142=>
 bif bN i117 4 then(
 ∃v151,aE h142 (aA h11)=some (.int .i64 v151)∧
 (Wr h142 (aA h3)∧
 At (hset h142 (aA h3) (.int .i64 v151)) (fun h152=>
 (Wr h152 (aA h4)∧
 At (hset h152 (aA h4) (.bool true)) (fun h153=>
 (h153[(bS h109)]? =some (.deferred (some []))∧At (bP h153 (bS h109) (.deferred none)) (fun h154=>
 (h154[(bS h62)]? =some (.deferred (some []))∧At (bP h154 (bS h62) (.deferred none)) (fun h155=>
 ∃v156,aE h155 (aA h3)=some (.int .i64 v156)∧
 ∃v157,aE h155 (aA h4)=some (.bool v157)∧
 K (v156,v157) h155)))))))))else(
 False)) (fun h143=>
 (h143[(bS h109)]? =some (.deferred (some []))∧At (bP h143 (bS h109) (.deferred none)) (fun h158=>
 (h158[(bS h62)]? =some (.deferred (some []))∧At (bP h158 (bS h62) (.deferred none)) (fun h159=>
 ∃v160,aE h159 (aA h3)=some (.int .i64 v160)∧
 ∃v161,aE h159 (aA h4)=some (.bool v161)∧
 K (v160,v161) h159)))))) h107) h102) (fun i70 h103=>
 bif bN i70 2 then(
 ∃v162,aE h103 (aA h1)=some (.pointer v162)∧
 HC PG gc [.pointer v162] iG (fun(e163:Int) h164=>
 HC PG mp [.int .u32 e163] [.c .raw] (fun(e165:Value) h166=>
 RangeP PG e165 cd h166 (fun rdy167 bz168 (x169:Int) k170 h171=>
 (h171[(bS h166+1)]? =some rdy167∧At (bP h171 (bS h166+1) bz168) (fun h173=>
 ∃v175,aE h173 (aA h1)=some (.pointer v175)∧
 HC PG ij (un v175 x169) jR (fun(e176:(Option Addr)×Bool) h177=>
 Join (fun(t189:Int×Bool) h190=>
 Join (fun(t192:Bool) h193=>
 CondP t192 (
 (Wr h193 (aA h3)∧
 At (hset h193 (aA h3) (.int .i64 0)) (fun h194=>
 (Wr h194 (aA h4)∧
 At (hset h194 (aA h4) (.bool false)) (fun h195=>
 k170 (some .ret) h195))))) (
 ∃v196,aE h193 (aA h11)=some (.int .i64 v196)∧
 (Wr h193 (aA h11)∧
 At (hset h193 (aA h11) (.int .i64 (IntKind.wrap .i64 (v196+t189.1)))) (fun h197=>
 k170 none h197)))) (fun J191=>
 CondP (!t189.2) (
 J191 true h190) (
 J191 (decide (t189.1<(2:Int))) h190))) (fun J178=>
 ∃v179,ao h177 h0 0 v179∧
 ∃v180,ao h177 h0 1 v180∧
 ∃v181,ao h177 h0 2 v181∧
 ∃v182:SliceV,aE h177 (aA h2)=some (.slice v182.a v182.len v182.cap)∧
 At (hnew h177 [.int .i64 x169] pf) (fun h183=>
 (aE h183 (aA h2)=some (.slice v182.a v182.len v182.cap)∧
 ((ao h183 h0 0 v179∧ao h183 h0 1 v180∧ao h183 h0 2 v181)∧
 ∃xs184,SRow h183 (some (aA h177)) (1*1) xs184∧
 AppP (some [.int .i64 0]) 1 8 pf v182.a v182.len v182.cap 1 xs184 h183 (fun s185 h186=>
 ((ao h186 h0 0 v179∧ao h186 h0 1 v180∧ao h186 h0 2 v181)∧
 HC PG mU [tK v179 v180 v181,.pointer e176.1,.slice s185.a s185.len s185.cap] kW (fun(e187:Int×Bool) h188=>
 J178 (e187.1,e187.2) h188) h186))))))) h173))) (fun h198=>
 ∃v201,aE h198 (aA h11)=some (.int .i64 v201)∧
 (Wr h198 (aA h3)∧
 At (hset h198 (aA h3) (.int .i64 v201)) (fun h202=>
 (Wr h202 (aA h4)∧
 At (hset h202 (aA h4) (.bool true)) (fun h203=>
 (h203[(bS h166)]? =some (.deferred (some []))∧At (bP h203 (bS h166) (.deferred none)) (fun h204=>
 (h204[(bS h62)]? =some (.deferred (some []))∧At (bP h204 (bS h62) (.deferred none)) (fun h205=>
 ∃v206,aE h205 (aA h3)=some (.int .i64 v206)∧
 ∃v207,aE h205 (aA h4)=some (.bool v207)∧
 K (v206,v207) h205))))))))) (fun i174 h199=>
 bif bN i174 4 then(
 ∃v208,aE h199 (aA h11)=some (.int .i64 v208)∧
 (Wr h199 (aA h3)∧
 At (hset h199 (aA h3) (.int .i64 v208)) (fun h209=>
 (Wr h209 (aA h4)∧
 At (hset h209 (aA h4) (.bool true)) (fun h210=>
 (h210[(bS h166)]? =some (.deferred (some []))∧At (bP h210 (bS h166) (.deferred none)) (fun h211=>
 (h211[(bS h62)]? =some (.deferred (some []))∧At (bP h211 (bS h62) (.deferred none)) (fun h212=>
 ∃v213,aE h212 (aA h3)=some (.int .i64 v213)∧
 ∃v214,aE h212 (aA h4)=some (.bool v214)∧
 K (v213,v214) h212)))))))))else(
 False)) (fun h200=>
 (h200[(bS h166)]? =some (.deferred (some []))∧At (bP h200 (bS h166) (.deferred none)) (fun h215=>
 (h215[(bS h62)]? =some (.deferred (some []))∧At (bP h215 (bS h62) (.deferred none)) (fun h216=>
 ∃v217,aE h216 (aA h3)=some (.int .i64 v217)∧
 ∃v218,aE h216 (aA h4)=some (.bool v218)∧
 K (v217,v218) h216)))))) h164) h103)else(
 False)) (fun h104=>
 (h104[(bS h62)]? =some (.deferred (some []))∧At (bP h104 (bS h62) (.deferred none)) (fun h219=>
 ∃v220,aE h219 (aA h3)=some (.int .i64 v220)∧
 ∃v221,aE h219 (aA h4)=some (.bool v221)∧
 K (v220,v221) h219)))) h60) h57)))))))))) h8) h5)))))
noncomputable def FB:Ann:=.node .nil (.node .nil (.node (.node .nil (.node (.node (.join [(31,.c .bool)] .nil .nil) (.node (.node .nil (.loop [(34,.c (.int .i64))] .nil)) .nil)) .nil)) (.node .nil (.node .nil (.node .nil (.node (.node .nil (.rf [.c (.int .i64)] .nil (.node .nil (.join [(78,.c .bool)] .nil .nil)))) (.node (.node .nil (.rf [.c (.int .i64)] .nil (.node .nil (.join [(18,.c (.int .i64)),(19,.c .bool)] .nil (.node (.join [(104,.c .bool)] .nil .nil) .nil))))) .nil)))))))
theorem xr(x0:Int×Int×Int)(x1:Option Addr)(x2:SliceV){K:cL kW→ad→Prop}{h0:ad}(h:tG x0 x1 x2 K h0):HC PG mU [Jj x0,.pointer x1,.slice x2.a x2.len x2.cap] kW K h0:=UZ FB Tryz.func145 Tryz.call145 rfl rfl (by kernel_rfl) h
def Al(K:(Option Addr)→ad→Prop)(h0:ad):Prop:=
 At (hnew h0 Pw bD) (fun h1=>
 K (some (aA h0)) h1)
theorem H9{K:cL [.c .ptr]→ad→Prop}{h0:ad}(h:Al K h0):HC PG oC [] [.c .ptr] K h0:=dJ .nil Tryz.func146 Tryz.call146 rfl rfl (by kernel_rfl) h
def Ae(x0:Option Addr)(K:(Option Addr)→ad→Prop)(h0:ad):Prop:=
 CondP x0.isNone (
 HC PG pR [] [.c .ptr] (fun(e1:Option Addr) h2=>
 K e1 h2) h0) (
 K x0 h0)
theorem H2(x0:Option Addr){K:cL [.c .ptr]→ad→Prop}{h0:ad}(h:Ae x0 K h0):HC PG ox [.pointer x0] [.c .ptr] K h0:=dJ .nil Tryz.func147 Tryz.call147 rfl rfl (by kernel_rfl) h
def ue(x0:Option Addr)(x1:Option Addr)(x2:ByteArray)(x3:ByteArray)(K:((Option Addr)×Bool×Bool)→ad→Prop)(h0:ad):Prop:=
 CondP (x2.toList==(⟨#[]⟩:ByteArray).toList) (
 Join (fun(t6:Bool) h7=>
 CondP t6 (
 K (x0,false,false) h7) (
 ∃a8,x0=some a8∧
 ∃v9,dT h7 a8 1 v9∧
 HC PG ed (lI x0 x1) [.c .ptr] (fun(e10:Option Addr) h11=>
 (dT h11 a8 1 v9∧
 HC PG jJ (qL e10 x3) [.c .ptr] (fun(e12:Option Addr) h13=>
 (dT h13 a8 1 v9∧
 K (e12, !v9,true) h13)) h11)) h7)) (fun J1=>
 ∃a2,x0=some a2∧
 ∃v3,dT h0 a2 1 v3∧
 CondP v3 (
 ∃a4,x0=some a4∧
 ∃v5,aQ h0 a4 2 v5∧
 J1 (v5.toList==x3.toList) h0) (
 J1 false h0))) (
 ∃b14,(0:Int)≤(0:Int)∧x2[(0:Int).toNat]? =some b14∧
 HC PG jq (C2 x0 (b14.toNat:Int)) kW (fun(e15:Int×Bool) h16=>
 CondP (!e15.2) (
 HC PG ed (lI x0 x1) [.c .ptr] (fun(e17:Option Addr) h18=>
 ∃a19,e17=some a19∧
 ∃v20:SliceV,bC h18 a19 3 v20∧
 HC PG tl (Tn x1 x2 x3) [.c .ptr] (fun(e21:Option Addr) h22=>
 (bC h22 a19 3 v20∧
 At (hnew h22 [.pointer e21] bI) (fun h23=>
 (bC h23 a19 3 v20∧
 HC PG eA [.slice v20.a v20.len v20.cap,.int .i64 e15.1,.slice (some (aA h22)) 1 1] [.c .slice] (fun(e24:SliceV) h25=>
 ∃a26,e17=some a26∧
 (cT h25 (adr a26 3) (.slice e24.a e24.len e24.cap) (fun h27=>
 K (e17,true,true) h27))) h23)))) h18) h16) (
 ∃a28,x0=some a28∧
 ∃v29:SliceV,bC h16 a28 3 v29∧
 (cD e15.1 v29.len∧∃a30,v29.a=some a30∧
 ∃v31,bl h16 a30 (e15.1.toNat*1) (.pointer v31)∧
 ∃a32,v31=some a32∧
 ∃v33,aQ h16 a32 0 v33∧
 HC PG th (gZ x2 v33) cd (fun(e34:Int) h35=>
 Join (fun(t41:Option Addr) h42=>
 (((0:Int)≤e34∧e34≤((x2.size:Nat):Int))∧
 HC PG mo (PI t41 x1 (x2.extract e34.toNat x2.size) x3) rV (fun(e43:(Option Addr)×Bool×Bool) h44=>
 CondP (!e43.2.2) (
 K (x0,false,false) h44) (
 HC PG ed (lI x0 x1) [.c .ptr] (fun(e45:Option Addr) h46=>
 ∃a47,e45=some a47∧
 ∃v48:SliceV,bC h46 a47 3 v48∧
 (cD e15.1 v48.len∧∃a49,v48.a=some a49∧
 (cT h46 (adr a49 (e15.1.toNat*1)) (.pointer e43.1) (fun h50=>
 K (e45,e43.2.1,true) h50)))) h44)) h42)) (fun J36=>
 ∃a37,v31=some a37∧
 ∃v38,aQ h35 a37 0 v38∧
 CondP (decide (e34<(v38.size:Int))) (
 HC PG nB (GQ v31 x1 e34) [.c .ptr] (fun(e39:Option Addr) h40=>
 J36 e39 h40) h35) (
 J36 v31 h35))) h16))) h0)
noncomputable def Bv:Ann:=.node .nil (.node (.node .nil (.node (.node (.join [(33,.c .bool)] .nil .nil) .nil) .nil)) (.node .nil (.node .nil (.node .nil (.node .nil (.join [(14,.c .ptr)] .nil .nil))))))
theorem Bj(x0:Option Addr)(x1:Option Addr)(x2:ByteArray)(x3:ByteArray){K:cL rV→ad→Prop}{h0:ad}(h:ue x0 x1 x2 x3 K h0):HC PG mo (PI x0 x1 x2 x3) rV K h0:=dJ Bv Tryz.func148 Tryz.call148 rfl rfl (by kernel_rfl) h
def pF(x0:Int×Int×Int×(Option Addr)×ByteArray×Int)(x1:Option Addr)(x2:ByteArray×ByteArray)(x3:Int)(K:((Option Addr)×Bool×Bool)→ad→Prop)(h0:ad):Prop:=
 At (hnew h0 (Hg x0) cK) (fun h1=>
 At (hnew h1 (rM x2) aj) (fun h2=>
 HC PG dQ [.pointer x1] [.c .bool] (fun(e3:Bool) h4=>
 CondP e3 (
 ∃v5,aw h4 h1 0 v5∧
 HC PG pB (qL x1 v5) kq (fun(e6:ByteArray×Bool) h7=>
 Join (fun(t10:Bool) h11=>
 CondP t10 (
 K (x1,false,false) h11) (
 ∃v12,aI h11 h0 3 v12∧
 ∃v13,aw h11 h1 0 v13∧
 ∃v14,aw h11 h1 1 v14∧
 HC PG jh [.pointer x1,.pointer v12,pn v13 v14] [.c .ptr] (fun(e15:Option Addr) h16=>
 K (e15, !e6.2,true) h16) h11)) (fun J8=>
 CondP e6.2 (
 ∃v9,aw h7 h1 1 v9∧
 J8 (e6.1.toList==v9.toList) h7) (
 J8 false h7))) h4) (
 ∃v17,ao h4 h0 5 v17∧
 HC PG kw (lJ v17 x3) cd (fun(e18:Int) h19=>
 HC PG iL (un x1 e18) lh (fun(e20:(ByteArray×ByteArray)×Bool) h21=>
 nv h21 jN aj (rM e20.1) (fun h23=>
 CondP e20.2 (
 ∃v24,aw h23 h21 0 v24∧
 ∃v25,aw h23 h21 1 v25∧
 ∃v26,aw h23 h1 0 v26∧
 ∃v27,aw h23 h1 1 v27∧
 CondP ((v24.toList==v26.toList)&&((v25.toList==v27.toList)&&true)) (
 K (x1,false,false) h23) (
 ∃v28,aw h23 h21 0 v28∧
 ∃v29,aw h23 h1 0 v29∧
 CondP (v28.toList==v29.toList) (
 ∃v30,aI h23 h0 3 v30∧
 ∃v31,aw h23 h1 0 v31∧
 ∃v32,aw h23 h1 1 v32∧
 HC PG fy [.pointer x1,.pointer v30,.int .i64 e18,pn v31 v32] [.c .ptr] (fun(e33:Option Addr) h34=>
 K (e33,false,true) h34) h23) (
 ∃v35,aI h23 h0 3 v35∧
 ∃v36,ao h23 h0 0 v36∧
 ∃v37,ao h23 h0 1 v37∧
 ∃v38,ao h23 h0 2 v38∧
 ∃v39,aI h23 h0 3 v39∧
 ∃v40,aw h23 h0 4 v40∧
 ∃v41,ao h23 h0 5 v41∧
 ∃v42,aw h23 h21 0 v42∧
 ∃v43,aw h23 h21 1 v43∧
 ∃v44,aw h23 h1 0 v44∧
 ∃v45,aw h23 h1 1 v45∧
 HC PG lx [xM v36 v37 v38 v39 v40 v41,pn v42 v43,pn v44 v45,.int .i64 (IntKind.wrap .i64 (x3+1))] [.c .ptr] (fun(e46:Option Addr) h47=>
 (aI h47 h0 3 v35∧
 HC PG gH (CZ x1 v35 e18 e46) [.c .ptr] (fun(e48:Option Addr) h49=>
 K (e48,true,true) h49) h47)) h23))) (
 HC PG ij (un x1 e18) jR (fun(e50:(Option Addr)×Bool) h51=>
 CondP (!e50.2) (
 ∃v52,aI h51 h0 3 v52∧
 ∃v53,aw h51 h1 0 v53∧
 ∃v54,aw h51 h1 1 v54∧
 HC PG fy [.pointer x1,.pointer v52,.int .i64 e18,pn v53 v54] [.c .ptr] (fun(e55:Option Addr) h56=>
 K (e55,true,true) h56) h51) (
 ∃v57,ao h51 h0 0 v57∧
 ∃v58,ao h51 h0 1 v58∧
 ∃v59,ao h51 h0 2 v59∧
 ∃v60,aI h51 h0 3 v60∧
 ∃v61,aw h51 h0 4 v61∧
 ∃v62,ao h51 h0 5 v62∧
 ∃v63,aw h51 h1 0 v63∧
 ∃v64,aw h51 h1 1 v64∧
 HC PG iM [xM v57 v58 v59 v60 v61 v62,.pointer e50.1,pn v63 v64,.int .i64 (IntKind.wrap .i64 (x3+1))] rV (fun(e65:(Option Addr)×Bool×Bool) h66=>
 CondP (!e65.2.2) (
 K (x1,false,false) h66) (
 ∃v67,aI h66 h0 3 v67∧
 HC PG gH (CZ x1 v67 e18 e65.1) [.c .ptr] (fun(e68:Option Addr) h69=>
 K (e68,e65.2.1,true) h69) h66)) h51)) h23))) h19) h4)) h2))
noncomputable def Bw:Ann:=.node .nil (.node (.node .nil (.node (.node .nil (.node (.join [(36,.c .bool)] .nil .nil) .nil)) .nil)) .nil)
theorem tY(x0:Int×Int×Int×(Option Addr)×ByteArray×Int)(x1:Option Addr)(x2:ByteArray×ByteArray)(x3:Int){K:cL rV→ad→Prop}{h0:ad}(h:pF x0 x1 x2 x3 K h0):HC PG iM [TN x0,.pointer x1,Nj x2,.int .i64 x3] rV K h0:=dJ Bw Tryz.func149 Tryz.call149 rfl rfl (by kernel_rfl) h
def Am(x0:Option Addr)(K:(Option Addr)→ad→Prop)(h0:ad):Prop:=
 CondP x0.isNone (
 HC PG mW [] [.c .ptr] (fun(e1:Option Addr) h2=>
 K e1 h2) h0) (
 K x0 h0)
theorem Ia(x0:Option Addr){K:cL [.c .ptr]→ad→Prop}{h0:ad}(h:Am x0 K h0):HC PG kz [.pointer x0] [.c .ptr] K h0:=dJ .nil Tryz.func150 Tryz.call150 rfl rfl (by kernel_rfl) h
def sF(x0:Option Addr)(x1:Option Addr)(x2:ByteArray)(K:((Option Addr)×Bool)→ad→Prop)(h0:ad):Prop:=
 CondP (x2.toList==(⟨#[]⟩:ByteArray).toList) (
 ∃a1,x0=some a1∧
 ∃v2,dT h0 a1 1 v2∧
 CondP (!v2) (
 K (x0,false) h0) (
 HC PG ed (lI x0 x1) [.c .ptr] (fun(e3:Option Addr) h4=>
 ∃a5,e3=some a5∧
 (cT h4 (adr a5 1) (.bool false) (fun h6=>
 ∃a7,e3=some a7∧
 (cT h6 (adr a7 2) (.string (⟨#[]⟩:ByteArray)) (fun h8=>
 K (e3,true) h8))))) h0)) (
 ∃b9,(0:Int)≤(0:Int)∧x2[(0:Int).toNat]? =some b9∧
 HC PG jq (C2 x0 (b9.toNat:Int)) kW (fun(e10:Int×Bool) h11=>
 CondP (!e10.2) (
 K (x0,false) h11) (
 ∃a12,x0=some a12∧
 ∃v13:SliceV,bC h11 a12 3 v13∧
 (cD e10.1 v13.len∧∃a14,v13.a=some a14∧
 ∃v15,bl h11 a14 (e10.1.toNat*1) (.pointer v15)∧
 ∃a16,v15=some a16∧
 ∃v17,aQ h11 a16 0 v17∧
 HC PG uB (gZ x2 v17) kq (fun(e18:ByteArray×Bool) h19=>
 CondP (!e18.2) (
 K (x0,false) h19) (
 ∃a20,x0=some a20∧
 ∃v21:SliceV,bC h19 a20 3 v21∧
 (cD e10.1 v21.len∧∃a22,v21.a=some a22∧
 ∃v23,bl h19 a22 (e10.1.toNat*1) (.pointer v23)∧
 HC PG ll (NZ v23 x1 e18.1) jR (fun(e24:(Option Addr)×Bool) h25=>
 CondP (!e24.2) (
 K (x0,false) h25) (
 HC PG ed (lI x0 x1) [.c .ptr] (fun(e26:Option Addr) h27=>
 HC PG oy (lI e24.1 x1) [.c .ptr] (fun(e28:Option Addr) h29=>
 CondP e28.isNone (
 ∃a30,e26=some a30∧
 ∃v31:SliceV,bC h29 a30 3 v31∧
 HC PG eB (Iw v31 e10.1 (IntKind.wrap .i64 (e10.1+1))) [.c .slice] (fun(e32:SliceV) h33=>
 ∃a34,e26=some a34∧
 (cT h33 (adr a34 3) (.slice e32.a e32.len e32.cap) (fun h35=>
 K (e26,true) h35))) h29) (
 ∃a36,e26=some a36∧
 ∃v37:SliceV,bC h29 a36 3 v37∧
 (cD e10.1 v37.len∧∃a38,v37.a=some a38∧
 (cT h29 (adr a38 (e10.1.toNat*1)) (.pointer e28) (fun h39=>
 K (e26,true) h39))))) h27) h25)) h19))) h11))) h0)
theorem zQ(x0:Option Addr)(x1:Option Addr)(x2:ByteArray){K:cL jR→ad→Prop}{h0:ad}(h:sF x0 x1 x2 K h0):HC PG ll (NZ x0 x1 x2) jR K h0:=dJ .nil Tryz.func151 Tryz.call151 rfl rfl (by kernel_rfl) h
def oM(x0:Int×Int×Int×(Option Addr)×ByteArray×Int)(x1:Option Addr)(x2:Int)(K:((Option Addr)×Bool)→ad→Prop)(h0:ad):Prop:=
 At (hnew h0 (Hg x0) cK) (fun h1=>
 HC PG dQ [.pointer x1] [.c .bool] (fun(e2:Bool) h3=>
 CondP e2 (
 ∃v4,aw h3 h0 4 v4∧
 HC PG pB (qL x1 v4) kq (fun(e5:ByteArray×Bool) h6=>
 CondP (!e5.2) (
 K (x1,false) h6) (
 ∃v7,aI h6 h0 3 v7∧
 ∃v8,aw h6 h0 4 v8∧
 HC PG pA (NZ x1 v7 v8) [.c .ptr] (fun(e9:Option Addr) h10=>
 K (e9,true) h10) h6)) h3) (
 ∃v11,ao h3 h0 5 v11∧
 HC PG kw (lJ v11 x2) cd (fun(e12:Int) h13=>
 HC PG iL (un x1 e12) lh (fun(e14:(ByteArray×ByteArray)×Bool) h15=>
 nv h15 jN aj (rM e14.1) (fun h17=>
 CondP e14.2 (
 ∃v18,aw h17 h15 0 v18∧
 ∃v19,aw h17 h0 4 v19∧
 CondP (!(v18.toList==v19.toList)) (
 K (x1,false) h17) (
 ∃v20,aI h17 h0 3 v20∧
 HC PG lr (GQ x1 v20 e12) [.c .ptr] (fun(e21:Option Addr) h22=>
 K (e21,true) h22) h17)) (
 HC PG ij (un x1 e12) jR (fun(e23:(Option Addr)×Bool) h24=>
 CondP (!e23.2) (
 K (x1,false) h24) (
 ∃v25,ao h24 h0 0 v25∧
 ∃v26,ao h24 h0 1 v26∧
 ∃v27,ao h24 h0 2 v27∧
 ∃v28,aI h24 h0 3 v28∧
 ∃v29,aw h24 h0 4 v29∧
 ∃v30,ao h24 h0 5 v30∧
 HC PG lw [xM v25 v26 v27 v28 v29 v30,.pointer e23.1,.int .i64 (IntKind.wrap .i64 (x2+1))] jR (fun(e31:(Option Addr)×Bool) h32=>
 CondP (!e31.2) (
 K (x1,false) h32) (
 HC PG tA [.pointer e31.1] lh (fun(e33:(ByteArray×ByteArray)×Bool) h34=>
 nv h34 jN aj (rM e33.1) (fun h36=>
 CondP e33.2 (
 ∃v37,aI h36 h0 3 v37∧
 ∃v38,aw h36 h34 0 v38∧
 ∃v39,aw h36 h34 1 v39∧
 HC PG fy [.pointer x1,.pointer v37,.int .i64 e12,pn v38 v39] [.c .ptr] (fun(e40:Option Addr) h41=>
 K (e40,true) h41) h36) (
 ∃v42,aI h36 h0 3 v42∧
 HC PG gH (CZ x1 v42 e12 e31.1) [.c .ptr] (fun(e43:Option Addr) h44=>
 K (e43,true) h44) h36))) h32)) h24)) h17))) h13) h3)) h1)
theorem su(x0:Int×Int×Int×(Option Addr)×ByteArray×Int)(x1:Option Addr)(x2:Int){K:cL jR→ad→Prop}{h0:ad}(h:oM x0 x1 x2 K h0):HC PG lw [TN x0,.pointer x1,.int .i64 x2] jR K h0:=dJ .nil Tryz.func152 Tryz.call152 rfl rfl (by kernel_rfl) h
def sE(x0:Option Addr)(x1:Int)(K:(Int×Bool)→ad→Prop)(h0:ad):Prop:=
 ∃a1,x0=some a1∧
 ∃v2:SliceV,bC h0 a1 3 v2∧
 HC PG d9 [.slice v2.a v2.len v2.cap,.int .u8 x1,.func (.func mH) #[] #[]] kW (fun(e3:Int×Bool) h4=>
 K (e3.1,e3.2) h4) h0
theorem zP(x0:Option Addr)(x1:Int){K:cL kW→ad→Prop}{h0:ad}(h:sE x0 x1 K h0):HC PG jq (C2 x0 x1) kW K h0:=dJ .nil Tryz.func153 Tryz.call153 rfl rfl (by kernel_rfl) h
def Ep(x0:ByteArray)(x1:ByteArray)(K:(ByteArray×Bool)→ad→Prop)(h0:ad):Prop:=
 HC PG pO (gZ x0 x1) [.c .bool] (fun(e1:Bool) h2=>
 CondP (!e1) (
 K ((⟨#[]⟩:ByteArray),false) h2) (
 (((0:Int)≤(x1.size:Int)∧(x1.size:Int)≤((x0.size:Nat):Int))∧
 K (x0.extract ((x1.size:Int).toNat) x0.size,true) h2))) h0
theorem Ms(x0:ByteArray)(x1:ByteArray){K:cL kq→ad→Prop}{h0:ad}(h:Ep x0 x1 K h0):HC PG uB (gZ x0 x1) kq K h0:=dJ .nil Tryz.func154 Tryz.call154 rfl rfl (by kernel_rfl) h
def qc(x0:Option Addr)(K:(Bool)→ad→Prop)(h0:ad):Prop:=
 CondP (!(x0.isNone)) (
 ∃a1,x0=some a1∧
 ∃v2,dT h0 a1 4 v2∧
 K v2 h0) (
 K false h0)
theorem wm(x0:Option Addr){K:cL [.c .bool]→ad→Prop}{h0:ad}(h:qc x0 K h0):HC PG dQ [.pointer x0] [.c .bool] K h0:=dJ .nil Tryz.func155 Tryz.call155 rfl rfl (by kernel_rfl) h
def EL(x0:Option Addr)(x1:ByteArray)(K:(ByteArray×Bool)→ad→Prop)(h0:ad):Prop:=
 HC PG eS [.pointer x0] [.c .slice] (fun(e1:SliceV) h2=>
 HC PG p7 (yR e1 x1) kW (fun(e3:Int×Bool) h4=>
 CondP (!e3.2) (
 K ((⟨#[]⟩:ByteArray),false) h4) (
 (cD e3.1 e1.len∧∃a5,e1.a=some a5∧
 ∃v6,aQ h4 (adr a5 (e3.1.toNat*2)) 1 v6∧
 K (v6,true) h4))) h2) h0
theorem MM(x0:Option Addr)(x1:ByteArray){K:cL kq→ad→Prop}{h0:ad}(h:EL x0 x1 K h0):HC PG pB (qL x0 x1) kq K h0:=dJ .nil Tryz.func156 Tryz.call156 rfl rfl (by kernel_rfl) h
def EK(x0:Int)(x1:Int)(K:(Int)→ad→Prop)(h0:ad):Prop:=
 Join (fun(t2:Bool) h3=>
 CondP t2 (
 K 0 h3) (
 ((0:Int)≤(IntKind.wrap .i64 (5*x1))∧
 Bd (eD x0 (2^(min (IntKind.wrap .i64 (5*x1):Int).toNat (IntKind.bits .u64))):Int) (fun n4=>
 Bd (IntKind.wrap .u64 (aq (IntKind.bits .u64) n4&&&aq (IntKind.bits .u64) 31).toNat:Int) (fun n5=>
 K (IntKind.wrap .i64 n5) h3))))) (fun J1=>
 CondP (decide (x1<(0:Int))) (
 J1 true h0) (
 J1 (decide (x1≥(13:Int))) h0))
noncomputable def MX:Ann:=.node .nil (.node (.join [(10,.c .bool)] .nil .nil) .nil)
theorem ML(x0:Int)(x1:Int){K:cL cd→ad→Prop}{h0:ad}(h:EK x0 x1 K h0):HC PG kw (lJ x0 x1) cd K h0:=dJ MX Tryz.func157 Tryz.call157 rfl rfl (by kernel_rfl) h
def ui(x0:Option Addr)(x1:Int)(K:((ByteArray×ByteArray)×Bool)→ad→Prop)(h0:ad):Prop:=
 At (hnew h0 jN aj) (fun h1=>
 HC PG jU [.pointer x0] iG (fun(e2:Int) h3=>
 HC PG fV (nm e2 x1) [.c .bool] (fun(e4:Bool) h5=>
 CondP (!e4) (
 (fj h5 h0 jN (fun h6=>
 ∃v7,aw h6 h0 0 v7∧
 ∃v8,aw h6 h0 1 v8∧
 K ((v7,v8),false) h6))) (
 ∃a9,x0=some a9∧
 ∃v10:SliceV,bC h5 (adr a9 0) 2 v10∧
 ∃a11,x0=some a11∧
 ∃v12,g7 h5 (adr a11 0) 0 v12∧
 HC PG dB (nm v12 x1) cd (fun(e13:Int) h14=>
 (bC h14 (adr a9 0) 2 v10∧
 (cD e13 v10.len∧∃a15,v10.a=some a15∧
 ∃v16,aQ h14 (adr a15 (e13.toNat*2)) 0 v16∧
 ∃v17,aQ h14 (adr a15 (e13.toNat*2)) 1 v17∧
 (fj h14 h0 (gZ v16 v17) (fun h18=>
 ∃v19,aw h18 h0 0 v19∧
 ∃v20,aw h18 h0 1 v20∧
 K ((v19,v20),true) h18))))) h5)) h3) h1)
theorem Bl(x0:Option Addr)(x1:Int){K:cL lh→ad→Prop}{h0:ad}(h:ui x0 x1 K h0):HC PG iL (un x0 x1) lh K h0:=dJ .nil Tryz.func158 Tryz.call158 rfl rfl (by kernel_rfl) h
def vq(x0:Option Addr)(x1:Int)(K:((Option Addr)×Bool)→ad→Prop)(h0:ad):Prop:=
 HC PG gc [.pointer x0] iG (fun(e1:Int) h2=>
 HC PG fV (nm e1 x1) [.c .bool] (fun(e3:Bool) h4=>
 CondP (!e3) (
 K (none,false) h4) (
 ∃a5,x0=some a5∧
 ∃v6:SliceV,bC h4 (adr a5 0) 3 v6∧
 ∃a7,x0=some a7∧
 ∃v8,g7 h4 (adr a7 0) 1 v8∧
 HC PG dB (nm v8 x1) cd (fun(e9:Int) h10=>
 (bC h10 (adr a5 0) 3 v6∧
 (cD e9 v6.len∧∃a11,v6.a=some a11∧
 ∃v12,bl h10 a11 (e9.toNat*1) (.pointer v12)∧
 K (v12,true) h10))) h4)) h2) h0
theorem Ct(x0:Option Addr)(x1:Int){K:cL jR→ad→Prop}{h0:ad}(h:vq x0 x1 K h0):HC PG ij (un x0 x1) jR K h0:=dJ .nil Tryz.func159 Tryz.call159 rfl rfl (by kernel_rfl) h
def rF(x0:Option Addr)(K:(ByteArray)→ad→Prop)(h0:ad):Prop:=
 CondP x0.isNone (
 K (⟨#[]⟩:ByteArray) h0) (
 ∃a1,x0=some a1∧
 ∃v2,aQ h0 a1 0 v2∧
 K v2 h0)
theorem yA(x0:Option Addr){K:cL [.c .str]→ad→Prop}{h0:ad}(h:rF x0 K h0):HC PG ku [.pointer x0] [.c .str] K h0:=dJ .nil Tryz.func161 Tryz.call161 rfl rfl (by kernel_rfl) h
def vt(x0:ByteArray)(K:(Bool)→ad→Prop)(h0:ad):Prop:=
 K (!(x0.toList==x0.toList)) h0
theorem Cv(x0:ByteArray){K:cL [.c .bool]→ad→Prop}{h0:ad}(h:vt x0 K h0):HC PG m9 [.string x0] [.c .bool] K h0:=dJ .nil Tryz.func168 Tryz.call168 rfl rfl (by kernel_rfl) h
def l4(x0:Value)(K:(SliceV)→ad→Prop)(h0:ad):Prop:=
 HC PG eP [.slice none 0 0,x0] [.c .slice] (fun(e1:SliceV) h2=>
 K e1 h2) h0
theorem rq(x0:Value){K:cL [.c .slice]→ad→Prop}{h0:ad}(h:l4 x0 K h0):HC PG gb [x0] [.c .slice] K h0:=dJ .nil Tryz.func169 Tryz.call169 rfl rfl (by kernel_rfl) h
def BZ(x0:Option Addr)(x1:ByteArray×ByteArray×Bool)(x2:Bool)(K:(Value)→ad→Prop)(h0:ad):Prop:=
 At (hnew h0 [.pointer x0] bI) (fun h1=>
 At (hnew h1 (EY x1) nT) (fun h2=>
 At (hnew h2 [.bool x2] sZ) (fun h3=>
 K (.func (.func pP) #[] #[.pointer (some (aA h0)),.pointer (some (aA h1)),.pointer (some (aA h2))]) h3)))
theorem Kb(x0:Option Addr)(x1:ByteArray×ByteArray×Bool)(x2:Bool){K:cL [.c .raw]→ad→Prop}{h0:ad}(h:BZ x0 x1 x2 K h0):HC PG vS [.pointer x0,Hh x1,.bool x2] [.c .raw] K h0:=dJ .nil Tryz.func170 Tryz.call170 rfl rfl (by kernel_rfl) h
def Eo(x0:Option Addr)(K:(Value)→ad→Prop)(h0:ad):Prop:=
 At (hnew h0 [.pointer x0] bO) (fun h1=>
 K (.func (.func qQ) #[] #[.pointer (some (aA h0))]) h1)
theorem Mr(x0:Option Addr){K:cL [.c .raw]→ad→Prop}{h0:ad}(h:Eo x0 K h0):HC PG yb [.pointer x0] [.c .raw] K h0:=dJ .nil Tryz.func171 Tryz.call171 rfl rfl (by kernel_rfl) h
def ix(x0:SliceV)(K:(SliceV)→ad→Prop)(h0:ad):Prop:=
 CondP x0.a.isNone (
 K ⟨none,0,0⟩ h0) (
 At (hnew h0 [] aj) (fun h1=>
 ∃xs2,SRow h1 x0.a (x0.len*2) xs2∧
 AppP (some jN) 2 32 aj (some (aA h0)) 0 0 x0.len xs2 h1 (fun s3 h4=>
 K s3 h4)))
theorem mJ(x0:SliceV){K:cL [.c .slice]→ad→Prop}{h0:ad}(h:ix x0 K h0):HC PG cG [.slice x0.a x0.len x0.cap] [.c .slice] K h0:=dJ .nil Tryz.func172 Tryz.call172 rfl rfl (by kernel_rfl) h
def fR(x0:SliceV)(x1:Value)(K:(Unit)→ad→Prop)(h0:ad):Prop:=
 HC PG jp [.slice x0.a x0.len x0.cap,.int .i64 (x0.len:Int),x1] [] (fun(e1:Unit) h2=>
 K () h2) h0
theorem jH(x0:SliceV)(x1:Value){K:cL []→ad→Prop}{h0:ad}(h:fR x0 x1 K h0):HC PG cS [.slice x0.a x0.len x0.cap,x1] [] K h0:=dJ .nil Tryz.func173 Tryz.call173 rfl rfl (by kernel_rfl) h
def vo(x0:ByteArray×ByteArray)(x1:ByteArray×ByteArray)(K:(Int)→ad→Prop)(h0:ad):Prop:=
 At (hnew h0 (rM x0) aj) (fun h1=>
 At (hnew h1 (rM x1) aj) (fun h2=>
 ∃v3,aw h2 h0 0 v3∧
 ∃v4,aw h2 h0 1 v4∧
 ∃v5,aw h2 h1 0 v5∧
 HC PG oz [pn v3 v4,.string v5] cd (fun(e6:Int) h7=>
 K e6 h7) h2))
theorem Cr(x0:ByteArray×ByteArray)(x1:ByteArray×ByteArray){K:cL cd→ad→Prop}{h0:ad}(h:vo x0 x1 K h0):HC PG qq [Nj x0,Nj x1] cd K h0:=dJ .nil Tryz.func174 Tryz.call174 rfl rfl (by kernel_rfl) h
def Aj(x0:ByteArray×ByteArray)(x1:ByteArray)(K:(Int)→ad→Prop)(h0:ad):Prop:=
 At (hnew h0 (rM x0) aj) (fun h1=>
 ∃v2,aw h1 h0 0 v2∧
 HC PG lu (gZ v2 x1) cd (fun(e3:Int) h4=>
 K e3 h4) h1)
theorem H7(x0:ByteArray×ByteArray)(x1:ByteArray){K:cL cd→ad→Prop}{h0:ad}(h:Aj x0 x1 K h0):HC PG oz [Nj x0,.string x1] cd K h0:=dJ .nil Tryz.func175 Tryz.call175 rfl rfl (by kernel_rfl) h
def GD(x0:Int×Int)(x1:ByteArray)(K:(Int)→ad→Prop)(h0:ad):Prop:=
 At (hnew h0 (UH x0) kR) (fun h1=>
 ∃v2,ao h1 h0 0 v2∧
 Bd (IntKind.wrap .u64 (aq (IntKind.bits .u64) v2^^^aq (IntKind.bits .u64) 8317987319222330741).toNat:Int) (fun n3=>
 ∃v4,ao h1 h0 1 v4∧
 Bd (IntKind.wrap .u64 (aq (IntKind.bits .u64) v4^^^aq (IntKind.bits .u64) 7237128888997146477).toNat:Int) (fun n5=>
 ∃v6,ao h1 h0 0 v6∧
 Bd (IntKind.wrap .u64 (aq (IntKind.bits .u64) v6^^^aq (IntKind.bits .u64) 7816392313619706465).toNat:Int) (fun n7=>
 ∃v8,ao h1 h0 1 v8∧
 Bd (IntKind.wrap .u64 (aq (IntKind.bits .u64) v8^^^aq (IntKind.bits .u64) 8387220255154660723).toNat:Int) (fun n9=>
 nv h1 NW jj (N0 n3 n5 n7 n9) (fun h11=>
 LoopP (fun I12 (t13:ByteArray) h14=>
 CondP (decide ((t13.size:Int)≥(8:Int))) (
 (((0:Int)≤(8:Int)∧(8:Int)≤((t13.size:Nat):Int))∧
 HC PG uD [.string (t13.extract 0 ((8:Int).toNat))] g5 (fun(e15:Int) h16=>
 HC PG ml (RG (some (aA h1)) e15) [] (fun(e17:Unit) h18=>
 (((0:Int)≤(8:Int)∧(8:Int)≤((t13.size:Nat):Int))∧
 I12 (t13.extract ((8:Int).toNat) t13.size) h18)) h16) h14)) (
 HC PG uD [.string t13] g5 (fun(e19:Int) h20=>
 ((0:Int)≤(56:Int)∧
 Bd (IntKind.wrap .u64 ((IntKind.wrap .u64 (x1.size:Int))*2^(min (56:Int).toNat (IntKind.bits .u64))):Int) (fun n21=>
 Bd (IntKind.wrap .u64 (aq (IntKind.bits .u64) e19|||aq (IntKind.bits .u64) n21).toNat:Int) (fun n22=>
 HC PG ml (RG (some (aA h1)) n22) [] (fun(e23:Unit) h24=>
 (cD (2:Int) 4∧
 ∃v25,bl h24 (aA h1) ((2:Int).toNat*1) (.int .u64 v25)∧
 Bd (IntKind.wrap .u64 (aq (IntKind.bits .u64) v25^^^aq (IntKind.bits .u64) 255).toNat:Int) (fun n26=>
 (cD (2:Int) 4∧
 (cT h24 (adr (aA h1) ((2:Int).toNat*1)) (.int .u64 n26) (fun h27=>
 HC PG iT (un (some (aA h1)) 4) [] (fun(e28:Unit) h29=>
 (cD 0 4∧
 ∃v30,bl h29 (aA h1) ((0:Int).toNat*1) (.int .u64 v30)∧
 (cD 1 4∧
 ∃v31,bl h29 (aA h1) ((1:Int).toNat*1) (.int .u64 v31)∧
 Bd (IntKind.wrap .u64 (aq (IntKind.bits .u64) v30^^^aq (IntKind.bits .u64) v31).toNat:Int) (fun n32=>
 (cD (2:Int) 4∧
 ∃v33,bl h29 (aA h1) ((2:Int).toNat*1) (.int .u64 v33)∧
 Bd (IntKind.wrap .u64 (aq (IntKind.bits .u64) n32^^^aq (IntKind.bits .u64) v33).toNat:Int) (fun n34=>
 (cD (3:Int) 4∧
 ∃v35,bl h29 (aA h1) ((3:Int).toNat*1) (.int .u64 v35)∧
 Bd (IntKind.wrap .u64 (aq (IntKind.bits .u64) n34^^^aq (IntKind.bits .u64) v35).toNat:Int) (fun n36=>
 K n36 h29)))))))) h27)))))) h20)))) h14)) x1 h11))))))
noncomputable def Pj:Ann:=.node .nil (.node .nil (.node .nil (.node (.loop [(1,.c .str)] .nil) .nil)))
theorem Pd(x0:Int×Int)(x1:ByteArray){K:cL g5→ad→Prop}{h0:ad}(h:GD x0 x1 K h0):HC PG A2 [Vl x0,.string x1] g5 K h0:=dJ Pj Tryz.func179 Tryz.call179 rfl rfl (by kernel_rfl) h
def xH(K:(Option Addr)→ad→Prop)(h0:ad):Prop:=
 At (hnew h0 [.int .u32 0,.int .u32 0,.slice none 0 0,.slice none 0 0,.bool true,.pointer none] bD) (fun h1=>
 K (some (aA h0)) h1)
theorem Fs{K:cL [.c .ptr]→ad→Prop}{h0:ad}(h:xH K h0):HC PG tx [] [.c .ptr] K h0:=dJ .nil Tryz.func180 Tryz.call180 rfl rfl (by kernel_rfl) h
def vp(x0:Option Addr)(x1:Option Addr)(x2:ByteArray×ByteArray)(K:(Option Addr)→ad→Prop)(h0:ad):Prop:=
 At (hnew h0 (rM x2) aj) (fun h1=>
 HC PG dQ [.pointer x0] [.c .bool] (fun(e2:Bool) h3=>
 CondP (!e2) (
 K x0 h3) (
 HC PG gj (lI x0 x1) [.c .ptr] (fun(e4:Option Addr) h5=>
 ∃a6,e4=some a6∧
 ∃v7:SliceV,bC h5 (adr a6 0) 2 v7∧
 ∃v8,aw h5 h0 0 v8∧
 ∃v9,aw h5 h0 1 v9∧
 HC PG yi [.slice v7.a v7.len v7.cap,pn v8 v9] [.c .slice] (fun(e10:SliceV) h11=>
 ∃a12,e4=some a12∧
 (cT h11 (adr (adr a12 0) 2) (.slice e10.a e10.len e10.cap) (fun h13=>
 K e4 h13))) h5) h3)) h1)
theorem Cs(x0:Option Addr)(x1:Option Addr)(x2:ByteArray×ByteArray){K:cL [.c .ptr]→ad→Prop}{h0:ad}(h:vp x0 x1 x2 K h0):HC PG jh [.pointer x0,.pointer x1,Nj x2] [.c .ptr] K h0:=dJ .nil Tryz.func181 Tryz.call181 rfl rfl (by kernel_rfl) h
def qK(x0:Option Addr)(x1:Option Addr)(x2:Int)(x3:ByteArray×ByteArray)(K:(Option Addr)→ad→Prop)(h0:ad):Prop:=
 At (hnew h0 (rM x3) aj) (fun h1=>
 HC PG js (un x0 x2) [.c .bool] (fun(e2:Bool) h3=>
 CondP (!e2) (
 K x0 h3) (
 HC PG gj (lI x0 x1) [.c .ptr] (fun(e4:Option Addr) h5=>
 ∃a6,e4=some a6∧
 ∃v7,g7 h5 (adr a6 0) 0 v7∧
 HC PG fV (nm v7 x2) [.c .bool] (fun(e8:Bool) h9=>
 CondP e8 (
 ∃a10,e4=some a10∧
 ∃v11:SliceV,bC h9 (adr a10 0) 2 v11∧
 ∃a12,e4=some a12∧
 ∃v13,g7 h9 (adr a12 0) 0 v13∧
 ∃v14,aw h9 h0 0 v14∧
 ∃v15,aw h9 h0 1 v15∧
 HC PG dB (nm v13 x2) cd (fun(e16:Int) h17=>
 ((aw h17 h0 0 v14∧aw h17 h0 1 v15)∧
 (bC h17 (adr a10 0) 2 v11∧
 (cD e16 v11.len∧∃a18,v11.a=some a18∧
 (ni h17 (adr a18 (e16.toNat*2)) (gZ v14 v15) (fun h19=>
 K e4 h19)))))) h9) (
 ∃a20,e4=some a20∧
 HC PG jr (un (some (adr a20 0)) x2) [] (fun(e21:Unit) h22=>
 ∃a23,e4=some a23∧
 ∃v24:SliceV,bC h22 (adr a23 0) 2 v24∧
 ∃a25,e4=some a25∧
 ∃v26,g7 h22 (adr a25 0) 0 v26∧
 ∃v27,aw h22 h0 0 v27∧
 ∃v28,aw h22 h0 1 v28∧
 ((HC PG dB (nm v26 x2) cd (fun(e29:Int) h30=>
 ((aw h30 h0 0 v27∧aw h30 h0 1 v28)∧
 (bC h30 (adr a23 0) 2 v24∧
 At (hnew h30 (gZ v27 v28) aj) (fun h31=>
 (bC h31 (adr a23 0) 2 v24∧
 HC PG cV [.slice v24.a v24.len v24.cap,.int .i64 e29,.slice (some (aA h30)) 1 1] [.c .slice] (fun(e32:SliceV) h33=>
 ∃a34,e4=some a34∧
 (cT h33 (adr (adr a34 0) 2) (.slice e32.a e32.len e32.cap) (fun h35=>
 ∃a36,e4=some a36∧
 ∃v37,g7 h35 (adr a36 0) 0 v37∧
 HC PG fE (nm v37 x2) iG (fun(e38:Int) h39=>
 ∃a40,e4=some a40∧
 (cT h39 (adr (adr a40 0) 0) (.int .u32 e38) (fun h41=>
 K e4 h41))) h35))) h31))))) h22)∧
 At (hnew h22 (gZ v27 v28) aj) (fun h42=>
 (g7 h42 (adr a25 0) 0 v26∧
 (bC h42 (adr a23 0) 2 v24∧
 HC PG dB (nm v26 x2) cd (fun(e43:Int) h44=>
 (bC h44 (adr a23 0) 2 v24∧
 HC PG cV [.slice v24.a v24.len v24.cap,.int .i64 e43,.slice (some (aA h22)) 1 1] [.c .slice] (fun(e45:SliceV) h46=>
 ∃a47,e4=some a47∧
 (cT h46 (adr (adr a47 0) 2) (.slice e45.a e45.len e45.cap) (fun h48=>
 ∃a49,e4=some a49∧
 ∃v50,g7 h48 (adr a49 0) 0 v50∧
 HC PG fE (nm v50 x2) iG (fun(e51:Int) h52=>
 ∃a53,e4=some a53∧
 (cT h52 (adr (adr a53 0) 0) (.int .u32 e51) (fun h54=>
 K e4 h54))) h48))) h44)) h42))))) h9)) h5) h3)) h1)
theorem w6(x0:Option Addr)(x1:Option Addr)(x2:Int)(x3:ByteArray×ByteArray){K:cL [.c .ptr]→ad→Prop}{h0:ad}(h:qK x0 x1 x2 x3 K h0):HC PG fy [.pointer x0,.pointer x1,.int .i64 x2,Nj x3] [.c .ptr] K h0:=dJ .nil Tryz.func189 Tryz.call189 rfl rfl (by kernel_rfl) h
def rG(x0:Option Addr)(x1:Option Addr)(x2:Int)(x3:Option Addr)(K:(Option Addr)→ad→Prop)(h0:ad):Prop:=
 CondP x3.isNone (
 HC PG lr (GQ x0 x1 x2) [.c .ptr] (fun(e1:Option Addr) h2=>
 K e1 h2) h0) (
 HC PG js (un x0 x2) [.c .bool] (fun(e3:Bool) h4=>
 CondP (!e3) (
 K x0 h4) (
 HC PG gj (lI x0 x1) [.c .ptr] (fun(e5:Option Addr) h6=>
 ∃a7,e5=some a7∧
 ∃v8,g7 h6 (adr a7 0) 1 v8∧
 HC PG fV (nm v8 x2) [.c .bool] (fun(e9:Bool) h10=>
 CondP e9 (
 ∃a11,e5=some a11∧
 ∃v12:SliceV,bC h10 (adr a11 0) 3 v12∧
 ∃a13,e5=some a13∧
 ∃v14,g7 h10 (adr a13 0) 1 v14∧
 HC PG dB (nm v14 x2) cd (fun(e15:Int) h16=>
 (bC h16 (adr a11 0) 3 v12∧
 (cD e15 v12.len∧∃a17,v12.a=some a17∧
 (cT h16 (adr a17 (e15.toNat*1)) (.pointer x3) (fun h18=>
 K e5 h18))))) h10) (
 ∃a19,e5=some a19∧
 HC PG jr (un (some (adr a19 0)) x2) [] (fun(e20:Unit) h21=>
 ∃a22,e5=some a22∧
 ∃v23:SliceV,bC h21 (adr a22 0) 3 v23∧
 ∃a24,e5=some a24∧
 ∃v25,g7 h21 (adr a24 0) 1 v25∧
 ((HC PG dB (nm v25 x2) cd (fun(e26:Int) h27=>
 (bC h27 (adr a22 0) 3 v23∧
 At (hnew h27 [.pointer x3] bO) (fun h28=>
 (bC h28 (adr a22 0) 3 v23∧
 HC PG cJ [.slice v23.a v23.len v23.cap,.int .i64 e26,.slice (some (aA h27)) 1 1] [.c .slice] (fun(e29:SliceV) h30=>
 ∃a31,e5=some a31∧
 (cT h30 (adr (adr a31 0) 3) (.slice e29.a e29.len e29.cap) (fun h32=>
 ∃a33,e5=some a33∧
 ∃v34,g7 h32 (adr a33 0) 1 v34∧
 HC PG fE (nm v34 x2) iG (fun(e35:Int) h36=>
 ∃a37,e5=some a37∧
 (cT h36 (adr (adr a37 0) 1) (.int .u32 e35) (fun h38=>
 K e5 h38))) h32))) h28)))) h21)∧
 At (hnew h21 [.pointer x3] bO) (fun h39=>
 (g7 h39 (adr a24 0) 1 v25∧
 (bC h39 (adr a22 0) 3 v23∧
 HC PG dB (nm v25 x2) cd (fun(e40:Int) h41=>
 (bC h41 (adr a22 0) 3 v23∧
 HC PG cJ [.slice v23.a v23.len v23.cap,.int .i64 e40,.slice (some (aA h21)) 1 1] [.c .slice] (fun(e42:SliceV) h43=>
 ∃a44,e5=some a44∧
 (cT h43 (adr (adr a44 0) 3) (.slice e42.a e42.len e42.cap) (fun h45=>
 ∃a46,e5=some a46∧
 ∃v47,g7 h45 (adr a46 0) 1 v47∧
 HC PG fE (nm v47 x2) iG (fun(e48:Int) h49=>
 ∃a50,e5=some a50∧
 (cT h49 (adr (adr a50 0) 1) (.int .u32 e48) (fun h51=>
 K e5 h51))) h45))) h41)) h39))))) h10)) h6) h4)) h0)
theorem yB(x0:Option Addr)(x1:Option Addr)(x2:Int)(x3:Option Addr){K:cL [.c .ptr]→ad→Prop}{h0:ad}(h:rG x0 x1 x2 x3 K h0):HC PG gH (CZ x0 x1 x2 x3) [.c .ptr] K h0:=dJ .nil Tryz.func190 Tryz.call190 rfl rfl (by kernel_rfl) h
def gd(x0:SliceV)(K:(SliceV)→ad→Prop)(h0:ad):Prop:=
 CondP x0.a.isNone (
 K ⟨none,0,0⟩ h0) (
 At (hnew h0 [] bI) (fun h1=>
 ∃xs2,SRow h1 x0.a (x0.len*1) xs2∧
 AppP (some [.pointer none]) 1 8 bI (some (aA h0)) 0 0 x0.len xs2 h1 (fun s3 h4=>
 K s3 h4)))
theorem kB(x0:SliceV){K:cL [.c .slice]→ad→Prop}{h0:ad}(h:gd x0 K h0):HC PG de [.slice x0.a x0.len x0.cap] [.c .slice] K h0:=dJ .nil Tryz.func191 Tryz.call191 rfl rfl (by kernel_rfl) h
def gw(x0:SliceV)(K:(SliceV)→ad→Prop)(h0:ad):Prop:=
 CondP x0.a.isNone (
 K ⟨none,0,0⟩ h0) (
 At (hnew h0 [] bO) (fun h1=>
 ∃xs2,SRow h1 x0.a (x0.len*1) xs2∧
 AppP (some [.pointer none]) 1 8 bO (some (aA h0)) 0 0 x0.len xs2 h1 (fun s3 h4=>
 K s3 h4)))
theorem kX(x0:SliceV){K:cL [.c .slice]→ad→Prop}{h0:ad}(h:gw x0 K h0):HC PG dH [.slice x0.a x0.len x0.cap] [.c .slice] K h0:=dJ .nil Tryz.func192 Tryz.call192 rfl rfl (by kernel_rfl) h
def Ad(x0:SliceV)(x1:ByteArray)(K:(SliceV)→ad→Prop)(h0:ad):Prop:=
 (((0:Int)≤(x0.len:Int)∧(x0.len:Int)≤((x0.cap:Nat):Int))∧
 (((0:Int)≤(x0.len:Int)∧(x0.len:Int)≤(((x0.len:Int).toNat:Nat):Int))∧
 HC PG lY [.slice (aV x0.a 0 ((x0.len:Int).toNat) 1) (((x0.len:Int).toNat)-0) (((x0.len:Int).toNat)-0),.int .u64 (IntKind.wrap .u64 (x1.size:Int)),.int .i64 2] [.c .slice] (fun(e1:SliceV) h2=>
 AppP (some [.int .u8 0]) 1 1 cy e1.a e1.len e1.cap x1.size (dS x1) h2 (fun s3 h4=>
 K s3 h4)) h0))
theorem H1(x0:SliceV)(x1:ByteArray){K:cL [.c .slice]→ad→Prop}{h0:ad}(h:Ad x0 x1 K h0):HC PG mn (yR x0 x1) [.c .slice] K h0:=dJ .nil Tryz.func193 Tryz.call193 rfl rfl (by kernel_rfl) h
def xz(x0:SliceV)(x1:SliceV)(K:(SliceV)→ad→Prop)(h0:ad):Prop:=
 LoopP (fun I1 (t2:SliceV×Int) h3=>
 CondP (decide (t2.2<(x1.len:Int))) (
 (cD t2.2 x1.len∧∃a4,x1.a=some a4∧
 ∃v5,aQ h3 (adr a4 (t2.2.toNat*2)) 0 v5∧
 ∃v6,aQ h3 (adr a4 (t2.2.toNat*2)) 1 v6∧
 nv h3 jN aj (gZ v5 v6) (fun h8=>
 ∃v9,aw h8 h3 0 v9∧
 ∃v10,aw h8 h3 1 v10∧
 HC PG mn (yR t2.1 v9) [.c .slice] (fun(e11:SliceV) h12=>
 (aw h12 h3 1 v10∧
 HC PG mn (yR e11 v10) [.c .slice] (fun(e13:SliceV) h14=>
 I1 (e13,IntKind.wrap .i64 (t2.2+1)) h14) h12)) h8))) (
 K t2.1 h3)) (x0,0) h0
noncomputable def Fz:Ann:=.node .nil (.node (.node .nil (.loop [(0,.c .slice),(9,.c (.int .i64))] .nil)) .nil)
theorem Fg(x0:SliceV)(x1:SliceV){K:cL [.c .slice]→ad→Prop}{h0:ad}(h:xz x0 x1 K h0):HC PG pQ (PH x0 x1) [.c .slice] K h0:=dJ Fz Tryz.func194 Tryz.call194 rfl rfl (by kernel_rfl) h
def wt(x0:SliceV)(x1:Int)(x2:Int)(K:(SliceV)→ad→Prop)(h0:ad):Prop:=
 LoopP (fun I1 (t2:SliceV×Int) h3=>
 CondP (decide (t2.2<x2)) (
 Join (fun(t10:SliceV) h11=>
 I1 (t10,IntKind.wrap .i64 (t2.2+1)) h11) (fun J4=>
 ((0:Int)≤(IntKind.wrap .i64 (8*t2.2))∧
 Bd (eD x1 (2^(min (IntKind.wrap .i64 (8*t2.2):Int).toNat (IntKind.bits .u64))):Int) (fun n5=>
 At (hnew h3 [.int .u8 (IntKind.wrap .u8 n5)] cy) (fun h6=>
 ∃xs7,SRow h6 (some (aA h3)) (1*1) xs7∧
 AppP (some [.int .u8 0]) 1 1 cy t2.1.a t2.1.len t2.1.cap 1 xs7 h6 (fun s8 h9=>
 J4 s8 h9)))))) (
 K t2.1 h3)) (x0,0) h0
noncomputable def Ky:Ann:=.node .nil (.node (.node .nil (.loop [(0,.c .slice),(9,.c (.int .i64))] (.node .nil (.node .nil (.join [(0,.c .slice)] .nil .nil))))) .nil)
theorem BW(x0:SliceV)(x1:Int)(x2:Int){K:cL [.c .slice]→ad→Prop}{h0:ad}(h:wt x0 x1 x2 K h0):HC PG lY (N2 x0 x1 x2) [.c .slice] K h0:=dJ Ky Tryz.func195 Tryz.call195 rfl rfl (by kernel_rfl) h
def qw(x0:Option Addr)(K:(Int)→ad→Prop)(h0:ad):Prop:=
 CondP x0.isNone (
 K 0 h0) (
 ∃a1,x0=some a1∧
 ∃v2:SliceV,bC h0 (adr a1 0) 2 v2∧
 ∃a3,x0=some a3∧
 ∃v4:SliceV,bC h0 (adr a3 0) 3 v4∧
 K (IntKind.wrap .i64 ((v2.len:Int)+(v4.len:Int))) h0)
theorem vj(x0:Option Addr){K:cL cd→ad→Prop}{h0:ad}(h:qw x0 K h0):HC PG kI [.pointer x0] cd K h0:=dJ .nil Tryz.func196 Tryz.call196 rfl rfl (by kernel_rfl) h
def uk(x0:Option Addr)(K:(Int)→ad→Prop)(h0:ad):Prop:=
 CondP x0.isNone (
 K 0 h0) (
 ∃a1,x0=some a1∧
 ∃v2,g7 h0 (adr a1 0) 0 v2∧
 K v2 h0)
theorem Bo(x0:Option Addr){K:cL iG→ad→Prop}{h0:ad}(h:uk x0 K h0):HC PG jU [.pointer x0] iG K h0:=dJ .nil Tryz.func197 Tryz.call197 rfl rfl (by kernel_rfl) h
def sK(x0:Option Addr)(K:(Int)→ad→Prop)(h0:ad):Prop:=
 CondP x0.isNone (
 K 0 h0) (
 ∃a1,x0=some a1∧
 ∃v2,g7 h0 (adr a1 0) 1 v2∧
 K v2 h0)
theorem zW(x0:Option Addr){K:cL iG→ad→Prop}{h0:ad}(h:sK x0 K h0):HC PG gc [.pointer x0] iG K h0:=dJ .nil Tryz.func198 Tryz.call198 rfl rfl (by kernel_rfl) h
def Ah(x0:SliceV)(K:(Option Addr)→ad→Prop)(h0:ad):Prop:=
 (cD 0 x0.len∧∃a1,x0.a=some a1∧
 ∃v2,aQ h0 (adr a1 ((0:Int).toNat*2)) 0 v2∧
 LoopP (fun I3 (t4:Int×Int) h5=>
 CondP (decide (t4.2<(x0.len:Int))) (
 Join (fun(t17:Int) h18=>
 I3 (t17,IntKind.wrap .i64 (t4.2+1)) h18) (fun J6=>
 (cD t4.2 x0.len∧∃a7,x0.a=some a7∧
 ∃v8,aQ h5 (adr a7 (t4.2.toNat*2)) 0 v8∧
 ∃v9,aQ h5 (adr a7 (t4.2.toNat*2)) 1 v9∧
 nv h5 jN bU (gZ v8 v9) (fun h11=>
 (cD 0 x0.len∧∃a12,x0.a=some a12∧
 ∃v13,aQ h11 (adr a12 ((0:Int).toNat*2)) 0 v13∧
 ∃v14,aw h11 h5 0 v14∧
 HC PG uH (gZ v13 v14) cd (fun(e15:Int) h16=>
 CondP (decide (e15<t4.1)) (
 J6 e15 h16) (
 J6 t4.1 h16)) h11))))) (
 (cD 0 x0.len∧∃a19,x0.a=some a19∧
 ∃v20,aQ h5 (adr a19 ((0:Int).toNat*2)) 0 v20∧
 (((0:Int)≤t4.1∧t4.1≤((v20.size:Nat):Int))∧
 At (hnew h5 [.string (v20.extract 0 t4.1.toNat),.bool false,.string (⟨#[]⟩:ByteArray),.slice none 0 0] nn) (fun h21=>
 LoopP (fun I22 (t23:SliceV×Int) h24=>
 CondP (decide (t23.2<(x0.len:Int))) (
 Join (fun(t43:SliceV) h44=>
 I22 (t43,IntKind.wrap .i64 (t23.2+1)) h44) (fun J25=>
 (cD t23.2 x0.len∧∃a26,x0.a=some a26∧
 ∃v27,aQ h24 (adr a26 (t23.2.toNat*2)) 0 v27∧
 ∃v28,aQ h24 (adr a26 (t23.2.toNat*2)) 1 v28∧
 nv h24 jN bU (gZ v27 v28) (fun h30=>
 ∃v31,aw h30 h24 0 v31∧
 CondP ((v31.size:Int)==t4.1) (
 ∃v32,aw h30 h24 1 v32∧
 ∃a33,some (aA h5)=some a33∧
 (cT h30 (adr a33 1) (.bool true) (fun h34=>
 (aw h34 h24 1 v32∧
 ∃a35,some (aA h5)=some a35∧
 (cT h34 (adr a35 2) (.string v32) (fun h36=>
 J25 t23.1 h36)))))) (
 ∃v37,aw h30 h24 0 v37∧
 (((0:Int)≤t4.1∧t4.1≤((v37.size:Nat):Int))∧
 ∃v38,aw h30 h24 1 v38∧
 At (hnew h30 (gZ (v37.extract t4.1.toNat v37.size) v38) bU) (fun h39=>
 (aw h39 h24 1 v38∧
 (aw h39 h24 0 v37∧
 ∃xs40,SRow h39 (some (aA h30)) (1*2) xs40∧
 AppP (some jN) 2 32 bU t23.1.a t23.1.len t23.1.cap 1 xs40 h39 (fun s41 h42=>
 (aw h42 h24 1 v38∧
 (aw h42 h24 0 v37∧
 J25 s41 h42)))))))))))) (
 HC PG qR [.slice t23.1.a t23.1.len t23.1.cap] [.c .slice] (fun(e45:SliceV) h46=>
 ∃a47,some (aA h5)=some a47∧
 (cT h46 (adr a47 3) (.slice e45.a e45.len e45.cap) (fun h48=>
 K (some (aA h5)) h48))) h24)) (⟨none,0,0⟩,0) h21))))) ((v2.size:Int),0) h0)
noncomputable def Ig:Ann:=.node .nil (.node .nil (.node (.node .nil (.loop [(3,.c (.int .i64)),(18,.c (.int .i64))] (.node .nil (.node .nil (.join [(3,.c (.int .i64))] .nil .nil))))) (.node .nil (.node .nil (.node (.node .nil (.loop [(8,.c .slice),(44,.c (.int .i64))] (.node .nil (.node .nil (.join [(8,.c .slice)] .nil .nil))))) .nil)))))
theorem H5(x0:SliceV){K:cL [.c .ptr]→ad→Prop}{h0:ad}(h:Ah x0 K h0):HC PG uG [.slice x0.a x0.len x0.cap] [.c .ptr] K h0:=dJ Ig Tryz.func199 Tryz.call199 rfl rfl (by kernel_rfl) h
def GH(x0:Int)(x1:Int)(x2:ByteArray)(K:(Int)→ad→Prop)(h0:ad):Prop:=
 Bd (IntKind.wrap .u64 (aq (IntKind.bits .u64) x0^^^aq (IntKind.bits .u64) 8317987319222330741).toNat:Int) (fun n1=>
 Bd (IntKind.wrap .u64 (aq (IntKind.bits .u64) x1^^^aq (IntKind.bits .u64) 7237128888997146477).toNat:Int) (fun n2=>
 Bd (IntKind.wrap .u64 (aq (IntKind.bits .u64) x0^^^aq (IntKind.bits .u64) 7816392313619706465).toNat:Int) (fun n3=>
 Bd (IntKind.wrap .u64 (aq (IntKind.bits .u64) x1^^^aq (IntKind.bits .u64) 8387220255154660723).toNat:Int) (fun n4=>
 nv h0 NW ur (N0 n1 n2 n3 n4) (fun h6=>
 LoopP (fun I7 (t8:Int) h9=>
 CondP (decide (t8≤(x2.size:Int))) (
 LoopP (fun I10 (t11:Int×Int) h12=>
 CondP (decide (t11.2≥(0:Int))) (
 Join (fun(t16:Int) h17=>
 I10 (t16,IntKind.wrap .i64 (t11.2-1)) h17) (fun J13=>
 CondP (decide ((IntKind.wrap .i64 (t8+t11.2))<(x2.size:Int))) (
 ∃b14,(0:Int)≤(IntKind.wrap .i64 (t8+t11.2))∧x2[(IntKind.wrap .i64 (t8+t11.2)).toNat]? =some b14∧
 Bd (IntKind.wrap .u64 ((IntKind.wrap .u64 (t11.1*256))+(IntKind.wrap .u64 (b14.toNat:Int))):Int) (fun n15=>
 J13 n15 h12)) (
 J13 (IntKind.wrap .u64 (t11.1*256)) h12))) (
 Join (fun(t20:Int) h21=>
 (cD (3:Int) 4∧
 ∃v22,bl h21 (aA h0) ((3:Int).toNat*1) (.int .u64 v22)∧
 Bd (IntKind.wrap .u64 (aq (IntKind.bits .u64) v22^^^aq (IntKind.bits .u64) t20).toNat:Int) (fun n23=>
 (cD (3:Int) 4∧
 (cT h21 (adr (aA h0) ((3:Int).toNat*1)) (.int .u64 n23) (fun h24=>
 ∃v25,ao h24 h0 0 v25∧
 ∃v26,ao h24 h0 1 v26∧
 ∃v27,ao h24 h0 2 v27∧
 ∃v28,ao h24 h0 3 v28∧
 HC PG j6 [Tt v25 v26 v27 v28] zn (fun(e29:Int×Int×Int×Int) h30=>
 HC PG j6 [OE e29] zn (fun(e31:Int×Int×Int×Int) h32=>
 (fj h32 h0 (Qj e31) (fun h33=>
 (cD 0 4∧
 ∃v34,bl h33 (aA h0) ((0:Int).toNat*1) (.int .u64 v34)∧
 Bd (IntKind.wrap .u64 (aq (IntKind.bits .u64) v34^^^aq (IntKind.bits .u64) t20).toNat:Int) (fun n35=>
 (cD 0 4∧
 (cT h33 (adr (aA h0) ((0:Int).toNat*1)) (.int .u64 n35) (fun h36=>
 I7 (IntKind.wrap .i64 (t8+8)) h36)))))))) h30) h24)))))) (fun J18=>
 CondP (decide ((IntKind.wrap .i64 (t8+8))>(x2.size:Int))) (
 ((256:Int)≠0∧
 Bd (IntKind.wrap .u64 ((IntKind.wrap .u64 (cn (x2.size:Int) 256))*72057594037927936):Int) (fun n19=>
 J18 (IntKind.wrap .u64 (t11.1+n19)) h12))) (
 J18 t11.1 h12)))) (0,7) h9) (
 (cD (2:Int) 4∧
 ∃v37,bl h9 (aA h0) ((2:Int).toNat*1) (.int .u64 v37)∧
 Bd (IntKind.wrap .u64 (aq (IntKind.bits .u64) v37^^^aq (IntKind.bits .u64) 255).toNat:Int) (fun n38=>
 (cD (2:Int) 4∧
 (cT h9 (adr (aA h0) ((2:Int).toNat*1)) (.int .u64 n38) (fun h39=>
 ∃v40,ao h39 h0 0 v40∧
 ∃v41,ao h39 h0 1 v41∧
 ∃v42,ao h39 h0 2 v42∧
 ∃v43,ao h39 h0 3 v43∧
 HC PG j6 [Tt v40 v41 v42 v43] zn (fun(e44:Int×Int×Int×Int) h45=>
 HC PG j6 [OE e44] zn (fun(e46:Int×Int×Int×Int) h47=>
 HC PG j6 [OE e46] zn (fun(e48:Int×Int×Int×Int) h49=>
 HC PG j6 [OE e48] zn (fun(e50:Int×Int×Int×Int) h51=>
 (fj h51 h0 (Qj e50) (fun h52=>
 (cD 0 4∧
 ∃v53,bl h52 (aA h0) ((0:Int).toNat*1) (.int .u64 v53)∧
 (cD 1 4∧
 ∃v54,bl h52 (aA h0) ((1:Int).toNat*1) (.int .u64 v54)∧
 Bd (IntKind.wrap .u64 (aq (IntKind.bits .u64) v53^^^aq (IntKind.bits .u64) v54).toNat:Int) (fun n55=>
 (cD (2:Int) 4∧
 ∃v56,bl h52 (aA h0) ((2:Int).toNat*1) (.int .u64 v56)∧
 Bd (IntKind.wrap .u64 (aq (IntKind.bits .u64) n55^^^aq (IntKind.bits .u64) v56).toNat:Int) (fun n57=>
 (cD (3:Int) 4∧
 ∃v58,bl h52 (aA h0) ((3:Int).toNat*1) (.int .u64 v58)∧
 Bd (IntKind.wrap .u64 (aq (IntKind.bits .u64) n57^^^aq (IntKind.bits .u64) v58).toNat:Int) (fun n59=>
 K n59 h52)))))))))) h49) h47) h45) h39))))))) 0 h6)))))
noncomputable def Pl:Ann:=.node .nil (.node .nil (.node (.node .nil (.loop [(8,.c (.int .i64))] (.node .nil (.node (.node .nil (.node (.node .nil (.loop [(9,.c (.int .u64)),(10,.c (.int .i64))] (.node .nil (.join [(9,.c (.int .u64))] .nil .nil)))) (.join [(9,.c (.int .u64))] .nil .nil))) .nil)))) .nil))
theorem Ph(x0:Int)(x1:Int)(x2:ByteArray){K:cL g5→ad→Prop}{h0:ad}(h:GH x0 x1 x2 K h0):HC PG A5 (Tp x0 x1 x2) g5 K h0:=dJ Pl Tryz.func200 Tryz.call200 rfl rfl (by kernel_rfl) h
def Ku(x0:Int)(x1:Int)(K:(Int)→ad→Prop)(h0:ad):Prop:=
 Join (fun(t2:Bool) h3=>
 CondP t2 (
 K 0 h3) (
 LoopP (fun I4 (t5:Int×Int) h6=>
 CondP (decide (t5.2<x1)) (
 ((32:Int)≠0∧
 I4 (IntKind.wrap .u64 (Int.tdiv t5.1 32),IntKind.wrap .i64 (t5.2+1)) h6)) (
 ((32:Int)≠0∧
 K (IntKind.wrap .i64 (cn t5.1 32)) h6))) (x0,0) h3)) (fun J1=>
 CondP (decide (x1<(0:Int))) (
 J1 true h0) (
 J1 (decide (x1>(12:Int))) h0))
noncomputable def Rr:Ann:=.node .nil (.node (.join [(11,.c .bool)] .nil .nil) (.node (.node .nil (.loop [(0,.c (.int .u64)),(5,.c (.int .i64))] .nil)) .nil))
theorem Ri(x0:Int)(x1:Int){K:cL cd→ad→Prop}{h0:ad}(h:Ku x0 x1 K h0):HC PG zw (lJ x0 x1) cd K h0:=dJ Rr Tryz.func201 Tryz.call201 rfl rfl (by kernel_rfl) h
def fM(x0:SliceV)(x1:Value)(K:(Int)→ad→Prop)(h0:ad):Prop:=
 LoopP (fun I1 (t2:Int) h3=>
 CondP (decide (t2<(x0.len:Int))) (
 (cD t2 x0.len∧∃a4,x0.a=some a4∧
 ∃v5,bl h3 a4 (t2.toNat*1) (.pointer v5)∧
 HV PG x1 [.pointer v5] [.c .bool] (fun(e6:Bool) h7=>
 CondP e6 (
 K t2 h7) (
 I1 (IntKind.wrap .i64 (t2+1)) h7)) h3)) (
 K (-1) h3)) 0 h0
noncomputable def jE:Ann:=.node .nil (.node (.node .nil (.loop [(8,.c (.int .i64))] .nil)) .nil)
theorem jD(x0:SliceV)(x1:Value){K:cL cd→ad→Prop}{h0:ad}(h:fM x0 x1 K h0):HC PG fK [.slice x0.a x0.len x0.cap,x1] cd K h0:=dJ jE Tryz.func202 Tryz.call202 rfl rfl (by kernel_rfl) h
def ph(x0:Option Addr)(K:(Bool)→ad→Prop)(h0:ad):Prop:=
 HC PG jL [.pointer x0] [.c .bool] (fun(e1:Bool) h2=>
 K (!e1) h2) h0
theorem vx(x0:Option Addr){K:cL [.c .bool]→ad→Prop}{h0:ad}(h:ph x0 K h0):HC PG pg [.pointer x0] [.c .bool] K h0:=dJ .nil Tryz.func203 Tryz.call203 rfl rfl (by kernel_rfl) h
def Ak(x0:SliceV)(K:(Bool)→ad→Prop)(h0:ad):Prop:=
 LoopP (fun I1 (t2:Int) h3=>
 CondP (decide (t2<(x0.len:Int))) (
 (cD (IntKind.wrap .i64 (t2-1)) x0.len∧∃a4,x0.a=some a4∧
 ∃v5,bl h3 (adr a4 ((IntKind.wrap .i64 (t2-1)).toNat*2)) 0 (.string v5)∧
 (cD t2 x0.len∧∃a6,x0.a=some a6∧
 ∃v7,aQ h3 (adr a6 (t2.toNat*2)) 0 v7∧
 CondP (!(Op.bytesLess v5.toList v7.toList)) (
 K false h3) (
 I1 (IntKind.wrap .i64 (t2+1)) h3)))) (
 K true h3)) 1 h0
noncomputable def Ii:Ann:=.node .nil (.node (.node .nil (.loop [(3,.c (.int .i64))] .nil)) .nil)
theorem H8(x0:SliceV){K:cL [.c .bool]→ad→Prop}{h0:ad}(h:Ak x0 K h0):HC PG uL [.slice x0.a x0.len x0.cap] [.c .bool] K h0:=dJ Ii Tryz.func204 Tryz.call204 rfl rfl (by kernel_rfl) h
def xA(x0:Int)(x1:SliceV)(K:(Bool)→ad→Prop)(h0:ad):Prop:=
 LoopP (fun I1 (t2:Int) h3=>
 CondP (decide (t2<(x1.len:Int))) (
 (cD t2 x1.len∧∃a4,x1.a=some a4∧
 ∃v5,bl h3 a4 (t2.toNat*1) (.int .i64 v5)∧
 HC PG kw (lJ x0 t2) cd (fun(e6:Int) h7=>
 CondP (e6 !=v5) (
 K false h7) (
 I1 (IntKind.wrap .i64 (t2+1)) h7)) h3)) (
 K true h3)) 0 h0
noncomputable def FA:Ann:=.node .nil (.node (.node .nil (.loop [(9,.c (.int .i64))] .nil)) .nil)
theorem Fh(x0:Int)(x1:SliceV){K:cL [.c .bool]→ad→Prop}{h0:ad}(h:xA x0 x1 K h0):HC PG mS (N1 x0 x1) [.c .bool] K h0:=dJ FA Tryz.func205 Tryz.call205 rfl rfl (by kernel_rfl) h
def Bt(x0:Int)(K:(Value)→ad→Prop)(h0:ad):Prop:=
 At (hnew h0 [.int .u32 x0] uq) (fun h1=>
 K (.func (.func iU) #[] #[.pointer (some (aA h0))]) h1)
theorem tX(x0:Int){K:cL [.c .raw]→ad→Prop}{h0:ad}(h:Bt x0 K h0):HC PG mp [.int .u32 x0] [.c .raw] K h0:=dJ .nil Tryz.func206 Tryz.call206 rfl rfl (by kernel_rfl) h
def uh(x0:Option Addr)(x1:Option Addr)(K:(Option Addr)→ad→Prop)(h0:ad):Prop:=
 HC PG nC (lI x0 x1) [.c .bool] (fun(e1:Bool) h2=>
 CondP e1 (
 K x0 h2) (
 ∃a3,x0=some a3∧
 ∃v4,aQ h2 a3 0 v4∧
 ∃v5,dT h2 a3 1 v5∧
 ∃v6,aQ h2 a3 2 v6∧
 ∃v7:SliceV,bC h2 a3 3 v7∧
 ∃v8,re h2 a3 4 v8∧
 nv h2 Ip bT (Uo v4 v5 v6 v7 v8) (fun h10=>
 ∃a11,x0=some a11∧
 ∃v12:SliceV,bC h10 a11 3 v12∧
 HC PG de [.slice v12.a v12.len v12.cap] [.c .slice] (fun(e13:SliceV) h14=>
 (cT h14 (adr (aA h2) 3) (.slice e13.a e13.len e13.cap) (fun h15=>
 (cT h15 (adr (aA h2) 4) (.pointer none) (fun h16=>
 HC PG gC [.pointer x1] [.c .bool] (fun(e17:Bool) h18=>
 CondP e17 (
 (cT h18 (adr (aA h2) 4) (.pointer x1) (fun h19=>
 K (some (aA h2)) h19))) (
 K (some (aA h2)) h18)) h16))))) h10))) h0
theorem Bk(x0:Option Addr)(x1:Option Addr){K:cL [.c .ptr]→ad→Prop}{h0:ad}(h:uh x0 x1 K h0):HC PG ed (lI x0 x1) [.c .ptr] K h0:=dJ .nil Tryz.func207 Tryz.call207 rfl rfl (by kernel_rfl) h
def qG(x0:Option Addr)(x1:ByteArray)(K:(Option Addr)→ad→Prop)(h0:ad):Prop:=
 ∃a1,x0=some a1∧
 (cT h0 (adr a1 1) (.bool true) (fun h2=>
 ∃a3,x0=some a3∧
 (cT h2 (adr a3 2) (.string x1) (fun h4=>
 K x0 h4))))
theorem wW(x0:Option Addr)(x1:ByteArray){K:cL [.c .ptr]→ad→Prop}{h0:ad}(h:qG x0 x1 K h0):HC PG jJ (qL x0 x1) [.c .ptr] K h0:=dJ .nil Tryz.func208 Tryz.call208 rfl rfl (by kernel_rfl) h
def f6(x0:SliceV)(x1:Int)(x2:SliceV)(K:(SliceV)→ad→Prop)(h0:ad):Prop:=
 (((0:Int)≤x1∧x1≤((x0.len:Nat):Int))∧
 CondP ((x2.len:Int)==(0:Int)) (
 K x0 h0) (
 CondP (x1==(x0.len:Int)) (
 ∃xs1,SRow h0 x2.a (x2.len*1) xs1∧
 AppP (some [.pointer none]) 1 8 bI x0.a x0.len x0.cap x2.len xs1 h0 (fun s2 h3=>
 K s2 h3)) (
 CondP (decide ((IntKind.wrap .i64 ((x0.len:Int)+(x2.len:Int)))>(x0.cap:Int))) (
 Join (fun(t8:SliceV) h9=>
 (((0:Int)≤x1∧x1≤((t8.len:Nat):Int))∧
 ∃xs10,SRow h9 x2.a (dY x2.len (t8.len-x1.toNat)*1) xs10∧rP h9 (aV t8.a x1.toNat t8.cap 1) 0 xs10∧cj xs10=true∧
 At (fU h9 (aV t8.a x1.toNat t8.cap 1) 0 xs10) (fun h11=>
 (((0:Int)≤(IntKind.wrap .i64 (x1+(x2.len:Int)))∧(IntKind.wrap .i64 (x1+(x2.len:Int)))≤((t8.len:Nat):Int))∧
 Bd (aV t8.a ((IntKind.wrap .i64 (x1+(x2.len:Int))).toNat) t8.cap 1:Option Addr) (fun a12=>Bd (t8.len-((IntKind.wrap .i64 (x1+(x2.len:Int))).toNat):Nat) (fun n13=>Bd (t8.cap-((IntKind.wrap .i64 (x1+(x2.len:Int))).toNat):Nat) (fun n14=>
 (((0:Int)≤x1∧x1≤((x0.len:Nat):Int))∧
 ∃xs15,SRow h11 (aV x0.a x1.toNat x0.cap 1) (dY (x0.len-x1.toNat) n13*1) xs15∧rP h11 a12 0 xs15∧cj xs15=true∧
 At (fU h11 a12 0 xs15) (fun h16=>
 K t8 h16))))))))) (fun J4=>
 (((0:Int)≤x1∧x1≤((x0.cap:Nat):Int))∧
 Bd (IntKind.wrap .i64 ((IntKind.wrap .i64 ((x0.len:Int)+(x2.len:Int)))-x1):Int) (fun n5=>
 (((0:Int)≤n5∧n5*((8:Nat):Int)≤2^48∧n5≤9223372036854775807∧(((x1.toNat-0)+n5.toNat:Nat):Int)≤9223372036854775807)∧
 AppP (some [.pointer none]) 1 8 bI (aV x0.a 0 x0.cap 1) (x1.toNat-0) (x0.cap-0) n5.toNat (dK n5.toNat [.pointer none]) h0 (fun s6 h7=>
 J4 s6 h7)))))) (
 (((0:Int)≤(IntKind.wrap .i64 ((x0.len:Int)+(x2.len:Int)))∧(IntKind.wrap .i64 ((x0.len:Int)+(x2.len:Int)))≤((x0.cap:Nat):Int))∧
 Bd (aV x0.a 0 x0.cap 1:Option Addr) (fun a17=>Bd (((IntKind.wrap .i64 ((x0.len:Int)+(x2.len:Int))).toNat)-0:Nat) (fun n18=>Bd (x0.cap-0:Nat) (fun n19=>
 (((0:Int)≤(IntKind.wrap .i64 (x1+(x2.len:Int)))∧(IntKind.wrap .i64 (x1+(x2.len:Int)))≤((n18:Nat):Int))∧
 Bd (aV a17 ((IntKind.wrap .i64 (x1+(x2.len:Int))).toNat) n19 1:Option Addr) (fun a20=>Bd (n18-((IntKind.wrap .i64 (x1+(x2.len:Int))).toNat):Nat) (fun n21=>Bd (n19-((IntKind.wrap .i64 (x1+(x2.len:Int))).toNat):Nat) (fun n22=>
 HC PG gD [.slice x2.a x2.len x2.cap,.slice a20 n21 n22] [.c .bool] (fun(e23:Bool) h24=>
 CondP (!e23) (
 (((0:Int)≤(IntKind.wrap .i64 (x1+(x2.len:Int)))∧(IntKind.wrap .i64 (x1+(x2.len:Int)))≤((n18:Nat):Int))∧
 Bd (aV a17 ((IntKind.wrap .i64 (x1+(x2.len:Int))).toNat) n19 1:Option Addr) (fun a25=>Bd (n18-((IntKind.wrap .i64 (x1+(x2.len:Int))).toNat):Nat) (fun n26=>Bd (n19-((IntKind.wrap .i64 (x1+(x2.len:Int))).toNat):Nat) (fun n27=>
 (((0:Int)≤x1∧x1≤((n18:Nat):Int))∧
 ∃xs28,SRow h24 (aV a17 x1.toNat n19 1) (dY (n18-x1.toNat) n26*1) xs28∧rP h24 a25 0 xs28∧cj xs28=true∧
 At (fU h24 a25 0 xs28) (fun h29=>
 (((0:Int)≤x1∧x1≤((n18:Nat):Int))∧
 ∃xs30,SRow h29 x2.a (dY x2.len (n18-x1.toNat)*1) xs30∧rP h29 (aV a17 x1.toNat n19 1) 0 xs30∧cj xs30=true∧
 At (fU h29 (aV a17 x1.toNat n19 1) 0 xs30) (fun h31=>
 K ⟨a17,n18,n19⟩ h31))))))))) (
 (((0:Int)≤(x0.len:Int)∧(x0.len:Int)≤((n18:Nat):Int))∧
 ∃xs32,SRow h24 x2.a (dY x2.len (n18-((x0.len:Int).toNat))*1) xs32∧rP h24 (aV a17 ((x0.len:Int).toNat) n19 1) 0 xs32∧cj xs32=true∧
 At (fU h24 (aV a17 ((x0.len:Int).toNat) n19 1) 0 xs32) (fun h33=>
 (((0:Int)≤x1∧x1≤((n18:Nat):Int))∧
 HC PG nY [.slice (aV a17 x1.toNat n19 1) (n18-x1.toNat) (n19-x1.toNat),.int .i64 (x2.len:Int)] [] (fun(e34:Unit) h35=>
 K ⟨a17,n18,n19⟩ h35) h33))))) h0))))))))))))
noncomputable def j1:Ann:=.node .nil (.node .nil (.node .nil (.node .nil (.node .nil (.node .nil (.node (.node .nil (.node (.join [(9,.c .slice)] .nil .nil) .nil)) .nil))))))
theorem jY(x0:SliceV)(x1:Int)(x2:SliceV){K:cL [.c .slice]→ad→Prop}{h0:ad}(h:f6 x0 x1 x2 K h0):HC PG eA (Tm x0 x1 x2) [.c .slice] K h0:=dJ j1 Tryz.func209 Tryz.call209 rfl rfl (by kernel_rfl) h
def xB(x0:Option Addr)(x1:ByteArray)(x2:ByteArray)(K:(Option Addr)→ad→Prop)(h0:ad):Prop:=
 At (hnew h0 Ip bT) (fun h1=>
 HC PG ed (lI (some (aA h0)) x0) [.c .ptr] (fun(e2:Option Addr) h3=>
 HC PG gF (qL e2 x1) [.c .ptr] (fun(e4:Option Addr) h5=>
 HC PG jJ (qL e4 x2) [.c .ptr] (fun(e6:Option Addr) h7=>
 K e6 h7) h5) h3) h1)
theorem Fi(x0:Option Addr)(x1:ByteArray)(x2:ByteArray){K:cL [.c .ptr]→ad→Prop}{h0:ad}(h:xB x0 x1 x2 K h0):HC PG tl (Tn x0 x1 x2) [.c .ptr] K h0:=dJ .nil Tryz.func210 Tryz.call210 rfl rfl (by kernel_rfl) h
def xx(x0:ByteArray)(x1:ByteArray)(K:(Int)→ad→Prop)(h0:ad):Prop:=
 Bd (if(x1.size:Int)<(x0.size:Int)then(x1.size:Int)else(x0.size:Int):Int) (fun n1=>
 LoopP (fun I2 (t3:Int) h4=>
 CondP (decide (t3<n1)) (
 ∃b5,(0:Int)≤t3∧x0[t3.toNat]? =some b5∧
 ∃b6,(0:Int)≤t3∧x1[t3.toNat]? =some b6∧
 CondP ((b5.toNat:Int) !=(b6.toNat:Int)) (
 K t3 h4) (
 I2 (IntKind.wrap .i64 (t3+1)) h4)) (
 K n1 h4)) 0 h0)
noncomputable def Fy:Ann:=.node .nil (.node .nil (.node (.node .nil (.loop [(13,.c (.int .i64))] .nil)) .nil))
theorem Fe(x0:ByteArray)(x1:ByteArray){K:cL cd→ad→Prop}{h0:ad}(h:xx x0 x1 K h0):HC PG th (gZ x0 x1) cd K h0:=dJ Fy Tryz.func211 Tryz.call211 rfl rfl (by kernel_rfl) h
def rB(x0:Option Addr)(x1:Option Addr)(x2:Int)(K:(Option Addr)→ad→Prop)(h0:ad):Prop:=
 ∃a1,x0=some a1∧
 ∃v2,aQ h0 a1 0 v2∧
 (((0:Int)≤x2∧x2≤((v2.size:Nat):Int))∧
 At (hnew h0 Ip bT) (fun h3=>
 (aQ h3 a1 0 v2∧
 HC PG ed (lI (some (aA h0)) x1) [.c .ptr] (fun(e4:Option Addr) h5=>
 (aQ h5 a1 0 v2∧
 HC PG gF (qL e4 (v2.extract 0 x2.toNat)) [.c .ptr] (fun(e6:Option Addr) h7=>
 HC PG ed (lI x0 x1) [.c .ptr] (fun(e8:Option Addr) h9=>
 ∃a10,e8=some a10∧
 ∃v11,aQ h9 a10 0 v11∧
 (((0:Int)≤x2∧x2≤((v11.size:Nat):Int))∧
 HC PG gF (qL e8 (v11.extract x2.toNat v11.size)) [.c .ptr] (fun(e12:Option Addr) h13=>
 At (hnew h13 [.pointer e12] bI) (fun h14=>
 ∃a15,e6=some a15∧
 (cT h14 (adr a15 3) (.slice (some (aA h13)) 1 1) (fun h16=>
 K e6 h16)))) h9)) h7) h5)) h3)))
noncomputable def yJ:Ann:=.node .nil (.node (.draw (Vu [0,2,4,5,6,7,8,9] (.all (.lastT 1 (.all (.lastT 3 (.all (.lastT 10 (.take 11 (.done)))))))))) .nil)
theorem yw(x0:Option Addr)(x1:Option Addr)(x2:Int){K:cL [.c .ptr]→ad→Prop}{h0:ad}(h:rB x0 x1 x2 K h0):HC PG nB (GQ x0 x1 x2) [.c .ptr] K h0:=dJ yJ Tryz.func212 Tryz.call212 rfl rfl (by kernel_rfl) h
def oN(x0:Int×Int×Int×(Option Addr)×ByteArray×Int)(x1:ByteArray×ByteArray)(x2:ByteArray×ByteArray)(x3:Int)(K:(Option Addr)→ad→Prop)(h0:ad):Prop:=
 At (hnew h0 (Hg x0) cK) (fun h1=>
 At (hnew h1 (rM x1) aj) (fun h2=>
 At (hnew h2 (rM x2) aj) (fun h3=>
 CondP (x3==(13:Int)) (
 ∃v4,aI h3 h0 3 v4∧
 ∃v5,aw h3 h1 0 v5∧
 ∃v6,aw h3 h1 1 v6∧
 ∃v7,aI h3 h0 3 v7∧
 ∃v8,aw h3 h2 0 v8∧
 ∃v9,aw h3 h2 1 v9∧
 HC PG tx [] [.c .ptr] (fun(e10:Option Addr) h11=>
 ((aw h11 h2 0 v8∧aw h11 h2 1 v9)∧
 (aI h11 h0 3 v7∧
 ((aw h11 h1 0 v5∧aw h11 h1 1 v6)∧
 (aI h11 h0 3 v4∧
 HC PG jh [.pointer e10,.pointer v4,pn v5 v6] [.c .ptr] (fun(e12:Option Addr) h13=>
 ((aw h13 h2 0 v8∧aw h13 h2 1 v9)∧
 (aI h13 h0 3 v7∧
 HC PG jh [.pointer e12,.pointer v7,pn v8 v9] [.c .ptr] (fun(e14:Option Addr) h15=>
 K e14 h15) h13))) h11))))) h3) (
 ∃v16,cP h3 (adr (aA h0) 0) 0 v16∧
 ∃v17,cP h3 (adr (aA h0) 0) 1 v17∧
 ∃v18,cP h3 (adr (aA h0) 0) 2 v18∧
 ∃v19,aw h3 h1 0 v19∧
 ∃v20,ao h3 h0 5 v20∧
 HC PG eo [tK v16 v17 v18,.string v19] g5 (fun(e21:Int) h22=>
 (ao h22 h0 5 v20∧
 HC PG kw (lJ e21 x3) cd (fun(e23:Int) h24=>
 (ao h24 h0 5 v20∧
 HC PG kw (lJ v20 x3) cd (fun(e25:Int) h26=>
 CondP (e23==e25) (
 ∃v27,aI h26 h0 3 v27∧
 ∃v28,ao h26 h0 0 v28∧
 ∃v29,ao h26 h0 1 v29∧
 ∃v30,ao h26 h0 2 v30∧
 ∃v31,aI h26 h0 3 v31∧
 ∃v32,aw h26 h0 4 v32∧
 ∃v33,ao h26 h0 5 v33∧
 ∃v34,aw h26 h1 0 v34∧
 ∃v35,aw h26 h1 1 v35∧
 ∃v36,aw h26 h2 0 v36∧
 ∃v37,aw h26 h2 1 v37∧
 HC PG oC [] [.c .ptr] (fun(e38:Option Addr) h39=>
 ((aw h39 h2 0 v36∧aw h39 h2 1 v37)∧
 ((aw h39 h1 0 v34∧aw h39 h1 1 v35)∧
 ((ao h39 h0 0 v28∧ao h39 h0 1 v29∧ao h39 h0 2 v30∧aI h39 h0 3 v31∧aw h39 h0 4 v32∧ao h39 h0 5 v33)∧
 (aI h39 h0 3 v27∧
 HC PG lx [xM v28 v29 v30 v31 v32 v33,pn v34 v35,pn v36 v37,.int .i64 (IntKind.wrap .i64 (x3+1))] [.c .ptr] (fun(e40:Option Addr) h41=>
 (aI h41 h0 3 v27∧
 HC PG gH (CZ e38 v27 e23 e40) [.c .ptr] (fun(e42:Option Addr) h43=>
 K e42 h43) h41)) h39))))) h26) (
 ∃v44,aI h26 h0 3 v44∧
 ∃v45,aw h26 h1 0 v45∧
 ∃v46,aw h26 h1 1 v46∧
 ∃v47,aI h26 h0 3 v47∧
 ∃v48,aw h26 h2 0 v48∧
 ∃v49,aw h26 h2 1 v49∧
 HC PG oC [] [.c .ptr] (fun(e50:Option Addr) h51=>
 ((aw h51 h2 0 v48∧aw h51 h2 1 v49)∧
 (aI h51 h0 3 v47∧
 ((aw h51 h1 0 v45∧aw h51 h1 1 v46)∧
 (aI h51 h0 3 v44∧
 HC PG fy [.pointer e50,.pointer v44,.int .i64 e23,pn v45 v46] [.c .ptr] (fun(e52:Option Addr) h53=>
 ((aw h53 h2 0 v48∧aw h53 h2 1 v49)∧
 (aI h53 h0 3 v47∧
 HC PG fy [.pointer e52,.pointer v47,.int .i64 e25,pn v48 v49] [.c .ptr] (fun(e54:Option Addr) h55=>
 K e54 h55) h53))) h51))))) h26)) h24)) h22)) h3))))
theorem sy(x0:Int×Int×Int×(Option Addr)×ByteArray×Int)(x1:ByteArray×ByteArray)(x2:ByteArray×ByteArray)(x3:Int){K:cL [.c .ptr]→ad→Prop}{h0:ad}(h:oN x0 x1 x2 x3 K h0):HC PG lx [TN x0,Nj x1,Nj x2,.int .i64 x3] [.c .ptr] K h0:=dJ .nil Tryz.func213 Tryz.call213 rfl rfl (by kernel_rfl) h
def sC(x0:Option Addr)(x1:Option Addr)(K:(Option Addr)→ad→Prop)(h0:ad):Prop:=
 Join (fun(t6:Bool) h7=>
 CondP t6 (
 K x0 h7) (
 ∃a8,x0=some a8∧
 ∃v9:SliceV,bC h7 a8 3 v9∧
 CondP ((v9.len:Int)==(0:Int)) (
 K none h7) (
 ∃a10,x0=some a10∧
 ∃v11:SliceV,bC h7 a10 3 v11∧
 (cD 0 v11.len∧∃a12,v11.a=some a12∧
 ∃v13,bl h7 a12 ((0:Int).toNat*1) (.pointer v13)∧
 HC PG ed (lI v13 x1) [.c .ptr] (fun(e14:Option Addr) h15=>
 ∃a16,x0=some a16∧
 ∃v17,aQ h15 a16 0 v17∧
 ∃a18,e14=some a18∧
 ∃v19,aQ h15 a18 0 v19∧
 (((v17.size+v19.size:Nat):Int)≤9223372036854775807∧
 HC PG gF (qL e14 (v17++v19)) [.c .ptr] (fun(e20:Option Addr) h21=>
 K e20 h21) h15)) h7)))) (fun J1=>
 ∃a2,x0=some a2∧
 ∃v3,dT h0 a2 1 v3∧
 CondP v3 (
 J1 true h0) (
 ∃a4,x0=some a4∧
 ∃v5:SliceV,bC h0 a4 3 v5∧
 J1 (decide ((v5.len:Int)≥(2:Int))) h0))
noncomputable def Aq:Ann:=.node .nil (.node (.join [(6,.c .bool)] .nil .nil) (.node .nil (.node (.draw (U9 0 10 (.all (.lastT 10 (.take 11 (.done)))))) .nil)))
theorem zO(x0:Option Addr)(x1:Option Addr){K:cL [.c .ptr]→ad→Prop}{h0:ad}(h:sC x0 x1 K h0):HC PG oy (lI x0 x1) [.c .ptr] K h0:=dJ Aq Tryz.func214 Tryz.call214 rfl rfl (by kernel_rfl) h
def f7(x0:SliceV)(x1:Int)(x2:Int)(K:(SliceV)→ad→Prop)(h0:ad):Prop:=
 (((0:Int)≤(x0.len:Int)∧(x0.len:Int)≤((x0.cap:Nat):Int))∧
 (((0:Int)≤x2∧x2≤(((x0.len:Int).toNat:Nat):Int))∧
 (((0:Int)≤x1∧x1≤((x2.toNat:Nat):Int))∧
 CondP (x1==x2) (
 K x0 h0) (
 Join (fun(t5:SliceV) h6=>
 (((0:Int)≤(x0.len:Int)∧(x0.len:Int)≤((t5.cap:Nat):Int))∧
 (((0:Int)≤(t5.len:Int)∧(t5.len:Int)≤(((x0.len:Int).toNat:Nat):Int))∧
 Bd (aV t5.a ((t5.len:Int).toNat) t5.cap 1:Option Addr) (fun a7=>Bd (((x0.len:Int).toNat)-((t5.len:Int).toNat):Nat) (fun n8=>Bd (t5.cap-((t5.len:Int).toNat):Nat) (fun n9=>
 (rP h6 a7 0 (dK n8 [.pointer none])∧
 At (fU h6 a7 0 (dK n8 [.pointer none])) (fun h10=>
 K t5 h10)))))))) (fun J1=>
 (((0:Int)≤x1∧x1≤((x0.cap:Nat):Int))∧
 (((0:Int)≤x2∧x2≤((x0.len:Nat):Int))∧
 ∃xs2,SRow h0 (aV x0.a x2.toNat x0.cap 1) ((x0.len-x2.toNat)*1) xs2∧
 AppP (some [.pointer none]) 1 8 bI (aV x0.a 0 x0.cap 1) (x1.toNat-0) (x0.cap-0) (x0.len-x2.toNat) xs2 h0 (fun s3 h4=>
 J1 s3 h4))))))))
noncomputable def j2:Ann:=.node .nil (.node .nil (.node .nil (.node .nil (.join [(0,.c .slice)] .nil .nil))))
theorem jZ(x0:SliceV)(x1:Int)(x2:Int){K:cL [.c .slice]→ad→Prop}{h0:ad}(h:f7 x0 x1 x2 K h0):HC PG eB (Iw x0 x1 x2) [.c .slice] K h0:=dJ j2 Tryz.func215 Tryz.call215 rfl rfl (by kernel_rfl) h
def uj(x0:Option Addr)(x1:Option Addr)(x2:ByteArray)(K:(Option Addr)→ad→Prop)(h0:ad):Prop:=
 HC PG dQ [.pointer x0] [.c .bool] (fun(e1:Bool) h2=>
 CondP (!e1) (
 K x0 h2) (
 HC PG gj (lI x0 x1) [.c .ptr] (fun(e3:Option Addr) h4=>
 ∃a5,e3=some a5∧
 ∃v6:SliceV,bC h4 (adr a5 0) 2 v6∧
 HC PG vW (yR v6 x2) [.c .slice] (fun(e7:SliceV) h8=>
 ∃a9,e3=some a9∧
 (cT h8 (adr (adr a9 0) 2) (.slice e7.a e7.len e7.cap) (fun h10=>
 K e3 h10))) h4) h2)) h0
theorem Bm(x0:Option Addr)(x1:Option Addr)(x2:ByteArray){K:cL [.c .ptr]→ad→Prop}{h0:ad}(h:uj x0 x1 x2 K h0):HC PG pA (NZ x0 x1 x2) [.c .ptr] K h0:=dJ .nil Tryz.func216 Tryz.call216 rfl rfl (by kernel_rfl) h
def sL(x0:Option Addr)(x1:Option Addr)(x2:Int)(K:(Option Addr)→ad→Prop)(h0:ad):Prop:=
 HC PG js (un x0 x2) [.c .bool] (fun(e1:Bool) h2=>
 CondP (!e1) (
 K x0 h2) (
 HC PG gj (lI x0 x1) [.c .ptr] (fun(e3:Option Addr) h4=>
 ∃a5,e3=some a5∧
 HC PG jr (un (some (adr a5 0)) x2) [] (fun(e6:Unit) h7=>
 K e3 h7) h4) h2)) h0
theorem zX(x0:Option Addr)(x1:Option Addr)(x2:Int){K:cL [.c .ptr]→ad→Prop}{h0:ad}(h:sL x0 x1 x2 K h0):HC PG lr (GQ x0 x1 x2) [.c .ptr] K h0:=dJ .nil Tryz.func217 Tryz.call217 rfl rfl (by kernel_rfl) h
def xJ(x0:Option Addr)(K:((ByteArray×ByteArray)×Bool)→ad→Prop)(h0:ad):Prop:=
 At (hnew h0 jN aj) (fun h1=>
 Join (fun(t7:Bool) h8=>
 CondP t7 (
 (fj h8 h0 jN (fun h9=>
 ∃v10,aw h9 h0 0 v10∧
 ∃v11,aw h9 h0 1 v11∧
 K ((v10,v11),false) h9))) (
 HC PG eS [.pointer x0] [.c .slice] (fun(e12:SliceV) h13=>
 (cD 0 e12.len∧∃a14,e12.a=some a14∧
 ∃v15,aQ h13 (adr a14 ((0:Int).toNat*2)) 0 v15∧
 ∃v16,aQ h13 (adr a14 ((0:Int).toNat*2)) 1 v16∧
 (fj h13 h0 (gZ v15 v16) (fun h17=>
 ∃v18,aw h17 h0 0 v18∧
 ∃v19,aw h17 h0 1 v19∧
 K ((v18,v19),true) h17)))) h8)) (fun J2=>
 HC PG kI [.pointer x0] cd (fun(e3:Int) h4=>
 CondP (e3 !=(1:Int)) (
 J2 true h4) (
 HC PG gc [.pointer x0] iG (fun(e5:Int) h6=>
 J2 (e5 !=(0:Int)) h6) h4)) h1))
noncomputable def FE:Ann:=.node .nil (.node (.join [(11,.c .bool)] .nil .nil) .nil)
theorem Fv(x0:Option Addr){K:cL lh→ad→Prop}{h0:ad}(h:xJ x0 K h0):HC PG tA [.pointer x0] lh K h0:=dJ FE Tryz.func218 Tryz.call218 rfl rfl (by kernel_rfl) h
def ee(x0:SliceV)(x1:Int)(x2:Value)(K:(Int×Bool)→ad→Prop)(h0:ad):Prop:=
 LoopP (fun I1 (t2:Int×Int) h3=>
 CondP (decide (t2.1<t2.2)) (
 ((0:Int)≤(1:Int)∧
 Bd (eD (IntKind.wrap .u64 (IntKind.wrap .i64 (t2.1+t2.2))) (2^(min (1:Int).toNat (IntKind.bits .u64))):Int) (fun n4=>
 (cD (IntKind.wrap .i64 n4) x0.len∧∃a5,x0.a=some a5∧
 ∃v6,bl h3 a5 ((IntKind.wrap .i64 n4).toNat*1) (.pointer v6)∧
 HV PG x2 (C2 v6 x1) cd (fun(e7:Int) h8=>
 CondP (decide (e7<(0:Int))) (
 I1 (IntKind.wrap .i64 ((IntKind.wrap .i64 n4)+1),t2.2) h8) (
 I1 (t2.1,IntKind.wrap .i64 n4) h8)) h3)))) (
 CondP (decide (t2.1<(x0.len:Int))) (
 (cD t2.1 x0.len∧∃a9,x0.a=some a9∧
 ∃v10,bl h3 a9 (t2.1.toNat*1) (.pointer v10)∧
 HV PG x2 (C2 v10 x1) cd (fun(e11:Int) h12=>
 K (t2.1,e11==(0:Int)) h12) h3)) (
 K (t2.1,false) h3))) (0,(x0.len:Int)) h0
noncomputable def gJ:Ann:=.node .nil (.node .nil (.node .nil (.node (.loop [(9,.c (.int .i64)),(10,.c (.int .i64))] .nil) .nil)))
theorem gI(x0:SliceV)(x1:Int)(x2:Value){K:cL kW→ad→Prop}{h0:ad}(h:ee x0 x1 x2 K h0):HC PG d9 [.slice x0.a x0.len x0.cap,.int .u8 x1,x2] kW K h0:=dJ gJ Tryz.func219 Tryz.call219 rfl rfl (by kernel_rfl) h
def qI(x0:Option Addr)(x1:Int)(K:(Int)→ad→Prop)(h0:ad):Prop:=
 ∃a1,x0=some a1∧
 ∃v2,aQ h0 a1 0 v2∧
 ∃b3,(0:Int)≤(0:Int)∧v2[(0:Int).toNat]? =some b3∧
 Bd (IntKind.wrap .i64 ((IntKind.wrap .i64 (b3.toNat:Int))-(IntKind.wrap .i64 x1)):Int) (fun n4=>
 K n4 h0)
theorem wY(x0:Option Addr)(x1:Int){K:cL cd→ad→Prop}{h0:ad}(h:qI x0 x1 K h0):HC PG mH (C2 x0 x1) cd K h0:=dJ .nil Tryz.func220 Tryz.call220 rfl rfl (by kernel_rfl) h
def xy(x0:ByteArray)(x1:ByteArray)(K:(Bool)→ad→Prop)(h0:ad):Prop:=
 HC PG tR (gZ x0 x1) [.c .bool] (fun(e1:Bool) h2=>
 K e1 h2) h0
theorem Ff(x0:ByteArray)(x1:ByteArray){K:cL [.c .bool]→ad→Prop}{h0:ad}(h:xy x0 x1 K h0):HC PG pO (gZ x0 x1) [.c .bool] K h0:=dJ .nil Tryz.func221 Tryz.call221 rfl rfl (by kernel_rfl) h
def Ca(x0:SliceV)(x1:ByteArray)(K:(Int×Bool)→ad→Prop)(h0:ad):Prop:=
 HC PG eW [.slice x0.a x0.len x0.cap,.string x1,.func (.func oz) #[] #[]] kW (fun(e1:Int×Bool) h2=>
 K (e1.1,e1.2) h2) h0
theorem Kl(x0:SliceV)(x1:ByteArray){K:cL kW→ad→Prop}{h0:ad}(h:Ca x0 x1 K h0):HC PG p7 (yR x0 x1) kW K h0:=dJ .nil Tryz.func222 Tryz.call222 rfl rfl (by kernel_rfl) h
def ul(x0:Int)(x1:Int)(K:(Bool)→ad→Prop)(h0:ad):Prop:=
 HC PG mV [.int .i64 x1] [.c .bool] (fun(e1:Bool) h2=>
 CondP e1 (
 ((0:Int)≤x1∧
 Bd (IntKind.wrap .u32 (aq (IntKind.bits .u32) (eD x0 (2^(min (x1:Int).toNat (IntKind.bits .u32))))&&&aq (IntKind.bits .u32) 1).toNat:Int) (fun n3=>
 K (n3==(1:Int)) h2))) (
 K false h2)) h0
theorem Bp(x0:Int)(x1:Int){K:cL [.c .bool]→ad→Prop}{h0:ad}(h:ul x0 x1 K h0):HC PG fV (nm x0 x1) [.c .bool] K h0:=dJ .nil Tryz.func223 Tryz.call223 rfl rfl (by kernel_rfl) h
def sO(x0:Int)(x1:Int)(K:(Int)→ad→Prop)(h0:ad):Prop:=
 CondP (decide (x1≤(0:Int))) (
 K 0 h0) (
 CondP (decide (x1≥(32:Int))) (
 HC PG nF [.int .u32 x0] cd (fun(e1:Int) h2=>
 K e1 h2) h0) (
 ((0:Int)≤x1∧
 Bd (IntKind.wrap .u32 ((IntKind.wrap .u32 (1*2^(min (x1:Int).toNat (IntKind.bits .u32))))-1):Int) (fun n3=>
 Bd (IntKind.wrap .u32 (aq (IntKind.bits .u32) x0&&&aq (IntKind.bits .u32) n3).toNat:Int) (fun n4=>
 HC PG nF [.int .u32 n4] cd (fun(e5:Int) h6=>
 K e5 h6) h0)))))
theorem Aa(x0:Int)(x1:Int){K:cL cd→ad→Prop}{h0:ad}(h:sO x0 x1 K h0):HC PG dB (nm x0 x1) cd K h0:=dJ .nil Tryz.func224 Tryz.call224 rfl rfl (by kernel_rfl) h
def fw(x0:SliceV)(x1:Int)(x2:Int)(x3:Value)(K:(Bool)→ad→Prop)(h0:ad):Prop:=
 LoopP (fun I1 (t2:Int×Int) h3=>
 CondP (decide (t2.2<(5:Int))) (
 Join (fun(t110:Int) h111=>
 I1 (t110,IntKind.wrap .i64 (t2.2+1)) h111) (fun J4=>
 LoopP (fun I5 (t6:Int) h7=>
 Join (fun(t23:Bool) h24=>
 CondP t23 (
 I5 (IntKind.wrap .i64 (t6+1)) h24) (
 CondP (t6==x2) (
 K true h24) (
 CondP (decide ((IntKind.wrap .i64 (x2-x1))<(50:Int))) (
 K false h24) (
 (cD (IntKind.wrap .i64 (t6-1)) x0.len∧∃a25,x0.a=some a25∧
 ∃v26,bl h24 (adr a25 ((IntKind.wrap .i64 (t6-1)).toNat*5)) 0 (.string v26)∧
 ∃v27,bl h24 (adr a25 ((IntKind.wrap .i64 (t6-1)).toNat*5)) 1 (.string v27)∧
 ∃v28,bl h24 (adr a25 ((IntKind.wrap .i64 (t6-1)).toNat*5)) 2 (.string v28)∧
 ∃v29,bl h24 (adr a25 ((IntKind.wrap .i64 (t6-1)).toNat*5)) 3 (.bool v29)∧
 ∃v30,bl h24 (adr a25 ((IntKind.wrap .i64 (t6-1)).toNat*5)) 4 (.bool v30)∧
 (cD t6 x0.len∧∃a31,x0.a=some a31∧
 ∃v32,aQ h24 (adr a31 (t6.toNat*5)) 0 v32∧
 ∃v33,aQ h24 (adr a31 (t6.toNat*5)) 1 v33∧
 ∃v34,aQ h24 (adr a31 (t6.toNat*5)) 2 v34∧
 ∃v35,dT h24 (adr a31 (t6.toNat*5)) 3 v35∧
 ∃v36,dT h24 (adr a31 (t6.toNat*5)) 4 v36∧
 (cD t6 x0.len∧∃a37,x0.a=some a37∧
 (ni h24 (adr a37 (t6.toNat*5)) (ES v26 v27 v28 v29 v30) (fun h38=>
 (cD (IntKind.wrap .i64 (t6-1)) x0.len∧∃a39,x0.a=some a39∧
 (ni h38 (adr a39 ((IntKind.wrap .i64 (t6-1)).toNat*5)) (ES v32 v33 v34 v35 v36) (fun h40=>
 Join (fun(t75:Unit) h76=>
 CondP (decide ((IntKind.wrap .i64 (x2-t6))≥(2:Int))) (
 LoopP (fun I77 (t78:Int) h79=>
 CondP (decide (t78<x2)) (
 (cD t78 x0.len∧∃a80,x0.a=some a80∧
 ∃v81,aQ h79 (adr a80 (t78.toNat*5)) 0 v81∧
 ∃v82,aQ h79 (adr a80 (t78.toNat*5)) 1 v82∧
 ∃v83,aQ h79 (adr a80 (t78.toNat*5)) 2 v83∧
 ∃v84,dT h79 (adr a80 (t78.toNat*5)) 3 v84∧
 ∃v85,dT h79 (adr a80 (t78.toNat*5)) 4 v85∧
 (cD (IntKind.wrap .i64 (t78-1)) x0.len∧∃a86,x0.a=some a86∧
 ∃v87,bl h79 (adr a86 ((IntKind.wrap .i64 (t78-1)).toNat*5)) 0 (.string v87)∧
 ∃v88,bl h79 (adr a86 ((IntKind.wrap .i64 (t78-1)).toNat*5)) 1 (.string v88)∧
 ∃v89,bl h79 (adr a86 ((IntKind.wrap .i64 (t78-1)).toNat*5)) 2 (.string v89)∧
 ∃v90,bl h79 (adr a86 ((IntKind.wrap .i64 (t78-1)).toNat*5)) 3 (.bool v90)∧
 ∃v91,bl h79 (adr a86 ((IntKind.wrap .i64 (t78-1)).toNat*5)) 4 (.bool v91)∧
 HV PG x3 [Cg v81 v82 v83 v84 v85,Cg v87 v88 v89 v90 v91] cd (fun(e92:Int) h93=>
 CondP (!(decide (e92<(0:Int)))) (
 J4 t6 h93) (
 (cD (IntKind.wrap .i64 (t78-1)) x0.len∧∃a94,x0.a=some a94∧
 ∃v95,bl h93 (adr a94 ((IntKind.wrap .i64 (t78-1)).toNat*5)) 0 (.string v95)∧
 ∃v96,bl h93 (adr a94 ((IntKind.wrap .i64 (t78-1)).toNat*5)) 1 (.string v96)∧
 ∃v97,bl h93 (adr a94 ((IntKind.wrap .i64 (t78-1)).toNat*5)) 2 (.string v97)∧
 ∃v98,bl h93 (adr a94 ((IntKind.wrap .i64 (t78-1)).toNat*5)) 3 (.bool v98)∧
 ∃v99,bl h93 (adr a94 ((IntKind.wrap .i64 (t78-1)).toNat*5)) 4 (.bool v99)∧
 (cD t78 x0.len∧∃a100,x0.a=some a100∧
 ∃v101,aQ h93 (adr a100 (t78.toNat*5)) 0 v101∧
 ∃v102,aQ h93 (adr a100 (t78.toNat*5)) 1 v102∧
 ∃v103,aQ h93 (adr a100 (t78.toNat*5)) 2 v103∧
 ∃v104,dT h93 (adr a100 (t78.toNat*5)) 3 v104∧
 ∃v105,dT h93 (adr a100 (t78.toNat*5)) 4 v105∧
 (cD t78 x0.len∧∃a106,x0.a=some a106∧
 (ni h93 (adr a106 (t78.toNat*5)) (ES v95 v96 v97 v98 v99) (fun h107=>
 (cD (IntKind.wrap .i64 (t78-1)) x0.len∧∃a108,x0.a=some a108∧
 (ni h107 (adr a108 ((IntKind.wrap .i64 (t78-1)).toNat*5)) (ES v101 v102 v103 v104 v105) (fun h109=>
 I77 (IntKind.wrap .i64 (t78+1)) h109)))))))))) h79))) (
 J4 t6 h79)) (IntKind.wrap .i64 (t6+1)) h76) (
 J4 t6 h76)) (fun J41=>
 CondP (decide ((IntKind.wrap .i64 (t6-x1))≥(2:Int))) (
 LoopP (fun I42 (t43:Int) h44=>
 CondP (decide (t43≥(1:Int))) (
 (cD t43 x0.len∧∃a45,x0.a=some a45∧
 ∃v46,aQ h44 (adr a45 (t43.toNat*5)) 0 v46∧
 ∃v47,aQ h44 (adr a45 (t43.toNat*5)) 1 v47∧
 ∃v48,aQ h44 (adr a45 (t43.toNat*5)) 2 v48∧
 ∃v49,dT h44 (adr a45 (t43.toNat*5)) 3 v49∧
 ∃v50,dT h44 (adr a45 (t43.toNat*5)) 4 v50∧
 (cD (IntKind.wrap .i64 (t43-1)) x0.len∧∃a51,x0.a=some a51∧
 ∃v52,bl h44 (adr a51 ((IntKind.wrap .i64 (t43-1)).toNat*5)) 0 (.string v52)∧
 ∃v53,bl h44 (adr a51 ((IntKind.wrap .i64 (t43-1)).toNat*5)) 1 (.string v53)∧
 ∃v54,bl h44 (adr a51 ((IntKind.wrap .i64 (t43-1)).toNat*5)) 2 (.string v54)∧
 ∃v55,bl h44 (adr a51 ((IntKind.wrap .i64 (t43-1)).toNat*5)) 3 (.bool v55)∧
 ∃v56,bl h44 (adr a51 ((IntKind.wrap .i64 (t43-1)).toNat*5)) 4 (.bool v56)∧
 HV PG x3 [Cg v46 v47 v48 v49 v50,Cg v52 v53 v54 v55 v56] cd (fun(e57:Int) h58=>
 CondP (!(decide (e57<(0:Int)))) (
 J41 () h58) (
 (cD (IntKind.wrap .i64 (t43-1)) x0.len∧∃a59,x0.a=some a59∧
 ∃v60,bl h58 (adr a59 ((IntKind.wrap .i64 (t43-1)).toNat*5)) 0 (.string v60)∧
 ∃v61,bl h58 (adr a59 ((IntKind.wrap .i64 (t43-1)).toNat*5)) 1 (.string v61)∧
 ∃v62,bl h58 (adr a59 ((IntKind.wrap .i64 (t43-1)).toNat*5)) 2 (.string v62)∧
 ∃v63,bl h58 (adr a59 ((IntKind.wrap .i64 (t43-1)).toNat*5)) 3 (.bool v63)∧
 ∃v64,bl h58 (adr a59 ((IntKind.wrap .i64 (t43-1)).toNat*5)) 4 (.bool v64)∧
 (cD t43 x0.len∧∃a65,x0.a=some a65∧
 ∃v66,aQ h58 (adr a65 (t43.toNat*5)) 0 v66∧
 ∃v67,aQ h58 (adr a65 (t43.toNat*5)) 1 v67∧
 ∃v68,aQ h58 (adr a65 (t43.toNat*5)) 2 v68∧
 ∃v69,dT h58 (adr a65 (t43.toNat*5)) 3 v69∧
 ∃v70,dT h58 (adr a65 (t43.toNat*5)) 4 v70∧
 (cD t43 x0.len∧∃a71,x0.a=some a71∧
 (ni h58 (adr a71 (t43.toNat*5)) (ES v60 v61 v62 v63 v64) (fun h72=>
 (cD (IntKind.wrap .i64 (t43-1)) x0.len∧∃a73,x0.a=some a73∧
 (ni h72 (adr a73 ((IntKind.wrap .i64 (t43-1)).toNat*5)) (ES v66 v67 v68 v69 v70) (fun h74=>
 I42 (IntKind.wrap .i64 (t43-1)) h74)))))))))) h44))) (
 J41 () h44)) (IntKind.wrap .i64 (t6-1)) h40) (
 J41 () h40)))))))))))))) (fun J8=>
 CondP (decide (t6<x2)) (
 (cD t6 x0.len∧∃a9,x0.a=some a9∧
 ∃v10,aQ h7 (adr a9 (t6.toNat*5)) 0 v10∧
 ∃v11,aQ h7 (adr a9 (t6.toNat*5)) 1 v11∧
 ∃v12,aQ h7 (adr a9 (t6.toNat*5)) 2 v12∧
 ∃v13,dT h7 (adr a9 (t6.toNat*5)) 3 v13∧
 ∃v14,dT h7 (adr a9 (t6.toNat*5)) 4 v14∧
 (cD (IntKind.wrap .i64 (t6-1)) x0.len∧∃a15,x0.a=some a15∧
 ∃v16,bl h7 (adr a15 ((IntKind.wrap .i64 (t6-1)).toNat*5)) 0 (.string v16)∧
 ∃v17,bl h7 (adr a15 ((IntKind.wrap .i64 (t6-1)).toNat*5)) 1 (.string v17)∧
 ∃v18,bl h7 (adr a15 ((IntKind.wrap .i64 (t6-1)).toNat*5)) 2 (.string v18)∧
 ∃v19,bl h7 (adr a15 ((IntKind.wrap .i64 (t6-1)).toNat*5)) 3 (.bool v19)∧
 ∃v20,bl h7 (adr a15 ((IntKind.wrap .i64 (t6-1)).toNat*5)) 4 (.bool v20)∧
 HV PG x3 [Cg v10 v11 v12 v13 v14,Cg v16 v17 v18 v19 v20] cd (fun(e21:Int) h22=>
 J8 (!(decide (e21<(0:Int)))) h22) h7))) (
 J8 false h7))) t2.1 h3)) (
 K false h3)) (IntKind.wrap .i64 (x1+1),0) h0
noncomputable def jd:Ann:=.node .nil (.node .nil (.node (.node .nil (.loop [(9,.c (.int .i64)),(10,.c (.int .i64))] (.node .nil (.join [(9,.c (.int .i64))] (.node (.loop [(9,.c (.int .i64))] (.node (.join [(36,.c .bool)] .nil .nil) .nil)) (.node .nil (.node .nil (.node .nil (.join [] (.node .nil (.node (.node .nil (.loop [(11,.c (.int .i64))] .nil)) .nil)) (.node .nil (.node (.node .nil (.loop [(12,.c (.int .i64))] .nil)) .nil))))))) .nil)))) .nil))
theorem jc(x0:SliceV)(x1:Int)(x2:Int)(x3:Value){K:cL [.c .bool]→ad→Prop}{h0:ad}(h:fw x0 x1 x2 x3 K h0):HC PG fu [.slice x0.a x0.len x0.cap,.int .i64 x1,.int .i64 x2,x3] [.c .bool] K h0:=dJ jd Tryz.func230 Tryz.call230 rfl rfl (by kernel_rfl) h
def gz(x0:SliceV)(x1:Value)(K:(SliceV)→ad→Prop)(h0:ad):Prop:=
 At (hnew h0 [.slice x0.a x0.len x0.cap] dh) (fun h1=>
 RangeP PG x1 Tb h1 (fun rdy2 bz3 (x4:ByteArray×ByteArray) k5 h6=>
 nv h6 jN aj (rM x4) (fun h11=>
 (h11[(bS h1+1)]? =some rdy2∧At (bP h11 (bS h1+1) bz3) (fun h8=>
 ∃v12:SliceV,aE h8 (aA h0)=some (.slice v12.a v12.len v12.cap)∧
 ∃v13,aw h8 h6 0 v13∧
 ∃v14,aw h8 h6 1 v14∧
 At (hnew h8 (gZ v13 v14) aj) (fun h15=>
 ∃xs16,SRow h15 (some (aA h8)) (1*2) xs16∧
 AppP (some jN) 2 32 aj v12.a v12.len v12.cap 1 xs16 h15 (fun s17 h18=>
 (Wr h18 (aA h0)∧
 At (hset h18 (aA h0) (.slice s17.a s17.len s17.cap)) (fun h19=>
 k5 none h19)))))))) (fun h20=>
 ∃v23:SliceV,aE h20 (aA h0)=some (.slice v23.a v23.len v23.cap)∧
 (h20[(bS h1)]? =some (.deferred (some []))∧At (bP h20 (bS h1) (.deferred none)) (fun h24=>
 K v23 h24))) (fun i9 h21=>
 bif bN i9 0 then(
 ∃v25:SliceV,aE h21 (aA h0)=some (.slice v25.a v25.len v25.cap)∧
 (h21[(bS h1)]? =some (.deferred (some []))∧At (bP h21 (bS h1) (.deferred none)) (fun h26=>
 K v25 h26)))else(
 False)) (fun h22=>
 (h22[(bS h1)]? =some (.deferred (some []))∧At (bP h22 (bS h1) (.deferred none)) (fun h27=>
 K ⟨none,0,0⟩ h27))))
noncomputable def kZ:Ann:=.node .nil (.node (.node .nil (.rf [.agg [.str,.str]] .nil .nil)) .nil)
theorem kY(x0:SliceV)(x1:Value){K:cL [.c .slice]→ad→Prop}{h0:ad}(h:gz x0 x1 K h0):HC PG eP [.slice x0.a x0.len x0.cap,x1] [.c .slice] K h0:=UZ kZ Tryz.func235 Tryz.call235 rfl rfl (by kernel_rfl) h
def tF(x0:Value)(y0:Addr)(y1:Addr)(y2:Addr)(K:(Unit)→ad→Prop)(h0:ad):Prop:=
 ∃v1,aE h0 y0=some (.pointer v1)∧
 ∃v2,aQ h0 y1 0 v2∧
 ∃v3,aQ h0 y1 1 v3∧
 ∃v4,dT h0 y1 2 v4∧
 ∃v5,aE h0 y2=some (.bool v5)∧
 HC PG yd [.pointer v1,Ix v2 v3 v4,.bool v5] [.c .ptr] (fun(e6:Option Addr) h7=>
 LoopP (fun I8 (t9:Unit) h10=>
 HC PG nA [.pointer e6] lh (fun(e11:(ByteArray×ByteArray)×Bool) h12=>
 nv h12 jN aj (rM e11.1) (fun h14=>
 Join (fun(t20:Bool) h21=>
 CondP t20 (
 K () h21) (
 I8 () h21)) (fun J15=>
 CondP (!e11.2) (
 J15 true h14) (
 ∃v16,aw h14 h12 0 v16∧
 ∃v17,aw h14 h12 1 v17∧
 HV PG x0 [pn v16 v17] [.c .bool] (fun(e18:Bool) h19=>
 J15 (!e18) h19) h14)))) h10) () h7) h0
noncomputable def xK:Ann:=.node .nil (.loop [] (.node .nil (.join [(24,.c .bool)] .nil .nil)))
theorem RD(x0:Value)(y0:Addr)(y1:Addr)(y2:Addr){K:cL []→ad→Prop}{h0:ad}(h:tF x0 y0 y1 y2 K h0):HC PG pP [x0,.pointer (some y0),.pointer (some y1),.pointer (some y2)] [] K h0:=dJ xK Tryz.func236 Tryz.call236 rfl rfl (by kernel_rfl) h
theorem Em(x0:Value)(y0:Addr)(y1:Addr)(y2:Addr){K:cL []→ad→Prop}{h0:ad}(h:tF x0 y0 y1 y2 K h0):HE PG pP [x0,.pointer (some y0),.pointer (some y1),.pointer (some y2)] [] K h0:=VB xK Tryz.func236 Tryz.call236 rfl rfl (by kernel_rfl) h
def Es(x0:Option Addr)(x1:ByteArray×ByteArray×Bool)(x2:Bool)(K:(Option Addr)→ad→Prop)(h0:ad):Prop:=
 At (hnew h0 (EY x1) nT) (fun h1=>
 ∃v2,aw h1 h0 0 v2∧
 ∃v3,aw h1 h0 1 v3∧
 ∃v4,pr h1 h0 2 v4∧
 At (hnew h1 [.slice none 0 0,.string v2,.string v3,.bool v4,.bool x2] xk) (fun h5=>
 CondP (!(x0.isNone)) (
 ∃a6,some (aA h1)=some a6∧
 ∃v7:SliceV,bC h5 a6 0 v7∧
 At (hnew h5 (ER x0 (⟨#[]⟩:ByteArray) false) dV) (fun h8=>
 ∃xs9,SRow h8 (some (aA h5)) (1*3) xs9∧
 AppP (some KI) 3 32 dV v7.a v7.len v7.cap 1 xs9 h8 (fun s10 h11=>
 ∃a12,some (aA h1)=some a12∧
 (cT h11 (adr a12 0) (.slice s10.a s10.len s10.cap) (fun h13=>
 K (some (aA h1)) h13))))) (
 K (some (aA h1)) h5)))
theorem Mv(x0:Option Addr)(x1:ByteArray×ByteArray×Bool)(x2:Bool){K:cL [.c .ptr]→ad→Prop}{h0:ad}(h:Es x0 x1 x2 K h0):HC PG yd [.pointer x0,Hh x1,.bool x2] [.c .ptr] K h0:=dJ .nil Tryz.func237 Tryz.call237 rfl rfl (by kernel_rfl) h
def rz(x0:Option Addr)(K:((ByteArray×ByteArray)×Bool)→ad→Prop)(h0:ad):Prop:=
 At (hnew h0 jN aj) (fun h1=>
 CondP x0.isNone (
 (fj h1 h0 jN (fun h2=>
 ∃v3,aw h2 h0 0 v3∧
 ∃v4,aw h2 h0 1 v4∧
 K ((v3,v4),false) h2))) (
 LoopP (fun I5 (t6:Unit) h7=>
 ∃a8,x0=some a8∧
 ∃v9:SliceV,bC h7 a8 0 v9∧
 CondP (decide ((v9.len:Int)>(0:Int))) (
 ∃a10,x0=some a10∧
 ∃v11:SliceV,bC h7 a10 0 v11∧
 ∃a12,x0=some a12∧
 ∃v13:SliceV,bC h7 a12 0 v13∧
 (cD (IntKind.wrap .i64 ((v13.len:Int)-1)) v11.len∧∃a14,v11.a=some a14∧
 ∃v15,bl h7 (adr a14 ((IntKind.wrap .i64 ((v13.len:Int)-1)).toNat*3)) 0 (.pointer v15)∧
 ∃v16,bl h7 (adr a14 ((IntKind.wrap .i64 ((v13.len:Int)-1)).toNat*3)) 1 (.string v16)∧
 ∃v17,bl h7 (adr a14 ((IntKind.wrap .i64 ((v13.len:Int)-1)).toNat*3)) 2 (.bool v17)∧
 At (hnew h7 KI dV) (fun h18=>
 ((bl h18 (adr a14 ((IntKind.wrap .i64 ((v13.len:Int)-1)).toNat*3)) 0 (.pointer v15)∧bl h18 (adr a14 ((IntKind.wrap .i64 ((v13.len:Int)-1)).toNat*3)) 1 (.string v16)∧bl h18 (adr a14 ((IntKind.wrap .i64 ((v13.len:Int)-1)).toNat*3)) 2 (.bool v17))∧
 (bC h18 a12 0 v13∧
 (bC h18 a10 0 v11∧
 (fj h18 h7 (ER v15 v16 v17) (fun h19=>
 ∃a20,x0=some a20∧
 ∃v21:SliceV,bC h19 a20 0 v21∧
 ∃a22,x0=some a22∧
 ∃v23:SliceV,bC h19 a22 0 v23∧
 (((0:Int)≤(IntKind.wrap .i64 ((v23.len:Int)-1))∧(IntKind.wrap .i64 ((v23.len:Int)-1))≤((v21.cap:Nat):Int))∧
 Bd (aV v21.a 0 v21.cap 3:Option Addr) (fun a24=>Bd (((IntKind.wrap .i64 ((v23.len:Int)-1)).toNat)-0:Nat) (fun n25=>Bd (v21.cap-0:Nat) (fun n26=>
 ∃a27,x0=some a27∧
 (cT h19 (adr a27 0) (.slice a24 n25 n26) (fun h28=>
 ∃v29,pr h28 h7 2 v29∧
 CondP (!v29) (
 ∃v30,aI h28 h7 0 v30∧
 ∃v31,aw h28 h7 1 v31∧
 ∃v32,pr h28 h7 2 v32∧
 HC PG nz [.pointer x0,Ur v30 v31 v32] [] (fun(e33:Unit) h34=>
 I5 () h34) h28) (
 ∃v35,aw h28 h7 1 v35∧
 ∃v36,aI h28 h7 0 v36∧
 HC PG ku [.pointer v36] [.c .str] (fun(e37:ByteArray) h38=>
 (aw h38 h7 1 v35∧
 (((v35.size+e37.size:Nat):Int)≤9223372036854775807∧
 ∃v39,aI h38 h7 0 v39∧
 HC PG gG [.pointer v39] kq (fun(e40:ByteArray×Bool) h41=>
 Join (fun(t49:Bool) h50=>
 CondP t49 (
 (fj h50 h0 (gZ (v35++e37) e40.1) (fun h51=>
 ∃v52,aw h51 h0 0 v52∧
 ∃v53,aw h51 h0 1 v53∧
 K ((v52,v53),true) h51))) (
 I5 () h50)) (fun J42=>
 CondP e40.2 (
 ∃a43,x0=some a43∧
 ∃v44,aQ h41 (adr a43 1) 0 v44∧
 ∃v45,aQ h41 (adr a43 1) 1 v45∧
 ∃v46,dT h41 (adr a43 1) 2 v46∧
 HC PG qp [Ix v44 v45 v46,.string (v35++e37)] [.c .bool] (fun(e47:Bool) h48=>
 J42 e47 h48) h41) (
 J42 false h41))) h38))) h28))))))))))))))) (
 (fj h7 h0 jN (fun h54=>
 ∃v55,aw h54 h0 0 v55∧
 ∃v56,aw h54 h0 1 v56∧
 K ((v55,v56),false) h54)))) () h1))
noncomputable def yH:Ann:=.node .nil (.node .nil (.node (.loop [] (.node .nil (.node .nil (.node .nil (.node .nil (.node .nil (.node .nil (.join [(69,.c .bool)] .nil .nil)))))))) .nil))
theorem yu(x0:Option Addr){K:cL lh→ad→Prop}{h0:ad}(h:rz x0 K h0):HC PG nA [.pointer x0] lh K h0:=dJ yH Tryz.func238 Tryz.call238 rfl rfl (by kernel_rfl) h
def uT(x0:Value)(y0:Addr)(K:(Unit)→ad→Prop)(h0:ad):Prop:=
 ∃v1,aE h0 y0=some (.pointer v1)∧
 HC PG ya [.pointer v1] [.c .ptr] (fun(e2:Option Addr) h3=>
 LoopP (fun I4 (t5:Unit) h6=>
 HC PG nx [.pointer e2] lh (fun(e7:(ByteArray×ByteArray)×Bool) h8=>
 nv h8 jN aj (rM e7.1) (fun h10=>
 Join (fun(t16:Bool) h17=>
 CondP t16 (
 K () h17) (
 I4 () h17)) (fun J11=>
 CondP (!e7.2) (
 J11 true h10) (
 ∃v12,aw h10 h8 0 v12∧
 ∃v13,aw h10 h8 1 v13∧
 HV PG x0 [pn v12 v13] [.c .bool] (fun(e14:Bool) h15=>
 J11 (!e14) h15) h10)))) h6) () h3) h0
noncomputable def Ao:Ann:=.node .nil (.loop [] (.node .nil (.join [(20,.c .bool)] .nil .nil)))
theorem SS(x0:Value)(y0:Addr){K:cL []→ad→Prop}{h0:ad}(h:uT x0 y0 K h0):HC PG qQ [x0,.pointer (some y0)] [] K h0:=dJ Ao Tryz.func239 Tryz.call239 rfl rfl (by kernel_rfl) h
theorem Fw(x0:Value)(y0:Addr){K:cL []→ad→Prop}{h0:ad}(h:uT x0 y0 K h0):HE PG qQ [x0,.pointer (some y0)] [] K h0:=VB Ao Tryz.func239 Tryz.call239 rfl rfl (by kernel_rfl) h
def En(x0:Option Addr)(K:(Option Addr)→ad→Prop)(h0:ad):Prop:=
 HC PG tQ [.pointer x0] Gf (fun(e1:SliceV×SliceV) h2=>
 At (hnew h2 (U6 e1) dX) (fun h3=>
 At (hnew h3 [.slice (some (aA h2)) 1 1,.int .i64 0] xj) (fun h4=>
 K (some (aA h3)) h4))) h0
theorem Mq(x0:Option Addr){K:cL [.c .ptr]→ad→Prop}{h0:ad}(h:En x0 K h0):HC PG ya [.pointer x0] [.c .ptr] K h0:=dJ .nil Tryz.func240 Tryz.call240 rfl rfl (by kernel_rfl) h
def ru(x0:Option Addr)(K:((ByteArray×ByteArray)×Bool)→ad→Prop)(h0:ad):Prop:=
 At (hnew h0 jN aj) (fun h1=>
 CondP x0.isNone (
 (fj h1 h0 jN (fun h2=>
 ∃v3,aw h2 h0 0 v3∧
 ∃v4,aw h2 h0 1 v4∧
 K ((v3,v4),false) h2))) (
 LoopP (fun I5 (t6:Unit) h7=>
 ∃a8,x0=some a8∧
 ∃v9:SliceV,bC h7 a8 0 v9∧
 CondP (decide ((v9.len:Int)>(0:Int))) (
 ∃a10,x0=some a10∧
 ∃v11:SliceV,bC h7 a10 0 v11∧
 ∃a12,x0=some a12∧
 ∃v13:SliceV,bC h7 a12 0 v13∧
 (cD (IntKind.wrap .i64 ((v13.len:Int)-1)) v11.len∧∃a14,v11.a=some a14∧
 ∃a15,some (adr a14 ((IntKind.wrap .i64 ((v13.len:Int)-1)).toNat*2))=some a15∧
 ∃v16:SliceV,bC h7 a15 0 v16∧
 CondP (decide ((v16.len:Int)>(0:Int))) (
 ∃a17,some (adr a14 ((IntKind.wrap .i64 ((v13.len:Int)-1)).toNat*2))=some a17∧
 ∃v18:SliceV,bC h7 a17 0 v18∧
 (cD 0 v18.len∧∃a19,v18.a=some a19∧
 ∃v20,aQ h7 (adr a19 ((0:Int).toNat*2)) 0 v20∧
 ∃v21,aQ h7 (adr a19 ((0:Int).toNat*2)) 1 v21∧
 nv h7 jN aj (gZ v20 v21) (fun h23=>
 ∃a24,some (adr a14 ((IntKind.wrap .i64 ((v13.len:Int)-1)).toNat*2))=some a24∧
 ∃v25:SliceV,bC h23 a24 0 v25∧
 (((0:Int)≤(1:Int)∧(1:Int)≤((v25.len:Nat):Int))∧
 ∃a26,some (adr a14 ((IntKind.wrap .i64 ((v13.len:Int)-1)).toNat*2))=some a26∧
 (cT h23 (adr a26 0) (.slice (aV v25.a ((1:Int).toNat) v25.cap 2) (v25.len-((1:Int).toNat)) (v25.cap-((1:Int).toNat))) (fun h27=>
 ∃a28,x0=some a28∧
 ∃v29:SliceV,bC h27 a28 0 v29∧
 ∃a30,x0=some a30∧
 (cT h27 (adr a30 1) (.int .i64 (v29.len:Int)) (fun h31=>
 ∃v32,aw h31 h7 0 v32∧
 ∃v33,aw h31 h7 1 v33∧
 (fj h31 h0 (gZ v32 v33) (fun h34=>
 ∃v35,aw h34 h0 0 v35∧
 ∃v36,aw h34 h0 1 v36∧
 K ((v35,v36),true) h34)))))))))) (
 ∃a37,some (adr a14 ((IntKind.wrap .i64 ((v13.len:Int)-1)).toNat*2))=some a37∧
 ∃v38:SliceV,bC h7 a37 1 v38∧
 CondP (decide ((v38.len:Int)>(0:Int))) (
 ∃a39,some (adr a14 ((IntKind.wrap .i64 ((v13.len:Int)-1)).toNat*2))=some a39∧
 ∃v40:SliceV,bC h7 a39 1 v40∧
 (cD 0 v40.len∧∃a41,v40.a=some a41∧
 ∃v42,bl h7 a41 ((0:Int).toNat*1) (.pointer v42)∧
 ∃a43,some (adr a14 ((IntKind.wrap .i64 ((v13.len:Int)-1)).toNat*2))=some a43∧
 ∃v44:SliceV,bC h7 a43 1 v44∧
 (((0:Int)≤(1:Int)∧(1:Int)≤((v44.len:Nat):Int))∧
 ∃a45,some (adr a14 ((IntKind.wrap .i64 ((v13.len:Int)-1)).toNat*2))=some a45∧
 (cT h7 (adr a45 1) (.slice (aV v44.a ((1:Int).toNat) v44.cap 1) (v44.len-((1:Int).toNat)) (v44.cap-((1:Int).toNat))) (fun h46=>
 ∃a47,x0=some a47∧
 ∃v48:SliceV,bC h46 a47 0 v48∧
 HC PG tQ [.pointer v42] Gf (fun(e49:SliceV×SliceV) h50=>
 (bC h50 a47 0 v48∧
 At (hnew h50 (U6 e49) dX) (fun h51=>
 (bC h51 a47 0 v48∧
 ∃xs52,SRow h51 (some (aA h50)) (1*2) xs52∧
 AppP (some Uj) 2 48 dX v48.a v48.len v48.cap 1 xs52 h51 (fun s53 h54=>
 ∃a55,x0=some a55∧
 (cT h54 (adr a55 0) (.slice s53.a s53.len s53.cap) (fun h56=>
 I5 () h56))))))) h46))))) (
 ∃a57,x0=some a57∧
 ∃v58:SliceV,bC h7 a57 0 v58∧
 ∃a59,x0=some a59∧
 ∃v60:SliceV,bC h7 a59 0 v60∧
 (((0:Int)≤(IntKind.wrap .i64 ((v60.len:Int)-1))∧(IntKind.wrap .i64 ((v60.len:Int)-1))≤((v58.cap:Nat):Int))∧
 Bd (aV v58.a 0 v58.cap 2:Option Addr) (fun a61=>Bd (((IntKind.wrap .i64 ((v60.len:Int)-1)).toNat)-0:Nat) (fun n62=>Bd (v58.cap-0:Nat) (fun n63=>
 ∃a64,x0=some a64∧
 (cT h7 (adr a64 0) (.slice a61 n62 n63) (fun h65=>
 I5 () h65)))))))))) (
 ∃a66,x0=some a66∧
 (cT h7 (adr a66 1) (.int .i64 0) (fun h67=>
 (fj h67 h0 jN (fun h68=>
 ∃v69,aw h68 h0 0 v69∧
 ∃v70,aw h68 h0 1 v70∧
 K ((v69,v70),false) h68)))))) () h1))
noncomputable def yF:Ann:=.node .nil (.node .nil (.node (.loop [] .nil) .nil))
theorem yo(x0:Option Addr){K:cL lh→ad→Prop}{h0:ad}(h:ru x0 K h0):HC PG nx [.pointer x0] lh K h0:=dJ yF Tryz.func241 Tryz.call241 rfl rfl (by kernel_rfl) h
def jw(x0:SliceV)(x1:Int)(x2:Value)(K:(Unit)→ad→Prop)(h0:ad):Prop:=
 LoopP (fun I1 (t2:Int×Int) h3=>
 CondP (decide (t2.2≤x1)) (
 HC PG dL [.slice x0.a x0.len x0.cap,.int .i64 t2.1,.int .i64 t2.2,x2] [] (fun(e4:Unit) h5=>
 I1 (t2.2,IntKind.wrap .i64 (t2.2+20)) h5) h3) (
 HC PG dL [.slice x0.a x0.len x0.cap,.int .i64 t2.1,.int .i64 x1,x2] [] (fun(e6:Unit) h7=>
 LoopP (fun I8 (t9:Int) h10=>
 CondP (decide (t9<x1)) (
 LoopP (fun I11 (t12:Int×Int) h13=>
 CondP (decide (t12.2≤x1)) (
 HC PG cO [.slice x0.a x0.len x0.cap,.int .i64 t12.1,.int .i64 (IntKind.wrap .i64 (t12.1+t9)),.int .i64 t12.2,x2] [] (fun(e14:Unit) h15=>
 I11 (t12.2,IntKind.wrap .i64 (t12.2+(IntKind.wrap .i64 (2*t9)))) h15) h13) (
 Join (fun(t19:Unit) h20=>
 I8 (IntKind.wrap .i64 (t9*2)) h20) (fun J16=>
 CondP (decide ((IntKind.wrap .i64 (t12.1+t9))<x1)) (
 HC PG cO [.slice x0.a x0.len x0.cap,.int .i64 t12.1,.int .i64 (IntKind.wrap .i64 (t12.1+t9)),.int .i64 x1,x2] [] (fun(e17:Unit) h18=>
 J16 () h18) h13) (
 J16 () h13)))) (0,IntKind.wrap .i64 (2*t9)) h10) (
 K () h10)) 20 h7) h3)) (0,20) h0
noncomputable def oO:Ann:=.node .nil (.node .nil (.node (.loop [(7,.c (.int .i64)),(8,.c (.int .i64))] .nil) (.node .nil (.loop [(6,.c (.int .i64))] (.node .nil (.node .nil (.node (.loop [(7,.c (.int .i64)),(8,.c (.int .i64))] .nil) (.join [] .nil .nil))))))))
theorem oH(x0:SliceV)(x1:Int)(x2:Value){K:cL []→ad→Prop}{h0:ad}(h:jw x0 x1 x2 K h0):HC PG jp [.slice x0.a x0.len x0.cap,.int .i64 x1,x2] [] K h0:=dJ oO Tryz.func242 Tryz.call242 rfl rfl (by kernel_rfl) h
def ud(x0:Option Addr)(x1:Int)(K:(Unit)→ad→Prop)(h0:ad):Prop:=
 ∃a1,x0=some a1∧
 (cD (3:Int) 4∧
 ∃v2,bl h0 a1 ((3:Int).toNat*1) (.int .u64 v2)∧
 Bd (IntKind.wrap .u64 (aq (IntKind.bits .u64) v2^^^aq (IntKind.bits .u64) x1).toNat:Int) (fun n3=>
 ∃a4,x0=some a4∧
 (cD (3:Int) 4∧
 (cT h0 (adr a4 ((3:Int).toNat*1)) (.int .u64 n3) (fun h5=>
 HC PG iT (un x0 2) [] (fun(e6:Unit) h7=>
 ∃a8,x0=some a8∧
 (cD 0 4∧
 ∃v9,bl h7 a8 ((0:Int).toNat*1) (.int .u64 v9)∧
 Bd (IntKind.wrap .u64 (aq (IntKind.bits .u64) v9^^^aq (IntKind.bits .u64) x1).toNat:Int) (fun n10=>
 ∃a11,x0=some a11∧
 (cD 0 4∧
 (cT h7 (adr a11 ((0:Int).toNat*1)) (.int .u64 n10) (fun h12=>
 K () h12)))))) h5)))))
theorem Bi(x0:Option Addr)(x1:Int){K:cL []→ad→Prop}{h0:ad}(h:ud x0 x1 K h0):HC PG ml (RG x0 x1) [] K h0:=dJ .nil Tryz.func243 Tryz.call243 rfl rfl (by kernel_rfl) h
def Eu(x0:ByteArray)(K:(Int)→ad→Prop)(h0:ad):Prop:=
 Join (fun(t41:Int) h42=>
 ∃b43,(0:Int)≤(0:Int)∧x0[(0:Int).toNat]? =some b43∧
 Bd (IntKind.wrap .u64 (aq (IntKind.bits .u64) t41|||aq (IntKind.bits .u64) (IntKind.wrap .u64 (b43.toNat:Int))).toNat:Int) (fun n44=>
 K n44 h42)) (fun J1=>
 Join (fun(t36:Int) h37=>
 ∃b38,(0:Int)≤(1:Int)∧x0[(1:Int).toNat]? =some b38∧
 ((0:Int)≤(8:Int)∧
 Bd (IntKind.wrap .u64 ((IntKind.wrap .u64 (b38.toNat:Int))*2^(min (8:Int).toNat (IntKind.bits .u64))):Int) (fun n39=>
 Bd (IntKind.wrap .u64 (aq (IntKind.bits .u64) t36|||aq (IntKind.bits .u64) n39).toNat:Int) (fun n40=>
 J1 n40 h37)))) (fun J2=>
 Join (fun(t31:Int) h32=>
 ∃b33,(0:Int)≤(2:Int)∧x0[(2:Int).toNat]? =some b33∧
 ((0:Int)≤(16:Int)∧
 Bd (IntKind.wrap .u64 ((IntKind.wrap .u64 (b33.toNat:Int))*2^(min (16:Int).toNat (IntKind.bits .u64))):Int) (fun n34=>
 Bd (IntKind.wrap .u64 (aq (IntKind.bits .u64) t31|||aq (IntKind.bits .u64) n34).toNat:Int) (fun n35=>
 J2 n35 h32)))) (fun J3=>
 Join (fun(t26:Int) h27=>
 ∃b28,(0:Int)≤(3:Int)∧x0[(3:Int).toNat]? =some b28∧
 ((0:Int)≤(24:Int)∧
 Bd (IntKind.wrap .u64 ((IntKind.wrap .u64 (b28.toNat:Int))*2^(min (24:Int).toNat (IntKind.bits .u64))):Int) (fun n29=>
 Bd (IntKind.wrap .u64 (aq (IntKind.bits .u64) t26|||aq (IntKind.bits .u64) n29).toNat:Int) (fun n30=>
 J3 n30 h27)))) (fun J4=>
 Join (fun(t21:Int) h22=>
 ∃b23,(0:Int)≤(4:Int)∧x0[(4:Int).toNat]? =some b23∧
 ((0:Int)≤(32:Int)∧
 Bd (IntKind.wrap .u64 ((IntKind.wrap .u64 (b23.toNat:Int))*2^(min (32:Int).toNat (IntKind.bits .u64))):Int) (fun n24=>
 Bd (IntKind.wrap .u64 (aq (IntKind.bits .u64) t21|||aq (IntKind.bits .u64) n24).toNat:Int) (fun n25=>
 J4 n25 h22)))) (fun J5=>
 Join (fun(t16:Int) h17=>
 ∃b18,(0:Int)≤(5:Int)∧x0[(5:Int).toNat]? =some b18∧
 ((0:Int)≤(40:Int)∧
 Bd (IntKind.wrap .u64 ((IntKind.wrap .u64 (b18.toNat:Int))*2^(min (40:Int).toNat (IntKind.bits .u64))):Int) (fun n19=>
 Bd (IntKind.wrap .u64 (aq (IntKind.bits .u64) t16|||aq (IntKind.bits .u64) n19).toNat:Int) (fun n20=>
 J5 n20 h17)))) (fun J6=>
 Join (fun(t11:Int) h12=>
 ∃b13,(0:Int)≤(6:Int)∧x0[(6:Int).toNat]? =some b13∧
 ((0:Int)≤(48:Int)∧
 Bd (IntKind.wrap .u64 ((IntKind.wrap .u64 (b13.toNat:Int))*2^(min (48:Int).toNat (IntKind.bits .u64))):Int) (fun n14=>
 Bd (IntKind.wrap .u64 (aq (IntKind.bits .u64) t11|||aq (IntKind.bits .u64) n14).toNat:Int) (fun n15=>
 J6 n15 h12)))) (fun J7=>
 CondP ((x0.size:Int)==(8:Int)) (
 ∃b8,(0:Int)≤(7:Int)∧x0[(7:Int).toNat]? =some b8∧
 ((0:Int)≤(56:Int)∧
 Bd (IntKind.wrap .u64 ((IntKind.wrap .u64 (b8.toNat:Int))*2^(min (56:Int).toNat (IntKind.bits .u64))):Int) (fun n9=>
 Bd (IntKind.wrap .u64 (aq (IntKind.bits .u64) 0|||aq (IntKind.bits .u64) n9).toNat:Int) (fun n10=>
 J7 n10 h0)))) (
 CondP ((x0.size:Int)==(7:Int)) (
 J7 0 h0) (
 CondP ((x0.size:Int)==(6:Int)) (
 J6 0 h0) (
 CondP ((x0.size:Int)==(5:Int)) (
 J5 0 h0) (
 CondP ((x0.size:Int)==(4:Int)) (
 J4 0 h0) (
 CondP ((x0.size:Int)==(3:Int)) (
 J3 0 h0) (
 CondP ((x0.size:Int)==(2:Int)) (
 J2 0 h0) (
 CondP ((x0.size:Int)==(1:Int)) (
 J1 0 h0) (
 K 0 h0)))))))))))))))
noncomputable def MO:Ann:=.node .nil (.node .nil (.node (.node .nil (.join [(3,.c (.int .u64))] (.join [(3,.c (.int .u64))] (.join [(3,.c (.int .u64))] (.join [(3,.c (.int .u64))] (.join [(3,.c (.int .u64))] (.join [(3,.c (.int .u64))] (.join [(3,.c (.int .u64))] .nil .nil) .nil) .nil) .nil) .nil) .nil) .nil)) .nil))
theorem Mx(x0:ByteArray){K:cL g5→ad→Prop}{h0:ad}(h:Eu x0 K h0):HC PG uD [.string x0] g5 K h0:=dJ MO Tryz.func244 Tryz.call244 rfl rfl (by kernel_rfl) h
def rA(x0:Option Addr)(x1:Int)(K:(Unit)→ad→Prop)(h0:ad):Prop:=
 LoopP (fun I1 (t2:Int) h3=>
 CondP (decide (t2<x1)) (
 ∃a4,x0=some a4∧
 (cD 0 4∧
 ∃v5,bl h3 a4 ((0:Int).toNat*1) (.int .u64 v5)∧
 ∃a6,x0=some a6∧
 (cD 1 4∧
 ∃v7,bl h3 a6 ((1:Int).toNat*1) (.int .u64 v7)∧
 ∃a8,x0=some a8∧
 (cD 0 4∧
 (cT h3 (adr a8 ((0:Int).toNat*1)) (.int .u64 (IntKind.wrap .u64 (v5+v7))) (fun h9=>
 ∃a10,x0=some a10∧
 (cD 1 4∧
 ∃v11,bl h9 a10 ((1:Int).toNat*1) (.int .u64 v11)∧
 ∃a12,x0=some a12∧
 (cD 0 4∧
 ∃v13,bl h9 a12 ((0:Int).toNat*1) (.int .u64 v13)∧
 ∃a14,x0=some a14∧
 HC PG du (lJ v11 13) g5 (fun(e15:Int) h16=>
 (bl h16 a12 ((0:Int).toNat*1) (.int .u64 v13)∧
 Bd (IntKind.wrap .u64 (aq (IntKind.bits .u64) e15^^^aq (IntKind.bits .u64) v13).toNat:Int) (fun n17=>
 (cD 1 4∧
 (cT h16 (adr a14 ((1:Int).toNat*1)) (.int .u64 n17) (fun h18=>
 ∃a19,x0=some a19∧
 (cD 0 4∧
 ∃v20,bl h18 a19 ((0:Int).toNat*1) (.int .u64 v20)∧
 ∃a21,x0=some a21∧
 HC PG du (lJ v20 32) g5 (fun(e22:Int) h23=>
 (cD 0 4∧
 (cT h23 (adr a21 ((0:Int).toNat*1)) (.int .u64 e22) (fun h24=>
 ∃a25,x0=some a25∧
 (cD (2:Int) 4∧
 ∃v26,bl h24 a25 ((2:Int).toNat*1) (.int .u64 v26)∧
 ∃a27,x0=some a27∧
 (cD (3:Int) 4∧
 ∃v28,bl h24 a27 ((3:Int).toNat*1) (.int .u64 v28)∧
 ∃a29,x0=some a29∧
 (cD (2:Int) 4∧
 (cT h24 (adr a29 ((2:Int).toNat*1)) (.int .u64 (IntKind.wrap .u64 (v26+v28))) (fun h30=>
 ∃a31,x0=some a31∧
 (cD (3:Int) 4∧
 ∃v32,bl h30 a31 ((3:Int).toNat*1) (.int .u64 v32)∧
 ∃a33,x0=some a33∧
 (cD (2:Int) 4∧
 ∃v34,bl h30 a33 ((2:Int).toNat*1) (.int .u64 v34)∧
 ∃a35,x0=some a35∧
 HC PG du (lJ v32 16) g5 (fun(e36:Int) h37=>
 (bl h37 a33 ((2:Int).toNat*1) (.int .u64 v34)∧
 Bd (IntKind.wrap .u64 (aq (IntKind.bits .u64) e36^^^aq (IntKind.bits .u64) v34).toNat:Int) (fun n38=>
 (cD (3:Int) 4∧
 (cT h37 (adr a35 ((3:Int).toNat*1)) (.int .u64 n38) (fun h39=>
 ∃a40,x0=some a40∧
 (cD 0 4∧
 ∃v41,bl h39 a40 ((0:Int).toNat*1) (.int .u64 v41)∧
 ∃a42,x0=some a42∧
 (cD (3:Int) 4∧
 ∃v43,bl h39 a42 ((3:Int).toNat*1) (.int .u64 v43)∧
 ∃a44,x0=some a44∧
 (cD 0 4∧
 (cT h39 (adr a44 ((0:Int).toNat*1)) (.int .u64 (IntKind.wrap .u64 (v41+v43))) (fun h45=>
 ∃a46,x0=some a46∧
 (cD (3:Int) 4∧
 ∃v47,bl h45 a46 ((3:Int).toNat*1) (.int .u64 v47)∧
 ∃a48,x0=some a48∧
 (cD 0 4∧
 ∃v49,bl h45 a48 ((0:Int).toNat*1) (.int .u64 v49)∧
 ∃a50,x0=some a50∧
 HC PG du (lJ v47 21) g5 (fun(e51:Int) h52=>
 (bl h52 a48 ((0:Int).toNat*1) (.int .u64 v49)∧
 Bd (IntKind.wrap .u64 (aq (IntKind.bits .u64) e51^^^aq (IntKind.bits .u64) v49).toNat:Int) (fun n53=>
 (cD (3:Int) 4∧
 (cT h52 (adr a50 ((3:Int).toNat*1)) (.int .u64 n53) (fun h54=>
 ∃a55,x0=some a55∧
 (cD (2:Int) 4∧
 ∃v56,bl h54 a55 ((2:Int).toNat*1) (.int .u64 v56)∧
 ∃a57,x0=some a57∧
 (cD 1 4∧
 ∃v58,bl h54 a57 ((1:Int).toNat*1) (.int .u64 v58)∧
 ∃a59,x0=some a59∧
 (cD (2:Int) 4∧
 (cT h54 (adr a59 ((2:Int).toNat*1)) (.int .u64 (IntKind.wrap .u64 (v56+v58))) (fun h60=>
 ∃a61,x0=some a61∧
 (cD 1 4∧
 ∃v62,bl h60 a61 ((1:Int).toNat*1) (.int .u64 v62)∧
 ∃a63,x0=some a63∧
 (cD (2:Int) 4∧
 ∃v64,bl h60 a63 ((2:Int).toNat*1) (.int .u64 v64)∧
 ∃a65,x0=some a65∧
 HC PG du (lJ v62 17) g5 (fun(e66:Int) h67=>
 (bl h67 a63 ((2:Int).toNat*1) (.int .u64 v64)∧
 Bd (IntKind.wrap .u64 (aq (IntKind.bits .u64) e66^^^aq (IntKind.bits .u64) v64).toNat:Int) (fun n68=>
 (cD 1 4∧
 (cT h67 (adr a65 ((1:Int).toNat*1)) (.int .u64 n68) (fun h69=>
 ∃a70,x0=some a70∧
 (cD (2:Int) 4∧
 ∃v71,bl h69 a70 ((2:Int).toNat*1) (.int .u64 v71)∧
 ∃a72,x0=some a72∧
 HC PG du (lJ v71 32) g5 (fun(e73:Int) h74=>
 (cD (2:Int) 4∧
 (cT h74 (adr a72 ((2:Int).toNat*1)) (.int .u64 e73) (fun h75=>
 I1 (IntKind.wrap .i64 (t2+1)) h75)))) h69))))))) h60))))))))))))) h45))))))))))))) h30))))))))))) h18))))))) h9)))))))) (
 K () h3)) 0 h0
noncomputable def yI:Ann:=.node .nil (.loop [(5,.c (.int .i64))] .nil)
theorem yv(x0:Option Addr)(x1:Int){K:cL []→ad→Prop}{h0:ad}(h:rA x0 x1 K h0):HC PG iT (un x0 x1) [] K h0:=dJ yI Tryz.func245 Tryz.call245 rfl rfl (by kernel_rfl) h
def qv(x0:Option Addr)(x1:Option Addr)(K:(Option Addr)→ad→Prop)(h0:ad):Prop:=
 HC PG oB (lI x0 x1) [.c .bool] (fun(e1:Bool) h2=>
 CondP e1 (
 K x0 h2) (
 ∃a3,x0=some a3∧
 ∃v4,g7 h2 a3 0 v4∧
 ∃v5,g7 h2 a3 1 v5∧
 ∃v6:SliceV,bC h2 a3 2 v6∧
 ∃v7:SliceV,bC h2 a3 3 v7∧
 ∃v8,dT h2 a3 4 v8∧
 ∃v9,re h2 a3 5 v9∧
 nv h2 Pw bD (To v4 v5 v6 v7 v8 v9) (fun h11=>
 ∃a12,x0=some a12∧
 ∃v13:SliceV,bC h11 (adr a12 0) 2 v13∧
 ∃a14,x0=some a14∧
 ∃v15:SliceV,bC h11 (adr a14 0) 3 v15∧
 HC PG cG [.slice v13.a v13.len v13.cap] [.c .slice] (fun(e16:SliceV) h17=>
 (bC h17 (adr a14 0) 3 v15∧
 HC PG dH [.slice v15.a v15.len v15.cap] [.c .slice] (fun(e18:SliceV) h19=>
 (cT h19 (adr (adr (aA h2) 0) 2) (.slice e16.a e16.len e16.cap) (fun h20=>
 (cT h20 (adr (adr (aA h2) 0) 3) (.slice e18.a e18.len e18.cap) (fun h21=>
 (cT h21 (adr (aA h2) 5) (.pointer none) (fun h22=>
 HC PG gC [.pointer x1] [.c .bool] (fun(e23:Bool) h24=>
 CondP e23 (
 (cT h24 (adr (aA h2) 5) (.pointer x1) (fun h25=>
 K (some (aA h2)) h25))) (
 K (some (aA h2)) h24)) h22))))))) h17)) h11))) h0
theorem vi(x0:Option Addr)(x1:Option Addr){K:cL [.c .ptr]→ad→Prop}{h0:ad}(h:qv x0 x1 K h0):HC PG gj (lI x0 x1) [.c .ptr] K h0:=dJ .nil Tryz.func246 Tryz.call246 rfl rfl (by kernel_rfl) h
def EH(x0:SliceV)(x1:ByteArray×ByteArray)(K:(SliceV)→ad→Prop)(h0:ad):Prop:=
 At (hnew h0 (rM x1) aj) (fun h1=>
 ∃v2,aw h1 h0 0 v2∧
 HC PG p7 (yR x0 v2) kW (fun(e3:Int×Bool) h4=>
 (((0:Int)≤e3.1∧e3.1≤((x0.len:Nat):Int))∧
 Join (fun(t9:SliceV) h10=>
 (((0:Int)≤e3.1∧e3.1≤((x0.cap:Nat):Int))∧
 ∃v11,aw h10 h0 0 v11∧
 ∃v12,aw h10 h0 1 v12∧
 At (hnew h10 (gZ v11 v12) aj) (fun h13=>
 At (hnew h13 [.slice (aV x0.a 0 x0.cap 2) (e3.1.toNat-0) (x0.cap-0),.slice (some (aA h10)) 1 1,.slice t9.a t9.len t9.cap] dh) (fun h14=>
 HC PG dU [.slice (some (aA h13)) 3 3] [.c .slice] (fun(e15:SliceV) h16=>
 K e15 h16) h14)))) (fun J5=>
 CondP e3.2 (
 (((0:Int)≤(IntKind.wrap .i64 (e3.1+1))∧(IntKind.wrap .i64 (e3.1+1))≤((x0.len:Nat):Int))∧
 Bd (aV x0.a ((IntKind.wrap .i64 (e3.1+1)).toNat) x0.cap 2:Option Addr) (fun a6=>Bd (x0.len-((IntKind.wrap .i64 (e3.1+1)).toNat):Nat) (fun n7=>Bd (x0.cap-((IntKind.wrap .i64 (e3.1+1)).toNat):Nat) (fun n8=>
 J5 ⟨a6,n7,n8⟩ h4))))) (
 J5 ⟨aV x0.a e3.1.toNat x0.cap 2,x0.len-e3.1.toNat,x0.cap-e3.1.toNat⟩ h4)))) h1)
noncomputable def MV:Ann:=.node .nil (.node .nil (.node .nil (.join [(7,.c .slice)] .nil .nil)))
theorem MH(x0:SliceV)(x1:ByteArray×ByteArray){K:cL [.c .slice]→ad→Prop}{h0:ad}(h:EH x0 x1 K h0):HC PG yi [.slice x0.a x0.len x0.cap,Nj x1] [.c .slice] K h0:=dJ MV Tryz.func247 Tryz.call247 rfl rfl (by kernel_rfl) h
def sI(x0:Option Addr)(x1:Int)(K:(Bool)→ad→Prop)(h0:ad):Prop:=
 CondP (!(x0.isNone)) (
 ∃a1,x0=some a1∧
 ∃v2,dT h0 a1 4 v2∧
 CondP (!v2) (
 CondP (decide (x1≥(0:Int))) (
 K (decide (x1<(32:Int))) h0) (
 K false h0)) (
 K false h0)) (
 K false h0)
theorem zU(x0:Option Addr)(x1:Int){K:cL [.c .bool]→ad→Prop}{h0:ad}(h:sI x0 x1 K h0):HC PG js (un x0 x1) [.c .bool] K h0:=dJ .nil Tryz.func250 Tryz.call250 rfl rfl (by kernel_rfl) h
def sH(x0:Option Addr)(x1:Int)(K:(Unit)→ad→Prop)(h0:ad):Prop:=
 Join (fun(t16:Unit) h17=>
 Join (fun(t33:Unit) h34=>
 ∃a35,x0=some a35∧
 ∃v36,g7 h34 a35 0 v36∧
 ∃a37,x0=some a37∧
 ∃v38,g7 h34 a37 1 v38∧
 HC PG jt (nm v36 x1) iG (fun(e39:Int) h40=>
 (g7 h40 a37 1 v38∧
 HC PG jt (nm v38 x1) iG (fun(e41:Int) h42=>
 ∃a43,x0=some a43∧
 (cT h42 (adr a43 0) (.int .u32 e39) (fun h44=>
 ∃a45,x0=some a45∧
 (cT h44 (adr a45 1) (.int .u32 e41) (fun h46=>
 K () h46))))) h40)) h34) (fun J18=>
 ∃a19,x0=some a19∧
 ∃v20,g7 h17 a19 1 v20∧
 HC PG fV (nm v20 x1) [.c .bool] (fun(e21:Bool) h22=>
 CondP e21 (
 ∃a23,x0=some a23∧
 ∃v24,g7 h22 a23 1 v24∧
 HC PG dB (nm v24 x1) cd (fun(e25:Int) h26=>
 ∃a27,x0=some a27∧
 ∃v28:SliceV,bC h26 a27 3 v28∧
 HC PG eN (Iw v28 e25 (IntKind.wrap .i64 (e25+1))) [.c .slice] (fun(e29:SliceV) h30=>
 ∃a31,x0=some a31∧
 (cT h30 (adr a31 3) (.slice e29.a e29.len e29.cap) (fun h32=>
 J18 () h32))) h26) h22) (
 J18 () h22)) h17)) (fun J1=>
 ∃a2,x0=some a2∧
 ∃v3,g7 h0 a2 0 v3∧
 HC PG fV (nm v3 x1) [.c .bool] (fun(e4:Bool) h5=>
 CondP e4 (
 ∃a6,x0=some a6∧
 ∃v7,g7 h5 a6 0 v7∧
 HC PG dB (nm v7 x1) cd (fun(e8:Int) h9=>
 ∃a10,x0=some a10∧
 ∃v11:SliceV,bC h9 a10 2 v11∧
 HC PG fl (Iw v11 e8 (IntKind.wrap .i64 (e8+1))) [.c .slice] (fun(e12:SliceV) h13=>
 ∃a14,x0=some a14∧
 (cT h13 (adr a14 2) (.slice e12.a e12.len e12.cap) (fun h15=>
 J1 () h15))) h9) h5) (
 J1 () h5)) h0)
noncomputable def Ar:Ann:=.join [] .nil (.join [] .nil .nil)
theorem zT(x0:Option Addr)(x1:Int){K:cL []→ad→Prop}{h0:ad}(h:sH x0 x1 K h0):HC PG jr (un x0 x1) [] K h0:=dJ Ar Tryz.func251 Tryz.call251 rfl rfl (by kernel_rfl) h
def hE(x0:SliceV)(x1:Int)(x2:SliceV)(K:(SliceV)→ad→Prop)(h0:ad):Prop:=
 (((0:Int)≤x1∧x1≤((x0.len:Nat):Int))∧
 CondP ((x2.len:Int)==(0:Int)) (
 K x0 h0) (
 CondP (x1==(x0.len:Int)) (
 ∃xs1,SRow h0 x2.a (x2.len*2) xs1∧
 AppP (some jN) 2 32 aj x0.a x0.len x0.cap x2.len xs1 h0 (fun s2 h3=>
 K s2 h3)) (
 CondP (decide ((IntKind.wrap .i64 ((x0.len:Int)+(x2.len:Int)))>(x0.cap:Int))) (
 Join (fun(t8:SliceV) h9=>
 (((0:Int)≤x1∧x1≤((t8.len:Nat):Int))∧
 ∃xs10,SRow h9 x2.a (dY x2.len (t8.len-x1.toNat)*2) xs10∧rP h9 (aV t8.a x1.toNat t8.cap 2) 0 xs10∧cj xs10=true∧
 At (fU h9 (aV t8.a x1.toNat t8.cap 2) 0 xs10) (fun h11=>
 (((0:Int)≤(IntKind.wrap .i64 (x1+(x2.len:Int)))∧(IntKind.wrap .i64 (x1+(x2.len:Int)))≤((t8.len:Nat):Int))∧
 Bd (aV t8.a ((IntKind.wrap .i64 (x1+(x2.len:Int))).toNat) t8.cap 2:Option Addr) (fun a12=>Bd (t8.len-((IntKind.wrap .i64 (x1+(x2.len:Int))).toNat):Nat) (fun n13=>Bd (t8.cap-((IntKind.wrap .i64 (x1+(x2.len:Int))).toNat):Nat) (fun n14=>
 (((0:Int)≤x1∧x1≤((x0.len:Nat):Int))∧
 ∃xs15,SRow h11 (aV x0.a x1.toNat x0.cap 2) (dY (x0.len-x1.toNat) n13*2) xs15∧rP h11 a12 0 xs15∧cj xs15=true∧
 At (fU h11 a12 0 xs15) (fun h16=>
 K t8 h16))))))))) (fun J4=>
 (((0:Int)≤x1∧x1≤((x0.cap:Nat):Int))∧
 Bd (IntKind.wrap .i64 ((IntKind.wrap .i64 ((x0.len:Int)+(x2.len:Int)))-x1):Int) (fun n5=>
 (((0:Int)≤n5∧n5*((32:Nat):Int)≤2^48∧n5≤9223372036854775807∧(((x1.toNat-0)+n5.toNat:Nat):Int)≤9223372036854775807)∧
 AppP (some jN) 2 32 aj (aV x0.a 0 x0.cap 2) (x1.toNat-0) (x0.cap-0) n5.toNat (dK n5.toNat jN) h0 (fun s6 h7=>
 J4 s6 h7)))))) (
 (((0:Int)≤(IntKind.wrap .i64 ((x0.len:Int)+(x2.len:Int)))∧(IntKind.wrap .i64 ((x0.len:Int)+(x2.len:Int)))≤((x0.cap:Nat):Int))∧
 Bd (aV x0.a 0 x0.cap 2:Option Addr) (fun a17=>Bd (((IntKind.wrap .i64 ((x0.len:Int)+(x2.len:Int))).toNat)-0:Nat) (fun n18=>Bd (x0.cap-0:Nat) (fun n19=>
 (((0:Int)≤(IntKind.wrap .i64 (x1+(x2.len:Int)))∧(IntKind.wrap .i64 (x1+(x2.len:Int)))≤((n18:Nat):Int))∧
 Bd (aV a17 ((IntKind.wrap .i64 (x1+(x2.len:Int))).toNat) n19 2:Option Addr) (fun a20=>Bd (n18-((IntKind.wrap .i64 (x1+(x2.len:Int))).toNat):Nat) (fun n21=>Bd (n19-((IntKind.wrap .i64 (x1+(x2.len:Int))).toNat):Nat) (fun n22=>
 HC PG iA [.slice x2.a x2.len x2.cap,.slice a20 n21 n22] [.c .bool] (fun(e23:Bool) h24=>
 CondP (!e23) (
 (((0:Int)≤(IntKind.wrap .i64 (x1+(x2.len:Int)))∧(IntKind.wrap .i64 (x1+(x2.len:Int)))≤((n18:Nat):Int))∧
 Bd (aV a17 ((IntKind.wrap .i64 (x1+(x2.len:Int))).toNat) n19 2:Option Addr) (fun a25=>Bd (n18-((IntKind.wrap .i64 (x1+(x2.len:Int))).toNat):Nat) (fun n26=>Bd (n19-((IntKind.wrap .i64 (x1+(x2.len:Int))).toNat):Nat) (fun n27=>
 (((0:Int)≤x1∧x1≤((n18:Nat):Int))∧
 ∃xs28,SRow h24 (aV a17 x1.toNat n19 2) (dY (n18-x1.toNat) n26*2) xs28∧rP h24 a25 0 xs28∧cj xs28=true∧
 At (fU h24 a25 0 xs28) (fun h29=>
 (((0:Int)≤x1∧x1≤((n18:Nat):Int))∧
 ∃xs30,SRow h29 x2.a (dY x2.len (n18-x1.toNat)*2) xs30∧rP h29 (aV a17 x1.toNat n19 2) 0 xs30∧cj xs30=true∧
 At (fU h29 (aV a17 x1.toNat n19 2) 0 xs30) (fun h31=>
 K ⟨a17,n18,n19⟩ h31))))))))) (
 (((0:Int)≤(x0.len:Int)∧(x0.len:Int)≤((n18:Nat):Int))∧
 ∃xs32,SRow h24 x2.a (dY x2.len (n18-((x0.len:Int).toNat))*2) xs32∧rP h24 (aV a17 ((x0.len:Int).toNat) n19 2) 0 xs32∧cj xs32=true∧
 At (fU h24 (aV a17 ((x0.len:Int).toNat) n19 2) 0 xs32) (fun h33=>
 (((0:Int)≤x1∧x1≤((n18:Nat):Int))∧
 HC PG py [.slice (aV a17 x1.toNat n19 2) (n18-x1.toNat) (n19-x1.toNat),.int .i64 (x2.len:Int)] [] (fun(e34:Unit) h35=>
 K ⟨a17,n18,n19⟩ h35) h33))))) h0))))))))))))
noncomputable def mA:Ann:=.node .nil (.node .nil (.node .nil (.node .nil (.node .nil (.node .nil (.node (.node .nil (.node (.join [(9,.c .slice)] .nil .nil) .nil)) .nil))))))
theorem mu(x0:SliceV)(x1:Int)(x2:SliceV){K:cL [.c .slice]→ad→Prop}{h0:ad}(h:hE x0 x1 x2 K h0):HC PG cV (Tm x0 x1 x2) [.c .slice] K h0:=dJ mA Tryz.func252 Tryz.call252 rfl rfl (by kernel_rfl) h
def sN(x0:Int)(x1:Int)(K:(Int)→ad→Prop)(h0:ad):Prop:=
 HC PG mV [.int .i64 x1] [.c .bool] (fun(e1:Bool) h2=>
 CondP (!e1) (
 K x0 h2) (
 ((0:Int)≤x1∧
 Bd (IntKind.wrap .u32 (aq (IntKind.bits .u32) x0|||aq (IntKind.bits .u32) (IntKind.wrap .u32 (1*2^(min (x1:Int).toNat (IntKind.bits .u32))))).toNat:Int) (fun n3=>
 K n3 h2)))) h0
theorem zZ(x0:Int)(x1:Int){K:cL iG→ad→Prop}{h0:ad}(h:sN x0 x1 K h0):HC PG fE (nm x0 x1) iG K h0:=dJ .nil Tryz.func253 Tryz.call253 rfl rfl (by kernel_rfl) h
def gk(x0:SliceV)(x1:Int)(x2:SliceV)(K:(SliceV)→ad→Prop)(h0:ad):Prop:=
 (((0:Int)≤x1∧x1≤((x0.len:Nat):Int))∧
 CondP ((x2.len:Int)==(0:Int)) (
 K x0 h0) (
 CondP (x1==(x0.len:Int)) (
 ∃xs1,SRow h0 x2.a (x2.len*1) xs1∧
 AppP (some [.pointer none]) 1 8 bO x0.a x0.len x0.cap x2.len xs1 h0 (fun s2 h3=>
 K s2 h3)) (
 CondP (decide ((IntKind.wrap .i64 ((x0.len:Int)+(x2.len:Int)))>(x0.cap:Int))) (
 Join (fun(t8:SliceV) h9=>
 (((0:Int)≤x1∧x1≤((t8.len:Nat):Int))∧
 ∃xs10,SRow h9 x2.a (dY x2.len (t8.len-x1.toNat)*1) xs10∧rP h9 (aV t8.a x1.toNat t8.cap 1) 0 xs10∧cj xs10=true∧
 At (fU h9 (aV t8.a x1.toNat t8.cap 1) 0 xs10) (fun h11=>
 (((0:Int)≤(IntKind.wrap .i64 (x1+(x2.len:Int)))∧(IntKind.wrap .i64 (x1+(x2.len:Int)))≤((t8.len:Nat):Int))∧
 Bd (aV t8.a ((IntKind.wrap .i64 (x1+(x2.len:Int))).toNat) t8.cap 1:Option Addr) (fun a12=>Bd (t8.len-((IntKind.wrap .i64 (x1+(x2.len:Int))).toNat):Nat) (fun n13=>Bd (t8.cap-((IntKind.wrap .i64 (x1+(x2.len:Int))).toNat):Nat) (fun n14=>
 (((0:Int)≤x1∧x1≤((x0.len:Nat):Int))∧
 ∃xs15,SRow h11 (aV x0.a x1.toNat x0.cap 1) (dY (x0.len-x1.toNat) n13*1) xs15∧rP h11 a12 0 xs15∧cj xs15=true∧
 At (fU h11 a12 0 xs15) (fun h16=>
 K t8 h16))))))))) (fun J4=>
 (((0:Int)≤x1∧x1≤((x0.cap:Nat):Int))∧
 Bd (IntKind.wrap .i64 ((IntKind.wrap .i64 ((x0.len:Int)+(x2.len:Int)))-x1):Int) (fun n5=>
 (((0:Int)≤n5∧n5*((8:Nat):Int)≤2^48∧n5≤9223372036854775807∧(((x1.toNat-0)+n5.toNat:Nat):Int)≤9223372036854775807)∧
 AppP (some [.pointer none]) 1 8 bO (aV x0.a 0 x0.cap 1) (x1.toNat-0) (x0.cap-0) n5.toNat (dK n5.toNat [.pointer none]) h0 (fun s6 h7=>
 J4 s6 h7)))))) (
 (((0:Int)≤(IntKind.wrap .i64 ((x0.len:Int)+(x2.len:Int)))∧(IntKind.wrap .i64 ((x0.len:Int)+(x2.len:Int)))≤((x0.cap:Nat):Int))∧
 Bd (aV x0.a 0 x0.cap 1:Option Addr) (fun a17=>Bd (((IntKind.wrap .i64 ((x0.len:Int)+(x2.len:Int))).toNat)-0:Nat) (fun n18=>Bd (x0.cap-0:Nat) (fun n19=>
 (((0:Int)≤(IntKind.wrap .i64 (x1+(x2.len:Int)))∧(IntKind.wrap .i64 (x1+(x2.len:Int)))≤((n18:Nat):Int))∧
 Bd (aV a17 ((IntKind.wrap .i64 (x1+(x2.len:Int))).toNat) n19 1:Option Addr) (fun a20=>Bd (n18-((IntKind.wrap .i64 (x1+(x2.len:Int))).toNat):Nat) (fun n21=>Bd (n19-((IntKind.wrap .i64 (x1+(x2.len:Int))).toNat):Nat) (fun n22=>
 HC PG gT [.slice x2.a x2.len x2.cap,.slice a20 n21 n22] [.c .bool] (fun(e23:Bool) h24=>
 CondP (!e23) (
 (((0:Int)≤(IntKind.wrap .i64 (x1+(x2.len:Int)))∧(IntKind.wrap .i64 (x1+(x2.len:Int)))≤((n18:Nat):Int))∧
 Bd (aV a17 ((IntKind.wrap .i64 (x1+(x2.len:Int))).toNat) n19 1:Option Addr) (fun a25=>Bd (n18-((IntKind.wrap .i64 (x1+(x2.len:Int))).toNat):Nat) (fun n26=>Bd (n19-((IntKind.wrap .i64 (x1+(x2.len:Int))).toNat):Nat) (fun n27=>
 (((0:Int)≤x1∧x1≤((n18:Nat):Int))∧
 ∃xs28,SRow h24 (aV a17 x1.toNat n19 1) (dY (n18-x1.toNat) n26*1) xs28∧rP h24 a25 0 xs28∧cj xs28=true∧
 At (fU h24 a25 0 xs28) (fun h29=>
 (((0:Int)≤x1∧x1≤((n18:Nat):Int))∧
 ∃xs30,SRow h29 x2.a (dY x2.len (n18-x1.toNat)*1) xs30∧rP h29 (aV a17 x1.toNat n19 1) 0 xs30∧cj xs30=true∧
 At (fU h29 (aV a17 x1.toNat n19 1) 0 xs30) (fun h31=>
 K ⟨a17,n18,n19⟩ h31))))))))) (
 (((0:Int)≤(x0.len:Int)∧(x0.len:Int)≤((n18:Nat):Int))∧
 ∃xs32,SRow h24 x2.a (dY x2.len (n18-((x0.len:Int).toNat))*1) xs32∧rP h24 (aV a17 ((x0.len:Int).toNat) n19 1) 0 xs32∧cj xs32=true∧
 At (fU h24 (aV a17 ((x0.len:Int).toNat) n19 1) 0 xs32) (fun h33=>
 (((0:Int)≤x1∧x1≤((n18:Nat):Int))∧
 HC PG ou [.slice (aV a17 x1.toNat n19 1) (n18-x1.toNat) (n19-x1.toNat),.int .i64 (x2.len:Int)] [] (fun(e34:Unit) h35=>
 K ⟨a17,n18,n19⟩ h35) h33))))) h0))))))))))))
noncomputable def kN:Ann:=.node .nil (.node .nil (.node .nil (.node .nil (.node .nil (.node .nil (.node (.node .nil (.node (.join [(9,.c .slice)] .nil .nil) .nil)) .nil))))))
theorem kK(x0:SliceV)(x1:Int)(x2:SliceV){K:cL [.c .slice]→ad→Prop}{h0:ad}(h:gk x0 x1 x2 K h0):HC PG cJ (Tm x0 x1 x2) [.c .slice] K h0:=dJ kN Tryz.func254 Tryz.call254 rfl rfl (by kernel_rfl) h
def Ai(x0:ByteArray)(x1:ByteArray)(K:(Int)→ad→Prop)(h0:ad):Prop:=
 LoopP (fun I1 (t2:Int) h3=>
 Join (fun(t7:Bool) h8=>
 CondP t7 (
 I1 (IntKind.wrap .i64 (t2+1)) h8) (
 K t2 h8)) (fun J4=>
 CondP (decide (t2<(x0.size:Int))) (
 CondP (decide (t2<(x1.size:Int))) (
 ∃b5,(0:Int)≤t2∧x0[t2.toNat]? =some b5∧
 ∃b6,(0:Int)≤t2∧x1[t2.toNat]? =some b6∧
 J4 ((b5.toNat:Int)==(b6.toNat:Int)) h3) (
 J4 false h3)) (
 J4 false h3))) 0 h0
noncomputable def Ih:Ann:=.node .nil (.node .nil (.node (.loop [(5,.c (.int .i64))] (.node (.join [(24,.c .bool)] .nil .nil) .nil)) .nil))
theorem H6(x0:ByteArray)(x1:ByteArray){K:cL cd→ad→Prop}{h0:ad}(h:Ai x0 x1 K h0):HC PG uH (gZ x0 x1) cd K h0:=dJ Ih Tryz.func255 Tryz.call255 rfl rfl (by kernel_rfl) h
end Go.Proofs
