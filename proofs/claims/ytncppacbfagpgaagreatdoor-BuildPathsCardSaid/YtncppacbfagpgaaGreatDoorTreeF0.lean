/- A part of the proof that the named laws of this program answer true, whatever the input. -/
import Derived.Test.YtncppacbfagpgaaGreatDoorTreeF
set_option maxRecDepth 100000
set_option linter.unusedVariables false
open Array renaming size→bF,setIfInBounds→bv
open BitVec renaming ofInt→ap
open Int renaming tmod→eX,fdiv→di
open Nat renaming le_of_ble_eq_true→ad,beq→bm
namespace Go.Proofs
open Go.Lift
def rH(x0:Int)(x1:Int×Int×Int)(x2:SliceV)(x3:SliceV)(K:(Bool)→ae→Prop)(h0:ae):Prop:=
 At (hnew h0 [.int .u64 x1.1,.int .u64 x1.2.1,.int .u64 x1.2.2] bX) (fun h1=>
 HC PG tx [] [.c .bool] (fun(e2:Bool) h3=>
 CondP (!e2) (
 K false h3) (
 HC PG tY [.slice x2.a x2.len x2.cap,.int .u8 255,.int .u16 0,.int .u16 0] [.c .slice] (fun(e4:SliceV) h5=>
 HC PG tY [.slice x3.a x3.len x3.cap,.int .u8 255,.int .u16 0,.int .u16 0] [.c .slice] (fun(e6:SliceV) h7=>
 ((2:Int)≠0∧
 ∃v8,af h7 (ag h0) 0 (.int .u64 v8)∧
 ∃v9,af h7 (ag h0) 1 (.int .u64 v9)∧
 ∃v10,af h7 (ag h0) 2 (.int .u64 v10)∧
 HC PG pk [.int .i64 (IntKind.wrap .i64 (eX x0 2)),.agg #[.int .u64 v8,.int .u64 v9,.int .u64 v10],.slice e4.a e4.len e4.cap] [.agg [.int .i64,.int .u64,.int .u64,.int .u64,.ptr,.ptr],.c (.int .i64)] (fun(e11:(T6)×Int) h12=>
 At (hnew h12 [.int .i64 0,.int .u64 0,.int .u64 0,.int .u64 0,.pointer none,.pointer none] bJ) (fun h13=>
 (fV h13 (some (ag h12)) 0 [.int .i64 e11.1.1,.int .u64 e11.1.2.1,.int .u64 e11.1.2.2.1,.int .u64 e11.1.2.2.2.1,.pointer e11.1.2.2.2.2.1,.pointer e11.1.2.2.2.2.2]∧
 At (bP h13 (ag h12) 0 [.int .i64 e11.1.1,.int .u64 e11.1.2.1,.int .u64 e11.1.2.2.1,.int .u64 e11.1.2.2.2.1,.pointer e11.1.2.2.2.2.1,.pointer e11.1.2.2.2.2.2]) (fun h14=>
 ((2:Int)≠0∧
 ∃v15,af h14 (ag h0) 0 (.int .u64 v15)∧
 ∃v16,af h14 (ag h0) 1 (.int .u64 v16)∧
 ∃v17,af h14 (ag h0) 2 (.int .u64 v17)∧
 HC PG rZ [.int .i64 (IntKind.wrap .i64 (eX x0 2)),.agg #[.int .u64 v15,.int .u64 v16,.int .u64 v17]] [.agg [.int .i64,.int .u64,.int .u64,.int .u64,.ptr,.ptr],.c (.int .i64)] (fun(e18:(T6)×Int) h19=>
 At (hnew h19 [.int .i64 0,.int .u64 0,.int .u64 0,.int .u64 0,.pointer none,.pointer none] bJ) (fun h20=>
 (fV h20 (some (ag h19)) 0 [.int .i64 e18.1.1,.int .u64 e18.1.2.1,.int .u64 e18.1.2.2.1,.int .u64 e18.1.2.2.2.1,.pointer e18.1.2.2.2.2.1,.pointer e18.1.2.2.2.2.2]∧
 At (bP h20 (ag h19) 0 [.int .i64 e18.1.1,.int .u64 e18.1.2.1,.int .u64 e18.1.2.2.1,.int .u64 e18.1.2.2.2.1,.pointer e18.1.2.2.2.2.1,.pointer e18.1.2.2.2.2.2]) (fun h21=>
 LoopP (fun I22 (t23:Int) h24=>
 CondP (decide (t23<(e4.len:Int))) (
 (cQ t23 e4.len∧∃a25,e4.a=some a25∧
 ∃v26,af h24 (adr a25 (t23.toNat*2)) 0 (.string v26)∧
 ∃v27,af h24 (adr a25 (t23.toNat*2)) 1 (.string v27)∧
 At (hnew h24 [.string (⟨#[]⟩:ByteArray),.string (⟨#[]⟩:ByteArray)] aj) (fun h28=>
 (fV h28 (some (ag h24)) 0 [.string v26,.string v27]∧
 At (bP h28 (ag h24) 0 [.string v26,.string v27]) (fun h29=>
 ∃v30,af h29 (ag h19) 0 (.int .i64 v30)∧
 ∃v31,af h29 (ag h19) 1 (.int .u64 v31)∧
 ∃v32,af h29 (ag h19) 2 (.int .u64 v32)∧
 ∃v33,af h29 (ag h19) 3 (.int .u64 v33)∧
 ∃v34,af h29 (ag h19) 4 (.pointer v34)∧
 ∃v35,af h29 (ag h19) 5 (.pointer v35)∧
 ∃v36,af h29 (ag h24) 0 (.string v36)∧
 ∃v37,af h29 (ag h24) 1 (.string v37)∧
 HC PG iR [.agg #[.int .i64 v30,.int .u64 v31,.int .u64 v32,.int .u64 v33,.pointer v34,.pointer v35],.pointer none,.agg #[.string v36,.string v37]] [.agg [.int .i64,.int .u64,.int .u64,.int .u64,.ptr,.ptr],.c (.int .i64)] (fun(e38:(T6)×Int) h39=>
 (fV h39 (some (ag h19)) 0 [.int .i64 e38.1.1,.int .u64 e38.1.2.1,.int .u64 e38.1.2.2.1,.int .u64 e38.1.2.2.2.1,.pointer e38.1.2.2.2.2.1,.pointer e38.1.2.2.2.2.2]∧
 At (bP h39 (ag h19) 0 [.int .i64 e38.1.1,.int .u64 e38.1.2.1,.int .u64 e38.1.2.2.1,.int .u64 e38.1.2.2.2.1,.pointer e38.1.2.2.2.2.1,.pointer e38.1.2.2.2.2.2]) (fun h40=>
 I22 (IntKind.wrap .i64 (t23+1)) h40))) h29))))) (
 Join (fun(t56:Bool) h57=>
 CondP t56 (
 K false h57) (
 LoopP (fun I58 (t59:Int) h60=>
 CondP (decide (t59<(e6.len:Int))) (
 Join (fun(t109:Unit) h110=>
 I58 (IntKind.wrap .i64 (t59+1)) h110) (fun J61=>
 (cQ t59 e6.len∧∃a62,e6.a=some a62∧
 ∃v63,af h60 (adr a62 (t59.toNat*2)) 0 (.string v63)∧
 ∃v64,af h60 (adr a62 (t59.toNat*2)) 1 (.string v64)∧
 At (hnew h60 [.string (⟨#[]⟩:ByteArray),.string (⟨#[]⟩:ByteArray)] aj) (fun h65=>
 (fV h65 (some (ag h60)) 0 [.string v63,.string v64]∧
 At (bP h65 (ag h60) 0 [.string v63,.string v64]) (fun h66=>
 ((3:Int)≠0∧
 CondP ((eX t59 3)==(2:Int)) (
 ∃v67,af h66 (ag h12) 0 (.int .i64 v67)∧
 ∃v68,af h66 (ag h12) 1 (.int .u64 v68)∧
 ∃v69,af h66 (ag h12) 2 (.int .u64 v69)∧
 ∃v70,af h66 (ag h12) 3 (.int .u64 v70)∧
 ∃v71,af h66 (ag h12) 4 (.pointer v71)∧
 ∃v72,af h66 (ag h12) 5 (.pointer v72)∧
 ∃v73,af h66 (ag h60) 0 (.string v73)∧
 HC PG iH [.agg #[.int .i64 v67,.int .u64 v68,.int .u64 v69,.int .u64 v70,.pointer v71,.pointer v72],.pointer none,.string v73] [.agg [.int .i64,.int .u64,.int .u64,.int .u64,.ptr,.ptr],.c (.int .i64)] (fun(e74:(T6)×Int) h75=>
 (fV h75 (some (ag h12)) 0 [.int .i64 e74.1.1,.int .u64 e74.1.2.1,.int .u64 e74.1.2.2.1,.int .u64 e74.1.2.2.2.1,.pointer e74.1.2.2.2.2.1,.pointer e74.1.2.2.2.2.2]∧
 At (bP h75 (ag h12) 0 [.int .i64 e74.1.1,.int .u64 e74.1.2.1,.int .u64 e74.1.2.2.1,.int .u64 e74.1.2.2.2.1,.pointer e74.1.2.2.2.2.1,.pointer e74.1.2.2.2.2.2]) (fun h76=>
 ∃v77,af h76 (ag h19) 0 (.int .i64 v77)∧
 ∃v78,af h76 (ag h19) 1 (.int .u64 v78)∧
 ∃v79,af h76 (ag h19) 2 (.int .u64 v79)∧
 ∃v80,af h76 (ag h19) 3 (.int .u64 v80)∧
 ∃v81,af h76 (ag h19) 4 (.pointer v81)∧
 ∃v82,af h76 (ag h19) 5 (.pointer v82)∧
 ∃v83,af h76 (ag h60) 0 (.string v83)∧
 HC PG iH [.agg #[.int .i64 v77,.int .u64 v78,.int .u64 v79,.int .u64 v80,.pointer v81,.pointer v82],.pointer none,.string v83] [.agg [.int .i64,.int .u64,.int .u64,.int .u64,.ptr,.ptr],.c (.int .i64)] (fun(e84:(T6)×Int) h85=>
 (fV h85 (some (ag h19)) 0 [.int .i64 e84.1.1,.int .u64 e84.1.2.1,.int .u64 e84.1.2.2.1,.int .u64 e84.1.2.2.2.1,.pointer e84.1.2.2.2.2.1,.pointer e84.1.2.2.2.2.2]∧
 At (bP h85 (ag h19) 0 [.int .i64 e84.1.1,.int .u64 e84.1.2.1,.int .u64 e84.1.2.2.1,.int .u64 e84.1.2.2.2.1,.pointer e84.1.2.2.2.2.1,.pointer e84.1.2.2.2.2.2]) (fun h86=>
 J61 () h86))) h76))) h66) (
 ∃v87,af h66 (ag h12) 0 (.int .i64 v87)∧
 ∃v88,af h66 (ag h12) 1 (.int .u64 v88)∧
 ∃v89,af h66 (ag h12) 2 (.int .u64 v89)∧
 ∃v90,af h66 (ag h12) 3 (.int .u64 v90)∧
 ∃v91,af h66 (ag h12) 4 (.pointer v91)∧
 ∃v92,af h66 (ag h12) 5 (.pointer v92)∧
 ∃v93,af h66 (ag h60) 0 (.string v93)∧
 ∃v94,af h66 (ag h60) 1 (.string v94)∧
 HC PG iR [.agg #[.int .i64 v87,.int .u64 v88,.int .u64 v89,.int .u64 v90,.pointer v91,.pointer v92],.pointer none,.agg #[.string v93,.string v94]] [.agg [.int .i64,.int .u64,.int .u64,.int .u64,.ptr,.ptr],.c (.int .i64)] (fun(e95:(T6)×Int) h96=>
 (fV h96 (some (ag h12)) 0 [.int .i64 e95.1.1,.int .u64 e95.1.2.1,.int .u64 e95.1.2.2.1,.int .u64 e95.1.2.2.2.1,.pointer e95.1.2.2.2.2.1,.pointer e95.1.2.2.2.2.2]∧
 At (bP h96 (ag h12) 0 [.int .i64 e95.1.1,.int .u64 e95.1.2.1,.int .u64 e95.1.2.2.1,.int .u64 e95.1.2.2.2.1,.pointer e95.1.2.2.2.2.1,.pointer e95.1.2.2.2.2.2]) (fun h97=>
 ∃v98,af h97 (ag h19) 0 (.int .i64 v98)∧
 ∃v99,af h97 (ag h19) 1 (.int .u64 v99)∧
 ∃v100,af h97 (ag h19) 2 (.int .u64 v100)∧
 ∃v101,af h97 (ag h19) 3 (.int .u64 v101)∧
 ∃v102,af h97 (ag h19) 4 (.pointer v102)∧
 ∃v103,af h97 (ag h19) 5 (.pointer v103)∧
 ∃v104,af h97 (ag h60) 0 (.string v104)∧
 ∃v105,af h97 (ag h60) 1 (.string v105)∧
 HC PG iR [.agg #[.int .i64 v98,.int .u64 v99,.int .u64 v100,.int .u64 v101,.pointer v102,.pointer v103],.pointer none,.agg #[.string v104,.string v105]] [.agg [.int .i64,.int .u64,.int .u64,.int .u64,.ptr,.ptr],.c (.int .i64)] (fun(e106:(T6)×Int) h107=>
 (fV h107 (some (ag h19)) 0 [.int .i64 e106.1.1,.int .u64 e106.1.2.1,.int .u64 e106.1.2.2.1,.int .u64 e106.1.2.2.2.1,.pointer e106.1.2.2.2.2.1,.pointer e106.1.2.2.2.2.2]∧
 At (bP h107 (ag h19) 0 [.int .i64 e106.1.1,.int .u64 e106.1.2.1,.int .u64 e106.1.2.2.1,.int .u64 e106.1.2.2.2.1,.pointer e106.1.2.2.2.2.1,.pointer e106.1.2.2.2.2.2]) (fun h108=>
 J61 () h108))) h97))) h66)))))))) (
 ∃v111,af h60 (ag h12) 0 (.int .i64 v111)∧
 ∃v112,af h60 (ag h12) 1 (.int .u64 v112)∧
 ∃v113,af h60 (ag h12) 2 (.int .u64 v113)∧
 ∃v114,af h60 (ag h12) 3 (.int .u64 v114)∧
 ∃v115,af h60 (ag h12) 4 (.pointer v115)∧
 ∃v116,af h60 (ag h12) 5 (.pointer v116)∧
 ∃v117,af h60 (ag h19) 0 (.int .i64 v117)∧
 ∃v118,af h60 (ag h19) 1 (.int .u64 v118)∧
 ∃v119,af h60 (ag h19) 2 (.int .u64 v119)∧
 ∃v120,af h60 (ag h19) 3 (.int .u64 v120)∧
 ∃v121,af h60 (ag h19) 4 (.pointer v121)∧
 ∃v122,af h60 (ag h19) 5 (.pointer v122)∧
 HC PG qg [.agg #[.int .i64 v111,.int .u64 v112,.int .u64 v113,.int .u64 v114,.pointer v115,.pointer v116],.agg #[.int .i64 v117,.int .u64 v118,.int .u64 v119,.int .u64 v120,.pointer v121,.pointer v122]] [.c .bool] (fun(e123:Bool) h124=>
 CondP e123 (
 ∃v125,af h124 (ag h12) 0 (.int .i64 v125)∧
 ∃v126,af h124 (ag h12) 1 (.int .u64 v126)∧
 ∃v127,af h124 (ag h12) 2 (.int .u64 v127)∧
 ∃v128,af h124 (ag h12) 3 (.int .u64 v128)∧
 ∃v129,af h124 (ag h12) 4 (.pointer v129)∧
 ∃v130,af h124 (ag h12) 5 (.pointer v130)∧
 HC PG mN [.agg #[.int .i64 v125,.int .u64 v126,.int .u64 v127,.int .u64 v128,.pointer v129,.pointer v130]] [.c .bool] (fun(e131:Bool) h132=>
 K e131 h132) h124) (
 K false h124)) h60)) 0 h57)) (fun J41=>
 CondP (e11.2 !=(0:Int)) (
 J41 true h24) (
 ∃v42,af h24 (ag h12) 0 (.int .i64 v42)∧
 ∃v43,af h24 (ag h12) 1 (.int .u64 v43)∧
 ∃v44,af h24 (ag h12) 2 (.int .u64 v44)∧
 ∃v45,af h24 (ag h12) 3 (.int .u64 v45)∧
 ∃v46,af h24 (ag h12) 4 (.pointer v46)∧
 ∃v47,af h24 (ag h12) 5 (.pointer v47)∧
 ∃v48,af h24 (ag h19) 0 (.int .i64 v48)∧
 ∃v49,af h24 (ag h19) 1 (.int .u64 v49)∧
 ∃v50,af h24 (ag h19) 2 (.int .u64 v50)∧
 ∃v51,af h24 (ag h19) 3 (.int .u64 v51)∧
 ∃v52,af h24 (ag h19) 4 (.pointer v52)∧
 ∃v53,af h24 (ag h19) 5 (.pointer v53)∧
 HC PG qg [.agg #[.int .i64 v42,.int .u64 v43,.int .u64 v44,.int .u64 v45,.pointer v46,.pointer v47],.agg #[.int .i64 v48,.int .u64 v49,.int .u64 v50,.int .u64 v51,.pointer v52,.pointer v53]] [.c .bool] (fun(e54:Bool) h55=>
 J41 (!e54) h55) h24)))) 0 h21)))) h14))))) h7)) h5) h3)) h1)
noncomputable def yS:Ann:=.node .nil (.node .nil (.node .nil (.node .nil (.node .nil (.node (.node .nil (.loop [(42,.c (.int .i64))] .nil)) (.node (.join [(60,.c .bool)] .nil .nil) (.node (.node .nil (.loop [(63,.c (.int .i64))] (.node .nil (.node .nil (.join [] .nil .nil))))) .nil)))))))
theorem yF(x0:Int)(x1:Int×Int×Int)(x2:SliceV)(x3:SliceV){K:cJ [.c .bool]→ae→Prop}{h0:ae}(h:rH x0 x1 x2 x3 K h0):HC PG rl [.int .u8 x0,.agg #[.int .u64 x1.1,.int .u64 x1.2.1,.int .u64 x1.2.2],.slice x2.a x2.len x2.cap,.slice x3.a x3.len x3.cap] [.c .bool] K h0:=HC.intro (an:=yS) (c:=Tryz.f6.body.getD .skip) Tryz.mixed Tryz.func6 rfl Tryz.call6 (ad rfl) (dF (by kernel_rfl) h)
def zE(K:(Bool)→ae→Prop)(h0:ae):Prop:=
 At (hnew h0 [.string (⟨#[98]⟩:ByteArray),.string (⟨#[49]⟩:ByteArray),.string (⟨#[97]⟩:ByteArray),.string (⟨#[50]⟩:ByteArray),.string (⟨#[98]⟩:ByteArray),.string (⟨#[51]⟩:ByteArray)] aj) (fun h1=>
 HC PG pk [.int .i64 1,.agg #[.int .u64 0,.int .u64 0,.int .u64 0],.slice (some (ag h0)) 3 3] [.agg [.int .i64,.int .u64,.int .u64,.int .u64,.ptr,.ptr],.c (.int .i64)] (fun(e2:(T6)×Int) h3=>
 At (hnew h3 [.int .i64 0,.int .u64 0,.int .u64 0,.int .u64 0,.pointer none,.pointer none] bJ) (fun h4=>
 (fV h4 (some (ag h3)) 0 [.int .i64 e2.1.1,.int .u64 e2.1.2.1,.int .u64 e2.1.2.2.1,.int .u64 e2.1.2.2.2.1,.pointer e2.1.2.2.2.2.1,.pointer e2.1.2.2.2.2.2]∧
 At (bP h4 (ag h3) 0 [.int .i64 e2.1.1,.int .u64 e2.1.2.1,.int .u64 e2.1.2.2.1,.int .u64 e2.1.2.2.2.1,.pointer e2.1.2.2.2.2.1,.pointer e2.1.2.2.2.2.2]) (fun h5=>
 ∃v6,af h5 (ag h3) 0 (.int .i64 v6)∧
 ∃v7,af h5 (ag h3) 1 (.int .u64 v7)∧
 ∃v8,af h5 (ag h3) 2 (.int .u64 v8)∧
 ∃v9,af h5 (ag h3) 3 (.int .u64 v9)∧
 ∃v10,af h5 (ag h3) 4 (.pointer v10)∧
 ∃v11,af h5 (ag h3) 5 (.pointer v11)∧
 HC PG mM [.agg #[.int .i64 v6,.int .u64 v7,.int .u64 v8,.int .u64 v9,.pointer v10,.pointer v11]] [.c .slice] (fun(e12:SliceV) h13=>
 CondP (e2.2==(0:Int)) (
 CondP ((e12.len:Int)==(2:Int)) (
 (cQ 0 e12.len∧∃a14,e12.a=some a14∧
 ∃v15,af h13 (adr a14 ((0:Int).toNat*2)) 0 (.string v15)∧
 ∃v16,af h13 (adr a14 ((0:Int).toNat*2)) 1 (.string v16)∧
 CondP ((v15.toList==(⟨#[97]⟩:ByteArray).toList)&&((v16.toList==(⟨#[50]⟩:ByteArray).toList)&&true)) (
 (cQ 1 e12.len∧∃a17,e12.a=some a17∧
 ∃v18,af h13 (adr a17 ((1:Int).toNat*2)) 1 (.string v18)∧
 K (v18.toList==(⟨#[51]⟩:ByteArray).toList) h13)) (
 K false h13))) (
 K false h13)) (
 K false h13)) h5)))) h1)
noncomputable def GU:Ann:=.nil
theorem GJ{K:cJ [.c .bool]→ae→Prop}{h0:ae}(h:zE K h0):HC PG tx [] [.c .bool] K h0:=HC.intro (an:=GU) (c:=Tryz.f11.body.getD .skip) Tryz.mixed Tryz.func11 rfl Tryz.call11 (ad rfl) (dF (by kernel_rfl) h)
def D7(x0:SliceV)(x1:Int)(x2:Int)(x3:Int)(K:(SliceV)→ae→Prop)(h0:ae):Prop:=
 LoopP (fun I1 (t2:SliceV×Int) h3=>
 CondP (decide (t2.2<(x0.len:Int))) (
 Join (fun(t35:SliceV) h36=>
 I1 (t35,IntKind.wrap .i64 (t2.2+1)) h36) (fun J4=>
 (cQ t2.2 x0.len∧∃a5,x0.a=some a5∧
 ∃v6,af h3 (adr a5 (t2.2.toNat*2)) 0 (.string v6)∧
 ∃v7,af h3 (adr a5 (t2.2.toNat*2)) 1 (.string v7)∧
 At (hnew h3 [.string (⟨#[]⟩:ByteArray),.string (⟨#[]⟩:ByteArray)] aj) (fun h8=>
 (fV h8 (some (ag h3)) 0 [.string v6,.string v7]∧
 At (bP h8 (ag h3) 0 [.string v6,.string v7]) (fun h9=>
 CondP (decide (t2.2≥(40:Int))) (
 K t2.1 h9) (
 ∃v10,af h9 (ag h3) 0 (.string v10)∧
 ∃v11,af h9 (ag h3) 0 (.string v11)∧
 (((0:Int)≤(if 40<(v11.size:Int)then 40 else(v11.size:Int))∧(if 40<(v11.size:Int)then 40 else(v11.size:Int))≤((v10.size:Nat):Int))∧
 Bd (v10.extract 0 ((if 40<(v11.size:Int)then 40 else(v11.size:Int)).toNat):ByteArray) (fun s12=>
 ∃v13,af h9 (ag h3) 1 (.string v13)∧
 ∃v14,af h9 (ag h3) 1 (.string v14)∧
 (((0:Int)≤(if 40<(v14.size:Int)then 40 else(v14.size:Int))∧(if 40<(v14.size:Int)then 40 else(v14.size:Int))≤((v13.size:Nat):Int))∧
 Bd (v13.extract 0 ((if 40<(v14.size:Int)then 40 else(v14.size:Int)).toNat):ByteArray) (fun s15=>
 (Wr h9 (adr (ag h3) 0)∧
 At (hset h9 (adr (ag h3) 0) (.string s12)) (fun h16=>
 (Wr h16 (adr (ag h3) 1)∧
 At (hset h16 (adr (ag h3) 1) (.string s15)) (fun h17=>
 Join (fun(t27:Unit) h28=>
 ∃v29,af h28 (ag h3) 0 (.string v29)∧
 ∃v30,af h28 (ag h3) 1 (.string v30)∧
 At (hnew h28 [.string v29,.string v30] aj) (fun h31=>
 ∃xs32,SRow h31 (some (ag h28)) (1*2) xs32∧
 AppP (some [.string (⟨#[]⟩:ByteArray),.string (⟨#[]⟩:ByteArray)]) 2 32 aj t2.1.a t2.1.len t2.1.cap 1 xs32 h31 (fun s33 h34=>
 J4 s33 h34))) (fun J18=>
 CondP (t2.2==(IntKind.wrap .i64 x1)) (
 ∃v19,af h17 (ag h3) 0 (.string v19)∧
 ((300:Int)≠0∧
 (((0:Int)≤(eX (IntKind.wrap .i64 x2) 300)∧(eX (IntKind.wrap .i64 x2) 300)≤(eX (IntKind.wrap .i64 x2) 300)∧(eX (IntKind.wrap .i64 x2) 300)≤9223372036854775807∧1*(eX (IntKind.wrap .i64 x2) 300)≤2^48)∧
 At (hnew h17 (dd (eX (IntKind.wrap .i64 x2) 300).toNat [.int .u8 0]) dQ) (fun h20=>
 (af h20 (ag h3) 0 (.string v19)∧
 ∃s21,SRow h20 (some (ag h17)) ((eX (IntKind.wrap .i64 x2) 300).toNat) (dq s21)∧
 (((v19.size+s21.size:Nat):Int)≤9223372036854775807∧
 (Wr h20 (adr (ag h3) 0)∧
 At (hset h20 (adr (ag h3) 0) (.string (v19++s21))) (fun h22=>
 ∃v23,af h22 (ag h3) 1 (.string v23)∧
 ((4200:Int)≠0∧
 (((0:Int)≤(eX (IntKind.wrap .i64 x3) 4200)∧(eX (IntKind.wrap .i64 x3) 4200)≤(eX (IntKind.wrap .i64 x3) 4200)∧(eX (IntKind.wrap .i64 x3) 4200)≤9223372036854775807∧1*(eX (IntKind.wrap .i64 x3) 4200)≤2^48)∧
 At (hnew h22 (dd (eX (IntKind.wrap .i64 x3) 4200).toNat [.int .u8 0]) dQ) (fun h24=>
 (af h24 (ag h3) 1 (.string v23)∧
 ∃s25,SRow h24 (some (ag h22)) ((eX (IntKind.wrap .i64 x3) 4200).toNat) (dq s25)∧
 (((v23.size+s25.size:Nat):Int)≤9223372036854775807∧
 (Wr h24 (adr (ag h3) 1)∧
 At (hset h24 (adr (ag h3) 1) (.string (v23++s25))) (fun h26=>
 J18 () h26))))))))))))))) (
 J18 () h17))))))))))))))))) (
 K t2.1 h3)) (⟨none,0,0⟩,0) h0
noncomputable def KL:Ann:=.node .nil (.node .nil (.node (.node .nil (.loop [(9,.c .slice),(14,.c (.int .i64))] (.node .nil (.node .nil (.join [(9,.c .slice)] (.node .nil (.node .nil (.node .nil (.join [] .nil .nil)))) .nil))))) .nil))
theorem KI(x0:SliceV)(x1:Int)(x2:Int)(x3:Int){K:cJ [.c .slice]→ae→Prop}{h0:ae}(h:D7 x0 x1 x2 x3 K h0):HC PG tY [.slice x0.a x0.len x0.cap,.int .u8 x1,.int .u16 x2,.int .u16 x3] [.c .slice] K h0:=HC.intro (an:=KL) (c:=Tryz.f12.body.getD .skip) Tryz.mixed Tryz.func12 rfl Tryz.call12 (ad rfl) (dF (by kernel_rfl) h)
def xx(x0:Int)(x1:Int×Int×Int)(x2:SliceV)(K:((T6)×Int)→ae→Prop)(h0:ae):Prop:=
 At (hnew h0 [.int .u64 x1.1,.int .u64 x1.2.1,.int .u64 x1.2.2] bX) (fun h1=>
 At (hnew h1 [.int .i64 0,.int .u64 0,.int .u64 0,.int .u64 0,.pointer none,.pointer none] bJ) (fun h2=>
 ∃v3,af h2 (ag h0) 0 (.int .u64 v3)∧
 ∃v4,af h2 (ag h0) 1 (.int .u64 v4)∧
 ∃v5,af h2 (ag h0) 2 (.int .u64 v5)∧
 HC PG rZ [.int .i64 x0,.agg #[.int .u64 v3,.int .u64 v4,.int .u64 v5]] [.agg [.int .i64,.int .u64,.int .u64,.int .u64,.ptr,.ptr],.c (.int .i64)] (fun(e6:(T6)×Int) h7=>
 At (hnew h7 [.int .i64 0,.int .u64 0,.int .u64 0,.int .u64 0,.pointer none,.pointer none] bJ) (fun h8=>
 (fV h8 (some (ag h7)) 0 [.int .i64 e6.1.1,.int .u64 e6.1.2.1,.int .u64 e6.1.2.2.1,.int .u64 e6.1.2.2.2.1,.pointer e6.1.2.2.2.2.1,.pointer e6.1.2.2.2.2.2]∧
 At (bP h8 (ag h7) 0 [.int .i64 e6.1.1,.int .u64 e6.1.2.1,.int .u64 e6.1.2.2.1,.int .u64 e6.1.2.2.2.1,.pointer e6.1.2.2.2.2.1,.pointer e6.1.2.2.2.2.2]) (fun h9=>
 CondP (e6.2 !=(0:Int)) (
 (fV h9 (some (ag h1)) 0 [.int .i64 0,.int .u64 0,.int .u64 0,.int .u64 0,.pointer none,.pointer none]∧
 At (bP h9 (ag h1) 0 [.int .i64 0,.int .u64 0,.int .u64 0,.int .u64 0,.pointer none,.pointer none]) (fun h10=>
 ∃v11,af h10 (ag h1) 0 (.int .i64 v11)∧
 ∃v12,af h10 (ag h1) 1 (.int .u64 v12)∧
 ∃v13,af h10 (ag h1) 2 (.int .u64 v13)∧
 ∃v14,af h10 (ag h1) 3 (.int .u64 v14)∧
 ∃v15,af h10 (ag h1) 4 (.pointer v15)∧
 ∃v16,af h10 (ag h1) 5 (.pointer v16)∧
 K ((v11,v12,v13,v14,v15,v16),e6.2) h10))) (
 LoopP (fun I17 (t18:Int) h19=>
 CondP (decide (t18<(x2.len:Int))) (
 (cQ t18 x2.len∧∃a20,x2.a=some a20∧
 ∃v21,af h19 (adr a20 (t18.toNat*2)) 0 (.string v21)∧
 ∃v22,af h19 (adr a20 (t18.toNat*2)) 1 (.string v22)∧
 At (hnew h19 [.string (⟨#[]⟩:ByteArray),.string (⟨#[]⟩:ByteArray)] aj) (fun h23=>
 (fV h23 (some (ag h19)) 0 [.string v21,.string v22]∧
 At (bP h23 (ag h19) 0 [.string v21,.string v22]) (fun h24=>
 ∃v25,af h24 (ag h19) 0 (.string v25)∧
 ∃v26,af h24 (ag h19) 1 (.string v26)∧
 HC PG mU [.string v25,.string v26] [.c (.int .i64)] (fun(e27:Int) h28=>
 CondP (e27 !=(0:Int)) (
 (fV h28 (some (ag h1)) 0 [.int .i64 0,.int .u64 0,.int .u64 0,.int .u64 0,.pointer none,.pointer none]∧
 At (bP h28 (ag h1) 0 [.int .i64 0,.int .u64 0,.int .u64 0,.int .u64 0,.pointer none,.pointer none]) (fun h29=>
 ∃v30,af h29 (ag h1) 0 (.int .i64 v30)∧
 ∃v31,af h29 (ag h1) 1 (.int .u64 v31)∧
 ∃v32,af h29 (ag h1) 2 (.int .u64 v32)∧
 ∃v33,af h29 (ag h1) 3 (.int .u64 v33)∧
 ∃v34,af h29 (ag h1) 4 (.pointer v34)∧
 ∃v35,af h29 (ag h1) 5 (.pointer v35)∧
 K ((v30,v31,v32,v33,v34,v35),e27) h29))) (
 I17 (IntKind.wrap .i64 (t18+1)) h28)) h24))))) (
 CondP (x0==(1:Int)) (
 HC PG qQ [.slice x2.a x2.len x2.cap] [.c .ptr] (fun(e36:Option Addr) h37=>
 HC PG mO [.pointer e36] [.agg [.int .i64,.int .u64,.int .u64,.int .u64,.ptr,.ptr]] (fun(e38:T6) h39=>
 (fV h39 (some (ag h1)) 0 [.int .i64 e38.1,.int .u64 e38.2.1,.int .u64 e38.2.2.1,.int .u64 e38.2.2.2.1,.pointer e38.2.2.2.2.1,.pointer e38.2.2.2.2.2]∧
 At (bP h39 (ag h1) 0 [.int .i64 e38.1,.int .u64 e38.2.1,.int .u64 e38.2.2.1,.int .u64 e38.2.2.2.1,.pointer e38.2.2.2.2.1,.pointer e38.2.2.2.2.2]) (fun h40=>
 ∃v41,af h40 (ag h1) 0 (.int .i64 v41)∧
 ∃v42,af h40 (ag h1) 1 (.int .u64 v42)∧
 ∃v43,af h40 (ag h1) 2 (.int .u64 v43)∧
 ∃v44,af h40 (ag h1) 3 (.int .u64 v44)∧
 ∃v45,af h40 (ag h1) 4 (.pointer v45)∧
 ∃v46,af h40 (ag h1) 5 (.pointer v46)∧
 K ((v41,v42,v43,v44,v45,v46),0) h40))) h37) h19) (
 ∃v47,af h19 (ag h0) 0 (.int .u64 v47)∧
 ∃v48,af h19 (ag h0) 1 (.int .u64 v48)∧
 ∃v49,af h19 (ag h0) 2 (.int .u64 v49)∧
 ∃v50,af h19 (ag h0) 0 (.int .u64 v50)∧
 ∃v51,af h19 (ag h0) 1 (.int .u64 v51)∧
 ∃v52,af h19 (ag h0) 2 (.int .u64 v52)∧
 HC PG qR [.agg #[.int .u64 v50,.int .u64 v51,.int .u64 v52],.slice x2.a x2.len x2.cap] [.c .ptr] (fun(e53:Option Addr) h54=>
 ((af h54 (ag h0) 0 (.int .u64 v47)∧af h54 (ag h0) 1 (.int .u64 v48)∧af h54 (ag h0) 2 (.int .u64 v49))∧
 HC PG mP [.agg #[.int .u64 v47,.int .u64 v48,.int .u64 v49],.pointer e53] [.agg [.int .i64,.int .u64,.int .u64,.int .u64,.ptr,.ptr]] (fun(e55:T6) h56=>
 (fV h56 (some (ag h1)) 0 [.int .i64 e55.1,.int .u64 e55.2.1,.int .u64 e55.2.2.1,.int .u64 e55.2.2.2.1,.pointer e55.2.2.2.2.1,.pointer e55.2.2.2.2.2]∧
 At (bP h56 (ag h1) 0 [.int .i64 e55.1,.int .u64 e55.2.1,.int .u64 e55.2.2.1,.int .u64 e55.2.2.2.1,.pointer e55.2.2.2.2.1,.pointer e55.2.2.2.2.2]) (fun h57=>
 ∃v58,af h57 (ag h1) 0 (.int .i64 v58)∧
 ∃v59,af h57 (ag h1) 1 (.int .u64 v59)∧
 ∃v60,af h57 (ag h1) 2 (.int .u64 v60)∧
 ∃v61,af h57 (ag h1) 3 (.int .u64 v61)∧
 ∃v62,af h57 (ag h1) 4 (.pointer v62)∧
 ∃v63,af h57 (ag h1) 5 (.pointer v63)∧
 K ((v58,v59,v60,v61,v62,v63),0) h57))) h54)) h19))) 0 h9))))) h2))
noncomputable def Fv:Ann:=.node .nil (.node .nil (.node (.node .nil (.loop [(25,.c (.int .i64))] .nil)) .nil))
theorem Fc(x0:Int)(x1:Int×Int×Int)(x2:SliceV){K:cJ [.agg [.int .i64,.int .u64,.int .u64,.int .u64,.ptr,.ptr],.c (.int .i64)]→ae→Prop}{h0:ae}(h:xx x0 x1 x2 K h0):HC PG pk [.int .i64 x0,.agg #[.int .u64 x1.1,.int .u64 x1.2.1,.int .u64 x1.2.2],.slice x2.a x2.len x2.cap] [.agg [.int .i64,.int .u64,.int .u64,.int .u64,.ptr,.ptr],.c (.int .i64)] K h0:=HC.intro (an:=Fv) (c:=Tryz.f13.body.getD .skip) Tryz.mixed Tryz.func13 rfl Tryz.call13 (ad rfl) (dF (by kernel_rfl) h)
def BT(x0:Int)(x1:Int×Int×Int)(K:((T6)×Int)→ae→Prop)(h0:ae):Prop:=
 At (hnew h0 [.int .u64 x1.1,.int .u64 x1.2.1,.int .u64 x1.2.2] bX) (fun h1=>
 At (hnew h1 [.int .i64 0,.int .u64 0,.int .u64 0,.int .u64 0,.pointer none,.pointer none] bJ) (fun h2=>
 CondP (x0==(0:Int)) (
 ∃v3,af h2 (ag h0) 0 (.int .u64 v3)∧
 ∃v4,af h2 (ag h0) 1 (.int .u64 v4)∧
 ∃v5,af h2 (ag h0) 2 (.int .u64 v5)∧
 HC PG mP [.agg #[.int .u64 v3,.int .u64 v4,.int .u64 v5],.pointer none] [.agg [.int .i64,.int .u64,.int .u64,.int .u64,.ptr,.ptr]] (fun(e6:T6) h7=>
 (fV h7 (some (ag h1)) 0 [.int .i64 e6.1,.int .u64 e6.2.1,.int .u64 e6.2.2.1,.int .u64 e6.2.2.2.1,.pointer e6.2.2.2.2.1,.pointer e6.2.2.2.2.2]∧
 At (bP h7 (ag h1) 0 [.int .i64 e6.1,.int .u64 e6.2.1,.int .u64 e6.2.2.1,.int .u64 e6.2.2.2.1,.pointer e6.2.2.2.2.1,.pointer e6.2.2.2.2.2]) (fun h8=>
 ∃v9,af h8 (ag h1) 0 (.int .i64 v9)∧
 ∃v10,af h8 (ag h1) 1 (.int .u64 v10)∧
 ∃v11,af h8 (ag h1) 2 (.int .u64 v11)∧
 ∃v12,af h8 (ag h1) 3 (.int .u64 v12)∧
 ∃v13,af h8 (ag h1) 4 (.pointer v13)∧
 ∃v14,af h8 (ag h1) 5 (.pointer v14)∧
 K ((v9,v10,v11,v12,v13,v14),0) h8))) h2) (
 CondP (x0==(1:Int)) (
 HC PG mO [.pointer none] [.agg [.int .i64,.int .u64,.int .u64,.int .u64,.ptr,.ptr]] (fun(e15:T6) h16=>
 (fV h16 (some (ag h1)) 0 [.int .i64 e15.1,.int .u64 e15.2.1,.int .u64 e15.2.2.1,.int .u64 e15.2.2.2.1,.pointer e15.2.2.2.2.1,.pointer e15.2.2.2.2.2]∧
 At (bP h16 (ag h1) 0 [.int .i64 e15.1,.int .u64 e15.2.1,.int .u64 e15.2.2.1,.int .u64 e15.2.2.2.1,.pointer e15.2.2.2.2.1,.pointer e15.2.2.2.2.2]) (fun h17=>
 ∃v18,af h17 (ag h1) 0 (.int .i64 v18)∧
 ∃v19,af h17 (ag h1) 1 (.int .u64 v19)∧
 ∃v20,af h17 (ag h1) 2 (.int .u64 v20)∧
 ∃v21,af h17 (ag h1) 3 (.int .u64 v21)∧
 ∃v22,af h17 (ag h1) 4 (.pointer v22)∧
 ∃v23,af h17 (ag h1) 5 (.pointer v23)∧
 K ((v18,v19,v20,v21,v22,v23),0) h17))) h2) (
 (fV h2 (some (ag h1)) 0 [.int .i64 0,.int .u64 0,.int .u64 0,.int .u64 0,.pointer none,.pointer none]∧
 At (bP h2 (ag h1) 0 [.int .i64 0,.int .u64 0,.int .u64 0,.int .u64 0,.pointer none,.pointer none]) (fun h24=>
 ∃v25,af h24 (ag h1) 0 (.int .i64 v25)∧
 ∃v26,af h24 (ag h1) 1 (.int .u64 v26)∧
 ∃v27,af h24 (ag h1) 2 (.int .u64 v27)∧
 ∃v28,af h24 (ag h1) 3 (.int .u64 v28)∧
 ∃v29,af h24 (ag h1) 4 (.pointer v29)∧
 ∃v30,af h24 (ag h1) 5 (.pointer v30)∧
 K ((v25,v26,v27,v28,v29,v30),11) h24))))))
noncomputable def IB:Ann:=.nil
theorem Im(x0:Int)(x1:Int×Int×Int){K:cJ [.agg [.int .i64,.int .u64,.int .u64,.int .u64,.ptr,.ptr],.c (.int .i64)]→ae→Prop}{h0:ae}(h:BT x0 x1 K h0):HC PG rZ [.int .i64 x0,.agg #[.int .u64 x1.1,.int .u64 x1.2.1,.int .u64 x1.2.2]] [.agg [.int .i64,.int .u64,.int .u64,.int .u64,.ptr,.ptr],.c (.int .i64)] K h0:=HC.intro (an:=IB) (c:=Tryz.f18.body.getD .skip) Tryz.mixed Tryz.func18 rfl Tryz.call18 (ad rfl) (dF (by kernel_rfl) h)
def zx(x0:T6)(x1:T6)(K:(Bool)→ae→Prop)(h0:ae):Prop:=
 At (hnew h0 [.int .i64 x0.1,.int .u64 x0.2.1,.int .u64 x0.2.2.1,.int .u64 x0.2.2.2.1,.pointer x0.2.2.2.2.1,.pointer x0.2.2.2.2.2] bJ) (fun h1=>
 At (hnew h1 [.int .i64 x1.1,.int .u64 x1.2.1,.int .u64 x1.2.2.1,.int .u64 x1.2.2.2.1,.pointer x1.2.2.2.2.1,.pointer x1.2.2.2.2.2] bJ) (fun h2=>
 ∃v3,af h2 (ag h0) 0 (.int .i64 v3)∧
 ∃v4,af h2 (ag h0) 1 (.int .u64 v4)∧
 ∃v5,af h2 (ag h0) 2 (.int .u64 v5)∧
 ∃v6,af h2 (ag h0) 3 (.int .u64 v6)∧
 ∃v7,af h2 (ag h0) 4 (.pointer v7)∧
 ∃v8,af h2 (ag h0) 5 (.pointer v8)∧
 ∃v9,af h2 (ag h1) 0 (.int .i64 v9)∧
 ∃v10,af h2 (ag h1) 1 (.int .u64 v10)∧
 ∃v11,af h2 (ag h1) 2 (.int .u64 v11)∧
 ∃v12,af h2 (ag h1) 3 (.int .u64 v12)∧
 ∃v13,af h2 (ag h1) 4 (.pointer v13)∧
 ∃v14,af h2 (ag h1) 5 (.pointer v14)∧
 HC PG tp [.agg #[.int .i64 v3,.int .u64 v4,.int .u64 v5,.int .u64 v6,.pointer v7,.pointer v8],.agg #[.int .i64 v9,.int .u64 v10,.int .u64 v11,.int .u64 v12,.pointer v13,.pointer v14]] [.c .bool] (fun(e15:Bool) h16=>
 CondP e15 (
 ∃v17,af h16 (ag h0) 0 (.int .i64 v17)∧
 ∃v18,af h16 (ag h0) 1 (.int .u64 v18)∧
 ∃v19,af h16 (ag h0) 2 (.int .u64 v19)∧
 ∃v20,af h16 (ag h0) 3 (.int .u64 v20)∧
 ∃v21,af h16 (ag h0) 4 (.pointer v21)∧
 ∃v22,af h16 (ag h0) 5 (.pointer v22)∧
 ∃v23,af h16 (ag h1) 0 (.int .i64 v23)∧
 ∃v24,af h16 (ag h1) 1 (.int .u64 v24)∧
 ∃v25,af h16 (ag h1) 2 (.int .u64 v25)∧
 ∃v26,af h16 (ag h1) 3 (.int .u64 v26)∧
 ∃v27,af h16 (ag h1) 4 (.pointer v27)∧
 ∃v28,af h16 (ag h1) 5 (.pointer v28)∧
 HC PG j1 [.agg #[.int .i64 v17,.int .u64 v18,.int .u64 v19,.int .u64 v20,.pointer v21,.pointer v22]] [.c .slice] (fun(e29:SliceV) h30=>
 ((af h30 (ag h1) 0 (.int .i64 v23)∧af h30 (ag h1) 1 (.int .u64 v24)∧af h30 (ag h1) 2 (.int .u64 v25)∧af h30 (ag h1) 3 (.int .u64 v26)∧af h30 (ag h1) 4 (.pointer v27)∧af h30 (ag h1) 5 (.pointer v28))∧
 HC PG j1 [.agg #[.int .i64 v23,.int .u64 v24,.int .u64 v25,.int .u64 v26,.pointer v27,.pointer v28]] [.c .slice] (fun(e31:SliceV) h32=>
 HC PG qP [.slice e29.a e29.len e29.cap,.slice e31.a e31.len e31.cap] [.c .bool] (fun(e33:Bool) h34=>
 K e33 h34) h32) h30)) h16) (
 K false h16)) h2))
noncomputable def GM:Ann:=.nil
theorem GD(x0:T6)(x1:T6){K:cJ [.c .bool]→ae→Prop}{h0:ae}(h:zx x0 x1 K h0):HC PG qg [.agg #[.int .i64 x0.1,.int .u64 x0.2.1,.int .u64 x0.2.2.1,.int .u64 x0.2.2.2.1,.pointer x0.2.2.2.2.1,.pointer x0.2.2.2.2.2],.agg #[.int .i64 x1.1,.int .u64 x1.2.1,.int .u64 x1.2.2.1,.int .u64 x1.2.2.2.1,.pointer x1.2.2.2.2.1,.pointer x1.2.2.2.2.2]] [.c .bool] K h0:=HC.intro (an:=GM) (c:=Tryz.f21.body.getD .skip) Tryz.mixed Tryz.func21 rfl Tryz.call21 (ad rfl) (dF (by kernel_rfl) h)
def qo(x0:T6)(K:(SliceV)→ae→Prop)(h0:ae):Prop:=
 At (hnew h0 [.int .i64 x0.1,.int .u64 x0.2.1,.int .u64 x0.2.2.1,.int .u64 x0.2.2.2.1,.pointer x0.2.2.2.2.1,.pointer x0.2.2.2.2.2] bJ) (fun h1=>
 ∃v2,af h1 (ag h0) 0 (.int .i64 v2)∧
 CondP (v2==(1:Int)) (
 At (hnew h1 [.int .u8 1] dQ) (fun h3=>
 ∃v4,af h3 (ag h0) 5 (.pointer v4)∧
 HC PG qM [.pointer v4] [.c .slice] (fun(e5:SliceV) h6=>
 ∃xs7,SRow h6 e5.a (e5.len*1) xs7∧
 AppP (some [.int .u8 0]) 1 1 dQ (some (ag h1)) 1 1 e5.len xs7 h6 (fun s8 h9=>
 K s8 h9)) h3)) (
 At (hnew h1 [.int .u8 0] dQ) (fun h10=>
 ∃v11,af h10 (ag h0) 0 (.int .i64 v11)∧
 ∃v12,af h10 (ag h0) 1 (.int .u64 v12)∧
 ∃v13,af h10 (ag h0) 2 (.int .u64 v13)∧
 ∃v14,af h10 (ag h0) 3 (.int .u64 v14)∧
 ∃v15,af h10 (ag h0) 4 (.pointer v15)∧
 ∃v16,af h10 (ag h0) 5 (.pointer v16)∧
 HC PG j2 [.agg #[.int .i64 v11,.int .u64 v12,.int .u64 v13,.int .u64 v14,.pointer v15,.pointer v16]] [.c .ptr] (fun(e17:Option Addr) h18=>
 HC PG vo [.pointer e17] [.c .slice] (fun(e19:SliceV) h20=>
 ∃xs21,SRow h20 e19.a (e19.len*1) xs21∧
 AppP (some [.int .u8 0]) 1 1 dQ (some (ag h1)) 1 1 e19.len xs21 h20 (fun s22 h23=>
 K s22 h23)) h18) h10)))
noncomputable def xz:Ann:=.nil
theorem wR(x0:T6){K:cJ [.c .slice]→ae→Prop}{h0:ae}(h:qo x0 K h0):HC PG j1 [.agg #[.int .i64 x0.1,.int .u64 x0.2.1,.int .u64 x0.2.2.1,.int .u64 x0.2.2.2.1,.pointer x0.2.2.2.2.1,.pointer x0.2.2.2.2.2]] [.c .slice] K h0:=HC.intro (an:=xz) (c:=Tryz.f23.body.getD .skip) Tryz.mixed Tryz.func23 rfl Tryz.call23 (ad rfl) (dF (by kernel_rfl) h)
def qr(x0:T6)(K:(Bool)→ae→Prop)(h0:ae):Prop:=
 At (hnew h0 [.int .i64 x0.1,.int .u64 x0.2.1,.int .u64 x0.2.2.1,.int .u64 x0.2.2.2.1,.pointer x0.2.2.2.2.1,.pointer x0.2.2.2.2.2] bJ) (fun h1=>
 ∃v2,af h1 (ag h0) 0 (.int .i64 v2)∧
 CondP (v2==(1:Int)) (
 ∃v3,af h1 (ag h0) 5 (.pointer v3)∧
 HC PG qN [.pointer v3] [.c .bool] (fun(e4:Bool) h5=>
 K e4 h5) h1) (
 ∃v6,af h1 (adr (ag h0) 1) 0 (.int .u64 v6)∧
 ∃v7,af h1 (adr (ag h0) 1) 1 (.int .u64 v7)∧
 ∃v8,af h1 (adr (ag h0) 1) 2 (.int .u64 v8)∧
 ∃v9,af h1 (ag h0) 0 (.int .i64 v9)∧
 ∃v10,af h1 (ag h0) 1 (.int .u64 v10)∧
 ∃v11,af h1 (ag h0) 2 (.int .u64 v11)∧
 ∃v12,af h1 (ag h0) 3 (.int .u64 v12)∧
 ∃v13,af h1 (ag h0) 4 (.pointer v13)∧
 ∃v14,af h1 (ag h0) 5 (.pointer v14)∧
 HC PG j2 [.agg #[.int .i64 v9,.int .u64 v10,.int .u64 v11,.int .u64 v12,.pointer v13,.pointer v14]] [.c .ptr] (fun(e15:Option Addr) h16=>
 ((af h16 (adr (ag h0) 1) 0 (.int .u64 v6)∧af h16 (adr (ag h0) 1) 1 (.int .u64 v7)∧af h16 (adr (ag h0) 1) 2 (.int .u64 v8))∧
 HC PG uE [.agg #[.int .u64 v6,.int .u64 v7,.int .u64 v8],.pointer e15] [.c .bool] (fun(e17:Bool) h18=>
 K e17 h18) h16)) h1))
noncomputable def xC:Ann:=.nil
theorem wU(x0:T6){K:cJ [.c .bool]→ae→Prop}{h0:ae}(h:qr x0 K h0):HC PG mN [.agg #[.int .i64 x0.1,.int .u64 x0.2.1,.int .u64 x0.2.2.1,.int .u64 x0.2.2.2.1,.pointer x0.2.2.2.2.1,.pointer x0.2.2.2.2.2]] [.c .bool] K h0:=HC.intro (an:=xC) (c:=Tryz.f25.body.getD .skip) Tryz.mixed Tryz.func25 rfl Tryz.call25 (ad rfl) (dF (by kernel_rfl) h)
def tG(x0:Int×Int×Int)(x1:Option Addr)(K:(T6)→ae→Prop)(h0:ae):Prop:=
 At (hnew h0 [.int .u64 x0.1,.int .u64 x0.2.1,.int .u64 x0.2.2] bX) (fun h1=>
 At (hnew h1 [.int .i64 0,.int .u64 0,.int .u64 0,.int .u64 0,.pointer none,.pointer none] bJ) (fun h2=>
 Join (fun(t6:Option Addr) h7=>
 ∃v8,af h7 (ag h0) 0 (.int .u64 v8)∧
 ∃v9,af h7 (ag h0) 1 (.int .u64 v9)∧
 ∃v10,af h7 (ag h0) 2 (.int .u64 v10)∧
 (fV h7 (some (ag h1)) 0 [.int .i64 0,.int .u64 v8,.int .u64 v9,.int .u64 v10,.pointer t6,.pointer none]∧
 At (bP h7 (ag h1) 0 [.int .i64 0,.int .u64 v8,.int .u64 v9,.int .u64 v10,.pointer t6,.pointer none]) (fun h11=>
 ∃v12,af h11 (ag h1) 0 (.int .i64 v12)∧
 ∃v13,af h11 (ag h1) 1 (.int .u64 v13)∧
 ∃v14,af h11 (ag h1) 2 (.int .u64 v14)∧
 ∃v15,af h11 (ag h1) 3 (.int .u64 v15)∧
 ∃v16,af h11 (ag h1) 4 (.pointer v16)∧
 ∃v17,af h11 (ag h1) 5 (.pointer v17)∧
 K (v12,v13,v14,v15,v16,v17) h11))) (fun J3=>
 CondP x1.isNone (
 HC PG lQ [] [.c .ptr] (fun(e4:Option Addr) h5=>
 J3 e4 h5) h2) (
 J3 x1 h2))))
noncomputable def Cb:Ann:=.node .nil (.join [(1,.c .ptr)] .nil .nil)
theorem BL(x0:Int×Int×Int)(x1:Option Addr){K:cJ [.agg [.int .i64,.int .u64,.int .u64,.int .u64,.ptr,.ptr]]→ae→Prop}{h0:ae}(h:tG x0 x1 K h0):HC PG mP [.agg #[.int .u64 x0.1,.int .u64 x0.2.1,.int .u64 x0.2.2],.pointer x1] [.agg [.int .i64,.int .u64,.int .u64,.int .u64,.ptr,.ptr]] K h0:=HC.intro (an:=Cb) (c:=Tryz.f28.body.getD .skip) Tryz.mixed Tryz.func28 rfl Tryz.call28 (ad rfl) (dF (by kernel_rfl) h)
def qq(x0:T6)(K:(Option Addr)→ae→Prop)(h0:ae):Prop:=
 At (hnew h0 [.int .i64 x0.1,.int .u64 x0.2.1,.int .u64 x0.2.2.1,.int .u64 x0.2.2.2.1,.pointer x0.2.2.2.2.1,.pointer x0.2.2.2.2.2] bJ) (fun h1=>
 Join (fun(t5:Bool) h6=>
 CondP t5 (
 HC PG lQ [] [.c .ptr] (fun(e7:Option Addr) h8=>
 K e7 h8) h6) (
 ∃v9,af h6 (ag h0) 4 (.pointer v9)∧
 K v9 h6)) (fun J2=>
 ∃v3,af h1 (ag h0) 0 (.int .i64 v3)∧
 CondP (v3==(0:Int)) (
 ∃v4,af h1 (ag h0) 4 (.pointer v4)∧
 J2 v4.isNone h1) (
 J2 false h1)))
noncomputable def xB:Ann:=.node .nil (.node (.join [(10,.c .bool)] .nil .nil) .nil)
theorem wT(x0:T6){K:cJ [.c .ptr]→ae→Prop}{h0:ae}(h:qq x0 K h0):HC PG j2 [.agg #[.int .i64 x0.1,.int .u64 x0.2.1,.int .u64 x0.2.2.1,.int .u64 x0.2.2.2.1,.pointer x0.2.2.2.2.1,.pointer x0.2.2.2.2.2]] [.c .ptr] K h0:=HC.intro (an:=xB) (c:=Tryz.f29.body.getD .skip) Tryz.mixed Tryz.func29 rfl Tryz.call29 (ad rfl) (dF (by kernel_rfl) h)
def tF(x0:Option Addr)(K:(T6)→ae→Prop)(h0:ae):Prop:=
 At (hnew h0 [.int .i64 0,.int .u64 0,.int .u64 0,.int .u64 0,.pointer none,.pointer none] bJ) (fun h1=>
 Join (fun(t5:Option Addr) h6=>
 (fV h6 (some (ag h0)) 0 [.int .i64 1,.int .u64 0,.int .u64 0,.int .u64 0,.pointer none,.pointer t5]∧
 At (bP h6 (ag h0) 0 [.int .i64 1,.int .u64 0,.int .u64 0,.int .u64 0,.pointer none,.pointer t5]) (fun h7=>
 ∃v8,af h7 (ag h0) 0 (.int .i64 v8)∧
 ∃v9,af h7 (ag h0) 1 (.int .u64 v9)∧
 ∃v10,af h7 (ag h0) 2 (.int .u64 v10)∧
 ∃v11,af h7 (ag h0) 3 (.int .u64 v11)∧
 ∃v12,af h7 (ag h0) 4 (.pointer v12)∧
 ∃v13,af h7 (ag h0) 5 (.pointer v13)∧
 K (v8,v9,v10,v11,v12,v13) h7))) (fun J2=>
 CondP x0.isNone (
 HC PG oa [] [.c .ptr] (fun(e3:Option Addr) h4=>
 J2 e3 h4) h1) (
 J2 x0 h1)))
noncomputable def Ca:Ann:=.node .nil (.join [(0,.c .ptr)] .nil .nil)
theorem BK(x0:Option Addr){K:cJ [.agg [.int .i64,.int .u64,.int .u64,.int .u64,.ptr,.ptr]]→ae→Prop}{h0:ae}(h:tF x0 K h0):HC PG mO [.pointer x0] [.agg [.int .i64,.int .u64,.int .u64,.int .u64,.ptr,.ptr]] K h0:=HC.intro (an:=Ca) (c:=Tryz.f30.body.getD .skip) Tryz.mixed Tryz.func30 rfl Tryz.call30 (ad rfl) (dF (by kernel_rfl) h)
def rx(x0:T6)(x1:Option Addr)(x2:ByteArray×ByteArray)(K:((T6)×Int)→ae→Prop)(h0:ae):Prop:=
 At (hnew h0 [.int .i64 x0.1,.int .u64 x0.2.1,.int .u64 x0.2.2.1,.int .u64 x0.2.2.2.1,.pointer x0.2.2.2.2.1,.pointer x0.2.2.2.2.2] bJ) (fun h1=>
 At (hnew h1 [.string x2.1,.string x2.2] aj) (fun h2=>
 At (hnew h2 [.int .i64 0,.int .u64 0,.int .u64 0,.int .u64 0,.pointer none,.pointer none] bJ) (fun h3=>
 ∃v4,af h3 (ag h1) 0 (.string v4)∧
 ∃v5,af h3 (ag h1) 1 (.string v5)∧
 HC PG mU [.string v4,.string v5] [.c (.int .i64)] (fun(e6:Int) h7=>
 CondP (e6 !=(0:Int)) (
 ∃v8,af h7 (ag h0) 0 (.int .i64 v8)∧
 ∃v9,af h7 (ag h0) 1 (.int .u64 v9)∧
 ∃v10,af h7 (ag h0) 2 (.int .u64 v10)∧
 ∃v11,af h7 (ag h0) 3 (.int .u64 v11)∧
 ∃v12,af h7 (ag h0) 4 (.pointer v12)∧
 ∃v13,af h7 (ag h0) 5 (.pointer v13)∧
 (fV h7 (some (ag h2)) 0 [.int .i64 v8,.int .u64 v9,.int .u64 v10,.int .u64 v11,.pointer v12,.pointer v13]∧
 At (bP h7 (ag h2) 0 [.int .i64 v8,.int .u64 v9,.int .u64 v10,.int .u64 v11,.pointer v12,.pointer v13]) (fun h14=>
 ∃v15,af h14 (ag h2) 0 (.int .i64 v15)∧
 ∃v16,af h14 (ag h2) 1 (.int .u64 v16)∧
 ∃v17,af h14 (ag h2) 2 (.int .u64 v17)∧
 ∃v18,af h14 (ag h2) 3 (.int .u64 v18)∧
 ∃v19,af h14 (ag h2) 4 (.pointer v19)∧
 ∃v20,af h14 (ag h2) 5 (.pointer v20)∧
 K ((v15,v16,v17,v18,v19,v20),e6) h14))) (
 ∃v21,af h7 (ag h0) 0 (.int .i64 v21)∧
 CondP (v21==(1:Int)) (
 ∃v22,af h7 (ag h0) 5 (.pointer v22)∧
 ∃v23,af h7 (ag h1) 0 (.string v23)∧
 ∃v24,af h7 (ag h1) 1 (.string v24)∧
 HC PG tu [.pointer x1,.pointer v22,.agg #[.string v23,.string v24]] [.c .ptr,.c .bool] (fun(e25:(Option Addr)×Bool) h26=>
 (Wr h26 (adr (ag h0) 5)∧
 At (hset h26 (adr (ag h0) 5) (.pointer e25.1)) (fun h27=>
 ∃v28,af h27 (ag h0) 0 (.int .i64 v28)∧
 ∃v29,af h27 (ag h0) 1 (.int .u64 v29)∧
 ∃v30,af h27 (ag h0) 2 (.int .u64 v30)∧
 ∃v31,af h27 (ag h0) 3 (.int .u64 v31)∧
 ∃v32,af h27 (ag h0) 4 (.pointer v32)∧
 ∃v33,af h27 (ag h0) 5 (.pointer v33)∧
 (fV h27 (some (ag h2)) 0 [.int .i64 v28,.int .u64 v29,.int .u64 v30,.int .u64 v31,.pointer v32,.pointer v33]∧
 At (bP h27 (ag h2) 0 [.int .i64 v28,.int .u64 v29,.int .u64 v30,.int .u64 v31,.pointer v32,.pointer v33]) (fun h34=>
 ∃v35,af h34 (ag h2) 0 (.int .i64 v35)∧
 ∃v36,af h34 (ag h2) 1 (.int .u64 v36)∧
 ∃v37,af h34 (ag h2) 2 (.int .u64 v37)∧
 ∃v38,af h34 (ag h2) 3 (.int .u64 v38)∧
 ∃v39,af h34 (ag h2) 4 (.pointer v39)∧
 ∃v40,af h34 (ag h2) 5 (.pointer v40)∧
 K ((v35,v36,v37,v38,v39,v40),0) h34))))) h7) (
 ∃v41,af h7 (adr (ag h0) 1) 0 (.int .u64 v41)∧
 ∃v42,af h7 (adr (ag h0) 1) 1 (.int .u64 v42)∧
 ∃v43,af h7 (adr (ag h0) 1) 2 (.int .u64 v43)∧
 ∃v44,af h7 (ag h0) 4 (.pointer v44)∧
 ∃v45,af h7 (ag h1) 0 (.string v45)∧
 ∃v46,af h7 (ag h1) 1 (.string v46)∧
 HC PG tA [.agg #[.int .u64 v41,.int .u64 v42,.int .u64 v43],.pointer x1,.pointer v44,.agg #[.string v45,.string v46]] [.c .ptr,.c .bool] (fun(e47:(Option Addr)×Bool) h48=>
 (Wr h48 (adr (ag h0) 4)∧
 At (hset h48 (adr (ag h0) 4) (.pointer e47.1)) (fun h49=>
 ∃v50,af h49 (ag h0) 0 (.int .i64 v50)∧
 ∃v51,af h49 (ag h0) 1 (.int .u64 v51)∧
 ∃v52,af h49 (ag h0) 2 (.int .u64 v52)∧
 ∃v53,af h49 (ag h0) 3 (.int .u64 v53)∧
 ∃v54,af h49 (ag h0) 4 (.pointer v54)∧
 ∃v55,af h49 (ag h0) 5 (.pointer v55)∧
 (fV h49 (some (ag h2)) 0 [.int .i64 v50,.int .u64 v51,.int .u64 v52,.int .u64 v53,.pointer v54,.pointer v55]∧
 At (bP h49 (ag h2) 0 [.int .i64 v50,.int .u64 v51,.int .u64 v52,.int .u64 v53,.pointer v54,.pointer v55]) (fun h56=>
 ∃v57,af h56 (ag h2) 0 (.int .i64 v57)∧
 ∃v58,af h56 (ag h2) 1 (.int .u64 v58)∧
 ∃v59,af h56 (ag h2) 2 (.int .u64 v59)∧
 ∃v60,af h56 (ag h2) 3 (.int .u64 v60)∧
 ∃v61,af h56 (ag h2) 4 (.pointer v61)∧
 ∃v62,af h56 (ag h2) 5 (.pointer v62)∧
 K ((v57,v58,v59,v60,v61,v62),0) h56))))) h7))) h3)))
noncomputable def yI:Ann:=.nil
theorem yv(x0:T6)(x1:Option Addr)(x2:ByteArray×ByteArray){K:cJ [.agg [.int .i64,.int .u64,.int .u64,.int .u64,.ptr,.ptr],.c (.int .i64)]→ae→Prop}{h0:ae}(h:rx x0 x1 x2 K h0):HC PG iR [.agg #[.int .i64 x0.1,.int .u64 x0.2.1,.int .u64 x0.2.2.1,.int .u64 x0.2.2.2.1,.pointer x0.2.2.2.2.1,.pointer x0.2.2.2.2.2],.pointer x1,.agg #[.string x2.1,.string x2.2]] [.agg [.int .i64,.int .u64,.int .u64,.int .u64,.ptr,.ptr],.c (.int .i64)] K h0:=HC.intro (an:=yI) (c:=Tryz.f32.body.getD .skip) Tryz.mixed Tryz.func32 rfl Tryz.call32 (ad rfl) (dF (by kernel_rfl) h)
def o8(x0:T6)(x1:Option Addr)(x2:ByteArray)(K:((T6)×Int)→ae→Prop)(h0:ae):Prop:=
 At (hnew h0 [.int .i64 x0.1,.int .u64 x0.2.1,.int .u64 x0.2.2.1,.int .u64 x0.2.2.2.1,.pointer x0.2.2.2.2.1,.pointer x0.2.2.2.2.2] bJ) (fun h1=>
 At (hnew h1 [.int .i64 0,.int .u64 0,.int .u64 0,.int .u64 0,.pointer none,.pointer none] bJ) (fun h2=>
 HC PG mU [.string x2,.string (⟨#[]⟩:ByteArray)] [.c (.int .i64)] (fun(e3:Int) h4=>
 CondP (e3 !=(0:Int)) (
 ∃v5,af h4 (ag h0) 0 (.int .i64 v5)∧
 ∃v6,af h4 (ag h0) 1 (.int .u64 v6)∧
 ∃v7,af h4 (ag h0) 2 (.int .u64 v7)∧
 ∃v8,af h4 (ag h0) 3 (.int .u64 v8)∧
 ∃v9,af h4 (ag h0) 4 (.pointer v9)∧
 ∃v10,af h4 (ag h0) 5 (.pointer v10)∧
 (fV h4 (some (ag h1)) 0 [.int .i64 v5,.int .u64 v6,.int .u64 v7,.int .u64 v8,.pointer v9,.pointer v10]∧
 At (bP h4 (ag h1) 0 [.int .i64 v5,.int .u64 v6,.int .u64 v7,.int .u64 v8,.pointer v9,.pointer v10]) (fun h11=>
 ∃v12,af h11 (ag h1) 0 (.int .i64 v12)∧
 ∃v13,af h11 (ag h1) 1 (.int .u64 v13)∧
 ∃v14,af h11 (ag h1) 2 (.int .u64 v14)∧
 ∃v15,af h11 (ag h1) 3 (.int .u64 v15)∧
 ∃v16,af h11 (ag h1) 4 (.pointer v16)∧
 ∃v17,af h11 (ag h1) 5 (.pointer v17)∧
 K ((v12,v13,v14,v15,v16,v17),e3) h11))) (
 ∃v18,af h4 (ag h0) 0 (.int .i64 v18)∧
 ∃v19,af h4 (ag h0) 1 (.int .u64 v19)∧
 ∃v20,af h4 (ag h0) 2 (.int .u64 v20)∧
 ∃v21,af h4 (ag h0) 3 (.int .u64 v21)∧
 ∃v22,af h4 (ag h0) 4 (.pointer v22)∧
 ∃v23,af h4 (ag h0) 5 (.pointer v23)∧
 At (hnew h4 [.int .i64 0,.int .u64 0,.int .u64 0,.int .u64 0,.pointer none,.pointer none] bJ) (fun h24=>
 (fV h24 (some (ag h4)) 0 [.int .i64 v18,.int .u64 v19,.int .u64 v20,.int .u64 v21,.pointer v22,.pointer v23]∧
 At (bP h24 (ag h4) 0 [.int .i64 v18,.int .u64 v19,.int .u64 v20,.int .u64 v21,.pointer v22,.pointer v23]) (fun h25=>
 Join (fun(t39:Bool) h40=>
 CondP (!t39) (
 ∃v41,af h40 (ag h4) 0 (.int .i64 v41)∧
 ∃v42,af h40 (ag h4) 1 (.int .u64 v42)∧
 ∃v43,af h40 (ag h4) 2 (.int .u64 v43)∧
 ∃v44,af h40 (ag h4) 3 (.int .u64 v44)∧
 ∃v45,af h40 (ag h4) 4 (.pointer v45)∧
 ∃v46,af h40 (ag h4) 5 (.pointer v46)∧
 (fV h40 (some (ag h1)) 0 [.int .i64 v41,.int .u64 v42,.int .u64 v43,.int .u64 v44,.pointer v45,.pointer v46]∧
 At (bP h40 (ag h1) 0 [.int .i64 v41,.int .u64 v42,.int .u64 v43,.int .u64 v44,.pointer v45,.pointer v46]) (fun h47=>
 ∃v48,af h47 (ag h1) 0 (.int .i64 v48)∧
 ∃v49,af h47 (ag h1) 1 (.int .u64 v49)∧
 ∃v50,af h47 (ag h1) 2 (.int .u64 v50)∧
 ∃v51,af h47 (ag h1) 3 (.int .u64 v51)∧
 ∃v52,af h47 (ag h1) 4 (.pointer v52)∧
 ∃v53,af h47 (ag h1) 5 (.pointer v53)∧
 K ((v48,v49,v50,v51,v52,v53),4) h47))) (
 ∃v54,af h40 (ag h0) 0 (.int .i64 v54)∧
 ∃v55,af h40 (ag h0) 1 (.int .u64 v55)∧
 ∃v56,af h40 (ag h0) 2 (.int .u64 v56)∧
 ∃v57,af h40 (ag h0) 3 (.int .u64 v57)∧
 ∃v58,af h40 (ag h0) 4 (.pointer v58)∧
 ∃v59,af h40 (ag h0) 5 (.pointer v59)∧
 (fV h40 (some (ag h1)) 0 [.int .i64 v54,.int .u64 v55,.int .u64 v56,.int .u64 v57,.pointer v58,.pointer v59]∧
 At (bP h40 (ag h1) 0 [.int .i64 v54,.int .u64 v55,.int .u64 v56,.int .u64 v57,.pointer v58,.pointer v59]) (fun h60=>
 ∃v61,af h60 (ag h1) 0 (.int .i64 v61)∧
 ∃v62,af h60 (ag h1) 1 (.int .u64 v62)∧
 ∃v63,af h60 (ag h1) 2 (.int .u64 v63)∧
 ∃v64,af h60 (ag h1) 3 (.int .u64 v64)∧
 ∃v65,af h60 (ag h1) 4 (.pointer v65)∧
 ∃v66,af h60 (ag h1) 5 (.pointer v66)∧
 K ((v61,v62,v63,v64,v65,v66),0) h60)))) (fun J26=>
 ∃v27,af h25 (ag h0) 0 (.int .i64 v27)∧
 CondP (v27==(1:Int)) (
 ∃v28,af h25 (ag h0) 5 (.pointer v28)∧
 HC PG r8 [.pointer x1,.pointer v28,.string x2] [.c .ptr,.c .bool] (fun(e29:(Option Addr)×Bool) h30=>
 (Wr h30 (adr (ag h0) 5)∧
 At (hset h30 (adr (ag h0) 5) (.pointer e29.1)) (fun h31=>
 J26 e29.2 h31))) h25) (
 ∃v32,af h25 (adr (ag h0) 1) 0 (.int .u64 v32)∧
 ∃v33,af h25 (adr (ag h0) 1) 1 (.int .u64 v33)∧
 ∃v34,af h25 (adr (ag h0) 1) 2 (.int .u64 v34)∧
 ∃v35,af h25 (ag h0) 4 (.pointer v35)∧
 HC PG sd [.agg #[.int .u64 v32,.int .u64 v33,.int .u64 v34],.pointer x1,.pointer v35,.string x2] [.c .ptr,.c .bool] (fun(e36:(Option Addr)×Bool) h37=>
 (Wr h37 (adr (ag h0) 4)∧
 At (hset h37 (adr (ag h0) 4) (.pointer e36.1)) (fun h38=>
 J26 e36.2 h38))) h25))))))) h2))
noncomputable def uo:Ann:=.node .nil (.node .nil (.node .nil (.join [(10,.c .bool)] .nil .nil)))
theorem uh(x0:T6)(x1:Option Addr)(x2:ByteArray){K:cJ [.agg [.int .i64,.int .u64,.int .u64,.int .u64,.ptr,.ptr],.c (.int .i64)]→ae→Prop}{h0:ae}(h:o8 x0 x1 x2 K h0):HC PG iH [.agg #[.int .i64 x0.1,.int .u64 x0.2.1,.int .u64 x0.2.2.1,.int .u64 x0.2.2.2.1,.pointer x0.2.2.2.2.1,.pointer x0.2.2.2.2.2],.pointer x1,.string x2] [.agg [.int .i64,.int .u64,.int .u64,.int .u64,.ptr,.ptr],.c (.int .i64)] K h0:=HC.intro (an:=uo) (c:=Tryz.f38.body.getD .skip) Tryz.mixed Tryz.func38 rfl Tryz.call38 (ad rfl) (dF (by kernel_rfl) h)
def qp(x0:T6)(K:(SliceV)→ae→Prop)(h0:ae):Prop:=
 At (hnew h0 [.int .i64 x0.1,.int .u64 x0.2.1,.int .u64 x0.2.2.1,.int .u64 x0.2.2.2.1,.pointer x0.2.2.2.2.1,.pointer x0.2.2.2.2.2] bJ) (fun h1=>
 ∃v2,af h1 (ag h0) 0 (.int .i64 v2)∧
 CondP (v2==(1:Int)) (
 ∃v3,af h1 (ag h0) 5 (.pointer v3)∧
 HC PG Bq [] [.agg [.str,.str,.bool]] (fun(e4:ByteArray×ByteArray×Bool) h5=>
 (af h5 (ag h0) 5 (.pointer v3)∧
 HC PG r6 [.pointer v3,.agg #[.string e4.1,.string e4.2.1,.bool e4.2.2]] [.c .slice] (fun(e6:SliceV) h7=>
 K e6 h7) h5)) h1) (
 ∃v8,af h1 (ag h0) 4 (.pointer v8)∧
 HC PG Cw [.pointer v8] [.c .slice] (fun(e9:SliceV) h10=>
 K e9 h10) h1))
noncomputable def xA:Ann:=.nil
theorem wS(x0:T6){K:cJ [.c .slice]→ae→Prop}{h0:ae}(h:qp x0 K h0):HC PG mM [.agg #[.int .i64 x0.1,.int .u64 x0.2.1,.int .u64 x0.2.2.1,.int .u64 x0.2.2.2.1,.pointer x0.2.2.2.2.1,.pointer x0.2.2.2.2.2]] [.c .slice] K h0:=HC.intro (an:=xA) (c:=Tryz.f66.body.getD .skip) Tryz.mixed Tryz.func66 rfl Tryz.call66 (ad rfl) (dF (by kernel_rfl) h)
def xq(x0:ByteArray)(x1:ByteArray)(K:(Int)→ae→Prop)(h0:ae):Prop:=
 CondP (decide ((x0.size:Int)>(256:Int))) (
 K 2 h0) (
 CondP (decide ((x1.size:Int)>(4096:Int))) (
 K 3 h0) (
 K 0 h0))
noncomputable def Fm:Ann:=.nil
theorem E7(x0:ByteArray)(x1:ByteArray){K:cJ [.c (.int .i64)]→ae→Prop}{h0:ae}(h:xq x0 x1 K h0):HC PG mU [.string x0,.string x1] [.c (.int .i64)] K h0:=HC.intro (an:=Fm) (c:=Tryz.f67.body.getD .skip) Tryz.mixed Tryz.func67 rfl Tryz.call67 (ad rfl) (dF (by kernel_rfl) h)
def uY(x0:SliceV)(K:(Option Addr)→ae→Prop)(h0:ae):Prop:=
 HC PG oc [.slice x0.a x0.len x0.cap] [.c .slice] (fun(e1:SliceV) h2=>
 Join (fun(t6:ByteArray×Bool) h7=>
 Join (fun(t11:SliceV×ByteArray) h12=>
 HC PG pj [.slice t11.1.a t11.1.len t11.1.cap,.int .i64 0] [.c .slice] (fun(e13:SliceV) h14=>
 HC PG pi [.string (⟨#[]⟩:ByteArray),.bool t6.2,.string t11.2,.slice e13.a e13.len e13.cap] [.c .ptr] (fun(e15:Option Addr) h16=>
 K e15 h16) h14) h12) (fun J8=>
 CondP t6.2 (
 (cQ 0 e1.len∧∃a9,e1.a=some a9∧
 ∃v10,af h7 (adr a9 ((0:Int).toNat*2)) 1 (.string v10)∧
 (((0:Int)≤(1:Int)∧(1:Int)≤((e1.len:Nat):Int))∧
 J8 (⟨aN e1.a ((1:Int).toNat) e1.cap 2,e1.len-((1:Int).toNat),e1.cap-((1:Int).toNat)⟩,v10) h7))) (
 J8 (e1,t6.1) h7))) (fun J3=>
 CondP (decide ((e1.len:Int)>(0:Int))) (
 (cQ 0 e1.len∧∃a4,e1.a=some a4∧
 ∃v5,af h2 (adr a4 ((0:Int).toNat*2)) 0 (.string v5)∧
 J3 ((⟨#[]⟩:ByteArray),v5.toList==(⟨#[]⟩:ByteArray).toList) h2)) (
 J3 ((⟨#[]⟩:ByteArray),false) h2))) h0
noncomputable def De:Ann:=.node .nil (.node .nil (.join [(3,.c .str),(4,.c .bool)] .nil (.join [(0,.c .slice),(3,.c .str)] .nil .nil)))
theorem CP(x0:SliceV){K:cJ [.c .ptr]→ae→Prop}{h0:ae}(h:uY x0 K h0):HC PG qQ [.slice x0.a x0.len x0.cap] [.c .ptr] K h0:=HC.intro (an:=De) (c:=Tryz.f68.body.getD .skip) Tryz.mixed Tryz.func68 rfl Tryz.call68 (ad rfl) (dF (by kernel_rfl) h)
def uZ(x0:Int×Int×Int)(x1:SliceV)(K:(Option Addr)→ae→Prop)(h0:ae):Prop:=
 At (hnew h0 [.int .u64 x0.1,.int .u64 x0.2.1,.int .u64 x0.2.2] bX) (fun h1=>
 HC PG oc [.slice x1.a x1.len x1.cap] [.c .slice] (fun(e2:SliceV) h3=>
 LoopP (fun I4 (t5:SliceV×Int) h6=>
 CondP (decide (t5.2<(e2.len:Int))) (
 Join (fun(t25:SliceV) h26=>
 I4 (t25,IntKind.wrap .i64 (t5.2+1)) h26) (fun J7=>
 (cQ t5.2 e2.len∧∃a8,e2.a=some a8∧
 ∃v9,af h6 (adr a8 (t5.2.toNat*2)) 0 (.string v9)∧
 ∃v10,af h6 (adr a8 (t5.2.toNat*2)) 1 (.string v10)∧
 At (hnew h6 [.string (⟨#[]⟩:ByteArray),.string (⟨#[]⟩:ByteArray)] aj) (fun h11=>
 (fV h11 (some (ag h6)) 0 [.string v9,.string v10]∧
 At (bP h11 (ag h6) 0 [.string v9,.string v10]) (fun h12=>
 ∃v13,af h12 (ag h6) 0 (.string v13)∧
 ∃v14,af h12 (ag h6) 1 (.string v14)∧
 ∃v15,af h12 (ag h0) 0 (.int .u64 v15)∧
 ∃v16,af h12 (ag h0) 1 (.int .u64 v16)∧
 ∃v17,af h12 (ag h0) 2 (.int .u64 v17)∧
 ∃v18,af h12 (ag h6) 0 (.string v18)∧
 HC PG dG [.agg #[.int .u64 v15,.int .u64 v16,.int .u64 v17],.string v18] [.c (.int .u64)] (fun(e19:Int) h20=>
 ((af h20 (ag h6) 0 (.string v13)∧af h20 (ag h6) 1 (.string v14))∧
 At (hnew h20 [.string v13,.string v14,.int .u64 e19] aH) (fun h21=>
 ∃xs22,SRow h21 (some (ag h20)) (1*3) xs22∧
 AppP (some [.string (⟨#[]⟩:ByteArray),.string (⟨#[]⟩:ByteArray),.int .u64 0]) 3 40 aH t5.1.a t5.1.len t5.1.cap 1 xs22 h21 (fun s23 h24=>
 J7 s23 h24)))) h12)))))) (
 HC PG mY [.slice t5.1.a t5.1.len t5.1.cap,.int .i64 0] [.c .ptr] (fun(e27:Option Addr) h28=>
 K e27 h28) h6)) (⟨none,0,0⟩,0) h3) h1)
noncomputable def Df:Ann:=.node .nil (.node .nil (.node (.node .nil (.loop [(5,.c .slice),(11,.c (.int .i64))] (.node .nil (.node .nil (.join [(5,.c .slice)] (.node .nil (.draw (tr 0 5 (.all (.lastT 5 (.take 6 (.all (.lastT 7 (.all (.lastT 8 (.take 9 (.done)))))))))))) .nil))))) .nil))
theorem CQ(x0:Int×Int×Int)(x1:SliceV){K:cJ [.c .ptr]→ae→Prop}{h0:ae}(h:uZ x0 x1 K h0):HC PG qR [.agg #[.int .u64 x0.1,.int .u64 x0.2.1,.int .u64 x0.2.2],.slice x1.a x1.len x1.cap] [.c .ptr] K h0:=HC.intro (an:=Df) (c:=Tryz.f69.body.getD .skip) Tryz.mixed Tryz.func69 rfl Tryz.call69 (ad rfl) (dF (by kernel_rfl) h)
def zy(x0:T6)(x1:T6)(K:(Bool)→ae→Prop)(h0:ae):Prop:=
 At (hnew h0 [.int .i64 x0.1,.int .u64 x0.2.1,.int .u64 x0.2.2.1,.int .u64 x0.2.2.2.1,.pointer x0.2.2.2.2.1,.pointer x0.2.2.2.2.2] bJ) (fun h1=>
 At (hnew h1 [.int .i64 x1.1,.int .u64 x1.2.1,.int .u64 x1.2.2.1,.int .u64 x1.2.2.2.1,.pointer x1.2.2.2.2.1,.pointer x1.2.2.2.2.2] bJ) (fun h2=>
 ∃v3,af h2 (ag h0) 0 (.int .i64 v3)∧
 ∃v4,af h2 (ag h1) 0 (.int .i64 v4)∧
 CondP (v3==v4) (
 ∃v5,af h2 (adr (ag h0) 1) 0 (.int .u64 v5)∧
 ∃v6,af h2 (adr (ag h0) 1) 1 (.int .u64 v6)∧
 ∃v7,af h2 (adr (ag h0) 1) 2 (.int .u64 v7)∧
 ∃v8,af h2 (adr (ag h1) 1) 0 (.int .u64 v8)∧
 ∃v9,af h2 (adr (ag h1) 1) 1 (.int .u64 v9)∧
 ∃v10,af h2 (adr (ag h1) 1) 2 (.int .u64 v10)∧
 K ((((v5==v8)&&((v6==v9)&&true)))&&((v7==v10)&&true)) h2) (
 K false h2)))
noncomputable def GN:Ann:=.nil
theorem GE(x0:T6)(x1:T6){K:cJ [.c .bool]→ae→Prop}{h0:ae}(h:zy x0 x1 K h0):HC PG tp [.agg #[.int .i64 x0.1,.int .u64 x0.2.1,.int .u64 x0.2.2.1,.int .u64 x0.2.2.2.1,.pointer x0.2.2.2.2.1,.pointer x0.2.2.2.2.2],.agg #[.int .i64 x1.1,.int .u64 x1.2.1,.int .u64 x1.2.2.1,.int .u64 x1.2.2.2.1,.pointer x1.2.2.2.2.1,.pointer x1.2.2.2.2.2]] [.c .bool] K h0:=HC.intro (an:=GN) (c:=Tryz.f77.body.getD .skip) Tryz.mixed Tryz.func77 rfl Tryz.call77 (ad rfl) (dF (by kernel_rfl) h)
def uX(x0:SliceV)(x1:SliceV)(K:(Bool)→ae→Prop)(h0:ae):Prop:=
 ∃s1,SRow h0 x0.a x0.len (dq s1)∧
 ∃s2,SRow h0 x1.a x1.len (dq s2)∧
 K (s1.toList==s2.toList) h0
noncomputable def Dd:Ann:=.nil
theorem CO(x0:SliceV)(x1:SliceV){K:cJ [.c .bool]→ae→Prop}{h0:ae}(h:uX x0 x1 K h0):HC PG qP [.slice x0.a x0.len x0.cap,.slice x1.a x1.len x1.cap] [.c .bool] K h0:=HC.intro (an:=Dd) (c:=Tryz.f78.body.getD .skip) Tryz.mixed Tryz.func78 rfl Tryz.call78 (ad rfl) (dF (by kernel_rfl) h)
def uP(x0:Option Addr)(K:(SliceV)→ae→Prop)(h0:ae):Prop:=
 CondP x0.isNone (
 K ⟨none,0,0⟩ h0) (
 HC PG iJ [.pointer x0,.slice none 0 0] [.c .slice] (fun(e1:SliceV) h2=>
 K e1 h2) h0)
noncomputable def C5:Ann:=.nil
theorem CG(x0:Option Addr){K:cJ [.c .slice]→ae→Prop}{h0:ae}(h:uP x0 K h0):HC PG qM [.pointer x0] [.c .slice] K h0:=HC.intro (an:=C5) (c:=Tryz.f79.body.getD .skip) Tryz.mixed Tryz.func79 rfl Tryz.call79 (ad rfl) (dF (by kernel_rfl) h)
def BX(x0:Option Addr)(K:(SliceV)→ae→Prop)(h0:ae):Prop:=
 CondP x0.isNone (
 K ⟨none,0,0⟩ h0) (
 HC PG qh [.slice none 0 0,.pointer x0,.int .i64 0] [.c .slice] (fun(e1:SliceV) h2=>
 K e1 h2) h0)
noncomputable def IG:Ann:=.nil
theorem Is(x0:Option Addr){K:cJ [.c .slice]→ae→Prop}{h0:ae}(h:BX x0 K h0):HC PG vo [.pointer x0] [.c .slice] K h0:=HC.intro (an:=IG) (c:=Tryz.f80.body.getD .skip) Tryz.mixed Tryz.func80 rfl Tryz.call80 (ad rfl) (dF (by kernel_rfl) h)
def uR(x0:Option Addr)(K:(Bool)→ae→Prop)(h0:ae):Prop:=
 CondP (!(x0.isNone)) (
 ∃a1,x0=some a1∧
 ∃v2,af h0 a1 0 (.string v2)∧
 CondP (v2.toList==(⟨#[]⟩:ByteArray).toList) (
 HC PG jp [.pointer x0] [.c .bool] (fun(e3:Bool) h4=>
 CondP e3 (
 ∃a5,x0=some a5∧
 ∃v6:SliceV,af h4 a5 3 (.slice v6.a v6.len v6.cap)∧
 HC PG ci [.slice v6.a v6.len v6.cap,.func (.func sB) #[] #[]] [.c .bool] (fun(e7:Bool) h8=>
 K (!e7) h8) h4) (
 K false h4)) h0) (
 K false h0)) (
 K false h0)
noncomputable def C7:Ann:=.nil
theorem CI(x0:Option Addr){K:cJ [.c .bool]→ae→Prop}{h0:ae}(h:uR x0 K h0):HC PG qN [.pointer x0] [.c .bool] K h0:=HC.intro (an:=C7) (c:=Tryz.f85.body.getD .skip) Tryz.mixed Tryz.func85 rfl Tryz.call85 (ad rfl) (dF (by kernel_rfl) h)
def uN(x0:Int×Int×Int)(x1:Option Addr)(K:(Bool)→ae→Prop)(h0:ae):Prop:=
 At (hnew h0 [.int .u64 x0.1,.int .u64 x0.2.1,.int .u64 x0.2.2] bX) (fun h1=>
 CondP x1.isNone (
 K false h1) (
 ∃v2,af h1 (ag h0) 0 (.int .u64 v2)∧
 ∃v3,af h1 (ag h0) 1 (.int .u64 v3)∧
 ∃v4,af h1 (ag h0) 2 (.int .u64 v4)∧
 HC PG lO [.agg #[.int .u64 v2,.int .u64 v3,.int .u64 v4],.pointer x1,.slice none 0 0] [.c (.int .i64),.c .bool] (fun(e5:Int×Bool) h6=>
 K e5.2 h6) h1))
noncomputable def C3:Ann:=.nil
theorem CE(x0:Int×Int×Int)(x1:Option Addr){K:cJ [.c .bool]→ae→Prop}{h0:ae}(h:uN x0 x1 K h0):HC PG uE [.agg #[.int .u64 x0.1,.int .u64 x0.2.1,.int .u64 x0.2.2],.pointer x1] [.c .bool] K h0:=HC.intro (an:=C3) (c:=Tryz.f86.body.getD .skip) Tryz.mixed Tryz.func86 rfl Tryz.call86 (ad rfl) (dF (by kernel_rfl) h)
def qX(K:(Option Addr)→ae→Prop)(h0:ae):Prop:=
 HC PG kX [] [.c .ptr] (fun(e1:Option Addr) h2=>
 K e1 h2) h0
noncomputable def Dc:Ann:=.nil
theorem uI{K:cJ [.c .ptr]→ae→Prop}{h0:ae}(h:qX K h0):HC PG lQ [] [.c .ptr] K h0:=HC.intro (an:=Dc) (c:=Tryz.f87.body.getD .skip) Tryz.mixed Tryz.func87 rfl Tryz.call87 (ad rfl) (dF (by kernel_rfl) h)
def uQ(K:(Option Addr)→ae→Prop)(h0:ae):Prop:=
 At (hnew h0 [.string (⟨#[]⟩:ByteArray),.bool false,.string (⟨#[]⟩:ByteArray),.slice none 0 0,.pointer none] bj) (fun h1=>
 K (some (ag h0)) h1)
noncomputable def C6:Ann:=.nil
theorem CH{K:cJ [.c .ptr]→ae→Prop}{h0:ae}(h:uQ K h0):HC PG oa [] [.c .ptr] K h0:=HC.intro (an:=C6) (c:=Tryz.f88.body.getD .skip) Tryz.mixed Tryz.func88 rfl Tryz.call88 (ad rfl) (dF (by kernel_rfl) h)
def zB(x0:Option Addr)(x1:Option Addr)(x2:ByteArray×ByteArray)(K:((Option Addr)×Bool)→ae→Prop)(h0:ae):Prop:=
 At (hnew h0 [.string x2.1,.string x2.2] aj) (fun h1=>
 ∃v2,af h1 (ag h0) 0 (.string v2)∧
 ∃v3,af h1 (ag h0) 1 (.string v3)∧
 HC PG ph [.pointer x1] [.c .ptr] (fun(e4:Option Addr) h5=>
 (af h5 (ag h0) 1 (.string v3)∧
 (af h5 (ag h0) 0 (.string v2)∧
 HC PG kW [.pointer e4,.pointer x0,.string v2,.string v3] [.c .ptr,.c .bool,.c .bool] (fun(e6:(Option Addr)×Bool×Bool) h7=>
 K (e6.1,e6.2.1) h7) h5))) h1)
noncomputable def GR:Ann:=.nil
theorem GG(x0:Option Addr)(x1:Option Addr)(x2:ByteArray×ByteArray){K:cJ [.c .ptr,.c .bool]→ae→Prop}{h0:ae}(h:zB x0 x1 x2 K h0):HC PG tu [.pointer x0,.pointer x1,.agg #[.string x2.1,.string x2.2]] [.c .ptr,.c .bool] K h0:=HC.intro (an:=GR) (c:=Tryz.f89.body.getD .skip) Tryz.mixed Tryz.func89 rfl Tryz.call89 (ad rfl) (dF (by kernel_rfl) h)
def zF(x0:Int×Int×Int)(x1:Option Addr)(x2:Option Addr)(x3:ByteArray×ByteArray)(K:((Option Addr)×Bool)→ae→Prop)(h0:ae):Prop:=
 At (hnew h0 [.int .u64 x0.1,.int .u64 x0.2.1,.int .u64 x0.2.2] bX) (fun h1=>
 At (hnew h1 [.string x3.1,.string x3.2] aj) (fun h2=>
 ∃v3,af h2 (ag h0) 0 (.int .u64 v3)∧
 ∃v4,af h2 (ag h0) 1 (.int .u64 v4)∧
 ∃v5,af h2 (ag h0) 2 (.int .u64 v5)∧
 ∃v6,af h2 (ag h1) 0 (.string v6)∧
 ∃v7,af h2 (ag h0) 0 (.int .u64 v7)∧
 ∃v8,af h2 (ag h0) 1 (.int .u64 v8)∧
 ∃v9,af h2 (ag h0) 2 (.int .u64 v9)∧
 ∃v10,af h2 (ag h1) 0 (.string v10)∧
 ((HC PG dG [.agg #[.int .u64 v7,.int .u64 v8,.int .u64 v9],.string v10] [.c (.int .u64)] (fun(e11:Int) h12=>
 (af h12 (ag h1) 0 (.string v6)∧
 ((af h12 (ag h0) 0 (.int .u64 v3)∧af h12 (ag h0) 1 (.int .u64 v4)∧af h12 (ag h0) 2 (.int .u64 v5))∧
 At (hnew h12 [.int .u64 0,.int .u64 0,.int .u64 0,.pointer none,.string (⟨#[]⟩:ByteArray),.int .u64 0] cn) (fun h13=>
 (af h13 (ag h1) 0 (.string v6)∧
 ((af h13 (ag h0) 0 (.int .u64 v3)∧af h13 (ag h0) 1 (.int .u64 v4)∧af h13 (ag h0) 2 (.int .u64 v5))∧
 (fV h13 (some (ag h12)) 0 [.int .u64 v3,.int .u64 v4,.int .u64 v5,.pointer x1,.string v6,.int .u64 e11]∧
 At (bP h13 (ag h12) 0 [.int .u64 v3,.int .u64 v4,.int .u64 v5,.pointer x1,.string v6,.int .u64 e11]) (fun h14=>
 ∃v15,af h14 (ag h12) 0 (.int .u64 v15)∧
 ∃v16,af h14 (ag h12) 1 (.int .u64 v16)∧
 ∃v17,af h14 (ag h12) 2 (.int .u64 v17)∧
 ∃v18,af h14 (ag h12) 3 (.pointer v18)∧
 ∃v19,af h14 (ag h12) 4 (.string v19)∧
 ∃v20,af h14 (ag h12) 5 (.int .u64 v20)∧
 ∃v21,af h14 (ag h1) 0 (.string v21)∧
 ∃v22,af h14 (ag h1) 1 (.string v22)∧
 HC PG kZ [.pointer x2] [.c .ptr] (fun(e23:Option Addr) h24=>
 ((af h24 (ag h1) 0 (.string v21)∧af h24 (ag h1) 1 (.string v22))∧
 ((af h24 (ag h12) 0 (.int .u64 v15)∧af h24 (ag h12) 1 (.int .u64 v16)∧af h24 (ag h12) 2 (.int .u64 v17)∧af h24 (ag h12) 3 (.pointer v18)∧af h24 (ag h12) 4 (.string v19)∧af h24 (ag h12) 5 (.int .u64 v20))∧
 HC PG gI [.agg #[.int .u64 v15,.int .u64 v16,.int .u64 v17,.pointer v18,.string v19,.int .u64 v20],.pointer e23,.agg #[.string v21,.string v22],.int .i64 0] [.c .ptr,.c .bool,.c .bool] (fun(e25:(Option Addr)×Bool×Bool) h26=>
 K (e25.1,e25.2.1) h26) h24))) h14)))))))) h2)∧
 At (hnew h2 [.int .u64 0,.int .u64 0,.int .u64 0,.pointer none,.string (⟨#[]⟩:ByteArray),.int .u64 0] cn) (fun h27=>
 (af h27 (ag h1) 0 (.string v10)∧
 ((af h27 (ag h0) 0 (.int .u64 v7)∧af h27 (ag h0) 1 (.int .u64 v8)∧af h27 (ag h0) 2 (.int .u64 v9))∧
 (af h27 (ag h1) 0 (.string v6)∧
 ((af h27 (ag h0) 0 (.int .u64 v3)∧af h27 (ag h0) 1 (.int .u64 v4)∧af h27 (ag h0) 2 (.int .u64 v5))∧
 HC PG dG [.agg #[.int .u64 v7,.int .u64 v8,.int .u64 v9],.string v10] [.c (.int .u64)] (fun(e28:Int) h29=>
 (af h29 (ag h1) 0 (.string v6)∧
 ((af h29 (ag h0) 0 (.int .u64 v3)∧af h29 (ag h0) 1 (.int .u64 v4)∧af h29 (ag h0) 2 (.int .u64 v5))∧
 (fV h29 (some (ag h2)) 0 [.int .u64 v3,.int .u64 v4,.int .u64 v5,.pointer x1,.string v6,.int .u64 e28]∧
 At (bP h29 (ag h2) 0 [.int .u64 v3,.int .u64 v4,.int .u64 v5,.pointer x1,.string v6,.int .u64 e28]) (fun h30=>
 ∃v31,af h30 (ag h2) 0 (.int .u64 v31)∧
 ∃v32,af h30 (ag h2) 1 (.int .u64 v32)∧
 ∃v33,af h30 (ag h2) 2 (.int .u64 v33)∧
 ∃v34,af h30 (ag h2) 3 (.pointer v34)∧
 ∃v35,af h30 (ag h2) 4 (.string v35)∧
 ∃v36,af h30 (ag h2) 5 (.int .u64 v36)∧
 ∃v37,af h30 (ag h1) 0 (.string v37)∧
 ∃v38,af h30 (ag h1) 1 (.string v38)∧
 HC PG kZ [.pointer x2] [.c .ptr] (fun(e39:Option Addr) h40=>
 ((af h40 (ag h1) 0 (.string v37)∧af h40 (ag h1) 1 (.string v38))∧
 ((af h40 (ag h2) 0 (.int .u64 v31)∧af h40 (ag h2) 1 (.int .u64 v32)∧af h40 (ag h2) 2 (.int .u64 v33)∧af h40 (ag h2) 3 (.pointer v34)∧af h40 (ag h2) 4 (.string v35)∧af h40 (ag h2) 5 (.int .u64 v36))∧
 HC PG gI [.agg #[.int .u64 v31,.int .u64 v32,.int .u64 v33,.pointer v34,.string v35,.int .u64 v36],.pointer e39,.agg #[.string v37,.string v38],.int .i64 0] [.c .ptr,.c .bool,.c .bool] (fun(e41:(Option Addr)×Bool×Bool) h42=>
 K (e41.1,e41.2.1) h42) h40))) h30))))) h27))))))))
noncomputable def GV:Ann:=.node .nil (.node (.draw (tr 0 7 (.all (.pick 7 (.take 8 (.all (.lastT 9 (.all (.lastT 10 (.done)))))) (.last 9 (.all (.lastT 7 (.take 8 (.all (.lastT 10 (.done))))))))))) (.node (.draw (tk [0,1,3] (.all (.lastT 2 (.all (.lastT 4 (tr 5 7 (.done)))))))) .nil))
theorem GK(x0:Int×Int×Int)(x1:Option Addr)(x2:Option Addr)(x3:ByteArray×ByteArray){K:cJ [.c .ptr,.c .bool]→ae→Prop}{h0:ae}(h:zF x0 x1 x2 x3 K h0):HC PG tA [.agg #[.int .u64 x0.1,.int .u64 x0.2.1,.int .u64 x0.2.2],.pointer x1,.pointer x2,.agg #[.string x3.1,.string x3.2]] [.c .ptr,.c .bool] K h0:=HC.intro (an:=GV) (c:=Tryz.f90.body.getD .skip) Tryz.mixed Tryz.func90 rfl Tryz.call90 (ad rfl) (dF (by kernel_rfl) h)
def xn(x0:Option Addr)(x1:Option Addr)(x2:ByteArray)(K:((Option Addr)×Bool)→ae→Prop)(h0:ae):Prop:=
 HC PG ph [.pointer x1] [.c .ptr] (fun(e1:Option Addr) h2=>
 HC PG j4 [.pointer e1,.pointer x0,.string x2] [.c .ptr,.c .bool] (fun(e3:(Option Addr)×Bool) h4=>
 K (e3.1,e3.2) h4) h2) h0
noncomputable def Fi:Ann:=.nil
theorem E4(x0:Option Addr)(x1:Option Addr)(x2:ByteArray){K:cJ [.c .ptr,.c .bool]→ae→Prop}{h0:ae}(h:xn x0 x1 x2 K h0):HC PG r8 [.pointer x0,.pointer x1,.string x2] [.c .ptr,.c .bool] K h0:=HC.intro (an:=Fi) (c:=Tryz.f91.body.getD .skip) Tryz.mixed Tryz.func91 rfl Tryz.call91 (ad rfl) (dF (by kernel_rfl) h)
def xu(x0:Int×Int×Int)(x1:Option Addr)(x2:Option Addr)(x3:ByteArray)(K:((Option Addr)×Bool)→ae→Prop)(h0:ae):Prop:=
 At (hnew h0 [.int .u64 x0.1,.int .u64 x0.2.1,.int .u64 x0.2.2] bX) (fun h1=>
 HC PG kZ [.pointer x2] [.c .ptr] (fun(e2:Option Addr) h3=>
 ∃v4,af h3 (ag h0) 0 (.int .u64 v4)∧
 ∃v5,af h3 (ag h0) 1 (.int .u64 v5)∧
 ∃v6,af h3 (ag h0) 2 (.int .u64 v6)∧
 ∃v7,af h3 (ag h0) 0 (.int .u64 v7)∧
 ∃v8,af h3 (ag h0) 1 (.int .u64 v8)∧
 ∃v9,af h3 (ag h0) 2 (.int .u64 v9)∧
 HC PG dG [.agg #[.int .u64 v7,.int .u64 v8,.int .u64 v9],.string x3] [.c (.int .u64)] (fun(e10:Int) h11=>
 ((af h11 (ag h0) 0 (.int .u64 v4)∧af h11 (ag h0) 1 (.int .u64 v5)∧af h11 (ag h0) 2 (.int .u64 v6))∧
 HC PG j6 [.agg #[.int .u64 v4,.int .u64 v5,.int .u64 v6,.pointer x1,.string x3,.int .u64 e10],.pointer e2,.int .i64 0] [.c .ptr,.c .bool] (fun(e12:(Option Addr)×Bool) h13=>
 K (e12.1,e12.2) h13) h11)) h3) h1)
noncomputable def Fq:Ann:=.node .nil (.node .nil (.node (.draw (tk [0,1,2,3,4,7] (.all (.lastT 5 (.take 6 (.all (.lastT 8 (tr 9 4 (.done))))))))) .nil))
theorem Fa(x0:Int×Int×Int)(x1:Option Addr)(x2:Option Addr)(x3:ByteArray){K:cJ [.c .ptr,.c .bool]→ae→Prop}{h0:ae}(h:xu x0 x1 x2 x3 K h0):HC PG sd [.agg #[.int .u64 x0.1,.int .u64 x0.2.1,.int .u64 x0.2.2],.pointer x1,.pointer x2,.string x3] [.c .ptr,.c .bool] K h0:=HC.intro (an:=Fq) (c:=Tryz.f92.body.getD .skip) Tryz.mixed Tryz.func92 rfl Tryz.call92 (ad rfl) (dF (by kernel_rfl) h)
def qD(x0:ByteArray)(x1:ByteArray)(K:(Int)→ae→Prop)(h0:ae):Prop:=
 HC PG l7 [.string x0] [.c .bool] (fun(e1:Bool) h2=>
 HC PG l7 [.string x1] [.c .bool] (fun(e3:Bool) h4=>
 CondP e1 (
 CondP e3 (
 K 0 h4) (
 K (-1) h4)) (
 CondP e3 (
 K 1 h4) (
 CondP (Op.bytesLess x0.toList x1.toList) (
 K (-1) h4) (
 CondP (!(Op.bytesLess x0.toList x1.toList||x0.toList==x1.toList)) (
 K 1 h4) (
 K 0 h4))))) h2) h0
noncomputable def xO:Ann:=.nil
theorem xd(x0:ByteArray)(x1:ByteArray){K:cJ [.c (.int .i64)]→ae→Prop}{h0:ae}(h:qD x0 x1 K h0):HC PG mW [.string x0,.string x1] [.c (.int .i64)] K h0:=HC.intro (an:=xO) (c:=Tryz.f110.body.getD .skip) Tryz.mixed Tryz.func110 rfl Tryz.call110 (ad rfl) (dF (by kernel_rfl) h)
def xi(x0:Option Addr)(x1:ByteArray×ByteArray×Bool)(K:(SliceV)→ae→Prop)(h0:ae):Prop:=
 At (hnew h0 [.string x1.1,.string x1.2.1,.bool x1.2.2] mu) (fun h1=>
 ∃v2,af h1 (ag h0) 0 (.string v2)∧
 ∃v3,af h1 (ag h0) 1 (.string v3)∧
 ∃v4,af h1 (ag h0) 2 (.bool v4)∧
 HC PG tq [.pointer x0,.agg #[.string v2,.string v3,.bool v4],.bool false] [.c .raw] (fun(e5:Value) h6=>
 HC PG gP [e5] [.c .slice] (fun(e7:SliceV) h8=>
 K e7 h8) h6) h1)
noncomputable def Fe:Ann:=.nil
theorem E0(x0:Option Addr)(x1:ByteArray×ByteArray×Bool){K:cJ [.c .slice]→ae→Prop}{h0:ae}(h:xi x0 x1 K h0):HC PG r6 [.pointer x0,.agg #[.string x1.1,.string x1.2.1,.bool x1.2.2]] [.c .slice] K h0:=HC.intro (an:=Fe) (c:=Tryz.f120.body.getD .skip) Tryz.mixed Tryz.func120 rfl Tryz.call120 (ad rfl) (dF (by kernel_rfl) h)
def BV(K:(ByteArray×ByteArray×Bool)→ae→Prop)(h0:ae):Prop:=
 At (hnew h0 [.string (⟨#[]⟩:ByteArray),.string (⟨#[]⟩:ByteArray),.bool false] mu) (fun h1=>
 (fV h1 (some (ag h0)) 0 [.string (⟨#[]⟩:ByteArray),.string (⟨#[]⟩:ByteArray),.bool true]∧
 At (bP h1 (ag h0) 0 [.string (⟨#[]⟩:ByteArray),.string (⟨#[]⟩:ByteArray),.bool true]) (fun h2=>
 ∃v3,af h2 (ag h0) 0 (.string v3)∧
 ∃v4,af h2 (ag h0) 1 (.string v4)∧
 ∃v5,af h2 (ag h0) 2 (.bool v5)∧
 K (v3,v4,v5) h2)))
noncomputable def ID:Ann:=.nil
theorem Iq{K:cJ [.agg [.str,.str,.bool]]→ae→Prop}{h0:ae}(h:BV K h0):HC PG Bq [] [.agg [.str,.str,.bool]] K h0:=HC.intro (an:=ID) (c:=Tryz.f121.body.getD .skip) Tryz.mixed Tryz.func121 rfl Tryz.call121 (ad rfl) (dF (by kernel_rfl) h)
def uS(x0:SliceV)(K:(SliceV)→ae→Prop)(h0:ae):Prop:=
 HC PG cf [.slice x0.a x0.len x0.cap] [.c .slice] (fun(e1:SliceV) h2=>
 HC PG dt [.slice e1.a e1.len e1.cap,.func (.func oP) #[] #[]] [] (fun(e3:Unit) h4=>
 LoopP (fun I5 (t6:Int×Int) h7=>
 CondP (decide (t6.2<(e1.len:Int))) (
 Join (fun(t24:Int) h25=>
 I5 (t24,IntKind.wrap .i64 (t6.2+1)) h25) (fun J8=>
 (cQ t6.2 e1.len∧∃a9,e1.a=some a9∧
 ∃v10,af h7 (adr a9 (t6.2.toNat*2)) 0 (.string v10)∧
 ∃v11,af h7 (adr a9 (t6.2.toNat*2)) 1 (.string v11)∧
 At (hnew h7 [.string (⟨#[]⟩:ByteArray),.string (⟨#[]⟩:ByteArray)] aj) (fun h12=>
 (fV h12 (some (ag h7)) 0 [.string v10,.string v11]∧
 At (bP h12 (ag h7) 0 [.string v10,.string v11]) (fun h13=>
 Join (fun(t18:Bool) h19=>
 CondP t18 (
 J8 t6.1 h19) (
 ∃v20,af h19 (ag h7) 0 (.string v20)∧
 ∃v21,af h19 (ag h7) 1 (.string v21)∧
 (cQ t6.1 e1.len∧∃a22,e1.a=some a22∧
 (fV h19 (some (adr a22 (t6.1.toNat*2))) 0 [.string v20,.string v21]∧
 At (bP h19 (adr a22 (t6.1.toNat*2)) 0 [.string v20,.string v21]) (fun h23=>
 J8 (IntKind.wrap .i64 (t6.1+1)) h23))))) (fun J14=>
 CondP (decide ((IntKind.wrap .i64 (t6.2+1))<(e1.len:Int))) (
 (cQ (IntKind.wrap .i64 (t6.2+1)) e1.len∧∃a15,e1.a=some a15∧
 ∃v16,af h13 (adr a15 ((IntKind.wrap .i64 (t6.2+1)).toNat*2)) 0 (.string v16)∧
 ∃v17,af h13 (ag h7) 0 (.string v17)∧
 J14 (v16.toList==v17.toList) h13)) (
 J14 false h13)))))))) (
 (((0:Int)≤t6.1∧t6.1≤((e1.cap:Nat):Int))∧
 K ⟨aN e1.a 0 e1.cap 2,t6.1.toNat-0,e1.cap-0⟩ h7))) (0,0) h4) h2) h0
noncomputable def C8:Ann:=.node .nil (.node .nil (.node .nil (.node .nil (.node (.node .nil (.loop [(4,.c (.int .i64)),(13,.c (.int .i64))] (.node .nil (.node .nil (.join [(4,.c (.int .i64))] (.node .nil (.node (.join [(33,.c .bool)] .nil .nil) .nil)) .nil))))) .nil))))
theorem CJ(x0:SliceV){K:cJ [.c .slice]→ae→Prop}{h0:ae}(h:uS x0 K h0):HC PG oc [.slice x0.a x0.len x0.cap] [.c .slice] K h0:=HC.intro (an:=C8) (c:=Tryz.f123.body.getD .skip) Tryz.mixed Tryz.func123 rfl Tryz.call123 (ad rfl) (dF (by kernel_rfl) h)
def xm(x0:ByteArray)(x1:Bool)(x2:ByteArray)(x3:SliceV)(K:(Option Addr)→ae→Prop)(h0:ae):Prop:=
 At (hnew h0 [.string x0,.bool x1,.string (⟨#[]⟩:ByteArray),.slice none 0 0,.pointer none] bj) (fun h1=>
 Join (fun(t5:Unit) h6=>
 LoopP (fun I7 (t8:Int) h9=>
 CondP (decide (t8<(x3.len:Int))) (
 Join (fun(t21:Unit) h22=>
 I7 (IntKind.wrap .i64 (t8+1)) h22) (fun J10=>
 (cQ t8 x3.len∧∃a11,x3.a=some a11∧
 ∃v12,af h9 a11 (t8.toNat*1) (.pointer v12)∧
 CondP (!(v12.isNone)) (
 ∃a13,some (ag h0)=some a13∧
 ∃v14:SliceV,af h9 a13 3 (.slice v14.a v14.len v14.cap)∧
 At (hnew h9 [.pointer v12] aK) (fun h15=>
 ∃xs16,SRow h15 (some (ag h9)) (1*1) xs16∧
 AppP (some [.pointer none]) 1 8 aK v14.a v14.len v14.cap 1 xs16 h15 (fun s17 h18=>
 ∃a19,some (ag h0)=some a19∧
 (Wr h18 (adr a19 3)∧
 At (hset h18 (adr a19 3) (.slice s17.a s17.len s17.cap)) (fun h20=>
 J10 () h20))))) (
 J10 () h9)))) (
 K (some (ag h0)) h9)) 0 h6) (fun J2=>
 CondP x1 (
 ∃a3,some (ag h0)=some a3∧
 (Wr h1 (adr a3 2)∧
 At (hset h1 (adr a3 2) (.string x2)) (fun h4=>
 J2 () h4))) (
 J2 () h1)))
noncomputable def Fh:Ann:=.node .nil (.node .nil (.join [] .nil (.node (.node .nil (.loop [(23,.c (.int .i64))] (.node .nil (.node .nil (.join [] .nil .nil))))) .nil)))
theorem E3(x0:ByteArray)(x1:Bool)(x2:ByteArray)(x3:SliceV){K:cJ [.c .ptr]→ae→Prop}{h0:ae}(h:xm x0 x1 x2 x3 K h0):HC PG pi [.string x0,.bool x1,.string x2,.slice x3.a x3.len x3.cap] [.c .ptr] K h0:=HC.intro (an:=Fh) (c:=Tryz.f124.body.getD .skip) Tryz.mixed Tryz.func124 rfl Tryz.call124 (ad rfl) (dF (by kernel_rfl) h)
def xw(x0:SliceV)(x1:Int)(K:(SliceV)→ae→Prop)(h0:ae):Prop:=
 At (hnew h0 [.int .i64 x1] oo) (fun h1=>
 LoopP (fun I2 (t3:SliceV×SliceV) h4=>
 CondP (decide ((t3.1.len:Int)>(0:Int))) (
 (cQ 0 t3.1.len∧∃a5,t3.1.a=some a5∧
 ∃v6,af h4 (adr a5 ((0:Int).toNat*2)) 0 (.string v6)∧
 ∃v7,aE h4 (ag h0)=some (.int .i64 v7)∧
 ∃b8,(0:Int)≤v7∧v6[v7.toNat]? =some b8∧
 At (hnew h4 [.int .u8 0] dQ) (fun h9=>
 (aE h9 (ag h0)=some (.int .i64 v7)∧
 (af h9 (adr a5 ((0:Int).toNat*2)) 0 (.string v6)∧
 (Wr h9 (ag h4)∧
 At (hset h9 (ag h4) (.int .u8 (b8.toNat:Int))) (fun h10=>
 HC PG dU [.slice t3.1.a t3.1.len t3.1.cap,.func (.func tB) #[] #[.pointer (some (ag h0)),.pointer (some (ag h4))]] [.c (.int .i64)] (fun(e11:Int) h12=>
 Join (fun(t14:Int) h15=>
 Join (fun(t24:SliceV) h25=>
 (((0:Int)≤t14∧t14≤((t3.1.len:Nat):Int))∧
 I2 (⟨aN t3.1.a t14.toNat t3.1.cap 2,t3.1.len-t14.toNat,t3.1.cap-t14.toNat⟩,t24) h25)) (fun J16=>
 (((0:Int)≤t14∧t14≤((t3.1.cap:Nat):Int))∧
 ∃v17,aE h15 (ag h0)=some (.int .i64 v17)∧
 HC PG pF [.slice (aN t3.1.a 0 t3.1.cap 2) (t14.toNat-0) (t3.1.cap-0),.int .i64 v17] [.c .ptr] (fun(e18:Option Addr) h19=>
 At (hnew h19 [.pointer e18] aK) (fun h20=>
 ∃xs21,SRow h20 (some (ag h19)) (1*1) xs21∧
 AppP (some [.pointer none]) 1 8 aK t3.2.a t3.2.len t3.2.cap 1 xs21 h20 (fun s22 h23=>
 J16 s22 h23))) h15))) (fun J13=>
 CondP (decide (e11<(0:Int))) (
 J13 (t3.1.len:Int) h12) (
 J13 e11 h12))) h10))))))) (
 K t3.2 h4)) (x0,⟨none,0,0⟩) h1)
noncomputable def Ft:Ann:=.node .nil (.node .nil (.node (.loop [(0,.c .slice),(5,.c .slice)] (.node .nil (.node .nil (.node .nil (.join [(7,.c (.int .i64))] .nil (.join [(5,.c .slice)] .nil .nil)))))) .nil))
theorem Fb(x0:SliceV)(x1:Int){K:cJ [.c .slice]→ae→Prop}{h0:ae}(h:xw x0 x1 K h0):HC PG pj [.slice x0.a x0.len x0.cap,.int .i64 x1] [.c .slice] K h0:=HC.intro (an:=Ft) (c:=Tryz.f125.body.getD .skip) Tryz.mixed Tryz.func125 rfl Tryz.call125 (ad rfl) (dF (by kernel_rfl) h)
def qs(x0:Int×Int×Int)(x1:ByteArray)(K:(Int)→ae→Prop)(h0:ae):Prop:=
 At (hnew h0 [.int .u64 x0.1,.int .u64 x0.2.1,.int .u64 x0.2.2] bX) (fun h1=>
 ∃v2,af h1 (adr (ag h0) 0) 0 (.int .u64 v2)∧
 ∃v3,af h1 (adr (ag h0) 0) 1 (.int .u64 v3)∧
 ∃v4,af h1 (ag h0) 2 (.int .u64 v4)∧
 HC PG yj [.agg #[.int .u64 v2,.int .u64 v3],.string x1] [.c (.int .u64)] (fun(e5:Int) h6=>
 (af h6 (ag h0) 2 (.int .u64 v4)∧
 Bd (IntKind.wrap .u64 (ap (IntKind.bits .u64) e5&&&ap (IntKind.bits .u64) v4).toNat:Int) (fun n7=>
 K n7 h6))) h1)
noncomputable def xD:Ann:=.nil
theorem wV(x0:Int×Int×Int)(x1:ByteArray){K:cJ [.c (.int .u64)]→ae→Prop}{h0:ae}(h:qs x0 x1 K h0):HC PG dG [.agg #[.int .u64 x0.1,.int .u64 x0.2.1,.int .u64 x0.2.2],.string x1] [.c (.int .u64)] K h0:=HC.intro (an:=xD) (c:=Tryz.f126.body.getD .skip) Tryz.mixed Tryz.func126 rfl Tryz.call126 (ad rfl) (dF (by kernel_rfl) h)
def sr(x0:SliceV)(x1:Int)(K:(Option Addr)→ae→Prop)(h0:ae):Prop:=
 At (hnew h0 [.int .i64 x1] oo) (fun h1=>
 ∃v2,aE h1 (ag h0)=some (.int .i64 v2)∧
 CondP (v2==(13:Int)) (
 HC PG od [] [.c .ptr] (fun(e3:Option Addr) h4=>
 LoopP (fun I5 (t6:(Option Addr)×Int) h7=>
 CondP (decide (t6.2<(x0.len:Int))) (
 (cQ t6.2 x0.len∧∃a8,x0.a=some a8∧
 ∃v9,af h7 (adr a8 (t6.2.toNat*3)) 0 (.string v9)∧
 ∃v10,af h7 (adr a8 (t6.2.toNat*3)) 1 (.string v10)∧
 ∃v11,af h7 (adr a8 (t6.2.toNat*3)) 2 (.int .u64 v11)∧
 At (hnew h7 [.string (⟨#[]⟩:ByteArray),.string (⟨#[]⟩:ByteArray),.int .u64 0] aH) (fun h12=>
 (fV h12 (some (ag h7)) 0 [.string v9,.string v10,.int .u64 v11]∧
 At (bP h12 (ag h7) 0 [.string v9,.string v10,.int .u64 v11]) (fun h13=>
 ∃v14,af h13 (adr (ag h7) 0) 0 (.string v14)∧
 ∃v15,af h13 (adr (ag h7) 0) 1 (.string v15)∧
 HC PG gk [.pointer t6.1,.pointer none,.agg #[.string v14,.string v15]] [.c .ptr] (fun(e16:Option Addr) h17=>
 I5 (e16,IntKind.wrap .i64 (t6.2+1)) h17) h13))))) (
 K t6.1 h7)) (e3,0) h4) h1) (
 At (hnew h1 [Value.nilFunc] mw) (fun h18=>
 (Wr h18 (ag h1)∧
 At (hset h18 (ag h1) (.func (.func pE) #[] #[.pointer (some (ag h0))])) (fun h19=>
 HC PG dP [.slice x0.a x0.len x0.cap] [.c .slice] (fun(e20:SliceV) h21=>
 HC PG cR [.slice e20.a e20.len e20.cap,.func (.func pC) #[] #[.pointer (some (ag h1))]] [] (fun(e22:Unit) h23=>
 HC PG kX [] [.c .ptr] (fun(e24:Option Addr) h25=>
 LoopP (fun I26 (t27:SliceV×(Option Addr)) h28=>
 CondP (decide ((t27.1.len:Int)>(0:Int))) (
 ∃v29,aE h28 (ag h1)=some (v29)∧
 (cQ 0 t27.1.len∧∃a30,t27.1.a=some a30∧
 ∃v31,af h28 (adr a30 ((0:Int).toNat*3)) 0 (.string v31)∧
 ∃v32,af h28 (adr a30 ((0:Int).toNat*3)) 1 (.string v32)∧
 ∃v33,af h28 (adr a30 ((0:Int).toNat*3)) 2 (.int .u64 v33)∧
 ((HV PG v29 [.agg #[.string v31,.string v32,.int .u64 v33]] [.c (.int .i64)] (fun(e34:Int) h35=>
 At (hnew h35 [.int .i64 0] oo) (fun h36=>
 (Wr h36 (ag h35)∧
 At (hset h36 (ag h35) (.int .i64 e34)) (fun h37=>
 HC PG cB [.slice t27.1.a t27.1.len t27.1.cap,.func (.func pz) #[] #[.pointer (some (ag h1)),.pointer (some (ag h35))]] [.c (.int .i64)] (fun(e38:Int) h39=>
 Join (fun(t41:Int) h42=>
 Join (fun(t56:Option Addr) h57=>
 (((0:Int)≤t41∧t41≤((t27.1.len:Nat):Int))∧
 I26 (⟨aN t27.1.a t41.toNat t27.1.cap 3,t27.1.len-t41.toNat,t27.1.cap-t41.toNat⟩,t56) h57)) (fun J43=>
 CondP (t41==(1:Int)) (
 ∃v44,aE h42 (ag h35)=some (.int .i64 v44)∧
 (cQ 0 t27.1.len∧∃a45,t27.1.a=some a45∧
 ∃v46,af h42 (adr (adr a45 ((0:Int).toNat*3)) 0) 0 (.string v46)∧
 ∃v47,af h42 (adr (adr a45 ((0:Int).toNat*3)) 0) 1 (.string v47)∧
 HC PG dx [.pointer t27.2,.pointer none,.int .i64 v44,.agg #[.string v46,.string v47]] [.c .ptr] (fun(e48:Option Addr) h49=>
 J43 e48 h49) h42)) (
 ∃v50,aE h42 (ag h35)=some (.int .i64 v50)∧
 (((0:Int)≤t41∧t41≤((t27.1.cap:Nat):Int))∧
 ∃v51,aE h42 (ag h0)=some (.int .i64 v51)∧
 HC PG mY [.slice (aN t27.1.a 0 t27.1.cap 3) (t41.toNat-0) (t27.1.cap-0),.int .i64 (IntKind.wrap .i64 (v51+1))] [.c .ptr] (fun(e52:Option Addr) h53=>
 (aE h53 (ag h0)=some (.int .i64 v51)∧
 (aE h53 (ag h35)=some (.int .i64 v50)∧
 HC PG ee [.pointer t27.2,.pointer none,.int .i64 v50,.pointer e52] [.c .ptr] (fun(e54:Option Addr) h55=>
 (aE h55 (ag h0)=some (.int .i64 v51)∧
 J43 e54 h55)) h53))) h42)))) (fun J40=>
 CondP (decide (e38<(0:Int))) (
 J40 (t27.1.len:Int) h39) (
 J40 e38 h39))) h37)))) h28)∧
 At (hnew h28 [.int .i64 0] oo) (fun h58=>
 ((af h58 (adr a30 ((0:Int).toNat*3)) 0 (.string v31)∧af h58 (adr a30 ((0:Int).toNat*3)) 1 (.string v32)∧af h58 (adr a30 ((0:Int).toNat*3)) 2 (.int .u64 v33))∧
 (aE h58 (ag h1)=some (v29)∧
 HV PG v29 [.agg #[.string v31,.string v32,.int .u64 v33]] [.c (.int .i64)] (fun(e59:Int) h60=>
 (Wr h60 (ag h28)∧
 At (hset h60 (ag h28) (.int .i64 e59)) (fun h61=>
 HC PG cB [.slice t27.1.a t27.1.len t27.1.cap,.func (.func pz) #[] #[.pointer (some (ag h1)),.pointer (some (ag h28))]] [.c (.int .i64)] (fun(e62:Int) h63=>
 Join (fun(t65:Int) h66=>
 Join (fun(t80:Option Addr) h81=>
 (((0:Int)≤t65∧t65≤((t27.1.len:Nat):Int))∧
 I26 (⟨aN t27.1.a t65.toNat t27.1.cap 3,t27.1.len-t65.toNat,t27.1.cap-t65.toNat⟩,t80) h81)) (fun J67=>
 CondP (t65==(1:Int)) (
 ∃v68,aE h66 (ag h28)=some (.int .i64 v68)∧
 (cQ 0 t27.1.len∧∃a69,t27.1.a=some a69∧
 ∃v70,af h66 (adr (adr a69 ((0:Int).toNat*3)) 0) 0 (.string v70)∧
 ∃v71,af h66 (adr (adr a69 ((0:Int).toNat*3)) 0) 1 (.string v71)∧
 HC PG dx [.pointer t27.2,.pointer none,.int .i64 v68,.agg #[.string v70,.string v71]] [.c .ptr] (fun(e72:Option Addr) h73=>
 J67 e72 h73) h66)) (
 ∃v74,aE h66 (ag h28)=some (.int .i64 v74)∧
 (((0:Int)≤t65∧t65≤((t27.1.cap:Nat):Int))∧
 ∃v75,aE h66 (ag h0)=some (.int .i64 v75)∧
 HC PG mY [.slice (aN t27.1.a 0 t27.1.cap 3) (t65.toNat-0) (t27.1.cap-0),.int .i64 (IntKind.wrap .i64 (v75+1))] [.c .ptr] (fun(e76:Option Addr) h77=>
 (aE h77 (ag h0)=some (.int .i64 v75)∧
 (aE h77 (ag h28)=some (.int .i64 v74)∧
 HC PG ee [.pointer t27.2,.pointer none,.int .i64 v74,.pointer e76] [.c .ptr] (fun(e78:Option Addr) h79=>
 (aE h79 (ag h0)=some (.int .i64 v75)∧
 J67 e78 h79)) h77))) h66)))) (fun J64=>
 CondP (decide (e62<(0:Int))) (
 J64 (t27.1.len:Int) h63) (
 J64 e62 h63))) h61))) h58)))))) (
 K t27.2 h28)) (e20,e24) h25) h23) h21) h19)))))
noncomputable def Fs:Ann:=.node .nil (.node (.node .nil (.node (.node .nil (.node (.node .nil (.loop [(5,.c .ptr),(17,.c (.int .i64))] .nil)) .nil)) .nil)) (.node .nil (.node .nil (.node .nil (.node .nil (.node (.loop [(0,.c .slice),(9,.c .ptr)] (.node .nil (.node .nil (.node .nil (.join [(11,.c (.int .i64))] .nil (.join [(9,.c .ptr)] .nil .nil)))))) .nil))))))
theorem xh(x0:SliceV)(x1:Int){K:cJ [.c .ptr]→ae→Prop}{h0:ae}(h:sr x0 x1 K h0):HC PG mY [.slice x0.a x0.len x0.cap,.int .i64 x1] [.c .ptr] K h0:=HC.intro (an:=Fs) (c:=Tryz.f127.body.getD .skip) Tryz.mixed Tryz.func127 rfl Tryz.call127 (ad rfl) (dF (by kernel_rfl) h)
def pR(x0:Option Addr)(K:(ByteArray×Bool)→ae→Prop)(h0:ae):Prop:=
 CondP x0.isNone (
 K ((⟨#[]⟩:ByteArray),false) h0) (
 ∃a1,x0=some a1∧
 ∃v2,af h0 a1 2 (.string v2)∧
 ∃a3,x0=some a3∧
 ∃v4,af h0 a3 1 (.bool v4)∧
 K (v2,v4) h0)
noncomputable def vR:Ann:=.nil
theorem vF(x0:Option Addr){K:cJ [.c .str,.c .bool]→ae→Prop}{h0:ae}(h:pR x0 K h0):HC PG mh [.pointer x0] [.c .str,.c .bool] K h0:=HC.intro (an:=vR) (c:=Tryz.f128.body.getD .skip) Tryz.mixed Tryz.func128 rfl Tryz.call128 (ad rfl) (dF (by kernel_rfl) h)
def qw(x0:Option Addr)(K:(SliceV)→ae→Prop)(h0:ae):Prop:=
 CondP x0.isNone (
 K ⟨none,0,0⟩ h0) (
 ∃a1,x0=some a1∧
 ∃v2:SliceV,af h0 a1 3 (.slice v2.a v2.len v2.cap)∧
 HC PG cL [.slice v2.a v2.len v2.cap] [.c .slice] (fun(e3:SliceV) h4=>
 K e3 h4) h0)
noncomputable def xH:Ann:=.nil
theorem wZ(x0:Option Addr){K:cJ [.c .slice]→ae→Prop}{h0:ae}(h:qw x0 K h0):HC PG mS [.pointer x0] [.c .slice] K h0:=HC.intro (an:=xH) (c:=Tryz.f129.body.getD .skip) Tryz.mixed Tryz.func129 rfl Tryz.call129 (ad rfl) (dF (by kernel_rfl) h)
def qz(x0:Option Addr)(K:(SliceV)→ae→Prop)(h0:ae):Prop:=
 CondP x0.isNone (
 K ⟨none,0,0⟩ h0) (
 ∃a1,x0=some a1∧
 ∃v2:SliceV,af h0 (adr a1 0) 2 (.slice v2.a v2.len v2.cap)∧
 HC PG cf [.slice v2.a v2.len v2.cap] [.c .slice] (fun(e3:SliceV) h4=>
 K e3 h4) h0)
noncomputable def xK:Ann:=.nil
theorem w8(x0:Option Addr){K:cJ [.c .slice]→ae→Prop}{h0:ae}(h:qz x0 K h0):HC PG fp [.pointer x0] [.c .slice] K h0:=HC.intro (an:=xK) (c:=Tryz.f130.body.getD .skip) Tryz.mixed Tryz.func130 rfl Tryz.call130 (ad rfl) (dF (by kernel_rfl) h)
def rE(x0:Option Addr)(K:(SliceV)→ae→Prop)(h0:ae):Prop:=
 CondP x0.isNone (
 K ⟨none,0,0⟩ h0) (
 ∃a1,x0=some a1∧
 ∃v2:SliceV,af h0 (adr a1 0) 3 (.slice v2.a v2.len v2.cap)∧
 HC PG cU [.slice v2.a v2.len v2.cap] [.c .slice] (fun(e3:SliceV) h4=>
 K e3 h4) h0)
noncomputable def yP:Ann:=.nil
theorem yC(x0:Option Addr){K:cJ [.c .slice]→ae→Prop}{h0:ae}(h:rE x0 K h0):HC PG nG [.pointer x0] [.c .slice] K h0:=HC.intro (an:=yP) (c:=Tryz.f131.body.getD .skip) Tryz.mixed Tryz.func131 rfl Tryz.call131 (ad rfl) (dF (by kernel_rfl) h)
def pa(x0:Option Addr)(x1:SliceV)(K:(SliceV)→ae→Prop)(h0:ae):Prop:=
 ∃a1,x0=some a1∧
 ∃v2,af h0 a1 0 (.string v2)∧
 HC PG kV [.slice x1.a x1.len x1.cap,.string v2] [.c .slice] (fun(e3:SliceV) h4=>
 Join (fun(t20:SliceV) h21=>
 Join (fun(t32:SliceV) h33=>
 ∃a34,x0=some a34∧
 ∃v35:SliceV,af h33 a34 3 (.slice v35.a v35.len v35.cap)∧
 LoopP (fun I36 (t37:SliceV×Int) h38=>
 CondP (decide (t37.2<(v35.len:Int))) (
 (cQ t37.2 v35.len∧∃a39,v35.a=some a39∧
 ∃v40,af h38 a39 (t37.2.toNat*1) (.pointer v40)∧
 HC PG iJ [.pointer v40,.slice t37.1.a t37.1.len t37.1.cap] [.c .slice] (fun(e41:SliceV) h42=>
 I36 (e41,IntKind.wrap .i64 (t37.2+1)) h42) h38)) (
 K t37.1 h38)) (t32,0) h33) (fun J22=>
 ∃a23,x0=some a23∧
 ∃v24:SliceV,af h21 a23 3 (.slice v24.a v24.len v24.cap)∧
 ∃a25,x0=some a25∧
 ∃v26:SliceV,af h21 a25 3 (.slice v26.a v26.len v26.cap)∧
 ((0:Int)≤(8:Int)∧
 Bd (di (v26.len:Int) (2^(min (8:Int).toNat (IntKind.bits .i64))):Int) (fun n27=>
 At (hnew h21 [.int .u8 (IntKind.wrap .u8 (v24.len:Int)),.int .u8 (IntKind.wrap .u8 n27)] dQ) (fun h28=>
 (af h28 a25 3 (.slice v26.a v26.len v26.cap)∧
 (af h28 a23 3 (.slice v24.a v24.len v24.cap)∧
 ∃xs29,SRow h28 (some (ag h21)) (2*1) xs29∧
 AppP (some [.int .u8 0]) 1 1 dQ t20.a t20.len t20.cap 2 xs29 h28 (fun s30 h31=>
 (af h31 a25 3 (.slice v26.a v26.len v26.cap)∧
 (af h31 a23 3 (.slice v24.a v24.len v24.cap)∧
 J22 s30 h31)))))))))) (fun J5=>
 ∃a6,x0=some a6∧
 ∃v7,af h4 a6 1 (.bool v7)∧
 CondP v7 (
 ∃a8,x0=some a8∧
 ∃v9,af h4 a8 2 (.string v9)∧
 At (hnew h4 [.int .u8 1] dQ) (fun h10=>
 (af h10 a8 2 (.string v9)∧
 ∃xs11,SRow h10 (some (ag h4)) (1*1) xs11∧
 AppP (some [.int .u8 0]) 1 1 dQ e3.a e3.len e3.cap 1 xs11 h10 (fun s12 h13=>
 (af h13 a8 2 (.string v9)∧
 HC PG kV [.slice s12.a s12.len s12.cap,.string v9] [.c .slice] (fun(e14:SliceV) h15=>
 J5 e14 h15) h13))))) (
 At (hnew h4 [.int .u8 0] dQ) (fun h16=>
 ∃xs17,SRow h16 (some (ag h4)) (1*1) xs17∧
 AppP (some [.int .u8 0]) 1 1 dQ e3.a e3.len e3.cap 1 xs17 h16 (fun s18 h19=>
 J5 s18 h19))))) h0
noncomputable def ur:Ann:=.node .nil (.node .nil (.join [(1,.c .slice)] .nil (.join [(1,.c .slice)] .nil (.node (.node .nil (.loop [(1,.c .slice),(49,.c (.int .i64))] .nil)) .nil))))
theorem uj(x0:Option Addr)(x1:SliceV){K:cJ [.c .slice]→ae→Prop}{h0:ae}(h:pa x0 x1 K h0):HC PG iJ [.pointer x0,.slice x1.a x1.len x1.cap] [.c .slice] K h0:=HC.intro (an:=ur) (c:=Tryz.f132.body.getD .skip) Tryz.mixed Tryz.func132 rfl Tryz.call132 (ad rfl) (dF (by kernel_rfl) h)
def tH(x0:SliceV)(x1:Option Addr)(x2:Int)(K:(SliceV)→ae→Prop)(h0:ae):Prop:=
 HC PG dL [.pointer x1] [.c .bool] (fun(e1:Bool) h2=>
 CondP e1 (
 At (hnew h2 [.int .u8 1] dQ) (fun h3=>
 ∃xs4,SRow h3 (some (ag h2)) (1*1) xs4∧
 AppP (some [.int .u8 0]) 1 1 dQ x0.a x0.len x0.cap 1 xs4 h3 (fun s5 h6=>
 HC PG jE [.pointer x1] [.c (.int .i64)] (fun(e7:Int) h8=>
 HC PG kH [.slice s5.a s5.len s5.cap,.int .u64 (IntKind.wrap .u64 e7),.int .i64 2] [.c .slice] (fun(e9:SliceV) h10=>
 HC PG fp [.pointer x1] [.c .slice] (fun(e11:SliceV) h12=>
 HC PG nZ [.slice e9.a e9.len e9.cap,.slice e11.a e11.len e11.cap] [.c .slice] (fun(e13:SliceV) h14=>
 K e13 h14) h12) h10) h8) h6))) (
 Join (fun(t28:SliceV) h29=>
 HC PG fp [.pointer x1] [.c .slice] (fun(e30:SliceV) h31=>
 HC PG nZ [.slice t28.a t28.len t28.cap,.slice e30.a e30.len e30.cap] [.c .slice] (fun(e32:SliceV) h33=>
 CondP (x2==(13:Int)) (
 K e32 h33) (
 HC PG nG [.pointer x1] [.c .slice] (fun(e34:SliceV) h35=>
 LoopP (fun I36 (t37:SliceV×Int) h38=>
 CondP (decide (t37.2<(e34.len:Int))) (
 (cQ t37.2 e34.len∧∃a39,e34.a=some a39∧
 ∃v40,af h38 a39 (t37.2.toNat*1) (.pointer v40)∧
 HC PG qh [.slice t37.1.a t37.1.len t37.1.cap,.pointer v40,.int .i64 (IntKind.wrap .i64 (x2+1))] [.c .slice] (fun(e41:SliceV) h42=>
 I36 (e41,IntKind.wrap .i64 (t37.2+1)) h42) h38)) (
 K t37.1 h38)) (e32,0) h35) h33)) h31) h29) (fun J15=>
 At (hnew h2 [.int .u8 0] dQ) (fun h16=>
 ∃xs17,SRow h16 (some (ag h2)) (1*1) xs17∧
 AppP (some [.int .u8 0]) 1 1 dQ x0.a x0.len x0.cap 1 xs17 h16 (fun s18 h19=>
 HC PG iV [.pointer x1] [.c (.int .u32)] (fun(e20:Int) h21=>
 HC PG kH [.slice s18.a s18.len s18.cap,.int .u64 (IntKind.wrap .u64 e20),.int .i64 4] [.c .slice] (fun(e22:SliceV) h23=>
 HC PG fq [.pointer x1] [.c (.int .u32)] (fun(e24:Int) h25=>
 HC PG kH [.slice e22.a e22.len e22.cap,.int .u64 (IntKind.wrap .u64 e24),.int .i64 4] [.c .slice] (fun(e26:SliceV) h27=>
 J15 e26 h27) h25) h23) h21) h19))))) h0
noncomputable def GP:Ann:=.node .nil (.node .nil (.join [(0,.c .slice)] .nil (.node .nil (.node .nil (.node (.node .nil (.loop [(0,.c .slice),(42,.c (.int .i64))] .nil)) .nil)))))
theorem zv(x0:SliceV)(x1:Option Addr)(x2:Int){K:cJ [.c .slice]→ae→Prop}{h0:ae}(h:tH x0 x1 x2 K h0):HC PG qh [.slice x0.a x0.len x0.cap,.pointer x1,.int .i64 x2] [.c .slice] K h0:=HC.intro (an:=GP) (c:=Tryz.f133.body.getD .skip) Tryz.mixed Tryz.func133 rfl Tryz.call133 (ad rfl) (dF (by kernel_rfl) h)
def pP(x0:Option Addr)(K:(Bool)→ae→Prop)(h0:ae):Prop:=
 ∃a1,x0=some a1∧
 ∃v2:SliceV,af h0 a1 3 (.slice v2.a v2.len v2.cap)∧
 LoopP (fun I3 (t4:Int) h5=>
 CondP (decide (t4<(v2.len:Int))) (
 (cQ t4 v2.len∧∃a6,v2.a=some a6∧
 ∃v7,af h5 a6 (t4.toNat*1) (.pointer v7)∧
 Join (fun(t21:Bool) h22=>
 CondP t21 (
 K false h22) (
 I3 (IntKind.wrap .i64 (t4+1)) h22)) (fun J8=>
 ∃a9,v7=some a9∧
 ∃v10,af h5 a9 0 (.string v10)∧
 CondP (v10.toList==(⟨#[]⟩:ByteArray).toList) (
 J8 true h5) (
 CondP (decide (t4>(0:Int))) (
 ∃a11,x0=some a11∧
 ∃v12:SliceV,af h5 a11 3 (.slice v12.a v12.len v12.cap)∧
 (cQ (IntKind.wrap .i64 (t4-1)) v12.len∧∃a13,v12.a=some a13∧
 ∃v14,af h5 a13 ((IntKind.wrap .i64 (t4-1)).toNat*1) (.pointer v14)∧
 ∃a15,v14=some a15∧
 ∃v16,af h5 a15 0 (.string v16)∧
 ∃b17,(0:Int)≤(0:Int)∧v16[(0:Int).toNat]? =some b17∧
 ∃a18,v7=some a18∧
 ∃v19,af h5 a18 0 (.string v19)∧
 ∃b20,(0:Int)≤(0:Int)∧v19[(0:Int).toNat]? =some b20∧
 J8 (decide ((b17.toNat:Int)≥(b20.toNat:Int))) h5)) (
 J8 false h5))))) (
 K true h5)) 0 h0
noncomputable def vP:Ann:=.node .nil (.node (.node .nil (.loop [(10,.c (.int .i64))] (.node .nil (.node .nil (.node (.node .nil (.join [(43,.c .bool)] .nil .nil)) .nil))))) .nil)
theorem vD(x0:Option Addr){K:cJ [.c .bool]→ae→Prop}{h0:ae}(h:pP x0 K h0):HC PG jp [.pointer x0] [.c .bool] K h0:=HC.intro (an:=vP) (c:=Tryz.f141.body.getD .skip) Tryz.mixed Tryz.func141 rfl Tryz.call141 (ad rfl) (dF (by kernel_rfl) h)
def eo(x0:SliceV)(x1:Value)(K:(Bool)→ae→Prop)(h0:ae):Prop:=
 HC PG eO [.slice x0.a x0.len x0.cap,x1] [.c (.int .i64)] (fun(e1:Int) h2=>
 K (decide (e1≥(0:Int))) h2) h0
noncomputable def g5:Ann:=.nil
theorem g4(x0:SliceV)(x1:Value){K:cJ [.c .bool]→ae→Prop}{h0:ae}(h:eo x0 x1 K h0):HC PG ci [.slice x0.a x0.len x0.cap,x1] [.c .bool] K h0:=HC.intro (an:=g5) (c:=Tryz.f142.body.getD .skip) Tryz.mixed Tryz.func142 rfl Tryz.call142 (ad rfl) (dF (by kernel_rfl) h)
def sH(x0:Option Addr)(K:(Bool)→ae→Prop)(h0:ae):Prop:=
 HC PG iK [.pointer x0] [.c .bool] (fun(e1:Bool) h2=>
 K (!e1) h2) h0
noncomputable def zU:Ann:=.nil
theorem zN(x0:Option Addr){K:cJ [.c .bool]→ae→Prop}{h0:ae}(h:sH x0 K h0):HC PG sB [.pointer x0] [.c .bool] K h0:=HC.intro (an:=zU) (c:=Tryz.f143.body.getD .skip) Tryz.mixed Tryz.func143 rfl Tryz.call143 (ad rfl) (dF (by kernel_rfl) h)
def pd(x0:Option Addr)(K:(Bool)→ae→Prop)(h0:ae):Prop:=
 Join (fun(t8:Bool) h9=>
 CondP t8 (
 K false h9) (
 ∃a10,x0=some a10∧
 ∃v11:SliceV,af h9 a10 3 (.slice v11.a v11.len v11.cap)∧
 HC PG ci [.slice v11.a v11.len v11.cap,.func (.func nq) #[] #[]] [.c .bool] (fun(e12:Bool) h13=>
 K (!e12) h13) h9)) (fun J1=>
 HC PG jp [.pointer x0] [.c .bool] (fun(e2:Bool) h3=>
 CondP (!e2) (
 J1 true h3) (
 ∃a4,x0=some a4∧
 ∃v5,af h3 a4 1 (.bool v5)∧
 CondP (!v5) (
 ∃a6,x0=some a6∧
 ∃v7:SliceV,af h3 a6 3 (.slice v7.a v7.len v7.cap)∧
 J1 (decide ((v7.len:Int)<(2:Int))) h3) (
 J1 false h3))) h0)
noncomputable def uu:Ann:=.node .nil (.node (.join [(20,.c .bool)] .nil .nil) .nil)
theorem ul(x0:Option Addr){K:cJ [.c .bool]→ae→Prop}{h0:ae}(h:pd x0 K h0):HC PG iK [.pointer x0] [.c .bool] K h0:=HC.intro (an:=uu) (c:=Tryz.f144.body.getD .skip) Tryz.mixed Tryz.func144 rfl Tryz.call144 (ad rfl) (dF (by kernel_rfl) h)
def qW(x0:Int×Int×Int)(x1:Option Addr)(x2:SliceV)(K:(Int×Bool)→ae→Prop)(h0:ae):Prop:=
 At (hnew h0 [.int .u64 x0.1,.int .u64 x0.2.1,.int .u64 x0.2.2] bX) (fun h1=>
 At (hnew h1 [.pointer x1] bw) (fun h2=>
 At (hnew h2 [.slice x2.a x2.len x2.cap] IU) (fun h3=>
 At (hnew h3 [.int .i64 0] oo) (fun h4=>
 At (hnew h4 [.bool false] qI) (fun h5=>
 ∃v6,aE h5 (ag h1)=some (.pointer v6)∧
 HC PG fp [.pointer v6] [.c .slice] (fun(e7:SliceV) h8=>
 ∃v9,aE h8 (ag h1)=some (.pointer v9)∧
 HC PG dL [.pointer v9] [.c .bool] (fun(e10:Bool) h11=>
 CondP e10 (
 Join (fun(t16:Bool) h17=>
 CondP t16 (
 (Wr h17 (ag h3)∧
 At (hset h17 (ag h3) (.int .i64 0)) (fun h18=>
 (Wr h18 (ag h4)∧
 At (hset h18 (ag h4) (.bool false)) (fun h19=>
 ∃v20,aE h19 (ag h3)=some (.int .i64 v20)∧
 ∃v21,aE h19 (ag h4)=some (.bool v21)∧
 K (v20,v21) h19))))) (
 LoopP (fun I22 (t23:Int) h24=>
 CondP (decide (t23<(e7.len:Int))) (
 (cQ t23 e7.len∧∃a25,e7.a=some a25∧
 ∃v26,af h24 (adr a25 (t23.toNat*2)) 0 (.string v26)∧
 ∃v27,af h24 (adr a25 (t23.toNat*2)) 1 (.string v27)∧
 At (hnew h24 [.string (⟨#[]⟩:ByteArray),.string (⟨#[]⟩:ByteArray)] aj) (fun h28=>
 (fV h28 (some (ag h24)) 0 [.string v26,.string v27]∧
 At (bP h28 (ag h24) 0 [.string v26,.string v27]) (fun h29=>
 ∃v30,af h29 (ag h0) 0 (.int .u64 v30)∧
 ∃v31,af h29 (ag h0) 1 (.int .u64 v31)∧
 ∃v32,af h29 (ag h0) 2 (.int .u64 v32)∧
 ∃v33,af h29 (ag h24) 0 (.string v33)∧
 ∃v34:SliceV,aE h29 (ag h2)=some (.slice v34.a v34.len v34.cap)∧
 HC PG dG [.agg #[.int .u64 v30,.int .u64 v31,.int .u64 v32],.string v33] [.c (.int .u64)] (fun(e35:Int) h36=>
 (aE h36 (ag h2)=some (.slice v34.a v34.len v34.cap)∧
 HC PG lN [.int .u64 e35,.slice v34.a v34.len v34.cap] [.c .bool] (fun(e37:Bool) h38=>
 CondP (!e37) (
 (Wr h38 (ag h3)∧
 At (hset h38 (ag h3) (.int .i64 0)) (fun h39=>
 (Wr h39 (ag h4)∧
 At (hset h39 (ag h4) (.bool false)) (fun h40=>
 ∃v41,aE h40 (ag h3)=some (.int .i64 v41)∧
 ∃v42,aE h40 (ag h4)=some (.bool v42)∧
 K (v41,v42) h40))))) (
 I22 (IntKind.wrap .i64 (t23+1)) h38)) h36)) h29))))) (
 (Wr h24 (ag h3)∧
 At (hset h24 (ag h3) (.int .i64 (e7.len:Int))) (fun h43=>
 (Wr h43 (ag h4)∧
 At (hset h43 (ag h4) (.bool true)) (fun h44=>
 ∃v45,aE h44 (ag h3)=some (.int .i64 v45)∧
 ∃v46,aE h44 (ag h4)=some (.bool v46)∧
 K (v45,v46) h44)))))) 0 h17)) (fun J12=>
 ∃v13:SliceV,aE h11 (ag h2)=some (.slice v13.a v13.len v13.cap)∧
 CondP ((v13.len:Int) !=(13:Int)) (
 J12 true h11) (
 HC PG r9 [.slice e7.a e7.len e7.cap] [.c .bool] (fun(e14:Bool) h15=>
 J12 (!e14) h15) h11))) (
 ∃v47:SliceV,aE h11 (ag h2)=some (.slice v47.a v47.len v47.cap)∧
 CondP (decide ((v47.len:Int)≥(13:Int))) (
 (Wr h11 (ag h3)∧
 At (hset h11 (ag h3) (.int .i64 0)) (fun h48=>
 (Wr h48 (ag h4)∧
 At (hset h48 (ag h4) (.bool false)) (fun h49=>
 ∃v50,aE h49 (ag h3)=some (.int .i64 v50)∧
 ∃v51,aE h49 (ag h4)=some (.bool v51)∧
 K (v50,v51) h49))))) (
 At (hnew h11 [.int .i64 0] oo) (fun h52=>
 (Wr h52 (ag h11)∧
 At (hset h52 (ag h11) (.int .i64 (e7.len:Int))) (fun h53=>
 ∃v54:SliceV,aE h53 (ag h2)=some (.slice v54.a v54.len v54.cap)∧
 ∃v55:SliceV,aE h53 (ag h2)=some (.slice v55.a v55.len v55.cap)∧
 ∃v56:SliceV,aE h53 (ag h2)=some (.slice v56.a v56.len v56.cap)∧
 (((0:Int)≤(v56.len:Int)∧(v56.len:Int)≤((v54.cap:Nat):Int))∧
 (((0:Int)≤(v55.len:Int)∧(v55.len:Int)≤(((v56.len:Int).toNat:Nat):Int))∧
 (Wr h53 (ag h2)∧
 At (hset h53 (ag h2) (.slice (aN v54.a 0 ((v56.len:Int).toNat) 1) (((v55.len:Int).toNat)-0) (((v56.len:Int).toNat)-0))) (fun h57=>
 ∃v58,aE h57 (ag h1)=some (.pointer v58)∧
 HC PG iV [.pointer v58] [.c (.int .u32)] (fun(e59:Int) h60=>
 HC PG kY [.int .u32 e59] [.c .raw] (fun(e61:Value) h62=>
 RangeP PG e61 [.c (.int .i64)] h62 (fun rdy63 bz64 (x65:Int) k66 h67=>
 (h67[(bF h62+1)]? =some rdy63∧At (bv h67 (bF h62+1) bz64) (fun h69=>
 ∃v71,aE h69 (ag h1)=some (.pointer v71)∧
 HC PG iS [.pointer v71,.int .i64 x65] [.agg [.str,.str],.c .bool] (fun(e72:(ByteArray×ByteArray)×Bool) h73=>
 At (hnew h73 [.string (⟨#[]⟩:ByteArray),.string (⟨#[]⟩:ByteArray)] aj) (fun h74=>
 (fV h74 (some (ag h73)) 0 [.string e72.1.1,.string e72.1.2]∧
 At (bP h74 (ag h73) 0 [.string e72.1.1,.string e72.1.2]) (fun h75=>
 Join (fun(t98:Bool) h99=>
 CondP t98 (
 (Wr h99 (ag h3)∧
 At (hset h99 (ag h3) (.int .i64 0)) (fun h100=>
 (Wr h100 (ag h4)∧
 At (hset h100 (ag h4) (.bool false)) (fun h101=>
 k66 (some .ret) h101))))) (
 k66 none h99)) (fun J76=>
 ∃v77,af h75 (ag h0) 0 (.int .u64 v77)∧
 ∃v78,af h75 (ag h0) 1 (.int .u64 v78)∧
 ∃v79,af h75 (ag h0) 2 (.int .u64 v79)∧
 ∃v80,af h75 (ag h73) 0 (.string v80)∧
 ∃v81:SliceV,aE h75 (ag h2)=some (.slice v81.a v81.len v81.cap)∧
 ((HC PG dG [.agg #[.int .u64 v77,.int .u64 v78,.int .u64 v79],.string v80] [.c (.int .u64)] (fun(e82:Int) h83=>
 (aE h83 (ag h2)=some (.slice v81.a v81.len v81.cap)∧
 At (hnew h83 [.int .i64 x65] oo) (fun h84=>
 (aE h84 (ag h2)=some (.slice v81.a v81.len v81.cap)∧
 ∃xs85,SRow h84 (some (ag h83)) (1*1) xs85∧
 AppP (some [.int .i64 0]) 1 8 oo v81.a v81.len v81.cap 1 xs85 h84 (fun s86 h87=>
 HC PG lN [.int .u64 e82,.slice s86.a s86.len s86.cap] [.c .bool] (fun(e88:Bool) h89=>
 J76 (!e88) h89) h87))))) h75)∧
 At (hnew h75 [.int .i64 x65] oo) (fun h90=>
 (aE h90 (ag h2)=some (.slice v81.a v81.len v81.cap)∧
 (af h90 (ag h73) 0 (.string v80)∧
 ((af h90 (ag h0) 0 (.int .u64 v77)∧af h90 (ag h0) 1 (.int .u64 v78)∧af h90 (ag h0) 2 (.int .u64 v79))∧
 HC PG dG [.agg #[.int .u64 v77,.int .u64 v78,.int .u64 v79],.string v80] [.c (.int .u64)] (fun(e91:Int) h92=>
 (aE h92 (ag h2)=some (.slice v81.a v81.len v81.cap)∧
 ∃xs93,SRow h92 (some (ag h75)) (1*1) xs93∧
 AppP (some [.int .i64 0]) 1 8 oo v81.a v81.len v81.cap 1 xs93 h92 (fun s94 h95=>
 HC PG lN [.int .u64 e91,.slice s94.a s94.len s94.cap] [.c .bool] (fun(e96:Bool) h97=>
 J76 (!e96) h97) h95))) h90)))))))))) h69))) (fun h102=>
 ∃v105,aE h102 (ag h1)=some (.pointer v105)∧
 HC PG fq [.pointer v105] [.c (.int .u32)] (fun(e106:Int) h107=>
 HC PG kY [.int .u32 e106] [.c .raw] (fun(e108:Value) h109=>
 RangeP PG e108 [.c (.int .i64)] h109 (fun rdy110 bz111 (x112:Int) k113 h114=>
 (h114[(bF h109+1)]? =some rdy110∧At (bv h114 (bF h109+1) bz111) (fun h116=>
 ∃v118,aE h116 (ag h1)=some (.pointer v118)∧
 HC PG hE [.pointer v118,.int .i64 x112] [.c .ptr,.c .bool] (fun(e119:(Option Addr)×Bool) h120=>
 Join (fun(t132:Int×Bool) h133=>
 Join (fun(t135:Bool) h136=>
 CondP t135 (
 (Wr h136 (ag h3)∧
 At (hset h136 (ag h3) (.int .i64 0)) (fun h137=>
 (Wr h137 (ag h4)∧
 At (hset h137 (ag h4) (.bool false)) (fun h138=>
 k113 (some .ret) h138))))) (
 ∃v139,aE h136 (ag h11)=some (.int .i64 v139)∧
 (Wr h136 (ag h11)∧
 At (hset h136 (ag h11) (.int .i64 (IntKind.wrap .i64 (v139+t132.1)))) (fun h140=>
 k113 none h140)))) (fun J134=>
 CondP (!t132.2) (
 J134 true h133) (
 J134 (decide (t132.1<(2:Int))) h133))) (fun J121=>
 ∃v122,af h120 (ag h0) 0 (.int .u64 v122)∧
 ∃v123,af h120 (ag h0) 1 (.int .u64 v123)∧
 ∃v124,af h120 (ag h0) 2 (.int .u64 v124)∧
 ∃v125:SliceV,aE h120 (ag h2)=some (.slice v125.a v125.len v125.cap)∧
 At (hnew h120 [.int .i64 x112] oo) (fun h126=>
 (aE h126 (ag h2)=some (.slice v125.a v125.len v125.cap)∧
 ((af h126 (ag h0) 0 (.int .u64 v122)∧af h126 (ag h0) 1 (.int .u64 v123)∧af h126 (ag h0) 2 (.int .u64 v124))∧
 ∃xs127,SRow h126 (some (ag h120)) (1*1) xs127∧
 AppP (some [.int .i64 0]) 1 8 oo v125.a v125.len v125.cap 1 xs127 h126 (fun s128 h129=>
 ((af h129 (ag h0) 0 (.int .u64 v122)∧af h129 (ag h0) 1 (.int .u64 v123)∧af h129 (ag h0) 2 (.int .u64 v124))∧
 HC PG lO [.agg #[.int .u64 v122,.int .u64 v123,.int .u64 v124],.pointer e119.1,.slice s128.a s128.len s128.cap] [.c (.int .i64),.c .bool] (fun(e130:Int×Bool) h131=>
 J121 (e130.1,e130.2) h131) h129))))))) h116))) (fun h141=>
 ∃v144,aE h141 (ag h11)=some (.int .i64 v144)∧
 (Wr h141 (ag h3)∧
 At (hset h141 (ag h3) (.int .i64 v144)) (fun h145=>
 (Wr h145 (ag h4)∧
 At (hset h145 (ag h4) (.bool true)) (fun h146=>
 (h146[(bF h109)]? =some (.deferred (some []))∧At (bv h146 (bF h109) (.deferred none)) (fun h147=>
 (h147[(bF h62)]? =some (.deferred (some []))∧At (bv h147 (bF h62) (.deferred none)) (fun h148=>
 ∃v149,aE h148 (ag h3)=some (.int .i64 v149)∧
 ∃v150,aE h148 (ag h4)=some (.bool v150)∧
 K (v149,v150) h148))))))))) (fun i117 h142=>
 bif bm i117 4 then(
 ∃v151,aE h142 (ag h11)=some (.int .i64 v151)∧
 (Wr h142 (ag h3)∧
 At (hset h142 (ag h3) (.int .i64 v151)) (fun h152=>
 (Wr h152 (ag h4)∧
 At (hset h152 (ag h4) (.bool true)) (fun h153=>
 (h153[(bF h109)]? =some (.deferred (some []))∧At (bv h153 (bF h109) (.deferred none)) (fun h154=>
 (h154[(bF h62)]? =some (.deferred (some []))∧At (bv h154 (bF h62) (.deferred none)) (fun h155=>
 ∃v156,aE h155 (ag h3)=some (.int .i64 v156)∧
 ∃v157,aE h155 (ag h4)=some (.bool v157)∧
 K (v156,v157) h155)))))))))else(
 False)) (fun h143=>
 (h143[(bF h109)]? =some (.deferred (some []))∧At (bv h143 (bF h109) (.deferred none)) (fun h158=>
 (h158[(bF h62)]? =some (.deferred (some []))∧At (bv h158 (bF h62) (.deferred none)) (fun h159=>
 ∃v160,aE h159 (ag h3)=some (.int .i64 v160)∧
 ∃v161,aE h159 (ag h4)=some (.bool v161)∧
 K (v160,v161) h159)))))) h107) h102) (fun i70 h103=>
 bif bm i70 2 then(
 ∃v162,aE h103 (ag h1)=some (.pointer v162)∧
 HC PG fq [.pointer v162] [.c (.int .u32)] (fun(e163:Int) h164=>
 HC PG kY [.int .u32 e163] [.c .raw] (fun(e165:Value) h166=>
 RangeP PG e165 [.c (.int .i64)] h166 (fun rdy167 bz168 (x169:Int) k170 h171=>
 (h171[(bF h166+1)]? =some rdy167∧At (bv h171 (bF h166+1) bz168) (fun h173=>
 ∃v175,aE h173 (ag h1)=some (.pointer v175)∧
 HC PG hE [.pointer v175,.int .i64 x169] [.c .ptr,.c .bool] (fun(e176:(Option Addr)×Bool) h177=>
 Join (fun(t189:Int×Bool) h190=>
 Join (fun(t192:Bool) h193=>
 CondP t192 (
 (Wr h193 (ag h3)∧
 At (hset h193 (ag h3) (.int .i64 0)) (fun h194=>
 (Wr h194 (ag h4)∧
 At (hset h194 (ag h4) (.bool false)) (fun h195=>
 k170 (some .ret) h195))))) (
 ∃v196,aE h193 (ag h11)=some (.int .i64 v196)∧
 (Wr h193 (ag h11)∧
 At (hset h193 (ag h11) (.int .i64 (IntKind.wrap .i64 (v196+t189.1)))) (fun h197=>
 k170 none h197)))) (fun J191=>
 CondP (!t189.2) (
 J191 true h190) (
 J191 (decide (t189.1<(2:Int))) h190))) (fun J178=>
 ∃v179,af h177 (ag h0) 0 (.int .u64 v179)∧
 ∃v180,af h177 (ag h0) 1 (.int .u64 v180)∧
 ∃v181,af h177 (ag h0) 2 (.int .u64 v181)∧
 ∃v182:SliceV,aE h177 (ag h2)=some (.slice v182.a v182.len v182.cap)∧
 At (hnew h177 [.int .i64 x169] oo) (fun h183=>
 (aE h183 (ag h2)=some (.slice v182.a v182.len v182.cap)∧
 ((af h183 (ag h0) 0 (.int .u64 v179)∧af h183 (ag h0) 1 (.int .u64 v180)∧af h183 (ag h0) 2 (.int .u64 v181))∧
 ∃xs184,SRow h183 (some (ag h177)) (1*1) xs184∧
 AppP (some [.int .i64 0]) 1 8 oo v182.a v182.len v182.cap 1 xs184 h183 (fun s185 h186=>
 ((af h186 (ag h0) 0 (.int .u64 v179)∧af h186 (ag h0) 1 (.int .u64 v180)∧af h186 (ag h0) 2 (.int .u64 v181))∧
 HC PG lO [.agg #[.int .u64 v179,.int .u64 v180,.int .u64 v181],.pointer e176.1,.slice s185.a s185.len s185.cap] [.c (.int .i64),.c .bool] (fun(e187:Int×Bool) h188=>
 J178 (e187.1,e187.2) h188) h186))))))) h173))) (fun h198=>
 ∃v201,aE h198 (ag h11)=some (.int .i64 v201)∧
 (Wr h198 (ag h3)∧
 At (hset h198 (ag h3) (.int .i64 v201)) (fun h202=>
 (Wr h202 (ag h4)∧
 At (hset h202 (ag h4) (.bool true)) (fun h203=>
 (h203[(bF h166)]? =some (.deferred (some []))∧At (bv h203 (bF h166) (.deferred none)) (fun h204=>
 (h204[(bF h62)]? =some (.deferred (some []))∧At (bv h204 (bF h62) (.deferred none)) (fun h205=>
 ∃v206,aE h205 (ag h3)=some (.int .i64 v206)∧
 ∃v207,aE h205 (ag h4)=some (.bool v207)∧
 K (v206,v207) h205))))))))) (fun i174 h199=>
 bif bm i174 4 then(
 ∃v208,aE h199 (ag h11)=some (.int .i64 v208)∧
 (Wr h199 (ag h3)∧
 At (hset h199 (ag h3) (.int .i64 v208)) (fun h209=>
 (Wr h209 (ag h4)∧
 At (hset h209 (ag h4) (.bool true)) (fun h210=>
 (h210[(bF h166)]? =some (.deferred (some []))∧At (bv h210 (bF h166) (.deferred none)) (fun h211=>
 (h211[(bF h62)]? =some (.deferred (some []))∧At (bv h211 (bF h62) (.deferred none)) (fun h212=>
 ∃v213,aE h212 (ag h3)=some (.int .i64 v213)∧
 ∃v214,aE h212 (ag h4)=some (.bool v214)∧
 K (v213,v214) h212)))))))))else(
 False)) (fun h200=>
 (h200[(bF h166)]? =some (.deferred (some []))∧At (bv h200 (bF h166) (.deferred none)) (fun h215=>
 (h215[(bF h62)]? =some (.deferred (some []))∧At (bv h215 (bF h62) (.deferred none)) (fun h216=>
 ∃v217,aE h216 (ag h3)=some (.int .i64 v217)∧
 ∃v218,aE h216 (ag h4)=some (.bool v218)∧
 K (v217,v218) h216)))))) h164) h103)else(
 False)) (fun h104=>
 (h104[(bF h62)]? =some (.deferred (some []))∧At (bv h104 (bF h62) (.deferred none)) (fun h219=>
 ∃v220,aE h219 (ag h3)=some (.int .i64 v220)∧
 ∃v221,aE h219 (ag h4)=some (.bool v221)∧
 K (v220,v221) h219)))) h60) h57)))))))))) h8) h5)))))
noncomputable def C2:Ann:=.node .nil (.node .nil (.node (.node .nil (.node (.node (.join [(31,.c .bool)] .nil .nil) (.node (.node .nil (.loop [(34,.c (.int .i64))] .nil)) .nil)) .nil)) (.node .nil (.node .nil (.node .nil (.node (.node .nil (.rf [.c (.int .i64)] .nil (.node .nil (.join [(78,.c .bool)] .nil .nil)))) (.node (.node .nil (.rf [.c (.int .i64)] .nil (.node .nil (.join [(18,.c (.int .i64)),(19,.c .bool)] .nil (.node (.join [(104,.c .bool)] .nil .nil) .nil))))) .nil)))))))
theorem uH(x0:Int×Int×Int)(x1:Option Addr)(x2:SliceV){K:cJ [.c (.int .i64),.c .bool]→ae→Prop}{h0:ae}(h:qW x0 x1 x2 K h0):HC PG lO [.agg #[.int .u64 x0.1,.int .u64 x0.2.1,.int .u64 x0.2.2],.pointer x1,.slice x2.a x2.len x2.cap] [.c (.int .i64),.c .bool] K h0:=HC.introM (an:=C2) (c:=Tryz.f145.body.getD .skip) Tryz.mixed Tryz.func145 rfl Tryz.call145 (ad rfl) (dF (by kernel_rfl) h)
def xr(K:(Option Addr)→ae→Prop)(h0:ae):Prop:=
 At (hnew h0 [.int .u32 0,.int .u32 0,.slice none 0 0,.slice none 0 0,.bool false,.pointer none] bh) (fun h1=>
 K (some (ag h0)) h1)
noncomputable def Fn:Ann:=.nil
theorem E8{K:cJ [.c .ptr]→ae→Prop}{h0:ae}(h:xr K h0):HC PG kX [] [.c .ptr] K h0:=HC.intro (an:=Fn) (c:=Tryz.f146.body.getD .skip) Tryz.mixed Tryz.func146 rfl Tryz.call146 (ad rfl) (dF (by kernel_rfl) h)
def xk(x0:Option Addr)(K:(Option Addr)→ae→Prop)(h0:ae):Prop:=
 CondP x0.isNone (
 HC PG oa [] [.c .ptr] (fun(e1:Option Addr) h2=>
 K e1 h2) h0) (
 K x0 h0)
noncomputable def Fg:Ann:=.nil
theorem E2(x0:Option Addr){K:cJ [.c .ptr]→ae→Prop}{h0:ae}(h:xk x0 K h0):HC PG ph [.pointer x0] [.c .ptr] K h0:=HC.intro (an:=Fg) (c:=Tryz.f147.body.getD .skip) Tryz.mixed Tryz.func147 rfl Tryz.call147 (ad rfl) (dF (by kernel_rfl) h)
def rB(x0:Option Addr)(x1:Option Addr)(x2:ByteArray)(x3:ByteArray)(K:((Option Addr)×Bool×Bool)→ae→Prop)(h0:ae):Prop:=
 CondP (x2.toList==(⟨#[]⟩:ByteArray).toList) (
 Join (fun(t6:Bool) h7=>
 CondP t6 (
 K (x0,false,false) h7) (
 ∃a8,x0=some a8∧
 ∃v9,af h7 a8 1 (.bool v9)∧
 HC PG dC [.pointer x0,.pointer x1] [.c .ptr] (fun(e10:Option Addr) h11=>
 (af h11 a8 1 (.bool v9)∧
 HC PG iI [.pointer e10,.string x3] [.c .ptr] (fun(e12:Option Addr) h13=>
 (af h13 a8 1 (.bool v9)∧
 K (e12, !v9,true) h13)) h11)) h7)) (fun J1=>
 ∃a2,x0=some a2∧
 ∃v3,af h0 a2 1 (.bool v3)∧
 CondP v3 (
 ∃a4,x0=some a4∧
 ∃v5,af h0 a4 2 (.string v5)∧
 J1 (v5.toList==x3.toList) h0) (
 J1 false h0))) (
 ∃b14,(0:Int)≤(0:Int)∧x2[(0:Int).toNat]? =some b14∧
 HC PG j3 [.pointer x0,.int .u8 (b14.toNat:Int)] [.c (.int .i64),.c .bool] (fun(e15:Int×Bool) h16=>
 CondP (!e15.2) (
 HC PG dC [.pointer x0,.pointer x1] [.c .ptr] (fun(e17:Option Addr) h18=>
 ∃a19,e17=some a19∧
 ∃v20:SliceV,af h18 a19 3 (.slice v20.a v20.len v20.cap)∧
 HC PG qL [.pointer x1,.string x2,.string x3] [.c .ptr] (fun(e21:Option Addr) h22=>
 (af h22 a19 3 (.slice v20.a v20.len v20.cap)∧
 At (hnew h22 [.pointer e21] aK) (fun h23=>
 (af h23 a19 3 (.slice v20.a v20.len v20.cap)∧
 HC PG dJ [.slice v20.a v20.len v20.cap,.int .i64 e15.1,.slice (some (ag h22)) 1 1] [.c .slice] (fun(e24:SliceV) h25=>
 ∃a26,e17=some a26∧
 (Wr h25 (adr a26 3)∧
 At (hset h25 (adr a26 3) (.slice e24.a e24.len e24.cap)) (fun h27=>
 K (e17,true,true) h27))) h23)))) h18) h16) (
 ∃a28,x0=some a28∧
 ∃v29:SliceV,af h16 a28 3 (.slice v29.a v29.len v29.cap)∧
 (cQ e15.1 v29.len∧∃a30,v29.a=some a30∧
 ∃v31,af h16 a30 (e15.1.toNat*1) (.pointer v31)∧
 ∃a32,v31=some a32∧
 ∃v33,af h16 a32 0 (.string v33)∧
 HC PG nW [.string x2,.string v33] [.c (.int .i64)] (fun(e34:Int) h35=>
 Join (fun(t41:Option Addr) h42=>
 (((0:Int)≤e34∧e34≤((x2.size:Nat):Int))∧
 HC PG kW [.pointer t41,.pointer x1,.string (x2.extract e34.toNat x2.size),.string x3] [.c .ptr,.c .bool,.c .bool] (fun(e43:(Option Addr)×Bool×Bool) h44=>
 CondP (!e43.2.2) (
 K (x0,false,false) h44) (
 HC PG dC [.pointer x0,.pointer x1] [.c .ptr] (fun(e45:Option Addr) h46=>
 ∃a47,e45=some a47∧
 ∃v48:SliceV,af h46 a47 3 (.slice v48.a v48.len v48.cap)∧
 (cQ e15.1 v48.len∧∃a49,v48.a=some a49∧
 (Wr h46 (adr a49 (e15.1.toNat*1))∧
 At (hset h46 (adr a49 (e15.1.toNat*1)) (.pointer e43.1)) (fun h50=>
 K (e45,e43.2.1,true) h50)))) h44)) h42)) (fun J36=>
 ∃a37,v31=some a37∧
 ∃v38,af h35 a37 0 (.string v38)∧
 CondP (decide (e34<(v38.size:Int))) (
 HC PG mg [.pointer v31,.pointer x1,.int .i64 e34] [.c .ptr] (fun(e39:Option Addr) h40=>
 J36 e39 h40) h35) (
 J36 v31 h35))) h16))) h0)
noncomputable def yM:Ann:=.node .nil (.node (.node .nil (.node (.node (.join [(33,.c .bool)] .nil .nil) .nil) .nil)) (.node .nil (.node .nil (.node .nil (.node .nil (.join [(14,.c .ptr)] .nil .nil))))))
theorem yz(x0:Option Addr)(x1:Option Addr)(x2:ByteArray)(x3:ByteArray){K:cJ [.c .ptr,.c .bool,.c .bool]→ae→Prop}{h0:ae}(h:rB x0 x1 x2 x3 K h0):HC PG kW [.pointer x0,.pointer x1,.string x2,.string x3] [.c .ptr,.c .bool,.c .bool] K h0:=HC.intro (an:=yM) (c:=Tryz.f148.body.getD .skip) Tryz.mixed Tryz.func148 rfl Tryz.call148 (ad rfl) (dF (by kernel_rfl) h)
def nL(x0:Int×Int×Int×(Option Addr)×ByteArray×Int)(x1:Option Addr)(x2:ByteArray×ByteArray)(x3:Int)(K:((Option Addr)×Bool×Bool)→ae→Prop)(h0:ae):Prop:=
 At (hnew h0 [.int .u64 x0.1,.int .u64 x0.2.1,.int .u64 x0.2.2.1,.pointer x0.2.2.2.1,.string x0.2.2.2.2.1,.int .u64 x0.2.2.2.2.2] cn) (fun h1=>
 At (hnew h1 [.string x2.1,.string x2.2] aj) (fun h2=>
 HC PG dL [.pointer x1] [.c .bool] (fun(e3:Bool) h4=>
 CondP e3 (
 ∃v5,af h4 (ag h1) 0 (.string v5)∧
 HC PG py [.pointer x1,.string v5] [.c .str,.c .bool] (fun(e6:ByteArray×Bool) h7=>
 Join (fun(t10:Bool) h11=>
 CondP t10 (
 K (x1,false,false) h11) (
 ∃v12,af h11 (ag h0) 3 (.pointer v12)∧
 ∃v13,af h11 (ag h1) 0 (.string v13)∧
 ∃v14,af h11 (ag h1) 1 (.string v14)∧
 HC PG gk [.pointer x1,.pointer v12,.agg #[.string v13,.string v14]] [.c .ptr] (fun(e15:Option Addr) h16=>
 K (e15, !e6.2,true) h16) h11)) (fun J8=>
 CondP e6.2 (
 ∃v9,af h7 (ag h1) 1 (.string v9)∧
 J8 (e6.1.toList==v9.toList) h7) (
 J8 false h7))) h4) (
 ∃v17,af h4 (ag h0) 5 (.int .u64 v17)∧
 HC PG jr [.int .u64 v17,.int .i64 x3] [.c (.int .i64)] (fun(e18:Int) h19=>
 HC PG iS [.pointer x1,.int .i64 e18] [.agg [.str,.str],.c .bool] (fun(e20:(ByteArray×ByteArray)×Bool) h21=>
 At (hnew h21 [.string (⟨#[]⟩:ByteArray),.string (⟨#[]⟩:ByteArray)] aj) (fun h22=>
 (fV h22 (some (ag h21)) 0 [.string e20.1.1,.string e20.1.2]∧
 At (bP h22 (ag h21) 0 [.string e20.1.1,.string e20.1.2]) (fun h23=>
 CondP e20.2 (
 ∃v24,af h23 (ag h21) 0 (.string v24)∧
 ∃v25,af h23 (ag h21) 1 (.string v25)∧
 ∃v26,af h23 (ag h1) 0 (.string v26)∧
 ∃v27,af h23 (ag h1) 1 (.string v27)∧
 CondP ((v24.toList==v26.toList)&&((v25.toList==v27.toList)&&true)) (
 K (x1,false,false) h23) (
 ∃v28,af h23 (ag h21) 0 (.string v28)∧
 ∃v29,af h23 (ag h1) 0 (.string v29)∧
 CondP (v28.toList==v29.toList) (
 ∃v30,af h23 (ag h0) 3 (.pointer v30)∧
 ∃v31,af h23 (ag h1) 0 (.string v31)∧
 ∃v32,af h23 (ag h1) 1 (.string v32)∧
 HC PG dx [.pointer x1,.pointer v30,.int .i64 e18,.agg #[.string v31,.string v32]] [.c .ptr] (fun(e33:Option Addr) h34=>
 K (e33,false,true) h34) h23) (
 ∃v35,af h23 (ag h0) 3 (.pointer v35)∧
 ∃v36,af h23 (ag h0) 0 (.int .u64 v36)∧
 ∃v37,af h23 (ag h0) 1 (.int .u64 v37)∧
 ∃v38,af h23 (ag h0) 2 (.int .u64 v38)∧
 ∃v39,af h23 (ag h0) 3 (.pointer v39)∧
 ∃v40,af h23 (ag h0) 4 (.string v40)∧
 ∃v41,af h23 (ag h0) 5 (.int .u64 v41)∧
 ∃v42,af h23 (ag h21) 0 (.string v42)∧
 ∃v43,af h23 (ag h21) 1 (.string v43)∧
 ∃v44,af h23 (ag h1) 0 (.string v44)∧
 ∃v45,af h23 (ag h1) 1 (.string v45)∧
 HC PG j7 [.agg #[.int .u64 v36,.int .u64 v37,.int .u64 v38,.pointer v39,.string v40,.int .u64 v41],.agg #[.string v42,.string v43],.agg #[.string v44,.string v45],.int .i64 (IntKind.wrap .i64 (x3+1))] [.c .ptr] (fun(e46:Option Addr) h47=>
 (af h47 (ag h0) 3 (.pointer v35)∧
 HC PG ee [.pointer x1,.pointer v35,.int .i64 e18,.pointer e46] [.c .ptr] (fun(e48:Option Addr) h49=>
 K (e48,true,true) h49) h47)) h23))) (
 HC PG hE [.pointer x1,.int .i64 e18] [.c .ptr,.c .bool] (fun(e50:(Option Addr)×Bool) h51=>
 CondP (!e50.2) (
 ∃v52,af h51 (ag h0) 3 (.pointer v52)∧
 ∃v53,af h51 (ag h1) 0 (.string v53)∧
 ∃v54,af h51 (ag h1) 1 (.string v54)∧
 HC PG dx [.pointer x1,.pointer v52,.int .i64 e18,.agg #[.string v53,.string v54]] [.c .ptr] (fun(e55:Option Addr) h56=>
 K (e55,true,true) h56) h51) (
 ∃v57,af h51 (ag h0) 0 (.int .u64 v57)∧
 ∃v58,af h51 (ag h0) 1 (.int .u64 v58)∧
 ∃v59,af h51 (ag h0) 2 (.int .u64 v59)∧
 ∃v60,af h51 (ag h0) 3 (.pointer v60)∧
 ∃v61,af h51 (ag h0) 4 (.string v61)∧
 ∃v62,af h51 (ag h0) 5 (.int .u64 v62)∧
 ∃v63,af h51 (ag h1) 0 (.string v63)∧
 ∃v64,af h51 (ag h1) 1 (.string v64)∧
 HC PG gI [.agg #[.int .u64 v57,.int .u64 v58,.int .u64 v59,.pointer v60,.string v61,.int .u64 v62],.pointer e50.1,.agg #[.string v63,.string v64],.int .i64 (IntKind.wrap .i64 (x3+1))] [.c .ptr,.c .bool,.c .bool] (fun(e65:(Option Addr)×Bool×Bool) h66=>
 CondP (!e65.2.2) (
 K (x1,false,false) h66) (
 ∃v67,af h66 (ag h0) 3 (.pointer v67)∧
 HC PG ee [.pointer x1,.pointer v67,.int .i64 e18,.pointer e65.1] [.c .ptr] (fun(e68:Option Addr) h69=>
 K (e68,e65.2.1,true) h69) h66)) h51)) h23))))) h19) h4)) h2))
noncomputable def yV:Ann:=.node .nil (.node (.node .nil (.node (.node .nil (.node (.join [(36,.c .bool)] .nil .nil) .nil)) .nil)) .nil)
theorem rv(x0:Int×Int×Int×(Option Addr)×ByteArray×Int)(x1:Option Addr)(x2:ByteArray×ByteArray)(x3:Int){K:cJ [.c .ptr,.c .bool,.c .bool]→ae→Prop}{h0:ae}(h:nL x0 x1 x2 x3 K h0):HC PG gI [.agg #[.int .u64 x0.1,.int .u64 x0.2.1,.int .u64 x0.2.2.1,.pointer x0.2.2.2.1,.string x0.2.2.2.2.1,.int .u64 x0.2.2.2.2.2],.pointer x1,.agg #[.string x2.1,.string x2.2],.int .i64 x3] [.c .ptr,.c .bool,.c .bool] K h0:=HC.intro (an:=yV) (c:=Tryz.f149.body.getD .skip) Tryz.mixed Tryz.func149 rfl Tryz.call149 (ad rfl) (dF (by kernel_rfl) h)
def xt(x0:Option Addr)(K:(Option Addr)→ae→Prop)(h0:ae):Prop:=
 CondP x0.isNone (
 HC PG lQ [] [.c .ptr] (fun(e1:Option Addr) h2=>
 K e1 h2) h0) (
 K x0 h0)
noncomputable def Fp:Ann:=.nil
theorem E9(x0:Option Addr){K:cJ [.c .ptr]→ae→Prop}{h0:ae}(h:xt x0 K h0):HC PG kZ [.pointer x0] [.c .ptr] K h0:=HC.intro (an:=Fp) (c:=Tryz.f150.body.getD .skip) Tryz.mixed Tryz.func150 rfl Tryz.call150 (ad rfl) (dF (by kernel_rfl) h)
def qv(x0:Option Addr)(x1:Option Addr)(x2:ByteArray)(K:((Option Addr)×Bool)→ae→Prop)(h0:ae):Prop:=
 CondP (x2.toList==(⟨#[]⟩:ByteArray).toList) (
 ∃a1,x0=some a1∧
 ∃v2,af h0 a1 1 (.bool v2)∧
 CondP (!v2) (
 K (x0,false) h0) (
 HC PG dC [.pointer x0,.pointer x1] [.c .ptr] (fun(e3:Option Addr) h4=>
 ∃a5,e3=some a5∧
 (Wr h4 (adr a5 1)∧
 At (hset h4 (adr a5 1) (.bool false)) (fun h6=>
 ∃a7,e3=some a7∧
 (Wr h6 (adr a7 2)∧
 At (hset h6 (adr a7 2) (.string (⟨#[]⟩:ByteArray))) (fun h8=>
 K (e3,true) h8))))) h0)) (
 ∃b9,(0:Int)≤(0:Int)∧x2[(0:Int).toNat]? =some b9∧
 HC PG j3 [.pointer x0,.int .u8 (b9.toNat:Int)] [.c (.int .i64),.c .bool] (fun(e10:Int×Bool) h11=>
 CondP (!e10.2) (
 K (x0,false) h11) (
 ∃a12,x0=some a12∧
 ∃v13:SliceV,af h11 a12 3 (.slice v13.a v13.len v13.cap)∧
 (cQ e10.1 v13.len∧∃a14,v13.a=some a14∧
 ∃v15,af h11 a14 (e10.1.toNat*1) (.pointer v15)∧
 ∃a16,v15=some a16∧
 ∃v17,af h11 a16 0 (.string v17)∧
 HC PG vm [.string x2,.string v17] [.c .str,.c .bool] (fun(e18:ByteArray×Bool) h19=>
 CondP (!e18.2) (
 K (x0,false) h19) (
 ∃a20,x0=some a20∧
 ∃v21:SliceV,af h19 a20 3 (.slice v21.a v21.len v21.cap)∧
 (cQ e10.1 v21.len∧∃a22,v21.a=some a22∧
 ∃v23,af h19 a22 (e10.1.toNat*1) (.pointer v23)∧
 HC PG j4 [.pointer v23,.pointer x1,.string e18.1] [.c .ptr,.c .bool] (fun(e24:(Option Addr)×Bool) h25=>
 CondP (!e24.2) (
 K (x0,false) h25) (
 HC PG dC [.pointer x0,.pointer x1] [.c .ptr] (fun(e26:Option Addr) h27=>
 HC PG mR [.pointer e24.1,.pointer x1] [.c .ptr] (fun(e28:Option Addr) h29=>
 CondP e28.isNone (
 ∃a30,e26=some a30∧
 ∃v31:SliceV,af h29 a30 3 (.slice v31.a v31.len v31.cap)∧
 HC PG dK [.slice v31.a v31.len v31.cap,.int .i64 e10.1,.int .i64 (IntKind.wrap .i64 (e10.1+1))] [.c .slice] (fun(e32:SliceV) h33=>
 ∃a34,e26=some a34∧
 (Wr h33 (adr a34 3)∧
 At (hset h33 (adr a34 3) (.slice e32.a e32.len e32.cap)) (fun h35=>
 K (e26,true) h35))) h29) (
 ∃a36,e26=some a36∧
 ∃v37:SliceV,af h29 a36 3 (.slice v37.a v37.len v37.cap)∧
 (cQ e10.1 v37.len∧∃a38,v37.a=some a38∧
 (Wr h29 (adr a38 (e10.1.toNat*1))∧
 At (hset h29 (adr a38 (e10.1.toNat*1)) (.pointer e28)) (fun h39=>
 K (e26,true) h39))))) h27) h25)) h19))) h11))) h0)
noncomputable def xG:Ann:=.nil
theorem wY(x0:Option Addr)(x1:Option Addr)(x2:ByteArray){K:cJ [.c .ptr,.c .bool]→ae→Prop}{h0:ae}(h:qv x0 x1 x2 K h0):HC PG j4 [.pointer x0,.pointer x1,.string x2] [.c .ptr,.c .bool] K h0:=HC.intro (an:=xG) (c:=Tryz.f151.body.getD .skip) Tryz.mixed Tryz.func151 rfl Tryz.call151 (ad rfl) (dF (by kernel_rfl) h)
def m6(x0:Int×Int×Int×(Option Addr)×ByteArray×Int)(x1:Option Addr)(x2:Int)(K:((Option Addr)×Bool)→ae→Prop)(h0:ae):Prop:=
 At (hnew h0 [.int .u64 x0.1,.int .u64 x0.2.1,.int .u64 x0.2.2.1,.pointer x0.2.2.2.1,.string x0.2.2.2.2.1,.int .u64 x0.2.2.2.2.2] cn) (fun h1=>
 HC PG dL [.pointer x1] [.c .bool] (fun(e2:Bool) h3=>
 CondP e2 (
 ∃v4,af h3 (ag h0) 4 (.string v4)∧
 HC PG py [.pointer x1,.string v4] [.c .str,.c .bool] (fun(e5:ByteArray×Bool) h6=>
 CondP (!e5.2) (
 K (x1,false) h6) (
 ∃v7,af h6 (ag h0) 3 (.pointer v7)∧
 ∃v8,af h6 (ag h0) 4 (.string v8)∧
 HC PG nH [.pointer x1,.pointer v7,.string v8] [.c .ptr] (fun(e9:Option Addr) h10=>
 K (e9,true) h10) h6)) h3) (
 ∃v11,af h3 (ag h0) 5 (.int .u64 v11)∧
 HC PG jr [.int .u64 v11,.int .i64 x2] [.c (.int .i64)] (fun(e12:Int) h13=>
 HC PG iS [.pointer x1,.int .i64 e12] [.agg [.str,.str],.c .bool] (fun(e14:(ByteArray×ByteArray)×Bool) h15=>
 At (hnew h15 [.string (⟨#[]⟩:ByteArray),.string (⟨#[]⟩:ByteArray)] aj) (fun h16=>
 (fV h16 (some (ag h15)) 0 [.string e14.1.1,.string e14.1.2]∧
 At (bP h16 (ag h15) 0 [.string e14.1.1,.string e14.1.2]) (fun h17=>
 CondP e14.2 (
 ∃v18,af h17 (ag h15) 0 (.string v18)∧
 ∃v19,af h17 (ag h0) 4 (.string v19)∧
 CondP (!(v18.toList==v19.toList)) (
 K (x1,false) h17) (
 ∃v20,af h17 (ag h0) 3 (.pointer v20)∧
 HC PG j5 [.pointer x1,.pointer v20,.int .i64 e12] [.c .ptr] (fun(e21:Option Addr) h22=>
 K (e21,true) h22) h17)) (
 HC PG hE [.pointer x1,.int .i64 e12] [.c .ptr,.c .bool] (fun(e23:(Option Addr)×Bool) h24=>
 CondP (!e23.2) (
 K (x1,false) h24) (
 ∃v25,af h24 (ag h0) 0 (.int .u64 v25)∧
 ∃v26,af h24 (ag h0) 1 (.int .u64 v26)∧
 ∃v27,af h24 (ag h0) 2 (.int .u64 v27)∧
 ∃v28,af h24 (ag h0) 3 (.pointer v28)∧
 ∃v29,af h24 (ag h0) 4 (.string v29)∧
 ∃v30,af h24 (ag h0) 5 (.int .u64 v30)∧
 HC PG j6 [.agg #[.int .u64 v25,.int .u64 v26,.int .u64 v27,.pointer v28,.string v29,.int .u64 v30],.pointer e23.1,.int .i64 (IntKind.wrap .i64 (x2+1))] [.c .ptr,.c .bool] (fun(e31:(Option Addr)×Bool) h32=>
 CondP (!e31.2) (
 K (x1,false) h32) (
 HC PG qO [.pointer e31.1] [.agg [.str,.str],.c .bool] (fun(e33:(ByteArray×ByteArray)×Bool) h34=>
 At (hnew h34 [.string (⟨#[]⟩:ByteArray),.string (⟨#[]⟩:ByteArray)] aj) (fun h35=>
 (fV h35 (some (ag h34)) 0 [.string e33.1.1,.string e33.1.2]∧
 At (bP h35 (ag h34) 0 [.string e33.1.1,.string e33.1.2]) (fun h36=>
 CondP e33.2 (
 ∃v37,af h36 (ag h0) 3 (.pointer v37)∧
 ∃v38,af h36 (ag h34) 0 (.string v38)∧
 ∃v39,af h36 (ag h34) 1 (.string v39)∧
 HC PG dx [.pointer x1,.pointer v37,.int .i64 e12,.agg #[.string v38,.string v39]] [.c .ptr] (fun(e40:Option Addr) h41=>
 K (e40,true) h41) h36) (
 ∃v42,af h36 (ag h0) 3 (.pointer v42)∧
 HC PG ee [.pointer x1,.pointer v42,.int .i64 e12,.pointer e31.1] [.c .ptr] (fun(e43:Option Addr) h44=>
 K (e43,true) h44) h36))))) h32)) h24)) h17))))) h13) h3)) h1)
noncomputable def xS:Ann:=.nil
theorem qm(x0:Int×Int×Int×(Option Addr)×ByteArray×Int)(x1:Option Addr)(x2:Int){K:cJ [.c .ptr,.c .bool]→ae→Prop}{h0:ae}(h:m6 x0 x1 x2 K h0):HC PG j6 [.agg #[.int .u64 x0.1,.int .u64 x0.2.1,.int .u64 x0.2.2.1,.pointer x0.2.2.2.1,.string x0.2.2.2.2.1,.int .u64 x0.2.2.2.2.2],.pointer x1,.int .i64 x2] [.c .ptr,.c .bool] K h0:=HC.intro (an:=xS) (c:=Tryz.f152.body.getD .skip) Tryz.mixed Tryz.func152 rfl Tryz.call152 (ad rfl) (dF (by kernel_rfl) h)
def qu(x0:Option Addr)(x1:Int)(K:(Int×Bool)→ae→Prop)(h0:ae):Prop:=
 ∃a1,x0=some a1∧
 ∃v2:SliceV,af h0 a1 3 (.slice v2.a v2.len v2.cap)∧
 HC PG dB [.slice v2.a v2.len v2.cap,.int .u8 x1,.func (.func lA) #[] #[]] [.c (.int .i64),.c .bool] (fun(e3:Int×Bool) h4=>
 K (e3.1,e3.2) h4) h0
noncomputable def xF:Ann:=.nil
theorem wX(x0:Option Addr)(x1:Int){K:cJ [.c (.int .i64),.c .bool]→ae→Prop}{h0:ae}(h:qu x0 x1 K h0):HC PG j3 [.pointer x0,.int .u8 x1] [.c (.int .i64),.c .bool] K h0:=HC.intro (an:=xF) (c:=Tryz.f153.body.getD .skip) Tryz.mixed Tryz.func153 rfl Tryz.call153 (ad rfl) (dF (by kernel_rfl) h)
def BS(x0:ByteArray)(x1:ByteArray)(K:(ByteArray×Bool)→ae→Prop)(h0:ae):Prop:=
 HC PG nX [.string x0,.string x1] [.c .bool] (fun(e1:Bool) h2=>
 CondP (!e1) (
 K ((⟨#[]⟩:ByteArray),false) h2) (
 (((0:Int)≤(x1.size:Int)∧(x1.size:Int)≤((x0.size:Nat):Int))∧
 K (x0.extract ((x1.size:Int).toNat) x0.size,true) h2))) h0
noncomputable def IA:Ann:=.nil
theorem Il(x0:ByteArray)(x1:ByteArray){K:cJ [.c .str,.c .bool]→ae→Prop}{h0:ae}(h:BS x0 x1 K h0):HC PG vm [.string x0,.string x1] [.c .str,.c .bool] K h0:=HC.intro (an:=IA) (c:=Tryz.f154.body.getD .skip) Tryz.mixed Tryz.func154 rfl Tryz.call154 (ad rfl) (dF (by kernel_rfl) h)
def oG(x0:Option Addr)(K:(Bool)→ae→Prop)(h0:ae):Prop:=
 CondP (!(x0.isNone)) (
 ∃a1,x0=some a1∧
 ∃v2,af h0 a1 4 (.bool v2)∧
 K v2 h0) (
 K false h0)
noncomputable def tO:Ann:=.nil
theorem tD(x0:Option Addr){K:cJ [.c .bool]→ae→Prop}{h0:ae}(h:oG x0 K h0):HC PG dL [.pointer x0] [.c .bool] K h0:=HC.intro (an:=tO) (c:=Tryz.f155.body.getD .skip) Tryz.mixed Tryz.func155 rfl Tryz.call155 (ad rfl) (dF (by kernel_rfl) h)
def B4(x0:Option Addr)(x1:ByteArray)(K:(ByteArray×Bool)→ae→Prop)(h0:ae):Prop:=
 HC PG fp [.pointer x0] [.c .slice] (fun(e1:SliceV) h2=>
 HC PG oB [.slice e1.a e1.len e1.cap,.string x1] [.c (.int .i64),.c .bool] (fun(e3:Int×Bool) h4=>
 CondP (!e3.2) (
 K ((⟨#[]⟩:ByteArray),false) h4) (
 (cQ e3.1 e1.len∧∃a5,e1.a=some a5∧
 ∃v6,af h4 (adr a5 (e3.1.toNat*2)) 1 (.string v6)∧
 K (v6,true) h4))) h2) h0
noncomputable def IJ:Ann:=.nil
theorem Iy(x0:Option Addr)(x1:ByteArray){K:cJ [.c .str,.c .bool]→ae→Prop}{h0:ae}(h:B4 x0 x1 K h0):HC PG py [.pointer x0,.string x1] [.c .str,.c .bool] K h0:=HC.intro (an:=IJ) (c:=Tryz.f156.body.getD .skip) Tryz.mixed Tryz.func156 rfl Tryz.call156 (ad rfl) (dF (by kernel_rfl) h)
def B0(x0:Int)(x1:Int)(K:(Int)→ae→Prop)(h0:ae):Prop:=
 Join (fun(t2:Bool) h3=>
 CondP t2 (
 K 0 h3) (
 ((0:Int)≤(IntKind.wrap .i64 (5*x1))∧
 Bd (di x0 (2^(min (IntKind.wrap .i64 (5*x1):Int).toNat (IntKind.bits .u64))):Int) (fun n4=>
 Bd (IntKind.wrap .u64 (ap (IntKind.bits .u64) n4&&&ap (IntKind.bits .u64) 31).toNat:Int) (fun n5=>
 K (IntKind.wrap .i64 n5) h3))))) (fun J1=>
 CondP (decide (x1<(0:Int))) (
 J1 true h0) (
 J1 (decide (x1≥(13:Int))) h0))
noncomputable def II:Ann:=.node .nil (.node (.join [(10,.c .bool)] .nil .nil) .nil)
theorem Ix(x0:Int)(x1:Int){K:cJ [.c (.int .i64)]→ae→Prop}{h0:ae}(h:B0 x0 x1 K h0):HC PG jr [.int .u64 x0,.int .i64 x1] [.c (.int .i64)] K h0:=HC.intro (an:=II) (c:=Tryz.f157.body.getD .skip) Tryz.mixed Tryz.func157 rfl Tryz.call157 (ad rfl) (dF (by kernel_rfl) h)
def rD(x0:Option Addr)(x1:Int)(K:((ByteArray×ByteArray)×Bool)→ae→Prop)(h0:ae):Prop:=
 At (hnew h0 [.string (⟨#[]⟩:ByteArray),.string (⟨#[]⟩:ByteArray)] aj) (fun h1=>
 HC PG iV [.pointer x0] [.c (.int .u32)] (fun(e2:Int) h3=>
 HC PG ff [.int .u32 e2,.int .i64 x1] [.c .bool] (fun(e4:Bool) h5=>
 CondP (!e4) (
 (fV h5 (some (ag h0)) 0 [.string (⟨#[]⟩:ByteArray),.string (⟨#[]⟩:ByteArray)]∧
 At (bP h5 (ag h0) 0 [.string (⟨#[]⟩:ByteArray),.string (⟨#[]⟩:ByteArray)]) (fun h6=>
 ∃v7,af h6 (ag h0) 0 (.string v7)∧
 ∃v8,af h6 (ag h0) 1 (.string v8)∧
 K ((v7,v8),false) h6))) (
 ∃a9,x0=some a9∧
 ∃v10:SliceV,af h5 (adr a9 0) 2 (.slice v10.a v10.len v10.cap)∧
 ∃a11,x0=some a11∧
 ∃v12,af h5 (adr a11 0) 0 (.int .u32 v12)∧
 HC PG cT [.int .u32 v12,.int .i64 x1] [.c (.int .i64)] (fun(e13:Int) h14=>
 (af h14 (adr a9 0) 2 (.slice v10.a v10.len v10.cap)∧
 (cQ e13 v10.len∧∃a15,v10.a=some a15∧
 ∃v16,af h14 (adr a15 (e13.toNat*2)) 0 (.string v16)∧
 ∃v17,af h14 (adr a15 (e13.toNat*2)) 1 (.string v17)∧
 (fV h14 (some (ag h0)) 0 [.string v16,.string v17]∧
 At (bP h14 (ag h0) 0 [.string v16,.string v17]) (fun h18=>
 ∃v19,af h18 (ag h0) 0 (.string v19)∧
 ∃v20,af h18 (ag h0) 1 (.string v20)∧
 K ((v19,v20),true) h18))))) h5)) h3) h1)
noncomputable def yO:Ann:=.nil
theorem yB(x0:Option Addr)(x1:Int){K:cJ [.agg [.str,.str],.c .bool]→ae→Prop}{h0:ae}(h:rD x0 x1 K h0):HC PG iS [.pointer x0,.int .i64 x1] [.agg [.str,.str],.c .bool] K h0:=HC.intro (an:=yO) (c:=Tryz.f158.body.getD .skip) Tryz.mixed Tryz.func158 rfl Tryz.call158 (ad rfl) (dF (by kernel_rfl) h)
def sK(x0:Option Addr)(x1:Int)(K:((Option Addr)×Bool)→ae→Prop)(h0:ae):Prop:=
 HC PG fq [.pointer x0] [.c (.int .u32)] (fun(e1:Int) h2=>
 HC PG ff [.int .u32 e1,.int .i64 x1] [.c .bool] (fun(e3:Bool) h4=>
 CondP (!e3) (
 K (none,false) h4) (
 ∃a5,x0=some a5∧
 ∃v6:SliceV,af h4 (adr a5 0) 3 (.slice v6.a v6.len v6.cap)∧
 ∃a7,x0=some a7∧
 ∃v8,af h4 (adr a7 0) 1 (.int .u32 v8)∧
 HC PG cT [.int .u32 v8,.int .i64 x1] [.c (.int .i64)] (fun(e9:Int) h10=>
 (af h10 (adr a5 0) 3 (.slice v6.a v6.len v6.cap)∧
 (cQ e9 v6.len∧∃a11,v6.a=some a11∧
 ∃v12,af h10 a11 (e9.toNat*1) (.pointer v12)∧
 K (v12,true) h10))) h4)) h2) h0
noncomputable def zZ:Ann:=.nil
theorem zQ(x0:Option Addr)(x1:Int){K:cJ [.c .ptr,.c .bool]→ae→Prop}{h0:ae}(h:sK x0 x1 K h0):HC PG hE [.pointer x0,.int .i64 x1] [.c .ptr,.c .bool] K h0:=HC.intro (an:=zZ) (c:=Tryz.f159.body.getD .skip) Tryz.mixed Tryz.func159 rfl Tryz.call159 (ad rfl) (dF (by kernel_rfl) h)
def pT(x0:Option Addr)(K:(ByteArray)→ae→Prop)(h0:ae):Prop:=
 CondP x0.isNone (
 K (⟨#[]⟩:ByteArray) h0) (
 ∃a1,x0=some a1∧
 ∃v2,af h0 a1 0 (.string v2)∧
 K v2 h0)
noncomputable def vT:Ann:=.nil
theorem vH(x0:Option Addr){K:cJ [.c .str]→ae→Prop}{h0:ae}(h:pT x0 K h0):HC PG jq [.pointer x0] [.c .str] K h0:=HC.intro (an:=vT) (c:=Tryz.f161.body.getD .skip) Tryz.mixed Tryz.func161 rfl Tryz.call161 (ad rfl) (dF (by kernel_rfl) h)
def sL(x0:ByteArray)(K:(Bool)→ae→Prop)(h0:ae):Prop:=
 K (!(x0.toList==x0.toList)) h0
noncomputable def z6:Ann:=.nil
theorem zR(x0:ByteArray){K:cJ [.c .bool]→ae→Prop}{h0:ae}(h:sL x0 K h0):HC PG l7 [.string x0] [.c .bool] K h0:=HC.intro (an:=z6) (c:=Tryz.f168.body.getD .skip) Tryz.mixed Tryz.func168 rfl Tryz.call168 (ad rfl) (dF (by kernel_rfl) h)
def kK(x0:Value)(K:(SliceV)→ae→Prop)(h0:ae):Prop:=
 HC PG dV [.slice none 0 0,x0] [.c .slice] (fun(e1:SliceV) h2=>
 K e1 h2) h0
noncomputable def pW:Ann:=.nil
theorem pJ(x0:Value){K:cJ [.c .slice]→ae→Prop}{h0:ae}(h:kK x0 K h0):HC PG gP [x0] [.c .slice] K h0:=HC.intro (an:=pW) (c:=Tryz.f169.body.getD .skip) Tryz.mixed Tryz.func169 rfl Tryz.call169 (ad rfl) (dF (by kernel_rfl) h)
def zA(x0:Option Addr)(x1:ByteArray×ByteArray×Bool)(x2:Bool)(K:(Value)→ae→Prop)(h0:ae):Prop:=
 At (hnew h0 [.pointer x0] aK) (fun h1=>
 At (hnew h1 [.string x1.1,.string x1.2.1,.bool x1.2.2] mu) (fun h2=>
 At (hnew h2 [.bool x2] qI) (fun h3=>
 K (.func (.func nY) #[] #[.pointer (some (ag h0)),.pointer (some (ag h1)),.pointer (some (ag h2))]) h3)))
noncomputable def GO:Ann:=.nil
theorem GF(x0:Option Addr)(x1:ByteArray×ByteArray×Bool)(x2:Bool){K:cJ [.c .raw]→ae→Prop}{h0:ae}(h:zA x0 x1 x2 K h0):HC PG tq [.pointer x0,.agg #[.string x1.1,.string x1.2.1,.bool x1.2.2],.bool x2] [.c .raw] K h0:=HC.intro (an:=GO) (c:=Tryz.f170.body.getD .skip) Tryz.mixed Tryz.func170 rfl Tryz.call170 (ad rfl) (dF (by kernel_rfl) h)
def gq(x0:SliceV)(K:(SliceV)→ae→Prop)(h0:ae):Prop:=
 CondP x0.a.isNone (
 K ⟨none,0,0⟩ h0) (
 At (hnew h0 [] aj) (fun h1=>
 ∃xs2,SRow h1 x0.a (x0.len*2) xs2∧
 AppP (some [.string (⟨#[]⟩:ByteArray),.string (⟨#[]⟩:ByteArray)]) 2 32 aj (some (ag h0)) 0 0 x0.len xs2 h1 (fun s3 h4=>
 K s3 h4)))
noncomputable def lD:Ann:=.nil
theorem lC(x0:SliceV){K:cJ [.c .slice]→ae→Prop}{h0:ae}(h:gq x0 K h0):HC PG cf [.slice x0.a x0.len x0.cap] [.c .slice] K h0:=HC.intro (an:=lD) (c:=Tryz.f172.body.getD .skip) Tryz.mixed Tryz.func172 rfl Tryz.call172 (ad rfl) (dF (by kernel_rfl) h)
def fa(x0:SliceV)(x1:Value)(K:(Unit)→ae→Prop)(h0:ae):Prop:=
 HC PG il [.slice x0.a x0.len x0.cap,.int .i64 (x0.len:Int),x1] [] (fun(e1:Unit) h2=>
 K () h2) h0
noncomputable def iG:Ann:=.nil
theorem iE(x0:SliceV)(x1:Value){K:cJ []→ae→Prop}{h0:ae}(h:fa x0 x1 K h0):HC PG dt [.slice x0.a x0.len x0.cap,x1] [] K h0:=HC.intro (an:=iG) (c:=Tryz.f173.body.getD .skip) Tryz.mixed Tryz.func173 rfl Tryz.call173 (ad rfl) (dF (by kernel_rfl) h)
def sI(x0:ByteArray×ByteArray)(x1:ByteArray×ByteArray)(K:(Int)→ae→Prop)(h0:ae):Prop:=
 At (hnew h0 [.string x0.1,.string x0.2] aj) (fun h1=>
 At (hnew h1 [.string x1.1,.string x1.2] aj) (fun h2=>
 ∃v3,af h2 (ag h0) 0 (.string v3)∧
 ∃v4,af h2 (ag h0) 1 (.string v4)∧
 ∃v5,af h2 (ag h1) 0 (.string v5)∧
 HC PG mT [.agg #[.string v3,.string v4],.string v5] [.c (.int .i64)] (fun(e6:Int) h7=>
 K e6 h7) h2))
noncomputable def zV:Ann:=.nil
theorem zO(x0:ByteArray×ByteArray)(x1:ByteArray×ByteArray){K:cJ [.c (.int .i64)]→ae→Prop}{h0:ae}(h:sI x0 x1 K h0):HC PG oP [.agg #[.string x0.1,.string x0.2],.agg #[.string x1.1,.string x1.2]] [.c (.int .i64)] K h0:=HC.intro (an:=zV) (c:=Tryz.f174.body.getD .skip) Tryz.mixed Tryz.func174 rfl Tryz.call174 (ad rfl) (dF (by kernel_rfl) h)
def xo(x0:ByteArray×ByteArray)(x1:ByteArray)(K:(Int)→ae→Prop)(h0:ae):Prop:=
 At (hnew h0 [.string x0.1,.string x0.2] aj) (fun h1=>
 ∃v2,af h1 (ag h0) 0 (.string v2)∧
 HC PG mW [.string v2,.string x1] [.c (.int .i64)] (fun(e3:Int) h4=>
 K e3 h4) h1)
noncomputable def Fj:Ann:=.nil
theorem E5(x0:ByteArray×ByteArray)(x1:ByteArray){K:cJ [.c (.int .i64)]→ae→Prop}{h0:ae}(h:xo x0 x1 K h0):HC PG mT [.agg #[.string x0.1,.string x0.2],.string x1] [.c (.int .i64)] K h0:=HC.intro (an:=Fj) (c:=Tryz.f175.body.getD .skip) Tryz.mixed Tryz.func175 rfl Tryz.call175 (ad rfl) (dF (by kernel_rfl) h)
def fK(x0:SliceV)(x1:Value)(K:(Int)→ae→Prop)(h0:ae):Prop:=
 LoopP (fun I1 (t2:Int) h3=>
 CondP (decide (t2<(x0.len:Int))) (
 (cQ t2 x0.len∧∃a4,x0.a=some a4∧
 ∃v5,af h3 (adr a4 (t2.toNat*2)) 0 (.string v5)∧
 ∃v6,af h3 (adr a4 (t2.toNat*2)) 1 (.string v6)∧
 HV PG x1 [.agg #[.string v5,.string v6]] [.c .bool] (fun(e7:Bool) h8=>
 CondP e7 (
 K t2 h8) (
 I1 (IntKind.wrap .i64 (t2+1)) h8)) h3)) (
 K (-1) h3)) 0 h0
noncomputable def jV:Ann:=.node .nil (.node (.node .nil (.loop [(8,.c (.int .i64))] .nil)) .nil)
theorem jQ(x0:SliceV)(x1:Value){K:cJ [.c (.int .i64)]→ae→Prop}{h0:ae}(h:fK x0 x1 K h0):HC PG dU [.slice x0.a x0.len x0.cap,x1] [.c (.int .i64)] K h0:=HC.intro (an:=jV) (c:=Tryz.f176.body.getD .skip) Tryz.mixed Tryz.func176 rfl Tryz.call176 (ad rfl) (dF (by kernel_rfl) h)
def tM(x0:ByteArray×ByteArray)(y0:Addr)(y1:Addr)(K:(Bool)→ae→Prop)(h0:ae):Prop:=
 At (hnew h0 [.string x0.1,.string x0.2] aj) (fun h1=>
 ∃v2,af h1 (ag h0) 0 (.string v2)∧
 ∃v3,aE h1 y0=some (.int .i64 v3)∧
 ∃b4,(0:Int)≤v3∧v2[v3.toNat]? =some b4∧
 ∃v5,aE h1 y1=some (.int .u8 v5)∧
 K ((b4.toNat:Int) !=v5) h1)
noncomputable def Cf:Ann:=.nil
theorem BP(x0:ByteArray×ByteArray)(y0:Addr)(y1:Addr){K:cJ [.c .bool]→ae→Prop}{h0:ae}(h:tM x0 y0 y1 K h0):HC PG tB [.agg #[.string x0.1,.string x0.2],.pointer (some y0),.pointer (some y1)] [.c .bool] K h0:=HC.intro (an:=Cf) (c:=Tryz.f177.body.getD .skip) Tryz.mixed Tryz.func177 rfl Tryz.call177 (ad rfl) (dF (by kernel_rfl) h)
def tN(x0:SliceV)(x1:Int)(K:(Option Addr)→ae→Prop)(h0:ae):Prop:=
 (cQ 0 x0.len∧∃a1,x0.a=some a1∧
 ∃v2,af h0 (adr a1 ((0:Int).toNat*2)) 0 (.string v2)∧
 (cQ (IntKind.wrap .i64 ((x0.len:Int)-1)) x0.len∧∃a3,x0.a=some a3∧
 ∃v4,af h0 (adr a3 ((IntKind.wrap .i64 ((x0.len:Int)-1)).toNat*2)) 0 (.string v4)∧
 HC PG nW [.string v2,.string v4] [.c (.int .i64)] (fun(e5:Int) h6=>
 (cQ 0 x0.len∧∃a7,x0.a=some a7∧
 ∃v8,af h6 (adr a7 ((0:Int).toNat*2)) 0 (.string v8)∧
 (((0:Int)≤e5∧e5≤((v8.size:Nat):Int))∧
 (((0:Int)≤x1∧x1≤((e5.toNat:Nat):Int))∧
 (cQ 0 x0.len∧∃a9,x0.a=some a9∧
 ∃v10,af h6 (adr a9 ((0:Int).toNat*2)) 0 (.string v10)∧
 Join (fun(t14:SliceV×ByteArray) h15=>
 HC PG pj [.slice t14.1.a t14.1.len t14.1.cap,.int .i64 e5] [.c .slice] (fun(e16:SliceV) h17=>
 HC PG pi [.string (v8.extract x1.toNat e5.toNat),.bool ((v10.size:Int)==e5),.string t14.2,.slice e16.a e16.len e16.cap] [.c .ptr] (fun(e18:Option Addr) h19=>
 K e18 h19) h17) h15) (fun J11=>
 CondP ((v10.size:Int)==e5) (
 (cQ 0 x0.len∧∃a12,x0.a=some a12∧
 ∃v13,af h6 (adr a12 ((0:Int).toNat*2)) 1 (.string v13)∧
 (((0:Int)≤(1:Int)∧(1:Int)≤((x0.len:Nat):Int))∧
 J11 (⟨aN x0.a ((1:Int).toNat) x0.cap 2,x0.len-((1:Int).toNat),x0.cap-((1:Int).toNat)⟩,v13) h6))) (
 J11 (x0,(⟨#[]⟩:ByteArray)) h6))))))) h0))
noncomputable def Cg:Ann:=.node .nil (.node .nil (.node .nil (.join [(0,.c .slice),(7,.c .str)] .nil .nil)))
theorem BQ(x0:SliceV)(x1:Int){K:cJ [.c .ptr]→ae→Prop}{h0:ae}(h:tN x0 x1 K h0):HC PG pF [.slice x0.a x0.len x0.cap,.int .i64 x1] [.c .ptr] K h0:=HC.intro (an:=Cg) (c:=Tryz.f178.body.getD .skip) Tryz.mixed Tryz.func178 rfl Tryz.call178 (ad rfl) (dF (by kernel_rfl) h)
def D6(x0:Int×Int)(x1:ByteArray)(K:(Int)→ae→Prop)(h0:ae):Prop:=
 At (hnew h0 [.int .u64 x0.1,.int .u64 x0.2] jL) (fun h1=>
 ∃v2,af h1 (ag h0) 0 (.int .u64 v2)∧
 Bd (IntKind.wrap .u64 (ap (IntKind.bits .u64) v2^^^ap (IntKind.bits .u64) 8317987319222330741).toNat:Int) (fun n3=>
 ∃v4,af h1 (ag h0) 1 (.int .u64 v4)∧
 Bd (IntKind.wrap .u64 (ap (IntKind.bits .u64) v4^^^ap (IntKind.bits .u64) 7237128888997146477).toNat:Int) (fun n5=>
 ∃v6,af h1 (ag h0) 0 (.int .u64 v6)∧
 Bd (IntKind.wrap .u64 (ap (IntKind.bits .u64) v6^^^ap (IntKind.bits .u64) 7816392313619706465).toNat:Int) (fun n7=>
 ∃v8,af h1 (ag h0) 1 (.int .u64 v8)∧
 Bd (IntKind.wrap .u64 (ap (IntKind.bits .u64) v8^^^ap (IntKind.bits .u64) 8387220255154660723).toNat:Int) (fun n9=>
 At (hnew h1 [.int .u64 0,.int .u64 0,.int .u64 0,.int .u64 0] hP) (fun h10=>
 (fV h10 (some (ag h1)) 0 [.int .u64 n3,.int .u64 n5,.int .u64 n7,.int .u64 n9]∧
 At (bP h10 (ag h1) 0 [.int .u64 n3,.int .u64 n5,.int .u64 n7,.int .u64 n9]) (fun h11=>
 LoopP (fun I12 (t13:ByteArray) h14=>
 CondP (decide ((t13.size:Int)≥(8:Int))) (
 (((0:Int)≤(8:Int)∧(8:Int)≤((t13.size:Nat):Int))∧
 HC PG r7 [.string (t13.extract 0 ((8:Int).toNat))] [.c (.int .u64)] (fun(e15:Int) h16=>
 HC PG kU [.pointer (some (ag h1)),.int .u64 e15] [] (fun(e17:Unit) h18=>
 (((0:Int)≤(8:Int)∧(8:Int)≤((t13.size:Nat):Int))∧
 I12 (t13.extract ((8:Int).toNat) t13.size) h18)) h16) h14)) (
 HC PG r7 [.string t13] [.c (.int .u64)] (fun(e19:Int) h20=>
 ((0:Int)≤(56:Int)∧
 Bd (IntKind.wrap .u64 ((IntKind.wrap .u64 (x1.size:Int))*2^(min (56:Int).toNat (IntKind.bits .u64))):Int) (fun n21=>
 Bd (IntKind.wrap .u64 (ap (IntKind.bits .u64) e19|||ap (IntKind.bits .u64) n21).toNat:Int) (fun n22=>
 HC PG kU [.pointer (some (ag h1)),.int .u64 n22] [] (fun(e23:Unit) h24=>
 (cQ (2:Int) 4∧
 ∃v25,af h24 (ag h1) ((2:Int).toNat*1) (.int .u64 v25)∧
 Bd (IntKind.wrap .u64 (ap (IntKind.bits .u64) v25^^^ap (IntKind.bits .u64) 255).toNat:Int) (fun n26=>
 (cQ (2:Int) 4∧
 (Wr h24 (adr (ag h1) ((2:Int).toNat*1))∧
 At (hset h24 (adr (ag h1) ((2:Int).toNat*1)) (.int .u64 n26)) (fun h27=>
 HC PG gQ [.pointer (some (ag h1)),.int .i64 4] [] (fun(e28:Unit) h29=>
 (cQ 0 4∧
 ∃v30,af h29 (ag h1) ((0:Int).toNat*1) (.int .u64 v30)∧
 (cQ 1 4∧
 ∃v31,af h29 (ag h1) ((1:Int).toNat*1) (.int .u64 v31)∧
 Bd (IntKind.wrap .u64 (ap (IntKind.bits .u64) v30^^^ap (IntKind.bits .u64) v31).toNat:Int) (fun n32=>
 (cQ (2:Int) 4∧
 ∃v33,af h29 (ag h1) ((2:Int).toNat*1) (.int .u64 v33)∧
 Bd (IntKind.wrap .u64 (ap (IntKind.bits .u64) n32^^^ap (IntKind.bits .u64) v33).toNat:Int) (fun n34=>
 (cQ (3:Int) 4∧
 ∃v35,af h29 (ag h1) ((3:Int).toNat*1) (.int .u64 v35)∧
 Bd (IntKind.wrap .u64 (ap (IntKind.bits .u64) n34^^^ap (IntKind.bits .u64) v35).toNat:Int) (fun n36=>
 K n36 h29)))))))) h27)))))) h20)))) h14)) x1 h11))))))))
noncomputable def KJ:Ann:=.node .nil (.node .nil (.node .nil (.node (.loop [(1,.c .str)] .nil) .nil)))
theorem KH(x0:Int×Int)(x1:ByteArray){K:cJ [.c (.int .u64)]→ae→Prop}{h0:ae}(h:D6 x0 x1 K h0):HC PG yj [.agg #[.int .u64 x0.1,.int .u64 x0.2],.string x1] [.c (.int .u64)] K h0:=HC.intro (an:=KJ) (c:=Tryz.f179.body.getD .skip) Tryz.mixed Tryz.func179 rfl Tryz.call179 (ad rfl) (dF (by kernel_rfl) h)
def uT(K:(Option Addr)→ae→Prop)(h0:ae):Prop:=
 At (hnew h0 [.int .u32 0,.int .u32 0,.slice none 0 0,.slice none 0 0,.bool true,.pointer none] bh) (fun h1=>
 K (some (ag h0)) h1)
noncomputable def C9:Ann:=.nil
theorem CL{K:cJ [.c .ptr]→ae→Prop}{h0:ae}(h:uT K h0):HC PG od [] [.c .ptr] K h0:=HC.intro (an:=C9) (c:=Tryz.f180.body.getD .skip) Tryz.mixed Tryz.func180 rfl Tryz.call180 (ad rfl) (dF (by kernel_rfl) h)
def sJ(x0:Option Addr)(x1:Option Addr)(x2:ByteArray×ByteArray)(K:(Option Addr)→ae→Prop)(h0:ae):Prop:=
 At (hnew h0 [.string x2.1,.string x2.2] aj) (fun h1=>
 HC PG dL [.pointer x0] [.c .bool] (fun(e2:Bool) h3=>
 CondP (!e2) (
 K x0 h3) (
 HC PG fD [.pointer x0,.pointer x1] [.c .ptr] (fun(e4:Option Addr) h5=>
 ∃a6,e4=some a6∧
 ∃v7:SliceV,af h5 (adr a6 0) 2 (.slice v7.a v7.len v7.cap)∧
 ∃v8,af h5 (ag h0) 0 (.string v8)∧
 ∃v9,af h5 (ag h0) 1 (.string v9)∧
 HC PG vp [.slice v7.a v7.len v7.cap,.agg #[.string v8,.string v9]] [.c .slice] (fun(e10:SliceV) h11=>
 ∃a12,e4=some a12∧
 (Wr h11 (adr (adr a12 0) 2)∧
 At (hset h11 (adr (adr a12 0) 2) (.slice e10.a e10.len e10.cap)) (fun h13=>
 K e4 h13))) h5) h3)) h1)
noncomputable def zX:Ann:=.nil
theorem zP(x0:Option Addr)(x1:Option Addr)(x2:ByteArray×ByteArray){K:cJ [.c .ptr]→ae→Prop}{h0:ae}(h:sJ x0 x1 x2 K h0):HC PG gk [.pointer x0,.pointer x1,.agg #[.string x2.1,.string x2.2]] [.c .ptr] K h0:=HC.intro (an:=zX) (c:=Tryz.f181.body.getD .skip) Tryz.mixed Tryz.func181 rfl Tryz.call181 (ad rfl) (dF (by kernel_rfl) h)
def tL(x0:ByteArray×ByteArray×Int)(y0:Addr)(K:(Int)→ae→Prop)(h0:ae):Prop:=
 At (hnew h0 [.string x0.1,.string x0.2.1,.int .u64 x0.2.2] aH) (fun h1=>
 ∃v2,af h1 (ag h0) 2 (.int .u64 v2)∧
 ∃v3,aE h1 y0=some (.int .i64 v3)∧
 HC PG jr [.int .u64 v2,.int .i64 v3] [.c (.int .i64)] (fun(e4:Int) h5=>
 K e4 h5) h1)
noncomputable def Ce:Ann:=.nil
theorem BO(x0:ByteArray×ByteArray×Int)(y0:Addr){K:cJ [.c (.int .i64)]→ae→Prop}{h0:ae}(h:tL x0 y0 K h0):HC PG pE [.agg #[.string x0.1,.string x0.2.1,.int .u64 x0.2.2],.pointer (some y0)] [.c (.int .i64)] K h0:=HC.intro (an:=Ce) (c:=Tryz.f182.body.getD .skip) Tryz.mixed Tryz.func182 rfl Tryz.call182 (ad rfl) (dF (by kernel_rfl) h)
def fu(x0:SliceV)(K:(SliceV)→ae→Prop)(h0:ae):Prop:=
 CondP x0.a.isNone (
 K ⟨none,0,0⟩ h0) (
 At (hnew h0 [] aH) (fun h1=>
 ∃xs2,SRow h1 x0.a (x0.len*3) xs2∧
 AppP (some [.string (⟨#[]⟩:ByteArray),.string (⟨#[]⟩:ByteArray),.int .u64 0]) 3 40 aH (some (ag h0)) 0 0 x0.len xs2 h1 (fun s3 h4=>
 K s3 h4)))
noncomputable def jx:Ann:=.nil
theorem jt(x0:SliceV){K:cJ [.c .slice]→ae→Prop}{h0:ae}(h:fu x0 K h0):HC PG dP [.slice x0.a x0.len x0.cap] [.c .slice] K h0:=HC.intro (an:=jx) (c:=Tryz.f183.body.getD .skip) Tryz.mixed Tryz.func183 rfl Tryz.call183 (ad rfl) (dF (by kernel_rfl) h)
def dZ(x0:SliceV)(x1:Value)(K:(Unit)→ae→Prop)(h0:ae):Prop:=
 HC PG gB [.slice x0.a x0.len x0.cap,.int .i64 (x0.len:Int),x1] [] (fun(e1:Unit) h2=>
 K () h2) h0
noncomputable def gL:Ann:=.nil
theorem gJ(x0:SliceV)(x1:Value){K:cJ []→ae→Prop}{h0:ae}(h:dZ x0 x1 K h0):HC PG cR [.slice x0.a x0.len x0.cap,x1] [] K h0:=HC.intro (an:=gL) (c:=Tryz.f184.body.getD .skip) Tryz.mixed Tryz.func184 rfl Tryz.call184 (ad rfl) (dF (by kernel_rfl) h)
def tK(x0:ByteArray×ByteArray×Int)(x1:ByteArray×ByteArray×Int)(y0:Addr)(K:(Int)→ae→Prop)(h0:ae):Prop:=
 At (hnew h0 [.string x0.1,.string x0.2.1,.int .u64 x0.2.2] aH) (fun h1=>
 At (hnew h1 [.string x1.1,.string x1.2.1,.int .u64 x1.2.2] aH) (fun h2=>
 ∃v3,aE h2 y0=some (v3)∧
 ∃v4,af h2 (ag h0) 0 (.string v4)∧
 ∃v5,af h2 (ag h0) 1 (.string v5)∧
 ∃v6,af h2 (ag h0) 2 (.int .u64 v6)∧
 ∃v7,aE h2 y0=some (v7)∧
 ∃v8,af h2 (ag h1) 0 (.string v8)∧
 ∃v9,af h2 (ag h1) 1 (.string v9)∧
 ∃v10,af h2 (ag h1) 2 (.int .u64 v10)∧
 HV PG v3 [.agg #[.string v4,.string v5,.int .u64 v6]] [.c (.int .i64)] (fun(e11:Int) h12=>
 ((af h12 (ag h1) 0 (.string v8)∧af h12 (ag h1) 1 (.string v9)∧af h12 (ag h1) 2 (.int .u64 v10))∧
 (aE h12 y0=some (v7)∧
 HV PG v7 [.agg #[.string v8,.string v9,.int .u64 v10]] [.c (.int .i64)] (fun(e13:Int) h14=>
 HC PG mX [.int .i64 e11,.int .i64 e13] [.c (.int .i64)] (fun(e15:Int) h16=>
 K e15 h16) h14) h12))) h2))
noncomputable def Cd:Ann:=.nil
theorem BN(x0:ByteArray×ByteArray×Int)(x1:ByteArray×ByteArray×Int)(y0:Addr){K:cJ [.c (.int .i64)]→ae→Prop}{h0:ae}(h:tK x0 x1 y0 K h0):HC PG pC [.agg #[.string x0.1,.string x0.2.1,.int .u64 x0.2.2],.agg #[.string x1.1,.string x1.2.1,.int .u64 x1.2.2],.pointer (some y0)] [.c (.int .i64)] K h0:=HC.intro (an:=Cd) (c:=Tryz.f185.body.getD .skip) Tryz.mixed Tryz.func185 rfl Tryz.call185 (ad rfl) (dF (by kernel_rfl) h)
def qE(x0:Int)(x1:Int)(K:(Int)→ae→Prop)(h0:ae):Prop:=
 HC PG l8 [.int .i64 x0] [.c .bool] (fun(e1:Bool) h2=>
 HC PG l8 [.int .i64 x1] [.c .bool] (fun(e3:Bool) h4=>
 CondP e1 (
 CondP e3 (
 K 0 h4) (
 K (-1) h4)) (
 CondP e3 (
 K 1 h4) (
 CondP (decide (x0<x1)) (
 K (-1) h4) (
 CondP (decide (x0>x1)) (
 K 1 h4) (
 K 0 h4))))) h2) h0
noncomputable def xP:Ann:=.nil
theorem xe(x0:Int)(x1:Int){K:cJ [.c (.int .i64)]→ae→Prop}{h0:ae}(h:qE x0 x1 K h0):HC PG mX [.int .i64 x0,.int .i64 x1] [.c (.int .i64)] K h0:=HC.intro (an:=xP) (c:=Tryz.f186.body.getD .skip) Tryz.mixed Tryz.func186 rfl Tryz.call186 (ad rfl) (dF (by kernel_rfl) h)
def eQ(x0:SliceV)(x1:Value)(K:(Int)→ae→Prop)(h0:ae):Prop:=
 LoopP (fun I1 (t2:Int) h3=>
 CondP (decide (t2<(x0.len:Int))) (
 (cQ t2 x0.len∧∃a4,x0.a=some a4∧
 ∃v5,af h3 (adr a4 (t2.toNat*3)) 0 (.string v5)∧
 ∃v6,af h3 (adr a4 (t2.toNat*3)) 1 (.string v6)∧
 ∃v7,af h3 (adr a4 (t2.toNat*3)) 2 (.int .u64 v7)∧
 HV PG x1 [.agg #[.string v5,.string v6,.int .u64 v7]] [.c .bool] (fun(e8:Bool) h9=>
 CondP e8 (
 K t2 h9) (
 I1 (IntKind.wrap .i64 (t2+1)) h9)) h3)) (
 K (-1) h3)) 0 h0
noncomputable def iC:Ann:=.node .nil (.node (.node .nil (.loop [(8,.c (.int .i64))] .nil)) .nil)
theorem iA(x0:SliceV)(x1:Value){K:cJ [.c (.int .i64)]→ae→Prop}{h0:ae}(h:eQ x0 x1 K h0):HC PG cB [.slice x0.a x0.len x0.cap,x1] [.c (.int .i64)] K h0:=HC.intro (an:=iC) (c:=Tryz.f187.body.getD .skip) Tryz.mixed Tryz.func187 rfl Tryz.call187 (ad rfl) (dF (by kernel_rfl) h)
def tJ(x0:ByteArray×ByteArray×Int)(y0:Addr)(y1:Addr)(K:(Bool)→ae→Prop)(h0:ae):Prop:=
 At (hnew h0 [.string x0.1,.string x0.2.1,.int .u64 x0.2.2] aH) (fun h1=>
 ∃v2,aE h1 y0=some (v2)∧
 ∃v3,af h1 (ag h0) 0 (.string v3)∧
 ∃v4,af h1 (ag h0) 1 (.string v4)∧
 ∃v5,af h1 (ag h0) 2 (.int .u64 v5)∧
 ∃v6,aE h1 y1=some (.int .i64 v6)∧
 HV PG v2 [.agg #[.string v3,.string v4,.int .u64 v5]] [.c (.int .i64)] (fun(e7:Int) h8=>
 (aE h8 y1=some (.int .i64 v6)∧
 K (e7 !=v6) h8)) h1)
noncomputable def Cc:Ann:=.nil
theorem BM(x0:ByteArray×ByteArray×Int)(y0:Addr)(y1:Addr){K:cJ [.c .bool]→ae→Prop}{h0:ae}(h:tJ x0 y0 y1 K h0):HC PG pz [.agg #[.string x0.1,.string x0.2.1,.int .u64 x0.2.2],.pointer (some y0),.pointer (some y1)] [.c .bool] K h0:=HC.intro (an:=Cc) (c:=Tryz.f188.body.getD .skip) Tryz.mixed Tryz.func188 rfl Tryz.call188 (ad rfl) (dF (by kernel_rfl) h)
def pe(x0:Option Addr)(x1:Option Addr)(x2:Int)(x3:ByteArray×ByteArray)(K:(Option Addr)→ae→Prop)(h0:ae):Prop:=
 At (hnew h0 [.string x3.1,.string x3.2] aj) (fun h1=>
 HC PG ip [.pointer x0,.int .i64 x2] [.c .bool] (fun(e2:Bool) h3=>
 CondP (!e2) (
 K x0 h3) (
 HC PG fD [.pointer x0,.pointer x1] [.c .ptr] (fun(e4:Option Addr) h5=>
 ∃a6,e4=some a6∧
 ∃v7,af h5 (adr a6 0) 0 (.int .u32 v7)∧
 HC PG ff [.int .u32 v7,.int .i64 x2] [.c .bool] (fun(e8:Bool) h9=>
 CondP e8 (
 ∃a10,e4=some a10∧
 ∃v11:SliceV,af h9 (adr a10 0) 2 (.slice v11.a v11.len v11.cap)∧
 ∃a12,e4=some a12∧
 ∃v13,af h9 (adr a12 0) 0 (.int .u32 v13)∧
 ∃v14,af h9 (ag h0) 0 (.string v14)∧
 ∃v15,af h9 (ag h0) 1 (.string v15)∧
 HC PG cT [.int .u32 v13,.int .i64 x2] [.c (.int .i64)] (fun(e16:Int) h17=>
 ((af h17 (ag h0) 0 (.string v14)∧af h17 (ag h0) 1 (.string v15))∧
 (af h17 (adr a10 0) 2 (.slice v11.a v11.len v11.cap)∧
 (cQ e16 v11.len∧∃a18,v11.a=some a18∧
 (fV h17 (some (adr a18 (e16.toNat*2))) 0 [.string v14,.string v15]∧
 At (bP h17 (adr a18 (e16.toNat*2)) 0 [.string v14,.string v15]) (fun h19=>
 K e4 h19)))))) h9) (
 ∃a20,e4=some a20∧
 HC PG im [.pointer (some (adr a20 0)),.int .i64 x2] [] (fun(e21:Unit) h22=>
 ∃a23,e4=some a23∧
 ∃v24:SliceV,af h22 (adr a23 0) 2 (.slice v24.a v24.len v24.cap)∧
 ∃a25,e4=some a25∧
 ∃v26,af h22 (adr a25 0) 0 (.int .u32 v26)∧
 ∃v27,af h22 (ag h0) 0 (.string v27)∧
 ∃v28,af h22 (ag h0) 1 (.string v28)∧
 ((HC PG cT [.int .u32 v26,.int .i64 x2] [.c (.int .i64)] (fun(e29:Int) h30=>
 ((af h30 (ag h0) 0 (.string v27)∧af h30 (ag h0) 1 (.string v28))∧
 (af h30 (adr a23 0) 2 (.slice v24.a v24.len v24.cap)∧
 At (hnew h30 [.string v27,.string v28] aj) (fun h31=>
 (af h31 (adr a23 0) 2 (.slice v24.a v24.len v24.cap)∧
 HC PG cE [.slice v24.a v24.len v24.cap,.int .i64 e29,.slice (some (ag h30)) 1 1] [.c .slice] (fun(e32:SliceV) h33=>
 ∃a34,e4=some a34∧
 (Wr h33 (adr (adr a34 0) 2)∧
 At (hset h33 (adr (adr a34 0) 2) (.slice e32.a e32.len e32.cap)) (fun h35=>
 ∃a36,e4=some a36∧
 ∃v37,af h35 (adr a36 0) 0 (.int .u32 v37)∧
 HC PG eI [.int .u32 v37,.int .i64 x2] [.c (.int .u32)] (fun(e38:Int) h39=>
 ∃a40,e4=some a40∧
 (Wr h39 (adr (adr a40 0) 0)∧
 At (hset h39 (adr (adr a40 0) 0) (.int .u32 e38)) (fun h41=>
 K e4 h41))) h35))) h31))))) h22)∧
 At (hnew h22 [.string v27,.string v28] aj) (fun h42=>
 (af h42 (adr a25 0) 0 (.int .u32 v26)∧
 (af h42 (adr a23 0) 2 (.slice v24.a v24.len v24.cap)∧
 HC PG cT [.int .u32 v26,.int .i64 x2] [.c (.int .i64)] (fun(e43:Int) h44=>
 (af h44 (adr a23 0) 2 (.slice v24.a v24.len v24.cap)∧
 HC PG cE [.slice v24.a v24.len v24.cap,.int .i64 e43,.slice (some (ag h22)) 1 1] [.c .slice] (fun(e45:SliceV) h46=>
 ∃a47,e4=some a47∧
 (Wr h46 (adr (adr a47 0) 2)∧
 At (hset h46 (adr (adr a47 0) 2) (.slice e45.a e45.len e45.cap)) (fun h48=>
 ∃a49,e4=some a49∧
 ∃v50,af h48 (adr a49 0) 0 (.int .u32 v50)∧
 HC PG eI [.int .u32 v50,.int .i64 x2] [.c (.int .u32)] (fun(e51:Int) h52=>
 ∃a53,e4=some a53∧
 (Wr h52 (adr (adr a53 0) 0)∧
 At (hset h52 (adr (adr a53 0) 0) (.int .u32 e51)) (fun h54=>
 K e4 h54))) h48))) h44)) h42))))) h9)) h5) h3)) h1)
noncomputable def uv:Ann:=.nil
theorem um(x0:Option Addr)(x1:Option Addr)(x2:Int)(x3:ByteArray×ByteArray){K:cJ [.c .ptr]→ae→Prop}{h0:ae}(h:pe x0 x1 x2 x3 K h0):HC PG dx [.pointer x0,.pointer x1,.int .i64 x2,.agg #[.string x3.1,.string x3.2]] [.c .ptr] K h0:=HC.intro (an:=uv) (c:=Tryz.f189.body.getD .skip) Tryz.mixed Tryz.func189 rfl Tryz.call189 (ad rfl) (dF (by kernel_rfl) h)
def pU(x0:Option Addr)(x1:Option Addr)(x2:Int)(x3:Option Addr)(K:(Option Addr)→ae→Prop)(h0:ae):Prop:=
 CondP x3.isNone (
 HC PG j5 [.pointer x0,.pointer x1,.int .i64 x2] [.c .ptr] (fun(e1:Option Addr) h2=>
 K e1 h2) h0) (
 HC PG ip [.pointer x0,.int .i64 x2] [.c .bool] (fun(e3:Bool) h4=>
 CondP (!e3) (
 K x0 h4) (
 HC PG fD [.pointer x0,.pointer x1] [.c .ptr] (fun(e5:Option Addr) h6=>
 ∃a7,e5=some a7∧
 ∃v8,af h6 (adr a7 0) 1 (.int .u32 v8)∧
 HC PG ff [.int .u32 v8,.int .i64 x2] [.c .bool] (fun(e9:Bool) h10=>
 CondP e9 (
 ∃a11,e5=some a11∧
 ∃v12:SliceV,af h10 (adr a11 0) 3 (.slice v12.a v12.len v12.cap)∧
 ∃a13,e5=some a13∧
 ∃v14,af h10 (adr a13 0) 1 (.int .u32 v14)∧
 HC PG cT [.int .u32 v14,.int .i64 x2] [.c (.int .i64)] (fun(e15:Int) h16=>
 (af h16 (adr a11 0) 3 (.slice v12.a v12.len v12.cap)∧
 (cQ e15 v12.len∧∃a17,v12.a=some a17∧
 (Wr h16 (adr a17 (e15.toNat*1))∧
 At (hset h16 (adr a17 (e15.toNat*1)) (.pointer x3)) (fun h18=>
 K e5 h18))))) h10) (
 ∃a19,e5=some a19∧
 HC PG im [.pointer (some (adr a19 0)),.int .i64 x2] [] (fun(e20:Unit) h21=>
 ∃a22,e5=some a22∧
 ∃v23:SliceV,af h21 (adr a22 0) 3 (.slice v23.a v23.len v23.cap)∧
 ∃a24,e5=some a24∧
 ∃v25,af h21 (adr a24 0) 1 (.int .u32 v25)∧
 ((HC PG cT [.int .u32 v25,.int .i64 x2] [.c (.int .i64)] (fun(e26:Int) h27=>
 (af h27 (adr a22 0) 3 (.slice v23.a v23.len v23.cap)∧
 At (hnew h27 [.pointer x3] bw) (fun h28=>
 (af h28 (adr a22 0) 3 (.slice v23.a v23.len v23.cap)∧
 HC PG cj [.slice v23.a v23.len v23.cap,.int .i64 e26,.slice (some (ag h27)) 1 1] [.c .slice] (fun(e29:SliceV) h30=>
 ∃a31,e5=some a31∧
 (Wr h30 (adr (adr a31 0) 3)∧
 At (hset h30 (adr (adr a31 0) 3) (.slice e29.a e29.len e29.cap)) (fun h32=>
 ∃a33,e5=some a33∧
 ∃v34,af h32 (adr a33 0) 1 (.int .u32 v34)∧
 HC PG eI [.int .u32 v34,.int .i64 x2] [.c (.int .u32)] (fun(e35:Int) h36=>
 ∃a37,e5=some a37∧
 (Wr h36 (adr (adr a37 0) 1)∧
 At (hset h36 (adr (adr a37 0) 1) (.int .u32 e35)) (fun h38=>
 K e5 h38))) h32))) h28)))) h21)∧
 At (hnew h21 [.pointer x3] bw) (fun h39=>
 (af h39 (adr a24 0) 1 (.int .u32 v25)∧
 (af h39 (adr a22 0) 3 (.slice v23.a v23.len v23.cap)∧
 HC PG cT [.int .u32 v25,.int .i64 x2] [.c (.int .i64)] (fun(e40:Int) h41=>
 (af h41 (adr a22 0) 3 (.slice v23.a v23.len v23.cap)∧
 HC PG cj [.slice v23.a v23.len v23.cap,.int .i64 e40,.slice (some (ag h21)) 1 1] [.c .slice] (fun(e42:SliceV) h43=>
 ∃a44,e5=some a44∧
 (Wr h43 (adr (adr a44 0) 3)∧
 At (hset h43 (adr (adr a44 0) 3) (.slice e42.a e42.len e42.cap)) (fun h45=>
 ∃a46,e5=some a46∧
 ∃v47,af h45 (adr a46 0) 1 (.int .u32 v47)∧
 HC PG eI [.int .u32 v47,.int .i64 x2] [.c (.int .u32)] (fun(e48:Int) h49=>
 ∃a50,e5=some a50∧
 (Wr h49 (adr (adr a50 0) 1)∧
 At (hset h49 (adr (adr a50 0) 1) (.int .u32 e48)) (fun h51=>
 K e5 h51))) h45))) h41)) h39))))) h10)) h6) h4)) h0)
noncomputable def vU:Ann:=.nil
theorem vI(x0:Option Addr)(x1:Option Addr)(x2:Int)(x3:Option Addr){K:cJ [.c .ptr]→ae→Prop}{h0:ae}(h:pU x0 x1 x2 x3 K h0):HC PG ee [.pointer x0,.pointer x1,.int .i64 x2,.pointer x3] [.c .ptr] K h0:=HC.intro (an:=vU) (c:=Tryz.f190.body.getD .skip) Tryz.mixed Tryz.func190 rfl Tryz.call190 (ad rfl) (dF (by kernel_rfl) h)
def fw(x0:SliceV)(K:(SliceV)→ae→Prop)(h0:ae):Prop:=
 CondP x0.a.isNone (
 K ⟨none,0,0⟩ h0) (
 At (hnew h0 [] aK) (fun h1=>
 ∃xs2,SRow h1 x0.a (x0.len*1) xs2∧
 AppP (some [.pointer none]) 1 8 aK (some (ag h0)) 0 0 x0.len xs2 h1 (fun s3 h4=>
 K s3 h4)))
noncomputable def jy:Ann:=.nil
theorem ju(x0:SliceV){K:cJ [.c .slice]→ae→Prop}{h0:ae}(h:fw x0 K h0):HC PG cL [.slice x0.a x0.len x0.cap] [.c .slice] K h0:=HC.intro (an:=jy) (c:=Tryz.f191.body.getD .skip) Tryz.mixed Tryz.func191 rfl Tryz.call191 (ad rfl) (dF (by kernel_rfl) h)
def fL(x0:SliceV)(K:(SliceV)→ae→Prop)(h0:ae):Prop:=
 CondP x0.a.isNone (
 K ⟨none,0,0⟩ h0) (
 At (hnew h0 [] bw) (fun h1=>
 ∃xs2,SRow h1 x0.a (x0.len*1) xs2∧
 AppP (some [.pointer none]) 1 8 bw (some (ag h0)) 0 0 x0.len xs2 h1 (fun s3 h4=>
 K s3 h4)))
noncomputable def jW:Ann:=.nil
theorem jR(x0:SliceV){K:cJ [.c .slice]→ae→Prop}{h0:ae}(h:fL x0 K h0):HC PG cU [.slice x0.a x0.len x0.cap] [.c .slice] K h0:=HC.intro (an:=jW) (c:=Tryz.f192.body.getD .skip) Tryz.mixed Tryz.func192 rfl Tryz.call192 (ad rfl) (dF (by kernel_rfl) h)
end Go.Proofs
