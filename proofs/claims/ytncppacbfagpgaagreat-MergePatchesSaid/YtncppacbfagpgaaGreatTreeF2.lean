/- A part of the proof that the named laws of this program answer true, whatever the input. -/
import Derived.Test.YtncppacbfagpgaaGreatTreeF
set_option maxRecDepth 100000
set_option linter.unusedVariables false
open Array renaming size→pC,setIfInBounds→oz
open BitVec renaming ofInt→ar
open Int renaming fdiv→dT
open Nat renaming min→dZ
namespace Go.Proofs
open Go.Lift
def iU(x0:SliceV)(x1:Int)(x2:Int)(x3:Int)(x4:Value)(K:(Int×Bool)→ad→Prop)(h0:ad):Prop:=
 (cj x3 x0.len∧∃a1,x0.a=some a1∧
 ∃v2,aD h0 (adr a1 (x3.toNat*5)) 0 v2∧
 ∃v3,aD h0 (adr a1 (x3.toNat*5)) 1 v3∧
 ∃v4,aD h0 (adr a1 (x3.toNat*5)) 2 v4∧
 ∃v5,bI h0 (adr a1 (x3.toNat*5)) 3 v5∧
 ∃v6,bI h0 (adr a1 (x3.toNat*5)) 4 v6∧
 (cj x1 x0.len∧∃a7,x0.a=some a7∧
 ∃v8,aD h0 (adr a7 (x1.toNat*5)) 0 v8∧
 ∃v9,aD h0 (adr a7 (x1.toNat*5)) 1 v9∧
 ∃v10,aD h0 (adr a7 (x1.toNat*5)) 2 v10∧
 ∃v11,bI h0 (adr a7 (x1.toNat*5)) 3 v11∧
 ∃v12,bI h0 (adr a7 (x1.toNat*5)) 4 v12∧
 (cj x1 x0.len∧∃a13,x0.a=some a13∧
 (fC h0 (adr a13 (x1.toNat*5)) (jJ v2 v3 v4 v5 v6) (fun h14=>
 (cj x3 x0.len∧∃a15,x0.a=some a15∧
 (fC h14 (adr a15 (x3.toNat*5)) (jJ v8 v9 v10 v11 v12) (fun h16=>
 LoopP (fun I17 (t18:Int) h19=>
 Join (fun(t35:Bool) h36=>
 CondP t35 (
 I17 (IntKind.wrap .i64 (t18+1)) h36) (
 LoopP (fun I37 (t38:Int) h39=>
 Join (fun(t55:Bool) h56=>
 CondP t55 (
 I37 (IntKind.wrap .i64 (t38-1)) h56) (
 CondP (decide (t18>t38)) (
 (cj x1 x0.len∧∃a57,x0.a=some a57∧
 ∃v58,aD h56 (adr a57 (x1.toNat*5)) 0 v58∧
 ∃v59,aD h56 (adr a57 (x1.toNat*5)) 1 v59∧
 ∃v60,aD h56 (adr a57 (x1.toNat*5)) 2 v60∧
 ∃v61,bI h56 (adr a57 (x1.toNat*5)) 3 v61∧
 ∃v62,bI h56 (adr a57 (x1.toNat*5)) 4 v62∧
 (cj t38 x0.len∧∃a63,x0.a=some a63∧
 ∃v64,aD h56 (adr a63 (t38.toNat*5)) 0 v64∧
 ∃v65,aD h56 (adr a63 (t38.toNat*5)) 1 v65∧
 ∃v66,aD h56 (adr a63 (t38.toNat*5)) 2 v66∧
 ∃v67,bI h56 (adr a63 (t38.toNat*5)) 3 v67∧
 ∃v68,bI h56 (adr a63 (t38.toNat*5)) 4 v68∧
 (cj t38 x0.len∧∃a69,x0.a=some a69∧
 (fC h56 (adr a69 (t38.toNat*5)) (jJ v58 v59 v60 v61 v62) (fun h70=>
 (cj x1 x0.len∧∃a71,x0.a=some a71∧
 (fC h70 (adr a71 (x1.toNat*5)) (jJ v64 v65 v66 v67 v68) (fun h72=>
 K (t38,true) h72))))))))) (
 (cj t38 x0.len∧∃a73,x0.a=some a73∧
 ∃v74,aD h56 (adr a73 (t38.toNat*5)) 0 v74∧
 ∃v75,aD h56 (adr a73 (t38.toNat*5)) 1 v75∧
 ∃v76,aD h56 (adr a73 (t38.toNat*5)) 2 v76∧
 ∃v77,bI h56 (adr a73 (t38.toNat*5)) 3 v77∧
 ∃v78,bI h56 (adr a73 (t38.toNat*5)) 4 v78∧
 (cj t18 x0.len∧∃a79,x0.a=some a79∧
 ∃v80,aD h56 (adr a79 (t18.toNat*5)) 0 v80∧
 ∃v81,aD h56 (adr a79 (t18.toNat*5)) 1 v81∧
 ∃v82,aD h56 (adr a79 (t18.toNat*5)) 2 v82∧
 ∃v83,bI h56 (adr a79 (t18.toNat*5)) 3 v83∧
 ∃v84,bI h56 (adr a79 (t18.toNat*5)) 4 v84∧
 (cj t18 x0.len∧∃a85,x0.a=some a85∧
 (fC h56 (adr a85 (t18.toNat*5)) (jJ v74 v75 v76 v77 v78) (fun h86=>
 (cj t38 x0.len∧∃a87,x0.a=some a87∧
 (fC h86 (adr a87 (t38.toNat*5)) (jJ v80 v81 v82 v83 v84) (fun h88=>
 LoopP (fun I89 (t90:Int×Int) h91=>
 LoopP (fun I92 (t93:Int) h94=>
 Join (fun(t110:Bool) h111=>
 CondP t110 (
 I92 (IntKind.wrap .i64 (t93+1)) h111) (
 LoopP (fun I112 (t113:Int) h114=>
 Join (fun(t130:Bool) h131=>
 CondP t130 (
 I112 (IntKind.wrap .i64 (t113-1)) h131) (
 CondP (decide (t93>t113)) (
 (cj x1 x0.len∧∃a132,x0.a=some a132∧
 ∃v133,aD h131 (adr a132 (x1.toNat*5)) 0 v133∧
 ∃v134,aD h131 (adr a132 (x1.toNat*5)) 1 v134∧
 ∃v135,aD h131 (adr a132 (x1.toNat*5)) 2 v135∧
 ∃v136,bI h131 (adr a132 (x1.toNat*5)) 3 v136∧
 ∃v137,bI h131 (adr a132 (x1.toNat*5)) 4 v137∧
 (cj t113 x0.len∧∃a138,x0.a=some a138∧
 ∃v139,aD h131 (adr a138 (t113.toNat*5)) 0 v139∧
 ∃v140,aD h131 (adr a138 (t113.toNat*5)) 1 v140∧
 ∃v141,aD h131 (adr a138 (t113.toNat*5)) 2 v141∧
 ∃v142,bI h131 (adr a138 (t113.toNat*5)) 3 v142∧
 ∃v143,bI h131 (adr a138 (t113.toNat*5)) 4 v143∧
 (cj t113 x0.len∧∃a144,x0.a=some a144∧
 (fC h131 (adr a144 (t113.toNat*5)) (jJ v133 v134 v135 v136 v137) (fun h145=>
 (cj x1 x0.len∧∃a146,x0.a=some a146∧
 (fC h145 (adr a146 (x1.toNat*5)) (jJ v139 v140 v141 v142 v143) (fun h147=>
 K (t113,false) h147))))))))) (
 (cj t113 x0.len∧∃a148,x0.a=some a148∧
 ∃v149,aD h131 (adr a148 (t113.toNat*5)) 0 v149∧
 ∃v150,aD h131 (adr a148 (t113.toNat*5)) 1 v150∧
 ∃v151,aD h131 (adr a148 (t113.toNat*5)) 2 v151∧
 ∃v152,bI h131 (adr a148 (t113.toNat*5)) 3 v152∧
 ∃v153,bI h131 (adr a148 (t113.toNat*5)) 4 v153∧
 (cj t93 x0.len∧∃a154,x0.a=some a154∧
 ∃v155,aD h131 (adr a154 (t93.toNat*5)) 0 v155∧
 ∃v156,aD h131 (adr a154 (t93.toNat*5)) 1 v156∧
 ∃v157,aD h131 (adr a154 (t93.toNat*5)) 2 v157∧
 ∃v158,bI h131 (adr a154 (t93.toNat*5)) 3 v158∧
 ∃v159,bI h131 (adr a154 (t93.toNat*5)) 4 v159∧
 (cj t93 x0.len∧∃a160,x0.a=some a160∧
 (fC h131 (adr a160 (t93.toNat*5)) (jJ v149 v150 v151 v152 v153) (fun h161=>
 (cj t113 x0.len∧∃a162,x0.a=some a162∧
 (fC h161 (adr a162 (t113.toNat*5)) (jJ v155 v156 v157 v158 v159) (fun h163=>
 I89 (IntKind.wrap .i64 (t93+1),IntKind.wrap .i64 (t113-1)) h163))))))))))) (fun J115=>
 CondP (decide (t93≤t113)) (
 (cj t113 x0.len∧∃a116,x0.a=some a116∧
 ∃v117,aD h114 (adr a116 (t113.toNat*5)) 0 v117∧
 ∃v118,aD h114 (adr a116 (t113.toNat*5)) 1 v118∧
 ∃v119,aD h114 (adr a116 (t113.toNat*5)) 2 v119∧
 ∃v120,bI h114 (adr a116 (t113.toNat*5)) 3 v120∧
 ∃v121,bI h114 (adr a116 (t113.toNat*5)) 4 v121∧
 (cj x1 x0.len∧∃a122,x0.a=some a122∧
 ∃v123,aD h114 (adr a122 (x1.toNat*5)) 0 v123∧
 ∃v124,aD h114 (adr a122 (x1.toNat*5)) 1 v124∧
 ∃v125,aD h114 (adr a122 (x1.toNat*5)) 2 v125∧
 ∃v126,bI h114 (adr a122 (x1.toNat*5)) 3 v126∧
 ∃v127,bI h114 (adr a122 (x1.toNat*5)) 4 v127∧
 HV PG x4 [ma v117 v118 v119 v120 v121,ma v123 v124 v125 v126 v127] bX (fun(e128:Int) h129=>
 J115 (!(decide (e128<(0:Int)))) h129) h114))) (
 J115 false h114))) t90.2 h111)) (fun J95=>
 CondP (decide (t93≤t90.2)) (
 (cj t93 x0.len∧∃a96,x0.a=some a96∧
 ∃v97,aD h94 (adr a96 (t93.toNat*5)) 0 v97∧
 ∃v98,aD h94 (adr a96 (t93.toNat*5)) 1 v98∧
 ∃v99,aD h94 (adr a96 (t93.toNat*5)) 2 v99∧
 ∃v100,bI h94 (adr a96 (t93.toNat*5)) 3 v100∧
 ∃v101,bI h94 (adr a96 (t93.toNat*5)) 4 v101∧
 (cj x1 x0.len∧∃a102,x0.a=some a102∧
 ∃v103,aD h94 (adr a102 (x1.toNat*5)) 0 v103∧
 ∃v104,aD h94 (adr a102 (x1.toNat*5)) 1 v104∧
 ∃v105,aD h94 (adr a102 (x1.toNat*5)) 2 v105∧
 ∃v106,bI h94 (adr a102 (x1.toNat*5)) 3 v106∧
 ∃v107,bI h94 (adr a102 (x1.toNat*5)) 4 v107∧
 HV PG x4 [ma v97 v98 v99 v100 v101,ma v103 v104 v105 v106 v107] bX (fun(e108:Int) h109=>
 J95 (decide (e108<(0:Int))) h109) h94))) (
 J95 false h94))) t90.1 h91) (IntKind.wrap .i64 (t18+1),IntKind.wrap .i64 (t38-1)) h88))))))))))) (fun J40=>
 CondP (decide (t18≤t38)) (
 (cj t38 x0.len∧∃a41,x0.a=some a41∧
 ∃v42,aD h39 (adr a41 (t38.toNat*5)) 0 v42∧
 ∃v43,aD h39 (adr a41 (t38.toNat*5)) 1 v43∧
 ∃v44,aD h39 (adr a41 (t38.toNat*5)) 2 v44∧
 ∃v45,bI h39 (adr a41 (t38.toNat*5)) 3 v45∧
 ∃v46,bI h39 (adr a41 (t38.toNat*5)) 4 v46∧
 (cj x1 x0.len∧∃a47,x0.a=some a47∧
 ∃v48,aD h39 (adr a47 (x1.toNat*5)) 0 v48∧
 ∃v49,aD h39 (adr a47 (x1.toNat*5)) 1 v49∧
 ∃v50,aD h39 (adr a47 (x1.toNat*5)) 2 v50∧
 ∃v51,bI h39 (adr a47 (x1.toNat*5)) 3 v51∧
 ∃v52,bI h39 (adr a47 (x1.toNat*5)) 4 v52∧
 HV PG x4 [ma v42 v43 v44 v45 v46,ma v48 v49 v50 v51 v52] bX (fun(e53:Int) h54=>
 J40 (!(decide (e53<(0:Int)))) h54) h39))) (
 J40 false h39))) (IntKind.wrap .i64 (x2-1)) h36)) (fun J20=>
 CondP (decide (t18≤(IntKind.wrap .i64 (x2-1)))) (
 (cj t18 x0.len∧∃a21,x0.a=some a21∧
 ∃v22,aD h19 (adr a21 (t18.toNat*5)) 0 v22∧
 ∃v23,aD h19 (adr a21 (t18.toNat*5)) 1 v23∧
 ∃v24,aD h19 (adr a21 (t18.toNat*5)) 2 v24∧
 ∃v25,bI h19 (adr a21 (t18.toNat*5)) 3 v25∧
 ∃v26,bI h19 (adr a21 (t18.toNat*5)) 4 v26∧
 (cj x1 x0.len∧∃a27,x0.a=some a27∧
 ∃v28,aD h19 (adr a27 (x1.toNat*5)) 0 v28∧
 ∃v29,aD h19 (adr a27 (x1.toNat*5)) 1 v29∧
 ∃v30,aD h19 (adr a27 (x1.toNat*5)) 2 v30∧
 ∃v31,bI h19 (adr a27 (x1.toNat*5)) 3 v31∧
 ∃v32,bI h19 (adr a27 (x1.toNat*5)) 4 v32∧
 HV PG x4 [ma v22 v23 v24 v25 v26,ma v28 v29 v30 v31 v32] bX (fun(e33:Int) h34=>
 J20 (decide (e33<(0:Int))) h34) h19))) (
 J20 false h19))) (IntKind.wrap .i64 (x1+1)) h16))))))))
noncomputable def nP:Ann:=.node .nil (.node .nil (.node .nil (.node (.loop [(12,.c (.int .i64))] (.node (.join [(47,.c .bool)] .nil .nil) .nil)) (.node (.loop [(13,.c (.int .i64))] (.node (.join [(66,.c .bool)] .nil .nil) .nil)) (.node .nil (.node .nil (.node .nil (.node .nil (.node (.loop [(12,.c (.int .i64)),(13,.c (.int .i64))] (.node (.loop [(12,.c (.int .i64))] (.node (.join [(120,.c .bool)] .nil .nil) .nil)) (.node (.loop [(13,.c (.int .i64))] (.node (.join [(139,.c .bool)] .nil .nil) .nil)) .nil))) .nil)))))))))
theorem nK(x0:SliceV)(x1:Int)(x2:Int)(x3:Int)(x4:Value){K:cQ ja→ad→Prop}{h0:ad}(h:iU x0 x1 x2 x3 x4 K h0):HC PG fu [.slice x0.a x0.len x0.cap,.int .i64 x1,.int .i64 x2,.int .i64 x3,x4] ja K h0:=dG nP Tryz.func127 Tryz.call127 rfl rfl (by kernel_rfl) h
def uM(x0:Int)(K:(Int)→ad→Prop)(h0:ad):Prop:=
 Join (fun(t2:Int×Int) h3=>
 Join (fun(t5:Int×Int) h6=>
 Join (fun(t8:Int×Int) h9=>
 ∃b10,(0:Int)≤(IntKind.wrap .u8 t8.1)∧(⟨#[0,1,2,2,3,3,3,3,4,4,4,4,4,4,4,4,5,5,5,5,5,5,5,5,5,5,5,5,5,5,5,5,6,6,6,6,6,6,6,6,6,6,6,6,6,6,6,6,6,6,6,6,6,6,6,6,6,6,6,6,6,6,6,6,7,7,7,7,7,7,7,7,7,7,7,7,7,7,7,7,7,7,7,7,7,7,7,7,7,7,7,7,7,7,7,7,7,7,7,7,7,7,7,7,7,7,7,7,7,7,7,7,7,7,7,7,7,7,7,7,7,7,7,7,7,7,7,7,8,8,8,8,8,8,8,8,8,8,8,8,8,8,8,8,8,8,8,8,8,8,8,8,8,8,8,8,8,8,8,8,8,8,8,8,8,8,8,8,8,8,8,8,8,8,8,8,8,8,8,8,8,8,8,8,8,8,8,8,8,8,8,8,8,8,8,8,8,8,8,8,8,8,8,8,8,8,8,8,8,8,8,8,8,8,8,8,8,8,8,8,8,8,8,8,8,8,8,8,8,8,8,8,8,8,8,8,8,8,8,8,8,8,8,8,8,8,8,8,8,8,8,8,8,8,8,8]⟩:ByteArray)[(IntKind.wrap .u8 t8.1).toNat]? =some b10∧
 K (IntKind.wrap .i64 (t8.2+(IntKind.wrap .i64 (b10.toNat:Int)))) h9) (fun J7=>
 CondP (decide (t5.1≥(256:Int))) (
 ((0:Int)≤(8:Int)∧
 J7 (dT t5.1 (2^(min (8:Int).toNat (IntKind.bits .u64))),IntKind.wrap .i64 (t5.2+8)) h6)) (
 J7 (t5.1,t5.2) h6))) (fun J4=>
 CondP (decide (t2.1≥(65536:Int))) (
 ((0:Int)≤(16:Int)∧
 J4 (dT t2.1 (2^(min (16:Int).toNat (IntKind.bits .u64))),IntKind.wrap .i64 (t2.2+16)) h3)) (
 J4 (t2.1,t2.2) h3))) (fun J1=>
 CondP (decide (x0≥(4294967296:Int))) (
 ((0:Int)≤(32:Int)∧
 J1 (dT x0 (2^(min (32:Int).toNat (IntKind.bits .u64))),32) h0)) (
 J1 (x0,0) h0))
noncomputable def BO:Ann:=.node .nil (.join [(0,.c (.int .u64)),(2,.c (.int .i64))] .nil (.join [(0,.c (.int .u64)),(2,.c (.int .i64))] .nil (.join [(0,.c (.int .u64)),(2,.c (.int .i64))] .nil .nil)))
theorem Bs(x0:Int){K:cQ bX→ad→Prop}{h0:ad}(h:uM x0 K h0):HC PG qd [.int .u64 x0] bX K h0:=dG BO Tryz.func129 Tryz.call129 rfl rfl (by kernel_rfl) h
def sE(x0:Option Addr)(x1:SliceV)(K:(SliceV)→ad→Prop)(h0:ad):Prop:=
 ∃a1,x0=some a1∧
 ∃v2,aD h0 a1 0 v2∧
 HC PG nA (qJ x1 v2) [.c .slice] (fun(e3:SliceV) h4=>
 Join (fun(t20:SliceV) h21=>
 Join (fun(t32:SliceV) h33=>
 ∃a34,x0=some a34∧
 ∃v35:SliceV,cd h33 a34 3 v35∧
 LoopP (fun I36 (t37:SliceV×Int) h38=>
 CondP (decide (t37.2<(v35.len:Int))) (
 (cj t37.2 v35.len∧∃a39,v35.a=some a39∧
 ∃v40,ay h38 a39 (t37.2.toNat*1) (.pointer v40)∧
 HC PG kF (T8 v40 t37.1) [.c .slice] (fun(e41:SliceV) h42=>
 I36 (e41,IntKind.wrap .i64 (t37.2+1)) h42) h38)) (
 K t37.1 h38)) (t32,0) h33) (fun J22=>
 ∃a23,x0=some a23∧
 ∃v24:SliceV,cd h21 a23 3 v24∧
 ∃a25,x0=some a25∧
 ∃v26:SliceV,cd h21 a25 3 v26∧
 ((0:Int)≤(8:Int)∧
 Bd (dT (v26.len:Int) (2^(min (8:Int).toNat (IntKind.bits .i64))):Int) (fun n27=>
 At (hnew h21 (UX (IntKind.wrap .u8 (v24.len:Int)) (IntKind.wrap .u8 n27)) fq) (fun h28=>
 (cd h28 a25 3 v26∧
 (cd h28 a23 3 v24∧
 ∃xs29,SRow h28 (some (ag h21)) (2*1) xs29∧
 AppP (some [.int .u8 0]) 1 1 fq t20.a t20.len t20.cap 2 xs29 h28 (fun s30 h31=>
 (cd h31 a25 3 v26∧
 (cd h31 a23 3 v24∧
 J22 s30 h31)))))))))) (fun J5=>
 ∃a6,x0=some a6∧
 ∃v7,bI h4 a6 1 v7∧
 CondP v7 (
 ∃a8,x0=some a8∧
 ∃v9,aD h4 a8 2 v9∧
 At (hnew h4 [.int .u8 1] fq) (fun h10=>
 (aD h10 a8 2 v9∧
 ∃xs11,SRow h10 (some (ag h4)) (1*1) xs11∧
 AppP (some [.int .u8 0]) 1 1 fq e3.a e3.len e3.cap 1 xs11 h10 (fun s12 h13=>
 (aD h13 a8 2 v9∧
 HC PG nA (qJ s12 v9) [.c .slice] (fun(e14:SliceV) h15=>
 J5 e14 h15) h13))))) (
 At (hnew h4 [.int .u8 0] fq) (fun h16=>
 ∃xs17,SRow h16 (some (ag h4)) (1*1) xs17∧
 AppP (some [.int .u8 0]) 1 1 fq e3.a e3.len e3.cap 1 xs17 h16 (fun s18 h19=>
 J5 s18 h19))))) h0
noncomputable def yN:Ann:=.node .nil (.node .nil (.join [(1,.c .slice)] .nil (.join [(1,.c .slice)] .nil (.node (.node .nil (.loop [(1,.c .slice),(49,.c (.int .i64))] .nil)) .nil))))
theorem yJ(x0:Option Addr)(x1:SliceV){K:cQ [.c .slice]→ad→Prop}{h0:ad}(h:sE x0 x1 K h0):HC PG kF (T8 x0 x1) [.c .slice] K h0:=dG yN Tryz.func130 Tryz.call130 rfl rfl (by kernel_rfl) h
def yg(x0:SliceV)(x1:Option Addr)(x2:Int)(K:(SliceV)→ad→Prop)(h0:ad):Prop:=
 HC PG dL [.pointer x1] [.c .bool] (fun(e1:Bool) h2=>
 CondP e1 (
 At (hnew h2 [.int .u8 1] fq) (fun h3=>
 ∃xs4,SRow h3 (some (ag h2)) (1*1) xs4∧
 AppP (some [.int .u8 0]) 1 1 fq x0.a x0.len x0.cap 1 xs4 h3 (fun s5 h6=>
 HC PG lU [.pointer x1] bX (fun(e7:Int) h8=>
 HC PG na (O5 s5 (IntKind.wrap .u64 e7) 2) [.c .slice] (fun(e9:SliceV) h10=>
 HC PG eW [.pointer x1] [.c .slice] (fun(e11:SliceV) h12=>
 HC PG rt (Qv e9 e11) [.c .slice] (fun(e13:SliceV) h14=>
 K e13 h14) h12) h10) h8) h6))) (
 Join (fun(t28:SliceV) h29=>
 HC PG eW [.pointer x1] [.c .slice] (fun(e30:SliceV) h31=>
 HC PG rt (Qv t28 e30) [.c .slice] (fun(e32:SliceV) h33=>
 CondP (x2==(13:Int)) (
 K e32 h33) (
 HC PG nD [.pointer x1] [.c .slice] (fun(e34:SliceV) h35=>
 LoopP (fun I36 (t37:SliceV×Int) h38=>
 CondP (decide (t37.2<(e34.len:Int))) (
 (cj t37.2 e34.len∧∃a39,e34.a=some a39∧
 ∃v40,ay h38 a39 (t37.2.toNat*1) (.pointer v40)∧
 HC PG ui (Sx t37.1 v40 (IntKind.wrap .i64 (x2+1))) [.c .slice] (fun(e41:SliceV) h42=>
 I36 (e41,IntKind.wrap .i64 (t37.2+1)) h42) h38)) (
 K t37.1 h38)) (e32,0) h35) h33)) h31) h29) (fun J15=>
 At (hnew h2 [.int .u8 0] fq) (fun h16=>
 ∃xs17,SRow h16 (some (ag h2)) (1*1) xs17∧
 AppP (some [.int .u8 0]) 1 1 fq x0.a x0.len x0.cap 1 xs17 h16 (fun s18 h19=>
 HC PG nF [.pointer x1] kQ (fun(e20:Int) h21=>
 HC PG na (O5 s18 (IntKind.wrap .u64 e20) 4) [.c .slice] (fun(e22:SliceV) h23=>
 HC PG j7 [.pointer x1] kQ (fun(e24:Int) h25=>
 HC PG na (O5 e22 (IntKind.wrap .u64 e24) 4) [.c .slice] (fun(e26:SliceV) h27=>
 J15 e26 h27) h25) h23) h21) h19))))) h0
noncomputable def LI:Ann:=.node .nil (.node .nil (.join [(0,.c .slice)] .nil (.node .nil (.node .nil (.node (.node .nil (.loop [(0,.c .slice),(42,.c (.int .i64))] .nil)) .nil)))))
theorem DC(x0:SliceV)(x1:Option Addr)(x2:Int){K:cQ [.c .slice]→ad→Prop}{h0:ad}(h:yg x0 x1 x2 K h0):HC PG ui (Sx x0 x1 x2) [.c .slice] K h0:=dG LI Tryz.func131 Tryz.call131 rfl rfl (by kernel_rfl) h
def eg(x0:SliceV)(x1:Int)(x2:Value)(K:(Int×Bool)→ad→Prop)(h0:ad):Prop:=
 LoopP (fun I1 (t2:Int×Int) h3=>
 CondP (decide (t2.1<t2.2)) (
 ((0:Int)≤(1:Int)∧
 Bd (dT (IntKind.wrap .u64 (IntKind.wrap .i64 (t2.1+t2.2))) (2^(min (1:Int).toNat (IntKind.bits .u64))):Int) (fun n4=>
 (cj (IntKind.wrap .i64 n4) x0.len∧∃a5,x0.a=some a5∧
 ∃v6,ay h3 a5 ((IntKind.wrap .i64 n4).toNat*1) (.pointer v6)∧
 HV PG x2 (ED v6 x1) bX (fun(e7:Int) h8=>
 CondP (decide (e7<(0:Int))) (
 I1 (IntKind.wrap .i64 ((IntKind.wrap .i64 n4)+1),t2.2) h8) (
 I1 (t2.1,IntKind.wrap .i64 n4) h8)) h3)))) (
 CondP (decide (t2.1<(x0.len:Int))) (
 (cj t2.1 x0.len∧∃a9,x0.a=some a9∧
 ∃v10,ay h3 a9 (t2.1.toNat*1) (.pointer v10)∧
 HV PG x2 (ED v10 x1) bX (fun(e11:Int) h12=>
 K (t2.1,e11==(0:Int)) h12) h3)) (
 K (t2.1,false) h3))) (0,(x0.len:Int)) h0
noncomputable def iy:Ann:=.node .nil (.node .nil (.node .nil (.node (.loop [(9,.c (.int .i64)),(10,.c (.int .i64))] .nil) .nil)))
theorem ix(x0:SliceV)(x1:Int)(x2:Value){K:cQ ja→ad→Prop}{h0:ad}(h:eg x0 x1 x2 K h0):HC PG ed [.slice x0.a x0.len x0.cap,.int .u8 x1,x2] ja K h0:=dG iy Tryz.func132 Tryz.call132 rfl rfl (by kernel_rfl) h
def sF(x0:Option Addr)(x1:Int)(K:(Int)→ad→Prop)(h0:ad):Prop:=
 ∃a1,x0=some a1∧
 ∃v2,aD h0 a1 0 v2∧
 ∃b3,(0:Int)≤(0:Int)∧v2[(0:Int).toNat]? =some b3∧
 Bd (IntKind.wrap .i64 ((IntKind.wrap .i64 (b3.toNat:Int))-(IntKind.wrap .i64 x1)):Int) (fun n4=>
 K n4 h0)
theorem yK(x0:Option Addr)(x1:Int){K:cQ bX→ad→Prop}{h0:ad}(h:sF x0 x1 K h0):HC PG oe (ED x0 x1) bX K h0:=dG .nil Tryz.func133 Tryz.call133 rfl rfl (by kernel_rfl) h
def y5(x0:ByteArray)(x1:ByteArray)(K:(Bool)→ad→Prop)(h0:ad):Prop:=
 HC PG vy (jH x0 x1) [.c .bool] (fun(e1:Bool) h2=>
 K e1 h2) h0
theorem GH(x0:ByteArray)(x1:ByteArray){K:cQ [.c .bool]→ad→Prop}{h0:ad}(h:y5 x0 x1 K h0):HC PG uX (jH x0 x1) [.c .bool] K h0:=dG .nil Tryz.func134 Tryz.call134 rfl rfl (by kernel_rfl) h
def H0(x0:Int×Int)(x1:ByteArray)(K:(Int)→ad→Prop)(h0:ad):Prop:=
 At (hnew h0 (Vb x0) l8) (fun h1=>
 ∃v2,ae h1 h0 0 v2∧
 Bd (IntKind.wrap .u64 (ar (IntKind.bits .u64) v2^^^ar (IntKind.bits .u64) 8317987319222330741).toNat:Int) (fun n3=>
 ∃v4,ae h1 h0 1 v4∧
 Bd (IntKind.wrap .u64 (ar (IntKind.bits .u64) v4^^^ar (IntKind.bits .u64) 7237128888997146477).toNat:Int) (fun n5=>
 ∃v6,ae h1 h0 0 v6∧
 Bd (IntKind.wrap .u64 (ar (IntKind.bits .u64) v6^^^ar (IntKind.bits .u64) 7816392313619706465).toNat:Int) (fun n7=>
 ∃v8,ae h1 h0 1 v8∧
 Bd (IntKind.wrap .u64 (ar (IntKind.bits .u64) v8^^^ar (IntKind.bits .u64) 8387220255154660723).toNat:Int) (fun n9=>
 nv h1 UT jS (UW n3 n5 n7 n9) (fun h11=>
 LoopP (fun I12 (t13:ByteArray) h14=>
 CondP (decide ((t13.size:Int)≥(8:Int))) (
 (((0:Int)≤(8:Int)∧(8:Int)≤((t13.size:Nat):Int))∧
 HC PG wI [.string (t13.extract 0 ((8:Int).toNat))] gC (fun(e15:Int) h16=>
 HC PG nz (Sw (some (ag h1)) e15) [] (fun(e17:Unit) h18=>
 (((0:Int)≤(8:Int)∧(8:Int)≤((t13.size:Nat):Int))∧
 I12 (t13.extract ((8:Int).toNat) t13.size) h18)) h16) h14)) (
 HC PG wI [.string t13] gC (fun(e19:Int) h20=>
 ((0:Int)≤(56:Int)∧
 Bd (IntKind.wrap .u64 ((IntKind.wrap .u64 (x1.size:Int))*2^(min (56:Int).toNat (IntKind.bits .u64))):Int) (fun n21=>
 Bd (IntKind.wrap .u64 (ar (IntKind.bits .u64) e19|||ar (IntKind.bits .u64) n21).toNat:Int) (fun n22=>
 HC PG nz (Sw (some (ag h1)) n22) [] (fun(e23:Unit) h24=>
 (cj (2:Int) 4∧
 ∃v25,ay h24 (ag h1) ((2:Int).toNat*1) (.int .u64 v25)∧
 Bd (IntKind.wrap .u64 (ar (IntKind.bits .u64) v25^^^ar (IntKind.bits .u64) 255).toNat:Int) (fun n26=>
 (cj (2:Int) 4∧
 (dU h24 (adr (ag h1) ((2:Int).toNat*1)) (.int .u64 n26) (fun h27=>
 HC PG jz (ll (some (ag h1)) 4) [] (fun(e28:Unit) h29=>
 (cj 0 4∧
 ∃v30,ay h29 (ag h1) ((0:Int).toNat*1) (.int .u64 v30)∧
 (cj 1 4∧
 ∃v31,ay h29 (ag h1) ((1:Int).toNat*1) (.int .u64 v31)∧
 Bd (IntKind.wrap .u64 (ar (IntKind.bits .u64) v30^^^ar (IntKind.bits .u64) v31).toNat:Int) (fun n32=>
 (cj (2:Int) 4∧
 ∃v33,ay h29 (ag h1) ((2:Int).toNat*1) (.int .u64 v33)∧
 Bd (IntKind.wrap .u64 (ar (IntKind.bits .u64) n32^^^ar (IntKind.bits .u64) v33).toNat:Int) (fun n34=>
 (cj (3:Int) 4∧
 ∃v35,ay h29 (ag h1) ((3:Int).toNat*1) (.int .u64 v35)∧
 Bd (IntKind.wrap .u64 (ar (IntKind.bits .u64) n34^^^ar (IntKind.bits .u64) v35).toNat:Int) (fun n36=>
 K n36 h29)))))))) h27)))))) h20)))) h14)) x1 h11))))))
noncomputable def Qd:Ann:=.node .nil (.node .nil (.node .nil (.node (.loop [(1,.c .str)] .nil) .nil)))
theorem P6(x0:Int×Int)(x1:ByteArray){K:cQ gC→ad→Prop}{h0:ad}(h:H0 x0 x1 K h0):HC PG Co [VW x0,.string x1] gC K h0:=dG Qd Tryz.func135 Tryz.call135 rfl rfl (by kernel_rfl) h
def DL(x0:SliceV)(x1:ByteArray)(K:(Int×Bool)→ad→Prop)(h0:ad):Prop:=
 HC PG eY [.slice x0.a x0.len x0.cap,.string x1,.func (.func qa) #[] #[]] ja (fun(e1:Int×Bool) h2=>
 K (e1.1,e1.2) h2) h0
theorem Lw(x0:SliceV)(x1:ByteArray){K:cQ ja→ad→Prop}{h0:ad}(h:DL x0 x1 K h0):HC PG rM (qJ x0 x1) ja K h0:=dG .nil Tryz.func136 Tryz.call136 rfl rfl (by kernel_rfl) h
def vV(x0:Option Addr)(K:(Int)→ad→Prop)(h0:ad):Prop:=
 CondP x0.isNone (
 K 0 h0) (
 ∃a1,x0=some a1∧
 ∃v2,iR h0 (adr a1 0) 0 v2∧
 K v2 h0)
theorem CN(x0:Option Addr){K:cQ kQ→ad→Prop}{h0:ad}(h:vV x0 K h0):HC PG nF [.pointer x0] kQ K h0:=dG .nil Tryz.func137 Tryz.call137 rfl rfl (by kernel_rfl) h
def nh(x0:Value)(K:(SliceV)→ad→Prop)(h0:ad):Prop:=
 HC PG eS [.slice none 0 0,x0] [.c .slice] (fun(e1:SliceV) h2=>
 K e1 h2) h0
theorem tH(x0:Value){K:cQ [.c .slice]→ad→Prop}{h0:ad}(h:nh x0 K h0):HC PG jy [x0] [.c .slice] K h0:=dG .nil Tryz.func138 Tryz.call138 rfl rfl (by kernel_rfl) h
def F0(x0:Option Addr)(K:(Value)→ad→Prop)(h0:ad):Prop:=
 At (hnew h0 [.pointer x0] bU) (fun h1=>
 K (.func (.func sN) #[] #[.pointer (some (ag h0))]) h1)
theorem Nz(x0:Option Addr){K:cQ [.c .raw]→ad→Prop}{h0:ad}(h:F0 x0 K h0):HC PG zM [.pointer x0] [.c .raw] K h0:=dG .nil Tryz.func140 Tryz.call140 rfl rfl (by kernel_rfl) h
def dV(x0:SliceV)(x1:Value)(K:(Unit)→ad→Prop)(h0:ad):Prop:=
 HC PG jY [.slice x0.a x0.len x0.cap,.int .i64 (x0.len:Int),x1] [] (fun(e1:Unit) h2=>
 K () h2) h0
theorem gd(x0:SliceV)(x1:Value){K:cQ []→ad→Prop}{h0:ad}(h:dV x0 x1 K h0):HC PG cY [.slice x0.a x0.len x0.cap,x1] [] K h0:=dG .nil Tryz.func141 Tryz.call141 rfl rfl (by kernel_rfl) h
def xh(x0:ByteArray×ByteArray)(x1:ByteArray×ByteArray)(K:(Int)→ad→Prop)(h0:ad):Prop:=
 At (hnew h0 (vp x0) af) (fun h1=>
 At (hnew h1 (vp x1) af) (fun h2=>
 ∃v3,au h2 h0 0 v3∧
 ∃v4,au h2 h0 1 v4∧
 ∃v5,au h2 h1 0 v5∧
 HC PG qa [qF v3 v4,.string v5] bX (fun(e6:Int) h7=>
 K e6 h7) h2))
theorem D8(x0:ByteArray×ByteArray)(x1:ByteArray×ByteArray){K:cQ bX→ad→Prop}{h0:ad}(h:xh x0 x1 K h0):HC PG r9 [Ot x0,Ot x1] bX K h0:=dG .nil Tryz.func142 Tryz.call142 rfl rfl (by kernel_rfl) h
def BC(x0:ByteArray×ByteArray)(x1:ByteArray)(K:(Int)→ad→Prop)(h0:ad):Prop:=
 At (hnew h0 (vp x0) af) (fun h1=>
 ∃v2,au h1 h0 0 v2∧
 HC PG mz (jH v2 x1) bX (fun(e3:Int) h4=>
 K e3 h4) h1)
theorem Jp(x0:ByteArray×ByteArray)(x1:ByteArray){K:cQ bX→ad→Prop}{h0:ad}(h:BC x0 x1 K h0):HC PG qa [Ot x0,.string x1] bX K h0:=dG .nil Tryz.func143 Tryz.call143 rfl rfl (by kernel_rfl) h
def ze(K:(Option Addr)→ad→Prop)(h0:ad):Prop:=
 At (hnew h0 [.int .u32 0,.int .u32 0,.slice none 0 0,.slice none 0 0,.bool true,.pointer none] bD) (fun h1=>
 K (some (ag h0)) h1)
theorem GO{K:cQ [.c .ptr]→ad→Prop}{h0:ad}(h:ze K h0):HC PG rx [] [.c .ptr] K h0:=dG .nil Tryz.func147 Tryz.call147 rfl rfl (by kernel_rfl) h
def xi(x0:Option Addr)(x1:Option Addr)(x2:ByteArray×ByteArray)(K:(Option Addr)→ad→Prop)(h0:ad):Prop:=
 At (hnew h0 (vp x2) af) (fun h1=>
 HC PG dL [.pointer x0] [.c .bool] (fun(e2:Bool) h3=>
 CondP (!e2) (
 K x0 h3) (
 HC PG gZ (mN x0 x1) [.c .ptr] (fun(e4:Option Addr) h5=>
 ∃a6,e4=some a6∧
 ∃v7:SliceV,cd h5 (adr a6 0) 2 v7∧
 ∃v8,au h5 h0 0 v8∧
 ∃v9,au h5 h0 1 v9∧
 HC PG zQ [.slice v7.a v7.len v7.cap,qF v8 v9] [.c .slice] (fun(e10:SliceV) h11=>
 ∃a12,e4=some a12∧
 (dU h11 (adr (adr a12 0) 2) (.slice e10.a e10.len e10.cap) (fun h13=>
 K e4 h13))) h5) h3)) h1)
theorem D9(x0:Option Addr)(x1:Option Addr)(x2:ByteArray×ByteArray){K:cQ [.c .ptr]→ad→Prop}{h0:ad}(h:xi x0 x1 x2 K h0):HC PG i5 [.pointer x0,.pointer x1,Ot x2] [.c .ptr] K h0:=dG .nil Tryz.func148 Tryz.call148 rfl rfl (by kernel_rfl) h
def ym(x0:ByteArray×ByteArray×Int)(y0:Addr)(K:(Int)→ad→Prop)(h0:ad):Prop:=
 At (hnew h0 (ME x0) bQ) (fun h1=>
 ∃v2,ae h1 h0 2 v2∧
 ∃v3,aS h1 y0=some (.int .i64 v3)∧
 HC PG lA (sS v2 v3) bX (fun(e4:Int) h5=>
 K e4 h5) h1)
theorem FY(x0:ByteArray×ByteArray×Int)(y0:Addr){K:cQ bX→ad→Prop}{h0:ad}(h:ym x0 y0 K h0):HC PG tw [SY x0,.pointer (some y0)] bX K h0:=dG .nil Tryz.func149 Tryz.call149 rfl rfl (by kernel_rfl) h
def gJ(x0:SliceV)(K:(SliceV)→ad→Prop)(h0:ad):Prop:=
 CondP x0.a.isNone (
 K ⟨none,0,0⟩ h0) (
 At (hnew h0 [] bQ) (fun h1=>
 ∃xs2,SRow h1 x0.a (x0.len*3) xs2∧
 AppP (some LU) 3 40 bQ (some (ag h0)) 0 0 x0.len xs2 h1 (fun s3 h4=>
 K s3 h4)))
theorem lI(x0:SliceV){K:cQ [.c .slice]→ad→Prop}{h0:ad}(h:gJ x0 K h0):HC PG eG [.slice x0.a x0.len x0.cap] [.c .slice] K h0:=dG .nil Tryz.func150 Tryz.call150 rfl rfl (by kernel_rfl) h
def eZ(x0:SliceV)(x1:Value)(K:(Unit)→ad→Prop)(h0:ad):Prop:=
 HC PG jl [.slice x0.a x0.len x0.cap,.int .i64 (x0.len:Int),x1] [] (fun(e1:Unit) h2=>
 K () h2) h0
theorem ju(x0:SliceV)(x1:Value){K:cQ []→ad→Prop}{h0:ad}(h:eZ x0 x1 K h0):HC PG dw [.slice x0.a x0.len x0.cap,x1] [] K h0:=dG .nil Tryz.func151 Tryz.call151 rfl rfl (by kernel_rfl) h
def yl(x0:ByteArray×ByteArray×Int)(x1:ByteArray×ByteArray×Int)(y0:Addr)(K:(Int)→ad→Prop)(h0:ad):Prop:=
 At (hnew h0 (ME x0) bQ) (fun h1=>
 At (hnew h1 (ME x1) bQ) (fun h2=>
 ∃v3,aS h2 y0=some (v3)∧
 ∃v4,au h2 h0 0 v4∧
 ∃v5,au h2 h0 1 v5∧
 ∃v6,ae h2 h0 2 v6∧
 ∃v7,aS h2 y0=some (v7)∧
 ∃v8,au h2 h1 0 v8∧
 ∃v9,au h2 h1 1 v9∧
 ∃v10,ae h2 h1 2 v10∧
 HV PG v3 [Ap v4 v5 v6] bX (fun(e11:Int) h12=>
 ((au h12 h1 0 v8∧au h12 h1 1 v9∧ae h12 h1 2 v10)∧
 (aS h12 y0=some (v7)∧
 HV PG v7 [Ap v8 v9 v10] bX (fun(e13:Int) h14=>
 HC PG qe (T3 e11 e13) bX (fun(e15:Int) h16=>
 K e15 h16) h14) h12))) h2))
theorem FX(x0:ByteArray×ByteArray×Int)(x1:ByteArray×ByteArray×Int)(y0:Addr){K:cQ bX→ad→Prop}{h0:ad}(h:yl x0 x1 y0 K h0):HC PG tu [SY x0,SY x1,.pointer (some y0)] bX K h0:=dG .nil Tryz.func152 Tryz.call152 rfl rfl (by kernel_rfl) h
def uO(x0:Int)(x1:Int)(K:(Int)→ad→Prop)(h0:ad):Prop:=
 HC PG oZ [.int .i64 x0] [.c .bool] (fun(e1:Bool) h2=>
 HC PG oZ [.int .i64 x1] [.c .bool] (fun(e3:Bool) h4=>
 CondP e1 (
 CondP e3 (
 K 0 h4) (
 K (-1) h4)) (
 CondP e3 (
 K 1 h4) (
 CondP (decide (x0<x1)) (
 K (-1) h4) (
 CondP (decide (x0>x1)) (
 K 1 h4) (
 K 0 h4))))) h2) h0
theorem Bu(x0:Int)(x1:Int){K:cQ bX→ad→Prop}{h0:ad}(h:uO x0 x1 K h0):HC PG qe (T3 x0 x1) bX K h0:=dG .nil Tryz.func153 Tryz.call153 rfl rfl (by kernel_rfl) h
def fZ(x0:SliceV)(x1:Value)(K:(Int)→ad→Prop)(h0:ad):Prop:=
 LoopP (fun I1 (t2:Int) h3=>
 CondP (decide (t2<(x0.len:Int))) (
 (cj t2 x0.len∧∃a4,x0.a=some a4∧
 ∃v5,aD h3 (adr a4 (t2.toNat*3)) 0 v5∧
 ∃v6,aD h3 (adr a4 (t2.toNat*3)) 1 v6∧
 ∃v7,aH h3 (adr a4 (t2.toNat*3)) 2 v7∧
 HV PG x1 [Ap v5 v6 v7] [.c .bool] (fun(e8:Bool) h9=>
 CondP e8 (
 K t2 h9) (
 I1 (IntKind.wrap .i64 (t2+1)) h9)) h3)) (
 K (-1) h3)) 0 h0
noncomputable def kr:Ann:=.node .nil (.node (.node .nil (.loop [(8,.c (.int .i64))] .nil)) .nil)
theorem kq(x0:SliceV)(x1:Value){K:cQ bX→ad→Prop}{h0:ad}(h:fZ x0 x1 K h0):HC PG cW [.slice x0.a x0.len x0.cap,x1] bX K h0:=dG kr Tryz.func154 Tryz.call154 rfl rfl (by kernel_rfl) h
def yk(x0:ByteArray×ByteArray×Int)(y0:Addr)(y1:Addr)(K:(Bool)→ad→Prop)(h0:ad):Prop:=
 At (hnew h0 (ME x0) bQ) (fun h1=>
 ∃v2,aS h1 y0=some (v2)∧
 ∃v3,au h1 h0 0 v3∧
 ∃v4,au h1 h0 1 v4∧
 ∃v5,ae h1 h0 2 v5∧
 ∃v6,aS h1 y1=some (.int .i64 v6)∧
 HV PG v2 [Ap v3 v4 v5] bX (fun(e7:Int) h8=>
 (aS h8 y1=some (.int .i64 v6)∧
 K (e7 !=v6) h8)) h1)
theorem FV(x0:ByteArray×ByteArray×Int)(y0:Addr)(y1:Addr){K:cQ [.c .bool]→ad→Prop}{h0:ad}(h:yk x0 y0 y1 K h0):HC PG tq [SY x0,.pointer (some y0),.pointer (some y1)] [.c .bool] K h0:=dG .nil Tryz.func155 Tryz.call155 rfl rfl (by kernel_rfl) h
def sG(x0:Option Addr)(x1:Option Addr)(x2:Int)(x3:ByteArray×ByteArray)(K:(Option Addr)→ad→Prop)(h0:ad):Prop:=
 At (hnew h0 (vp x3) af) (fun h1=>
 HC PG j6 (ll x0 x2) [.c .bool] (fun(e2:Bool) h3=>
 CondP (!e2) (
 K x0 h3) (
 HC PG gZ (mN x0 x1) [.c .ptr] (fun(e4:Option Addr) h5=>
 ∃a6,e4=some a6∧
 ∃v7,iR h5 (adr a6 0) 0 v7∧
 HC PG gq (pe v7 x2) [.c .bool] (fun(e8:Bool) h9=>
 CondP e8 (
 ∃a10,e4=some a10∧
 ∃v11:SliceV,cd h9 (adr a10 0) 2 v11∧
 ∃a12,e4=some a12∧
 ∃v13,iR h9 (adr a12 0) 0 v13∧
 ∃v14,au h9 h0 0 v14∧
 ∃v15,au h9 h0 1 v15∧
 HC PG dy (pe v13 x2) bX (fun(e16:Int) h17=>
 ((au h17 h0 0 v14∧au h17 h0 1 v15)∧
 (cd h17 (adr a10 0) 2 v11∧
 (cj e16 v11.len∧∃a18,v11.a=some a18∧
 (fC h17 (adr a18 (e16.toNat*2)) (jH v14 v15) (fun h19=>
 K e4 h19)))))) h9) (
 ∃a20,e4=some a20∧
 HC PG j5 (ll (some (adr a20 0)) x2) [] (fun(e21:Unit) h22=>
 ∃a23,e4=some a23∧
 ∃v24:SliceV,cd h22 (adr a23 0) 2 v24∧
 ∃a25,e4=some a25∧
 ∃v26,iR h22 (adr a25 0) 0 v26∧
 ∃v27,au h22 h0 0 v27∧
 ∃v28,au h22 h0 1 v28∧
 ((HC PG dy (pe v26 x2) bX (fun(e29:Int) h30=>
 ((au h30 h0 0 v27∧au h30 h0 1 v28)∧
 (cd h30 (adr a23 0) 2 v24∧
 At (hnew h30 (jH v27 v28) af) (fun h31=>
 (cd h31 (adr a23 0) 2 v24∧
 HC PG c7 [.slice v24.a v24.len v24.cap,.int .i64 e29,.slice (some (ag h30)) 1 1] [.c .slice] (fun(e32:SliceV) h33=>
 ∃a34,e4=some a34∧
 (dU h33 (adr (adr a34 0) 2) (.slice e32.a e32.len e32.cap) (fun h35=>
 ∃a36,e4=some a36∧
 ∃v37,iR h35 (adr a36 0) 0 v37∧
 HC PG fP (pe v37 x2) kQ (fun(e38:Int) h39=>
 ∃a40,e4=some a40∧
 (dU h39 (adr (adr a40 0) 0) (.int .u32 e38) (fun h41=>
 K e4 h41))) h35))) h31))))) h22)∧
 At (hnew h22 (jH v27 v28) af) (fun h42=>
 (iR h42 (adr a25 0) 0 v26∧
 (cd h42 (adr a23 0) 2 v24∧
 HC PG dy (pe v26 x2) bX (fun(e43:Int) h44=>
 (cd h44 (adr a23 0) 2 v24∧
 HC PG c7 [.slice v24.a v24.len v24.cap,.int .i64 e43,.slice (some (ag h22)) 1 1] [.c .slice] (fun(e45:SliceV) h46=>
 ∃a47,e4=some a47∧
 (dU h46 (adr (adr a47 0) 2) (.slice e45.a e45.len e45.cap) (fun h48=>
 ∃a49,e4=some a49∧
 ∃v50,iR h48 (adr a49 0) 0 v50∧
 HC PG fP (pe v50 x2) kQ (fun(e51:Int) h52=>
 ∃a53,e4=some a53∧
 (dU h52 (adr (adr a53 0) 0) (.int .u32 e51) (fun h54=>
 K e4 h54))) h48))) h44)) h42))))) h9)) h5) h3)) h1)
theorem yL(x0:Option Addr)(x1:Option Addr)(x2:Int)(x3:ByteArray×ByteArray){K:cQ [.c .ptr]→ad→Prop}{h0:ad}(h:sG x0 x1 x2 x3 K h0):HC PG dY [.pointer x0,.pointer x1,.int .i64 x2,Ot x3] [.c .ptr] K h0:=dG .nil Tryz.func156 Tryz.call156 rfl rfl (by kernel_rfl) h
def tS(x0:Option Addr)(x1:Option Addr)(x2:Int)(x3:Option Addr)(K:(Option Addr)→ad→Prop)(h0:ad):Prop:=
 CondP x3.isNone (
 HC PG my (Ia x0 x1 x2) [.c .ptr] (fun(e1:Option Addr) h2=>
 K e1 h2) h0) (
 HC PG j6 (ll x0 x2) [.c .bool] (fun(e3:Bool) h4=>
 CondP (!e3) (
 K x0 h4) (
 HC PG gZ (mN x0 x1) [.c .ptr] (fun(e5:Option Addr) h6=>
 ∃a7,e5=some a7∧
 ∃v8,iR h6 (adr a7 0) 1 v8∧
 HC PG gq (pe v8 x2) [.c .bool] (fun(e9:Bool) h10=>
 CondP e9 (
 ∃a11,e5=some a11∧
 ∃v12:SliceV,cd h10 (adr a11 0) 3 v12∧
 ∃a13,e5=some a13∧
 ∃v14,iR h10 (adr a13 0) 1 v14∧
 HC PG dy (pe v14 x2) bX (fun(e15:Int) h16=>
 (cd h16 (adr a11 0) 3 v12∧
 (cj e15 v12.len∧∃a17,v12.a=some a17∧
 (dU h16 (adr a17 (e15.toNat*1)) (.pointer x3) (fun h18=>
 K e5 h18))))) h10) (
 ∃a19,e5=some a19∧
 HC PG j5 (ll (some (adr a19 0)) x2) [] (fun(e20:Unit) h21=>
 ∃a22,e5=some a22∧
 ∃v23:SliceV,cd h21 (adr a22 0) 3 v23∧
 ∃a24,e5=some a24∧
 ∃v25,iR h21 (adr a24 0) 1 v25∧
 ((HC PG dy (pe v25 x2) bX (fun(e26:Int) h27=>
 (cd h27 (adr a22 0) 3 v23∧
 At (hnew h27 [.pointer x3] bU) (fun h28=>
 (cd h28 (adr a22 0) 3 v23∧
 HC PG cK [.slice v23.a v23.len v23.cap,.int .i64 e26,.slice (some (ag h27)) 1 1] [.c .slice] (fun(e29:SliceV) h30=>
 ∃a31,e5=some a31∧
 (dU h30 (adr (adr a31 0) 3) (.slice e29.a e29.len e29.cap) (fun h32=>
 ∃a33,e5=some a33∧
 ∃v34,iR h32 (adr a33 0) 1 v34∧
 HC PG fP (pe v34 x2) kQ (fun(e35:Int) h36=>
 ∃a37,e5=some a37∧
 (dU h36 (adr (adr a37 0) 1) (.int .u32 e35) (fun h38=>
 K e5 h38))) h32))) h28)))) h21)∧
 At (hnew h21 [.pointer x3] bU) (fun h39=>
 (iR h39 (adr a24 0) 1 v25∧
 (cd h39 (adr a22 0) 3 v23∧
 HC PG dy (pe v25 x2) bX (fun(e40:Int) h41=>
 (cd h41 (adr a22 0) 3 v23∧
 HC PG cK [.slice v23.a v23.len v23.cap,.int .i64 e40,.slice (some (ag h21)) 1 1] [.c .slice] (fun(e42:SliceV) h43=>
 ∃a44,e5=some a44∧
 (dU h43 (adr (adr a44 0) 3) (.slice e42.a e42.len e42.cap) (fun h45=>
 ∃a46,e5=some a46∧
 ∃v47,iR h45 (adr a46 0) 1 v47∧
 HC PG fP (pe v47 x2) kQ (fun(e48:Int) h49=>
 ∃a50,e5=some a50∧
 (dU h49 (adr (adr a50 0) 1) (.int .u32 e48) (fun h51=>
 K e5 h51))) h45))) h41)) h39))))) h10)) h6) h4)) h0)
theorem Ae(x0:Option Addr)(x1:Option Addr)(x2:Int)(x3:Option Addr){K:cQ [.c .ptr]→ad→Prop}{h0:ad}(h:tS x0 x1 x2 x3 K h0):HC PG fh (zk x0 x1 x2 x3) [.c .ptr] K h0:=dG .nil Tryz.func157 Tryz.call157 rfl rfl (by kernel_rfl) h
def vS(x0:Option Addr)(x1:Option Addr)(K:(Option Addr)→ad→Prop)(h0:ad):Prop:=
 HC PG po (mN x0 x1) [.c .bool] (fun(e1:Bool) h2=>
 CondP e1 (
 K x0 h2) (
 ∃a3,x0=some a3∧
 ∃v4,aD h2 a3 0 v4∧
 ∃v5,bI h2 a3 1 v5∧
 ∃v6,aD h2 a3 2 v6∧
 ∃v7:SliceV,cd h2 a3 3 v7∧
 ∃v8,bj h2 a3 4 v8∧
 nv h2 JG cf (UY v4 v5 v6 v7 v8) (fun h10=>
 ∃a11,x0=some a11∧
 ∃v12:SliceV,cd h10 a11 3 v12∧
 HC PG dh [.slice v12.a v12.len v12.cap] [.c .slice] (fun(e13:SliceV) h14=>
 (dU h14 (adr (ag h2) 3) (.slice e13.a e13.len e13.cap) (fun h15=>
 (dU h15 (adr (ag h2) 4) (.pointer none) (fun h16=>
 HC PG ip [.pointer x1] [.c .bool] (fun(e17:Bool) h18=>
 CondP e17 (
 (dU h18 (adr (ag h2) 4) (.pointer x1) (fun h19=>
 K (some (ag h2)) h19))) (
 K (some (ag h2)) h18)) h16))))) h10))) h0
theorem CJ(x0:Option Addr)(x1:Option Addr){K:cQ [.c .ptr]→ad→Prop}{h0:ad}(h:vS x0 x1 K h0):HC PG ee (mN x0 x1) [.c .ptr] K h0:=dG .nil Tryz.func158 Tryz.call158 rfl rfl (by kernel_rfl) h
def sD(x0:Option Addr)(x1:ByteArray)(K:(Option Addr)→ad→Prop)(h0:ad):Prop:=
 ∃a1,x0=some a1∧
 (dU h0 (adr a1 1) (.bool true) (fun h2=>
 ∃a3,x0=some a3∧
 (dU h2 (adr a3 2) (.string x1) (fun h4=>
 K x0 h4))))
theorem yI(x0:Option Addr)(x1:ByteArray){K:cQ [.c .ptr]→ad→Prop}{h0:ad}(h:sD x0 x1 K h0):HC PG kz (xu x0 x1) [.c .ptr] K h0:=dG .nil Tryz.func159 Tryz.call159 rfl rfl (by kernel_rfl) h
def gA(x0:SliceV)(x1:Int)(x2:SliceV)(K:(SliceV)→ad→Prop)(h0:ad):Prop:=
 (((0:Int)≤x1∧x1≤((x0.len:Nat):Int))∧
 CondP ((x2.len:Int)==(0:Int)) (
 K x0 h0) (
 CondP (x1==(x0.len:Int)) (
 ∃xs1,SRow h0 x2.a (x2.len*1) xs1∧
 AppP (some [.pointer none]) 1 8 bP x0.a x0.len x0.cap x2.len xs1 h0 (fun s2 h3=>
 K s2 h3)) (
 CondP (decide ((IntKind.wrap .i64 ((x0.len:Int)+(x2.len:Int)))>(x0.cap:Int))) (
 Join (fun(t8:SliceV) h9=>
 (((0:Int)≤x1∧x1≤((t8.len:Nat):Int))∧
 ∃xs10,SRow h9 x2.a (dZ x2.len (t8.len-x1.toNat)*1) xs10∧qE h9 (aW t8.a x1.toNat t8.cap 1) 0 xs10∧cz xs10=true∧
 At (gn h9 (aW t8.a x1.toNat t8.cap 1) 0 xs10) (fun h11=>
 (((0:Int)≤(IntKind.wrap .i64 (x1+(x2.len:Int)))∧(IntKind.wrap .i64 (x1+(x2.len:Int)))≤((t8.len:Nat):Int))∧
 Bd (aW t8.a ((IntKind.wrap .i64 (x1+(x2.len:Int))).toNat) t8.cap 1:Option Addr) (fun a12=>Bd (t8.len-((IntKind.wrap .i64 (x1+(x2.len:Int))).toNat):Nat) (fun n13=>Bd (t8.cap-((IntKind.wrap .i64 (x1+(x2.len:Int))).toNat):Nat) (fun n14=>
 (((0:Int)≤x1∧x1≤((x0.len:Nat):Int))∧
 ∃xs15,SRow h11 (aW x0.a x1.toNat x0.cap 1) (dZ (x0.len-x1.toNat) n13*1) xs15∧qE h11 a12 0 xs15∧cz xs15=true∧
 At (gn h11 a12 0 xs15) (fun h16=>
 K t8 h16))))))))) (fun J4=>
 (((0:Int)≤x1∧x1≤((x0.cap:Nat):Int))∧
 Bd (IntKind.wrap .i64 ((IntKind.wrap .i64 ((x0.len:Int)+(x2.len:Int)))-x1):Int) (fun n5=>
 (((0:Int)≤n5∧n5*((8:Nat):Int)≤2^48∧n5≤9223372036854775807∧(((x1.toNat-0)+n5.toNat:Nat):Int)≤9223372036854775807)∧
 AppP (some [.pointer none]) 1 8 bP (aW x0.a 0 x0.cap 1) (x1.toNat-0) (x0.cap-0) n5.toNat (dQ n5.toNat [.pointer none]) h0 (fun s6 h7=>
 J4 s6 h7)))))) (
 (((0:Int)≤(IntKind.wrap .i64 ((x0.len:Int)+(x2.len:Int)))∧(IntKind.wrap .i64 ((x0.len:Int)+(x2.len:Int)))≤((x0.cap:Nat):Int))∧
 Bd (aW x0.a 0 x0.cap 1:Option Addr) (fun a17=>Bd (((IntKind.wrap .i64 ((x0.len:Int)+(x2.len:Int))).toNat)-0:Nat) (fun n18=>Bd (x0.cap-0:Nat) (fun n19=>
 (((0:Int)≤(IntKind.wrap .i64 (x1+(x2.len:Int)))∧(IntKind.wrap .i64 (x1+(x2.len:Int)))≤((n18:Nat):Int))∧
 Bd (aW a17 ((IntKind.wrap .i64 (x1+(x2.len:Int))).toNat) n19 1:Option Addr) (fun a20=>Bd (n18-((IntKind.wrap .i64 (x1+(x2.len:Int))).toNat):Nat) (fun n21=>Bd (n19-((IntKind.wrap .i64 (x1+(x2.len:Int))).toNat):Nat) (fun n22=>
 HC PG iq [.slice x2.a x2.len x2.cap,.slice a20 n21 n22] [.c .bool] (fun(e23:Bool) h24=>
 CondP (!e23) (
 (((0:Int)≤(IntKind.wrap .i64 (x1+(x2.len:Int)))∧(IntKind.wrap .i64 (x1+(x2.len:Int)))≤((n18:Nat):Int))∧
 Bd (aW a17 ((IntKind.wrap .i64 (x1+(x2.len:Int))).toNat) n19 1:Option Addr) (fun a25=>Bd (n18-((IntKind.wrap .i64 (x1+(x2.len:Int))).toNat):Nat) (fun n26=>Bd (n19-((IntKind.wrap .i64 (x1+(x2.len:Int))).toNat):Nat) (fun n27=>
 (((0:Int)≤x1∧x1≤((n18:Nat):Int))∧
 ∃xs28,SRow h24 (aW a17 x1.toNat n19 1) (dZ (n18-x1.toNat) n26*1) xs28∧qE h24 a25 0 xs28∧cz xs28=true∧
 At (gn h24 a25 0 xs28) (fun h29=>
 (((0:Int)≤x1∧x1≤((n18:Nat):Int))∧
 ∃xs30,SRow h29 x2.a (dZ x2.len (n18-x1.toNat)*1) xs30∧qE h29 (aW a17 x1.toNat n19 1) 0 xs30∧cz xs30=true∧
 At (gn h29 (aW a17 x1.toNat n19 1) 0 xs30) (fun h31=>
 K ⟨a17,n18,n19⟩ h31))))))))) (
 (((0:Int)≤(x0.len:Int)∧(x0.len:Int)≤((n18:Nat):Int))∧
 ∃xs32,SRow h24 x2.a (dZ x2.len (n18-((x0.len:Int).toNat))*1) xs32∧qE h24 (aW a17 ((x0.len:Int).toNat) n19 1) 0 xs32∧cz xs32=true∧
 At (gn h24 (aW a17 ((x0.len:Int).toNat) n19 1) 0 xs32) (fun h33=>
 (((0:Int)≤x1∧x1≤((n18:Nat):Int))∧
 HC PG pN [.slice (aW a17 x1.toNat n19 1) (n18-x1.toNat) (n19-x1.toNat),.int .i64 (x2.len:Int)] [] (fun(e34:Unit) h35=>
 K ⟨a17,n18,n19⟩ h35) h33))))) h0))))))))))))
noncomputable def kY:Ann:=.node .nil (.node .nil (.node .nil (.node .nil (.node .nil (.node .nil (.node (.node .nil (.node (.join [(9,.c .slice)] .nil .nil) .nil)) .nil))))))
theorem kW(x0:SliceV)(x1:Int)(x2:SliceV){K:cQ [.c .slice]→ad→Prop}{h0:ad}(h:gA x0 x1 x2 K h0):HC PG ey (T0 x0 x1 x2) [.c .slice] K h0:=dG kY Tryz.func160 Tryz.call160 rfl rfl (by kernel_rfl) h
def y7(x0:Option Addr)(x1:ByteArray)(x2:ByteArray)(K:(Option Addr)→ad→Prop)(h0:ad):Prop:=
 At (hnew h0 JG cf) (fun h1=>
 HC PG ee (mN (some (ag h0)) x0) [.c .ptr] (fun(e2:Option Addr) h3=>
 HC PG ir (xu e2 x1) [.c .ptr] (fun(e4:Option Addr) h5=>
 HC PG kz (xu e4 x2) [.c .ptr] (fun(e6:Option Addr) h7=>
 K e6 h7) h5) h3) h1)
theorem GJ(x0:Option Addr)(x1:ByteArray)(x2:ByteArray){K:cQ [.c .ptr]→ad→Prop}{h0:ad}(h:y7 x0 x1 x2 K h0):HC PG uY (T7 x0 x1 x2) [.c .ptr] K h0:=dG .nil Tryz.func161 Tryz.call161 rfl rfl (by kernel_rfl) h
def y4(x0:ByteArray)(x1:ByteArray)(K:(Int)→ad→Prop)(h0:ad):Prop:=
 Bd (if(x1.size:Int)<(x0.size:Int)then(x1.size:Int)else(x0.size:Int):Int) (fun n1=>
 LoopP (fun I2 (t3:Int) h4=>
 CondP (decide (t3<n1)) (
 ∃b5,(0:Int)≤t3∧x0[t3.toNat]? =some b5∧
 ∃b6,(0:Int)≤t3∧x1[t3.toNat]? =some b6∧
 CondP ((b5.toNat:Int) !=(b6.toNat:Int)) (
 K t3 h4) (
 I2 (IntKind.wrap .i64 (t3+1)) h4)) (
 K n1 h4)) 0 h0)
noncomputable def GV:Ann:=.node .nil (.node .nil (.node (.node .nil (.loop [(13,.c (.int .i64))] .nil)) .nil))
theorem GG(x0:ByteArray)(x1:ByteArray){K:cQ bX→ad→Prop}{h0:ad}(h:y4 x0 x1 K h0):HC PG uW (jH x0 x1) bX K h0:=dG GV Tryz.func162 Tryz.call162 rfl rfl (by kernel_rfl) h
def tO(x0:Option Addr)(x1:Option Addr)(x2:Int)(K:(Option Addr)→ad→Prop)(h0:ad):Prop:=
 ∃a1,x0=some a1∧
 ∃v2,aD h0 a1 0 v2∧
 (((0:Int)≤x2∧x2≤((v2.size:Nat):Int))∧
 At (hnew h0 JG cf) (fun h3=>
 (aD h3 a1 0 v2∧
 HC PG ee (mN (some (ag h0)) x1) [.c .ptr] (fun(e4:Option Addr) h5=>
 (aD h5 a1 0 v2∧
 HC PG ir (xu e4 (v2.extract 0 x2.toNat)) [.c .ptr] (fun(e6:Option Addr) h7=>
 HC PG ee (mN x0 x1) [.c .ptr] (fun(e8:Option Addr) h9=>
 ∃a10,e8=some a10∧
 ∃v11,aD h9 a10 0 v11∧
 (((0:Int)≤x2∧x2≤((v11.size:Nat):Int))∧
 HC PG ir (xu e8 (v11.extract x2.toNat v11.size)) [.c .ptr] (fun(e12:Option Addr) h13=>
 At (hnew h13 [.pointer e12] bP) (fun h14=>
 ∃a15,e6=some a15∧
 (dU h14 (adr a15 3) (.slice (some (ag h13)) 1 1) (fun h16=>
 K e6 h16)))) h9)) h7) h5)) h3)))
noncomputable def Ak:Ann:=.node .nil (.node (.draw (VI [0,2,4,5,6,7,8,9] (.all (.lastT 1 (.all (.lastT 3 (.all (.lastT 10 (.take 11 (.done)))))))))) .nil)
theorem Aa(x0:Option Addr)(x1:Option Addr)(x2:Int){K:cQ [.c .ptr]→ad→Prop}{h0:ad}(h:tO x0 x1 x2 K h0):HC PG pn (Ia x0 x1 x2) [.c .ptr] K h0:=dG Ak Tryz.func163 Tryz.call163 rfl rfl (by kernel_rfl) h
def qn(x0:Int×Int×Int×(Option Addr)×ByteArray×Int)(x1:ByteArray×ByteArray)(x2:ByteArray×ByteArray)(x3:Int)(K:(Option Addr)→ad→Prop)(h0:ad):Prop:=
 At (hnew h0 (IG x0) cN) (fun h1=>
 At (hnew h1 (vp x1) af) (fun h2=>
 At (hnew h2 (vp x2) af) (fun h3=>
 CondP (x3==(13:Int)) (
 ∃v4,ax h3 h0 3 v4∧
 ∃v5,au h3 h1 0 v5∧
 ∃v6,au h3 h1 1 v6∧
 ∃v7,ax h3 h0 3 v7∧
 ∃v8,au h3 h2 0 v8∧
 ∃v9,au h3 h2 1 v9∧
 HC PG rx [] [.c .ptr] (fun(e10:Option Addr) h11=>
 ((au h11 h2 0 v8∧au h11 h2 1 v9)∧
 (ax h11 h0 3 v7∧
 ((au h11 h1 0 v5∧au h11 h1 1 v6)∧
 (ax h11 h0 3 v4∧
 HC PG i5 [.pointer e10,.pointer v4,qF v5 v6] [.c .ptr] (fun(e12:Option Addr) h13=>
 ((au h13 h2 0 v8∧au h13 h2 1 v9)∧
 (ax h13 h0 3 v7∧
 HC PG i5 [.pointer e12,.pointer v7,qF v8 v9] [.c .ptr] (fun(e14:Option Addr) h15=>
 K e14 h15) h13))) h11))))) h3) (
 ∃v16,aH h3 (adr (ag h0) 0) 0 v16∧
 ∃v17,aH h3 (adr (ag h0) 0) 1 v17∧
 ∃v18,aH h3 (adr (ag h0) 0) 2 v18∧
 ∃v19,au h3 h1 0 v19∧
 ∃v20,ae h3 h0 5 v20∧
 HC PG fL [zm v16 v17 v18,.string v19] gC (fun(e21:Int) h22=>
 (ae h22 h0 5 v20∧
 HC PG lA (sS e21 x3) bX (fun(e23:Int) h24=>
 (ae h24 h0 5 v20∧
 HC PG lA (sS v20 x3) bX (fun(e25:Int) h26=>
 CondP (e23==e25) (
 ∃v27,ax h26 h0 3 v27∧
 ∃v28,ae h26 h0 0 v28∧
 ∃v29,ae h26 h0 1 v29∧
 ∃v30,ae h26 h0 2 v30∧
 ∃v31,ax h26 h0 3 v31∧
 ∃v32,au h26 h0 4 v32∧
 ∃v33,ae h26 h0 5 v33∧
 ∃v34,au h26 h1 0 v34∧
 ∃v35,au h26 h1 1 v35∧
 ∃v36,au h26 h2 0 v36∧
 ∃v37,au h26 h2 1 v37∧
 HC PG nG [] [.c .ptr] (fun(e38:Option Addr) h39=>
 ((au h39 h2 0 v36∧au h39 h2 1 v37)∧
 ((au h39 h1 0 v34∧au h39 h1 1 v35)∧
 ((ae h39 h0 0 v28∧ae h39 h0 1 v29∧ae h39 h0 2 v30∧ax h39 h0 3 v31∧au h39 h0 4 v32∧ae h39 h0 5 v33)∧
 (ax h39 h0 3 v27∧
 HC PG mB [zl v28 v29 v30 v31 v32 v33,qF v34 v35,qF v36 v37,.int .i64 (IntKind.wrap .i64 (x3+1))] [.c .ptr] (fun(e40:Option Addr) h41=>
 (ax h41 h0 3 v27∧
 HC PG fh (zk e38 v27 e23 e40) [.c .ptr] (fun(e42:Option Addr) h43=>
 K e42 h43) h41)) h39))))) h26) (
 ∃v44,ax h26 h0 3 v44∧
 ∃v45,au h26 h1 0 v45∧
 ∃v46,au h26 h1 1 v46∧
 ∃v47,ax h26 h0 3 v47∧
 ∃v48,au h26 h2 0 v48∧
 ∃v49,au h26 h2 1 v49∧
 HC PG nG [] [.c .ptr] (fun(e50:Option Addr) h51=>
 ((au h51 h2 0 v48∧au h51 h2 1 v49)∧
 (ax h51 h0 3 v47∧
 ((au h51 h1 0 v45∧au h51 h1 1 v46)∧
 (ax h51 h0 3 v44∧
 HC PG dY [.pointer e50,.pointer v44,.int .i64 e23,qF v45 v46] [.c .ptr] (fun(e52:Option Addr) h53=>
 ((au h53 h2 0 v48∧au h53 h2 1 v49)∧
 (ax h53 h0 3 v47∧
 HC PG dY [.pointer e52,.pointer v47,.int .i64 e25,qF v48 v49] [.c .ptr] (fun(e54:Option Addr) h55=>
 K e54 h55) h53))) h51))))) h26)) h24)) h22)) h3))))
theorem uw(x0:Int×Int×Int×(Option Addr)×ByteArray×Int)(x1:ByteArray×ByteArray)(x2:ByteArray×ByteArray)(x3:Int){K:cQ [.c .ptr]→ad→Prop}{h0:ad}(h:qn x0 x1 x2 x3 K h0):HC PG mB [Uq x0,Ot x1,Ot x2,.int .i64 x3] [.c .ptr] K h0:=dG .nil Tryz.func164 Tryz.call164 rfl rfl (by kernel_rfl) h
def uD(x0:Option Addr)(x1:Option Addr)(K:(Option Addr)→ad→Prop)(h0:ad):Prop:=
 Join (fun(t6:Bool) h7=>
 CondP t6 (
 K x0 h7) (
 ∃a8,x0=some a8∧
 ∃v9:SliceV,cd h7 a8 3 v9∧
 CondP ((v9.len:Int)==(0:Int)) (
 K none h7) (
 ∃a10,x0=some a10∧
 ∃v11:SliceV,cd h7 a10 3 v11∧
 (cj 0 v11.len∧∃a12,v11.a=some a12∧
 ∃v13,ay h7 a12 ((0:Int).toNat*1) (.pointer v13)∧
 HC PG ee (mN v13 x1) [.c .ptr] (fun(e14:Option Addr) h15=>
 ∃a16,x0=some a16∧
 ∃v17,aD h15 a16 0 v17∧
 ∃a18,e14=some a18∧
 ∃v19,aD h15 a18 0 v19∧
 (((v17.size+v19.size:Nat):Int)≤9223372036854775807∧
 HC PG ir (xu e14 (v17++v19)) [.c .ptr] (fun(e20:Option Addr) h21=>
 K e20 h21) h15)) h7)))) (fun J1=>
 ∃a2,x0=some a2∧
 ∃v3,bI h0 a2 1 v3∧
 CondP v3 (
 J1 true h0) (
 ∃a4,x0=some a4∧
 ∃v5:SliceV,cd h0 a4 3 v5∧
 J1 (decide ((v5.len:Int)≥(2:Int))) h0))
noncomputable def BM:Ann:=.node .nil (.node (.join [(6,.c .bool)] .nil .nil) (.node .nil (.node (.draw (JD 0 10 (.all (.lastT 10 (.take 11 (.done)))))) .nil)))
theorem Bh(x0:Option Addr)(x1:Option Addr){K:cQ [.c .ptr]→ad→Prop}{h0:ad}(h:uD x0 x1 K h0):HC PG p9 (mN x0 x1) [.c .ptr] K h0:=dG BM Tryz.func165 Tryz.call165 rfl rfl (by kernel_rfl) h
def gB(x0:SliceV)(x1:Int)(x2:Int)(K:(SliceV)→ad→Prop)(h0:ad):Prop:=
 (((0:Int)≤(x0.len:Int)∧(x0.len:Int)≤((x0.cap:Nat):Int))∧
 (((0:Int)≤x2∧x2≤(((x0.len:Int).toNat:Nat):Int))∧
 (((0:Int)≤x1∧x1≤((x2.toNat:Nat):Int))∧
 CondP (x1==x2) (
 K x0 h0) (
 Join (fun(t5:SliceV) h6=>
 (((0:Int)≤(x0.len:Int)∧(x0.len:Int)≤((t5.cap:Nat):Int))∧
 (((0:Int)≤(t5.len:Int)∧(t5.len:Int)≤(((x0.len:Int).toNat:Nat):Int))∧
 Bd (aW t5.a ((t5.len:Int).toNat) t5.cap 1:Option Addr) (fun a7=>Bd (((x0.len:Int).toNat)-((t5.len:Int).toNat):Nat) (fun n8=>Bd (t5.cap-((t5.len:Int).toNat):Nat) (fun n9=>
 (qE h6 a7 0 (dQ n8 [.pointer none])∧
 At (gn h6 a7 0 (dQ n8 [.pointer none])) (fun h10=>
 K t5 h10)))))))) (fun J1=>
 (((0:Int)≤x1∧x1≤((x0.cap:Nat):Int))∧
 (((0:Int)≤x2∧x2≤((x0.len:Nat):Int))∧
 ∃xs2,SRow h0 (aW x0.a x2.toNat x0.cap 1) ((x0.len-x2.toNat)*1) xs2∧
 AppP (some [.pointer none]) 1 8 bP (aW x0.a 0 x0.cap 1) (x1.toNat-0) (x0.cap-0) (x0.len-x2.toNat) xs2 h0 (fun s3 h4=>
 J1 s3 h4))))))))
noncomputable def kZ:Ann:=.node .nil (.node .nil (.node .nil (.node .nil (.join [(0,.c .slice)] .nil .nil))))
theorem kX(x0:SliceV)(x1:Int)(x2:Int){K:cQ [.c .slice]→ad→Prop}{h0:ad}(h:gB x0 x1 x2 K h0):HC PG eA (JL x0 x1 x2) [.c .slice] K h0:=dG kZ Tryz.func166 Tryz.call166 rfl rfl (by kernel_rfl) h
def vU(x0:Option Addr)(x1:Option Addr)(x2:ByteArray)(K:(Option Addr)→ad→Prop)(h0:ad):Prop:=
 HC PG dL [.pointer x0] [.c .bool] (fun(e1:Bool) h2=>
 CondP (!e1) (
 K x0 h2) (
 HC PG gZ (mN x0 x1) [.c .ptr] (fun(e3:Option Addr) h4=>
 ∃a5,e3=some a5∧
 ∃v6:SliceV,cd h4 (adr a5 0) 2 v6∧
 HC PG xV (qJ v6 x2) [.c .slice] (fun(e7:SliceV) h8=>
 ∃a9,e3=some a9∧
 (dU h8 (adr (adr a9 0) 2) (.slice e7.a e7.len e7.cap) (fun h10=>
 K e3 h10))) h4) h2)) h0
theorem CM(x0:Option Addr)(x1:Option Addr)(x2:ByteArray){K:cQ [.c .ptr]→ad→Prop}{h0:ad}(h:vU x0 x1 x2 K h0):HC PG qX (DY x0 x1 x2) [.c .ptr] K h0:=dG .nil Tryz.func167 Tryz.call167 rfl rfl (by kernel_rfl) h
def uL(x0:Option Addr)(x1:Option Addr)(x2:Int)(K:(Option Addr)→ad→Prop)(h0:ad):Prop:=
 HC PG j6 (ll x0 x2) [.c .bool] (fun(e1:Bool) h2=>
 CondP (!e1) (
 K x0 h2) (
 HC PG gZ (mN x0 x1) [.c .ptr] (fun(e3:Option Addr) h4=>
 ∃a5,e3=some a5∧
 HC PG j5 (ll (some (adr a5 0)) x2) [] (fun(e6:Unit) h7=>
 K e3 h7) h4) h2)) h0
theorem Bq(x0:Option Addr)(x1:Option Addr)(x2:Int){K:cQ [.c .ptr]→ad→Prop}{h0:ad}(h:uL x0 x1 x2 K h0):HC PG my (Ia x0 x1 x2) [.c .ptr] K h0:=dG .nil Tryz.func168 Tryz.call168 rfl rfl (by kernel_rfl) h
def zh(x0:Option Addr)(K:((ByteArray×ByteArray)×Bool)→ad→Prop)(h0:ad):Prop:=
 At (hnew h0 nZ af) (fun h1=>
 Join (fun(t7:Bool) h8=>
 CondP t7 (
 (cp h8 h0 nZ (fun h9=>
 ∃v10,au h9 h0 0 v10∧
 ∃v11,au h9 h0 1 v11∧
 K ((v10,v11),false) h9))) (
 HC PG eW [.pointer x0] [.c .slice] (fun(e12:SliceV) h13=>
 (cj 0 e12.len∧∃a14,e12.a=some a14∧
 ∃v15,aD h13 (adr a14 ((0:Int).toNat*2)) 0 v15∧
 ∃v16,aD h13 (adr a14 ((0:Int).toNat*2)) 1 v16∧
 (cp h13 h0 (jH v15 v16) (fun h17=>
 ∃v18,au h17 h0 0 v18∧
 ∃v19,au h17 h0 1 v19∧
 K ((v18,v19),true) h17)))) h8)) (fun J2=>
 HC PG lU [.pointer x0] bX (fun(e3:Int) h4=>
 CondP (e3 !=(1:Int)) (
 J2 true h4) (
 HC PG j7 [.pointer x0] kQ (fun(e5:Int) h6=>
 J2 (e5 !=(0:Int)) h6) h4)) h1))
noncomputable def GY:Ann:=.node .nil (.node (.join [(11,.c .bool)] .nil .nil) .nil)
theorem GQ(x0:Option Addr){K:cQ pZ→ad→Prop}{h0:ad}(h:zh x0 K h0):HC PG u4 [.pointer x0] pZ K h0:=dG GY Tryz.func169 Tryz.call169 rfl rfl (by kernel_rfl) h
def zg(x0:Int)(K:(Bool)→ad→Prop)(h0:ad):Prop:=
 CondP (decide (x0≥(0:Int))) (
 K (decide (x0<(32:Int))) h0) (
 K false h0)
theorem GP(x0:Int){K:cQ [.c .bool]→ad→Prop}{h0:ad}(h:zg x0 K h0):HC PG oF [.int .i64 x0] [.c .bool] K h0:=dG .nil Tryz.func170 Tryz.call170 rfl rfl (by kernel_rfl) h
def tU(x0:Int)(K:(Int)→ad→Prop)(h0:ad):Prop:=
 HC PG kS [.int .u32 x0] bX (fun(e1:Int) h2=>
 K e1 h2) h0
theorem Ag(x0:Int){K:cQ bX→ad→Prop}{h0:ad}(h:tU x0 K h0):HC PG pq [.int .u32 x0] bX K h0:=dG .nil Tryz.func171 Tryz.call171 rfl rfl (by kernel_rfl) h
def jc(x0:SliceV)(x1:Int)(x2:Int)(x3:Int)(x4:Value)(K:(Unit)→ad→Prop)(h0:ad):Prop:=
 LoopP (fun I1 (t2:Int) h3=>
 CondP (decide ((IntKind.wrap .i64 ((IntKind.wrap .i64 (2*t2))+1))≥x2)) (
 K () h3) (
 Join (fun(t26:Int) h27=>
 (cj (IntKind.wrap .i64 (x3+t2)) x0.len∧∃a28,x0.a=some a28∧
 ∃v29,ay h27 (adr a28 ((IntKind.wrap .i64 (x3+t2)).toNat*5)) 0 (.string v29)∧
 ∃v30,ay h27 (adr a28 ((IntKind.wrap .i64 (x3+t2)).toNat*5)) 1 (.string v30)∧
 ∃v31,ay h27 (adr a28 ((IntKind.wrap .i64 (x3+t2)).toNat*5)) 2 (.string v31)∧
 ∃v32,ay h27 (adr a28 ((IntKind.wrap .i64 (x3+t2)).toNat*5)) 3 (.bool v32)∧
 ∃v33,ay h27 (adr a28 ((IntKind.wrap .i64 (x3+t2)).toNat*5)) 4 (.bool v33)∧
 (cj (IntKind.wrap .i64 (x3+t26)) x0.len∧∃a34,x0.a=some a34∧
 ∃v35,ay h27 (adr a34 ((IntKind.wrap .i64 (x3+t26)).toNat*5)) 0 (.string v35)∧
 ∃v36,ay h27 (adr a34 ((IntKind.wrap .i64 (x3+t26)).toNat*5)) 1 (.string v36)∧
 ∃v37,ay h27 (adr a34 ((IntKind.wrap .i64 (x3+t26)).toNat*5)) 2 (.string v37)∧
 ∃v38,ay h27 (adr a34 ((IntKind.wrap .i64 (x3+t26)).toNat*5)) 3 (.bool v38)∧
 ∃v39,ay h27 (adr a34 ((IntKind.wrap .i64 (x3+t26)).toNat*5)) 4 (.bool v39)∧
 HV PG x4 [ma v29 v30 v31 v32 v33,ma v35 v36 v37 v38 v39] bX (fun(e40:Int) h41=>
 CondP (!(decide (e40<(0:Int)))) (
 K () h41) (
 (cj (IntKind.wrap .i64 (x3+t26)) x0.len∧∃a42,x0.a=some a42∧
 ∃v43,ay h41 (adr a42 ((IntKind.wrap .i64 (x3+t26)).toNat*5)) 0 (.string v43)∧
 ∃v44,ay h41 (adr a42 ((IntKind.wrap .i64 (x3+t26)).toNat*5)) 1 (.string v44)∧
 ∃v45,ay h41 (adr a42 ((IntKind.wrap .i64 (x3+t26)).toNat*5)) 2 (.string v45)∧
 ∃v46,ay h41 (adr a42 ((IntKind.wrap .i64 (x3+t26)).toNat*5)) 3 (.bool v46)∧
 ∃v47,ay h41 (adr a42 ((IntKind.wrap .i64 (x3+t26)).toNat*5)) 4 (.bool v47)∧
 (cj (IntKind.wrap .i64 (x3+t2)) x0.len∧∃a48,x0.a=some a48∧
 ∃v49,ay h41 (adr a48 ((IntKind.wrap .i64 (x3+t2)).toNat*5)) 0 (.string v49)∧
 ∃v50,ay h41 (adr a48 ((IntKind.wrap .i64 (x3+t2)).toNat*5)) 1 (.string v50)∧
 ∃v51,ay h41 (adr a48 ((IntKind.wrap .i64 (x3+t2)).toNat*5)) 2 (.string v51)∧
 ∃v52,ay h41 (adr a48 ((IntKind.wrap .i64 (x3+t2)).toNat*5)) 3 (.bool v52)∧
 ∃v53,ay h41 (adr a48 ((IntKind.wrap .i64 (x3+t2)).toNat*5)) 4 (.bool v53)∧
 (cj (IntKind.wrap .i64 (x3+t2)) x0.len∧∃a54,x0.a=some a54∧
 (fC h41 (adr a54 ((IntKind.wrap .i64 (x3+t2)).toNat*5)) (jJ v43 v44 v45 v46 v47) (fun h55=>
 (cj (IntKind.wrap .i64 (x3+t26)) x0.len∧∃a56,x0.a=some a56∧
 (fC h55 (adr a56 ((IntKind.wrap .i64 (x3+t26)).toNat*5)) (jJ v49 v50 v51 v52 v53) (fun h57=>
 I1 t26 h57)))))))))) h27))) (fun J4=>
 Join (fun(t23:Bool) h24=>
 CondP t23 (
 Bd (IntKind.wrap .i64 ((IntKind.wrap .i64 ((IntKind.wrap .i64 (2*t2))+1))+1):Int) (fun n25=>
 J4 n25 h24)) (
 J4 (IntKind.wrap .i64 ((IntKind.wrap .i64 (2*t2))+1)) h24)) (fun J5=>
 Bd (IntKind.wrap .i64 ((IntKind.wrap .i64 ((IntKind.wrap .i64 (2*t2))+1))+1):Int) (fun n6=>
 CondP (decide (n6<x2)) (
 Bd (IntKind.wrap .i64 (x3+(IntKind.wrap .i64 ((IntKind.wrap .i64 (2*t2))+1))):Int) (fun n7=>
 (cj n7 x0.len∧∃a8,x0.a=some a8∧
 ∃v9,aD h3 (adr a8 (n7.toNat*5)) 0 v9∧
 ∃v10,aD h3 (adr a8 (n7.toNat*5)) 1 v10∧
 ∃v11,aD h3 (adr a8 (n7.toNat*5)) 2 v11∧
 ∃v12,bI h3 (adr a8 (n7.toNat*5)) 3 v12∧
 ∃v13,bI h3 (adr a8 (n7.toNat*5)) 4 v13∧
 Bd (IntKind.wrap .i64 (x3+(IntKind.wrap .i64 ((IntKind.wrap .i64 (2*t2))+1))):Int) (fun n14=>
 (cj (IntKind.wrap .i64 (n14+1)) x0.len∧∃a15,x0.a=some a15∧
 ∃v16,ay h3 (adr a15 ((IntKind.wrap .i64 (n14+1)).toNat*5)) 0 (.string v16)∧
 ∃v17,ay h3 (adr a15 ((IntKind.wrap .i64 (n14+1)).toNat*5)) 1 (.string v17)∧
 ∃v18,ay h3 (adr a15 ((IntKind.wrap .i64 (n14+1)).toNat*5)) 2 (.string v18)∧
 ∃v19,ay h3 (adr a15 ((IntKind.wrap .i64 (n14+1)).toNat*5)) 3 (.bool v19)∧
 ∃v20,ay h3 (adr a15 ((IntKind.wrap .i64 (n14+1)).toNat*5)) 4 (.bool v20)∧
 HV PG x4 [ma v9 v10 v11 v12 v13,ma v16 v17 v18 v19 v20] bX (fun(e21:Int) h22=>
 J5 (decide (e21<(0:Int))) h22) h3))))) (
 J5 false h3)))))) x1 h0
noncomputable def oo:Ann:=.node .nil (.loop [(10,.c (.int .i64))] (.node .nil (.node .nil (.join [(11,.c (.int .i64))] (.join [(40,.c .bool)] .nil .nil) .nil))))
theorem oh(x0:SliceV)(x1:Int)(x2:Int)(x3:Int)(x4:Value){K:cQ []→ad→Prop}{h0:ad}(h:jc x0 x1 x2 x3 x4 K h0):HC PG dX [.slice x0.a x0.len x0.cap,.int .i64 x1,.int .i64 x2,.int .i64 x3,x4] [] K h0:=dG oo Tryz.func172 Tryz.call172 rfl rfl (by kernel_rfl) h
def pK(x0:Int)(K:(Int)→ad→Prop)(h0:ad):Prop:=
 HC PG oX [.int .u64 (IntKind.wrap .u64 x0)] bX (fun(e1:Int) h2=>
 ((0:Int)≤e1∧
 K (IntKind.wrap .u64 (1*2^(min (e1:Int).toNat (IntKind.bits .u64)))) h2)) h0
theorem vH(x0:Int){K:cQ gC→ad→Prop}{h0:ad}(h:pK x0 K h0):HC PG kR [.int .i64 x0] gC K h0:=dG .nil Tryz.func173 Tryz.call173 rfl rfl (by kernel_rfl) h
def qk(x0:Option Addr)(K:(Int)→ad→Prop)(h0:ad):Prop:=
 ∃a1,x0=some a1∧
 ∃v2,aS h0 a1=some (.int .u64 v2)∧
 ∃a3,x0=some a3∧
 ∃v4,aS h0 a3=some (.int .u64 v4)∧
 ((0:Int)≤(13:Int)∧
 Bd (IntKind.wrap .u64 (v4*2^(min (13:Int).toNat (IntKind.bits .u64))):Int) (fun n5=>
 Bd (IntKind.wrap .u64 (ar (IntKind.bits .u64) v2^^^ar (IntKind.bits .u64) n5).toNat:Int) (fun n6=>
 ∃a7,x0=some a7∧
 (Wr h0 a7∧
 At (hset h0 a7 (.int .u64 n6)) (fun h8=>
 ∃a9,x0=some a9∧
 ∃v10,aS h8 a9=some (.int .u64 v10)∧
 ∃a11,x0=some a11∧
 ∃v12,aS h8 a11=some (.int .u64 v12)∧
 ((0:Int)≤(7:Int)∧
 Bd (IntKind.wrap .u64 (ar (IntKind.bits .u64) v10^^^ar (IntKind.bits .u64) (dT v12 (2^(min (7:Int).toNat (IntKind.bits .u64))))).toNat:Int) (fun n13=>
 ∃a14,x0=some a14∧
 (Wr h8 a14∧
 At (hset h8 a14 (.int .u64 n13)) (fun h15=>
 ∃a16,x0=some a16∧
 ∃v17,aS h15 a16=some (.int .u64 v17)∧
 ∃a18,x0=some a18∧
 ∃v19,aS h15 a18=some (.int .u64 v19)∧
 ((0:Int)≤(17:Int)∧
 Bd (IntKind.wrap .u64 (v19*2^(min (17:Int).toNat (IntKind.bits .u64))):Int) (fun n20=>
 Bd (IntKind.wrap .u64 (ar (IntKind.bits .u64) v17^^^ar (IntKind.bits .u64) n20).toNat:Int) (fun n21=>
 ∃a22,x0=some a22∧
 (Wr h15 a22∧
 At (hset h15 a22 (.int .u64 n21)) (fun h23=>
 ∃a24,x0=some a24∧
 ∃v25,aS h23 a24=some (.int .u64 v25)∧
 K v25 h23))))))))))))))
theorem wV(x0:Option Addr){K:cQ gC→ad→Prop}{h0:ad}(h:qk x0 K h0):HC PG lz [.pointer x0] gC K h0:=dG .nil Tryz.func174 Tryz.call174 rfl rfl (by kernel_rfl) h
def gH(x0:SliceV)(x1:Int)(x2:Option Addr)(x3:Value)(K:(Int)→ad→Prop)(h0:ad):Prop:=
 HC PG eE [.slice x0.a x0.len x0.cap,.int .i64 (IntKind.wrap .i64 (x1-1)),.int .i64 x1,.int .i64 (IntKind.wrap .i64 (x1+1)),.pointer x2,x3] bX (fun(e1:Int) h2=>
 K e1 h2) h0
theorem lG(x0:SliceV)(x1:Int)(x2:Option Addr)(x3:Value){K:cQ bX→ad→Prop}{h0:ad}(h:gH x0 x1 x2 x3 K h0):HC PG cE [.slice x0.a x0.len x0.cap,.int .i64 x1,.pointer x2,x3] bX K h0:=dG .nil Tryz.func175 Tryz.call175 rfl rfl (by kernel_rfl) h
def jC(x0:SliceV)(x1:Int)(x2:Int)(x3:Int)(x4:Option Addr)(x5:Value)(K:(Int)→ad→Prop)(h0:ad):Prop:=
 HC PG dB [.slice x0.a x0.len x0.cap,.int .i64 x1,.int .i64 x2,.pointer x4,x5] xI (fun(e1:Int×Int) h2=>
 HC PG dB [.slice x0.a x0.len x0.cap,.int .i64 e1.2,.int .i64 x3,.pointer x4,x5] xI (fun(e3:Int×Int) h4=>
 HC PG dB [.slice x0.a x0.len x0.cap,.int .i64 e1.1,.int .i64 e3.1,.pointer x4,x5] xI (fun(e5:Int×Int) h6=>
 K e5.2 h6) h4) h2) h0
theorem pw(x0:SliceV)(x1:Int)(x2:Int)(x3:Int)(x4:Option Addr)(x5:Value){K:cQ bX→ad→Prop}{h0:ad}(h:jC x0 x1 x2 x3 x4 x5 K h0):HC PG eE [.slice x0.a x0.len x0.cap,.int .i64 x1,.int .i64 x2,.int .i64 x3,.pointer x4,x5] bX K h0:=dG .nil Tryz.func176 Tryz.call176 rfl rfl (by kernel_rfl) h
def Bz(x0:SliceV)(x1:ByteArray)(K:(SliceV)→ad→Prop)(h0:ad):Prop:=
 (((0:Int)≤(x0.len:Int)∧(x0.len:Int)≤((x0.cap:Nat):Int))∧
 (((0:Int)≤(x0.len:Int)∧(x0.len:Int)≤(((x0.len:Int).toNat:Nat):Int))∧
 HC PG na [.slice (aW x0.a 0 ((x0.len:Int).toNat) 1) (((x0.len:Int).toNat)-0) (((x0.len:Int).toNat)-0),.int .u64 (IntKind.wrap .u64 (x1.size:Int)),.int .i64 2] [.c .slice] (fun(e1:SliceV) h2=>
 AppP (some [.int .u8 0]) 1 1 fq e1.a e1.len e1.cap x1.size (eC x1) h2 (fun s3 h4=>
 K s3 h4)) h0))
theorem Jm(x0:SliceV)(x1:ByteArray){K:cQ [.c .slice]→ad→Prop}{h0:ad}(h:Bz x0 x1 K h0):HC PG nA (qJ x0 x1) [.c .slice] K h0:=dG .nil Tryz.func177 Tryz.call177 rfl rfl (by kernel_rfl) h
def y6(x0:SliceV)(x1:SliceV)(K:(SliceV)→ad→Prop)(h0:ad):Prop:=
 LoopP (fun I1 (t2:SliceV×Int) h3=>
 CondP (decide (t2.2<(x1.len:Int))) (
 (cj t2.2 x1.len∧∃a4,x1.a=some a4∧
 ∃v5,aD h3 (adr a4 (t2.2.toNat*2)) 0 v5∧
 ∃v6,aD h3 (adr a4 (t2.2.toNat*2)) 1 v6∧
 nv h3 nZ af (jH v5 v6) (fun h8=>
 ∃v9,au h8 h3 0 v9∧
 ∃v10,au h8 h3 1 v10∧
 HC PG nA (qJ t2.1 v9) [.c .slice] (fun(e11:SliceV) h12=>
 (au h12 h3 1 v10∧
 HC PG nA (qJ e11 v10) [.c .slice] (fun(e13:SliceV) h14=>
 I1 (e13,IntKind.wrap .i64 (t2.2+1)) h14) h12)) h8))) (
 K t2.1 h3)) (x0,0) h0
noncomputable def GW:Ann:=.node .nil (.node (.node .nil (.loop [(0,.c .slice),(9,.c (.int .i64))] .nil)) .nil)
theorem GI(x0:SliceV)(x1:SliceV){K:cQ [.c .slice]→ad→Prop}{h0:ad}(h:y6 x0 x1 K h0):HC PG rt (Qv x0 x1) [.c .slice] K h0:=dG GW Tryz.func178 Tryz.call178 rfl rfl (by kernel_rfl) h
def yh(x0:SliceV)(x1:Int)(x2:Int)(K:(SliceV)→ad→Prop)(h0:ad):Prop:=
 LoopP (fun I1 (t2:SliceV×Int) h3=>
 CondP (decide (t2.2<x2)) (
 Join (fun(t10:SliceV) h11=>
 I1 (t10,IntKind.wrap .i64 (t2.2+1)) h11) (fun J4=>
 ((0:Int)≤(IntKind.wrap .i64 (8*t2.2))∧
 Bd (dT x1 (2^(min (IntKind.wrap .i64 (8*t2.2):Int).toNat (IntKind.bits .u64))):Int) (fun n5=>
 At (hnew h3 [.int .u8 (IntKind.wrap .u8 n5)] fq) (fun h6=>
 ∃xs7,SRow h6 (some (ag h3)) (1*1) xs7∧
 AppP (some [.int .u8 0]) 1 1 fq t2.1.a t2.1.len t2.1.cap 1 xs7 h6 (fun s8 h9=>
 J4 s8 h9)))))) (
 K t2.1 h3)) (x0,0) h0
noncomputable def LJ:Ann:=.node .nil (.node (.node .nil (.loop [(0,.c .slice),(9,.c (.int .i64))] (.node .nil (.node .nil (.join [(0,.c .slice)] .nil .nil))))) .nil)
theorem DD(x0:SliceV)(x1:Int)(x2:Int){K:cQ [.c .slice]→ad→Prop}{h0:ad}(h:yh x0 x1 x2 K h0):HC PG na (O5 x0 x1 x2) [.c .slice] K h0:=dG LJ Tryz.func179 Tryz.call179 rfl rfl (by kernel_rfl) h
def sr(x0:Option Addr)(K:(Int)→ad→Prop)(h0:ad):Prop:=
 CondP x0.isNone (
 K 0 h0) (
 ∃a1,x0=some a1∧
 ∃v2:SliceV,cd h0 (adr a1 0) 2 v2∧
 ∃a3,x0=some a3∧
 ∃v4:SliceV,cd h0 (adr a3 0) 3 v4∧
 K (IntKind.wrap .i64 ((v2.len:Int)+(v4.len:Int))) h0)
theorem xf(x0:Option Addr){K:cQ bX→ad→Prop}{h0:ad}(h:sr x0 K h0):HC PG lU [.pointer x0] bX K h0:=dG .nil Tryz.func180 Tryz.call180 rfl rfl (by kernel_rfl) h
def re(x0:Option Addr)(K:(SliceV)→ad→Prop)(h0:ad):Prop:=
 CondP x0.isNone (
 K ⟨none,0,0⟩ h0) (
 ∃a1,x0=some a1∧
 ∃v2:SliceV,cd h0 (adr a1 0) 3 v2∧
 HC PG dC [.slice v2.a v2.len v2.cap] [.c .slice] (fun(e3:SliceV) h4=>
 K e3 h4) h0)
theorem vI(x0:Option Addr){K:cQ [.c .slice]→ad→Prop}{h0:ad}(h:re x0 K h0):HC PG nD [.pointer x0] [.c .slice] K h0:=dG .nil Tryz.func181 Tryz.call181 rfl rfl (by kernel_rfl) h
def vP(x0:ByteArray)(x1:ByteArray)(K:(Bool)→ad→Prop)(h0:ad):Prop:=
 HC PG li (jH x0 x1) [.c .bool] (fun(e1:Bool) h2=>
 K e1 h2) h0
theorem CG(x0:ByteArray)(x1:ByteArray){K:cQ [.c .bool]→ad→Prop}{h0:ad}(h:vP x0 x1 K h0):HC PG vy (jH x0 x1) [.c .bool] K h0:=dG .nil Tryz.func182 Tryz.call182 rfl rfl (by kernel_rfl) h
def vQ(x0:Option Addr)(x1:Int)(K:(Unit)→ad→Prop)(h0:ad):Prop:=
 ∃a1,x0=some a1∧
 (cj (3:Int) 4∧
 ∃v2,ay h0 a1 ((3:Int).toNat*1) (.int .u64 v2)∧
 Bd (IntKind.wrap .u64 (ar (IntKind.bits .u64) v2^^^ar (IntKind.bits .u64) x1).toNat:Int) (fun n3=>
 ∃a4,x0=some a4∧
 (cj (3:Int) 4∧
 (dU h0 (adr a4 ((3:Int).toNat*1)) (.int .u64 n3) (fun h5=>
 HC PG jz (ll x0 2) [] (fun(e6:Unit) h7=>
 ∃a8,x0=some a8∧
 (cj 0 4∧
 ∃v9,ay h7 a8 ((0:Int).toNat*1) (.int .u64 v9)∧
 Bd (IntKind.wrap .u64 (ar (IntKind.bits .u64) v9^^^ar (IntKind.bits .u64) x1).toNat:Int) (fun n10=>
 ∃a11,x0=some a11∧
 (cj 0 4∧
 (dU h7 (adr a11 ((0:Int).toNat*1)) (.int .u64 n10) (fun h12=>
 K () h12)))))) h5)))))
theorem CH(x0:Option Addr)(x1:Int){K:cQ []→ad→Prop}{h0:ad}(h:vQ x0 x1 K h0):HC PG nz (Sw x0 x1) [] K h0:=dG .nil Tryz.func183 Tryz.call183 rfl rfl (by kernel_rfl) h
def F4(x0:ByteArray)(K:(Int)→ad→Prop)(h0:ad):Prop:=
 Join (fun(t41:Int) h42=>
 ∃b43,(0:Int)≤(0:Int)∧x0[(0:Int).toNat]? =some b43∧
 Bd (IntKind.wrap .u64 (ar (IntKind.bits .u64) t41|||ar (IntKind.bits .u64) (IntKind.wrap .u64 (b43.toNat:Int))).toNat:Int) (fun n44=>
 K n44 h42)) (fun J1=>
 Join (fun(t36:Int) h37=>
 ∃b38,(0:Int)≤(1:Int)∧x0[(1:Int).toNat]? =some b38∧
 ((0:Int)≤(8:Int)∧
 Bd (IntKind.wrap .u64 ((IntKind.wrap .u64 (b38.toNat:Int))*2^(min (8:Int).toNat (IntKind.bits .u64))):Int) (fun n39=>
 Bd (IntKind.wrap .u64 (ar (IntKind.bits .u64) t36|||ar (IntKind.bits .u64) n39).toNat:Int) (fun n40=>
 J1 n40 h37)))) (fun J2=>
 Join (fun(t31:Int) h32=>
 ∃b33,(0:Int)≤(2:Int)∧x0[(2:Int).toNat]? =some b33∧
 ((0:Int)≤(16:Int)∧
 Bd (IntKind.wrap .u64 ((IntKind.wrap .u64 (b33.toNat:Int))*2^(min (16:Int).toNat (IntKind.bits .u64))):Int) (fun n34=>
 Bd (IntKind.wrap .u64 (ar (IntKind.bits .u64) t31|||ar (IntKind.bits .u64) n34).toNat:Int) (fun n35=>
 J2 n35 h32)))) (fun J3=>
 Join (fun(t26:Int) h27=>
 ∃b28,(0:Int)≤(3:Int)∧x0[(3:Int).toNat]? =some b28∧
 ((0:Int)≤(24:Int)∧
 Bd (IntKind.wrap .u64 ((IntKind.wrap .u64 (b28.toNat:Int))*2^(min (24:Int).toNat (IntKind.bits .u64))):Int) (fun n29=>
 Bd (IntKind.wrap .u64 (ar (IntKind.bits .u64) t26|||ar (IntKind.bits .u64) n29).toNat:Int) (fun n30=>
 J3 n30 h27)))) (fun J4=>
 Join (fun(t21:Int) h22=>
 ∃b23,(0:Int)≤(4:Int)∧x0[(4:Int).toNat]? =some b23∧
 ((0:Int)≤(32:Int)∧
 Bd (IntKind.wrap .u64 ((IntKind.wrap .u64 (b23.toNat:Int))*2^(min (32:Int).toNat (IntKind.bits .u64))):Int) (fun n24=>
 Bd (IntKind.wrap .u64 (ar (IntKind.bits .u64) t21|||ar (IntKind.bits .u64) n24).toNat:Int) (fun n25=>
 J4 n25 h22)))) (fun J5=>
 Join (fun(t16:Int) h17=>
 ∃b18,(0:Int)≤(5:Int)∧x0[(5:Int).toNat]? =some b18∧
 ((0:Int)≤(40:Int)∧
 Bd (IntKind.wrap .u64 ((IntKind.wrap .u64 (b18.toNat:Int))*2^(min (40:Int).toNat (IntKind.bits .u64))):Int) (fun n19=>
 Bd (IntKind.wrap .u64 (ar (IntKind.bits .u64) t16|||ar (IntKind.bits .u64) n19).toNat:Int) (fun n20=>
 J5 n20 h17)))) (fun J6=>
 Join (fun(t11:Int) h12=>
 ∃b13,(0:Int)≤(6:Int)∧x0[(6:Int).toNat]? =some b13∧
 ((0:Int)≤(48:Int)∧
 Bd (IntKind.wrap .u64 ((IntKind.wrap .u64 (b13.toNat:Int))*2^(min (48:Int).toNat (IntKind.bits .u64))):Int) (fun n14=>
 Bd (IntKind.wrap .u64 (ar (IntKind.bits .u64) t11|||ar (IntKind.bits .u64) n14).toNat:Int) (fun n15=>
 J6 n15 h12)))) (fun J7=>
 CondP ((x0.size:Int)==(8:Int)) (
 ∃b8,(0:Int)≤(7:Int)∧x0[(7:Int).toNat]? =some b8∧
 ((0:Int)≤(56:Int)∧
 Bd (IntKind.wrap .u64 ((IntKind.wrap .u64 (b8.toNat:Int))*2^(min (56:Int).toNat (IntKind.bits .u64))):Int) (fun n9=>
 Bd (IntKind.wrap .u64 (ar (IntKind.bits .u64) 0|||ar (IntKind.bits .u64) n9).toNat:Int) (fun n10=>
 J7 n10 h0)))) (
 CondP ((x0.size:Int)==(7:Int)) (
 J7 0 h0) (
 CondP ((x0.size:Int)==(6:Int)) (
 J6 0 h0) (
 CondP ((x0.size:Int)==(5:Int)) (
 J5 0 h0) (
 CondP ((x0.size:Int)==(4:Int)) (
 J4 0 h0) (
 CondP ((x0.size:Int)==(3:Int)) (
 J3 0 h0) (
 CondP ((x0.size:Int)==(2:Int)) (
 J2 0 h0) (
 CondP ((x0.size:Int)==(1:Int)) (
 J1 0 h0) (
 K 0 h0)))))))))))))))
noncomputable def NQ:Ann:=.node .nil (.node .nil (.node (.node .nil (.join [(3,.c (.int .u64))] (.join [(3,.c (.int .u64))] (.join [(3,.c (.int .u64))] (.join [(3,.c (.int .u64))] (.join [(3,.c (.int .u64))] (.join [(3,.c (.int .u64))] (.join [(3,.c (.int .u64))] .nil .nil) .nil) .nil) .nil) .nil) .nil) .nil)) .nil))
theorem NC(x0:ByteArray){K:cQ gC→ad→Prop}{h0:ad}(h:F4 x0 K h0):HC PG wI [.string x0] gC K h0:=dG NQ Tryz.func184 Tryz.call184 rfl rfl (by kernel_rfl) h
def tN(x0:Option Addr)(x1:Int)(K:(Unit)→ad→Prop)(h0:ad):Prop:=
 LoopP (fun I1 (t2:Int) h3=>
 CondP (decide (t2<x1)) (
 ∃a4,x0=some a4∧
 (cj 0 4∧
 ∃v5,ay h3 a4 ((0:Int).toNat*1) (.int .u64 v5)∧
 ∃a6,x0=some a6∧
 (cj 1 4∧
 ∃v7,ay h3 a6 ((1:Int).toNat*1) (.int .u64 v7)∧
 ∃a8,x0=some a8∧
 (cj 0 4∧
 (dU h3 (adr a8 ((0:Int).toNat*1)) (.int .u64 (IntKind.wrap .u64 (v5+v7))) (fun h9=>
 ∃a10,x0=some a10∧
 (cj 1 4∧
 ∃v11,ay h9 a10 ((1:Int).toNat*1) (.int .u64 v11)∧
 ∃a12,x0=some a12∧
 (cj 0 4∧
 ∃v13,ay h9 a12 ((0:Int).toNat*1) (.int .u64 v13)∧
 ∃a14,x0=some a14∧
 HC PG du (sS v11 13) gC (fun(e15:Int) h16=>
 (ay h16 a12 ((0:Int).toNat*1) (.int .u64 v13)∧
 Bd (IntKind.wrap .u64 (ar (IntKind.bits .u64) e15^^^ar (IntKind.bits .u64) v13).toNat:Int) (fun n17=>
 (cj 1 4∧
 (dU h16 (adr a14 ((1:Int).toNat*1)) (.int .u64 n17) (fun h18=>
 ∃a19,x0=some a19∧
 (cj 0 4∧
 ∃v20,ay h18 a19 ((0:Int).toNat*1) (.int .u64 v20)∧
 ∃a21,x0=some a21∧
 HC PG du (sS v20 32) gC (fun(e22:Int) h23=>
 (cj 0 4∧
 (dU h23 (adr a21 ((0:Int).toNat*1)) (.int .u64 e22) (fun h24=>
 ∃a25,x0=some a25∧
 (cj (2:Int) 4∧
 ∃v26,ay h24 a25 ((2:Int).toNat*1) (.int .u64 v26)∧
 ∃a27,x0=some a27∧
 (cj (3:Int) 4∧
 ∃v28,ay h24 a27 ((3:Int).toNat*1) (.int .u64 v28)∧
 ∃a29,x0=some a29∧
 (cj (2:Int) 4∧
 (dU h24 (adr a29 ((2:Int).toNat*1)) (.int .u64 (IntKind.wrap .u64 (v26+v28))) (fun h30=>
 ∃a31,x0=some a31∧
 (cj (3:Int) 4∧
 ∃v32,ay h30 a31 ((3:Int).toNat*1) (.int .u64 v32)∧
 ∃a33,x0=some a33∧
 (cj (2:Int) 4∧
 ∃v34,ay h30 a33 ((2:Int).toNat*1) (.int .u64 v34)∧
 ∃a35,x0=some a35∧
 HC PG du (sS v32 16) gC (fun(e36:Int) h37=>
 (ay h37 a33 ((2:Int).toNat*1) (.int .u64 v34)∧
 Bd (IntKind.wrap .u64 (ar (IntKind.bits .u64) e36^^^ar (IntKind.bits .u64) v34).toNat:Int) (fun n38=>
 (cj (3:Int) 4∧
 (dU h37 (adr a35 ((3:Int).toNat*1)) (.int .u64 n38) (fun h39=>
 ∃a40,x0=some a40∧
 (cj 0 4∧
 ∃v41,ay h39 a40 ((0:Int).toNat*1) (.int .u64 v41)∧
 ∃a42,x0=some a42∧
 (cj (3:Int) 4∧
 ∃v43,ay h39 a42 ((3:Int).toNat*1) (.int .u64 v43)∧
 ∃a44,x0=some a44∧
 (cj 0 4∧
 (dU h39 (adr a44 ((0:Int).toNat*1)) (.int .u64 (IntKind.wrap .u64 (v41+v43))) (fun h45=>
 ∃a46,x0=some a46∧
 (cj (3:Int) 4∧
 ∃v47,ay h45 a46 ((3:Int).toNat*1) (.int .u64 v47)∧
 ∃a48,x0=some a48∧
 (cj 0 4∧
 ∃v49,ay h45 a48 ((0:Int).toNat*1) (.int .u64 v49)∧
 ∃a50,x0=some a50∧
 HC PG du (sS v47 21) gC (fun(e51:Int) h52=>
 (ay h52 a48 ((0:Int).toNat*1) (.int .u64 v49)∧
 Bd (IntKind.wrap .u64 (ar (IntKind.bits .u64) e51^^^ar (IntKind.bits .u64) v49).toNat:Int) (fun n53=>
 (cj (3:Int) 4∧
 (dU h52 (adr a50 ((3:Int).toNat*1)) (.int .u64 n53) (fun h54=>
 ∃a55,x0=some a55∧
 (cj (2:Int) 4∧
 ∃v56,ay h54 a55 ((2:Int).toNat*1) (.int .u64 v56)∧
 ∃a57,x0=some a57∧
 (cj 1 4∧
 ∃v58,ay h54 a57 ((1:Int).toNat*1) (.int .u64 v58)∧
 ∃a59,x0=some a59∧
 (cj (2:Int) 4∧
 (dU h54 (adr a59 ((2:Int).toNat*1)) (.int .u64 (IntKind.wrap .u64 (v56+v58))) (fun h60=>
 ∃a61,x0=some a61∧
 (cj 1 4∧
 ∃v62,ay h60 a61 ((1:Int).toNat*1) (.int .u64 v62)∧
 ∃a63,x0=some a63∧
 (cj (2:Int) 4∧
 ∃v64,ay h60 a63 ((2:Int).toNat*1) (.int .u64 v64)∧
 ∃a65,x0=some a65∧
 HC PG du (sS v62 17) gC (fun(e66:Int) h67=>
 (ay h67 a63 ((2:Int).toNat*1) (.int .u64 v64)∧
 Bd (IntKind.wrap .u64 (ar (IntKind.bits .u64) e66^^^ar (IntKind.bits .u64) v64).toNat:Int) (fun n68=>
 (cj 1 4∧
 (dU h67 (adr a65 ((1:Int).toNat*1)) (.int .u64 n68) (fun h69=>
 ∃a70,x0=some a70∧
 (cj (2:Int) 4∧
 ∃v71,ay h69 a70 ((2:Int).toNat*1) (.int .u64 v71)∧
 ∃a72,x0=some a72∧
 HC PG du (sS v71 32) gC (fun(e73:Int) h74=>
 (cj (2:Int) 4∧
 (dU h74 (adr a72 ((2:Int).toNat*1)) (.int .u64 e73) (fun h75=>
 I1 (IntKind.wrap .i64 (t2+1)) h75)))) h69))))))) h60))))))))))))) h45))))))))))))) h30))))))))))) h18))))))) h9)))))))) (
 K () h3)) 0 h0
noncomputable def Aj:Ann:=.node .nil (.loop [(5,.c (.int .i64))] .nil)
theorem z6(x0:Option Addr)(x1:Int){K:cQ []→ad→Prop}{h0:ad}(h:tN x0 x1 K h0):HC PG jz (ll x0 x1) [] K h0:=dG Aj Tryz.func185 Tryz.call185 rfl rfl (by kernel_rfl) h
def fa(x0:SliceV)(x1:ByteArray)(x2:Value)(K:(Int×Bool)→ad→Prop)(h0:ad):Prop:=
 LoopP (fun I1 (t2:Int×Int) h3=>
 CondP (decide (t2.1<t2.2)) (
 ((0:Int)≤(1:Int)∧
 Bd (dT (IntKind.wrap .u64 (IntKind.wrap .i64 (t2.1+t2.2))) (2^(min (1:Int).toNat (IntKind.bits .u64))):Int) (fun n4=>
 (cj (IntKind.wrap .i64 n4) x0.len∧∃a5,x0.a=some a5∧
 ∃v6,aD h3 (adr a5 ((IntKind.wrap .i64 n4).toNat*2)) 0 v6∧
 ∃v7,aD h3 (adr a5 ((IntKind.wrap .i64 n4).toNat*2)) 1 v7∧
 HV PG x2 [qF v6 v7,.string x1] bX (fun(e8:Int) h9=>
 CondP (decide (e8<(0:Int))) (
 I1 (IntKind.wrap .i64 ((IntKind.wrap .i64 n4)+1),t2.2) h9) (
 I1 (t2.1,IntKind.wrap .i64 n4) h9)) h3)))) (
 CondP (decide (t2.1<(x0.len:Int))) (
 (cj t2.1 x0.len∧∃a10,x0.a=some a10∧
 ∃v11,aD h3 (adr a10 (t2.1.toNat*2)) 0 v11∧
 ∃v12,aD h3 (adr a10 (t2.1.toNat*2)) 1 v12∧
 HV PG x2 [qF v11 v12,.string x1] bX (fun(e13:Int) h14=>
 K (t2.1,e13==(0:Int)) h14) h3)) (
 K (t2.1,false) h3))) (0,(x0.len:Int)) h0
noncomputable def jw:Ann:=.node .nil (.node .nil (.node .nil (.node (.loop [(9,.c (.int .i64)),(10,.c (.int .i64))] .nil) .nil)))
theorem jv(x0:SliceV)(x1:ByteArray)(x2:Value){K:cQ ja→ad→Prop}{h0:ad}(h:fa x0 x1 x2 K h0):HC PG eY [.slice x0.a x0.len x0.cap,.string x1,x2] ja K h0:=dG jw Tryz.func186 Tryz.call186 rfl rfl (by kernel_rfl) h
def im(x0:SliceV)(x1:Value)(K:(SliceV)→ad→Prop)(h0:ad):Prop:=
 At (hnew h0 [.slice x0.a x0.len x0.cap] cB) (fun h1=>
 RangeP PG x1 TP h1 (fun rdy2 bz3 (x4:ByteArray×ByteArray) k5 h6=>
 nv h6 nZ af (vp x4) (fun h11=>
 (h11[(pC h1+1)]? =some rdy2∧At (oz h11 (pC h1+1) bz3) (fun h8=>
 ∃v12:SliceV,aS h8 (ag h0)=some (.slice v12.a v12.len v12.cap)∧
 ∃v13,au h8 h6 0 v13∧
 ∃v14,au h8 h6 1 v14∧
 At (hnew h8 (jH v13 v14) af) (fun h15=>
 ∃xs16,SRow h15 (some (ag h8)) (1*2) xs16∧
 AppP (some nZ) 2 32 af v12.a v12.len v12.cap 1 xs16 h15 (fun s17 h18=>
 (Wr h18 (ag h0)∧
 At (hset h18 (ag h0) (.slice s17.a s17.len s17.cap)) (fun h19=>
 k5 none h19)))))))) (fun h20=>
 ∃v23:SliceV,aS h20 (ag h0)=some (.slice v23.a v23.len v23.cap)∧
 (h20[(pC h1)]? =some (.deferred (some []))∧At (oz h20 (pC h1) (.deferred none)) (fun h24=>
 K v23 h24))) (fun i9 h21=>
 bif Nat.beq i9 0 then(
 ∃v25:SliceV,aS h21 (ag h0)=some (.slice v25.a v25.len v25.cap)∧
 (h21[(pC h1)]? =some (.deferred (some []))∧At (oz h21 (pC h1) (.deferred none)) (fun h26=>
 K v25 h26)))else(
 False)) (fun h22=>
 (h22[(pC h1)]? =some (.deferred (some []))∧At (oz h22 (pC h1) (.deferred none)) (fun h27=>
 K ⟨none,0,0⟩ h27))))
noncomputable def ml:Ann:=.node .nil (.node (.node .nil (.rf [.agg [.str,.str]] .nil .nil)) .nil)
theorem mg(x0:SliceV)(x1:Value){K:cQ [.c .slice]→ad→Prop}{h0:ad}(h:im x0 x1 K h0):HC PG eS [.slice x0.a x0.len x0.cap,x1] [.c .slice] K h0:=Wc ml Tryz.func187 Tryz.call187 rfl rfl (by kernel_rfl) h
def wW(x0:Value)(y0:Addr)(K:(Unit)→ad→Prop)(h0:ad):Prop:=
 ∃v1,aS h0 y0=some (.pointer v1)∧
 HC PG zK [.pointer v1] [.c .ptr] (fun(e2:Option Addr) h3=>
 LoopP (fun I4 (t5:Unit) h6=>
 HC PG pk [.pointer e2] pZ (fun(e7:(ByteArray×ByteArray)×Bool) h8=>
 nv h8 nZ af (vp e7.1) (fun h10=>
 Join (fun(t16:Bool) h17=>
 CondP t16 (
 K () h17) (
 I4 () h17)) (fun J11=>
 CondP (!e7.2) (
 J11 true h10) (
 ∃v12,au h10 h8 0 v12∧
 ∃v13,au h10 h8 1 v13∧
 HV PG x0 [qF v12 v13] [.c .bool] (fun(e14:Bool) h15=>
 J11 (!e14) h15) h10)))) h6) () h3) h0
noncomputable def BK:Ann:=.node .nil (.loop [] (.node .nil (.join [(20,.c .bool)] .nil .nil)))
theorem TC(x0:Value)(y0:Addr){K:cQ []→ad→Prop}{h0:ad}(h:wW x0 y0 K h0):HC PG sN [x0,.pointer (some y0)] [] K h0:=dG BK Tryz.func191 Tryz.call191 rfl rfl (by kernel_rfl) h
theorem GT(x0:Value)(y0:Addr){K:cQ []→ad→Prop}{h0:ad}(h:wW x0 y0 K h0):HE PG sN [x0,.pointer (some y0)] [] K h0:=HEI BK Tryz.func191 Tryz.call191 rfl rfl (by kernel_rfl) h
def FZ(x0:Option Addr)(K:(Option Addr)→ad→Prop)(h0:ad):Prop:=
 HC PG vx [.pointer x0] HD (fun(e1:SliceV×SliceV) h2=>
 At (hnew h2 (VF e1) dW) (fun h3=>
 At (hnew h3 [.slice (some (ag h2)) 1 1,.int .i64 0] yU) (fun h4=>
 K (some (ag h3)) h4))) h0
theorem Ny(x0:Option Addr){K:cQ [.c .ptr]→ad→Prop}{h0:ad}(h:FZ x0 K h0):HC PG zK [.pointer x0] [.c .ptr] K h0:=dG .nil Tryz.func192 Tryz.call192 rfl rfl (by kernel_rfl) h
def tJ(x0:Option Addr)(K:((ByteArray×ByteArray)×Bool)→ad→Prop)(h0:ad):Prop:=
 At (hnew h0 nZ af) (fun h1=>
 CondP x0.isNone (
 (cp h1 h0 nZ (fun h2=>
 ∃v3,au h2 h0 0 v3∧
 ∃v4,au h2 h0 1 v4∧
 K ((v3,v4),false) h2))) (
 LoopP (fun I5 (t6:Unit) h7=>
 ∃a8,x0=some a8∧
 ∃v9:SliceV,cd h7 a8 0 v9∧
 CondP (decide ((v9.len:Int)>(0:Int))) (
 ∃a10,x0=some a10∧
 ∃v11:SliceV,cd h7 a10 0 v11∧
 ∃a12,x0=some a12∧
 ∃v13:SliceV,cd h7 a12 0 v13∧
 (cj (IntKind.wrap .i64 ((v13.len:Int)-1)) v11.len∧∃a14,v11.a=some a14∧
 ∃a15,some (adr a14 ((IntKind.wrap .i64 ((v13.len:Int)-1)).toNat*2))=some a15∧
 ∃v16:SliceV,cd h7 a15 0 v16∧
 CondP (decide ((v16.len:Int)>(0:Int))) (
 ∃a17,some (adr a14 ((IntKind.wrap .i64 ((v13.len:Int)-1)).toNat*2))=some a17∧
 ∃v18:SliceV,cd h7 a17 0 v18∧
 (cj 0 v18.len∧∃a19,v18.a=some a19∧
 ∃v20,aD h7 (adr a19 ((0:Int).toNat*2)) 0 v20∧
 ∃v21,aD h7 (adr a19 ((0:Int).toNat*2)) 1 v21∧
 nv h7 nZ af (jH v20 v21) (fun h23=>
 ∃a24,some (adr a14 ((IntKind.wrap .i64 ((v13.len:Int)-1)).toNat*2))=some a24∧
 ∃v25:SliceV,cd h23 a24 0 v25∧
 (((0:Int)≤(1:Int)∧(1:Int)≤((v25.len:Nat):Int))∧
 ∃a26,some (adr a14 ((IntKind.wrap .i64 ((v13.len:Int)-1)).toNat*2))=some a26∧
 (dU h23 (adr a26 0) (.slice (aW v25.a ((1:Int).toNat) v25.cap 2) (v25.len-((1:Int).toNat)) (v25.cap-((1:Int).toNat))) (fun h27=>
 ∃a28,x0=some a28∧
 ∃v29:SliceV,cd h27 a28 0 v29∧
 ∃a30,x0=some a30∧
 (dU h27 (adr a30 1) (.int .i64 (v29.len:Int)) (fun h31=>
 ∃v32,au h31 h7 0 v32∧
 ∃v33,au h31 h7 1 v33∧
 (cp h31 h0 (jH v32 v33) (fun h34=>
 ∃v35,au h34 h0 0 v35∧
 ∃v36,au h34 h0 1 v36∧
 K ((v35,v36),true) h34)))))))))) (
 ∃a37,some (adr a14 ((IntKind.wrap .i64 ((v13.len:Int)-1)).toNat*2))=some a37∧
 ∃v38:SliceV,cd h7 a37 1 v38∧
 CondP (decide ((v38.len:Int)>(0:Int))) (
 ∃a39,some (adr a14 ((IntKind.wrap .i64 ((v13.len:Int)-1)).toNat*2))=some a39∧
 ∃v40:SliceV,cd h7 a39 1 v40∧
 (cj 0 v40.len∧∃a41,v40.a=some a41∧
 ∃v42,ay h7 a41 ((0:Int).toNat*1) (.pointer v42)∧
 ∃a43,some (adr a14 ((IntKind.wrap .i64 ((v13.len:Int)-1)).toNat*2))=some a43∧
 ∃v44:SliceV,cd h7 a43 1 v44∧
 (((0:Int)≤(1:Int)∧(1:Int)≤((v44.len:Nat):Int))∧
 ∃a45,some (adr a14 ((IntKind.wrap .i64 ((v13.len:Int)-1)).toNat*2))=some a45∧
 (dU h7 (adr a45 1) (.slice (aW v44.a ((1:Int).toNat) v44.cap 1) (v44.len-((1:Int).toNat)) (v44.cap-((1:Int).toNat))) (fun h46=>
 ∃a47,x0=some a47∧
 ∃v48:SliceV,cd h46 a47 0 v48∧
 HC PG vx [.pointer v42] HD (fun(e49:SliceV×SliceV) h50=>
 (cd h50 a47 0 v48∧
 At (hnew h50 (VF e49) dW) (fun h51=>
 (cd h51 a47 0 v48∧
 ∃xs52,SRow h51 (some (ag h50)) (1*2) xs52∧
 AppP (some US) 2 48 dW v48.a v48.len v48.cap 1 xs52 h51 (fun s53 h54=>
 ∃a55,x0=some a55∧
 (dU h54 (adr a55 0) (.slice s53.a s53.len s53.cap) (fun h56=>
 I5 () h56))))))) h46))))) (
 ∃a57,x0=some a57∧
 ∃v58:SliceV,cd h7 a57 0 v58∧
 ∃a59,x0=some a59∧
 ∃v60:SliceV,cd h7 a59 0 v60∧
 (((0:Int)≤(IntKind.wrap .i64 ((v60.len:Int)-1))∧(IntKind.wrap .i64 ((v60.len:Int)-1))≤((v58.cap:Nat):Int))∧
 Bd (aW v58.a 0 v58.cap 2:Option Addr) (fun a61=>Bd (((IntKind.wrap .i64 ((v60.len:Int)-1)).toNat)-0:Nat) (fun n62=>Bd (v58.cap-0:Nat) (fun n63=>
 ∃a64,x0=some a64∧
 (dU h7 (adr a64 0) (.slice a61 n62 n63) (fun h65=>
 I5 () h65)))))))))) (
 ∃a66,x0=some a66∧
 (dU h7 (adr a66 1) (.int .i64 0) (fun h67=>
 (cp h67 h0 nZ (fun h68=>
 ∃v69,au h68 h0 0 v69∧
 ∃v70,au h68 h0 1 v70∧
 K ((v69,v70),false) h68)))))) () h1))
noncomputable def Ai:Ann:=.node .nil (.node .nil (.node (.loop [] .nil) .nil))
theorem zX(x0:Option Addr){K:cQ pZ→ad→Prop}{h0:ad}(h:tJ x0 K h0):HC PG pk [.pointer x0] pZ K h0:=dG Ai Tryz.func193 Tryz.call193 rfl rfl (by kernel_rfl) h
def gF(x0:SliceV)(x1:Int)(x2:Value)(K:(Unit)→ad→Prop)(h0:ad):Prop:=
 LoopP (fun I1 (t2:Int×Int) h3=>
 CondP (decide (t2.2≤x1)) (
 HC PG dF [.slice x0.a x0.len x0.cap,.int .i64 t2.1,.int .i64 t2.2,x2] [] (fun(e4:Unit) h5=>
 I1 (t2.2,IntKind.wrap .i64 (t2.2+20)) h5) h3) (
 HC PG dF [.slice x0.a x0.len x0.cap,.int .i64 t2.1,.int .i64 x1,x2] [] (fun(e6:Unit) h7=>
 LoopP (fun I8 (t9:Int) h10=>
 CondP (decide (t9<x1)) (
 LoopP (fun I11 (t12:Int×Int) h13=>
 CondP (decide (t12.2≤x1)) (
 HC PG cR [.slice x0.a x0.len x0.cap,.int .i64 t12.1,.int .i64 (IntKind.wrap .i64 (t12.1+t9)),.int .i64 t12.2,x2] [] (fun(e14:Unit) h15=>
 I11 (t12.2,IntKind.wrap .i64 (t12.2+(IntKind.wrap .i64 (2*t9)))) h15) h13) (
 Join (fun(t19:Unit) h20=>
 I8 (IntKind.wrap .i64 (t9*2)) h20) (fun J16=>
 CondP (decide ((IntKind.wrap .i64 (t12.1+t9))<x1)) (
 HC PG cR [.slice x0.a x0.len x0.cap,.int .i64 t12.1,.int .i64 (IntKind.wrap .i64 (t12.1+t9)),.int .i64 x1,x2] [] (fun(e17:Unit) h18=>
 J16 () h18) h13) (
 J16 () h13)))) (0,IntKind.wrap .i64 (2*t9)) h10) (
 K () h10)) 20 h7) h3)) (0,20) h0
noncomputable def qo:Ann:=.node .nil (.node .nil (.node (.loop [(7,.c (.int .i64)),(8,.c (.int .i64))] .nil) (.node .nil (.loop [(6,.c (.int .i64))] (.node .nil (.node .nil (.node (.loop [(7,.c (.int .i64)),(8,.c (.int .i64))] .nil) (.join [] .nil .nil))))))))
theorem kf(x0:SliceV)(x1:Int)(x2:Value){K:cQ []→ad→Prop}{h0:ad}(h:gF x0 x1 x2 K h0):HC PG jY [.slice x0.a x0.len x0.cap,.int .i64 x1,x2] [] K h0:=dG qo Tryz.func194 Tryz.call194 rfl rfl (by kernel_rfl) h
def sq(x0:Option Addr)(x1:Option Addr)(K:(Option Addr)→ad→Prop)(h0:ad):Prop:=
 HC PG qc (mN x0 x1) [.c .bool] (fun(e1:Bool) h2=>
 CondP e1 (
 K x0 h2) (
 ∃a3,x0=some a3∧
 ∃v4,iR h2 a3 0 v4∧
 ∃v5,iR h2 a3 1 v5∧
 ∃v6:SliceV,cd h2 a3 2 v6∧
 ∃v7:SliceV,cd h2 a3 3 v7∧
 ∃v8,bI h2 a3 4 v8∧
 ∃v9,bj h2 a3 5 v9∧
 nv h2 Qn bD (T4 v4 v5 v6 v7 v8 v9) (fun h11=>
 ∃a12,x0=some a12∧
 ∃v13:SliceV,cd h11 (adr a12 0) 2 v13∧
 ∃a14,x0=some a14∧
 ∃v15:SliceV,cd h11 (adr a14 0) 3 v15∧
 HC PG cG [.slice v13.a v13.len v13.cap] [.c .slice] (fun(e16:SliceV) h17=>
 (cd h17 (adr a14 0) 3 v15∧
 HC PG dC [.slice v15.a v15.len v15.cap] [.c .slice] (fun(e18:SliceV) h19=>
 (dU h19 (adr (adr (ag h2) 0) 2) (.slice e16.a e16.len e16.cap) (fun h20=>
 (dU h20 (adr (adr (ag h2) 0) 3) (.slice e18.a e18.len e18.cap) (fun h21=>
 (dU h21 (adr (ag h2) 5) (.pointer none) (fun h22=>
 HC PG ip [.pointer x1] [.c .bool] (fun(e23:Bool) h24=>
 CondP e23 (
 (dU h24 (adr (ag h2) 5) (.pointer x1) (fun h25=>
 K (some (ag h2)) h25))) (
 K (some (ag h2)) h24)) h22))))))) h17)) h11))) h0
theorem xe(x0:Option Addr)(x1:Option Addr){K:cQ [.c .ptr]→ad→Prop}{h0:ad}(h:sq x0 x1 K h0):HC PG gZ (mN x0 x1) [.c .ptr] K h0:=dG .nil Tryz.func195 Tryz.call195 rfl rfl (by kernel_rfl) h
def Ga(x0:SliceV)(x1:ByteArray×ByteArray)(K:(SliceV)→ad→Prop)(h0:ad):Prop:=
 At (hnew h0 (vp x1) af) (fun h1=>
 ∃v2,au h1 h0 0 v2∧
 HC PG rM (qJ x0 v2) ja (fun(e3:Int×Bool) h4=>
 (((0:Int)≤e3.1∧e3.1≤((x0.len:Nat):Int))∧
 Join (fun(t9:SliceV) h10=>
 (((0:Int)≤e3.1∧e3.1≤((x0.cap:Nat):Int))∧
 ∃v11,au h10 h0 0 v11∧
 ∃v12,au h10 h0 1 v12∧
 At (hnew h10 (jH v11 v12) af) (fun h13=>
 At (hnew h13 [.slice (aW x0.a 0 x0.cap 2) (e3.1.toNat-0) (x0.cap-0),.slice (some (ag h10)) 1 1,.slice t9.a t9.len t9.cap] cB) (fun h14=>
 HC PG dS [.slice (some (ag h13)) 3 3] [.c .slice] (fun(e15:SliceV) h16=>
 K e15 h16) h14)))) (fun J5=>
 CondP e3.2 (
 (((0:Int)≤(IntKind.wrap .i64 (e3.1+1))∧(IntKind.wrap .i64 (e3.1+1))≤((x0.len:Nat):Int))∧
 Bd (aW x0.a ((IntKind.wrap .i64 (e3.1+1)).toNat) x0.cap 2:Option Addr) (fun a6=>Bd (x0.len-((IntKind.wrap .i64 (e3.1+1)).toNat):Nat) (fun n7=>Bd (x0.cap-((IntKind.wrap .i64 (e3.1+1)).toNat):Nat) (fun n8=>
 J5 ⟨a6,n7,n8⟩ h4))))) (
 J5 ⟨aW x0.a e3.1.toNat x0.cap 2,x0.len-e3.1.toNat,x0.cap-e3.1.toNat⟩ h4)))) h1)
noncomputable def NU:Ann:=.node .nil (.node .nil (.node .nil (.join [(7,.c .slice)] .nil .nil)))
theorem NJ(x0:SliceV)(x1:ByteArray×ByteArray){K:cQ [.c .slice]→ad→Prop}{h0:ad}(h:Ga x0 x1 K h0):HC PG zQ [.slice x0.a x0.len x0.cap,Ot x1] [.c .slice] K h0:=dG NU Tryz.func196 Tryz.call196 rfl rfl (by kernel_rfl) h
def jo(x0:SliceV)(x1:Int)(x2:Value)(K:(Unit)→ad→Prop)(h0:ad):Prop:=
 LoopP (fun I1 (t2:Int×Int) h3=>
 CondP (decide (t2.2≤x1)) (
 HC PG dg [.slice x0.a x0.len x0.cap,.int .i64 t2.1,.int .i64 t2.2,x2] [] (fun(e4:Unit) h5=>
 I1 (t2.2,IntKind.wrap .i64 (t2.2+20)) h5) h3) (
 HC PG dg [.slice x0.a x0.len x0.cap,.int .i64 t2.1,.int .i64 x1,x2] [] (fun(e6:Unit) h7=>
 LoopP (fun I8 (t9:Int) h10=>
 CondP (decide (t9<x1)) (
 LoopP (fun I11 (t12:Int×Int) h13=>
 CondP (decide (t12.2≤x1)) (
 HC PG iT [.slice x0.a x0.len x0.cap,.int .i64 t12.1,.int .i64 (IntKind.wrap .i64 (t12.1+t9)),.int .i64 t12.2,x2] [] (fun(e14:Unit) h15=>
 I11 (t12.2,IntKind.wrap .i64 (t12.2+(IntKind.wrap .i64 (2*t9)))) h15) h13) (
 Join (fun(t19:Unit) h20=>
 I8 (IntKind.wrap .i64 (t9*2)) h20) (fun J16=>
 CondP (decide ((IntKind.wrap .i64 (t12.1+t9))<x1)) (
 HC PG iT [.slice x0.a x0.len x0.cap,.int .i64 t12.1,.int .i64 (IntKind.wrap .i64 (t12.1+t9)),.int .i64 x1,x2] [] (fun(e17:Unit) h18=>
 J16 () h18) h13) (
 J16 () h13)))) (0,IntKind.wrap .i64 (2*t9)) h10) (
 K () h10)) 20 h7) h3)) (0,20) h0
noncomputable def oO:Ann:=.node .nil (.node .nil (.node (.loop [(7,.c (.int .i64)),(8,.c (.int .i64))] .nil) (.node .nil (.loop [(6,.c (.int .i64))] (.node .nil (.node .nil (.node (.loop [(7,.c (.int .i64)),(8,.c (.int .i64))] .nil) (.join [] .nil .nil))))))))
theorem oK(x0:SliceV)(x1:Int)(x2:Value){K:cQ []→ad→Prop}{h0:ad}(h:jo x0 x1 x2 K h0):HC PG jl [.slice x0.a x0.len x0.cap,.int .i64 x1,x2] [] K h0:=dG oO Tryz.func197 Tryz.call197 rfl rfl (by kernel_rfl) h
def xn(x0:Int)(K:(Bool)→ad→Prop)(h0:ad):Prop:=
 K (x0 !=x0) h0
theorem Ed(x0:Int){K:cQ [.c .bool]→ad→Prop}{h0:ad}(h:xn x0 K h0):HC PG oZ [.int .i64 x0] [.c .bool] K h0:=dG .nil Tryz.func198 Tryz.call198 rfl rfl (by kernel_rfl) h
def uI(x0:Option Addr)(x1:Int)(K:(Bool)→ad→Prop)(h0:ad):Prop:=
 CondP (!(x0.isNone)) (
 ∃a1,x0=some a1∧
 ∃v2,bI h0 a1 4 v2∧
 CondP (!v2) (
 CondP (decide (x1≥(0:Int))) (
 K (decide (x1<(32:Int))) h0) (
 K false h0)) (
 K false h0)) (
 K false h0)
theorem Bm(x0:Option Addr)(x1:Int){K:cQ [.c .bool]→ad→Prop}{h0:ad}(h:uI x0 x1 K h0):HC PG j6 (ll x0 x1) [.c .bool] K h0:=dG .nil Tryz.func199 Tryz.call199 rfl rfl (by kernel_rfl) h
def uH(x0:Option Addr)(x1:Int)(K:(Unit)→ad→Prop)(h0:ad):Prop:=
 Join (fun(t16:Unit) h17=>
 Join (fun(t33:Unit) h34=>
 ∃a35,x0=some a35∧
 ∃v36,iR h34 a35 0 v36∧
 ∃a37,x0=some a37∧
 ∃v38,iR h34 a37 1 v38∧
 HC PG ke (pe v36 x1) kQ (fun(e39:Int) h40=>
 (iR h40 a37 1 v38∧
 HC PG ke (pe v38 x1) kQ (fun(e41:Int) h42=>
 ∃a43,x0=some a43∧
 (dU h42 (adr a43 0) (.int .u32 e39) (fun h44=>
 ∃a45,x0=some a45∧
 (dU h44 (adr a45 1) (.int .u32 e41) (fun h46=>
 K () h46))))) h40)) h34) (fun J18=>
 ∃a19,x0=some a19∧
 ∃v20,iR h17 a19 1 v20∧
 HC PG gq (pe v20 x1) [.c .bool] (fun(e21:Bool) h22=>
 CondP e21 (
 ∃a23,x0=some a23∧
 ∃v24,iR h22 a23 1 v24∧
 HC PG dy (pe v24 x1) bX (fun(e25:Int) h26=>
 ∃a27,x0=some a27∧
 ∃v28:SliceV,cd h26 a27 3 v28∧
 HC PG eN (JL v28 e25 (IntKind.wrap .i64 (e25+1))) [.c .slice] (fun(e29:SliceV) h30=>
 ∃a31,x0=some a31∧
 (dU h30 (adr a31 3) (.slice e29.a e29.len e29.cap) (fun h32=>
 J18 () h32))) h26) h22) (
 J18 () h22)) h17)) (fun J1=>
 ∃a2,x0=some a2∧
 ∃v3,iR h0 a2 0 v3∧
 HC PG gq (pe v3 x1) [.c .bool] (fun(e4:Bool) h5=>
 CondP e4 (
 ∃a6,x0=some a6∧
 ∃v7,iR h5 a6 0 v7∧
 HC PG dy (pe v7 x1) bX (fun(e8:Int) h9=>
 ∃a10,x0=some a10∧
 ∃v11:SliceV,cd h9 a10 2 v11∧
 HC PG fx (JL v11 e8 (IntKind.wrap .i64 (e8+1))) [.c .slice] (fun(e12:SliceV) h13=>
 ∃a14,x0=some a14∧
 (dU h13 (adr a14 2) (.slice e12.a e12.len e12.cap) (fun h15=>
 J1 () h15))) h9) h5) (
 J1 () h5)) h0)
noncomputable def BN:Ann:=.join [] .nil (.join [] .nil .nil)
theorem Bl(x0:Option Addr)(x1:Int){K:cQ []→ad→Prop}{h0:ad}(h:uH x0 x1 K h0):HC PG j5 (ll x0 x1) [] K h0:=dG BN Tryz.func200 Tryz.call200 rfl rfl (by kernel_rfl) h
def iV(x0:SliceV)(x1:Int)(x2:SliceV)(K:(SliceV)→ad→Prop)(h0:ad):Prop:=
 (((0:Int)≤x1∧x1≤((x0.len:Nat):Int))∧
 CondP ((x2.len:Int)==(0:Int)) (
 K x0 h0) (
 CondP (x1==(x0.len:Int)) (
 ∃xs1,SRow h0 x2.a (x2.len*2) xs1∧
 AppP (some nZ) 2 32 af x0.a x0.len x0.cap x2.len xs1 h0 (fun s2 h3=>
 K s2 h3)) (
 CondP (decide ((IntKind.wrap .i64 ((x0.len:Int)+(x2.len:Int)))>(x0.cap:Int))) (
 Join (fun(t8:SliceV) h9=>
 (((0:Int)≤x1∧x1≤((t8.len:Nat):Int))∧
 ∃xs10,SRow h9 x2.a (dZ x2.len (t8.len-x1.toNat)*2) xs10∧qE h9 (aW t8.a x1.toNat t8.cap 2) 0 xs10∧cz xs10=true∧
 At (gn h9 (aW t8.a x1.toNat t8.cap 2) 0 xs10) (fun h11=>
 (((0:Int)≤(IntKind.wrap .i64 (x1+(x2.len:Int)))∧(IntKind.wrap .i64 (x1+(x2.len:Int)))≤((t8.len:Nat):Int))∧
 Bd (aW t8.a ((IntKind.wrap .i64 (x1+(x2.len:Int))).toNat) t8.cap 2:Option Addr) (fun a12=>Bd (t8.len-((IntKind.wrap .i64 (x1+(x2.len:Int))).toNat):Nat) (fun n13=>Bd (t8.cap-((IntKind.wrap .i64 (x1+(x2.len:Int))).toNat):Nat) (fun n14=>
 (((0:Int)≤x1∧x1≤((x0.len:Nat):Int))∧
 ∃xs15,SRow h11 (aW x0.a x1.toNat x0.cap 2) (dZ (x0.len-x1.toNat) n13*2) xs15∧qE h11 a12 0 xs15∧cz xs15=true∧
 At (gn h11 a12 0 xs15) (fun h16=>
 K t8 h16))))))))) (fun J4=>
 (((0:Int)≤x1∧x1≤((x0.cap:Nat):Int))∧
 Bd (IntKind.wrap .i64 ((IntKind.wrap .i64 ((x0.len:Int)+(x2.len:Int)))-x1):Int) (fun n5=>
 (((0:Int)≤n5∧n5*((32:Nat):Int)≤2^48∧n5≤9223372036854775807∧(((x1.toNat-0)+n5.toNat:Nat):Int)≤9223372036854775807)∧
 AppP (some nZ) 2 32 af (aW x0.a 0 x0.cap 2) (x1.toNat-0) (x0.cap-0) n5.toNat (dQ n5.toNat nZ) h0 (fun s6 h7=>
 J4 s6 h7)))))) (
 (((0:Int)≤(IntKind.wrap .i64 ((x0.len:Int)+(x2.len:Int)))∧(IntKind.wrap .i64 ((x0.len:Int)+(x2.len:Int)))≤((x0.cap:Nat):Int))∧
 Bd (aW x0.a 0 x0.cap 2:Option Addr) (fun a17=>Bd (((IntKind.wrap .i64 ((x0.len:Int)+(x2.len:Int))).toNat)-0:Nat) (fun n18=>Bd (x0.cap-0:Nat) (fun n19=>
 (((0:Int)≤(IntKind.wrap .i64 (x1+(x2.len:Int)))∧(IntKind.wrap .i64 (x1+(x2.len:Int)))≤((n18:Nat):Int))∧
 Bd (aW a17 ((IntKind.wrap .i64 (x1+(x2.len:Int))).toNat) n19 2:Option Addr) (fun a20=>Bd (n18-((IntKind.wrap .i64 (x1+(x2.len:Int))).toNat):Nat) (fun n21=>Bd (n19-((IntKind.wrap .i64 (x1+(x2.len:Int))).toNat):Nat) (fun n22=>
 HC PG jh [.slice x2.a x2.len x2.cap,.slice a20 n21 n22] [.c .bool] (fun(e23:Bool) h24=>
 CondP (!e23) (
 (((0:Int)≤(IntKind.wrap .i64 (x1+(x2.len:Int)))∧(IntKind.wrap .i64 (x1+(x2.len:Int)))≤((n18:Nat):Int))∧
 Bd (aW a17 ((IntKind.wrap .i64 (x1+(x2.len:Int))).toNat) n19 2:Option Addr) (fun a25=>Bd (n18-((IntKind.wrap .i64 (x1+(x2.len:Int))).toNat):Nat) (fun n26=>Bd (n19-((IntKind.wrap .i64 (x1+(x2.len:Int))).toNat):Nat) (fun n27=>
 (((0:Int)≤x1∧x1≤((n18:Nat):Int))∧
 ∃xs28,SRow h24 (aW a17 x1.toNat n19 2) (dZ (n18-x1.toNat) n26*2) xs28∧qE h24 a25 0 xs28∧cz xs28=true∧
 At (gn h24 a25 0 xs28) (fun h29=>
 (((0:Int)≤x1∧x1≤((n18:Nat):Int))∧
 ∃xs30,SRow h29 x2.a (dZ x2.len (n18-x1.toNat)*2) xs30∧qE h29 (aW a17 x1.toNat n19 2) 0 xs30∧cz xs30=true∧
 At (gn h29 (aW a17 x1.toNat n19 2) 0 xs30) (fun h31=>
 K ⟨a17,n18,n19⟩ h31))))))))) (
 (((0:Int)≤(x0.len:Int)∧(x0.len:Int)≤((n18:Nat):Int))∧
 ∃xs32,SRow h24 x2.a (dZ x2.len (n18-((x0.len:Int).toNat))*2) xs32∧qE h24 (aW a17 ((x0.len:Int).toNat) n19 2) 0 xs32∧cz xs32=true∧
 At (gn h24 (aW a17 ((x0.len:Int).toNat) n19 2) 0 xs32) (fun h33=>
 (((0:Int)≤x1∧x1≤((n18:Nat):Int))∧
 HC PG qW [.slice (aW a17 x1.toNat n19 2) (n18-x1.toNat) (n19-x1.toNat),.int .i64 (x2.len:Int)] [] (fun(e34:Unit) h35=>
 K ⟨a17,n18,n19⟩ h35) h33))))) h0))))))))))))
noncomputable def nQ:Ann:=.node .nil (.node .nil (.node .nil (.node .nil (.node .nil (.node .nil (.node (.node .nil (.node (.join [(9,.c .slice)] .nil .nil) .nil)) .nil))))))
theorem nL(x0:SliceV)(x1:Int)(x2:SliceV){K:cQ [.c .slice]→ad→Prop}{h0:ad}(h:iV x0 x1 x2 K h0):HC PG c7 (T0 x0 x1 x2) [.c .slice] K h0:=dG nQ Tryz.func201 Tryz.call201 rfl rfl (by kernel_rfl) h
def uP(x0:Int)(x1:Int)(K:(Int)→ad→Prop)(h0:ad):Prop:=
 HC PG oF [.int .i64 x1] [.c .bool] (fun(e1:Bool) h2=>
 CondP (!e1) (
 K x0 h2) (
 ((0:Int)≤x1∧
 Bd (IntKind.wrap .u32 (ar (IntKind.bits .u32) x0|||ar (IntKind.bits .u32) (IntKind.wrap .u32 (1*2^(min (x1:Int).toNat (IntKind.bits .u32))))).toNat:Int) (fun n3=>
 K n3 h2)))) h0
theorem Bv(x0:Int)(x1:Int){K:cQ kQ→ad→Prop}{h0:ad}(h:uP x0 x1 K h0):HC PG fP (pe x0 x1) kQ K h0:=dG .nil Tryz.func202 Tryz.call202 rfl rfl (by kernel_rfl) h
def g8(x0:SliceV)(x1:Int)(x2:SliceV)(K:(SliceV)→ad→Prop)(h0:ad):Prop:=
 (((0:Int)≤x1∧x1≤((x0.len:Nat):Int))∧
 CondP ((x2.len:Int)==(0:Int)) (
 K x0 h0) (
 CondP (x1==(x0.len:Int)) (
 ∃xs1,SRow h0 x2.a (x2.len*1) xs1∧
 AppP (some [.pointer none]) 1 8 bU x0.a x0.len x0.cap x2.len xs1 h0 (fun s2 h3=>
 K s2 h3)) (
 CondP (decide ((IntKind.wrap .i64 ((x0.len:Int)+(x2.len:Int)))>(x0.cap:Int))) (
 Join (fun(t8:SliceV) h9=>
 (((0:Int)≤x1∧x1≤((t8.len:Nat):Int))∧
 ∃xs10,SRow h9 x2.a (dZ x2.len (t8.len-x1.toNat)*1) xs10∧qE h9 (aW t8.a x1.toNat t8.cap 1) 0 xs10∧cz xs10=true∧
 At (gn h9 (aW t8.a x1.toNat t8.cap 1) 0 xs10) (fun h11=>
 (((0:Int)≤(IntKind.wrap .i64 (x1+(x2.len:Int)))∧(IntKind.wrap .i64 (x1+(x2.len:Int)))≤((t8.len:Nat):Int))∧
 Bd (aW t8.a ((IntKind.wrap .i64 (x1+(x2.len:Int))).toNat) t8.cap 1:Option Addr) (fun a12=>Bd (t8.len-((IntKind.wrap .i64 (x1+(x2.len:Int))).toNat):Nat) (fun n13=>Bd (t8.cap-((IntKind.wrap .i64 (x1+(x2.len:Int))).toNat):Nat) (fun n14=>
 (((0:Int)≤x1∧x1≤((x0.len:Nat):Int))∧
 ∃xs15,SRow h11 (aW x0.a x1.toNat x0.cap 1) (dZ (x0.len-x1.toNat) n13*1) xs15∧qE h11 a12 0 xs15∧cz xs15=true∧
 At (gn h11 a12 0 xs15) (fun h16=>
 K t8 h16))))))))) (fun J4=>
 (((0:Int)≤x1∧x1≤((x0.cap:Nat):Int))∧
 Bd (IntKind.wrap .i64 ((IntKind.wrap .i64 ((x0.len:Int)+(x2.len:Int)))-x1):Int) (fun n5=>
 (((0:Int)≤n5∧n5*((8:Nat):Int)≤2^48∧n5≤9223372036854775807∧(((x1.toNat-0)+n5.toNat:Nat):Int)≤9223372036854775807)∧
 AppP (some [.pointer none]) 1 8 bU (aW x0.a 0 x0.cap 1) (x1.toNat-0) (x0.cap-0) n5.toNat (dQ n5.toNat [.pointer none]) h0 (fun s6 h7=>
 J4 s6 h7)))))) (
 (((0:Int)≤(IntKind.wrap .i64 ((x0.len:Int)+(x2.len:Int)))∧(IntKind.wrap .i64 ((x0.len:Int)+(x2.len:Int)))≤((x0.cap:Nat):Int))∧
 Bd (aW x0.a 0 x0.cap 1:Option Addr) (fun a17=>Bd (((IntKind.wrap .i64 ((x0.len:Int)+(x2.len:Int))).toNat)-0:Nat) (fun n18=>Bd (x0.cap-0:Nat) (fun n19=>
 (((0:Int)≤(IntKind.wrap .i64 (x1+(x2.len:Int)))∧(IntKind.wrap .i64 (x1+(x2.len:Int)))≤((n18:Nat):Int))∧
 Bd (aW a17 ((IntKind.wrap .i64 (x1+(x2.len:Int))).toNat) n19 1:Option Addr) (fun a20=>Bd (n18-((IntKind.wrap .i64 (x1+(x2.len:Int))).toNat):Nat) (fun n21=>Bd (n19-((IntKind.wrap .i64 (x1+(x2.len:Int))).toNat):Nat) (fun n22=>
 HC PG iJ [.slice x2.a x2.len x2.cap,.slice a20 n21 n22] [.c .bool] (fun(e23:Bool) h24=>
 CondP (!e23) (
 (((0:Int)≤(IntKind.wrap .i64 (x1+(x2.len:Int)))∧(IntKind.wrap .i64 (x1+(x2.len:Int)))≤((n18:Nat):Int))∧
 Bd (aW a17 ((IntKind.wrap .i64 (x1+(x2.len:Int))).toNat) n19 1:Option Addr) (fun a25=>Bd (n18-((IntKind.wrap .i64 (x1+(x2.len:Int))).toNat):Nat) (fun n26=>Bd (n19-((IntKind.wrap .i64 (x1+(x2.len:Int))).toNat):Nat) (fun n27=>
 (((0:Int)≤x1∧x1≤((n18:Nat):Int))∧
 ∃xs28,SRow h24 (aW a17 x1.toNat n19 1) (dZ (n18-x1.toNat) n26*1) xs28∧qE h24 a25 0 xs28∧cz xs28=true∧
 At (gn h24 a25 0 xs28) (fun h29=>
 (((0:Int)≤x1∧x1≤((n18:Nat):Int))∧
 ∃xs30,SRow h29 x2.a (dZ x2.len (n18-x1.toNat)*1) xs30∧qE h29 (aW a17 x1.toNat n19 1) 0 xs30∧cz xs30=true∧
 At (gn h29 (aW a17 x1.toNat n19 1) 0 xs30) (fun h31=>
 K ⟨a17,n18,n19⟩ h31))))))))) (
 (((0:Int)≤(x0.len:Int)∧(x0.len:Int)≤((n18:Nat):Int))∧
 ∃xs32,SRow h24 x2.a (dZ x2.len (n18-((x0.len:Int).toNat))*1) xs32∧qE h24 (aW a17 ((x0.len:Int).toNat) n19 1) 0 xs32∧cz xs32=true∧
 At (gn h24 (aW a17 ((x0.len:Int).toNat) n19 1) 0 xs32) (fun h33=>
 (((0:Int)≤x1∧x1≤((n18:Nat):Int))∧
 HC PG p7 [.slice (aW a17 x1.toNat n19 1) (n18-x1.toNat) (n19-x1.toNat),.int .i64 (x2.len:Int)] [] (fun(e34:Unit) h35=>
 K ⟨a17,n18,n19⟩ h35) h33))))) h0))))))))))))
noncomputable def l3:Ann:=.node .nil (.node .nil (.node .nil (.node .nil (.node .nil (.node .nil (.node (.node .nil (.node (.join [(9,.c .slice)] .nil .nil) .nil)) .nil))))))
theorem lX(x0:SliceV)(x1:Int)(x2:SliceV){K:cQ [.c .slice]→ad→Prop}{h0:ad}(h:g8 x0 x1 x2 K h0):HC PG cK (T0 x0 x1 x2) [.c .slice] K h0:=dG l3 Tryz.func203 Tryz.call203 rfl rfl (by kernel_rfl) h
def tQ(x0:Option Addr)(x1:Option Addr)(K:(Bool)→ad→Prop)(h0:ad):Prop:=
 CondP (!(x0.isNone)) (
 HC PG ip [.pointer x1] [.c .bool] (fun(e1:Bool) h2=>
 CondP e1 (
 ∃a3,x0=some a3∧
 ∃v4,bj h2 a3 4 v4∧
 (True∧(∀x y:Addr,v4=some x→x1=some y→fW h2 x∧fW h2 y)∧
 K (v4==x1) h2)) (
 K false h2)) h0) (
 K false h0)
theorem Ac(x0:Option Addr)(x1:Option Addr){K:cQ [.c .bool]→ad→Prop}{h0:ad}(h:tQ x0 x1 K h0):HC PG po (mN x0 x1) [.c .bool] K h0:=dG .nil Tryz.func204 Tryz.call204 rfl rfl (by kernel_rfl) h
def tM(x0:Option Addr)(K:(Bool)→ad→Prop)(h0:ad):Prop:=
 CondP (!(x0.isNone)) (
 ∃a1,x0=some a1∧
 ∃v2,bI h0 a1 2 v2∧
 K v2 h0) (
 K false h0)
theorem zZ(x0:Option Addr){K:cQ [.c .bool]→ad→Prop}{h0:ad}(h:tM x0 K h0):HC PG ip [.pointer x0] [.c .bool] K h0:=dG .nil Tryz.func205 Tryz.call205 rfl rfl (by kernel_rfl) h
def tP(x0:Option Addr)(x1:ByteArray)(K:(Option Addr)→ad→Prop)(h0:ad):Prop:=
 ∃a1,x0=some a1∧
 (dU h0 (adr a1 0) (.string x1) (fun h2=>
 K x0 h2))
theorem Ab(x0:Option Addr)(x1:ByteArray){K:cQ [.c .ptr]→ad→Prop}{h0:ad}(h:tP x0 x1 K h0):HC PG ir (xu x0 x1) [.c .ptr] K h0:=dG .nil Tryz.func208 Tryz.call208 rfl rfl (by kernel_rfl) h
def DN(x0:SliceV)(x1:ByteArray)(K:(SliceV)→ad→Prop)(h0:ad):Prop:=
 HC PG rM (qJ x0 x1) ja (fun(e1:Int×Bool) h2=>
 CondP (!e1.2) (
 HC PG cG [.slice x0.a x0.len x0.cap] [.c .slice] (fun(e3:SliceV) h4=>
 K e3 h4) h2) (
 (((0:Int)≤e1.1∧e1.1≤((x0.cap:Nat):Int))∧
 (((0:Int)≤(IntKind.wrap .i64 (e1.1+1))∧(IntKind.wrap .i64 (e1.1+1))≤((x0.len:Nat):Int))∧
 Bd (aW x0.a ((IntKind.wrap .i64 (e1.1+1)).toNat) x0.cap 2:Option Addr) (fun a5=>Bd (x0.len-((IntKind.wrap .i64 (e1.1+1)).toNat):Nat) (fun n6=>Bd (x0.cap-((IntKind.wrap .i64 (e1.1+1)).toNat):Nat) (fun n7=>
 At (hnew h2 [.slice (aW x0.a 0 x0.cap 2) (e1.1.toNat-0) (x0.cap-0),.slice a5 n6 n7] cB) (fun h8=>
 HC PG dS [.slice (some (ag h2)) 2 2] [.c .slice] (fun(e9:SliceV) h10=>
 K e9 h10) h8)))))))) h0
theorem Lx(x0:SliceV)(x1:ByteArray){K:cQ [.c .slice]→ad→Prop}{h0:ad}(h:DN x0 x1 K h0):HC PG xV (qJ x0 x1) [.c .slice] K h0:=dG .nil Tryz.func209 Tryz.call209 rfl rfl (by kernel_rfl) h
def pL(x0:Int)(K:(Int)→ad→Prop)(h0:ad):Prop:=
 ((0:Int)≤(24:Int)∧
 ∃b1,(0:Int)≤(dT x0 (2^(min (24:Int).toNat (IntKind.bits .u32))))∧(⟨#[0,1,1,2,1,2,2,3,1,2,2,3,2,3,3,4,1,2,2,3,2,3,3,4,2,3,3,4,3,4,4,5,1,2,2,3,2,3,3,4,2,3,3,4,3,4,4,5,2,3,3,4,3,4,4,5,3,4,4,5,4,5,5,6,1,2,2,3,2,3,3,4,2,3,3,4,3,4,4,5,2,3,3,4,3,4,4,5,3,4,4,5,4,5,5,6,2,3,3,4,3,4,4,5,3,4,4,5,4,5,5,6,3,4,4,5,4,5,5,6,4,5,5,6,5,6,6,7,1,2,2,3,2,3,3,4,2,3,3,4,3,4,4,5,2,3,3,4,3,4,4,5,3,4,4,5,4,5,5,6,2,3,3,4,3,4,4,5,3,4,4,5,4,5,5,6,3,4,4,5,4,5,5,6,4,5,5,6,5,6,6,7,2,3,3,4,3,4,4,5,3,4,4,5,4,5,5,6,3,4,4,5,4,5,5,6,4,5,5,6,5,6,6,7,3,4,4,5,4,5,5,6,4,5,5,6,5,6,6,7,4,5,5,6,5,6,6,7,5,6,6,7,6,7,7,8]⟩:ByteArray)[(dT x0 (2^(min (24:Int).toNat (IntKind.bits .u32)))).toNat]? =some b1∧
 ((0:Int)≤(16:Int)∧
 Bd (IntKind.wrap .u32 (ar (IntKind.bits .u32) (dT x0 (2^(min (16:Int).toNat (IntKind.bits .u32))))&&&ar (IntKind.bits .u32) 255).toNat:Int) (fun n2=>
 ∃b3,(0:Int)≤n2∧(⟨#[0,1,1,2,1,2,2,3,1,2,2,3,2,3,3,4,1,2,2,3,2,3,3,4,2,3,3,4,3,4,4,5,1,2,2,3,2,3,3,4,2,3,3,4,3,4,4,5,2,3,3,4,3,4,4,5,3,4,4,5,4,5,5,6,1,2,2,3,2,3,3,4,2,3,3,4,3,4,4,5,2,3,3,4,3,4,4,5,3,4,4,5,4,5,5,6,2,3,3,4,3,4,4,5,3,4,4,5,4,5,5,6,3,4,4,5,4,5,5,6,4,5,5,6,5,6,6,7,1,2,2,3,2,3,3,4,2,3,3,4,3,4,4,5,2,3,3,4,3,4,4,5,3,4,4,5,4,5,5,6,2,3,3,4,3,4,4,5,3,4,4,5,4,5,5,6,3,4,4,5,4,5,5,6,4,5,5,6,5,6,6,7,2,3,3,4,3,4,4,5,3,4,4,5,4,5,5,6,3,4,4,5,4,5,5,6,4,5,5,6,5,6,6,7,3,4,4,5,4,5,5,6,4,5,5,6,5,6,6,7,4,5,5,6,5,6,6,7,5,6,6,7,6,7,7,8]⟩:ByteArray)[n2.toNat]? =some b3∧
 ((0:Int)≤(8:Int)∧
 Bd (IntKind.wrap .u32 (ar (IntKind.bits .u32) (dT x0 (2^(min (8:Int).toNat (IntKind.bits .u32))))&&&ar (IntKind.bits .u32) 255).toNat:Int) (fun n4=>
 ∃b5,(0:Int)≤n4∧(⟨#[0,1,1,2,1,2,2,3,1,2,2,3,2,3,3,4,1,2,2,3,2,3,3,4,2,3,3,4,3,4,4,5,1,2,2,3,2,3,3,4,2,3,3,4,3,4,4,5,2,3,3,4,3,4,4,5,3,4,4,5,4,5,5,6,1,2,2,3,2,3,3,4,2,3,3,4,3,4,4,5,2,3,3,4,3,4,4,5,3,4,4,5,4,5,5,6,2,3,3,4,3,4,4,5,3,4,4,5,4,5,5,6,3,4,4,5,4,5,5,6,4,5,5,6,5,6,6,7,1,2,2,3,2,3,3,4,2,3,3,4,3,4,4,5,2,3,3,4,3,4,4,5,3,4,4,5,4,5,5,6,2,3,3,4,3,4,4,5,3,4,4,5,4,5,5,6,3,4,4,5,4,5,5,6,4,5,5,6,5,6,6,7,2,3,3,4,3,4,4,5,3,4,4,5,4,5,5,6,3,4,4,5,4,5,5,6,4,5,5,6,5,6,6,7,3,4,4,5,4,5,5,6,4,5,5,6,5,6,6,7,4,5,5,6,5,6,6,7,5,6,6,7,6,7,7,8]⟩:ByteArray)[n4.toNat]? =some b5∧
 Bd (IntKind.wrap .u8 ((IntKind.wrap .u8 ((b1.toNat:Int)+(b3.toNat:Int)))+(b5.toNat:Int)):Int) (fun n6=>
 Bd (IntKind.wrap .u32 (ar (IntKind.bits .u32) x0&&&ar (IntKind.bits .u32) 255).toNat:Int) (fun n7=>
 ∃b8,(0:Int)≤n7∧(⟨#[0,1,1,2,1,2,2,3,1,2,2,3,2,3,3,4,1,2,2,3,2,3,3,4,2,3,3,4,3,4,4,5,1,2,2,3,2,3,3,4,2,3,3,4,3,4,4,5,2,3,3,4,3,4,4,5,3,4,4,5,4,5,5,6,1,2,2,3,2,3,3,4,2,3,3,4,3,4,4,5,2,3,3,4,3,4,4,5,3,4,4,5,4,5,5,6,2,3,3,4,3,4,4,5,3,4,4,5,4,5,5,6,3,4,4,5,4,5,5,6,4,5,5,6,5,6,6,7,1,2,2,3,2,3,3,4,2,3,3,4,3,4,4,5,2,3,3,4,3,4,4,5,3,4,4,5,4,5,5,6,2,3,3,4,3,4,4,5,3,4,4,5,4,5,5,6,3,4,4,5,4,5,5,6,4,5,5,6,5,6,6,7,2,3,3,4,3,4,4,5,3,4,4,5,4,5,5,6,3,4,4,5,4,5,5,6,4,5,5,6,5,6,6,7,3,4,4,5,4,5,5,6,4,5,5,6,5,6,6,7,4,5,5,6,5,6,6,7,5,6,6,7,6,7,7,8]⟩:ByteArray)[n7.toNat]? =some b8∧
 K (IntKind.wrap .i64 (IntKind.wrap .u8 (n6+(b8.toNat:Int)))) h0)))))))
theorem vJ(x0:Int){K:cQ bX→ad→Prop}{h0:ad}(h:pL x0 K h0):HC PG kS [.int .u32 x0] bX K h0:=dG .nil Tryz.func210 Tryz.call210 rfl rfl (by kernel_rfl) h
def jB(x0:SliceV)(x1:Int)(x2:Int)(x3:Option Addr)(x4:Value)(K:(Int×Int)→ad→Prop)(h0:ad):Prop:=
 (cj x2 x0.len∧∃a1,x0.a=some a1∧
 ∃v2,aD h0 (adr a1 (x2.toNat*5)) 0 v2∧
 ∃v3,aD h0 (adr a1 (x2.toNat*5)) 1 v3∧
 ∃v4,aD h0 (adr a1 (x2.toNat*5)) 2 v4∧
 ∃v5,bI h0 (adr a1 (x2.toNat*5)) 3 v5∧
 ∃v6,bI h0 (adr a1 (x2.toNat*5)) 4 v6∧
 (cj x1 x0.len∧∃a7,x0.a=some a7∧
 ∃v8,aD h0 (adr a7 (x1.toNat*5)) 0 v8∧
 ∃v9,aD h0 (adr a7 (x1.toNat*5)) 1 v9∧
 ∃v10,aD h0 (adr a7 (x1.toNat*5)) 2 v10∧
 ∃v11,bI h0 (adr a7 (x1.toNat*5)) 3 v11∧
 ∃v12,bI h0 (adr a7 (x1.toNat*5)) 4 v12∧
 HV PG x4 [ma v2 v3 v4 v5 v6,ma v8 v9 v10 v11 v12] bX (fun(e13:Int) h14=>
 CondP (decide (e13<(0:Int))) (
 ∃a15,x3=some a15∧
 ∃v16,aS h14 a15=some (.int .i64 v16)∧
 ∃a17,x3=some a17∧
 (Wr h14 a17∧
 At (hset h14 a17 (.int .i64 (IntKind.wrap .i64 (v16+1)))) (fun h18=>
 K (x2,x1) h18))) (
 K (x1,x2) h14)) h0))
theorem pu(x0:SliceV)(x1:Int)(x2:Int)(x3:Option Addr)(x4:Value){K:cQ xI→ad→Prop}{h0:ad}(h:jB x0 x1 x2 x3 x4 K h0):HC PG dB [.slice x0.a x0.len x0.cap,.int .i64 x1,.int .i64 x2,.pointer x3,x4] xI K h0:=dG .nil Tryz.func211 Tryz.call211 rfl rfl (by kernel_rfl) h
def il(x0:SliceV)(K:(SliceV)→ad→Prop)(h0:ad):Prop:=
 CondP x0.a.isNone (
 K ⟨none,0,0⟩ h0) (
 At (hnew h0 [] bU) (fun h1=>
 ∃xs2,SRow h1 x0.a (x0.len*1) xs2∧
 AppP (some [.pointer none]) 1 8 bU (some (ag h0)) 0 0 x0.len xs2 h1 (fun s3 h4=>
 K s3 h4)))
theorem mf(x0:SliceV){K:cQ [.c .slice]→ad→Prop}{h0:ad}(h:il x0 K h0):HC PG dC [.slice x0.a x0.len x0.cap] [.c .slice] K h0:=dG .nil Tryz.func212 Tryz.call212 rfl rfl (by kernel_rfl) h
def lj(x0:ByteArray)(x1:ByteArray)(K:(Bool)→ad→Prop)(h0:ad):Prop:=
 CondP (decide ((x0.size:Int)≥(x1.size:Int))) (
 (((0:Int)≤(x1.size:Int)∧(x1.size:Int)≤((x0.size:Nat):Int))∧
 K ((x0.extract 0 ((x1.size:Int).toNat)).toList==x1.toList) h0)) (
 K false h0)
theorem rS(x0:ByteArray)(x1:ByteArray){K:cQ [.c .bool]→ad→Prop}{h0:ad}(h:lj x0 x1 K h0):HC PG li (jH x0 x1) [.c .bool] K h0:=dG .nil Tryz.func213 Tryz.call213 rfl rfl (by kernel_rfl) h
def oM(x0:Int)(x1:Int)(K:(Int)→ad→Prop)(h0:ad):Prop:=
 Bd (IntKind.wrap .u64 (ar (IntKind.bits .u64) (IntKind.wrap .u64 x1)&&&ar (IntKind.bits .u64) 63).toNat:Int) (fun n1=>
 ((0:Int)≤n1∧
 Bd (IntKind.wrap .u64 (x0*2^(min (n1:Int).toNat (IntKind.bits .u64))):Int) (fun n2=>
 ((0:Int)≤(IntKind.wrap .u64 (64-n1))∧
 Bd (dT x0 (2^(min (IntKind.wrap .u64 (64-n1):Int).toNat (IntKind.bits .u64))):Int) (fun n3=>
 Bd (IntKind.wrap .u64 (ar (IntKind.bits .u64) n2|||ar (IntKind.bits .u64) n3).toNat:Int) (fun n4=>
 K n4 h0))))))
theorem vg(x0:Int)(x1:Int){K:cQ gC→ad→Prop}{h0:ad}(h:oM x0 x1 K h0):HC PG du (sS x0 x1) gC K h0:=dG .nil Tryz.func214 Tryz.call214 rfl rfl (by kernel_rfl) h
def CQ(x0:Option Addr)(K:(SliceV×SliceV)→ad→Prop)(h0:ad):Prop:=
 At (hnew h0 US dW) (fun h1=>
 HC PG eW [.pointer x0] [.c .slice] (fun(e2:SliceV) h3=>
 HC PG nD [.pointer x0] [.c .slice] (fun(e4:SliceV) h5=>
 (cp h5 h0 (Qv e2 e4) (fun h6=>
 ∃v7:SliceV,df h6 h0 0 v7∧
 ∃v8:SliceV,df h6 h0 1 v8∧
 K (v7,v8) h6))) h3) h1)
theorem HZ(x0:Option Addr){K:cQ HD→ad→Prop}{h0:ad}(h:CQ x0 K h0):HC PG vx [.pointer x0] HD K h0:=dG .nil Tryz.func217 Tryz.call217 rfl rfl (by kernel_rfl) h
def iB(x0:SliceV)(x1:Int)(x2:Int)(x3:Value)(K:(Unit)→ad→Prop)(h0:ad):Prop:=
 LoopP (fun I1 (t2:Int) h3=>
 CondP (decide (t2<x2)) (
 LoopP (fun I4 (t5:Int) h6=>
 Join (fun(t16:Bool) h17=>
 CondP t16 (
 (cj (IntKind.wrap .i64 (t5-1)) x0.len∧∃a18,x0.a=some a18∧
 ∃v19,ay h17 (adr a18 ((IntKind.wrap .i64 (t5-1)).toNat*2)) 0 (.string v19)∧
 ∃v20,ay h17 (adr a18 ((IntKind.wrap .i64 (t5-1)).toNat*2)) 1 (.string v20)∧
 (cj t5 x0.len∧∃a21,x0.a=some a21∧
 ∃v22,aD h17 (adr a21 (t5.toNat*2)) 0 v22∧
 ∃v23,aD h17 (adr a21 (t5.toNat*2)) 1 v23∧
 (cj t5 x0.len∧∃a24,x0.a=some a24∧
 (fC h17 (adr a24 (t5.toNat*2)) (jH v19 v20) (fun h25=>
 (cj (IntKind.wrap .i64 (t5-1)) x0.len∧∃a26,x0.a=some a26∧
 (fC h25 (adr a26 ((IntKind.wrap .i64 (t5-1)).toNat*2)) (jH v22 v23) (fun h27=>
 I4 (IntKind.wrap .i64 (t5-1)) h27))))))))) (
 I1 (IntKind.wrap .i64 (t2+1)) h17)) (fun J7=>
 CondP (decide (t5>x1)) (
 (cj t5 x0.len∧∃a8,x0.a=some a8∧
 ∃v9,aD h6 (adr a8 (t5.toNat*2)) 0 v9∧
 ∃v10,aD h6 (adr a8 (t5.toNat*2)) 1 v10∧
 (cj (IntKind.wrap .i64 (t5-1)) x0.len∧∃a11,x0.a=some a11∧
 ∃v12,ay h6 (adr a11 ((IntKind.wrap .i64 (t5-1)).toNat*2)) 0 (.string v12)∧
 ∃v13,ay h6 (adr a11 ((IntKind.wrap .i64 (t5-1)).toNat*2)) 1 (.string v13)∧
 HV PG x3 [qF v9 v10,qF v12 v13] bX (fun(e14:Int) h15=>
 J7 (decide (e14<(0:Int))) h15) h6))) (
 J7 false h6))) t2 h3) (
 K () h3)) (IntKind.wrap .i64 (x1+1)) h0
noncomputable def mJ:Ann:=.node .nil (.loop [(8,.c (.int .i64))] (.node .nil (.node (.node .nil (.loop [(9,.c (.int .i64))] (.node (.join [(34,.c .bool)] .nil .nil) .nil))) .nil)))
theorem mH(x0:SliceV)(x1:Int)(x2:Int)(x3:Value){K:cQ []→ad→Prop}{h0:ad}(h:iB x0 x1 x2 x3 K h0):HC PG dF [.slice x0.a x0.len x0.cap,.int .i64 x1,.int .i64 x2,x3] [] K h0:=dG mJ Tryz.func218 Tryz.call218 rfl rfl (by kernel_rfl) h
def jA(x0:SliceV)(x1:Int)(x2:Int)(x3:Int)(x4:Value)(K:(Unit)→ad→Prop)(h0:ad):Prop:=
 CondP ((IntKind.wrap .i64 (x2-x1))==(1:Int)) (
 LoopP (fun I1 (t2:Int×Int) h3=>
 CondP (decide (t2.1<t2.2)) (
 ((0:Int)≤(1:Int)∧
 Bd (dT (IntKind.wrap .u64 (IntKind.wrap .i64 (t2.1+t2.2))) (2^(min (1:Int).toNat (IntKind.bits .u64))):Int) (fun n4=>
 (cj (IntKind.wrap .i64 n4) x0.len∧∃a5,x0.a=some a5∧
 ∃v6,aD h3 (adr a5 ((IntKind.wrap .i64 n4).toNat*2)) 0 v6∧
 ∃v7,aD h3 (adr a5 ((IntKind.wrap .i64 n4).toNat*2)) 1 v7∧
 (cj x1 x0.len∧∃a8,x0.a=some a8∧
 ∃v9,aD h3 (adr a8 (x1.toNat*2)) 0 v9∧
 ∃v10,aD h3 (adr a8 (x1.toNat*2)) 1 v10∧
 HV PG x4 [qF v6 v7,qF v9 v10] bX (fun(e11:Int) h12=>
 CondP (decide (e11<(0:Int))) (
 I1 (IntKind.wrap .i64 ((IntKind.wrap .i64 n4)+1),t2.2) h12) (
 I1 (t2.1,IntKind.wrap .i64 n4) h12)) h3))))) (
 LoopP (fun I13 (t14:Int) h15=>
 CondP (decide (t14<(IntKind.wrap .i64 (t2.1-1)))) (
 (cj (IntKind.wrap .i64 (t14+1)) x0.len∧∃a16,x0.a=some a16∧
 ∃v17,ay h15 (adr a16 ((IntKind.wrap .i64 (t14+1)).toNat*2)) 0 (.string v17)∧
 ∃v18,ay h15 (adr a16 ((IntKind.wrap .i64 (t14+1)).toNat*2)) 1 (.string v18)∧
 (cj t14 x0.len∧∃a19,x0.a=some a19∧
 ∃v20,aD h15 (adr a19 (t14.toNat*2)) 0 v20∧
 ∃v21,aD h15 (adr a19 (t14.toNat*2)) 1 v21∧
 (cj t14 x0.len∧∃a22,x0.a=some a22∧
 (fC h15 (adr a22 (t14.toNat*2)) (jH v17 v18) (fun h23=>
 (cj (IntKind.wrap .i64 (t14+1)) x0.len∧∃a24,x0.a=some a24∧
 (fC h23 (adr a24 ((IntKind.wrap .i64 (t14+1)).toNat*2)) (jH v20 v21) (fun h25=>
 I13 (IntKind.wrap .i64 (t14+1)) h25))))))))) (
 K () h15)) x1 h3)) (x2,x3) h0) (
 CondP ((IntKind.wrap .i64 (x3-x2))==(1:Int)) (
 LoopP (fun I26 (t27:Int×Int) h28=>
 CondP (decide (t27.1<t27.2)) (
 ((0:Int)≤(1:Int)∧
 Bd (dT (IntKind.wrap .u64 (IntKind.wrap .i64 (t27.1+t27.2))) (2^(min (1:Int).toNat (IntKind.bits .u64))):Int) (fun n29=>
 (cj x2 x0.len∧∃a30,x0.a=some a30∧
 ∃v31,aD h28 (adr a30 (x2.toNat*2)) 0 v31∧
 ∃v32,aD h28 (adr a30 (x2.toNat*2)) 1 v32∧
 (cj (IntKind.wrap .i64 n29) x0.len∧∃a33,x0.a=some a33∧
 ∃v34,aD h28 (adr a33 ((IntKind.wrap .i64 n29).toNat*2)) 0 v34∧
 ∃v35,aD h28 (adr a33 ((IntKind.wrap .i64 n29).toNat*2)) 1 v35∧
 HV PG x4 [qF v31 v32,qF v34 v35] bX (fun(e36:Int) h37=>
 CondP (!(decide (e36<(0:Int)))) (
 I26 (IntKind.wrap .i64 ((IntKind.wrap .i64 n29)+1),t27.2) h37) (
 I26 (t27.1,IntKind.wrap .i64 n29) h37)) h28))))) (
 LoopP (fun I38 (t39:Int) h40=>
 CondP (decide (t39>t27.1)) (
 (cj (IntKind.wrap .i64 (t39-1)) x0.len∧∃a41,x0.a=some a41∧
 ∃v42,ay h40 (adr a41 ((IntKind.wrap .i64 (t39-1)).toNat*2)) 0 (.string v42)∧
 ∃v43,ay h40 (adr a41 ((IntKind.wrap .i64 (t39-1)).toNat*2)) 1 (.string v43)∧
 (cj t39 x0.len∧∃a44,x0.a=some a44∧
 ∃v45,aD h40 (adr a44 (t39.toNat*2)) 0 v45∧
 ∃v46,aD h40 (adr a44 (t39.toNat*2)) 1 v46∧
 (cj t39 x0.len∧∃a47,x0.a=some a47∧
 (fC h40 (adr a47 (t39.toNat*2)) (jH v42 v43) (fun h48=>
 (cj (IntKind.wrap .i64 (t39-1)) x0.len∧∃a49,x0.a=some a49∧
 (fC h48 (adr a49 ((IntKind.wrap .i64 (t39-1)).toNat*2)) (jH v45 v46) (fun h50=>
 I38 (IntKind.wrap .i64 (t39-1)) h50))))))))) (
 K () h40)) x2 h28)) (x1,x2) h0) (
 ((0:Int)≤(1:Int)∧
 Bd (dT (IntKind.wrap .u64 (IntKind.wrap .i64 (x1+x3))) (2^(min (1:Int).toNat (IntKind.bits .u64))):Int) (fun n51=>
 Join (fun(t54:Int×Int) h55=>
 Bd (IntKind.wrap .i64 ((IntKind.wrap .i64 ((IntKind.wrap .i64 n51)+x2))-1):Int) (fun n56=>
 LoopP (fun I57 (t58:Int×Int) h59=>
 CondP (decide (t58.1<t58.2)) (
 ((0:Int)≤(1:Int)∧
 Bd (dT (IntKind.wrap .u64 (IntKind.wrap .i64 (t58.1+t58.2))) (2^(min (1:Int).toNat (IntKind.bits .u64))):Int) (fun n60=>
 (cj (IntKind.wrap .i64 (n56-(IntKind.wrap .i64 n60))) x0.len∧∃a61,x0.a=some a61∧
 ∃v62,ay h59 (adr a61 ((IntKind.wrap .i64 (n56-(IntKind.wrap .i64 n60))).toNat*2)) 0 (.string v62)∧
 ∃v63,ay h59 (adr a61 ((IntKind.wrap .i64 (n56-(IntKind.wrap .i64 n60))).toNat*2)) 1 (.string v63)∧
 (cj (IntKind.wrap .i64 n60) x0.len∧∃a64,x0.a=some a64∧
 ∃v65,aD h59 (adr a64 ((IntKind.wrap .i64 n60).toNat*2)) 0 v65∧
 ∃v66,aD h59 (adr a64 ((IntKind.wrap .i64 n60).toNat*2)) 1 v66∧
 HV PG x4 [qF v62 v63,qF v65 v66] bX (fun(e67:Int) h68=>
 CondP (!(decide (e67<(0:Int)))) (
 I57 (IntKind.wrap .i64 ((IntKind.wrap .i64 n60)+1),t58.2) h68) (
 I57 (t58.1,IntKind.wrap .i64 n60) h68)) h59))))) (
 Bd (IntKind.wrap .i64 ((IntKind.wrap .i64 ((IntKind.wrap .i64 n51)+x2))-t58.1):Int) (fun n69=>
 Join (fun(t76:Unit) h77=>
 Join (fun(t84:Unit) h85=>
 Join (fun(t87:Bool) h88=>
 CondP t87 (
 HC PG cR [.slice x0.a x0.len x0.cap,.int .i64 (IntKind.wrap .i64 n51),.int .i64 n69,.int .i64 x3,x4] [] (fun(e89:Unit) h90=>
 K () h90) h88) (
 K () h88)) (fun J86=>
 CondP (decide ((IntKind.wrap .i64 n51)<n69)) (
 J86 (decide (n69<x3)) h85) (
 J86 false h85))) (fun J78=>
 Join (fun(t80:Bool) h81=>
 CondP t80 (
 HC PG cR [.slice x0.a x0.len x0.cap,.int .i64 x1,.int .i64 t58.1,.int .i64 (IntKind.wrap .i64 n51),x4] [] (fun(e82:Unit) h83=>
 J78 () h83) h81) (
 J78 () h81)) (fun J79=>
 CondP (decide (x1<t58.1)) (
 J79 (decide (t58.1<(IntKind.wrap .i64 n51))) h77) (
 J79 false h77)))) (fun J70=>
 Join (fun(t72:Bool) h73=>
 CondP t72 (
 HC PG gD [.slice x0.a x0.len x0.cap,.int .i64 t58.1,.int .i64 x2,.int .i64 n69,x4] [] (fun(e74:Unit) h75=>
 J70 () h75) h73) (
 J70 () h73)) (fun J71=>
 CondP (decide (t58.1<x2)) (
 J71 (decide (x2<n69)) h59) (
 J71 false h59)))))) (t54.1,t54.2) h55)) (fun J52=>
 CondP (decide (x2>(IntKind.wrap .i64 n51))) (
 Bd (IntKind.wrap .i64 ((IntKind.wrap .i64 ((IntKind.wrap .i64 n51)+x2))-x3):Int) (fun n53=>
 J52 (n53,IntKind.wrap .i64 n51) h0)) (
 J52 (x1,x2) h0))))))
noncomputable def py:Ann:=.node (.node .nil (.node (.node .nil (.node .nil (.node (.loop [(10,.c (.int .i64)),(11,.c (.int .i64))] .nil) (.node (.node .nil (.loop [(13,.c (.int .i64))] .nil)) .nil)))) .nil)) (.node (.node .nil (.node (.node .nil (.node .nil (.node (.loop [(14,.c (.int .i64)),(15,.c (.int .i64))] .nil) (.node (.node .nil (.loop [(17,.c (.int .i64))] .nil)) .nil)))) .nil)) (.node .nil (.node .nil (.node .nil (.join [(20,.c (.int .i64)),(21,.c (.int .i64))] .nil (.node .nil (.node (.loop [(20,.c (.int .i64)),(21,.c (.int .i64))] .nil) (.node .nil (.join [] (.join [(185,.c .bool)] .nil .nil) (.join [] (.join [(199,.c .bool)] .nil .nil) (.join [(213,.c .bool)] .nil .nil)))))))))))
theorem pt(x0:SliceV)(x1:Int)(x2:Int)(x3:Int)(x4:Value){K:cQ []→ad→Prop}{h0:ad}(h:jA x0 x1 x2 x3 x4 K h0):HC PG cR [.slice x0.a x0.len x0.cap,.int .i64 x1,.int .i64 x2,.int .i64 x3,x4] [] K h0:=dG py Tryz.func219 Tryz.call219 rfl rfl (by kernel_rfl) h
def uJ(x0:Option Addr)(x1:Option Addr)(K:(Bool)→ad→Prop)(h0:ad):Prop:=
 CondP (!(x0.isNone)) (
 HC PG ip [.pointer x1] [.c .bool] (fun(e1:Bool) h2=>
 CondP e1 (
 ∃a3,x0=some a3∧
 ∃v4,bj h2 a3 5 v4∧
 (True∧(∀x y:Addr,v4=some x→x1=some y→fW h2 x∧fW h2 y)∧
 K (v4==x1) h2)) (
 K false h2)) h0) (
 K false h0)
theorem Bo(x0:Option Addr)(x1:Option Addr){K:cQ [.c .bool]→ad→Prop}{h0:ad}(h:uJ x0 x1 K h0):HC PG qc (mN x0 x1) [.c .bool] K h0:=dG .nil Tryz.func220 Tryz.call220 rfl rfl (by kernel_rfl) h
def iX(x0:SliceV)(K:(SliceV)→ad→Prop)(h0:ad):Prop:=
 LoopP (fun I1 (t2:Int×Int) h3=>
 CondP (decide (t2.2<(x0.len:Int))) (
 Join (fun(t7:Int) h8=>
 I1 (t7,IntKind.wrap .i64 (t2.2+1)) h8) (fun J4=>
 (cj t2.2 x0.len∧∃a5,x0.a=some a5∧
 ∃v6:SliceV,ay h3 a5 (t2.2.toNat*1) (.slice v6.a v6.len v6.cap)∧
 CondP (decide ((IntKind.wrap .i64 (t2.1+(v6.len:Int)))<(0:Int))) (
 False) (
 J4 (IntKind.wrap .i64 (t2.1+(v6.len:Int))) h3)))) (
 HC PG fX [.slice none 0 0,.int .i64 t2.1] [.c .slice] (fun(e9:SliceV) h10=>
 LoopP (fun I11 (t12:SliceV×Int) h13=>
 CondP (decide (t12.2<(x0.len:Int))) (
 Join (fun(t20:SliceV) h21=>
 I11 (t20,IntKind.wrap .i64 (t12.2+1)) h21) (fun J14=>
 (cj t12.2 x0.len∧∃a15,x0.a=some a15∧
 ∃v16:SliceV,ay h13 a15 (t12.2.toNat*1) (.slice v16.a v16.len v16.cap)∧
 ∃xs17,SRow h13 v16.a (v16.len*2) xs17∧
 AppP (some nZ) 2 32 af t12.1.a t12.1.len t12.1.cap v16.len xs17 h13 (fun s18 h19=>
 J14 s18 h19)))) (
 K t12.1 h13)) (e9,0) h10) h3)) (0,0) h0
noncomputable def nU:Ann:=.node .nil (.node .nil (.node (.node .nil (.loop [(3,.c (.int .i64)),(11,.c (.int .i64))] (.node .nil (.node .nil (.join [(3,.c (.int .i64))] .nil .nil))))) (.node .nil (.node (.node .nil (.loop [(6,.c .slice),(27,.c (.int .i64))] (.node .nil (.node .nil (.join [(6,.c .slice)] .nil .nil))))) .nil))))
theorem nN(x0:SliceV){K:cQ [.c .slice]→ad→Prop}{h0:ad}(h:iX x0 K h0):HC PG dS [.slice x0.a x0.len x0.cap] [.c .slice] K h0:=dG nU Tryz.func221 Tryz.call221 rfl rfl (by kernel_rfl) h
def gI(x0:SliceV)(x1:Int)(x2:Int)(x3:Value)(K:(Unit)→ad→Prop)(h0:ad):Prop:=
 LoopP (fun I1 (t2:Int) h3=>
 CondP (decide (t2<x2)) (
 LoopP (fun I4 (t5:Int) h6=>
 Join (fun(t18:Bool) h19=>
 CondP t18 (
 (cj (IntKind.wrap .i64 (t5-1)) x0.len∧∃a20,x0.a=some a20∧
 ∃v21,ay h19 (adr a20 ((IntKind.wrap .i64 (t5-1)).toNat*3)) 0 (.string v21)∧
 ∃v22,ay h19 (adr a20 ((IntKind.wrap .i64 (t5-1)).toNat*3)) 1 (.string v22)∧
 ∃v23,ay h19 (adr a20 ((IntKind.wrap .i64 (t5-1)).toNat*3)) 2 (.int .u64 v23)∧
 (cj t5 x0.len∧∃a24,x0.a=some a24∧
 ∃v25,aD h19 (adr a24 (t5.toNat*3)) 0 v25∧
 ∃v26,aD h19 (adr a24 (t5.toNat*3)) 1 v26∧
 ∃v27,aH h19 (adr a24 (t5.toNat*3)) 2 v27∧
 (cj t5 x0.len∧∃a28,x0.a=some a28∧
 (fC h19 (adr a28 (t5.toNat*3)) (JM v21 v22 v23) (fun h29=>
 (cj (IntKind.wrap .i64 (t5-1)) x0.len∧∃a30,x0.a=some a30∧
 (fC h29 (adr a30 ((IntKind.wrap .i64 (t5-1)).toNat*3)) (JM v25 v26 v27) (fun h31=>
 I4 (IntKind.wrap .i64 (t5-1)) h31))))))))) (
 I1 (IntKind.wrap .i64 (t2+1)) h19)) (fun J7=>
 CondP (decide (t5>x1)) (
 (cj t5 x0.len∧∃a8,x0.a=some a8∧
 ∃v9,aD h6 (adr a8 (t5.toNat*3)) 0 v9∧
 ∃v10,aD h6 (adr a8 (t5.toNat*3)) 1 v10∧
 ∃v11,aH h6 (adr a8 (t5.toNat*3)) 2 v11∧
 (cj (IntKind.wrap .i64 (t5-1)) x0.len∧∃a12,x0.a=some a12∧
 ∃v13,ay h6 (adr a12 ((IntKind.wrap .i64 (t5-1)).toNat*3)) 0 (.string v13)∧
 ∃v14,ay h6 (adr a12 ((IntKind.wrap .i64 (t5-1)).toNat*3)) 1 (.string v14)∧
 ∃v15,ay h6 (adr a12 ((IntKind.wrap .i64 (t5-1)).toNat*3)) 2 (.int .u64 v15)∧
 HV PG x3 [Ap v9 v10 v11,Ap v13 v14 v15] bX (fun(e16:Int) h17=>
 J7 (decide (e16<(0:Int))) h17) h6))) (
 J7 false h6))) t2 h3) (
 K () h3)) (IntKind.wrap .i64 (x1+1)) h0
noncomputable def lL:Ann:=.node .nil (.loop [(8,.c (.int .i64))] (.node .nil (.node (.node .nil (.loop [(9,.c (.int .i64))] (.node (.join [(34,.c .bool)] .nil .nil) .nil))) .nil)))
theorem lH(x0:SliceV)(x1:Int)(x2:Int)(x3:Value){K:cQ []→ad→Prop}{h0:ad}(h:gI x0 x1 x2 x3 K h0):HC PG dg [.slice x0.a x0.len x0.cap,.int .i64 x1,.int .i64 x2,x3] [] K h0:=dG lL Tryz.func222 Tryz.call222 rfl rfl (by kernel_rfl) h
def iW(x0:SliceV)(x1:Int)(x2:Int)(K:(SliceV)→ad→Prop)(h0:ad):Prop:=
 (((0:Int)≤(x0.len:Int)∧(x0.len:Int)≤((x0.cap:Nat):Int))∧
 (((0:Int)≤x2∧x2≤(((x0.len:Int).toNat:Nat):Int))∧
 (((0:Int)≤x1∧x1≤((x2.toNat:Nat):Int))∧
 CondP (x1==x2) (
 K x0 h0) (
 Join (fun(t5:SliceV) h6=>
 (((0:Int)≤(x0.len:Int)∧(x0.len:Int)≤((t5.cap:Nat):Int))∧
 (((0:Int)≤(t5.len:Int)∧(t5.len:Int)≤(((x0.len:Int).toNat:Nat):Int))∧
 Bd (aW t5.a ((t5.len:Int).toNat) t5.cap 2:Option Addr) (fun a7=>Bd (((x0.len:Int).toNat)-((t5.len:Int).toNat):Nat) (fun n8=>Bd (t5.cap-((t5.len:Int).toNat):Nat) (fun n9=>
 (qE h6 a7 0 (dQ n8 nZ)∧
 At (gn h6 a7 0 (dQ n8 nZ)) (fun h10=>
 K t5 h10)))))))) (fun J1=>
 (((0:Int)≤x1∧x1≤((x0.cap:Nat):Int))∧
 (((0:Int)≤x2∧x2≤((x0.len:Nat):Int))∧
 ∃xs2,SRow h0 (aW x0.a x2.toNat x0.cap 2) ((x0.len-x2.toNat)*2) xs2∧
 AppP (some nZ) 2 32 af (aW x0.a 0 x0.cap 2) (x1.toNat-0) (x0.cap-0) (x0.len-x2.toNat) xs2 h0 (fun s3 h4=>
 J1 s3 h4))))))))
noncomputable def nR:Ann:=.node .nil (.node .nil (.node .nil (.node .nil (.join [(0,.c .slice)] .nil .nil))))
theorem nM(x0:SliceV)(x1:Int)(x2:Int){K:cQ [.c .slice]→ad→Prop}{h0:ad}(h:iW x0 x1 x2 K h0):HC PG fx (JL x0 x1 x2) [.c .slice] K h0:=dG nR Tryz.func224 Tryz.call224 rfl rfl (by kernel_rfl) h
def g9(x0:SliceV)(x1:Int)(x2:Int)(K:(SliceV)→ad→Prop)(h0:ad):Prop:=
 (((0:Int)≤(x0.len:Int)∧(x0.len:Int)≤((x0.cap:Nat):Int))∧
 (((0:Int)≤x2∧x2≤(((x0.len:Int).toNat:Nat):Int))∧
 (((0:Int)≤x1∧x1≤((x2.toNat:Nat):Int))∧
 CondP (x1==x2) (
 K x0 h0) (
 Join (fun(t5:SliceV) h6=>
 (((0:Int)≤(x0.len:Int)∧(x0.len:Int)≤((t5.cap:Nat):Int))∧
 (((0:Int)≤(t5.len:Int)∧(t5.len:Int)≤(((x0.len:Int).toNat:Nat):Int))∧
 Bd (aW t5.a ((t5.len:Int).toNat) t5.cap 1:Option Addr) (fun a7=>Bd (((x0.len:Int).toNat)-((t5.len:Int).toNat):Nat) (fun n8=>Bd (t5.cap-((t5.len:Int).toNat):Nat) (fun n9=>
 (qE h6 a7 0 (dQ n8 [.pointer none])∧
 At (gn h6 a7 0 (dQ n8 [.pointer none])) (fun h10=>
 K t5 h10)))))))) (fun J1=>
 (((0:Int)≤x1∧x1≤((x0.cap:Nat):Int))∧
 (((0:Int)≤x2∧x2≤((x0.len:Nat):Int))∧
 ∃xs2,SRow h0 (aW x0.a x2.toNat x0.cap 1) ((x0.len-x2.toNat)*1) xs2∧
 AppP (some [.pointer none]) 1 8 bU (aW x0.a 0 x0.cap 1) (x1.toNat-0) (x0.cap-0) (x0.len-x2.toNat) xs2 h0 (fun s3 h4=>
 J1 s3 h4))))))))
noncomputable def l4:Ann:=.node .nil (.node .nil (.node .nil (.node .nil (.join [(0,.c .slice)] .nil .nil))))
theorem lY(x0:SliceV)(x1:Int)(x2:Int){K:cQ [.c .slice]→ad→Prop}{h0:ad}(h:g9 x0 x1 x2 K h0):HC PG eN (JL x0 x1 x2) [.c .slice] K h0:=dG l4 Tryz.func225 Tryz.call225 rfl rfl (by kernel_rfl) h
def rU(x0:Int)(x1:Int)(K:(Int)→ad→Prop)(h0:ad):Prop:=
 HC PG oF [.int .i64 x1] [.c .bool] (fun(e1:Bool) h2=>
 CondP (!e1) (
 K x0 h2) (
 ((0:Int)≤x1∧
 Bd (IntKind.wrap .u32 (ar (IntKind.bits .u32) x0&&& ~~~ar (IntKind.bits .u32) (IntKind.wrap .u32 (1*2^(min (x1:Int).toNat (IntKind.bits .u32))))).toNat:Int) (fun n3=>
 K n3 h2)))) h0
theorem yd(x0:Int)(x1:Int){K:cQ kQ→ad→Prop}{h0:ad}(h:rU x0 x1 K h0):HC PG ke (pe x0 x1) kQ K h0:=dG .nil Tryz.func226 Tryz.call226 rfl rfl (by kernel_rfl) h
def kg(x0:SliceV)(x1:Int)(x2:Int)(x3:Int)(x4:Value)(K:(Unit)→ad→Prop)(h0:ad):Prop:=
 LoopP (fun I1 (t2:Int×Int) h3=>
 CondP (t2.1 !=t2.2) (
 CondP (decide (t2.1>t2.2)) (
 HC PG dq [.slice x0.a x0.len x0.cap,.int .i64 (IntKind.wrap .i64 (x2-t2.1)),.int .i64 x2,.int .i64 t2.2,x4] [] (fun(e4:Unit) h5=>
 I1 (IntKind.wrap .i64 (t2.1-t2.2),t2.2) h5) h3) (
 HC PG dq [.slice x0.a x0.len x0.cap,.int .i64 (IntKind.wrap .i64 (x2-t2.1)),.int .i64 (IntKind.wrap .i64 ((IntKind.wrap .i64 (x2+t2.2))-t2.1)),.int .i64 t2.1,x4] [] (fun(e6:Unit) h7=>
 I1 (t2.1,IntKind.wrap .i64 (t2.2-t2.1)) h7) h3)) (
 HC PG dq [.slice x0.a x0.len x0.cap,.int .i64 (IntKind.wrap .i64 (x2-t2.1)),.int .i64 x2,.int .i64 t2.1,x4] [] (fun(e8:Unit) h9=>
 K () h9) h3)) (IntKind.wrap .i64 (x2-x1),IntKind.wrap .i64 (x3-x2)) h0
noncomputable def qp:Ann:=.node .nil (.node .nil (.node (.loop [(10,.c (.int .i64)),(11,.c (.int .i64))] .nil) .nil))
theorem qj(x0:SliceV)(x1:Int)(x2:Int)(x3:Int)(x4:Value){K:cQ []→ad→Prop}{h0:ad}(h:kg x0 x1 x2 x3 x4 K h0):HC PG gD [.slice x0.a x0.len x0.cap,.int .i64 x1,.int .i64 x2,.int .i64 x3,x4] [] K h0:=dG qp Tryz.func234 Tryz.call234 rfl rfl (by kernel_rfl) h
def jp(x0:SliceV)(x1:Int)(K:(SliceV)→ad→Prop)(h0:ad):Prop:=
 Join (fun(t2:Unit) h3=>
 Bd (IntKind.wrap .i64 (x1-(IntKind.wrap .i64 ((x0.cap:Int)-(x0.len:Int)))):Int) (fun n4=>
 CondP (decide (n4>(0:Int))) (
 (((0:Int)≤(x0.cap:Int)∧(x0.cap:Int)≤((x0.cap:Nat):Int))∧
 (((0:Int)≤n4∧n4*((32:Nat):Int)≤2^48∧n4≤9223372036854775807∧(((((x0.cap:Int).toNat)-0)+n4.toNat:Nat):Int)≤9223372036854775807)∧
 AppP (some nZ) 2 32 af (aW x0.a 0 x0.cap 2) (((x0.cap:Int).toNat)-0) (x0.cap-0) n4.toNat (dQ n4.toNat nZ) h3 (fun s5 h6=>
 (((0:Int)≤(x0.len:Int)∧(x0.len:Int)≤((s5.cap:Nat):Int))∧
 K ⟨aW s5.a 0 s5.cap 2,((x0.len:Int).toNat)-0,s5.cap-0⟩ h6))))) (
 K x0 h3))) (fun J1=>
 CondP (decide (x1<(0:Int))) (
 False) (
 J1 () h0))
noncomputable def oT:Ann:=.node .nil (.join [] .nil .nil)
theorem oL(x0:SliceV)(x1:Int){K:cQ [.c .slice]→ad→Prop}{h0:ad}(h:jp x0 x1 K h0):HC PG fX (Sy x0 x1) [.c .slice] K h0:=dG oT Tryz.func235 Tryz.call235 rfl rfl (by kernel_rfl) h
def jn(x0:SliceV)(x1:Int)(x2:Int)(x3:Int)(x4:Value)(K:(Unit)→ad→Prop)(h0:ad):Prop:=
 LoopP (fun I1 (t2:Int) h3=>
 CondP (decide (t2<x3)) (
 (cj (IntKind.wrap .i64 (x2+t2)) x0.len∧∃a4,x0.a=some a4∧
 ∃v5,ay h3 (adr a4 ((IntKind.wrap .i64 (x2+t2)).toNat*2)) 0 (.string v5)∧
 ∃v6,ay h3 (adr a4 ((IntKind.wrap .i64 (x2+t2)).toNat*2)) 1 (.string v6)∧
 (cj (IntKind.wrap .i64 (x1+t2)) x0.len∧∃a7,x0.a=some a7∧
 ∃v8,ay h3 (adr a7 ((IntKind.wrap .i64 (x1+t2)).toNat*2)) 0 (.string v8)∧
 ∃v9,ay h3 (adr a7 ((IntKind.wrap .i64 (x1+t2)).toNat*2)) 1 (.string v9)∧
 (cj (IntKind.wrap .i64 (x1+t2)) x0.len∧∃a10,x0.a=some a10∧
 (fC h3 (adr a10 ((IntKind.wrap .i64 (x1+t2)).toNat*2)) (jH v5 v6) (fun h11=>
 (cj (IntKind.wrap .i64 (x2+t2)) x0.len∧∃a12,x0.a=some a12∧
 (fC h11 (adr a12 ((IntKind.wrap .i64 (x2+t2)).toNat*2)) (jH v8 v9) (fun h13=>
 I1 (IntKind.wrap .i64 (t2+1)) h13))))))))) (
 K () h3)) 0 h0
noncomputable def oN:Ann:=.node .nil (.loop [(10,.c (.int .i64))] .nil)
theorem oJ(x0:SliceV)(x1:Int)(x2:Int)(x3:Int)(x4:Value){K:cQ []→ad→Prop}{h0:ad}(h:jn x0 x1 x2 x3 x4 K h0):HC PG dq [.slice x0.a x0.len x0.cap,.int .i64 x1,.int .i64 x2,.int .i64 x3,x4] [] K h0:=dG oN Tryz.func240 Tryz.call240 rfl rfl (by kernel_rfl) h
end Go.Proofs
