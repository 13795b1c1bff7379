/- A part of the proof that the named laws of this program answer true, whatever the input. -/
import Derived.Test.YtncppacbfagpgaaGreatDoorTreeF
set_option maxRecDepth 100000
set_option linter.unusedVariables false
open Int renaming tmod→kM
namespace Go.Proofs
open Go.Lift
def wg(x0:Int)(x1:Int)(x2:Int×Int×Int)(x3:Int×Int×Int)(x4:SliceV)(x5:Int)(x6:Int)(K:(Bool)→ae→Prop)(h0:ae):Prop:=
 At (hnew h0 (zt x2) co) (fun h1=>
 At (hnew h1 (zt x3) co) (fun h2=>
 HC PG yj [] [.c .bool] (fun(e3:Bool) h4=>
 CondP (!e3) (
 K false h4) (
 ∃v5,af h4 h0 0 v5∧
 ∃v6,af h4 h0 1 v6∧
 ∃v7,af h4 h0 2 v7∧
 HC PG ur [.int .u8 x0,vr v5 v6 v7] KU (fun(e8:(T6)×(T5)) h9=>
 At (hnew h9 xB bI) (fun h10=>
 At (hnew h10 HH cG) (fun h11=>
 (di h11 h9 (pj e8.1) (fun h12=>
 (di h12 h10 (CM e8.2) (fun h13=>
 ∃v14,af h13 h1 0 v14∧
 ∃v15,af h13 h1 1 v15∧
 ∃v16,af h13 h1 2 v16∧
 HC PG ur [.int .u8 x1,vr v14 v15 v16] KU (fun(e17:(T6)×(T5)) h18=>
 At (hnew h18 xB bI) (fun h19=>
 At (hnew h19 HH cG) (fun h20=>
 (di h20 h18 (pj e17.1) (fun h21=>
 (di h21 h19 (CM e17.2) (fun h22=>
 ∃v23,aU h22 h9 0 v23∧
 ∃v24,af h22 h9 1 v24∧
 ∃v25,af h22 h9 2 v25∧
 ∃v26,af h22 h9 3 v26∧
 ∃v27,aH h22 h9 4 v27∧
 ∃v28,aH h22 h9 5 v28∧
 ∃v29,aU h22 h10 0 v29∧
 ∃v30,af h22 h10 1 v30∧
 ∃v31,af h22 h10 2 v31∧
 ∃v32,af h22 h10 3 v32∧
 ∃v33:SliceV,cx h22 h10 4 v33∧
 HC PG uq [sQ v23 v24 v25 v26 v27 v28,CR v29 v30 v31 v32 v33,.slice x4.a x4.len x4.cap,.slice none 0 0] KU (fun(e34:(T6)×(T5)) h35=>
 At (hnew h35 xB bI) (fun h36=>
 At (hnew h36 HH cG) (fun h37=>
 (di h37 h35 (pj e34.1) (fun h38=>
 (di h38 h36 (CM e34.2) (fun h39=>
 ∃v40,aU h39 h18 0 v40∧
 ∃v41,af h39 h18 1 v41∧
 ∃v42,af h39 h18 2 v42∧
 ∃v43,af h39 h18 3 v43∧
 ∃v44,aH h39 h18 4 v44∧
 ∃v45,aH h39 h18 5 v45∧
 ∃v46,aU h39 h19 0 v46∧
 ∃v47,af h39 h19 1 v47∧
 ∃v48,af h39 h19 2 v48∧
 ∃v49,af h39 h19 3 v49∧
 ∃v50:SliceV,cx h39 h19 4 v50∧
 HC PG uq [sQ v40 v41 v42 v43 v44 v45,CR v46 v47 v48 v49 v50,.slice x4.a x4.len x4.cap,.slice none 0 0] KU (fun(e51:(T6)×(T5)) h52=>
 At (hnew h52 xB bI) (fun h53=>
 At (hnew h53 HH cG) (fun h54=>
 (di h54 h52 (pj e51.1) (fun h55=>
 (di h55 h53 (CM e51.2) (fun h56=>
 ∃v57,aU h56 h35 0 v57∧
 ∃v58,af h56 h35 1 v58∧
 ∃v59,af h56 h35 2 v59∧
 ∃v60,af h56 h35 3 v60∧
 ∃v61,aH h56 h35 4 v61∧
 ∃v62,aH h56 h35 5 v62∧
 ∃v63,aU h56 h35 0 v63∧
 ∃v64,af h56 h35 1 v64∧
 ∃v65,af h56 h35 2 v65∧
 ∃v66,af h56 h35 3 v66∧
 ∃v67,aH h56 h35 4 v67∧
 ∃v68,aH h56 h35 5 v68∧
 ∃v69,aU h56 h35 0 v69∧
 ∃v70,af h56 h35 1 v70∧
 ∃v71,af h56 h35 2 v71∧
 ∃v72,af h56 h35 3 v72∧
 ∃v73,aH h56 h35 4 v73∧
 ∃v74,aH h56 h35 5 v74∧
 nv h56 zl3 HP (vl3 v57 v58 v59 v60 v61 v62 v63 v64 v65 v66 v67 v68 v69 v70 v71 v72 v73 v74) (fun h76=>
 ∃v77,aU h76 h36 0 v77∧
 ∃v78,af h76 h36 1 v78∧
 ∃v79,af h76 h36 2 v79∧
 ∃v80,af h76 h36 3 v80∧
 ∃v81:SliceV,cx h76 h36 4 v81∧
 ∃v82,aU h76 h36 0 v82∧
 ∃v83,af h76 h36 1 v83∧
 ∃v84,af h76 h36 2 v84∧
 ∃v85,af h76 h36 3 v85∧
 ∃v86:SliceV,cx h76 h36 4 v86∧
 ∃v87,aU h76 h36 0 v87∧
 ∃v88,af h76 h36 1 v88∧
 ∃v89,af h76 h36 2 v89∧
 ∃v90,af h76 h36 3 v90∧
 ∃v91:SliceV,cx h76 h36 4 v91∧
 nv h76 zl4 Kq (Yl v77 v78 v79 v80 v81 v82 v83 v84 v85 v86 v87 v88 v89 v90 v91) (fun h93=>
 ((3:Int)≠0∧
 ((3:Int)≠0∧
 ∃v94,aU h93 h52 0 v94∧
 ∃v95,af h93 h52 1 v95∧
 ∃v96,af h93 h52 2 v96∧
 ∃v97,af h93 h52 3 v97∧
 ∃v98,aH h93 h52 4 v98∧
 ∃v99,aH h93 h52 5 v99∧
 ∃v100,aU h93 h53 0 v100∧
 ∃v101,af h93 h53 1 v101∧
 ∃v102,af h93 h53 2 v102∧
 ∃v103,af h93 h53 3 v103∧
 ∃v104:SliceV,cx h93 h53 4 v104∧
 (cB (kM x5 3) 3∧
 (ml h93 (adr (aE h56) ((kM x5 3).toNat*6)) (Fz v94 v95 v96 v97 v98 v99) (fun h105=>
 ((aU h105 h53 0 v100∧af h105 h53 1 v101∧af h105 h53 2 v102∧af h105 h53 3 v103∧cx h105 h53 4 v104)∧
 (cB (kM x5 3) 3∧
 (ml h105 (adr (aE h76) ((kM x5 3).toNat*5)) (LS v100 v101 v102 v103 v104) (fun h106=>
 (cB 0 3∧
 ∃v107,zr h106 (adr (aE h56) ((0:Int).toNat*6)) 0 v107∧
 ∃v108,cM h106 (adr (aE h56) ((0:Int).toNat*6)) 1 v108∧
 ∃v109,cM h106 (adr (aE h56) ((0:Int).toNat*6)) 2 v109∧
 ∃v110,cM h106 (adr (aE h56) ((0:Int).toNat*6)) 3 v110∧
 ∃v111,rX h106 (adr (aE h56) ((0:Int).toNat*6)) 4 v111∧
 ∃v112,rX h106 (adr (aE h56) ((0:Int).toNat*6)) 5 v112∧
 (cB 1 3∧
 ∃v113,zr h106 (adr (aE h56) ((1:Int).toNat*6)) 0 v113∧
 ∃v114,cM h106 (adr (aE h56) ((1:Int).toNat*6)) 1 v114∧
 ∃v115,cM h106 (adr (aE h56) ((1:Int).toNat*6)) 2 v115∧
 ∃v116,cM h106 (adr (aE h56) ((1:Int).toNat*6)) 3 v116∧
 ∃v117,rX h106 (adr (aE h56) ((1:Int).toNat*6)) 4 v117∧
 ∃v118,rX h106 (adr (aE h56) ((1:Int).toNat*6)) 5 v118∧
 (cB (2:Int) 3∧
 ∃v119,zr h106 (adr (aE h56) ((2:Int).toNat*6)) 0 v119∧
 ∃v120,cM h106 (adr (aE h56) ((2:Int).toNat*6)) 1 v120∧
 ∃v121,cM h106 (adr (aE h56) ((2:Int).toNat*6)) 2 v121∧
 ∃v122,cM h106 (adr (aE h56) ((2:Int).toNat*6)) 3 v122∧
 ∃v123,rX h106 (adr (aE h56) ((2:Int).toNat*6)) 4 v123∧
 ∃v124,rX h106 (adr (aE h56) ((2:Int).toNat*6)) 5 v124∧
 HC PG qF [sQ v107 v108 v109 v110 v111 v112,sQ v113 v114 v115 v116 v117 v118,sQ v119 v120 v121 v122 v123 v124,.int .i64 x6] Sn (fun(e125:(T6)×SliceV×Int) h126=>
 nv h126 xB bI (pj e125.1) (fun h128=>
 (cB 0 3∧
 ∃v129,zr h128 (adr (aE h76) ((0:Int).toNat*5)) 0 v129∧
 ∃v130,cM h128 (adr (aE h76) ((0:Int).toNat*5)) 1 v130∧
 ∃v131,cM h128 (adr (aE h76) ((0:Int).toNat*5)) 2 v131∧
 ∃v132,cM h128 (adr (aE h76) ((0:Int).toNat*5)) 3 v132∧
 ∃v133:SliceV,bR h128 (adr (aE h76) ((0:Int).toNat*5)) 4 v133∧
 (cB 1 3∧
 ∃v134,zr h128 (adr (aE h76) ((1:Int).toNat*5)) 0 v134∧
 ∃v135,cM h128 (adr (aE h76) ((1:Int).toNat*5)) 1 v135∧
 ∃v136,cM h128 (adr (aE h76) ((1:Int).toNat*5)) 2 v136∧
 ∃v137,cM h128 (adr (aE h76) ((1:Int).toNat*5)) 3 v137∧
 ∃v138:SliceV,bR h128 (adr (aE h76) ((1:Int).toNat*5)) 4 v138∧
 (cB (2:Int) 3∧
 ∃v139,zr h128 (adr (aE h76) ((2:Int).toNat*5)) 0 v139∧
 ∃v140,cM h128 (adr (aE h76) ((2:Int).toNat*5)) 1 v140∧
 ∃v141,cM h128 (adr (aE h76) ((2:Int).toNat*5)) 2 v141∧
 ∃v142,cM h128 (adr (aE h76) ((2:Int).toNat*5)) 3 v142∧
 ∃v143:SliceV,bR h128 (adr (aE h76) ((2:Int).toNat*5)) 4 v143∧
 HC PG yf [CR v129 v130 v131 v132 v133,CR v134 v135 v136 v137 v138,CR v139 v140 v141 v142 v143,.int .i64 x6] Wq (fun(e144:(T5)×SliceV×Int) h145=>
 nv h145 HH cG (CM e144.1) (fun h147=>
 CondP (e125.2.2==e144.2.2) (
 ∃v148,aU h147 h126 0 v148∧
 ∃v149,af h147 h126 1 v149∧
 ∃v150,af h147 h126 2 v150∧
 ∃v151,af h147 h126 3 v151∧
 ∃v152,aH h147 h126 4 v152∧
 ∃v153,aH h147 h126 5 v153∧
 ∃v154,aU h147 h145 0 v154∧
 ∃v155,af h147 h145 1 v155∧
 ∃v156,af h147 h145 2 v156∧
 ∃v157,af h147 h145 3 v157∧
 ∃v158:SliceV,cx h147 h145 4 v158∧
 HC PG AD [sQ v148 v149 v150 v151 v152 v153,CR v154 v155 v156 v157 v158] [.c .bool] (fun(e159:Bool) h160=>
 CondP e159 (
 HC PG AC (Qi e125.2.1 e144.2.1) [.c .bool] (fun(e161:Bool) h162=>
 K e161 h162) h160) (
 K false h160)) h147) (
 K false h147))) h128))))) h106))))))))))))))))))))) h39))))))) h22))))))) h13))))))) h4)) h2))
theorem DL(x0:Int)(x1:Int)(x2:Int×Int×Int)(x3:Int×Int×Int)(x4:SliceV)(x5:Int)(x6:Int){K:cQ [.c .bool]→ae→Prop}{h0:ae}(h:wg x0 x1 x2 x3 x4 x5 x6 K h0):HC PG vI [.int .u8 x0,.int .u8 x1,LL x2,LL x3,.slice x4.a x4.len x4.cap,.int .u8 x5,.int .i64 x6] [.c .bool] K h0:=dL .nil Tryz.func9 Tryz.call9 rfl rfl (by kernel_rfl) h
def CF(x0:Int)(x1:Int×Int×Int)(x2:SliceV)(K:((T6)×Int)→ae→Prop)(h0:ae):Prop:=
 At (hnew h0 (zt x1) co) (fun h1=>
 At (hnew h1 xB bI) (fun h2=>
 ∃v3,af h2 h0 0 v3∧
 ∃v4,af h2 h0 1 v4∧
 ∃v5,af h2 h0 2 v5∧
 HC PG wI [.int .i64 x0,vr v3 v4 v5] vE (fun(e6:(T6)×Int) h7=>
 nv h7 xB bI (pj e6.1) (fun h9=>
 CondP (e6.2 !=(0:Int)) (
 (di h9 h1 xB (fun h10=>
 ∃v11,aU h10 h1 0 v11∧
 ∃v12,af h10 h1 1 v12∧
 ∃v13,af h10 h1 2 v13∧
 ∃v14,af h10 h1 3 v14∧
 ∃v15,aH h10 h1 4 v15∧
 ∃v16,aH h10 h1 5 v16∧
 K ((v11,v12,v13,v14,v15,v16),e6.2) h10))) (
 LoopP (fun I17 (t18:Int) h19=>
 CondP (decide (t18<(x2.len:Int))) (
 (cB t18 x2.len∧∃a20,x2.a=some a20∧
 ∃v21,aO h19 (adr a20 (t18.toNat*2)) 0 v21∧
 ∃v22,aO h19 (adr a20 (t18.toNat*2)) 1 v22∧
 nv h19 kZ al (ij v21 v22) (fun h24=>
 ∃v25,aw h24 h19 0 v25∧
 ∃v26,aw h24 h19 1 v26∧
 HC PG sG (ij v25 v26) cr (fun(e27:Int) h28=>
 CondP (e27 !=(0:Int)) (
 (di h28 h1 xB (fun h29=>
 ∃v30,aU h29 h1 0 v30∧
 ∃v31,af h29 h1 1 v31∧
 ∃v32,af h29 h1 2 v32∧
 ∃v33,af h29 h1 3 v33∧
 ∃v34,aH h29 h1 4 v34∧
 ∃v35,aH h29 h1 5 v35∧
 K ((v30,v31,v32,v33,v34,v35),e27) h29))) (
 I17 (IntKind.wrap .i64 (t18+1)) h28)) h24))) (
 CondP (x0==(1:Int)) (
 HC PG H4 [.slice x2.a x2.len x2.cap] [.c .ptr] (fun(e36:Option Addr) h37=>
 HC PG pM [.pointer e36] Am (fun(e38:T6) h39=>
 (di h39 h1 (pj e38) (fun h40=>
 ∃v41,aU h40 h1 0 v41∧
 ∃v42,af h40 h1 1 v42∧
 ∃v43,af h40 h1 2 v43∧
 ∃v44,af h40 h1 3 v44∧
 ∃v45,aH h40 h1 4 v45∧
 ∃v46,aH h40 h1 5 v46∧
 K ((v41,v42,v43,v44,v45,v46),0) h40))) h37) h19) (
 ∃v47,af h19 h0 0 v47∧
 ∃v48,af h19 h0 1 v48∧
 ∃v49,af h19 h0 2 v49∧
 ∃v50,af h19 h0 0 v50∧
 ∃v51,af h19 h0 1 v51∧
 ∃v52,af h19 h0 2 v52∧
 HC PG vg [vr v50 v51 v52,.slice x2.a x2.len x2.cap] [.c .ptr] (fun(e53:Option Addr) h54=>
 ((af h54 h0 0 v47∧af h54 h0 1 v48∧af h54 h0 2 v49)∧
 HC PG pN [vr v47 v48 v49,.pointer e53] Am (fun(e55:T6) h56=>
 (di h56 h1 (pj e55) (fun h57=>
 ∃v58,aU h57 h1 0 v58∧
 ∃v59,af h57 h1 1 v59∧
 ∃v60,af h57 h1 2 v60∧
 ∃v61,af h57 h1 3 v61∧
 ∃v62,aH h57 h1 4 v62∧
 ∃v63,aH h57 h1 5 v63∧
 K ((v58,v59,v60,v61,v62,v63),0) h57))) h54)) h19))) 0 h9))) h2))
noncomputable def LJ:Ann:=.node .nil (.node .nil (.node (.node .nil (.loop [(25,.c (.int .i64))] .nil)) .nil))
theorem LB(x0:Int)(x1:Int×Int×Int)(x2:SliceV){K:cQ vE→ae→Prop}{h0:ae}(h:CF x0 x1 x2 K h0):HC PG pU [.int .i64 x0,LL x1,.slice x2.a x2.len x2.cap] vE K h0:=dL LJ Tryz.func13 Tryz.call13 rfl rfl (by kernel_rfl) h
def He(x0:Int)(x1:Int×Int×Int)(K:((T6)×Int)→ae→Prop)(h0:ae):Prop:=
 At (hnew h0 (zt x1) co) (fun h1=>
 At (hnew h1 xB bI) (fun h2=>
 CondP (x0==(0:Int)) (
 ∃v3,af h2 h0 0 v3∧
 ∃v4,af h2 h0 1 v4∧
 ∃v5,af h2 h0 2 v5∧
 HC PG pN [vr v3 v4 v5,.pointer none] Am (fun(e6:T6) h7=>
 (di h7 h1 (pj e6) (fun h8=>
 ∃v9,aU h8 h1 0 v9∧
 ∃v10,af h8 h1 1 v10∧
 ∃v11,af h8 h1 2 v11∧
 ∃v12,af h8 h1 3 v12∧
 ∃v13,aH h8 h1 4 v13∧
 ∃v14,aH h8 h1 5 v14∧
 K ((v9,v10,v11,v12,v13,v14),0) h8))) h2) (
 CondP (x0==(1:Int)) (
 HC PG pM [.pointer none] Am (fun(e15:T6) h16=>
 (di h16 h1 (pj e15) (fun h17=>
 ∃v18,aU h17 h1 0 v18∧
 ∃v19,af h17 h1 1 v19∧
 ∃v20,af h17 h1 2 v20∧
 ∃v21,af h17 h1 3 v21∧
 ∃v22,aH h17 h1 4 v22∧
 ∃v23,aH h17 h1 5 v23∧
 K ((v18,v19,v20,v21,v22,v23),0) h17))) h2) (
 (di h2 h1 xB (fun h24=>
 ∃v25,aU h24 h1 0 v25∧
 ∃v26,af h24 h1 1 v26∧
 ∃v27,af h24 h1 2 v27∧
 ∃v28,af h24 h1 3 v28∧
 ∃v29,aH h24 h1 4 v29∧
 ∃v30,aH h24 h1 5 v30∧
 K ((v25,v26,v27,v28,v29,v30),11) h24))))))
theorem PC(x0:Int)(x1:Int×Int×Int){K:cQ vE→ae→Prop}{h0:ae}(h:He x0 x1 K h0):HC PG wI [.int .i64 x0,LL x1] vE K h0:=dL .nil Tryz.func18 Tryz.call18 rfl rfl (by kernel_rfl) h
def Hm(x0:SliceV)(x1:SliceV)(K:(Bool)→ae→Prop)(h0:ae):Prop:=
 CondP ((x0.len:Int) !=(x1.len:Int)) (
 K false h0) (
 LoopP (fun I1 (t2:Int) h3=>
 CondP (decide (t2<(x0.len:Int))) (
 (cB t2 x0.len∧∃a4,x0.a=some a4∧
 ∃v5,bM h3 a4 (t2.toNat*1) (.int .u8 v5)∧
 (cB t2 x1.len∧∃a6,x1.a=some a6∧
 ∃v7,bM h3 a6 (t2.toNat*1) (.int .u8 v7)∧
 CondP (v5 !=v7) (
 K false h3) (
 I1 (IntKind.wrap .i64 (t2+1)) h3)))) (
 K true h3)) 0 h0)
noncomputable def P3:Ann:=.node .nil (.node .nil (.node (.node .nil (.loop [(13,.c (.int .i64))] .nil)) .nil))
theorem PK(x0:SliceV)(x1:SliceV){K:cQ [.c .bool]→ae→Prop}{h0:ae}(h:Hm x0 x1 K h0):HC PG Ax (Qi x0 x1) [.c .bool] K h0:=dL P3 Tryz.func22 Tryz.call22 rfl rfl (by kernel_rfl) h
def uB(x0:T6)(K:(SliceV)→ae→Prop)(h0:ae):Prop:=
 At (hnew h0 (pj x0) bI) (fun h1=>
 ∃v2,aU h1 h0 0 v2∧
 CondP (v2==(1:Int)) (
 At (hnew h1 [.int .u8 1] cH) (fun h3=>
 ∃v4,aH h3 h0 5 v4∧
 HC PG ve [.pointer v4] [.c .slice] (fun(e5:SliceV) h6=>
 ∃xs7,SRow h6 e5.a (e5.len*1) xs7∧
 AppP (some [.int .u8 0]) 1 1 cH (some (aE h1)) 1 1 e5.len xs7 h6 (fun s8 h9=>
 K s8 h9)) h3)) (
 At (hnew h1 [.int .u8 0] cH) (fun h10=>
 ∃v11,aU h10 h0 0 v11∧
 ∃v12,af h10 h0 1 v12∧
 ∃v13,af h10 h0 2 v13∧
 ∃v14,af h10 h0 3 v14∧
 ∃v15,aH h10 h0 4 v15∧
 ∃v16,aH h10 h0 5 v16∧
 HC PG iQ [sQ v11 v12 v13 v14 v15 v16] [.c .ptr] (fun(e17:Option Addr) h18=>
 HC PG Au [.pointer e17] [.c .slice] (fun(e19:SliceV) h20=>
 ∃xs21,SRow h20 e19.a (e19.len*1) xs21∧
 AppP (some [.int .u8 0]) 1 1 cH (some (aE h1)) 1 1 e19.len xs21 h20 (fun s22 h23=>
 K s22 h23)) h18) h10)))
theorem B9(x0:T6){K:cQ [.c .slice]→ae→Prop}{h0:ae}(h:uB x0 K h0):HC PG pJ [Je x0] [.c .slice] K h0:=dL .nil Tryz.func23 Tryz.call23 rfl rfl (by kernel_rfl) h
def Ey(x0:T5)(K:(SliceV)→ae→Prop)(h0:ae):Prop:=
 At (hnew h0 (CM x0) cG) (fun h1=>
 ∃v2,aU h1 h0 0 v2∧
 CondP (v2==(1:Int)) (
 At (hnew h1 [.int .u8 1] cH) (fun h3=>
 ∃v4:SliceV,cx h3 h0 4 v4∧
 HC PG Gx [.slice v4.a v4.len v4.cap] [.c .ptr] (fun(e5:Option Addr) h6=>
 HC PG um [.pointer e5] [.c .slice] (fun(e7:SliceV) h8=>
 ∃xs9,SRow h8 e7.a (e7.len*1) xs9∧
 AppP (some [.int .u8 0]) 1 1 cH (some (aE h1)) 1 1 e7.len xs9 h8 (fun XC h11=>
 K XC h11)) h6) h3)) (
 At (hnew h1 [.int .u8 0] cH) (fun h12=>
 ∃v13,cM h12 (adr (aE h0) 1) 0 v13∧
 ∃v14,cM h12 (adr (aE h0) 1) 1 v14∧
 ∃v15,cM h12 (adr (aE h0) 1) 2 v15∧
 ∃v16:SliceV,cx h12 h0 4 v16∧
 HC PG Gy [vr v13 v14 v15,.slice v16.a v16.len v16.cap,.int .i64 0] [.c .ptr] (fun(e17:Option Addr) h18=>
 HC PG BL (uV e17 0) [.c .slice] (fun(e19:SliceV) h20=>
 ∃xs21,SRow h20 e19.a (e19.len*1) xs21∧
 AppP (some [.int .u8 0]) 1 1 cH (some (aE h1)) 1 1 e19.len xs21 h20 (fun s22 h23=>
 K s22 h23)) h18) h12)))
theorem Nl(x0:T5){K:cQ [.c .slice]→ae→Prop}{h0:ae}(h:Ey x0 K h0):HC PG yg [Vt x0] [.c .slice] K h0:=dL .nil Tryz.func24 Tryz.call24 rfl rfl (by kernel_rfl) h
def uF(x0:T6)(K:(Bool)→ae→Prop)(h0:ae):Prop:=
 At (hnew h0 (pj x0) bI) (fun h1=>
 ∃v2,aU h1 h0 0 v2∧
 CondP (v2==(1:Int)) (
 ∃v3,aH h1 h0 5 v3∧
 HC PG vf [.pointer v3] [.c .bool] (fun(e4:Bool) h5=>
 K e4 h5) h1) (
 ∃v6,cM h1 (adr (aE h0) 1) 0 v6∧
 ∃v7,cM h1 (adr (aE h0) 1) 1 v7∧
 ∃v8,cM h1 (adr (aE h0) 1) 2 v8∧
 ∃v9,aU h1 h0 0 v9∧
 ∃v10,af h1 h0 1 v10∧
 ∃v11,af h1 h0 2 v11∧
 ∃v12,af h1 h0 3 v12∧
 ∃v13,aH h1 h0 4 v13∧
 ∃v14,aH h1 h0 5 v14∧
 HC PG iQ [sQ v9 v10 v11 v12 v13 v14] [.c .ptr] (fun(e15:Option Addr) h16=>
 ((cM h16 (adr (aE h0) 1) 0 v6∧cM h16 (adr (aE h0) 1) 1 v7∧cM h16 (adr (aE h0) 1) 2 v8)∧
 HC PG zw [vr v6 v7 v8,.pointer e15] [.c .bool] (fun(e17:Bool) h18=>
 K e17 h18) h16)) h1))
theorem Cd(x0:T6){K:cQ [.c .bool]→ae→Prop}{h0:ae}(h:uF x0 K h0):HC PG pL [Je x0] [.c .bool] K h0:=dL .nil Tryz.func25 Tryz.call25 rfl rfl (by kernel_rfl) h
def yv(x0:Int×Int×Int)(x1:Option Addr)(K:(T6)→ae→Prop)(h0:ae):Prop:=
 At (hnew h0 (zt x0) co) (fun h1=>
 At (hnew h1 xB bI) (fun h2=>
 Join (fun(t6:Option Addr) h7=>
 ∃v8,af h7 h0 0 v8∧
 ∃v9,af h7 h0 1 v9∧
 ∃v10,af h7 h0 2 v10∧
 (di h7 h1 (Fz 0 v8 v9 v10 t6 none) (fun h11=>
 ∃v12,aU h11 h1 0 v12∧
 ∃v13,af h11 h1 1 v13∧
 ∃v14,af h11 h1 2 v14∧
 ∃v15,af h11 h1 3 v15∧
 ∃v16,aH h11 h1 4 v16∧
 ∃v17,aH h11 h1 5 v17∧
 K (v12,v13,v14,v15,v16,v17) h11))) (fun J3=>
 CondP x1.isNone (
 HC PG oz [] [.c .ptr] (fun(e4:Option Addr) h5=>
 J3 e4 h5) h2) (
 J3 x1 h2))))
noncomputable def HF:Ann:=.node .nil (.join [(1,.c .ptr)] .nil .nil)
theorem G6(x0:Int×Int×Int)(x1:Option Addr){K:cQ Am→ae→Prop}{h0:ae}(h:yv x0 x1 K h0):HC PG pN [LL x0,.pointer x1] Am K h0:=dL HF Tryz.func28 Tryz.call28 rfl rfl (by kernel_rfl) h
def uE(x0:T6)(K:(Option Addr)→ae→Prop)(h0:ae):Prop:=
 At (hnew h0 (pj x0) bI) (fun h1=>
 Join (fun(t5:Bool) h6=>
 CondP t5 (
 HC PG oz [] [.c .ptr] (fun(e7:Option Addr) h8=>
 K e7 h8) h6) (
 ∃v9,aH h6 h0 4 v9∧
 K v9 h6)) (fun J2=>
 ∃v3,aU h1 h0 0 v3∧
 CondP (v3==(0:Int)) (
 ∃v4,aH h1 h0 4 v4∧
 J2 v4.isNone h1) (
 J2 false h1)))
noncomputable def CH:Ann:=.node .nil (.node (.join [(10,.c .bool)] .nil .nil) .nil)
theorem Cc(x0:T6){K:cQ [.c .ptr]→ae→Prop}{h0:ae}(h:uE x0 K h0):HC PG iQ [Je x0] [.c .ptr] K h0:=dL CH Tryz.func29 Tryz.call29 rfl rfl (by kernel_rfl) h
def yu(x0:Option Addr)(K:(T6)→ae→Prop)(h0:ae):Prop:=
 At (hnew h0 xB bI) (fun h1=>
 Join (fun(t5:Option Addr) h6=>
 (di h6 h0 (Fz 1 0 0 0 none t5) (fun h7=>
 ∃v8,aU h7 h0 0 v8∧
 ∃v9,af h7 h0 1 v9∧
 ∃v10,af h7 h0 2 v10∧
 ∃v11,af h7 h0 3 v11∧
 ∃v12,aH h7 h0 4 v12∧
 ∃v13,aH h7 h0 5 v13∧
 K (v8,v9,v10,v11,v12,v13) h7))) (fun J2=>
 CondP x0.isNone (
 HC PG qV [] [.c .ptr] (fun(e3:Option Addr) h4=>
 J2 e3 h4) h1) (
 J2 x0 h1)))
noncomputable def HD:Ann:=.node .nil (.join [(0,.c .ptr)] .nil .nil)
theorem G5(x0:Option Addr){K:cQ Am→ae→Prop}{h0:ae}(h:yu x0 K h0):HC PG pM [.pointer x0] Am K h0:=dL HD Tryz.func30 Tryz.call30 rfl rfl (by kernel_rfl) h
def uC(x0:T6)(K:(Option Addr)→ae→Prop)(h0:ae):Prop:=
 At (hnew h0 (pj x0) bI) (fun h1=>
 ∃v2,aH h1 h0 5 v2∧
 K v2 h1)
theorem Ca(x0:T6){K:cQ [.c .ptr]→ae→Prop}{h0:ae}(h:uC x0 K h0):HC PG my [Je x0] [.c .ptr] K h0:=dL .nil Tryz.func31 Tryz.call31 rfl rfl (by kernel_rfl) h
def vV(x0:T6)(x1:Option Addr)(x2:ByteArray×ByteArray)(K:((T6)×Int)→ae→Prop)(h0:ae):Prop:=
 At (hnew h0 (pj x0) bI) (fun h1=>
 At (hnew h1 (wq x2) al) (fun h2=>
 At (hnew h2 xB bI) (fun h3=>
 ∃v4,aw h3 h1 0 v4∧
 ∃v5,aw h3 h1 1 v5∧
 HC PG sG (ij v4 v5) cr (fun(e6:Int) h7=>
 CondP (e6 !=(0:Int)) (
 ∃v8,aU h7 h0 0 v8∧
 ∃v9,af h7 h0 1 v9∧
 ∃v10,af h7 h0 2 v10∧
 ∃v11,af h7 h0 3 v11∧
 ∃v12,aH h7 h0 4 v12∧
 ∃v13,aH h7 h0 5 v13∧
 (di h7 h2 (Fz v8 v9 v10 v11 v12 v13) (fun h14=>
 ∃v15,aU h14 h2 0 v15∧
 ∃v16,af h14 h2 1 v16∧
 ∃v17,af h14 h2 2 v17∧
 ∃v18,af h14 h2 3 v18∧
 ∃v19,aH h14 h2 4 v19∧
 ∃v20,aH h14 h2 5 v20∧
 K ((v15,v16,v17,v18,v19,v20),e6) h14))) (
 ∃v21,aU h7 h0 0 v21∧
 CondP (v21==(1:Int)) (
 ∃v22,aH h7 h0 5 v22∧
 ∃v23,aw h7 h1 0 v23∧
 ∃v24,aw h7 h1 1 v24∧
 HC PG yd [.pointer x1,.pointer v22,qn v23 v24] sA (fun(e25:(Option Addr)×Bool) h26=>
 (dS h26 (adr (aE h0) 5) (.pointer e25.1) (fun h27=>
 ∃v28,aU h27 h0 0 v28∧
 ∃v29,af h27 h0 1 v29∧
 ∃v30,af h27 h0 2 v30∧
 ∃v31,af h27 h0 3 v31∧
 ∃v32,aH h27 h0 4 v32∧
 ∃v33,aH h27 h0 5 v33∧
 (di h27 h2 (Fz v28 v29 v30 v31 v32 v33) (fun h34=>
 ∃v35,aU h34 h2 0 v35∧
 ∃v36,af h34 h2 1 v36∧
 ∃v37,af h34 h2 2 v37∧
 ∃v38,af h34 h2 3 v38∧
 ∃v39,aH h34 h2 4 v39∧
 ∃v40,aH h34 h2 5 v40∧
 K ((v35,v36,v37,v38,v39,v40),0) h34))))) h7) (
 ∃v41,cM h7 (adr (aE h0) 1) 0 v41∧
 ∃v42,cM h7 (adr (aE h0) 1) 1 v42∧
 ∃v43,cM h7 (adr (aE h0) 1) 2 v43∧
 ∃v44,aH h7 h0 4 v44∧
 ∃v45,aw h7 h1 0 v45∧
 ∃v46,aw h7 h1 1 v46∧
 HC PG yk [vr v41 v42 v43,.pointer x1,.pointer v44,qn v45 v46] sA (fun(e47:(Option Addr)×Bool) h48=>
 (dS h48 (adr (aE h0) 4) (.pointer e47.1) (fun h49=>
 ∃v50,aU h49 h0 0 v50∧
 ∃v51,af h49 h0 1 v51∧
 ∃v52,af h49 h0 2 v52∧
 ∃v53,af h49 h0 3 v53∧
 ∃v54,aH h49 h0 4 v54∧
 ∃v55,aH h49 h0 5 v55∧
 (di h49 h2 (Fz v50 v51 v52 v53 v54 v55) (fun h56=>
 ∃v57,aU h56 h2 0 v57∧
 ∃v58,af h56 h2 1 v58∧
 ∃v59,af h56 h2 2 v59∧
 ∃v60,af h56 h2 3 v60∧
 ∃v61,aH h56 h2 4 v61∧
 ∃v62,aH h56 h2 5 v62∧
 K ((v57,v58,v59,v60,v61,v62),0) h56))))) h7))) h3)))
theorem DD(x0:T6)(x1:Option Addr)(x2:ByteArray×ByteArray){K:cQ vE→ae→Prop}{h0:ae}(h:vV x0 x1 x2 K h0):HC PG np [Je x0,.pointer x1,QJ x2] vE K h0:=dL .nil Tryz.func32 Tryz.call32 rfl rfl (by kernel_rfl) h
def JZ(x0:Int)(x1:Int×Int×Int)(K:((T5)×Int)→ae→Prop)(h0:ae):Prop:=
 At (hnew h0 (zt x1) su) (fun h1=>
 At (hnew h1 HH cG) (fun h2=>
 CondP (x0==(0:Int)) (
 ∃v3,af h2 h0 0 v3∧
 ∃v4,af h2 h0 1 v4∧
 ∃v5,af h2 h0 2 v5∧
 (di h2 h1 [.int .i64 0,.int .u64 v3,.int .u64 v4,.int .u64 v5,.slice none 0 0] (fun h6=>
 ∃v7,aU h6 h1 0 v7∧
 ∃v8,af h6 h1 1 v8∧
 ∃v9,af h6 h1 2 v9∧
 ∃v10,af h6 h1 3 v10∧
 ∃v11:SliceV,cx h6 h1 4 v11∧
 K ((v7,v8,v9,v10,v11),0) h6))) (
 CondP (x0==(1:Int)) (
 (di h2 h1 [.int .i64 1,.int .u64 0,.int .u64 0,.int .u64 0,.slice none 0 0] (fun h12=>
 ∃v13,aU h12 h1 0 v13∧
 ∃v14,af h12 h1 1 v14∧
 ∃v15,af h12 h1 2 v15∧
 ∃v16,af h12 h1 3 v16∧
 ∃v17:SliceV,cx h12 h1 4 v17∧
 K ((v13,v14,v15,v16,v17),0) h12))) (
 (di h2 h1 HH (fun h18=>
 ∃v19,aU h18 h1 0 v19∧
 ∃v20,af h18 h1 1 v20∧
 ∃v21,af h18 h1 2 v21∧
 ∃v22,af h18 h1 3 v22∧
 ∃v23:SliceV,cx h18 h1 4 v23∧
 K ((v19,v20,v21,v22,v23),11) h18))))))
theorem SV(x0:Int)(x1:Int×Int×Int){K:cQ KT→ae→Prop}{h0:ae}(h:JZ x0 x1 K h0):HC PG Dp [.int .i64 x0,LL x1] KT K h0:=dL .nil Tryz.func36 Tryz.call36 rfl rfl (by kernel_rfl) h
def Hj(x0:T5)(x1:ByteArray×ByteArray)(K:((T5)×Int)→ae→Prop)(h0:ae):Prop:=
 At (hnew h0 (CM x0) cG) (fun h1=>
 At (hnew h1 (wq x1) bS) (fun h2=>
 At (hnew h2 HH cG) (fun h3=>
 ∃v4,aw h3 h1 0 v4∧
 ∃v5,aw h3 h1 1 v5∧
 HC PG yh (ij v4 v5) cr (fun(e6:Int) h7=>
 CondP (e6 !=(0:Int)) (
 ∃v8,aU h7 h0 0 v8∧
 ∃v9,af h7 h0 1 v9∧
 ∃v10,af h7 h0 2 v10∧
 ∃v11,af h7 h0 3 v11∧
 ∃v12:SliceV,cx h7 h0 4 v12∧
 (di h7 h2 (LS v8 v9 v10 v11 v12) (fun h13=>
 ∃v14,aU h13 h2 0 v14∧
 ∃v15,af h13 h2 1 v15∧
 ∃v16,af h13 h2 2 v16∧
 ∃v17,af h13 h2 3 v17∧
 ∃v18:SliceV,cx h13 h2 4 v18∧
 K ((v14,v15,v16,v17,v18),e6) h13))) (
 ∃v19:SliceV,cx h7 h0 4 v19∧
 ∃v20,aw h7 h1 0 v20∧
 ∃v21,aw h7 h1 1 v21∧
 HC PG yR [.slice v19.a v19.len v19.cap,qn v20 v21] [.c .slice] (fun(e22:SliceV) h23=>
 (dS h23 (adr (aE h0) 4) (.slice e22.a e22.len e22.cap) (fun h24=>
 ∃v25,aU h24 h0 0 v25∧
 ∃v26,af h24 h0 1 v26∧
 ∃v27,af h24 h0 2 v27∧
 ∃v28,af h24 h0 3 v28∧
 ∃v29:SliceV,cx h24 h0 4 v29∧
 (di h24 h2 (LS v25 v26 v27 v28 v29) (fun h30=>
 ∃v31,aU h30 h2 0 v31∧
 ∃v32,af h30 h2 1 v32∧
 ∃v33,af h30 h2 2 v33∧
 ∃v34,af h30 h2 3 v34∧
 ∃v35:SliceV,cx h30 h2 4 v35∧
 K ((v31,v32,v33,v34,v35),0) h30))))) h7)) h3)))
theorem PH(x0:T5)(x1:ByteArray×ByteArray){K:cQ KT→ae→Prop}{h0:ae}(h:Hj x0 x1 K h0):HC PG Aw [Vt x0,QJ x1] KT K h0:=dL .nil Tryz.func40 Tryz.call40 rfl rfl (by kernel_rfl) h
def xh(x0:T6)(x1:ByteArray)(K:(ByteArray×Bool)→ae→Prop)(h0:ae):Prop:=
 At (hnew h0 (pj x0) bI) (fun h1=>
 ∃v2,aU h1 h0 0 v2∧
 CondP (v2==(1:Int)) (
 ∃v3,aH h1 h0 5 v3∧
 HC PG ye (A0 v3 x1) nn (fun(e4:ByteArray×Bool) h5=>
 K (e4.1,e4.2) h5) h1) (
 ∃v6,cM h1 (adr (aE h0) 1) 0 v6∧
 ∃v7,cM h1 (adr (aE h0) 1) 1 v7∧
 ∃v8,cM h1 (adr (aE h0) 1) 2 v8∧
 ∃v9,aH h1 h0 4 v9∧
 HC PG yl [vr v6 v7 v8,.pointer v9,.string x1] nn (fun(e10:ByteArray×Bool) h11=>
 K (e10.1,e10.2) h11) h1))
theorem EX(x0:T6)(x1:ByteArray){K:cQ nn→ae→Prop}{h0:ae}(h:xh x0 x1 K h0):HC PG rK [Je x0,.string x1] nn K h0:=dL .nil Tryz.func41 Tryz.call41 rfl rfl (by kernel_rfl) h
def Ka(x0:SliceV)(x1:ByteArray)(K:(ByteArray×Bool)→ae→Prop)(h0:ae):Prop:=
 HC PG Az (HJ x0 x1) nm (fun(e1:Int×Bool) h2=>
 CondP (!e1.2) (
 K ((⟨#[]⟩:ByteArray),false) h2) (
 (cB e1.1 x0.len∧∃a3,x0.a=some a3∧
 ∃v4,aO h2 (adr a3 (e1.1.toNat*2)) 1 v4∧
 K (v4,true) h2))) h0
theorem SY(x0:SliceV)(x1:ByteArray){K:cQ nn→ae→Prop}{h0:ae}(h:Ka x0 x1 K h0):HC PG Dq (HJ x0 x1) nn K h0:=dL .nil Tryz.func42 Tryz.call42 rfl rfl (by kernel_rfl) h
def Kd(x0:T6)(x1:T6)(K:(SliceV×Int)→ae→Prop)(h0:ae):Prop:=
 At (hnew h0 (pj x0) bI) (fun h1=>
 At (hnew h1 (pj x1) bI) (fun h2=>
 ∃v3,aU h2 h0 0 v3∧
 ∃v4,af h2 h0 1 v4∧
 ∃v5,af h2 h0 2 v5∧
 ∃v6,af h2 h0 3 v6∧
 ∃v7,aH h2 h0 4 v7∧
 ∃v8,aH h2 h0 5 v8∧
 ∃v9,aU h2 h1 0 v9∧
 ∃v10,af h2 h1 1 v10∧
 ∃v11,af h2 h1 2 v11∧
 ∃v12,af h2 h1 3 v12∧
 ∃v13,aH h2 h1 4 v13∧
 ∃v14,aH h2 h1 5 v14∧
 HC PG rm [sQ v3 v4 v5 v6 v7 v8,sQ v9 v10 v11 v12 v13 v14] [.c .bool] (fun(e15:Bool) h16=>
 CondP (!e15) (
 K (⟨none,0,0⟩,11) h16) (
 ∃v17,aU h16 h0 0 v17∧
 ∃v18,af h16 h0 1 v18∧
 ∃v19,af h16 h0 2 v19∧
 ∃v20,af h16 h0 3 v20∧
 ∃v21,aH h16 h0 4 v21∧
 ∃v22,aH h16 h0 5 v22∧
 HC PG oX [sQ v17 v18 v19 v20 v21 v22] Eg (fun(e23:Int×Int×Int) h24=>
 At (hnew h24 [.int .u64 e23.1,.int .u64 e23.2.1,.int .u64 e23.2.2,.slice none 0 0] zV) (fun h25=>
 Join (fun(t71:Unit) h72=>
 ∃a73,some (aE h24)=some a73∧
 ∃v74:SliceV,bR h72 a73 3 v74∧
 HC PG dA [.slice v74.a v74.len v74.cap,.func (.func pn) #[] #[]] [] (fun(e75:Unit) h76=>
 ∃a77,some (aE h24)=some a77∧
 ∃v78:SliceV,bR h76 a77 3 v78∧
 K (v78,0) h76) h72) (fun J26=>
 ∃v27,aU h25 h0 0 v27∧
 ∃v28,af h25 h0 1 v28∧
 ∃v29,af h25 h0 2 v29∧
 ∃v30,af h25 h0 3 v30∧
 ∃v31,aH h25 h0 4 v31∧
 ∃v32,aH h25 h0 5 v32∧
 HC PG qC [sQ v27 v28 v29 v30 v31 v32] cr (fun(e33:Int) h34=>
 CondP (e33==(1:Int)) (
 ∃v35,aU h34 h0 0 v35∧
 ∃v36,af h34 h0 1 v36∧
 ∃v37,af h34 h0 2 v37∧
 ∃v38,af h34 h0 3 v38∧
 ∃v39,aH h34 h0 4 v39∧
 ∃v40,aH h34 h0 5 v40∧
 ∃v41,aU h34 h1 0 v41∧
 ∃v42,af h34 h1 1 v42∧
 ∃v43,af h34 h1 2 v43∧
 ∃v44,af h34 h1 3 v44∧
 ∃v45,aH h34 h1 4 v45∧
 ∃v46,aH h34 h1 5 v46∧
 HC PG my [sQ v35 v36 v37 v38 v39 v40] [.c .ptr] (fun(e47:Option Addr) h48=>
 ((aU h48 h1 0 v41∧af h48 h1 1 v42∧af h48 h1 2 v43∧af h48 h1 3 v44∧aH h48 h1 4 v45∧aH h48 h1 5 v46)∧
 HC PG my [sQ v41 v42 v43 v44 v45 v46] [.c .ptr] (fun(e49:Option Addr) h50=>
 HC PG ip (LU (some (aE h24)) e47 e49 (⟨#[]⟩:ByteArray)) [] (fun(e51:Unit) h52=>
 J26 () h52) h50) h48)) h34) (
 ∃v53,aU h34 h0 0 v53∧
 ∃v54,af h34 h0 1 v54∧
 ∃v55,af h34 h0 2 v55∧
 ∃v56,af h34 h0 3 v56∧
 ∃v57,aH h34 h0 4 v57∧
 ∃v58,aH h34 h0 5 v58∧
 ∃v59,aU h34 h1 0 v59∧
 ∃v60,af h34 h1 1 v60∧
 ∃v61,af h34 h1 2 v61∧
 ∃v62,af h34 h1 3 v62∧
 ∃v63,aH h34 h1 4 v63∧
 ∃v64,aH h34 h1 5 v64∧
 HC PG iQ [sQ v53 v54 v55 v56 v57 v58] [.c .ptr] (fun(e65:Option Addr) h66=>
 ((aU h66 h1 0 v59∧af h66 h1 1 v60∧af h66 h1 2 v61∧af h66 h1 3 v62∧aH h66 h1 4 v63∧aH h66 h1 5 v64)∧
 HC PG iQ [sQ v59 v60 v61 v62 v63 v64] [.c .ptr] (fun(e67:Option Addr) h68=>
 HC PG nA (Rv (some (aE h24)) e65 e67) [] (fun(e69:Unit) h70=>
 J26 () h70) h68) h66)) h34)) h25))) h16)) h2))
noncomputable def S8:Ann:=.node .nil (.node .nil (.node .nil (.join [] .nil .nil)))
theorem S3(x0:T6)(x1:T6){K:cQ MK→ae→Prop}{h0:ae}(h:Kd x0 x1 K h0):HC PG vJ [Je x0,Je x1] MK K h0:=dL S8 Tryz.func54 Tryz.call54 rfl rfl (by kernel_rfl) h
def EI(K:(Bool)→ae→Prop)(h0:ae):Prop:=
 At (hnew h0 (ij (⟨#[97]⟩:ByteArray) (⟨#[49]⟩:ByteArray)) al) (fun h1=>
 HC PG pU [.int .i64 0,Y8,.slice (some (aE h0)) 1 1] vE (fun(e2:(T6)×Int) h3=>
 nv h3 xB bI (pj e2.1) (fun h5=>
 At (hnew h5 (ij (⟨#[97]⟩:ByteArray) (⟨#[50]⟩:ByteArray)) al) (fun h6=>
 HC PG pU [.int .i64 0,Y8,.slice (some (aE h5)) 1 1] vE (fun(e7:(T6)×Int) h8=>
 nv h8 xB bI (pj e7.1) (fun h10=>
 At (hnew h10 (Yo (⟨#[97]⟩:ByteArray) (⟨#[49]⟩:ByteArray) (⟨#[98]⟩:ByteArray) (⟨#[51]⟩:ByteArray)) al) (fun h11=>
 HC PG pU [.int .i64 0,Y8,.slice (some (aE h10)) 2 2] vE (fun(e12:(T6)×Int) h13=>
 nv h13 xB bI (pj e12.1) (fun h15=>
 ∃v16,aU h15 h3 0 v16∧
 ∃v17,af h15 h3 1 v17∧
 ∃v18,af h15 h3 2 v18∧
 ∃v19,af h15 h3 3 v19∧
 ∃v20,aH h15 h3 4 v20∧
 ∃v21,aH h15 h3 5 v21∧
 ∃v22,aU h15 h8 0 v22∧
 ∃v23,af h15 h8 1 v23∧
 ∃v24,af h15 h8 2 v24∧
 ∃v25,af h15 h8 3 v25∧
 ∃v26,aH h15 h8 4 v26∧
 ∃v27,aH h15 h8 5 v27∧
 ∃v28,aU h15 h13 0 v28∧
 ∃v29,af h15 h13 1 v29∧
 ∃v30,af h15 h13 2 v30∧
 ∃v31,af h15 h13 3 v31∧
 ∃v32,aH h15 h13 4 v32∧
 ∃v33,aH h15 h13 5 v33∧
 HC PG qF [sQ v16 v17 v18 v19 v20 v21,sQ v22 v23 v24 v25 v26 v27,sQ v28 v29 v30 v31 v32 v33,.int .i64 0] Sn (fun(e34:(T6)×SliceV×Int) h35=>
 nv h35 xB bI (pj e34.1) (fun h37=>
 ∃v38,aU h37 h35 0 v38∧
 ∃v39,af h37 h35 1 v39∧
 ∃v40,af h37 h35 2 v40∧
 ∃v41,af h37 h35 3 v41∧
 ∃v42,aH h37 h35 4 v42∧
 ∃v43,aH h37 h35 5 v43∧
 HC PG pK [sQ v38 v39 v40 v41 v42 v43] [.c .slice] (fun(e44:SliceV) h45=>
 CondP (e34.2.2==(0:Int)) (
 CondP ((e34.2.1.len:Int)==(0:Int)) (
 CondP ((e44.len:Int)==(2:Int)) (
 (cB 0 e44.len∧∃a46,e44.a=some a46∧
 ∃v47,aO h45 (adr a46 ((0:Int).toNat*2)) 1 v47∧
 CondP (v47.toList==(⟨#[50]⟩:ByteArray).toList) (
 (cB 1 e44.len∧∃a48,e44.a=some a48∧
 ∃v49,aO h45 (adr a48 ((1:Int).toNat*2)) 1 v49∧
 K (v49.toList==(⟨#[51]⟩:ByteArray).toList) h45)) (
 K false h45))) (
 K false h45)) (
 K false h45)) (
 K false h45)) h37)) h15)) h11))) h6))) h1)
theorem Ny{K:cQ [.c .bool]→ae→Prop}{h0:ae}(h:EI K h0):HC PG yj [] [.c .bool] K h0:=dL .nil Tryz.func58 Tryz.call58 rfl rfl (by kernel_rfl) h
def EH(x0:Int)(x1:Int×Int×Int)(K:((T6)×(T5))→ae→Prop)(h0:ae):Prop:=
 At (hnew h0 (zt x1) co) (fun h1=>
 At (hnew h1 xB bI) (fun h2=>
 At (hnew h2 HH cG) (fun h3=>
 ((2:Int)≠0∧
 ∃v4,af h3 h0 0 v4∧
 ∃v5,af h3 h0 1 v5∧
 ∃v6,af h3 h0 2 v6∧
 HC PG wI [.int .i64 (IntKind.wrap .i64 (kM x0 2)),vr v4 v5 v6] vE (fun(e7:(T6)×Int) h8=>
 nv h8 xB bI (pj e7.1) (fun h10=>
 ((2:Int)≠0∧
 ∃v11,af h10 h0 0 v11∧
 ∃v12,af h10 h0 1 v12∧
 ∃v13,af h10 h0 2 v13∧
 HC PG Ds [vr v11 v12 v13] Eg (fun(e14:Int×Int×Int) h15=>
 HC PG Dp [.int .i64 (IntKind.wrap .i64 (kM x0 2)),LL e14] KT (fun(e16:(T5)×Int) h17=>
 nv h17 HH cG (CM e16.1) (fun h19=>
 ∃v20,aU h19 h8 0 v20∧
 ∃v21,af h19 h8 1 v21∧
 ∃v22,af h19 h8 2 v22∧
 ∃v23,af h19 h8 3 v23∧
 ∃v24,aH h19 h8 4 v24∧
 ∃v25,aH h19 h8 5 v25∧
 ∃v26,aU h19 h17 0 v26∧
 ∃v27,af h19 h17 1 v27∧
 ∃v28,af h19 h17 2 v28∧
 ∃v29,af h19 h17 3 v29∧
 ∃v30:SliceV,cx h19 h17 4 v30∧
 (di h19 h1 (Fz v20 v21 v22 v23 v24 v25) (fun h31=>
 ((aU h31 h17 0 v26∧af h31 h17 1 v27∧af h31 h17 2 v28∧af h31 h17 3 v29∧cx h31 h17 4 v30)∧
 (di h31 h2 (LS v26 v27 v28 v29 v30) (fun h32=>
 ∃v33,aU h32 h1 0 v33∧
 ∃v34,af h32 h1 1 v34∧
 ∃v35,af h32 h1 2 v35∧
 ∃v36,af h32 h1 3 v36∧
 ∃v37,aH h32 h1 4 v37∧
 ∃v38,aH h32 h1 5 v38∧
 ∃v39,aU h32 h2 0 v39∧
 ∃v40,af h32 h2 1 v40∧
 ∃v41,af h32 h2 2 v41∧
 ∃v42,af h32 h2 3 v42∧
 ∃v43:SliceV,cx h32 h2 4 v43∧
 K ((v33,v34,v35,v36,v37,v38),(v39,v40,v41,v42,v43)) h32))))))) h15) h10))) h3))))
theorem Nx(x0:Int)(x1:Int×Int×Int){K:cQ KU→ae→Prop}{h0:ae}(h:EH x0 x1 K h0):HC PG ur [.int .u8 x0,LL x1] KU K h0:=dL .nil Tryz.func59 Tryz.call59 rfl rfl (by kernel_rfl) h
def EG(x0:T6)(x1:T5)(x2:SliceV)(x3:SliceV)(K:((T6)×(T5))→ae→Prop)(h0:ae):Prop:=
 At (hnew h0 (pj x0) bI) (fun h1=>
 At (hnew h1 (CM x1) cG) (fun h2=>
 At (hnew h2 xB bI) (fun h3=>
 At (hnew h3 HH cG) (fun h4=>
 LoopP (fun I5 (t6:Int) h7=>
 CondP (decide (t6<(x2.len:Int))) (
 Join (fun(t43:Unit) h44=>
 I5 (IntKind.wrap .i64 (t6+1)) h44) (fun J8=>
 (cB t6 x2.len∧∃a9,x2.a=some a9∧
 ∃v10,aO h7 (adr a9 (t6.toNat*2)) 0 v10∧
 ∃v11,aO h7 (adr a9 (t6.toNat*2)) 1 v11∧
 nv h7 kZ al (ij v10 v11) (fun h13=>
 CondP (decide (t6<(20:Int))) (
 ∃v14,aw h13 h7 0 v14∧
 ∃v15,aw h13 h7 0 v15∧
 (((0:Int)≤(if 30<(v15.size:Int)then 30 else(v15.size:Int))∧(if 30<(v15.size:Int)then 30 else(v15.size:Int))≤((v14.size:Nat):Int))∧
 Bd (v14.extract 0 ((if 30<(v15.size:Int)then 30 else(v15.size:Int)).toNat):ByteArray) (fun s16=>
 ∃v17,aw h13 h7 1 v17∧
 ∃v18,aw h13 h7 1 v18∧
 (((0:Int)≤(if 30<(v18.size:Int)then 30 else(v18.size:Int))∧(if 30<(v18.size:Int)then 30 else(v18.size:Int))≤((v17.size:Nat):Int))∧
 Bd (v17.extract 0 ((if 30<(v18.size:Int)then 30 else(v18.size:Int)).toNat):ByteArray) (fun s19=>
 (dS h13 (adr (aE h7) 0) (.string s16) (fun h20=>
 (dS h20 (adr (aE h7) 1) (.string s19) (fun h21=>
 ∃v22,aU h21 h0 0 v22∧
 ∃v23,af h21 h0 1 v23∧
 ∃v24,af h21 h0 2 v24∧
 ∃v25,af h21 h0 3 v25∧
 ∃v26,aH h21 h0 4 v26∧
 ∃v27,aH h21 h0 5 v27∧
 ∃v28,aw h21 h7 0 v28∧
 ∃v29,aw h21 h7 1 v29∧
 HC PG np [sQ v22 v23 v24 v25 v26 v27,.pointer none,qn v28 v29] vE (fun(e30:(T6)×Int) h31=>
 (di h31 h0 (pj e30.1) (fun h32=>
 ∃v33,aU h32 h1 0 v33∧
 ∃v34,af h32 h1 1 v34∧
 ∃v35,af h32 h1 2 v35∧
 ∃v36,af h32 h1 3 v36∧
 ∃v37:SliceV,cx h32 h1 4 v37∧
 ∃v38,aw h32 h7 0 v38∧
 ∃v39,aw h32 h7 1 v39∧
 HC PG Aw [CR v33 v34 v35 v36 v37,qn v38 v39] KT (fun(e40:(T5)×Int) h41=>
 (di h41 h1 (CM e40.1) (fun h42=>
 J8 () h42))) h32))) h21))))))))) (
 J8 () h13))))) (
 LoopP (fun I45 (t46:Int) h47=>
 CondP (decide (t46<(x3.len:Int))) (
 Join (fun(t69:Unit) h70=>
 I45 (IntKind.wrap .i64 (t46+1)) h70) (fun J48=>
 (cB t46 x3.len∧∃a49,x3.a=some a49∧
 ∃v50,bM h47 a49 (t46.toNat*1) (.string v50)∧
 CondP (decide (t46<(15:Int))) (
 (((0:Int)≤(if 30<(v50.size:Int)then 30 else(v50.size:Int))∧(if 30<(v50.size:Int)then 30 else(v50.size:Int))≤((v50.size:Nat):Int))∧
 Bd (v50.extract 0 ((if 30<(v50.size:Int)then 30 else(v50.size:Int)).toNat):ByteArray) (fun s51=>
 ∃v52,aU h47 h0 0 v52∧
 ∃v53,af h47 h0 1 v53∧
 ∃v54,af h47 h0 2 v54∧
 ∃v55,af h47 h0 3 v55∧
 ∃v56,aH h47 h0 4 v56∧
 ∃v57,aH h47 h0 5 v57∧
 HC PG r7 [sQ v52 v53 v54 v55 v56 v57,.pointer none,.string s51] vE (fun(e58:(T6)×Int) h59=>
 (di h59 h0 (pj e58.1) (fun h60=>
 ∃v61,aU h60 h1 0 v61∧
 ∃v62,af h60 h1 1 v62∧
 ∃v63,af h60 h1 2 v63∧
 ∃v64,af h60 h1 3 v64∧
 ∃v65:SliceV,cx h60 h1 4 v65∧
 HC PG H3 [CR v61 v62 v63 v64 v65,.string s51] KT (fun(e66:(T5)×Int) h67=>
 (di h67 h1 (CM e66.1) (fun h68=>
 J48 () h68))) h60))) h47))) (
 J48 () h47)))) (
 ∃v71,aU h47 h0 0 v71∧
 ∃v72,af h47 h0 1 v72∧
 ∃v73,af h47 h0 2 v73∧
 ∃v74,af h47 h0 3 v74∧
 ∃v75,aH h47 h0 4 v75∧
 ∃v76,aH h47 h0 5 v76∧
 ∃v77,aU h47 h1 0 v77∧
 ∃v78,af h47 h1 1 v78∧
 ∃v79,af h47 h1 2 v79∧
 ∃v80,af h47 h1 3 v80∧
 ∃v81:SliceV,cx h47 h1 4 v81∧
 (di h47 h2 (Fz v71 v72 v73 v74 v75 v76) (fun h82=>
 ((aU h82 h1 0 v77∧af h82 h1 1 v78∧af h82 h1 2 v79∧af h82 h1 3 v80∧cx h82 h1 4 v81)∧
 (di h82 h3 (LS v77 v78 v79 v80 v81) (fun h83=>
 ∃v84,aU h83 h2 0 v84∧
 ∃v85,af h83 h2 1 v85∧
 ∃v86,af h83 h2 2 v86∧
 ∃v87,af h83 h2 3 v87∧
 ∃v88,aH h83 h2 4 v88∧
 ∃v89,aH h83 h2 5 v89∧
 ∃v90,aU h83 h3 0 v90∧
 ∃v91,af h83 h3 1 v91∧
 ∃v92,af h83 h3 2 v92∧
 ∃v93,af h83 h3 3 v93∧
 ∃v94:SliceV,cx h83 h3 4 v94∧
 K ((v84,v85,v86,v87,v88,v89),(v90,v91,v92,v93,v94)) h83))))))) 0 h7)) 0 h4))))
noncomputable def NM:Ann:=.node .nil (.node (.node .nil (.loop [(16,.c (.int .i64))] (.node .nil (.node .nil (.join [] .nil .nil))))) (.node (.node .nil (.loop [(54,.c (.int .i64))] (.node .nil (.node .nil (.join [] .nil .nil))))) .nil))
theorem Nw(x0:T6)(x1:T5)(x2:SliceV)(x3:SliceV){K:cQ KU→ae→Prop}{h0:ae}(h:EG x0 x1 x2 x3 K h0):HC PG uq [Je x0,Vt x1,.slice x2.a x2.len x2.cap,.slice x3.a x3.len x3.cap] KU K h0:=dL NM Tryz.func60 Tryz.call60 rfl rfl (by kernel_rfl) h
def AV(x0:T6)(x1:T6)(x2:T6)(x3:Int)(K:((T6)×SliceV×Int)→ae→Prop)(h0:ae):Prop:=
 At (hnew h0 (pj x0) bI) (fun h1=>
 At (hnew h1 (pj x1) bI) (fun h2=>
 At (hnew h2 (pj x2) bI) (fun h3=>
 At (hnew h3 xB bI) (fun h4=>
 HC PG wR [.int .i64 x3] [.c .str] (fun(e5:ByteArray) h6=>
 CondP (e5.toList==(⟨#[]⟩:ByteArray).toList) (
 ∃v7,aU h6 h1 0 v7∧
 ∃v8,af h6 h1 1 v8∧
 ∃v9,af h6 h1 2 v9∧
 ∃v10,af h6 h1 3 v10∧
 ∃v11,aH h6 h1 4 v11∧
 ∃v12,aH h6 h1 5 v12∧
 (di h6 h3 (Fz v7 v8 v9 v10 v11 v12) (fun h13=>
 ∃v14,aU h13 h3 0 v14∧
 ∃v15,af h13 h3 1 v15∧
 ∃v16,af h13 h3 2 v16∧
 ∃v17,af h13 h3 3 v17∧
 ∃v18,aH h13 h3 4 v18∧
 ∃v19,aH h13 h3 5 v19∧
 K ((v14,v15,v16,v17,v18,v19),⟨none,0,0⟩,1) h13))) (
 Join (fun(t49:Bool) h50=>
 CondP t49 (
 ∃v51,aU h50 h1 0 v51∧
 ∃v52,af h50 h1 1 v52∧
 ∃v53,af h50 h1 2 v53∧
 ∃v54,af h50 h1 3 v54∧
 ∃v55,aH h50 h1 4 v55∧
 ∃v56,aH h50 h1 5 v56∧
 (di h50 h3 (Fz v51 v52 v53 v54 v55 v56) (fun h57=>
 ∃v58,aU h57 h3 0 v58∧
 ∃v59,af h57 h3 1 v59∧
 ∃v60,af h57 h3 2 v60∧
 ∃v61,af h57 h3 3 v61∧
 ∃v62,aH h57 h3 4 v62∧
 ∃v63,aH h57 h3 5 v63∧
 K ((v58,v59,v60,v61,v62,v63),⟨none,0,0⟩,11) h57))) (
 ∃v64,aU h50 h0 0 v64∧
 ∃v65,af h50 h0 1 v65∧
 ∃v66,af h50 h0 2 v66∧
 ∃v67,af h50 h0 3 v67∧
 ∃v68,aH h50 h0 4 v68∧
 ∃v69,aH h50 h0 5 v69∧
 ∃v70,aU h50 h2 0 v70∧
 ∃v71,af h50 h2 1 v71∧
 ∃v72,af h50 h2 2 v72∧
 ∃v73,af h50 h2 3 v73∧
 ∃v74,aH h50 h2 4 v74∧
 ∃v75,aH h50 h2 5 v75∧
 HC PG vJ [sQ v64 v65 v66 v67 v68 v69,sQ v70 v71 v72 v73 v74 v75] MK (fun(e76:SliceV×Int) h77=>
 ∃v78,aU h77 h1 0 v78∧
 ∃v79,af h77 h1 1 v79∧
 ∃v80,af h77 h1 2 v80∧
 ∃v81,af h77 h1 3 v81∧
 ∃v82,aH h77 h1 4 v82∧
 ∃v83,aH h77 h1 5 v83∧
 nv h77 xB bI (Fz v78 v79 v80 v81 v82 v83) (fun h85=>
 LoopP (fun I86 (t87:SliceV×Int) h88=>
 CondP (decide (t87.2<(e76.1.len:Int))) (
 (cB t87.2 e76.1.len∧∃a89,e76.1.a=some a89∧
 ∃v90,aO h88 (adr a89 (t87.2.toNat*5)) 0 v90∧
 ∃v91,aO h88 (adr a89 (t87.2.toNat*5)) 1 v91∧
 ∃v92,aO h88 (adr a89 (t87.2.toNat*5)) 2 v92∧
 ∃v93,cP h88 (adr a89 (t87.2.toNat*5)) 3 v93∧
 ∃v94,cP h88 (adr a89 (t87.2.toNat*5)) 4 v94∧
 nv h88 NU cp (vq v90 v91 v92 v93 v94) (fun h96=>
 Join (fun(t141:Addr) h142=>
 ∃v143,aO h142 (adr t141 1) 0 v143∧
 ∃v144,cP h142 (adr t141 1) 1 v144∧
 ∃v145,aO h142 (adr t141 3) 0 v145∧
 ∃v146,cP h142 (adr t141 3) 1 v146∧
 ∃v147,aO h142 (adr t141 5) 0 v147∧
 ∃v148,cP h142 (adr t141 5) 1 v148∧
 HC PG wQ [FA v143 v144,FA v145 v146,FA v147 v148,.int .i64 x3] zv (fun(e149:(ByteArray×Bool)×Bool) h150=>
 nv h150 A6 lF (vA e149.1) (fun h152=>
 Join (fun(t165:SliceV) h166=>
 ∃v167,aU h166 h77 0 v167∧
 ∃v168,af h166 h77 1 v168∧
 ∃v169,af h166 h77 2 v169∧
 ∃v170,af h166 h77 3 v170∧
 ∃v171,aH h166 h77 4 v171∧
 ∃v172,aH h166 h77 5 v172∧
 ∃v173,aw h166 h88 0 v173∧
 ∃v174,aw h166 h150 0 v174∧
 ∃v175,cT h166 h150 1 v175∧
 HC PG yi [sQ v167 v168 v169 v170 v171 v172,.string v173,FA v174 v175] Am (fun(e176:T6) h177=>
 (di h177 h77 (pj e176) (fun h178=>
 I86 (t165,IntKind.wrap .i64 (t87.2+1)) h178))) h166) (fun J153=>
 CondP (!e149.2) (
 ∃v154,aO h152 t141 0 v154∧
 ∃v155,aO h152 t141 1 v155∧
 ∃v156,cP h152 t141 2 v156∧
 ∃v157,aO h152 t141 3 v157∧
 ∃v158,cP h152 t141 4 v158∧
 ∃v159,aO h152 t141 5 v159∧
 ∃v160,cP h152 t141 6 v160∧
 At (hnew h152 (Ba v154 v155 v156 v157 v158 v159 v160) eE) (fun h161=>
 ∃xs162,SRow h161 (some (aE h152)) (1*7) xs162∧
 AppP (some A5) 7 88 eE t87.1.a t87.1.len t87.1.cap 1 xs162 h161 (fun s163 h164=>
 J153 s163 h164))) (
 J153 t87.1 h152)))) h142) (fun J120=>
 ∃v121,aw h96 h88 0 v121∧
 ∃v122,aw h96 h88 1 v122∧
 ∃v123,cT h96 h88 3 v123∧
 ∃v124,aU h96 h1 0 v124∧
 ∃v125,af h96 h1 1 v125∧
 ∃v126,af h96 h1 2 v126∧
 ∃v127,af h96 h1 3 v127∧
 ∃v128,aH h96 h1 4 v128∧
 ∃v129,aH h96 h1 5 v129∧
 ∃v130,aw h96 h88 0 v130∧
 ∃v131,aw h96 h88 2 v131∧
 ∃v132,cT h96 h88 4 v132∧
 ((HC PG uo [sQ v124 v125 v126 v127 v128 v129,.string v130] pH (fun(e133:ByteArray×Bool) h134=>
 (cT h134 h88 4 v132∧
 (aw h134 h88 2 v131∧
 (cT h134 h88 3 v123∧
 (aw h134 h88 1 v122∧
 (aw h134 h88 0 v121∧
 At (hnew h134 A5 eE) (fun h135=>
 (cT h135 h88 4 v132∧
 (aw h135 h88 2 v131∧
 (cT h135 h88 3 v123∧
 (aw h135 h88 1 v122∧
 (aw h135 h88 0 v121∧
 (di h135 h134 (Ba v121 v122 v123 e133.1 e133.2 v131 v132) (fun h136=>
 J120 (aE h134) h136)))))))))))))) h96)∧
 At (hnew h96 A5 eE) (fun h137=>
 (cT h137 h88 4 v132∧
 (aw h137 h88 2 v131∧
 (aw h137 h88 0 v130∧
 ((aU h137 h1 0 v124∧af h137 h1 1 v125∧af h137 h1 2 v126∧af h137 h1 3 v127∧aH h137 h1 4 v128∧aH h137 h1 5 v129)∧
 (cT h137 h88 3 v123∧
 (aw h137 h88 1 v122∧
 (aw h137 h88 0 v121∧
 HC PG uo [sQ v124 v125 v126 v127 v128 v129,.string v130] pH (fun(e138:ByteArray×Bool) h139=>
 (cT h139 h88 4 v132∧
 (aw h139 h88 2 v131∧
 (cT h139 h88 3 v123∧
 (aw h139 h88 1 v122∧
 (aw h139 h88 0 v121∧
 (di h139 h96 (Ba v121 v122 v123 e138.1 e138.2 v131 v132) (fun h140=>
 J120 (aE h96) h140)))))))) h137))))))))))))) (
 Join (fun(t180:Bool) h181=>
 CondP t180 (
 ∃v182,aU h181 h1 0 v182∧
 ∃v183,af h181 h1 1 v183∧
 ∃v184,af h181 h1 2 v184∧
 ∃v185,af h181 h1 3 v185∧
 ∃v186,aH h181 h1 4 v186∧
 ∃v187,aH h181 h1 5 v187∧
 (di h181 h3 (Fz v182 v183 v184 v185 v186 v187) (fun h188=>
 ∃v189,aU h188 h3 0 v189∧
 ∃v190,af h188 h3 1 v190∧
 ∃v191,af h188 h3 2 v191∧
 ∃v192,af h188 h3 3 v192∧
 ∃v193,aH h188 h3 4 v193∧
 ∃v194,aH h188 h3 5 v194∧
 K ((v189,v190,v191,v192,v193,v194),t87.1,8) h188))) (
 ∃v195,aU h181 h77 0 v195∧
 ∃v196,af h181 h77 1 v196∧
 ∃v197,af h181 h77 2 v197∧
 ∃v198,af h181 h77 3 v198∧
 ∃v199,aH h181 h77 4 v199∧
 ∃v200,aH h181 h77 5 v200∧
 (di h181 h3 (Fz v195 v196 v197 v198 v199 v200) (fun h201=>
 ∃v202,aU h201 h3 0 v202∧
 ∃v203,af h201 h3 1 v203∧
 ∃v204,af h201 h3 2 v204∧
 ∃v205,af h201 h3 3 v205∧
 ∃v206,aH h201 h3 4 v206∧
 ∃v207,aH h201 h3 5 v207∧
 K ((v202,v203,v204,v205,v206,v207),t87.1,0) h201)))) (fun J179=>
 CondP (x3==(0:Int)) (
 J179 (decide ((t87.1.len:Int)>(0:Int))) h88) (
 J179 false h88)))) (⟨none,0,0⟩,0) h85)) h50)) (fun J20=>
 ∃v21,aU h6 h0 0 v21∧
 ∃v22,af h6 h0 1 v22∧
 ∃v23,af h6 h0 2 v23∧
 ∃v24,af h6 h0 3 v24∧
 ∃v25,aH h6 h0 4 v25∧
 ∃v26,aH h6 h0 5 v26∧
 ∃v27,aU h6 h1 0 v27∧
 ∃v28,af h6 h1 1 v28∧
 ∃v29,af h6 h1 2 v29∧
 ∃v30,af h6 h1 3 v30∧
 ∃v31,aH h6 h1 4 v31∧
 ∃v32,aH h6 h1 5 v32∧
 HC PG rm [sQ v21 v22 v23 v24 v25 v26,sQ v27 v28 v29 v30 v31 v32] [.c .bool] (fun(e33:Bool) h34=>
 CondP (!e33) (
 J20 true h34) (
 ∃v35,aU h34 h0 0 v35∧
 ∃v36,af h34 h0 1 v36∧
 ∃v37,af h34 h0 2 v37∧
 ∃v38,af h34 h0 3 v38∧
 ∃v39,aH h34 h0 4 v39∧
 ∃v40,aH h34 h0 5 v40∧
 ∃v41,aU h34 h2 0 v41∧
 ∃v42,af h34 h2 1 v42∧
 ∃v43,af h34 h2 2 v43∧
 ∃v44,af h34 h2 3 v44∧
 ∃v45,aH h34 h2 4 v45∧
 ∃v46,aH h34 h2 5 v46∧
 HC PG rm [sQ v35 v36 v37 v38 v39 v40,sQ v41 v42 v43 v44 v45 v46] [.c .bool] (fun(e47:Bool) h48=>
 J20 (!e47) h48) h34)) h6))) h4))))
noncomputable def P9:Ann:=.node .nil (.node (.node .nil (.node .nil (.join [(25,.c .bool)] .nil .nil))) (.node .nil (.node .nil (.node .nil (.node (.node .nil (.loop [(14,.c .slice),(46,.c (.int .i64))] (.node .nil (.node .nil (.node (.node .nil (.join [(17,.c .adr)] (.draw (Zv [0,1,2,3,4,5,6,7,8,9,11,12,13,14,15] (.all (.pick 10 (.take 16 (.all (.lastT 17 (.all (.lastT 18 (.done)))))) (.last 17 (.all (.lastT 10 (.take 16 (.all (.lastT 18 (.done))))))))))) (.node .nil (.join [(14,.c .slice)] .nil .nil)))) .nil))))) (.node (.join [(96,.c .bool)] .nil .nil) .nil))))))
theorem G7(x0:T6)(x1:T6)(x2:T6)(x3:Int){K:cQ Sn→ae→Prop}{h0:ae}(h:AV x0 x1 x2 x3 K h0):HC PG qF [Je x0,Je x1,Je x2,.int .i64 x3] Sn K h0:=dL P9 Tryz.func61 Tryz.call61 rfl rfl (by kernel_rfl) h
def Hi(x0:T5)(x1:T5)(x2:T5)(x3:Int)(K:((T5)×SliceV×Int)→ae→Prop)(h0:ae):Prop:=
 At (hnew h0 (CM x0) cG) (fun h1=>
 At (hnew h1 (CM x1) cG) (fun h2=>
 At (hnew h2 (CM x2) cG) (fun h3=>
 At (hnew h3 HH cG) (fun h4=>
 Join (fun(t6:Bool) h7=>
 CondP t6 (
 ∃v8,aU h7 h1 0 v8∧
 ∃v9,af h7 h1 1 v9∧
 ∃v10,af h7 h1 2 v10∧
 ∃v11,af h7 h1 3 v11∧
 ∃v12:SliceV,cx h7 h1 4 v12∧
 (di h7 h3 (LS v8 v9 v10 v11 v12) (fun h13=>
 ∃v14,aU h13 h3 0 v14∧
 ∃v15,af h13 h3 1 v15∧
 ∃v16,af h13 h3 2 v16∧
 ∃v17,af h13 h3 3 v17∧
 ∃v18:SliceV,cx h13 h3 4 v18∧
 K ((v14,v15,v16,v17,v18),⟨none,0,0⟩,1) h13))) (
 Join (fun(t44:Bool) h45=>
 CondP t44 (
 ∃v46,aU h45 h1 0 v46∧
 ∃v47,af h45 h1 1 v47∧
 ∃v48,af h45 h1 2 v48∧
 ∃v49,af h45 h1 3 v49∧
 ∃v50:SliceV,cx h45 h1 4 v50∧
 (di h45 h3 (LS v46 v47 v48 v49 v50) (fun h51=>
 ∃v52,aU h51 h3 0 v52∧
 ∃v53,af h51 h3 1 v53∧
 ∃v54,af h51 h3 2 v54∧
 ∃v55,af h51 h3 3 v55∧
 ∃v56:SliceV,cx h51 h3 4 v56∧
 K ((v52,v53,v54,v55,v56),⟨none,0,0⟩,11) h51))) (
 ∃v57,aU h45 h0 0 v57∧
 ∃v58,af h45 h0 1 v58∧
 ∃v59,af h45 h0 2 v59∧
 ∃v60,af h45 h0 3 v60∧
 ∃v61:SliceV,cx h45 h0 4 v61∧
 ∃v62,aU h45 h1 0 v62∧
 ∃v63,af h45 h1 1 v63∧
 ∃v64,af h45 h1 2 v64∧
 ∃v65,af h45 h1 3 v65∧
 ∃v66:SliceV,cx h45 h1 4 v66∧
 ∃v67,aU h45 h2 0 v67∧
 ∃v68,af h45 h2 1 v68∧
 ∃v69,af h45 h2 2 v69∧
 ∃v70,af h45 h2 3 v70∧
 ∃v71:SliceV,cx h45 h2 4 v71∧
 At (hnew h45 (Yl v57 v58 v59 v60 v61 v62 v63 v64 v65 v66 v67 v68 v69 v70 v71) cG) (fun h72=>
 LoopP (fun I73 (t74:SliceV×Int) h75=>
 CondP (decide (t74.2<(3:Int))) (
 (cB t74.2 3∧∃a76,some (aE h45)=some a76∧
 ∃v77,zr h75 (adr a76 (t74.2.toNat*5)) 0 v77∧
 ∃v78,cM h75 (adr a76 (t74.2.toNat*5)) 1 v78∧
 ∃v79,cM h75 (adr a76 (t74.2.toNat*5)) 2 v79∧
 ∃v80,cM h75 (adr a76 (t74.2.toNat*5)) 3 v80∧
 ∃v81:SliceV,bR h75 (adr a76 (t74.2.toNat*5)) 4 v81∧
 nv h75 HH cG (LS v77 v78 v79 v80 v81) (fun h83=>
 ∃v84:SliceV,cx h83 h75 4 v84∧
 LoopP (fun I85 (t86:SliceV×Int) h87=>
 CondP (decide (t86.2<(v84.len:Int))) (
 (cB t86.2 v84.len∧∃a88,v84.a=some a88∧
 ∃v89,aO h87 (adr a88 (t86.2.toNat*2)) 0 v89∧
 ∃v90,aO h87 (adr a88 (t86.2.toNat*2)) 1 v90∧
 nv h87 kZ bS (ij v89 v90) (fun h92=>
 ∃v93,aw h92 h87 0 v93∧
 ∃v94,aw h92 h87 1 v94∧
 HC PG yR [.slice t86.1.a t86.1.len t86.1.cap,qn v93 v94] [.c .slice] (fun(e95:SliceV) h96=>
 I85 (e95,IntKind.wrap .i64 (t86.2+1)) h96) h92))) (
 I73 (t86.1,IntKind.wrap .i64 (t74.2+1)) h87)) (t74.1,0) h83))) (
 ∃v97,aU h75 h1 0 v97∧
 ∃v98,af h75 h1 1 v98∧
 ∃v99,af h75 h1 2 v99∧
 ∃v100,af h75 h1 3 v100∧
 ∃v101:SliceV,cx h75 h1 4 v101∧
 nv h75 HH cG (LS v97 v98 v99 v100 v101) (fun h103=>
 (dS h103 (adr (aE h75) 4) (.slice none 0 0) (fun h104=>
 LoopP (fun I105 (t106:SliceV×Int) h107=>
 CondP (decide (t106.2<(t74.1.len:Int))) (
 Join (fun(t243:SliceV) h244=>
 I105 (t243,IntKind.wrap .i64 (t106.2+1)) h244) (fun J108=>
 (cB t106.2 t74.1.len∧∃a109,t74.1.a=some a109∧
 ∃v110,aO h107 (adr a109 (t106.2.toNat*2)) 0 v110∧
 ∃v111,aO h107 (adr a109 (t106.2.toNat*2)) 1 v111∧
 nv h107 kZ bS (ij v110 v111) (fun h113=>
 Join (fun(t208:Addr) h209=>
 ∃v210,aO h209 (adr t208 1) 0 v210∧
 ∃v211,cP h209 (adr t208 1) 1 v211∧
 ∃v212,aO h209 (adr t208 3) 0 v212∧
 ∃v213,cP h209 (adr t208 3) 1 v213∧
 ∃v214,aO h209 (adr t208 5) 0 v214∧
 ∃v215,cP h209 (adr t208 5) 1 v215∧
 HC PG Av [FA v210 v211,FA v212 v213,FA v214 v215,.int .i64 x3] zv (fun(e216:(ByteArray×Bool)×Bool) h217=>
 nv h217 A6 qv (vA e216.1) (fun h219=>
 Join (fun(t232:SliceV) h233=>
 ∃v234,cT h233 h217 1 v234∧
 CondP v234 (
 ∃v235:SliceV,cx h233 h75 4 v235∧
 ∃v236,aw h233 h107 0 v236∧
 ∃v237,aw h233 h217 0 v237∧
 At (hnew h233 (ij v236 v237) bS) (fun h238=>
 ∃xs239,SRow h238 (some (aE h233)) (1*2) xs239∧
 AppP (some kZ) 2 32 bS v235.a v235.len v235.cap 1 xs239 h238 (fun s240 h241=>
 (dS h241 (adr (aE h75) 4) (.slice s240.a s240.len s240.cap) (fun h242=>
 J108 t232 h242))))) (
 J108 t232 h233)) (fun J220=>
 CondP (!e216.2) (
 ∃v221,aO h219 t208 0 v221∧
 ∃v222,aO h219 t208 1 v222∧
 ∃v223,cP h219 t208 2 v223∧
 ∃v224,aO h219 t208 3 v224∧
 ∃v225,cP h219 t208 4 v225∧
 ∃v226,aO h219 t208 5 v226∧
 ∃v227,cP h219 t208 6 v227∧
 At (hnew h219 (Ba v221 v222 v223 v224 v225 v226 v227) fZ) (fun h228=>
 ∃xs229,SRow h228 (some (aE h219)) (1*7) xs229∧
 AppP (some A5) 7 88 fZ t106.1.a t106.1.len t106.1.cap 1 xs229 h228 (fun s230 h231=>
 J220 s230 h231))) (
 J220 t106.1 h219)))) h209) (fun J162=>
 ∃v163,aw h113 h107 0 v163∧
 ∃v164,aU h113 h0 0 v164∧
 ∃v165,af h113 h0 1 v165∧
 ∃v166,af h113 h0 2 v166∧
 ∃v167,af h113 h0 3 v167∧
 ∃v168:SliceV,cx h113 h0 4 v168∧
 ∃v169,aw h113 h107 0 v169∧
 ∃v170,aU h113 h1 0 v170∧
 ∃v171,af h113 h1 1 v171∧
 ∃v172,af h113 h1 2 v172∧
 ∃v173,af h113 h1 3 v173∧
 ∃v174:SliceV,cx h113 h1 4 v174∧
 ∃v175,aw h113 h107 0 v175∧
 ∃v176,aU h113 h2 0 v176∧
 ∃v177,af h113 h2 1 v177∧
 ∃v178,af h113 h2 2 v178∧
 ∃v179,af h113 h2 3 v179∧
 ∃v180:SliceV,cx h113 h2 4 v180∧
 ∃v181,aw h113 h107 0 v181∧
 ((HC PG lf [CR v164 v165 v166 v167 v168,.string v169] pH (fun(e182:ByteArray×Bool) h183=>
 (aw h183 h107 0 v181∧
 ((aU h183 h2 0 v176∧af h183 h2 1 v177∧af h183 h2 2 v178∧af h183 h2 3 v179∧cx h183 h2 4 v180)∧
 (aw h183 h107 0 v175∧
 ((aU h183 h1 0 v170∧af h183 h1 1 v171∧af h183 h1 2 v172∧af h183 h1 3 v173∧cx h183 h1 4 v174)∧
 (aw h183 h107 0 v163∧
 ((HC PG lf [CR v170 v171 v172 v173 v174,.string v175] pH (fun(e184:ByteArray×Bool) h185=>
 (aw h185 h107 0 v181∧
 ((aU h185 h2 0 v176∧af h185 h2 1 v177∧af h185 h2 2 v178∧af h185 h2 3 v179∧cx h185 h2 4 v180)∧
 (aw h185 h107 0 v163∧
 ((HC PG lf [CR v176 v177 v178 v179 v180,.string v181] pH (fun(e186:ByteArray×Bool) h187=>
 (aw h187 h107 0 v163∧
 At (hnew h187 A5 fZ) (fun h188=>
 (aw h188 h107 0 v163∧
 (di h188 h187 (Ba v163 e182.1 e182.2 e184.1 e184.2 e186.1 e186.2) (fun h189=>
 J162 (aE h187) h189)))))) h185)∧
 At (hnew h185 A5 fZ) (fun h190=>
 (aw h190 h107 0 v181∧
 ((aU h190 h2 0 v176∧af h190 h2 1 v177∧af h190 h2 2 v178∧af h190 h2 3 v179∧cx h190 h2 4 v180)∧
 (aw h190 h107 0 v163∧
 HC PG lf [CR v176 v177 v178 v179 v180,.string v181] pH (fun(e191:ByteArray×Bool) h192=>
 (aw h192 h107 0 v163∧
 (di h192 h185 (Ba v163 e182.1 e182.2 e184.1 e184.2 e191.1 e191.2) (fun h193=>
 J162 (aE h185) h193)))) h190))))))))) h183)∧
 At (hnew h183 A5 fZ) (fun h194=>
 (aw h194 h107 0 v181∧
 ((aU h194 h2 0 v176∧af h194 h2 1 v177∧af h194 h2 2 v178∧af h194 h2 3 v179∧cx h194 h2 4 v180)∧
 (aw h194 h107 0 v175∧
 ((aU h194 h1 0 v170∧af h194 h1 1 v171∧af h194 h1 2 v172∧af h194 h1 3 v173∧cx h194 h1 4 v174)∧
 (aw h194 h107 0 v163∧
 HC PG lf [CR v170 v171 v172 v173 v174,.string v175] pH (fun(e195:ByteArray×Bool) h196=>
 (aw h196 h107 0 v181∧
 ((aU h196 h2 0 v176∧af h196 h2 1 v177∧af h196 h2 2 v178∧af h196 h2 3 v179∧cx h196 h2 4 v180)∧
 (aw h196 h107 0 v163∧
 HC PG lf [CR v176 v177 v178 v179 v180,.string v181] pH (fun(e197:ByteArray×Bool) h198=>
 (aw h198 h107 0 v163∧
 (di h198 h183 (Ba v163 e182.1 e182.2 e195.1 e195.2 e197.1 e197.2) (fun h199=>
 J162 (aE h183) h199)))) h196)))) h194))))))))))))) h113)∧
 At (hnew h113 A5 fZ) (fun h200=>
 (aw h200 h107 0 v181∧
 ((aU h200 h2 0 v176∧af h200 h2 1 v177∧af h200 h2 2 v178∧af h200 h2 3 v179∧cx h200 h2 4 v180)∧
 (aw h200 h107 0 v175∧
 ((aU h200 h1 0 v170∧af h200 h1 1 v171∧af h200 h1 2 v172∧af h200 h1 3 v173∧cx h200 h1 4 v174)∧
 (aw h200 h107 0 v169∧
 ((aU h200 h0 0 v164∧af h200 h0 1 v165∧af h200 h0 2 v166∧af h200 h0 3 v167∧cx h200 h0 4 v168)∧
 (aw h200 h107 0 v163∧
 HC PG lf [CR v164 v165 v166 v167 v168,.string v169] pH (fun(e201:ByteArray×Bool) h202=>
 (aw h202 h107 0 v181∧
 ((aU h202 h2 0 v176∧af h202 h2 1 v177∧af h202 h2 2 v178∧af h202 h2 3 v179∧cx h202 h2 4 v180)∧
 (aw h202 h107 0 v175∧
 ((aU h202 h1 0 v170∧af h202 h1 1 v171∧af h202 h1 2 v172∧af h202 h1 3 v173∧cx h202 h1 4 v174)∧
 (aw h202 h107 0 v163∧
 HC PG lf [CR v170 v171 v172 v173 v174,.string v175] pH (fun(e203:ByteArray×Bool) h204=>
 (aw h204 h107 0 v181∧
 ((aU h204 h2 0 v176∧af h204 h2 1 v177∧af h204 h2 2 v178∧af h204 h2 3 v179∧cx h204 h2 4 v180)∧
 (aw h204 h107 0 v163∧
 HC PG lf [CR v176 v177 v178 v179 v180,.string v181] pH (fun(e205:ByteArray×Bool) h206=>
 (aw h206 h107 0 v163∧
 (di h206 h113 (Ba v163 e201.1 e201.2 e203.1 e203.2 e205.1 e205.2) (fun h207=>
 J162 (aE h113) h207)))) h204)))) h202)))))) h200)))))))))))))) (
 Join (fun(t246:Bool) h247=>
 CondP t246 (
 ∃v248,aU h247 h1 0 v248∧
 ∃v249,af h247 h1 1 v249∧
 ∃v250,af h247 h1 2 v250∧
 ∃v251,af h247 h1 3 v251∧
 ∃v252:SliceV,cx h247 h1 4 v252∧
 (di h247 h3 (LS v248 v249 v250 v251 v252) (fun h253=>
 ∃v254,aU h253 h3 0 v254∧
 ∃v255,af h253 h3 1 v255∧
 ∃v256,af h253 h3 2 v256∧
 ∃v257,af h253 h3 3 v257∧
 ∃v258:SliceV,cx h253 h3 4 v258∧
 K ((v254,v255,v256,v257,v258),t106.1,8) h253))) (
 ∃v259,aU h247 h75 0 v259∧
 ∃v260,af h247 h75 1 v260∧
 ∃v261,af h247 h75 2 v261∧
 ∃v262,af h247 h75 3 v262∧
 ∃v263:SliceV,cx h247 h75 4 v263∧
 (di h247 h3 (LS v259 v260 v261 v262 v263) (fun h264=>
 ∃v265,aU h264 h3 0 v265∧
 ∃v266,af h264 h3 1 v266∧
 ∃v267,af h264 h3 2 v267∧
 ∃v268,af h264 h3 3 v268∧
 ∃v269:SliceV,cx h264 h3 4 v269∧
 K ((v265,v266,v267,v268,v269),t106.1,0) h264)))) (fun J245=>
 CondP (x3==(0:Int)) (
 J245 (decide ((t106.1.len:Int)>(0:Int))) h107) (
 J245 false h107)))) (⟨none,0,0⟩,0) h104))))) (⟨none,0,0⟩,0) h72))) (fun J19=>
 ∃v20,aU h7 h0 0 v20∧
 ∃v21,af h7 h0 1 v21∧
 ∃v22,af h7 h0 2 v22∧
 ∃v23,af h7 h0 3 v23∧
 ∃v24:SliceV,cx h7 h0 4 v24∧
 ∃v25,aU h7 h1 0 v25∧
 ∃v26,af h7 h1 1 v26∧
 ∃v27,af h7 h1 2 v27∧
 ∃v28,af h7 h1 3 v28∧
 ∃v29:SliceV,cx h7 h1 4 v29∧
 HC PG wK [CR v20 v21 v22 v23 v24,CR v25 v26 v27 v28 v29] [.c .bool] (fun(e30:Bool) h31=>
 CondP (!e30) (
 J19 true h31) (
 ∃v32,aU h31 h0 0 v32∧
 ∃v33,af h31 h0 1 v33∧
 ∃v34,af h31 h0 2 v34∧
 ∃v35,af h31 h0 3 v35∧
 ∃v36:SliceV,cx h31 h0 4 v36∧
 ∃v37,aU h31 h2 0 v37∧
 ∃v38,af h31 h2 1 v38∧
 ∃v39,af h31 h2 2 v39∧
 ∃v40,af h31 h2 3 v40∧
 ∃v41:SliceV,cx h31 h2 4 v41∧
 HC PG wK [CR v32 v33 v34 v35 v36,CR v37 v38 v39 v40 v41] [.c .bool] (fun(e42:Bool) h43=>
 J19 (!e42) h43) h31)) h7))) (fun J5=>
 CondP (decide (x3<(0:Int))) (
 J5 true h4) (
 J5 (decide (x3>(3:Int))) h4))))))
noncomputable def Vi:Ann:=.node .nil (.node (.join [(28,.c .bool)] .nil .nil) (.node (.join [(39,.c .bool)] .nil .nil) (.node .nil (.node (.node .nil (.loop [(11,.c .slice),(46,.c (.int .i64))] (.node .nil (.node .nil (.node (.node .nil (.node .nil (.loop [(11,.c .slice),(53,.c (.int .i64))] .nil))) .nil))))) (.node .nil (.node .nil (.node .nil (.node (.node .nil (.loop [(17,.c .slice),(66,.c (.int .i64))] (.node .nil (.node .nil (.join [(17,.c .slice)] (.node .nil (.join [(20,.c .adr)] .nil (.node .nil (.join [(17,.c .slice)] .nil .nil)))) .nil))))) (.node (.join [(121,.c .bool)] .nil .nil) .nil)))))))))
theorem Nk(x0:T5)(x1:T5)(x2:T5)(x3:Int){K:cQ Wq→ae→Prop}{h0:ae}(h:Hi x0 x1 x2 x3 K h0):HC PG yf [Vt x0,Vt x1,Vt x2,.int .i64 x3] Wq K h0:=dL Vi Tryz.func62 Tryz.call62 rfl rfl (by kernel_rfl) h
def Hy(x0:T6)(x1:T5)(K:(Bool)→ae→Prop)(h0:ae):Prop:=
 At (hnew h0 (pj x0) bI) (fun h1=>
 At (hnew h1 (CM x1) cG) (fun h2=>
 ∃v3,aU h2 h0 0 v3∧
 ∃v4,af h2 h0 1 v4∧
 ∃v5,af h2 h0 2 v5∧
 ∃v6,af h2 h0 3 v6∧
 ∃v7,aH h2 h0 4 v7∧
 ∃v8,aH h2 h0 5 v8∧
 ∃v9,aU h2 h1 0 v9∧
 ∃v10,af h2 h1 1 v10∧
 ∃v11,af h2 h1 2 v11∧
 ∃v12,af h2 h1 3 v12∧
 ∃v13:SliceV,cx h2 h1 4 v13∧
 HC PG pJ [sQ v3 v4 v5 v6 v7 v8] [.c .slice] (fun(e14:SliceV) h15=>
 ((aU h15 h1 0 v9∧af h15 h1 1 v10∧af h15 h1 2 v11∧af h15 h1 3 v12∧cx h15 h1 4 v13)∧
 HC PG yg [CR v9 v10 v11 v12 v13] [.c .slice] (fun(e16:SliceV) h17=>
 HC PG Ax (Qi e14 e16) [.c .bool] (fun(e18:Bool) h19=>
 CondP e18 (
 ∃v20,aU h19 h0 0 v20∧
 ∃v21,af h19 h0 1 v21∧
 ∃v22,af h19 h0 2 v22∧
 ∃v23,af h19 h0 3 v23∧
 ∃v24,aH h19 h0 4 v24∧
 ∃v25,aH h19 h0 5 v25∧
 HC PG pL [sQ v20 v21 v22 v23 v24 v25] [.c .bool] (fun(e26:Bool) h27=>
 K e26 h27) h19) (
 K false h19)) h17) h15)) h2))
theorem PT(x0:T6)(x1:T5){K:cQ [.c .bool]→ae→Prop}{h0:ae}(h:Hy x0 x1 K h0):HC PG AD [Je x0,Vt x1] [.c .bool] K h0:=dL .nil Tryz.func63 Tryz.call63 rfl rfl (by kernel_rfl) h
def Hx(x0:SliceV)(x1:SliceV)(K:(Bool)→ae→Prop)(h0:ae):Prop:=
 CondP ((x0.len:Int) !=(x1.len:Int)) (
 K false h0) (
 LoopP (fun I1 (t2:Int) h3=>
 CondP (decide (t2<(x0.len:Int))) (
 (cB t2 x0.len∧∃a4,x0.a=some a4∧
 ∃v5,aO h3 (adr a4 (t2.toNat*7)) 0 v5∧
 ∃v6,aO h3 (adr a4 (t2.toNat*7)) 1 v6∧
 ∃v7,cP h3 (adr a4 (t2.toNat*7)) 2 v7∧
 ∃v8,aO h3 (adr a4 (t2.toNat*7)) 3 v8∧
 ∃v9,cP h3 (adr a4 (t2.toNat*7)) 4 v9∧
 ∃v10,aO h3 (adr a4 (t2.toNat*7)) 5 v10∧
 ∃v11,cP h3 (adr a4 (t2.toNat*7)) 6 v11∧
 nv h3 A5 eE (Ba v5 v6 v7 v8 v9 v10 v11) (fun h13=>
 Join (fun(t33:Bool) h34=>
 CondP t33 (
 K false h34) (
 I1 (IntKind.wrap .i64 (t2+1)) h34)) (fun J14=>
 ∃v15,aw h13 h3 0 v15∧
 (cB t2 x1.len∧∃a16,x1.a=some a16∧
 ∃v17,aO h13 (adr a16 (t2.toNat*7)) 0 v17∧
 CondP (!(v15.toList==v17.toList)) (
 J14 true h13) (
 ∃v18,aO h13 (adr (aE h3) 1) 0 v18∧
 ∃v19,cP h13 (adr (aE h3) 1) 1 v19∧
 (cB t2 x1.len∧∃a20,x1.a=some a20∧
 ∃v21,aO h13 (adr (adr a20 (t2.toNat*7)) 1) 0 v21∧
 ∃v22,cP h13 (adr (adr a20 (t2.toNat*7)) 1) 1 v22∧
 CondP (!(((v18.toList==v21.toList)&&((v19==v22)&&true)))) (
 J14 true h13) (
 ∃v23,aO h13 (adr (aE h3) 3) 0 v23∧
 ∃v24,cP h13 (adr (aE h3) 3) 1 v24∧
 (cB t2 x1.len∧∃a25,x1.a=some a25∧
 ∃v26,aO h13 (adr (adr a25 (t2.toNat*7)) 3) 0 v26∧
 ∃v27,cP h13 (adr (adr a25 (t2.toNat*7)) 3) 1 v27∧
 CondP (!(((v23.toList==v26.toList)&&((v24==v27)&&true)))) (
 J14 true h13) (
 ∃v28,aO h13 (adr (aE h3) 5) 0 v28∧
 ∃v29,cP h13 (adr (aE h3) 5) 1 v29∧
 (cB t2 x1.len∧∃a30,x1.a=some a30∧
 ∃v31,aO h13 (adr (adr a30 (t2.toNat*7)) 5) 0 v31∧
 ∃v32,cP h13 (adr (adr a30 (t2.toNat*7)) 5) 1 v32∧
 J14 (!(((v28.toList==v31.toList)&&((v29==v32)&&true)))) h13))))))))))) (
 K true h3)) 0 h0)
noncomputable def Qa:Ann:=.node .nil (.node .nil (.node (.node .nil (.loop [(14,.c (.int .i64))] (.node .nil (.node .nil (.node (.node .nil (.join [(56,.c .bool)] .nil .nil)) .nil))))) .nil))
theorem PS(x0:SliceV)(x1:SliceV){K:cQ [.c .bool]→ae→Prop}{h0:ae}(h:Hx x0 x1 K h0):HC PG AC (Qi x0 x1) [.c .bool] K h0:=dL Qa Tryz.func64 Tryz.call64 rfl rfl (by kernel_rfl) h
def uD(x0:T6)(K:(SliceV)→ae→Prop)(h0:ae):Prop:=
 At (hnew h0 (pj x0) bI) (fun h1=>
 ∃v2,aU h1 h0 0 v2∧
 CondP (v2==(1:Int)) (
 ∃v3,aH h1 h0 5 v3∧
 HC PG Pc [] Xb (fun(e4:ByteArray×ByteArray×Bool) h5=>
 (aH h5 h0 5 v3∧
 HC PG K5 [.pointer v3,YI e4] [.c .slice] (fun(e6:SliceV) h7=>
 K e6 h7) h5)) h1) (
 ∃v8,aH h1 h0 4 v8∧
 HC PG qT [.pointer v8] [.c .slice] (fun(e9:SliceV) h10=>
 K e9 h10) h1))
theorem Cb(x0:T6){K:cQ [.c .slice]→ae→Prop}{h0:ae}(h:uD x0 K h0):HC PG pK [Je x0] [.c .slice] K h0:=dL .nil Tryz.func66 Tryz.call66 rfl rfl (by kernel_rfl) h
def CA(x0:ByteArray)(x1:ByteArray)(K:(Int)→ae→Prop)(h0:ae):Prop:=
 CondP (decide ((x0.size:Int)>(256:Int))) (
 K 2 h0) (
 CondP (decide ((x1.size:Int)>(4096:Int))) (
 K 3 h0) (
 K 0 h0))
theorem Lw(x0:ByteArray)(x1:ByteArray){K:cQ cr→ae→Prop}{h0:ae}(h:CA x0 x1 K h0):HC PG sG (ij x0 x1) cr K h0:=dL .nil Tryz.func67 Tryz.call67 rfl rfl (by kernel_rfl) h
def zQ(x0:Int×Int×Int)(x1:SliceV)(K:(Option Addr)→ae→Prop)(h0:ae):Prop:=
 At (hnew h0 (zt x0) co) (fun h1=>
 HC PG ox [.slice x1.a x1.len x1.cap] [.c .slice] (fun(e2:SliceV) h3=>
 LoopP (fun I4 (t5:SliceV×Int) h6=>
 CondP (decide (t5.2<(e2.len:Int))) (
 Join (fun(t25:SliceV) h26=>
 I4 (t25,IntKind.wrap .i64 (t5.2+1)) h26) (fun J7=>
 (cB t5.2 e2.len∧∃a8,e2.a=some a8∧
 ∃v9,aO h6 (adr a8 (t5.2.toNat*2)) 0 v9∧
 ∃v10,aO h6 (adr a8 (t5.2.toNat*2)) 1 v10∧
 nv h6 kZ al (ij v9 v10) (fun h12=>
 ∃v13,aw h12 h6 0 v13∧
 ∃v14,aw h12 h6 1 v14∧
 ∃v15,af h12 h0 0 v15∧
 ∃v16,af h12 h0 1 v16∧
 ∃v17,af h12 h0 2 v17∧
 ∃v18,aw h12 h6 0 v18∧
 HC PG eN [vr v15 v16 v17,.string v18] eW (fun(e19:Int) h20=>
 ((aw h20 h6 0 v13∧aw h20 h6 1 v14)∧
 At (hnew h20 (LT v13 v14 e19) bW) (fun h21=>
 ∃xs22,SRow h21 (some (aE h20)) (1*3) xs22∧
 AppP (some NT) 3 40 bW t5.1.a t5.1.len t5.1.cap 1 xs22 h21 (fun s23 h24=>
 J7 s23 h24)))) h12)))) (
 HC PG pT (VD t5.1 0) [.c .ptr] (fun(e27:Option Addr) h28=>
 K e27 h28) h6)) (⟨none,0,0⟩,0) h3) h1)
noncomputable def IH:Ann:=.node .nil (.node .nil (.node (.node .nil (.loop [(5,.c .slice),(11,.c (.int .i64))] (.node .nil (.node .nil (.join [(5,.c .slice)] (.node .nil (.draw (NS 0 5 (.all (.lastT 5 (.take 6 (.all (.lastT 7 (.all (.lastT 8 (.take 9 (.done)))))))))))) .nil))))) .nil))
theorem Iy(x0:Int×Int×Int)(x1:SliceV){K:cQ [.c .ptr]→ae→Prop}{h0:ae}(h:zQ x0 x1 K h0):HC PG vg [LL x0,.slice x1.a x1.len x1.cap] [.c .ptr] K h0:=dL IH Tryz.func69 Tryz.call69 rfl rfl (by kernel_rfl) h
def EB(x0:ByteArray)(x1:ByteArray)(K:(Int)→ae→Prop)(h0:ae):Prop:=
 CondP (decide ((x0.size:Int)>(256:Int))) (
 K 2 h0) (
 CondP (decide ((x1.size:Int)>(4096:Int))) (
 K 3 h0) (
 K 0 h0))
theorem Nr(x0:ByteArray)(x1:ByteArray){K:cQ cr→ae→Prop}{h0:ae}(h:EB x0 x1 K h0):HC PG yh (ij x0 x1) cr K h0:=dL .nil Tryz.func70 Tryz.call70 rfl rfl (by kernel_rfl) h
def vW(x0:T6)(K:(Int)→ae→Prop)(h0:ae):Prop:=
 At (hnew h0 (pj x0) bI) (fun h1=>
 ∃v2,aU h1 h0 0 v2∧
 K v2 h1)
theorem DE(x0:T6){K:cQ cr→ae→Prop}{h0:ae}(h:vW x0 K h0):HC PG qC [Je x0] cr K h0:=dL .nil Tryz.func73 Tryz.call73 rfl rfl (by kernel_rfl) h
def tI(x0:T6)(K:(Int×Int×Int)→ae→Prop)(h0:ae):Prop:=
 At (hnew h0 (pj x0) bI) (fun h1=>
 At (hnew h1 Y7 co) (fun h2=>
 ∃v3,cM h2 (adr (aE h0) 1) 0 v3∧
 ∃v4,cM h2 (adr (aE h0) 1) 1 v4∧
 ∃v5,cM h2 (adr (aE h0) 1) 2 v5∧
 (di h2 h1 (Y9 v3 v4 v5) (fun h6=>
 ∃v7,af h6 h1 0 v7∧
 ∃v8,af h6 h1 1 v8∧
 ∃v9,af h6 h1 2 v9∧
 K (v7,v8,v9) h6))))
theorem AK(x0:T6){K:cQ Eg→ae→Prop}{h0:ae}(h:tI x0 K h0):HC PG oX [Je x0] Eg K h0:=dL .nil Tryz.func74 Tryz.call74 rfl rfl (by kernel_rfl) h
def Eu(x0:T6)(x1:T6)(K:(Bool)→ae→Prop)(h0:ae):Prop:=
 At (hnew h0 (pj x0) bI) (fun h1=>
 At (hnew h1 (pj x1) bI) (fun h2=>
 ∃v3,aU h2 h0 0 v3∧
 ∃v4,aU h2 h1 0 v4∧
 CondP (v3==v4) (
 ∃v5,cM h2 (adr (aE h0) 1) 0 v5∧
 ∃v6,cM h2 (adr (aE h0) 1) 1 v6∧
 ∃v7,cM h2 (adr (aE h0) 1) 2 v7∧
 ∃v8,cM h2 (adr (aE h1) 1) 0 v8∧
 ∃v9,cM h2 (adr (aE h1) 1) 1 v9∧
 ∃v10,cM h2 (adr (aE h1) 1) 2 v10∧
 K ((((v5==v8)&&((v6==v9)&&true)))&&((v7==v10)&&true)) h2) (
 K false h2)))
theorem Nh(x0:T6)(x1:T6){K:cQ [.c .bool]→ae→Prop}{h0:ae}(h:Eu x0 x1 K h0):HC PG rm [Je x0,Je x1] [.c .bool] K h0:=dL .nil Tryz.func77 Tryz.call77 rfl rfl (by kernel_rfl) h
def zJ(x0:Option Addr)(K:(SliceV)→ae→Prop)(h0:ae):Prop:=
 CondP x0.isNone (
 K ⟨none,0,0⟩ h0) (
 HC PG kV [.pointer x0,.slice none 0 0] [.c .slice] (fun(e1:SliceV) h2=>
 K e1 h2) h0)
theorem Iq(x0:Option Addr){K:cQ [.c .slice]→ae→Prop}{h0:ae}(h:zJ x0 K h0):HC PG ve [.pointer x0] [.c .slice] K h0:=dL .nil Tryz.func79 Tryz.call79 rfl rfl (by kernel_rfl) h
def Hg(x0:Option Addr)(K:(SliceV)→ae→Prop)(h0:ae):Prop:=
 CondP x0.isNone (
 K ⟨none,0,0⟩ h0) (
 HC PG ul [.slice none 0 0,.pointer x0,.int .i64 0] [.c .slice] (fun(e1:SliceV) h2=>
 K e1 h2) h0)
theorem PE(x0:Option Addr){K:cQ [.c .slice]→ae→Prop}{h0:ae}(h:Hg x0 K h0):HC PG Au [.pointer x0] [.c .slice] K h0:=dL .nil Tryz.func80 Tryz.call80 rfl rfl (by kernel_rfl) h
def Ez(x0:Option Addr)(K:(SliceV)→ae→Prop)(h0:ae):Prop:=
 ∃a1,x0=some a1∧
 ∃v2,aO h0 a1 0 v2∧
 HC PG qE [.string v2] [.c .slice] (fun(e3:SliceV) h4=>
 Join (fun(t23:SliceV) h24=>
 Join (fun(t33:SliceV) h34=>
 ∃a35,x0=some a35∧
 ∃v36:SliceV,bR h34 a35 3 v36∧
 LoopP (fun I37 (t38:SliceV×Int) h39=>
 CondP (decide (t38.2<(v36.len:Int))) (
 Join (fun(t48:SliceV) h49=>
 I37 (t48,IntKind.wrap .i64 (t38.2+1)) h49) (fun J40=>
 (cB t38.2 v36.len∧∃a41,v36.a=some a41∧
 ∃v42,bM h39 a41 (t38.2.toNat*1) (.pointer v42)∧
 HC PG um [.pointer v42] [.c .slice] (fun(e43:SliceV) h44=>
 ∃xs45,SRow h44 e43.a (e43.len*1) xs45∧
 AppP (some [.int .u8 0]) 1 1 cH t38.1.a t38.1.len t38.1.cap e43.len xs45 h44 (fun s46 h47=>
 J40 s46 h47)) h39))) (
 K t38.1 h39)) (t33,0) h34) (fun J25=>
 ∃a26,x0=some a26∧
 ∃v27:SliceV,bR h24 a26 3 v27∧
 HC PG sP [.int .i64 (v27.len:Int)] [.c .slice] (fun(e28:SliceV) h29=>
 ∃xs30,SRow h29 e28.a (e28.len*1) xs30∧
 AppP (some [.int .u8 0]) 1 1 cH t23.a t23.len t23.cap e28.len xs30 h29 (fun s31 h32=>
 J25 s31 h32)) h24)) (fun J5=>
 ∃a6,x0=some a6∧
 ∃v7,cP h4 a6 1 v7∧
 CondP v7 (
 ∃a8,x0=some a8∧
 ∃v9,aO h4 a8 2 v9∧
 At (hnew h4 [.int .u8 1] cH) (fun h10=>
 (aO h10 a8 2 v9∧
 ∃xs11,SRow h10 (some (aE h4)) (1*1) xs11∧
 AppP (some [.int .u8 0]) 1 1 cH e3.a e3.len e3.cap 1 xs11 h10 (fun s12 h13=>
 (aO h13 a8 2 v9∧
 HC PG qE [.string v9] [.c .slice] (fun(e14:SliceV) h15=>
 ∃xs16,SRow h15 e14.a (e14.len*1) xs16∧
 AppP (some [.int .u8 0]) 1 1 cH s12.a s12.len s12.cap e14.len xs16 h15 (fun s17 h18=>
 J5 s17 h18)) h13))))) (
 At (hnew h4 [.int .u8 0] cH) (fun h19=>
 ∃xs20,SRow h19 (some (aE h4)) (1*1) xs20∧
 AppP (some [.int .u8 0]) 1 1 cH e3.a e3.len e3.cap 1 xs20 h19 (fun s21 h22=>
 J5 s21 h22))))) h0
noncomputable def NJ:Ann:=.node .nil (.node .nil (.join [(3,.c .slice)] .nil (.join [(3,.c .slice)] .nil (.node (.node .nil (.loop [(3,.c .slice),(40,.c (.int .i64))] (.node .nil (.node .nil (.join [(3,.c .slice)] .nil .nil))))) .nil))))
theorem Nm(x0:Option Addr){K:cQ [.c .slice]→ae→Prop}{h0:ae}(h:Ez x0 K h0):HC PG um [.pointer x0] [.c .slice] K h0:=dL NJ Tryz.func81 Tryz.call81 rfl rfl (by kernel_rfl) h
def ND(x0:SliceV)(K:(Option Addr)→ae→Prop)(h0:ae):Prop:=
 At (hnew h0 Yi oT) (fun h1=>
 Join (fun(t14:SliceV) h15=>
 HC PG sF [.slice t14.a t14.len t14.cap] [.c .slice] (fun(e16:SliceV) h17=>
 ∃a18,some (aE h0)=some a18∧
 (dS h17 (adr a18 3) (.slice e16.a e16.len e16.cap) (fun h19=>
 K (some (aE h0)) h19))) h15) (fun J2=>
 Join (fun(t6:Bool) h7=>
 CondP t6 (
 (cB 0 x0.len∧∃a8,x0.a=some a8∧
 ∃v9,aO h7 (adr a8 ((0:Int).toNat*2)) 1 v9∧
 ∃a10,some (aE h0)=some a10∧
 (dS h7 (adr a10 1) (.bool true) (fun h11=>
 ∃a12,some (aE h0)=some a12∧
 (dS h11 (adr a12 2) (.string v9) (fun h13=>
 (((0:Int)≤(1:Int)∧(1:Int)≤((x0.len:Nat):Int))∧
 J2 ⟨bj x0.a ((1:Int).toNat) x0.cap 2,x0.len-((1:Int).toNat),x0.cap-((1:Int).toNat)⟩ h13))))))) (
 J2 x0 h7)) (fun J3=>
 CondP (decide ((x0.len:Int)>(0:Int))) (
 (cB 0 x0.len∧∃a4,x0.a=some a4∧
 ∃v5,aO h1 (adr a4 ((0:Int).toNat*2)) 0 v5∧
 J3 (v5.toList==(⟨#[]⟩:ByteArray).toList) h1)) (
 J3 false h1))))
noncomputable def Vj:Ann:=.node .nil (.node .nil (.join [(0,.c .slice)] (.join [(15,.c .bool)] .nil .nil) .nil))
theorem Ve(x0:SliceV){K:cQ [.c .ptr]→ae→Prop}{h0:ae}(h:ND x0 K h0):HC PG Gx [.slice x0.a x0.len x0.cap] [.c .ptr] K h0:=dL Vj Tryz.func82 Tryz.call82 rfl rfl (by kernel_rfl) h
def Hn(x0:Option Addr)(x1:Int)(K:(SliceV)→ae→Prop)(h0:ae):Prop:=
 ∃a1,x0=some a1∧
 ∃v2,cP h0 a1 0 v2∧
 CondP v2 (
 ∃a3,x0=some a3∧
 ∃v4:SliceV,bR h0 a3 1 v4∧
 ∃a5,x0=some a5∧
 ∃v6:SliceV,bR h0 a5 1 v6∧
 ((At (hnew h0 [.int .u8 1] cH) (fun h7=>
 (bR h7 a5 1 v6∧
 (bR h7 a3 1 v4∧
 HC PG sP [.int .i64 (v4.len:Int)] [.c .slice] (fun(e8:SliceV) h9=>
 (bR h9 a5 1 v6∧
 (bR h9 a3 1 v4∧
 ∃xs10,SRow h9 e8.a (e8.len*1) xs10∧
 AppP (some [.int .u8 0]) 1 1 cH (some (aE h0)) 1 1 e8.len xs10 h9 (fun s11 h12=>
 (bR h12 a5 1 v6∧
 (bR h12 a3 1 v4∧
 HC PG rp [.slice v6.a v6.len v6.cap] [.c .slice] (fun(e13:SliceV) h14=>
 (bR h14 a3 1 v4∧
 ∃xs15,SRow h14 e13.a (e13.len*1) xs15∧
 AppP (some [.int .u8 0]) 1 1 cH s11.a s11.len s11.cap e13.len xs15 h14 (fun s16 h17=>
 (bR h17 a3 1 v4∧
 K s16 h17)))) h12)))))) h7))))∧
 HC PG sP [.int .i64 (v4.len:Int)] [.c .slice] (fun(e18:SliceV) h19=>
 (bR h19 a5 1 v6∧
 (bR h19 a3 1 v4∧
 At (hnew h19 [.int .u8 1] cH) (fun h20=>
 (bR h20 a5 1 v6∧
 (bR h20 a3 1 v4∧
 ∃xs21,SRow h20 e18.a (e18.len*1) xs21∧
 AppP (some [.int .u8 0]) 1 1 cH (some (aE h19)) 1 1 e18.len xs21 h20 (fun s22 h23=>
 (bR h23 a5 1 v6∧
 (bR h23 a3 1 v4∧
 HC PG rp [.slice v6.a v6.len v6.cap] [.c .slice] (fun(e24:SliceV) h25=>
 (bR h25 a3 1 v4∧
 ∃xs26,SRow h25 e24.a (e24.len*1) xs26∧
 AppP (some [.int .u8 0]) 1 1 cH s22.a s22.len s22.cap e24.len xs26 h25 (fun s27 h28=>
 (bR h28 a3 1 v4∧
 K s27 h28)))) h23))))))))) h0)) (
 LoopP (fun I29 (t30:Int×Int×SliceV×SliceV×Int×Int) h31=>
 CondP (decide (t30.2.2.2.2.2<(32:Int))) (
 Join (fun(t42:Int×SliceV) h43=>
 Join (fun(t54:Int×SliceV) h55=>
 I29 (t42.1,t54.1,t42.2,t54.2,IntKind.wrap .u32 (t30.2.2.2.2.1*2),IntKind.wrap .i64 (t30.2.2.2.2.2+1)) h55) (fun J44=>
 ∃a45,x0=some a45∧
 (cB t30.2.2.2.2.2 32∧
 ∃v46,bM h43 (adr a45 2) (t30.2.2.2.2.2.toNat*1) (.int .i64 v46)∧
 CondP (v46==(2:Int)) (
 CondP (decide (x1<(13:Int))) (
 ∃a47,x0=some a47∧
 (cB t30.2.2.2.2.2 32∧
 ∃v48,bM h43 (adr a47 98) (t30.2.2.2.2.2.toNat*1) (.pointer v48)∧
 HC PG BL (uV v48 (IntKind.wrap .i64 (x1+1))) [.c .slice] (fun(e49:SliceV) h50=>
 ∃xs51,SRow h50 e49.a (e49.len*1) xs51∧
 AppP (some [.int .u8 0]) 1 1 cH t30.2.2.2.1.a t30.2.2.2.1.len t30.2.2.2.1.cap e49.len xs51 h50 (fun s52 h53=>
 J44 (IntKind.wrap .u32 (t30.2.1+t30.2.2.2.2.1),s52) h53)) h43)) (
 J44 (IntKind.wrap .u32 (t30.2.1+t30.2.2.2.2.1),t30.2.2.2.1) h43)) (
 J44 (t30.2.1,t30.2.2.2.1) h43)))) (fun J32=>
 ∃a33,x0=some a33∧
 (cB t30.2.2.2.2.2 32∧
 ∃v34,bM h31 (adr a33 2) (t30.2.2.2.2.2.toNat*1) (.int .i64 v34)∧
 CondP (v34==(1:Int)) (
 ∃a35,x0=some a35∧
 (cB t30.2.2.2.2.2 32∧
 ∃v36,aO h31 (adr (adr a35 34) (t30.2.2.2.2.2.toNat*2)) 0 v36∧
 ∃v37,aO h31 (adr (adr a35 34) (t30.2.2.2.2.2.toNat*2)) 1 v37∧
 At (hnew h31 (ij v36 v37) bS) (fun h38=>
 ∃xs39,SRow h38 (some (aE h31)) (1*2) xs39∧
 AppP (some kZ) 2 32 bS t30.2.2.1.a t30.2.2.1.len t30.2.2.1.cap 1 xs39 h38 (fun s40 h41=>
 J32 (IntKind.wrap .u32 (t30.1+t30.2.2.2.2.1),s40) h41)))) (
 J32 (t30.1,t30.2.2.1) h31)))) (
 Join (fun(t63:SliceV) h64=>
 Join (fun(t71:SliceV) h72=>
 Join (fun(t79:SliceV) h80=>
 ∃xs81,SRow h80 t30.2.2.2.1.a (t30.2.2.2.1.len*1) xs81∧
 AppP (some [.int .u8 0]) 1 1 cH t79.a t79.len t79.cap t30.2.2.2.1.len xs81 h80 (fun s82 h83=>
 K s82 h83)) (fun J73=>
 HC PG rp [.slice t30.2.2.1.a t30.2.2.1.len t30.2.2.1.cap] [.c .slice] (fun(e74:SliceV) h75=>
 ∃xs76,SRow h75 e74.a (e74.len*1) xs76∧
 AppP (some [.int .u8 0]) 1 1 cH t71.a t71.len t71.cap e74.len xs76 h75 (fun s77 h78=>
 J73 s77 h78)) h72)) (fun J65=>
 HC PG wN [.int .u32 t30.2.1] [.c .slice] (fun(e66:SliceV) h67=>
 ∃xs68,SRow h67 e66.a (e66.len*1) xs68∧
 AppP (some [.int .u8 0]) 1 1 cH t63.a t63.len t63.cap e66.len xs68 h67 (fun s69 h70=>
 J65 s69 h70)) h64)) (fun J56=>
 At (hnew h31 [.int .u8 0] cH) (fun h57=>
 HC PG wN [.int .u32 t30.1] [.c .slice] (fun(e58:SliceV) h59=>
 ∃xs60,SRow h59 e58.a (e58.len*1) xs60∧
 AppP (some [.int .u8 0]) 1 1 cH (some (aE h31)) 1 1 e58.len xs60 h59 (fun s61 h62=>
 J56 s61 h62)) h57)))) (0,0,⟨none,0,0⟩,⟨none,0,0⟩,1,0) h0)
noncomputable def Vk:Ann:=.node .nil (.node .nil (.node .nil (.node .nil (.node .nil (.node .nil (.node (.node .nil (.loop [(5,.c (.int .u32)),(6,.c (.int .u32)),(7,.c .slice),(8,.c .slice),(9,.c (.int .u32)),(10,.c (.int .i64))] (.node .nil (.node (.join [(5,.c (.int .u32)),(7,.c .slice)] .nil (.join [(6,.c (.int .u32)),(8,.c .slice)] .nil .nil)) .nil)))) (.join [(11,.c .slice)] .nil (.join [(11,.c .slice)] .nil (.join [(11,.c .slice)] .nil .nil)))))))))
theorem Np(x0:Option Addr)(x1:Int){K:cQ [.c .slice]→ae→Prop}{h0:ae}(h:Hn x0 x1 K h0):HC PG BL (uV x0 x1) [.c .slice] K h0:=dL Vk Tryz.func83 Tryz.call83 rfl rfl (by kernel_rfl) h
def NE(x0:Int×Int×Int)(x1:SliceV)(x2:Int)(K:(Option Addr)→ae→Prop)(h0:ae):Prop:=
 At (hnew h0 (zt x0) su) (fun h1=>
 LoopP (fun I2 (t3:SliceV×Int) h4=>
 CondP (decide (t3.2<(x1.len:Int))) (
 Join (fun(t21:SliceV) h22=>
 I2 (t21,IntKind.wrap .i64 (t3.2+1)) h22) (fun J5=>
 (cB t3.2 x1.len∧∃a6,x1.a=some a6∧
 ∃v7,aO h4 (adr a6 (t3.2.toNat*2)) 0 v7∧
 ∃v8,aO h4 (adr a6 (t3.2.toNat*2)) 1 v8∧
 nv h4 kZ bS (ij v7 v8) (fun h10=>
 ∃v11,af h10 h0 0 v11∧
 ∃v12,af h10 h0 1 v12∧
 ∃v13,af h10 h0 2 v13∧
 ∃v14,aw h10 h4 0 v14∧
 HC PG Ay [vr v11 v12 v13,.string v14] eW (fun(e15:Int) h16=>
 At (hnew h16 [.int .u64 e15] pv) (fun h17=>
 ∃xs18,SRow h17 (some (aE h16)) (1*1) xs18∧
 AppP (some [.int .u64 0]) 1 8 pv t3.1.a t3.1.len t3.1.cap 1 xs18 h17 (fun s19 h20=>
 J5 s19 h20))) h10)))) (
 HC PG BM (Ru x1 t3.1 x2) [.c .ptr] (fun(e23:Option Addr) h24=>
 K e23 h24) h4)) (⟨none,0,0⟩,0) h1)
noncomputable def Vm:Ann:=.node .nil (.node .nil (.node (.node .nil (.loop [(7,.c .slice),(12,.c (.int .i64))] (.node .nil (.node .nil (.join [(7,.c .slice)] .nil .nil))))) .nil))
theorem Vf(x0:Int×Int×Int)(x1:SliceV)(x2:Int){K:cQ [.c .ptr]→ae→Prop}{h0:ae}(h:NE x0 x1 x2 K h0):HC PG Gy [LL x0,.slice x1.a x1.len x1.cap,.int .i64 x2] [.c .ptr] K h0:=dL Vm Tryz.func84 Tryz.call84 rfl rfl (by kernel_rfl) h
def zM(x0:Option Addr)(K:(Bool)→ae→Prop)(h0:ae):Prop:=
 CondP (!(x0.isNone)) (
 ∃a1,x0=some a1∧
 ∃v2,aO h0 a1 0 v2∧
 CondP (v2.toList==(⟨#[]⟩:ByteArray).toList) (
 HC PG lN [.pointer x0] [.c .bool] (fun(e3:Bool) h4=>
 CondP e3 (
 ∃a5,x0=some a5∧
 ∃v6:SliceV,bR h4 a5 3 v6∧
 HC PG cW [.slice v6.a v6.len v6.cap,.func (.func xd) #[] #[]] [.c .bool] (fun(e7:Bool) h8=>
 K (!e7) h8) h4) (
 K false h4)) h0) (
 K false h0)) (
 K false h0)
theorem Is(x0:Option Addr){K:cQ [.c .bool]→ae→Prop}{h0:ae}(h:zM x0 K h0):HC PG vf [.pointer x0] [.c .bool] K h0:=dL .nil Tryz.func85 Tryz.call85 rfl rfl (by kernel_rfl) h
def zH(x0:Int×Int×Int)(x1:Option Addr)(K:(Bool)→ae→Prop)(h0:ae):Prop:=
 At (hnew h0 (zt x0) co) (fun h1=>
 CondP x1.isNone (
 K false h1) (
 ∃v2,af h1 h0 0 v2∧
 ∃v3,af h1 h0 1 v3∧
 ∃v4,af h1 h0 2 v4∧
 HC PG ou [vr v2 v3 v4,.pointer x1,.slice none 0 0] nm (fun(e5:Int×Bool) h6=>
 K e5.2 h6) h1))
theorem Im(x0:Int×Int×Int)(x1:Option Addr){K:cQ [.c .bool]→ae→Prop}{h0:ae}(h:zH x0 x1 K h0):HC PG zw [LL x0,.pointer x1] [.c .bool] K h0:=dL .nil Tryz.func86 Tryz.call86 rfl rfl (by kernel_rfl) h
def vn(K:(Option Addr)→ae→Prop)(h0:ae):Prop:=
 HC PG nz [] [.c .ptr] (fun(e1:Option Addr) h2=>
 K e1 h2) h0
theorem zB{K:cQ [.c .ptr]→ae→Prop}{h0:ae}(h:vn K h0):HC PG oz [] [.c .ptr] K h0:=dL .nil Tryz.func87 Tryz.call87 rfl rfl (by kernel_rfl) h
def zK(K:(Option Addr)→ae→Prop)(h0:ae):Prop:=
 At (hnew h0 LN cj) (fun h1=>
 K (some (aE h0)) h1)
theorem Ir{K:cQ [.c .ptr]→ae→Prop}{h0:ae}(h:zK K h0):HC PG qV [] [.c .ptr] K h0:=dL .nil Tryz.func88 Tryz.call88 rfl rfl (by kernel_rfl) h
def Ev(x0:Option Addr)(x1:Option Addr)(x2:ByteArray×ByteArray)(K:((Option Addr)×Bool)→ae→Prop)(h0:ae):Prop:=
 At (hnew h0 (wq x2) al) (fun h1=>
 ∃v2,aw h1 h0 0 v2∧
 ∃v3,aw h1 h0 1 v3∧
 HC PG sE [.pointer x1] [.c .ptr] (fun(e4:Option Addr) h5=>
 (aw h5 h0 1 v3∧
 (aw h5 h0 0 v2∧
 HC PG nu (Tq e4 x0 v2 v3) ui (fun(e6:(Option Addr)×Bool×Bool) h7=>
 K (e6.1,e6.2.1) h7) h5))) h1)
theorem Ni(x0:Option Addr)(x1:Option Addr)(x2:ByteArray×ByteArray){K:cQ sA→ae→Prop}{h0:ae}(h:Ev x0 x1 x2 K h0):HC PG yd [.pointer x0,.pointer x1,QJ x2] sA K h0:=dL .nil Tryz.func89 Tryz.call89 rfl rfl (by kernel_rfl) h
def EL(x0:Int×Int×Int)(x1:Option Addr)(x2:Option Addr)(x3:ByteArray×ByteArray)(K:((Option Addr)×Bool)→ae→Prop)(h0:ae):Prop:=
 At (hnew h0 (zt x0) co) (fun h1=>
 At (hnew h1 (wq x3) al) (fun h2=>
 ∃v3,af h2 h0 0 v3∧
 ∃v4,af h2 h0 1 v4∧
 ∃v5,af h2 h0 2 v5∧
 ∃v6,aw h2 h1 0 v6∧
 ∃v7,af h2 h0 0 v7∧
 ∃v8,af h2 h0 1 v8∧
 ∃v9,af h2 h0 2 v9∧
 ∃v10,aw h2 h1 0 v10∧
 ((HC PG eN [vr v7 v8 v9,.string v10] eW (fun(e11:Int) h12=>
 (aw h12 h1 0 v6∧
 ((af h12 h0 0 v3∧af h12 h0 1 v4∧af h12 h0 2 v5)∧
 At (hnew h12 Xj df) (fun h13=>
 (aw h13 h1 0 v6∧
 ((af h13 h0 0 v3∧af h13 h0 1 v4∧af h13 h0 2 v5)∧
 (di h13 h12 (Xq v3 v4 v5 x1 v6 e11) (fun h14=>
 ∃v15,af h14 h12 0 v15∧
 ∃v16,af h14 h12 1 v16∧
 ∃v17,af h14 h12 2 v17∧
 ∃v18,aH h14 h12 3 v18∧
 ∃v19,aw h14 h12 4 v19∧
 ∃v20,af h14 h12 5 v20∧
 ∃v21,aw h14 h1 0 v21∧
 ∃v22,aw h14 h1 1 v22∧
 HC PG nD [.pointer x2] [.c .ptr] (fun(e23:Option Addr) h24=>
 ((aw h24 h1 0 v21∧aw h24 h1 1 v22)∧
 ((af h24 h12 0 v15∧af h24 h12 1 v16∧af h24 h12 2 v17∧aH h24 h12 3 v18∧aw h24 h12 4 v19∧af h24 h12 5 v20)∧
 HC PG jM [HK v15 v16 v17 v18 v19 v20,.pointer e23,qn v21 v22,.int .i64 0] ui (fun(e25:(Option Addr)×Bool×Bool) h26=>
 K (e25.1,e25.2.1) h26) h24))) h14)))))))) h2)∧
 At (hnew h2 Xj df) (fun h27=>
 (aw h27 h1 0 v10∧
 ((af h27 h0 0 v7∧af h27 h0 1 v8∧af h27 h0 2 v9)∧
 (aw h27 h1 0 v6∧
 ((af h27 h0 0 v3∧af h27 h0 1 v4∧af h27 h0 2 v5)∧
 HC PG eN [vr v7 v8 v9,.string v10] eW (fun(e28:Int) h29=>
 (aw h29 h1 0 v6∧
 ((af h29 h0 0 v3∧af h29 h0 1 v4∧af h29 h0 2 v5)∧
 (di h29 h2 (Xq v3 v4 v5 x1 v6 e28) (fun h30=>
 ∃v31,af h30 h2 0 v31∧
 ∃v32,af h30 h2 1 v32∧
 ∃v33,af h30 h2 2 v33∧
 ∃v34,aH h30 h2 3 v34∧
 ∃v35,aw h30 h2 4 v35∧
 ∃v36,af h30 h2 5 v36∧
 ∃v37,aw h30 h1 0 v37∧
 ∃v38,aw h30 h1 1 v38∧
 HC PG nD [.pointer x2] [.c .ptr] (fun(e39:Option Addr) h40=>
 ((aw h40 h1 0 v37∧aw h40 h1 1 v38)∧
 ((af h40 h2 0 v31∧af h40 h2 1 v32∧af h40 h2 2 v33∧aH h40 h2 3 v34∧aw h40 h2 4 v35∧af h40 h2 5 v36)∧
 HC PG jM [HK v31 v32 v33 v34 v35 v36,.pointer e39,qn v37 v38,.int .i64 0] ui (fun(e41:(Option Addr)×Bool×Bool) h42=>
 K (e41.1,e41.2.1) h42) h40))) h30))))) h27))))))))
noncomputable def NO:Ann:=.node .nil (.node (.draw (NS 0 7 (.all (.pick 7 (.take 8 (.all (.lastT 9 (.all (.lastT 10 (.done)))))) (.last 9 (.all (.lastT 7 (.take 8 (.all (.lastT 10 (.done))))))))))) (.node (.draw (Zv [0,1,3] (.all (.lastT 2 (.all (.lastT 4 (NS 5 7 (.done)))))))) .nil))
theorem NB(x0:Int×Int×Int)(x1:Option Addr)(x2:Option Addr)(x3:ByteArray×ByteArray){K:cQ sA→ae→Prop}{h0:ae}(h:EL x0 x1 x2 x3 K h0):HC PG yk [LL x0,.pointer x1,.pointer x2,QJ x3] sA K h0:=dL NO Tryz.func90 Tryz.call90 rfl rfl (by kernel_rfl) h
def Hu(x0:SliceV)(x1:ByteArray)(K:(SliceV)→ae→Prop)(h0:ae):Prop:=
 LoopP (fun I1 (t2:SliceV×Int) h3=>
 CondP (decide (t2.2<(x0.len:Int))) (
 Join (fun(t17:SliceV) h18=>
 I1 (t17,IntKind.wrap .i64 (t2.2+1)) h18) (fun J4=>
 (cB t2.2 x0.len∧∃a5,x0.a=some a5∧
 ∃v6,aO h3 (adr a5 (t2.2.toNat*2)) 0 v6∧
 ∃v7,aO h3 (adr a5 (t2.2.toNat*2)) 1 v7∧
 nv h3 kZ bS (ij v6 v7) (fun h9=>
 ∃v10,aw h9 h3 0 v10∧
 CondP (!(v10.toList==x1.toList)) (
 ∃v11,aw h9 h3 0 v11∧
 ∃v12,aw h9 h3 1 v12∧
 At (hnew h9 (ij v11 v12) bS) (fun h13=>
 ∃xs14,SRow h13 (some (aE h9)) (1*2) xs14∧
 AppP (some kZ) 2 32 bS t2.1.a t2.1.len t2.1.cap 1 xs14 h13 (fun s15 h16=>
 J4 s15 h16))) (
 J4 t2.1 h9))))) (
 K t2.1 h3)) (⟨none,0,0⟩,0) h0
noncomputable def P6:Ann:=.node .nil (.node .nil (.node (.node .nil (.loop [(5,.c .slice),(10,.c (.int .i64))] (.node .nil (.node .nil (.join [(5,.c .slice)] .nil .nil))))) .nil))
theorem PP(x0:SliceV)(x1:ByteArray){K:cQ [.c .slice]→ae→Prop}{h0:ae}(h:Hu x0 x1 K h0):HC PG AA (HJ x0 x1) [.c .slice] K h0:=dL P6 Tryz.func93 Tryz.call93 rfl rfl (by kernel_rfl) h
def J9(x0:SliceV)(x1:ByteArray×ByteArray)(K:(SliceV)→ae→Prop)(h0:ae):Prop:=
 At (hnew h0 (wq x1) bS) (fun h1=>
 ∃v2,aw h1 h0 0 v2∧
 HC PG AA (HJ x0 v2) [.c .slice] (fun(e3:SliceV) h4=>
 LoopP (fun I5 (t6:SliceV×Bool×Int) h7=>
 CondP (decide (t6.2.2<(e3.len:Int))) (
 Join (fun(t36:SliceV×Bool) h37=>
 I5 (t36.1,t36.2,IntKind.wrap .i64 (t6.2.2+1)) h37) (fun J8=>
 (cB t6.2.2 e3.len∧∃a9,e3.a=some a9∧
 ∃v10,aO h7 (adr a9 (t6.2.2.toNat*2)) 0 v10∧
 ∃v11,aO h7 (adr a9 (t6.2.2.toNat*2)) 1 v11∧
 nv h7 kZ bS (ij v10 v11) (fun h13=>
 Join (fun(t28:SliceV×Bool) h29=>
 ∃v30,aw h29 h7 0 v30∧
 ∃v31,aw h29 h7 1 v31∧
 At (hnew h29 (ij v30 v31) bS) (fun h32=>
 ∃xs33,SRow h32 (some (aE h29)) (1*2) xs33∧
 AppP (some kZ) 2 32 bS t28.1.a t28.1.len t28.1.cap 1 xs33 h32 (fun s34 h35=>
 J8 (s34,t28.2) h35))) (fun J14=>
 Join (fun(t20:Bool) h21=>
 CondP t20 (
 ∃v22,aw h21 h0 0 v22∧
 ∃v23,aw h21 h0 1 v23∧
 At (hnew h21 (ij v22 v23) bS) (fun h24=>
 ∃xs25,SRow h24 (some (aE h21)) (1*2) xs25∧
 AppP (some kZ) 2 32 bS t6.1.a t6.1.len t6.1.cap 1 xs25 h24 (fun s26 h27=>
 J14 (s26,true) h27))) (
 J14 (t6.1,t6.2.1) h21)) (fun J15=>
 CondP (!t6.2.1) (
 ∃v16,aw h13 h0 0 v16∧
 ∃v17,aw h13 h7 0 v17∧
 HC PG wO (ij v16 v17) [.c .bool] (fun(e18:Bool) h19=>
 J15 e18 h19) h13) (
 J15 false h13))))))) (
 CondP (!t6.2.1) (
 ∃v38,aw h7 h0 0 v38∧
 ∃v39,aw h7 h0 1 v39∧
 At (hnew h7 (ij v38 v39) bS) (fun h40=>
 ∃xs41,SRow h40 (some (aE h7)) (1*2) xs41∧
 AppP (some kZ) 2 32 bS t6.1.a t6.1.len t6.1.cap 1 xs41 h40 (fun s42 h43=>
 K s42 h43))) (
 K t6.1 h7))) (⟨none,0,0⟩,false,0) h4) h1)
noncomputable def S6:Ann:=.node .nil (.node .nil (.node .nil (.node (.node .nil (.loop [(5,.c .slice),(6,.c .bool),(14,.c (.int .i64))] (.node .nil (.node .nil (.join [(5,.c .slice),(6,.c .bool)] (.node .nil (.join [(5,.c .slice),(6,.c .bool)] (.join [(26,.c .bool)] .nil .nil) .nil)) .nil))))) .nil)))
theorem SX(x0:SliceV)(x1:ByteArray×ByteArray){K:cQ [.c .slice]→ae→Prop}{h0:ae}(h:J9 x0 x1 K h0):HC PG yR [.slice x0.a x0.len x0.cap,QJ x1] [.c .slice] K h0:=dL S6 Tryz.func94 Tryz.call94 rfl rfl (by kernel_rfl) h
def Ew(x0:Option Addr)(x1:ByteArray)(K:(ByteArray×Bool)→ae→Prop)(h0:ae):Prop:=
 HC PG sE [.pointer x0] [.c .ptr] (fun(e1:Option Addr) h2=>
 LoopP (fun I3 (t4:ByteArray×(Option Addr)) h5=>
 CondP (!(t4.1.toList==(⟨#[]⟩:ByteArray).toList)) (
 ∃b6,(0:Int)≤(0:Int)∧t4.1[(0:Int).toNat]? =some b6∧
 HC PG mz (Kk t4.2 (b6.toNat:Int)) nm (fun(e7:Int×Bool) h8=>
 CondP (!e7.2) (
 K ((⟨#[]⟩:ByteArray),false) h8) (
 ∃a9,t4.2=some a9∧
 ∃v10:SliceV,bR h8 a9 3 v10∧
 (cB e7.1 v10.len∧∃a11,v10.a=some a11∧
 ∃v12,bM h8 a11 (e7.1.toNat*1) (.pointer v12)∧
 ∃a13,v12=some a13∧
 ∃v14,aO h8 a13 0 v14∧
 HC PG As (ij t4.1 v14) nn (fun(e15:ByteArray×Bool) h16=>
 CondP (!e15.2) (
 K ((⟨#[]⟩:ByteArray),false) h16) (
 I3 (e15.1,v12) h16)) h8))) h5) (
 HC PG im [.pointer t4.2] nn (fun(e17:ByteArray×Bool) h18=>
 K (e17.1,e17.2) h18) h5)) (x1,e1) h2) h0
noncomputable def NI:Ann:=.node .nil (.node .nil (.node (.loop [(1,.c .str),(6,.c .ptr)] .nil) .nil))
theorem Nj(x0:Option Addr)(x1:ByteArray){K:cQ nn→ae→Prop}{h0:ae}(h:Ew x0 x1 K h0):HC PG ye (A0 x0 x1) nn K h0:=dL NI Tryz.func95 Tryz.call95 rfl rfl (by kernel_rfl) h
def EM(x0:Int×Int×Int)(x1:Option Addr)(x2:ByteArray)(K:(ByteArray×Bool)→ae→Prop)(h0:ae):Prop:=
 At (hnew h0 (zt x0) co) (fun h1=>
 ∃v2,af h1 h0 0 v2∧
 ∃v3,af h1 h0 1 v3∧
 ∃v4,af h1 h0 2 v4∧
 HC PG eN [vr v2 v3 v4,.string x2] eW (fun(e5:Int) h6=>
 HC PG nD [.pointer x1] [.c .ptr] (fun(e7:Option Addr) h8=>
 LoopP (fun I9 (t10:(Option Addr)×Int) h11=>
 HC PG eQ [.pointer t10.1] [.c .bool] (fun(e12:Bool) h13=>
 CondP e12 (
 HC PG tf (A0 t10.1 x2) nn (fun(e14:ByteArray×Bool) h15=>
 K (e14.1,e14.2) h15) h13) (
 HC PG lO (nf e5 t10.2) cr (fun(e16:Int) h17=>
 HC PG jK (uV t10.1 e16) rZ (fun(e18:(ByteArray×ByteArray)×Bool) h19=>
 nv h19 kZ al (wq e18.1) (fun h21=>
 CondP e18.2 (
 ∃v22,aw h21 h19 0 v22∧
 CondP (!(v22.toList==x2.toList)) (
 K ((⟨#[]⟩:ByteArray),false) h21) (
 ∃v23,aw h21 h19 1 v23∧
 K (v23,true) h21)) (
 HC PG gi (uV t10.1 e16) sA (fun(e24:(Option Addr)×Bool) h25=>
 CondP (!e24.2) (
 K ((⟨#[]⟩:ByteArray),false) h25) (
 I9 (e24.1,IntKind.wrap .i64 (t10.2+1)) h25)) h21))) h17) h13)) h11) (e7,0) h8) h6) h1)
noncomputable def NP:Ann:=.node .nil (.node .nil (.node .nil (.loop [(9,.c .ptr),(10,.c (.int .i64))] .nil)))
theorem NC(x0:Int×Int×Int)(x1:Option Addr)(x2:ByteArray){K:cQ nn→ae→Prop}{h0:ae}(h:EM x0 x1 x2 K h0):HC PG yl [LL x0,.pointer x1,.string x2] nn K h0:=dL NP Tryz.func96 Tryz.call96 rfl rfl (by kernel_rfl) h
def Ht(x0:SliceV)(x1:ByteArray)(K:(Int×Bool)→ae→Prop)(h0:ae):Prop:=
 LoopP (fun I1 (t2:Int) h3=>
 Join (fun(t9:Bool) h10=>
 CondP t9 (
 I1 (IntKind.wrap .i64 (t2+1)) h10) (
 CondP (decide (t2<(x0.len:Int))) (
 (cB t2 x0.len∧∃a11,x0.a=some a11∧
 ∃v12,aO h10 (adr a11 (t2.toNat*2)) 0 v12∧
 K (t2,v12.toList==x1.toList) h10)) (
 K (t2,false) h10))) (fun J4=>
 CondP (decide (t2<(x0.len:Int))) (
 (cB t2 x0.len∧∃a5,x0.a=some a5∧
 ∃v6,aO h3 (adr a5 (t2.toNat*2)) 0 v6∧
 HC PG wO (ij v6 x1) [.c .bool] (fun(e7:Bool) h8=>
 J4 e7 h8) h3)) (
 J4 false h3))) 0 h0
noncomputable def P5:Ann:=.node .nil (.node .nil (.node (.loop [(6,.c (.int .i64))] (.node (.join [(19,.c .bool)] .nil .nil) .nil)) .nil))
theorem PO(x0:SliceV)(x1:ByteArray){K:cQ nm→ae→Prop}{h0:ae}(h:Ht x0 x1 K h0):HC PG Az (HJ x0 x1) nm K h0:=dL P5 Tryz.func97 Tryz.call97 rfl rfl (by kernel_rfl) h
def Hr(x0:ByteArray)(x1:ByteArray)(K:(Bool)→ae→Prop)(h0:ae):Prop:=
 LoopP (fun I1 (t2:Int) h3=>
 Join (fun(t5:Bool) h6=>
 CondP t5 (
 ∃b7,(0:Int)≤t2∧x0[t2.toNat]? =some b7∧
 ∃b8,(0:Int)≤t2∧x1[t2.toNat]? =some b8∧
 CondP ((b7.toNat:Int) !=(b8.toNat:Int)) (
 ∃b9,(0:Int)≤t2∧x0[t2.toNat]? =some b9∧
 ∃b10,(0:Int)≤t2∧x1[t2.toNat]? =some b10∧
 K (decide ((b9.toNat:Int)<(b10.toNat:Int))) h6) (
 I1 (IntKind.wrap .i64 (t2+1)) h6)) (
 K (decide ((x0.size:Int)<(x1.size:Int))) h6)) (fun J4=>
 CondP (decide (t2<(x0.size:Int))) (
 J4 (decide (t2<(x1.size:Int))) h3) (
 J4 false h3))) 0 h0
noncomputable def P4:Ann:=.node .nil (.node (.node .nil (.loop [(5,.c (.int .i64))] (.node (.join [(15,.c .bool)] .nil .nil) .nil))) .nil)
theorem PN(x0:ByteArray)(x1:ByteArray){K:cQ [.c .bool]→ae→Prop}{h0:ae}(h:Hr x0 x1 K h0):HC PG wO (ij x0 x1) [.c .bool] K h0:=dL P4 Tryz.func104 Tryz.call104 rfl rfl (by kernel_rfl) h
end Go.Proofs
