/- A part of the proof that the named laws of this program answer true, whatever the input. -/
import Derived.Test.YtncppacbfagpgaaGreatDoorTreeF
set_option maxRecDepth 100000
set_option linter.unusedVariables false
open Array renaming size→bO,setIfInBounds→bJ
open BitVec renaming ofInt→af
open Int renaming tmod→gA,fdiv→dE,tdiv→kP
open Nat renaming beq→bE
namespace Go.Proofs
open Go.Lift
def rs(x0:Int)(x1:Int×Int×Int)(x2:SliceV)(x3:Int)(x4:Int)(x5:Int)(K:(Bool)→ad→Prop)(h0:ad):Prop:=
 At (hnew h0 (uJ x1) cH) (fun h1=>
 HC PG tE [] [.c .bool] (fun(e2:Bool) h3=>
 CondP (!e2) (
 K false h3) (
 HC PG yj (Qk x2 x3 x4 x5) [.c .slice] (fun(e4:SliceV) h5=>
 Join (fun(t11:SliceV) h12=>
 ∃v13,ar h12 h0 0 v13∧
 ∃v14,ar h12 h0 1 v14∧
 ∃v15,ar h12 h0 2 v15∧
 HC PG gG [.int .i64 x0,un v13 v14 v15,.slice t11.a t11.len t11.cap] rI (fun(e16:(T6)×Int) h17=>
 nv h17 zH cE (qV e16.1) (fun h19=>
 ∃v20,ar h19 h0 0 v20∧
 ∃v21,ar h19 h0 1 v21∧
 ∃v22,ar h19 h0 2 v22∧
 HC PG yi [un v20 v21 v22] FT (fun(e23:Int×Int×Int) h24=>
 HC PG tD [.slice e4.a e4.len e4.cap] [.c .slice] (fun(e25:SliceV) h26=>
 HC PG rN [.int .i64 x0,FE e23,.slice e25.a e25.len e25.cap] FS (fun(e27:(T5)×Int) h28=>
 nv h28 M7 mc (PC e27.1) (fun h30=>
 Join (fun(t34:Bool) h35=>
 CondP t34 (
 K false h35) (
 ∃v36,ar h35 h0 0 v36∧
 ∃v37,ar h35 h0 1 v37∧
 ∃v38,ar h35 h0 2 v38∧
 HC PG nA [.int .i64 x0,un v36 v37 v38] rI (fun(e39:(T6)×Int) h40=>
 nv h40 zH cE (qV e39.1) (fun h42=>
 ∃v43,bW h42 h40 0 v43∧
 ∃v44,ar h42 h40 1 v44∧
 ∃v45,ar h42 h40 2 v45∧
 ∃v46,ar h42 h40 3 v46∧
 ∃v47,bD h42 h40 4 v47∧
 ∃v48,bD h42 h40 5 v48∧
 HC PG pj [B5 v43 v44 v45 v46 v47 v48,.slice t11.a t11.len t11.cap] rI (fun(e49:(T6)×Int) h50=>
 nv h50 zH cE (qV e49.1) (fun h52=>
 CondP (e16.2 !=(0:Int)) (
 ∃v53,bW h52 h17 0 v53∧
 ∃v54,ar h52 h17 1 v54∧
 ∃v55,ar h52 h17 2 v55∧
 ∃v56,ar h52 h17 3 v56∧
 ∃v57,bD h52 h17 4 v57∧
 ∃v58,bD h52 h17 5 v58∧
 HC PG ie [B5 v53 v54 v55 v56 v57 v58] bV (fun(e59:Int) h60=>
 CondP (e59==(0:Int)) (
 CondP (e16.2==(11:Int)) (
 K true h60) (
 K (e49.2==e16.2) h60)) (
 K false h60)) h52) (
 CondP (e49.2==(0:Int)) (
 ∃v61,bW h52 h17 0 v61∧
 ∃v62,ar h52 h17 1 v62∧
 ∃v63,ar h52 h17 2 v63∧
 ∃v64,ar h52 h17 3 v64∧
 ∃v65,bD h52 h17 4 v65∧
 ∃v66,bD h52 h17 5 v66∧
 ∃v67,bW h52 h50 0 v67∧
 ∃v68,ar h52 h50 1 v68∧
 ∃v69,ar h52 h50 2 v69∧
 ∃v70,ar h52 h50 3 v70∧
 ∃v71,bD h52 h50 4 v71∧
 ∃v72,bD h52 h50 5 v72∧
 HC PG tq [B5 v61 v62 v63 v64 v65 v66,B5 v67 v68 v69 v70 v71 v72] [.c .bool] (fun(e73:Bool) h74=>
 CondP e73 (
 ∃v75,bW h74 h17 0 v75∧
 ∃v76,ar h74 h17 1 v76∧
 ∃v77,ar h74 h17 2 v77∧
 ∃v78,ar h74 h17 3 v78∧
 ∃v79,bD h74 h17 4 v79∧
 ∃v80,bD h74 h17 5 v80∧
 ∃v81,bW h74 h28 0 v81∧
 ∃v82,ar h74 h28 1 v82∧
 ∃v83,ar h74 h28 2 v83∧
 ∃v84,ar h74 h28 3 v84∧
 ∃v85:SliceV,jq h74 h28 4 v85∧
 HC PG iv [B5 v75 v76 v77 v78 v79 v80] [.c .slice] (fun(e86:SliceV) h87=>
 ((bW h87 h28 0 v81∧ar h87 h28 1 v82∧ar h87 h28 2 v83∧ar h87 h28 3 v84∧jq h87 h28 4 v85)∧
 HC PG tx [vg3 v81 v82 v83 v84 v85] [.c .slice] (fun(e88:SliceV) h89=>
 HC PG vG (GO e86 e88) [.c .bool] (fun(e90:Bool) h91=>
 CondP e90 (
 ∃v92,bW h91 h17 0 v92∧
 ∃v93,ar h91 h17 1 v93∧
 ∃v94,ar h91 h17 2 v94∧
 ∃v95,ar h91 h17 3 v95∧
 ∃v96,bD h91 h17 4 v96∧
 ∃v97,bD h91 h17 5 v97∧
 HC PG mP [B5 v92 v93 v94 v95 v96 v97] [.c .bool] (fun(e98:Bool) h99=>
 CondP e98 (
 ∃v100,bW h99 h17 0 v100∧
 ∃v101,ar h99 h17 1 v101∧
 ∃v102,ar h99 h17 2 v102∧
 ∃v103,ar h99 h17 3 v103∧
 ∃v104,bD h99 h17 4 v104∧
 ∃v105,bD h99 h17 5 v105∧
 ∃v106:SliceV,jq h99 h28 4 v106∧
 HC PG ie [B5 v100 v101 v102 v103 v104 v105] bV (fun(e107:Int) h108=>
 (jq h108 h28 4 v106∧
 K (e107==(v106.len:Int)) h108)) h99) (
 K false h99)) h91) (
 K false h91)) h89) h87)) h74) (
 K false h74)) h52) (
 K false h52)))) h42)) h35)) (fun J31=>
 CondP (e16.2 !=e27.2) (
 J31 true h30) (
 HC PG tB (GO e4 t11) [.c .bool] (fun(e32:Bool) h33=>
 J31 (!e32) h33) h30)))) h26) h24) h19)) h12) (fun J6=>
 At (hnew h5 [] al) (fun h7=>
 ∃xs8,SRow h7 e4.a (e4.len*2) xs8∧
 AppP (some jm) 2 32 al (some (aC h5)) 0 0 e4.len xs8 h7 (fun s9 h10=>
 J6 s9 h10)))) h3)) h1)
noncomputable def yF:Ann:=.node .nil (.node .nil (.node .nil (.join [(13,.c .slice)] .nil (.node .nil (.node .nil (.node (.join [(56,.c .bool)] .nil .nil) .nil))))))
theorem yA(x0:Int)(x1:Int×Int×Int)(x2:SliceV)(x3:Int)(x4:Int)(x5:Int){K:cT [.c .bool]→ad→Prop}{h0:ad}(h:rs x0 x1 x2 x3 x4 x5 K h0):HC PG rg [.int .i64 x0,FE x1,.slice x2.a x2.len x2.cap,.int .u8 x3,.int .u16 x4,.int .u16 x5] [.c .bool] K h0:=dL yF Tryz.func3 Tryz.call3 rfl rfl (by kernel_rfl) h
def zr(K:(Bool)→ad→Prop)(h0:ad):Prop:=
 At (hnew h0 (vl6 (⟨#[98]⟩:ByteArray) (⟨#[49]⟩:ByteArray) (⟨#[97]⟩:ByteArray) (⟨#[50]⟩:ByteArray) (⟨#[98]⟩:ByteArray) (⟨#[51]⟩:ByteArray)) al) (fun h1=>
 HC PG gG [.int .i64 1,zg0,.slice (some (aC h0)) 3 3] rI (fun(e2:(T6)×Int) h3=>
 nv h3 zH cE (qV e2.1) (fun h5=>
 ∃v6,bW h5 h3 0 v6∧
 ∃v7,ar h5 h3 1 v7∧
 ∃v8,ar h5 h3 2 v8∧
 ∃v9,ar h5 h3 3 v9∧
 ∃v10,bD h5 h3 4 v10∧
 ∃v11,bD h5 h3 5 v11∧
 HC PG mO [B5 v6 v7 v8 v9 v10 v11] [.c .slice] (fun(e12:SliceV) h13=>
 CondP (e2.2==(0:Int)) (
 CondP ((e12.len:Int)==(2:Int)) (
 (cn 0 e12.len∧∃a14,e12.a=some a14∧
 ∃v15,aL h13 (adr a14 ((0:Int).toNat*2)) 0 v15∧
 ∃v16,aL h13 (adr a14 ((0:Int).toNat*2)) 1 v16∧
 CondP ((v15.toList==(⟨#[97]⟩:ByteArray).toList)&&((v16.toList==(⟨#[50]⟩:ByteArray).toList)&&true)) (
 (cn 1 e12.len∧∃a17,e12.a=some a17∧
 ∃v18,aL h13 (adr a17 ((1:Int).toNat*2)) 1 v18∧
 K (v18.toList==(⟨#[51]⟩:ByteArray).toList) h13)) (
 K false h13))) (
 K false h13)) (
 K false h13)) h5)) h1)
theorem GD{K:cT [.c .bool]→ad→Prop}{h0:ad}(h:zr K h0):HC PG tE [] [.c .bool] K h0:=dL .nil Tryz.func11 Tryz.call11 rfl rfl (by kernel_rfl) h
def DU(x0:SliceV)(x1:Int)(x2:Int)(x3:Int)(K:(SliceV)→ad→Prop)(h0:ad):Prop:=
 LoopP (fun I1 (t2:SliceV×Int) h3=>
 CondP (decide (t2.2<(x0.len:Int))) (
 Join (fun(t35:SliceV) h36=>
 I1 (t35,IntKind.wrap .i64 (t2.2+1)) h36) (fun J4=>
 (cn t2.2 x0.len∧∃a5,x0.a=some a5∧
 ∃v6,aL h3 (adr a5 (t2.2.toNat*2)) 0 v6∧
 ∃v7,aL h3 (adr a5 (t2.2.toNat*2)) 1 v7∧
 nv h3 jm al (im v6 v7) (fun h9=>
 CondP (decide (t2.2≥(40:Int))) (
 K t2.1 h9) (
 ∃v10,aF h9 h3 0 v10∧
 ∃v11,aF h9 h3 0 v11∧
 (((0:Int)≤(if 40<(v11.size:Int)then 40 else(v11.size:Int))∧(if 40<(v11.size:Int)then 40 else(v11.size:Int))≤((v10.size:Nat):Int))∧
 Bd (v10.extract 0 ((if 40<(v11.size:Int)then 40 else(v11.size:Int)).toNat):ByteArray) (fun s12=>
 ∃v13,aF h9 h3 1 v13∧
 ∃v14,aF h9 h3 1 v14∧
 (((0:Int)≤(if 40<(v14.size:Int)then 40 else(v14.size:Int))∧(if 40<(v14.size:Int)then 40 else(v14.size:Int))≤((v13.size:Nat):Int))∧
 Bd (v13.extract 0 ((if 40<(v14.size:Int)then 40 else(v14.size:Int)).toNat):ByteArray) (fun s15=>
 (d6 h9 (adr (aC h3) 0) (.string s12) (fun h16=>
 (d6 h16 (adr (aC h3) 1) (.string s15) (fun h17=>
 Join (fun(t27:Unit) h28=>
 ∃v29,aF h28 h3 0 v29∧
 ∃v30,aF h28 h3 1 v30∧
 At (hnew h28 (im v29 v30) al) (fun h31=>
 ∃xs32,SRow h31 (some (aC h28)) (1*2) xs32∧
 AppP (some jm) 2 32 al t2.1.a t2.1.len t2.1.cap 1 xs32 h31 (fun s33 h34=>
 J4 s33 h34))) (fun J18=>
 CondP (t2.2==(IntKind.wrap .i64 x1)) (
 ∃v19,aF h17 h3 0 v19∧
 ((300:Int)≠0∧
 (((0:Int)≤(gA (IntKind.wrap .i64 x2) 300)∧(gA (IntKind.wrap .i64 x2) 300)≤(gA (IntKind.wrap .i64 x2) 300)∧(gA (IntKind.wrap .i64 x2) 300)≤9223372036854775807∧1*(gA (IntKind.wrap .i64 x2) 300)≤2^48)∧
 At (hnew h17 (dR (gA (IntKind.wrap .i64 x2) 300).toNat [.int .u8 0]) ci) (fun h20=>
 (aF h20 h3 0 v19∧
 ∃s21,SRow h20 (some (aC h17)) ((gA (IntKind.wrap .i64 x2) 300).toNat) (dd s21)∧
 (((v19.size+s21.size:Nat):Int)≤9223372036854775807∧
 (d6 h20 (adr (aC h3) 0) (.string (v19++s21)) (fun h22=>
 ∃v23,aF h22 h3 1 v23∧
 ((4200:Int)≠0∧
 (((0:Int)≤(gA (IntKind.wrap .i64 x3) 4200)∧(gA (IntKind.wrap .i64 x3) 4200)≤(gA (IntKind.wrap .i64 x3) 4200)∧(gA (IntKind.wrap .i64 x3) 4200)≤9223372036854775807∧1*(gA (IntKind.wrap .i64 x3) 4200)≤2^48)∧
 At (hnew h22 (dR (gA (IntKind.wrap .i64 x3) 4200).toNat [.int .u8 0]) ci) (fun h24=>
 (aF h24 h3 1 v23∧
 ∃s25,SRow h24 (some (aC h22)) ((gA (IntKind.wrap .i64 x3) 4200).toNat) (dd s25)∧
 (((v23.size+s25.size:Nat):Int)≤9223372036854775807∧
 (d6 h24 (adr (aC h3) 1) (.string (v23++s25)) (fun h26=>
 J18 () h26))))))))))))))) (
 J18 () h17))))))))))))))) (
 K t2.1 h3)) (⟨none,0,0⟩,0) h0
noncomputable def La:Ann:=.node .nil (.node .nil (.node (.node .nil (.loop [(9,.c .slice),(14,.c (.int .i64))] (.node .nil (.node .nil (.join [(9,.c .slice)] (.node .nil (.node .nil (.node .nil (.join [] .nil .nil)))) .nil))))) .nil))
theorem K6(x0:SliceV)(x1:Int)(x2:Int)(x3:Int){K:cT [.c .slice]→ad→Prop}{h0:ad}(h:DU x0 x1 x2 x3 K h0):HC PG yj (Qk x0 x1 x2 x3) [.c .slice] K h0:=dL La Tryz.func12 Tryz.call12 rfl rfl (by kernel_rfl) h
def m6(x0:Int)(x1:Int×Int×Int)(x2:SliceV)(K:((T6)×Int)→ad→Prop)(h0:ad):Prop:=
 At (hnew h0 (uJ x1) cH) (fun h1=>
 At (hnew h1 zH cE) (fun h2=>
 ∃v3,ar h2 h0 0 v3∧
 ∃v4,ar h2 h0 1 v4∧
 ∃v5,ar h2 h0 2 v5∧
 HC PG nA [.int .i64 x0,un v3 v4 v5] rI (fun(e6:(T6)×Int) h7=>
 nv h7 zH cE (qV e6.1) (fun h9=>
 CondP (e6.2 !=(0:Int)) (
 (hJ h9 h1 zH (fun h10=>
 ∃v11,bW h10 h1 0 v11∧
 ∃v12,ar h10 h1 1 v12∧
 ∃v13,ar h10 h1 2 v13∧
 ∃v14,ar h10 h1 3 v14∧
 ∃v15,bD h10 h1 4 v15∧
 ∃v16,bD h10 h1 5 v16∧
 K ((v11,v12,v13,v14,v15,v16),e6.2) h10))) (
 LoopP (fun I17 (t18:Int) h19=>
 CondP (decide (t18<(x2.len:Int))) (
 (cn t18 x2.len∧∃a20,x2.a=some a20∧
 ∃v21,aL h19 (adr a20 (t18.toNat*2)) 0 v21∧
 ∃v22,aL h19 (adr a20 (t18.toNat*2)) 1 v22∧
 nv h19 jm al (im v21 v22) (fun h24=>
 ∃v25,aF h24 h19 0 v25∧
 ∃v26,aF h24 h19 1 v26∧
 HC PG pg (im v25 v26) bV (fun(e27:Int) h28=>
 CondP (e27 !=(0:Int)) (
 (hJ h28 h1 zH (fun h29=>
 ∃v30,bW h29 h1 0 v30∧
 ∃v31,ar h29 h1 1 v31∧
 ∃v32,ar h29 h1 2 v32∧
 ∃v33,ar h29 h1 3 v33∧
 ∃v34,bD h29 h1 4 v34∧
 ∃v35,bD h29 h1 5 v35∧
 K ((v30,v31,v32,v33,v34,v35),e27) h29))) (
 I17 (IntKind.wrap .i64 (t18+1)) h28)) h24))) (
 CondP (x0==(1:Int)) (
 HC PG qP [.slice x2.a x2.len x2.cap] [.c .ptr] (fun(e36:Option Addr) h37=>
 HC PG mQ [.pointer e36] wJ (fun(e38:T6) h39=>
 (hJ h39 h1 (qV e38) (fun h40=>
 ∃v41,bW h40 h1 0 v41∧
 ∃v42,ar h40 h1 1 v42∧
 ∃v43,ar h40 h1 2 v43∧
 ∃v44,ar h40 h1 3 v44∧
 ∃v45,bD h40 h1 4 v45∧
 ∃v46,bD h40 h1 5 v46∧
 K ((v41,v42,v43,v44,v45,v46),0) h40))) h37) h19) (
 ∃v47,ar h19 h0 0 v47∧
 ∃v48,ar h19 h0 1 v48∧
 ∃v49,ar h19 h0 2 v49∧
 ∃v50,ar h19 h0 0 v50∧
 ∃v51,ar h19 h0 1 v51∧
 ∃v52,ar h19 h0 2 v52∧
 HC PG qQ [un v50 v51 v52,.slice x2.a x2.len x2.cap] [.c .ptr] (fun(e53:Option Addr) h54=>
 ((ar h54 h0 0 v47∧ar h54 h0 1 v48∧ar h54 h0 2 v49)∧
 HC PG mR [un v47 v48 v49,.pointer e53] wJ (fun(e55:T6) h56=>
 (hJ h56 h1 (qV e55) (fun h57=>
 ∃v58,bW h57 h1 0 v58∧
 ∃v59,ar h57 h1 1 v59∧
 ∃v60,ar h57 h1 2 v60∧
 ∃v61,ar h57 h1 3 v61∧
 ∃v62,bD h57 h1 4 v62∧
 ∃v63,bD h57 h1 5 v63∧
 K ((v58,v59,v60,v61,v62,v63),0) h57))) h54)) h19))) 0 h9))) h2))
noncomputable def E7:Ann:=.node .nil (.node .nil (.node (.node .nil (.loop [(25,.c (.int .i64))] .nil)) .nil))
theorem pn(x0:Int)(x1:Int×Int×Int)(x2:SliceV){K:cT rI→ad→Prop}{h0:ad}(h:m6 x0 x1 x2 K h0):HC PG gG [.int .i64 x0,FE x1,.slice x2.a x2.len x2.cap] rI K h0:=dL E7 Tryz.func13 Tryz.call13 rfl rfl (by kernel_rfl) h
def BH(x0:Int)(x1:Int×Int×Int)(x2:SliceV)(K:((T5)×Int)→ad→Prop)(h0:ad):Prop:=
 At (hnew h0 (uJ x1) mI) (fun h1=>
 At (hnew h1 M7 mc) (fun h2=>
 ∃v3,ar h2 h0 0 v3∧
 ∃v4,ar h2 h0 1 v4∧
 ∃v5,ar h2 h0 2 v5∧
 HC PG ud [.int .i64 x0,un v3 v4 v5] FS (fun(e6:(T5)×Int) h7=>
 nv h7 M7 mc (PC e6.1) (fun h9=>
 CondP (e6.2 !=(0:Int)) (
 ∃v10,bW h9 h7 0 v10∧
 ∃v11,ar h9 h7 1 v11∧
 ∃v12,ar h9 h7 2 v12∧
 ∃v13,ar h9 h7 3 v13∧
 ∃v14:SliceV,jq h9 h7 4 v14∧
 (hJ h9 h1 (Qj v10 v11 v12 v13 v14) (fun h15=>
 ∃v16,bW h15 h1 0 v16∧
 ∃v17,ar h15 h1 1 v17∧
 ∃v18,ar h15 h1 2 v18∧
 ∃v19,ar h15 h1 3 v19∧
 ∃v20:SliceV,jq h15 h1 4 v20∧
 K ((v16,v17,v18,v19,v20),e6.2) h15))) (
 LoopP (fun I21 (t22:Int) h23=>
 CondP (decide (t22<(x2.len:Int))) (
 (cn t22 x2.len∧∃a24,x2.a=some a24∧
 ∃v25,aL h23 (adr a24 (t22.toNat*2)) 0 v25∧
 ∃v26,aL h23 (adr a24 (t22.toNat*2)) 1 v26∧
 nv h23 jm bG (im v25 v26) (fun h28=>
 ∃v29,aF h28 h23 0 v29∧
 ∃v30,aF h28 h23 1 v30∧
 HC PG tA (im v29 v30) bV (fun(e31:Int) h32=>
 CondP (e31 !=(0:Int)) (
 (hJ h32 h1 M7 (fun h33=>
 ∃v34,bW h33 h1 0 v34∧
 ∃v35,ar h33 h1 1 v35∧
 ∃v36,ar h33 h1 2 v36∧
 ∃v37,ar h33 h1 3 v37∧
 ∃v38:SliceV,jq h33 h1 4 v38∧
 K ((v34,v35,v36,v37,v38),e31) h33))) (
 I21 (IntKind.wrap .i64 (t22+1)) h32)) h28))) (
 HC PG rR [.slice x2.a x2.len x2.cap] [.c .slice] (fun(e39:SliceV) h40=>
 (d6 h40 (adr (aC h7) 4) (.slice e39.a e39.len e39.cap) (fun h41=>
 ∃v42,bW h41 h7 0 v42∧
 ∃v43,ar h41 h7 1 v43∧
 ∃v44,ar h41 h7 2 v44∧
 ∃v45,ar h41 h7 3 v45∧
 ∃v46:SliceV,jq h41 h7 4 v46∧
 (hJ h41 h1 (Qj v42 v43 v44 v45 v46) (fun h47=>
 ∃v48,bW h47 h1 0 v48∧
 ∃v49,ar h47 h1 1 v49∧
 ∃v50,ar h47 h1 2 v50∧
 ∃v51,ar h47 h1 3 v51∧
 ∃v52:SliceV,jq h47 h1 4 v52∧
 K ((v48,v49,v50,v51,v52),0) h47))))) h23)) 0 h9))) h2))
noncomputable def IK:Ann:=.node .nil (.node .nil (.node .nil (.node (.node .nil (.loop [(25,.c (.int .i64))] .nil)) .nil)))
theorem Is(x0:Int)(x1:Int×Int×Int)(x2:SliceV){K:cT FS→ad→Prop}{h0:ad}(h:BH x0 x1 x2 K h0):HC PG rN [.int .i64 x0,FE x1,.slice x2.a x2.len x2.cap] FS K h0:=dL IK Tryz.func14 Tryz.call14 rfl rfl (by kernel_rfl) h
def DT(x0:Int×Int×Int)(K:(Int×Int×Int)→ad→Prop)(h0:ad):Prop:=
 At (hnew h0 (uJ x0) cH) (fun h1=>
 At (hnew h1 Qd mI) (fun h2=>
 ∃v3,eB h2 (adr (aC h0) 0) 0 v3∧
 ∃v4,eB h2 (adr (aC h0) 0) 1 v4∧
 ∃v5,ar h2 h0 2 v5∧
 (hJ h2 h1 (Qf v3 v4 v5) (fun h6=>
 ∃v7,ar h6 h1 0 v7∧
 ∃v8,ar h6 h1 1 v8∧
 ∃v9,ar h6 h1 2 v9∧
 K (v7,v8,v9) h6))))
theorem K5(x0:Int×Int×Int){K:cT FT→ad→Prop}{h0:ad}(h:DT x0 K h0):HC PG yi [FE x0] FT K h0:=dL .nil Tryz.func15 Tryz.call15 rfl rfl (by kernel_rfl) h
def zq(x0:SliceV)(K:(SliceV)→ad→Prop)(h0:ad):Prop:=
 LoopP (fun I1 (t2:SliceV×Int) h3=>
 CondP (decide (t2.2<(x0.len:Int))) (
 Join (fun(t16:SliceV) h17=>
 I1 (t16,IntKind.wrap .i64 (t2.2+1)) h17) (fun J4=>
 (cn t2.2 x0.len∧∃a5,x0.a=some a5∧
 ∃v6,aL h3 (adr a5 (t2.2.toNat*2)) 0 v6∧
 ∃v7,aL h3 (adr a5 (t2.2.toNat*2)) 1 v7∧
 nv h3 jm al (im v6 v7) (fun h9=>
 ∃v10,aF h9 h3 0 v10∧
 ∃v11,aF h9 h3 1 v11∧
 At (hnew h9 (im v10 v11) bG) (fun h12=>
 ∃xs13,SRow h12 (some (aC h9)) (1*2) xs13∧
 AppP (some jm) 2 32 bG t2.1.a t2.1.len t2.1.cap 1 xs13 h12 (fun s14 h15=>
 J4 s14 h15)))))) (
 K t2.1 h3)) (⟨none,0,0⟩,0) h0
noncomputable def GM:Ann:=.node .nil (.node .nil (.node (.node .nil (.loop [(3,.c .slice),(8,.c (.int .i64))] (.node .nil (.node .nil (.join [(3,.c .slice)] .nil .nil))))) .nil))
theorem GC(x0:SliceV){K:cT [.c .slice]→ad→Prop}{h0:ad}(h:zq x0 K h0):HC PG tD [.slice x0.a x0.len x0.cap] [.c .slice] K h0:=dL GM Tryz.func16 Tryz.call16 rfl rfl (by kernel_rfl) h
def zn(x0:SliceV)(x1:SliceV)(K:(Bool)→ad→Prop)(h0:ad):Prop:=
 HC PG gr (GO x0 x1) [.c .bool] (fun(e1:Bool) h2=>
 K e1 h2) h0
theorem GA(x0:SliceV)(x1:SliceV){K:cT [.c .bool]→ad→Prop}{h0:ad}(h:zn x0 x1 K h0):HC PG tB (GO x0 x1) [.c .bool] K h0:=dL .nil Tryz.func17 Tryz.call17 rfl rfl (by kernel_rfl) h
def wa(x0:Int)(x1:Int×Int×Int)(K:((T6)×Int)→ad→Prop)(h0:ad):Prop:=
 At (hnew h0 (uJ x1) cH) (fun h1=>
 At (hnew h1 zH cE) (fun h2=>
 CondP (x0==(0:Int)) (
 ∃v3,ar h2 h0 0 v3∧
 ∃v4,ar h2 h0 1 v4∧
 ∃v5,ar h2 h0 2 v5∧
 HC PG mR [un v3 v4 v5,.pointer none] wJ (fun(e6:T6) h7=>
 (hJ h7 h1 (qV e6) (fun h8=>
 ∃v9,bW h8 h1 0 v9∧
 ∃v10,ar h8 h1 1 v10∧
 ∃v11,ar h8 h1 2 v11∧
 ∃v12,ar h8 h1 3 v12∧
 ∃v13,bD h8 h1 4 v13∧
 ∃v14,bD h8 h1 5 v14∧
 K ((v9,v10,v11,v12,v13,v14),0) h8))) h2) (
 CondP (x0==(1:Int)) (
 HC PG mQ [.pointer none] wJ (fun(e15:T6) h16=>
 (hJ h16 h1 (qV e15) (fun h17=>
 ∃v18,bW h17 h1 0 v18∧
 ∃v19,ar h17 h1 1 v19∧
 ∃v20,ar h17 h1 2 v20∧
 ∃v21,ar h17 h1 3 v21∧
 ∃v22,bD h17 h1 4 v22∧
 ∃v23,bD h17 h1 5 v23∧
 K ((v18,v19,v20,v21,v22,v23),0) h17))) h2) (
 (hJ h2 h1 zH (fun h24=>
 ∃v25,bW h24 h1 0 v25∧
 ∃v26,ar h24 h1 1 v26∧
 ∃v27,ar h24 h1 2 v27∧
 ∃v28,ar h24 h1 3 v28∧
 ∃v29,bD h24 h1 4 v29∧
 ∃v30,bD h24 h1 5 v30∧
 K ((v25,v26,v27,v28,v29,v30),11) h24))))))
theorem Bv(x0:Int)(x1:Int×Int×Int){K:cT rI→ad→Prop}{h0:ad}(h:wa x0 x1 K h0):HC PG nA [.int .i64 x0,FE x1] rI K h0:=dL .nil Tryz.func18 Tryz.call18 rfl rfl (by kernel_rfl) h
def xI(x0:T6)(x1:SliceV)(K:((T6)×Int)→ad→Prop)(h0:ad):Prop:=
 At (hnew h0 (qV x0) cE) (fun h1=>
 At (hnew h1 zH cE) (fun h2=>
 ∃v3,bW h2 h0 0 v3∧
 ∃v4,ar h2 h0 1 v4∧
 ∃v5,ar h2 h0 2 v5∧
 ∃v6,ar h2 h0 3 v6∧
 ∃v7,bD h2 h0 4 v7∧
 ∃v8,bD h2 h0 5 v8∧
 ∃v9,bW h2 h0 0 v9∧
 ∃v10,ar h2 h0 1 v10∧
 ∃v11,ar h2 h0 2 v11∧
 ∃v12,ar h2 h0 3 v12∧
 ∃v13,bD h2 h0 4 v13∧
 ∃v14,bD h2 h0 5 v14∧
 HC PG nz [B5 v3 v4 v5 v6 v7 v8] bV (fun(e15:Int) h16=>
 ((bW h16 h0 0 v9∧ar h16 h0 1 v10∧ar h16 h0 2 v11∧ar h16 h0 3 v12∧bD h16 h0 4 v13∧bD h16 h0 5 v14)∧
 HC PG mg [B5 v9 v10 v11 v12 v13 v14] FT (fun(e17:Int×Int×Int) h18=>
 HC PG gG [.int .i64 e15,FE e17,.slice x1.a x1.len x1.cap] rI (fun(e19:(T6)×Int) h20=>
 (hJ h20 h1 (qV e19.1) (fun h21=>
 ∃v22,bW h21 h1 0 v22∧
 ∃v23,ar h21 h1 1 v23∧
 ∃v24,ar h21 h1 2 v24∧
 ∃v25,ar h21 h1 3 v25∧
 ∃v26,bD h21 h1 4 v26∧
 ∃v27,bD h21 h1 5 v27∧
 K ((v22,v23,v24,v25,v26,v27),e19.2) h21))) h18) h16)) h2))
theorem EX(x0:T6)(x1:SliceV){K:cT rI→ad→Prop}{h0:ad}(h:xI x0 x1 K h0):HC PG pj [Lj x0,.slice x1.a x1.len x1.cap] rI K h0:=dL .nil Tryz.func19 Tryz.call19 rfl rfl (by kernel_rfl) h
def l9(x0:T6)(K:(Int)→ad→Prop)(h0:ad):Prop:=
 At (hnew h0 (qV x0) cE) (fun h1=>
 ∃v2,bW h1 h0 0 v2∧
 CondP (v2==(1:Int)) (
 ∃v3,bD h1 h0 5 v3∧
 HC PG qg [.pointer v3] bV (fun(e4:Int) h5=>
 K e4 h5) h1) (
 ∃v6,bD h1 h0 4 v6∧
 HC PG qi [.pointer v6] bV (fun(e7:Int) h8=>
 K e7 h8) h1))
theorem oN(x0:T6){K:cT bV→ad→Prop}{h0:ad}(h:l9 x0 K h0):HC PG ie [Lj x0] bV K h0:=dL .nil Tryz.func20 Tryz.call20 rfl rfl (by kernel_rfl) h
def ze(x0:T6)(x1:T6)(K:(Bool)→ad→Prop)(h0:ad):Prop:=
 At (hnew h0 (qV x0) cE) (fun h1=>
 At (hnew h1 (qV x1) cE) (fun h2=>
 ∃v3,bW h2 h0 0 v3∧
 ∃v4,ar h2 h0 1 v4∧
 ∃v5,ar h2 h0 2 v5∧
 ∃v6,ar h2 h0 3 v6∧
 ∃v7,bD h2 h0 4 v7∧
 ∃v8,bD h2 h0 5 v8∧
 ∃v9,bW h2 h1 0 v9∧
 ∃v10,ar h2 h1 1 v10∧
 ∃v11,ar h2 h1 2 v11∧
 ∃v12,ar h2 h1 3 v12∧
 ∃v13,bD h2 h1 4 v13∧
 ∃v14,bD h2 h1 5 v14∧
 HC PG tu [B5 v3 v4 v5 v6 v7 v8,B5 v9 v10 v11 v12 v13 v14] [.c .bool] (fun(e15:Bool) h16=>
 CondP e15 (
 ∃v17,bW h16 h0 0 v17∧
 ∃v18,ar h16 h0 1 v18∧
 ∃v19,ar h16 h0 2 v19∧
 ∃v20,ar h16 h0 3 v20∧
 ∃v21,bD h16 h0 4 v21∧
 ∃v22,bD h16 h0 5 v22∧
 ∃v23,bW h16 h1 0 v23∧
 ∃v24,ar h16 h1 1 v24∧
 ∃v25,ar h16 h1 2 v25∧
 ∃v26,ar h16 h1 3 v26∧
 ∃v27,bD h16 h1 4 v27∧
 ∃v28,bD h16 h1 5 v28∧
 HC PG iv [B5 v17 v18 v19 v20 v21 v22] [.c .slice] (fun(e29:SliceV) h30=>
 ((bW h30 h1 0 v23∧ar h30 h1 1 v24∧ar h30 h1 2 v25∧ar h30 h1 3 v26∧bD h30 h1 4 v27∧bD h30 h1 5 v28)∧
 HC PG iv [B5 v23 v24 v25 v26 v27 v28] [.c .slice] (fun(e31:SliceV) h32=>
 HC PG qO (GO e29 e31) [.c .bool] (fun(e33:Bool) h34=>
 K e33 h34) h32) h30)) h16) (
 K false h16)) h2))
theorem Gp(x0:T6)(x1:T6){K:cT [.c .bool]→ad→Prop}{h0:ad}(h:ze x0 x1 K h0):HC PG tq [Lj x0,Lj x1] [.c .bool] K h0:=dL .nil Tryz.func21 Tryz.call21 rfl rfl (by kernel_rfl) h
def BJ(x0:SliceV)(x1:SliceV)(K:(Bool)→ad→Prop)(h0:ad):Prop:=
 CondP ((x0.len:Int) !=(x1.len:Int)) (
 K false h0) (
 LoopP (fun I1 (t2:Int) h3=>
 CondP (decide (t2<(x0.len:Int))) (
 (cn t2 x0.len∧∃a4,x0.a=some a4∧
 ∃v5,bR h3 a4 (t2.toNat*1) (.int .u8 v5)∧
 (cn t2 x1.len∧∃a6,x1.a=some a6∧
 ∃v7,bR h3 a6 (t2.toNat*1) (.int .u8 v7)∧
 CondP (v5 !=v7) (
 K false h3) (
 I1 (IntKind.wrap .i64 (t2+1)) h3)))) (
 K true h3)) 0 h0)
noncomputable def IL:Ann:=.node .nil (.node .nil (.node (.node .nil (.loop [(13,.c (.int .i64))] .nil)) .nil))
theorem Iw(x0:SliceV)(x1:SliceV){K:cT [.c .bool]→ad→Prop}{h0:ad}(h:BJ x0 x1 K h0):HC PG vG (GO x0 x1) [.c .bool] K h0:=dL IL Tryz.func22 Tryz.call22 rfl rfl (by kernel_rfl) h
def qn(x0:T6)(K:(SliceV)→ad→Prop)(h0:ad):Prop:=
 At (hnew h0 (qV x0) cE) (fun h1=>
 ∃v2,bW h1 h0 0 v2∧
 CondP (v2==(1:Int)) (
 At (hnew h1 [.int .u8 1] ci) (fun h3=>
 ∃v4,bD h3 h0 5 v4∧
 HC PG qK [.pointer v4] [.c .slice] (fun(e5:SliceV) h6=>
 ∃xs7,SRow h6 e5.a (e5.len*1) xs7∧
 AppP (some [.int .u8 0]) 1 1 ci (some (aC h1)) 1 1 e5.len xs7 h6 (fun s8 h9=>
 K s8 h9)) h3)) (
 At (hnew h1 [.int .u8 0] ci) (fun h10=>
 ∃v11,bW h10 h0 0 v11∧
 ∃v12,ar h10 h0 1 v12∧
 ∃v13,ar h10 h0 2 v13∧
 ∃v14,ar h10 h0 3 v14∧
 ∃v15,bD h10 h0 4 v15∧
 ∃v16,bD h10 h0 5 v16∧
 HC PG j2 [B5 v11 v12 v13 v14 v15 v16] [.c .ptr] (fun(e17:Option Addr) h18=>
 HC PG vF [.pointer e17] [.c .slice] (fun(e19:SliceV) h20=>
 ∃xs21,SRow h20 e19.a (e19.len*1) xs21∧
 AppP (some [.int .u8 0]) 1 1 ci (some (aC h1)) 1 1 e19.len xs21 h20 (fun s22 h23=>
 K s22 h23)) h18) h10)))
theorem xe(x0:T6){K:cT [.c .slice]→ad→Prop}{h0:ad}(h:qn x0 K h0):HC PG iv [Lj x0] [.c .slice] K h0:=dL .nil Tryz.func23 Tryz.call23 rfl rfl (by kernel_rfl) h
def zi(x0:T5)(K:(SliceV)→ad→Prop)(h0:ad):Prop:=
 At (hnew h0 (PC x0) mc) (fun h1=>
 ∃v2,bW h1 h0 0 v2∧
 CondP (v2==(1:Int)) (
 At (hnew h1 [.int .u8 1] ci) (fun h3=>
 ∃v4:SliceV,jq h3 h0 4 v4∧
 HC PG A5 [.slice v4.a v4.len v4.cap] [.c .ptr] (fun(e5:Option Addr) h6=>
 HC PG qh [.pointer e5] [.c .slice] (fun(e7:SliceV) h8=>
 ∃xs9,SRow h8 e7.a (e7.len*1) xs9∧
 AppP (some [.int .u8 0]) 1 1 ci (some (aC h1)) 1 1 e7.len xs9 h8 (fun s10 h11=>
 K s10 h11)) h6) h3)) (
 At (hnew h1 [.int .u8 0] ci) (fun h12=>
 ∃v13,eB h12 (adr (aC h0) 1) 0 v13∧
 ∃v14,eB h12 (adr (aC h0) 1) 1 v14∧
 ∃v15,eB h12 (adr (aC h0) 1) 2 v15∧
 ∃v16:SliceV,jq h12 h0 4 v16∧
 HC PG A6 [un v13 v14 v15,.slice v16.a v16.len v16.cap,.int .i64 0] [.c .ptr] (fun(e17:Option Addr) h18=>
 HC PG wR (yH e17 0) [.c .slice] (fun(e19:SliceV) h20=>
 ∃xs21,SRow h20 e19.a (e19.len*1) xs21∧
 AppP (some [.int .u8 0]) 1 1 ci (some (aC h1)) 1 1 e19.len xs21 h20 (fun s22 h23=>
 K s22 h23)) h18) h12)))
theorem Gt(x0:T5){K:cT [.c .slice]→ad→Prop}{h0:ad}(h:zi x0 K h0):HC PG tx [pg3 x0] [.c .slice] K h0:=dL .nil Tryz.func24 Tryz.call24 rfl rfl (by kernel_rfl) h
def qq(x0:T6)(K:(Bool)→ad→Prop)(h0:ad):Prop:=
 At (hnew h0 (qV x0) cE) (fun h1=>
 ∃v2,bW h1 h0 0 v2∧
 CondP (v2==(1:Int)) (
 ∃v3,bD h1 h0 5 v3∧
 HC PG qM [.pointer v3] [.c .bool] (fun(e4:Bool) h5=>
 K e4 h5) h1) (
 ∃v6,eB h1 (adr (aC h0) 1) 0 v6∧
 ∃v7,eB h1 (adr (aC h0) 1) 1 v7∧
 ∃v8,eB h1 (adr (aC h0) 1) 2 v8∧
 ∃v9,bW h1 h0 0 v9∧
 ∃v10,ar h1 h0 1 v10∧
 ∃v11,ar h1 h0 2 v11∧
 ∃v12,ar h1 h0 3 v12∧
 ∃v13,bD h1 h0 4 v13∧
 ∃v14,bD h1 h0 5 v14∧
 HC PG j2 [B5 v9 v10 v11 v12 v13 v14] [.c .ptr] (fun(e15:Option Addr) h16=>
 ((eB h16 (adr (aC h0) 1) 0 v6∧eB h16 (adr (aC h0) 1) 1 v7∧eB h16 (adr (aC h0) 1) 2 v8)∧
 HC PG uL [un v6 v7 v8,.pointer e15] [.c .bool] (fun(e17:Bool) h18=>
 K e17 h18) h16)) h1))
theorem xh(x0:T6){K:cT [.c .bool]→ad→Prop}{h0:ad}(h:qq x0 K h0):HC PG mP [Lj x0] [.c .bool] K h0:=dL .nil Tryz.func25 Tryz.call25 rfl rfl (by kernel_rfl) h
def tM(x0:Int×Int×Int)(x1:Option Addr)(K:(T6)→ad→Prop)(h0:ad):Prop:=
 At (hnew h0 (uJ x0) cH) (fun h1=>
 At (hnew h1 zH cE) (fun h2=>
 Join (fun(t6:Option Addr) h7=>
 ∃v8,ar h7 h0 0 v8∧
 ∃v9,ar h7 h0 1 v9∧
 ∃v10,ar h7 h0 2 v10∧
 (hJ h7 h1 (Qe 0 v8 v9 v10 t6 none) (fun h11=>
 ∃v12,bW h11 h1 0 v12∧
 ∃v13,ar h11 h1 1 v13∧
 ∃v14,ar h11 h1 2 v14∧
 ∃v15,ar h11 h1 3 v15∧
 ∃v16,bD h11 h1 4 v16∧
 ∃v17,bD h11 h1 5 v17∧
 K (v12,v13,v14,v15,v16,v17) h11))) (fun J3=>
 CondP x1.isNone (
 HC PG nV [] [.c .ptr] (fun(e4:Option Addr) h5=>
 J3 e4 h5) h2) (
 J3 x1 h2))))
noncomputable def B0:Ann:=.node .nil (.join [(1,.c .ptr)] .nil .nil)
theorem Bu(x0:Int×Int×Int)(x1:Option Addr){K:cT wJ→ad→Prop}{h0:ad}(h:tM x0 x1 K h0):HC PG mR [FE x0,.pointer x1] wJ K h0:=dL B0 Tryz.func28 Tryz.call28 rfl rfl (by kernel_rfl) h
def qp(x0:T6)(K:(Option Addr)→ad→Prop)(h0:ad):Prop:=
 At (hnew h0 (qV x0) cE) (fun h1=>
 Join (fun(t5:Bool) h6=>
 CondP t5 (
 HC PG nV [] [.c .ptr] (fun(e7:Option Addr) h8=>
 K e7 h8) h6) (
 ∃v9,bD h6 h0 4 v9∧
 K v9 h6)) (fun J2=>
 ∃v3,bW h1 h0 0 v3∧
 CondP (v3==(0:Int)) (
 ∃v4,bD h1 h0 4 v4∧
 J2 v4.isNone h1) (
 J2 false h1)))
noncomputable def xK:Ann:=.node .nil (.node (.join [(10,.c .bool)] .nil .nil) .nil)
theorem xg(x0:T6){K:cT [.c .ptr]→ad→Prop}{h0:ad}(h:qp x0 K h0):HC PG j2 [Lj x0] [.c .ptr] K h0:=dL xK Tryz.func29 Tryz.call29 rfl rfl (by kernel_rfl) h
def tL(x0:Option Addr)(K:(T6)→ad→Prop)(h0:ad):Prop:=
 At (hnew h0 zH cE) (fun h1=>
 Join (fun(t5:Option Addr) h6=>
 (hJ h6 h0 (Qe 1 0 0 0 none t5) (fun h7=>
 ∃v8,bW h7 h0 0 v8∧
 ∃v9,ar h7 h0 1 v9∧
 ∃v10,ar h7 h0 2 v10∧
 ∃v11,ar h7 h0 3 v11∧
 ∃v12,bD h7 h0 4 v12∧
 ∃v13,bD h7 h0 5 v13∧
 K (v8,v9,v10,v11,v12,v13) h7))) (fun J2=>
 CondP x0.isNone (
 HC PG qL [] [.c .ptr] (fun(e3:Option Addr) h4=>
 J2 e3 h4) h1) (
 J2 x0 h1)))
noncomputable def BZ:Ann:=.node .nil (.join [(0,.c .ptr)] .nil .nil)
theorem Bs(x0:Option Addr){K:cT wJ→ad→Prop}{h0:ad}(h:tL x0 K h0):HC PG mQ [.pointer x0] wJ K h0:=dL BZ Tryz.func30 Tryz.call30 rfl rfl (by kernel_rfl) h
def yC(x0:Int)(x1:Int×Int×Int)(K:((T5)×Int)→ad→Prop)(h0:ad):Prop:=
 At (hnew h0 (uJ x1) mI) (fun h1=>
 At (hnew h1 M7 mc) (fun h2=>
 CondP (x0==(0:Int)) (
 ∃v3,ar h2 h0 0 v3∧
 ∃v4,ar h2 h0 1 v4∧
 ∃v5,ar h2 h0 2 v5∧
 (hJ h2 h1 [.int .i64 0,.int .u64 v3,.int .u64 v4,.int .u64 v5,.slice none 0 0] (fun h6=>
 ∃v7,bW h6 h1 0 v7∧
 ∃v8,ar h6 h1 1 v8∧
 ∃v9,ar h6 h1 2 v9∧
 ∃v10,ar h6 h1 3 v10∧
 ∃v11:SliceV,jq h6 h1 4 v11∧
 K ((v7,v8,v9,v10,v11),0) h6))) (
 CondP (x0==(1:Int)) (
 (hJ h2 h1 [.int .i64 1,.int .u64 0,.int .u64 0,.int .u64 0,.slice none 0 0] (fun h12=>
 ∃v13,bW h12 h1 0 v13∧
 ∃v14,ar h12 h1 1 v14∧
 ∃v15,ar h12 h1 2 v15∧
 ∃v16,ar h12 h1 3 v16∧
 ∃v17:SliceV,jq h12 h1 4 v17∧
 K ((v13,v14,v15,v16,v17),0) h12))) (
 (hJ h2 h1 M7 (fun h18=>
 ∃v19,bW h18 h1 0 v19∧
 ∃v20,ar h18 h1 1 v20∧
 ∃v21,ar h18 h1 2 v21∧
 ∃v22,ar h18 h1 3 v22∧
 ∃v23:SliceV,jq h18 h1 4 v23∧
 K ((v19,v20,v21,v22,v23),11) h18))))))
theorem DN(x0:Int)(x1:Int×Int×Int){K:cT FS→ad→Prop}{h0:ad}(h:yC x0 x1 K h0):HC PG ud [.int .i64 x0,FE x1] FS K h0:=dL .nil Tryz.func36 Tryz.call36 rfl rfl (by kernel_rfl) h
def qo(x0:T6)(K:(SliceV)→ad→Prop)(h0:ad):Prop:=
 At (hnew h0 (qV x0) cE) (fun h1=>
 ∃v2,bW h1 h0 0 v2∧
 CondP (v2==(1:Int)) (
 ∃v3,bD h1 h0 5 v3∧
 HC PG A4 [] N4 (fun(e4:ByteArray×ByteArray×Bool) h5=>
 (bD h5 h0 5 v3∧
 HC PG rL [.pointer v3,O7 e4] [.c .slice] (fun(e6:SliceV) h7=>
 K e6 h7) h5)) h1) (
 ∃v8,bD h1 h0 4 v8∧
 HC PG Ck [.pointer v8] [.c .slice] (fun(e9:SliceV) h10=>
 K e9 h10) h1))
theorem xf(x0:T6){K:cT [.c .slice]→ad→Prop}{h0:ad}(h:qo x0 K h0):HC PG mO [Lj x0] [.c .slice] K h0:=dL .nil Tryz.func66 Tryz.call66 rfl rfl (by kernel_rfl) h
def rY(x0:ByteArray)(x1:ByteArray)(K:(Int)→ad→Prop)(h0:ad):Prop:=
 CondP (decide ((x0.size:Int)>(256:Int))) (
 K 2 h0) (
 CondP (decide ((x1.size:Int)>(4096:Int))) (
 K 3 h0) (
 K 0 h0))
theorem xk(x0:ByteArray)(x1:ByteArray){K:cT bV→ad→Prop}{h0:ad}(h:rY x0 x1 K h0):HC PG pg (im x0 x1) bV K h0:=dL .nil Tryz.func67 Tryz.call67 rfl rfl (by kernel_rfl) h
def ve(x0:SliceV)(K:(Option Addr)→ad→Prop)(h0:ad):Prop:=
 HC PG nU [.slice x0.a x0.len x0.cap] [.c .slice] (fun(e1:SliceV) h2=>
 Join (fun(t6:ByteArray×Bool) h7=>
 Join (fun(t11:SliceV×ByteArray) h12=>
 HC PG pi (M8 t11.1 0) [.c .slice] (fun(e13:SliceV) h14=>
 HC PG pe (Lv (⟨#[]⟩:ByteArray) t6.2 t11.2 e13) [.c .ptr] (fun(e15:Option Addr) h16=>
 K e15 h16) h14) h12) (fun J8=>
 CondP t6.2 (
 (cn 0 e1.len∧∃a9,e1.a=some a9∧
 ∃v10,aL h7 (adr a9 ((0:Int).toNat*2)) 1 v10∧
 (((0:Int)≤(1:Int)∧(1:Int)≤((e1.len:Nat):Int))∧
 J8 (⟨aZ e1.a ((1:Int).toNat) e1.cap 2,e1.len-((1:Int).toNat),e1.cap-((1:Int).toNat)⟩,v10) h7))) (
 J8 (e1,t6.1) h7))) (fun J3=>
 CondP (decide ((e1.len:Int)>(0:Int))) (
 (cn 0 e1.len∧∃a4,e1.a=some a4∧
 ∃v5,aL h2 (adr a4 ((0:Int).toNat*2)) 0 v5∧
 J3 ((⟨#[]⟩:ByteArray),v5.toList==(⟨#[]⟩:ByteArray).toList) h2)) (
 J3 ((⟨#[]⟩:ByteArray),false) h2))) h0
noncomputable def CU:Ann:=.node .nil (.node .nil (.join [(3,.c .str),(4,.c .bool)] .nil (.join [(0,.c .slice),(3,.c .str)] .nil .nil)))
theorem CF(x0:SliceV){K:cT [.c .ptr]→ad→Prop}{h0:ad}(h:ve x0 K h0):HC PG qP [.slice x0.a x0.len x0.cap] [.c .ptr] K h0:=dL CU Tryz.func68 Tryz.call68 rfl rfl (by kernel_rfl) h
def vf(x0:Int×Int×Int)(x1:SliceV)(K:(Option Addr)→ad→Prop)(h0:ad):Prop:=
 At (hnew h0 (uJ x0) cH) (fun h1=>
 HC PG nU [.slice x1.a x1.len x1.cap] [.c .slice] (fun(e2:SliceV) h3=>
 LoopP (fun I4 (t5:SliceV×Int) h6=>
 CondP (decide (t5.2<(e2.len:Int))) (
 Join (fun(t25:SliceV) h26=>
 I4 (t25,IntKind.wrap .i64 (t5.2+1)) h26) (fun J7=>
 (cn t5.2 e2.len∧∃a8,e2.a=some a8∧
 ∃v9,aL h6 (adr a8 (t5.2.toNat*2)) 0 v9∧
 ∃v10,aL h6 (adr a8 (t5.2.toNat*2)) 1 v10∧
 nv h6 jm al (im v9 v10) (fun h12=>
 ∃v13,aF h12 h6 0 v13∧
 ∃v14,aF h12 h6 1 v14∧
 ∃v15,ar h12 h0 0 v15∧
 ∃v16,ar h12 h0 1 v16∧
 ∃v17,ar h12 h0 2 v17∧
 ∃v18,aF h12 h6 0 v18∧
 HC PG gb [un v15 v16 v17,.string v18] is (fun(e19:Int) h20=>
 ((aF h20 h6 0 v13∧aF h20 h6 1 v14)∧
 At (hnew h20 (um v13 v14 e19) aG) (fun h21=>
 ∃xs22,SRow h21 (some (aC h20)) (1*3) xs22∧
 AppP (some GR) 3 40 aG t5.1.a t5.1.len t5.1.cap 1 xs22 h21 (fun s23 h24=>
 J7 s23 h24)))) h12)))) (
 HC PG mY (M8 t5.1 0) [.c .ptr] (fun(e27:Option Addr) h28=>
 K e27 h28) h6)) (⟨none,0,0⟩,0) h3) h1)
noncomputable def CV:Ann:=.node .nil (.node .nil (.node (.node .nil (.loop [(5,.c .slice),(11,.c (.int .i64))] (.node .nil (.node .nil (.join [(5,.c .slice)] (.node .nil (.draw (dTr 0 5 (.all (.lastT 5 (.take 6 (.all (.lastT 7 (.all (.lastT 8 (.take 9 (.done)))))))))))) .nil))))) .nil))
theorem CG(x0:Int×Int×Int)(x1:SliceV){K:cT [.c .ptr]→ad→Prop}{h0:ad}(h:vf x0 x1 K h0):HC PG qQ [FE x0,.slice x1.a x1.len x1.cap] [.c .ptr] K h0:=dL CV Tryz.func69 Tryz.call69 rfl rfl (by kernel_rfl) h
def zl(x0:ByteArray)(x1:ByteArray)(K:(Int)→ad→Prop)(h0:ad):Prop:=
 CondP (decide ((x0.size:Int)>(256:Int))) (
 K 2 h0) (
 CondP (decide ((x1.size:Int)>(4096:Int))) (
 K 3 h0) (
 K 0 h0))
theorem Gy(x0:ByteArray)(x1:ByteArray){K:cT bV→ad→Prop}{h0:ad}(h:zl x0 x1 K h0):HC PG tA (im x0 x1) bV K h0:=dL .nil Tryz.func70 Tryz.call70 rfl rfl (by kernel_rfl) h
def xD(x0:SliceV)(K:(SliceV)→ad→Prop)(h0:ad):Prop:=
 LoopP (fun I1 (t2:SliceV×Int) h3=>
 CondP (decide (t2.2<(x0.len:Int))) (
 (cn t2.2 x0.len∧∃a4,x0.a=some a4∧
 ∃v5,aL h3 (adr a4 (t2.2.toNat*2)) 0 v5∧
 ∃v6,aL h3 (adr a4 (t2.2.toNat*2)) 1 v6∧
 nv h3 jm bG (im v5 v6) (fun h8=>
 ∃v9,aF h8 h3 0 v9∧
 ∃v10,aF h8 h3 1 v10∧
 HC PG yg [.slice t2.1.a t2.1.len t2.1.cap,xM v9 v10] [.c .slice] (fun(e11:SliceV) h12=>
 I1 (e11,IntKind.wrap .i64 (t2.2+1)) h12) h8))) (
 K t2.1 h3)) (⟨none,0,0⟩,0) h0
noncomputable def E3:Ann:=.node .nil (.node .nil (.node (.node .nil (.loop [(3,.c .slice),(8,.c (.int .i64))] .nil)) .nil))
theorem ES(x0:SliceV){K:cT [.c .slice]→ad→Prop}{h0:ad}(h:xD x0 K h0):HC PG rR [.slice x0.a x0.len x0.cap] [.c .slice] K h0:=dL E3 Tryz.func71 Tryz.call71 rfl rfl (by kernel_rfl) h
def gt(x0:SliceV)(x1:SliceV)(K:(Bool)→ad→Prop)(h0:ad):Prop:=
 CondP ((x0.len:Int) !=(x1.len:Int)) (
 K false h0) (
 LoopP (fun I1 (t2:Int) h3=>
 CondP (decide (t2<(x0.len:Int))) (
 (cn t2 x0.len∧∃a4,x0.a=some a4∧
 ∃v5,aL h3 (adr a4 (t2.toNat*2)) 0 v5∧
 ∃v6,aL h3 (adr a4 (t2.toNat*2)) 1 v6∧
 (cn t2 x1.len∧∃a7,x1.a=some a7∧
 ∃v8,aL h3 (adr a7 (t2.toNat*2)) 0 v8∧
 ∃v9,aL h3 (adr a7 (t2.toNat*2)) 1 v9∧
 CondP (!(((v5.toList==v8.toList)&&((v6.toList==v9.toList)&&true)))) (
 K false h3) (
 I1 (IntKind.wrap .i64 (t2+1)) h3)))) (
 K true h3)) 0 h0)
noncomputable def lz:Ann:=.node .nil (.node .nil (.node (.node .nil (.loop [(13,.c (.int .i64))] .nil)) .nil))
theorem lx(x0:SliceV)(x1:SliceV){K:cT [.c .bool]→ad→Prop}{h0:ad}(h:gt x0 x1 K h0):HC PG gr (GO x0 x1) [.c .bool] K h0:=dL lz Tryz.func72 Tryz.call72 rfl rfl (by kernel_rfl) h
def rm(x0:T6)(K:(Int)→ad→Prop)(h0:ad):Prop:=
 At (hnew h0 (qV x0) cE) (fun h1=>
 ∃v2,bW h1 h0 0 v2∧
 K v2 h1)
theorem yv(x0:T6){K:cT bV→ad→Prop}{h0:ad}(h:rm x0 K h0):HC PG nz [Lj x0] bV K h0:=dL .nil Tryz.func73 Tryz.call73 rfl rfl (by kernel_rfl) h
def pO(x0:T6)(K:(Int×Int×Int)→ad→Prop)(h0:ad):Prop:=
 At (hnew h0 (qV x0) cE) (fun h1=>
 At (hnew h1 Qd cH) (fun h2=>
 ∃v3,eB h2 (adr (aC h0) 1) 0 v3∧
 ∃v4,eB h2 (adr (aC h0) 1) 1 v4∧
 ∃v5,eB h2 (adr (aC h0) 1) 2 v5∧
 (hJ h2 h1 (Qf v3 v4 v5) (fun h6=>
 ∃v7,ar h6 h1 0 v7∧
 ∃v8,ar h6 h1 1 v8∧
 ∃v9,ar h6 h1 2 v9∧
 K (v7,v8,v9) h6))))
theorem vQ(x0:T6){K:cT FT→ad→Prop}{h0:ad}(h:pO x0 K h0):HC PG mg [Lj x0] FT K h0:=dL .nil Tryz.func74 Tryz.call74 rfl rfl (by kernel_rfl) h
def zh(x0:Option Addr)(K:(Int)→ad→Prop)(h0:ad):Prop:=
 Join (fun(t4:Int) h5=>
 HC PG j3 [.pointer x0] [.c .slice] (fun(e6:SliceV) h7=>
 LoopP (fun I8 (t9:Int×Int) h10=>
 CondP (decide (t9.2<(e6.len:Int))) (
 (cn t9.2 e6.len∧∃a11,e6.a=some a11∧
 ∃v12,bR h10 a11 (t9.2.toNat*1) (.pointer v12)∧
 HC PG qg [.pointer v12] bV (fun(e13:Int) h14=>
 I8 (IntKind.wrap .i64 (t9.1+e13),IntKind.wrap .i64 (t9.2+1)) h14) h10)) (
 K t9.1 h10)) (t4,0) h7) h5) (fun J1=>
 HC PG jt [.pointer x0] Ks (fun(e2:ByteArray×Bool) h3=>
 CondP e2.2 (
 J1 1 h3) (
 J1 0 h3)) h0)
noncomputable def GJ:Ann:=.node .nil (.node .nil (.join [(3,.c (.int .i64))] .nil (.node (.node .nil (.loop [(3,.c (.int .i64)),(17,.c (.int .i64))] .nil)) .nil)))
theorem Gs(x0:Option Addr){K:cT bV→ad→Prop}{h0:ad}(h:zh x0 K h0):HC PG qg [.pointer x0] bV K h0:=dL GJ Tryz.func75 Tryz.call75 rfl rfl (by kernel_rfl) h
def qB(x0:Option Addr)(K:(Int)→ad→Prop)(h0:ad):Prop:=
 HC PG gc [.pointer x0] [.c .slice] (fun(e1:SliceV) h2=>
 HC PG kW [.pointer x0] [.c .slice] (fun(e3:SliceV) h4=>
 LoopP (fun I5 (t6:Int×Int) h7=>
 CondP (decide (t6.2<(e3.len:Int))) (
 (cn t6.2 e3.len∧∃a8,e3.a=some a8∧
 ∃v9,bR h7 a8 (t6.2.toNat*1) (.pointer v9)∧
 HC PG qi [.pointer v9] bV (fun(e10:Int) h11=>
 I5 (IntKind.wrap .i64 (t6.1+e10),IntKind.wrap .i64 (t6.2+1)) h11) h7)) (
 K t6.1 h7)) ((e1.len:Int),0) h4) h2) h0
noncomputable def GN:Ann:=.node .nil (.node .nil (.node (.node .nil (.loop [(3,.c (.int .i64)),(12,.c (.int .i64))] .nil)) .nil))
theorem tK(x0:Option Addr){K:cT bV→ad→Prop}{h0:ad}(h:qB x0 K h0):HC PG qi [.pointer x0] bV K h0:=dL GN Tryz.func76 Tryz.call76 rfl rfl (by kernel_rfl) h
def zf(x0:T6)(x1:T6)(K:(Bool)→ad→Prop)(h0:ad):Prop:=
 At (hnew h0 (qV x0) cE) (fun h1=>
 At (hnew h1 (qV x1) cE) (fun h2=>
 ∃v3,bW h2 h0 0 v3∧
 ∃v4,bW h2 h1 0 v4∧
 CondP (v3==v4) (
 ∃v5,eB h2 (adr (aC h0) 1) 0 v5∧
 ∃v6,eB h2 (adr (aC h0) 1) 1 v6∧
 ∃v7,eB h2 (adr (aC h0) 1) 2 v7∧
 ∃v8,eB h2 (adr (aC h1) 1) 0 v8∧
 ∃v9,eB h2 (adr (aC h1) 1) 1 v9∧
 ∃v10,eB h2 (adr (aC h1) 1) 2 v10∧
 K ((((v5==v8)&&((v6==v9)&&true)))&&((v7==v10)&&true)) h2) (
 K false h2)))
theorem Gq(x0:T6)(x1:T6){K:cT [.c .bool]→ad→Prop}{h0:ad}(h:zf x0 x1 K h0):HC PG tu [Lj x0,Lj x1] [.c .bool] K h0:=dL .nil Tryz.func77 Tryz.call77 rfl rfl (by kernel_rfl) h
def vd(x0:SliceV)(x1:SliceV)(K:(Bool)→ad→Prop)(h0:ad):Prop:=
 ∃s1,SRow h0 x0.a x0.len (dd s1)∧
 ∃s2,SRow h0 x1.a x1.len (dd s2)∧
 K (s1.toList==s2.toList) h0
theorem CE(x0:SliceV)(x1:SliceV){K:cT [.c .bool]→ad→Prop}{h0:ad}(h:vd x0 x1 K h0):HC PG qO (GO x0 x1) [.c .bool] K h0:=dL .nil Tryz.func78 Tryz.call78 rfl rfl (by kernel_rfl) h
def uU(x0:Option Addr)(K:(SliceV)→ad→Prop)(h0:ad):Prop:=
 CondP x0.isNone (
 K ⟨none,0,0⟩ h0) (
 HC PG iQ [.pointer x0,.slice none 0 0] [.c .slice] (fun(e1:SliceV) h2=>
 K e1 h2) h0)
theorem Cx(x0:Option Addr){K:cT [.c .slice]→ad→Prop}{h0:ad}(h:uU x0 K h0):HC PG qK [.pointer x0] [.c .slice] K h0:=dL .nil Tryz.func79 Tryz.call79 rfl rfl (by kernel_rfl) h
def BG(x0:Option Addr)(K:(SliceV)→ad→Prop)(h0:ad):Prop:=
 CondP x0.isNone (
 K ⟨none,0,0⟩ h0) (
 HC PG qf [.slice none 0 0,.pointer x0,.int .i64 0] [.c .slice] (fun(e1:SliceV) h2=>
 K e1 h2) h0)
theorem Ir(x0:Option Addr){K:cT [.c .slice]→ad→Prop}{h0:ad}(h:BG x0 K h0):HC PG vF [.pointer x0] [.c .slice] K h0:=dL .nil Tryz.func80 Tryz.call80 rfl rfl (by kernel_rfl) h
def zj(x0:Option Addr)(K:(SliceV)→ad→Prop)(h0:ad):Prop:=
 ∃a1,x0=some a1∧
 ∃v2,aL h0 a1 0 v2∧
 HC PG nF [.string v2] [.c .slice] (fun(e3:SliceV) h4=>
 Join (fun(t23:SliceV) h24=>
 Join (fun(t33:SliceV) h34=>
 ∃a35,x0=some a35∧
 ∃v36:SliceV,bU h34 a35 3 v36∧
 LoopP (fun I37 (t38:SliceV×Int) h39=>
 CondP (decide (t38.2<(v36.len:Int))) (
 Join (fun(t48:SliceV) h49=>
 I37 (t48,IntKind.wrap .i64 (t38.2+1)) h49) (fun J40=>
 (cn t38.2 v36.len∧∃a41,v36.a=some a41∧
 ∃v42,bR h39 a41 (t38.2.toNat*1) (.pointer v42)∧
 HC PG qh [.pointer v42] [.c .slice] (fun(e43:SliceV) h44=>
 ∃xs45,SRow h44 e43.a (e43.len*1) xs45∧
 AppP (some [.int .u8 0]) 1 1 ci t38.1.a t38.1.len t38.1.cap e43.len xs45 h44 (fun s46 h47=>
 J40 s46 h47)) h39))) (
 K t38.1 h39)) (t33,0) h34) (fun J25=>
 ∃a26,x0=some a26∧
 ∃v27:SliceV,bU h24 a26 3 v27∧
 HC PG pu [.int .i64 (v27.len:Int)] [.c .slice] (fun(e28:SliceV) h29=>
 ∃xs30,SRow h29 e28.a (e28.len*1) xs30∧
 AppP (some [.int .u8 0]) 1 1 ci t23.a t23.len t23.cap e28.len xs30 h29 (fun s31 h32=>
 J25 s31 h32)) h24)) (fun J5=>
 ∃a6,x0=some a6∧
 ∃v7,hH h4 a6 1 v7∧
 CondP v7 (
 ∃a8,x0=some a8∧
 ∃v9,aL h4 a8 2 v9∧
 At (hnew h4 [.int .u8 1] ci) (fun h10=>
 (aL h10 a8 2 v9∧
 ∃xs11,SRow h10 (some (aC h4)) (1*1) xs11∧
 AppP (some [.int .u8 0]) 1 1 ci e3.a e3.len e3.cap 1 xs11 h10 (fun s12 h13=>
 (aL h13 a8 2 v9∧
 HC PG nF [.string v9] [.c .slice] (fun(e14:SliceV) h15=>
 ∃xs16,SRow h15 e14.a (e14.len*1) xs16∧
 AppP (some [.int .u8 0]) 1 1 ci s12.a s12.len s12.cap e14.len xs16 h15 (fun s17 h18=>
 J5 s17 h18)) h13))))) (
 At (hnew h4 [.int .u8 0] ci) (fun h19=>
 ∃xs20,SRow h19 (some (aC h4)) (1*1) xs20∧
 AppP (some [.int .u8 0]) 1 1 ci e3.a e3.len e3.cap 1 xs20 h19 (fun s21 h22=>
 J5 s21 h22))))) h0
noncomputable def GK:Ann:=.node .nil (.node .nil (.join [(3,.c .slice)] .nil (.join [(3,.c .slice)] .nil (.node (.node .nil (.loop [(3,.c .slice),(40,.c (.int .i64))] (.node .nil (.node .nil (.join [(3,.c .slice)] .nil .nil))))) .nil))))
theorem Gu(x0:Option Addr){K:cT [.c .slice]→ad→Prop}{h0:ad}(h:zj x0 K h0):HC PG qh [.pointer x0] [.c .slice] K h0:=dL GK Tryz.func81 Tryz.call81 rfl rfl (by kernel_rfl) h
def GE(x0:SliceV)(K:(Option Addr)→ad→Prop)(h0:ad):Prop:=
 At (hnew h0 PF md) (fun h1=>
 Join (fun(t14:SliceV) h15=>
 HC PG pf [.slice t14.a t14.len t14.cap] [.c .slice] (fun(e16:SliceV) h17=>
 ∃a18,some (aC h0)=some a18∧
 (d6 h17 (adr a18 3) (.slice e16.a e16.len e16.cap) (fun h19=>
 K (some (aC h0)) h19))) h15) (fun J2=>
 Join (fun(t6:Bool) h7=>
 CondP t6 (
 (cn 0 x0.len∧∃a8,x0.a=some a8∧
 ∃v9,aL h7 (adr a8 ((0:Int).toNat*2)) 1 v9∧
 ∃a10,some (aC h0)=some a10∧
 (d6 h7 (adr a10 1) (.bool true) (fun h11=>
 ∃a12,some (aC h0)=some a12∧
 (d6 h11 (adr a12 2) (.string v9) (fun h13=>
 (((0:Int)≤(1:Int)∧(1:Int)≤((x0.len:Nat):Int))∧
 J2 ⟨aZ x0.a ((1:Int).toNat) x0.cap 2,x0.len-((1:Int).toNat),x0.cap-((1:Int).toNat)⟩ h13))))))) (
 J2 x0 h7)) (fun J3=>
 CondP (decide ((x0.len:Int)>(0:Int))) (
 (cn 0 x0.len∧∃a4,x0.a=some a4∧
 ∃v5,aL h1 (adr a4 ((0:Int).toNat*2)) 0 v5∧
 J3 (v5.toList==(⟨#[]⟩:ByteArray).toList) h1)) (
 J3 false h1))))
noncomputable def M2:Ann:=.node .nil (.node .nil (.join [(0,.c .slice)] (.join [(15,.c .bool)] .nil .nil) .nil))
theorem MY(x0:SliceV){K:cT [.c .ptr]→ad→Prop}{h0:ad}(h:GE x0 K h0):HC PG A5 [.slice x0.a x0.len x0.cap] [.c .ptr] K h0:=dL M2 Tryz.func82 Tryz.call82 rfl rfl (by kernel_rfl) h
def BK(x0:Option Addr)(x1:Int)(K:(SliceV)→ad→Prop)(h0:ad):Prop:=
 ∃a1,x0=some a1∧
 ∃v2,hH h0 a1 0 v2∧
 CondP v2 (
 ∃a3,x0=some a3∧
 ∃v4:SliceV,bU h0 a3 1 v4∧
 ∃a5,x0=some a5∧
 ∃v6:SliceV,bU h0 a5 1 v6∧
 ((At (hnew h0 [.int .u8 1] ci) (fun h7=>
 (bU h7 a5 1 v6∧
 (bU h7 a3 1 v4∧
 HC PG pu [.int .i64 (v4.len:Int)] [.c .slice] (fun(e8:SliceV) h9=>
 (bU h9 a5 1 v6∧
 (bU h9 a3 1 v4∧
 ∃xs10,SRow h9 e8.a (e8.len*1) xs10∧
 AppP (some [.int .u8 0]) 1 1 ci (some (aC h0)) 1 1 e8.len xs10 h9 (fun s11 h12=>
 (bU h12 a5 1 v6∧
 (bU h12 a3 1 v4∧
 HC PG oo [.slice v6.a v6.len v6.cap] [.c .slice] (fun(e13:SliceV) h14=>
 (bU h14 a3 1 v4∧
 ∃xs15,SRow h14 e13.a (e13.len*1) xs15∧
 AppP (some [.int .u8 0]) 1 1 ci s11.a s11.len s11.cap e13.len xs15 h14 (fun s16 h17=>
 (bU h17 a3 1 v4∧
 K s16 h17)))) h12)))))) h7))))∧
 HC PG pu [.int .i64 (v4.len:Int)] [.c .slice] (fun(e18:SliceV) h19=>
 (bU h19 a5 1 v6∧
 (bU h19 a3 1 v4∧
 At (hnew h19 [.int .u8 1] ci) (fun h20=>
 (bU h20 a5 1 v6∧
 (bU h20 a3 1 v4∧
 ∃xs21,SRow h20 e18.a (e18.len*1) xs21∧
 AppP (some [.int .u8 0]) 1 1 ci (some (aC h19)) 1 1 e18.len xs21 h20 (fun s22 h23=>
 (bU h23 a5 1 v6∧
 (bU h23 a3 1 v4∧
 HC PG oo [.slice v6.a v6.len v6.cap] [.c .slice] (fun(e24:SliceV) h25=>
 (bU h25 a3 1 v4∧
 ∃xs26,SRow h25 e24.a (e24.len*1) xs26∧
 AppP (some [.int .u8 0]) 1 1 ci s22.a s22.len s22.cap e24.len xs26 h25 (fun s27 h28=>
 (bU h28 a3 1 v4∧
 K s27 h28)))) h23))))))))) h0)) (
 LoopP (fun I29 (t30:Int×Int×SliceV×SliceV×Int×Int) h31=>
 CondP (decide (t30.2.2.2.2.2<(32:Int))) (
 Join (fun(t42:Int×SliceV) h43=>
 Join (fun(t54:Int×SliceV) h55=>
 I29 (t42.1,t54.1,t42.2,t54.2,IntKind.wrap .u32 (t30.2.2.2.2.1*2),IntKind.wrap .i64 (t30.2.2.2.2.2+1)) h55) (fun J44=>
 ∃a45,x0=some a45∧
 (cn t30.2.2.2.2.2 32∧
 ∃v46,bR h43 (adr a45 2) (t30.2.2.2.2.2.toNat*1) (.int .i64 v46)∧
 CondP (v46==(2:Int)) (
 CondP (decide (x1<(13:Int))) (
 ∃a47,x0=some a47∧
 (cn t30.2.2.2.2.2 32∧
 ∃v48,bR h43 (adr a47 98) (t30.2.2.2.2.2.toNat*1) (.pointer v48)∧
 HC PG wR (yH v48 (IntKind.wrap .i64 (x1+1))) [.c .slice] (fun(e49:SliceV) h50=>
 ∃xs51,SRow h50 e49.a (e49.len*1) xs51∧
 AppP (some [.int .u8 0]) 1 1 ci t30.2.2.2.1.a t30.2.2.2.1.len t30.2.2.2.1.cap e49.len xs51 h50 (fun s52 h53=>
 J44 (IntKind.wrap .u32 (t30.2.1+t30.2.2.2.2.1),s52) h53)) h43)) (
 J44 (IntKind.wrap .u32 (t30.2.1+t30.2.2.2.2.1),t30.2.2.2.1) h43)) (
 J44 (t30.2.1,t30.2.2.2.1) h43)))) (fun J32=>
 ∃a33,x0=some a33∧
 (cn t30.2.2.2.2.2 32∧
 ∃v34,bR h31 (adr a33 2) (t30.2.2.2.2.2.toNat*1) (.int .i64 v34)∧
 CondP (v34==(1:Int)) (
 ∃a35,x0=some a35∧
 (cn t30.2.2.2.2.2 32∧
 ∃v36,aL h31 (adr (adr a35 34) (t30.2.2.2.2.2.toNat*2)) 0 v36∧
 ∃v37,aL h31 (adr (adr a35 34) (t30.2.2.2.2.2.toNat*2)) 1 v37∧
 At (hnew h31 (im v36 v37) bG) (fun h38=>
 ∃xs39,SRow h38 (some (aC h31)) (1*2) xs39∧
 AppP (some jm) 2 32 bG t30.2.2.1.a t30.2.2.1.len t30.2.2.1.cap 1 xs39 h38 (fun s40 h41=>
 J32 (IntKind.wrap .u32 (t30.1+t30.2.2.2.2.1),s40) h41)))) (
 J32 (t30.1,t30.2.2.1) h31)))) (
 Join (fun(t63:SliceV) h64=>
 Join (fun(t71:SliceV) h72=>
 Join (fun(t79:SliceV) h80=>
 ∃xs81,SRow h80 t30.2.2.2.1.a (t30.2.2.2.1.len*1) xs81∧
 AppP (some [.int .u8 0]) 1 1 ci t79.a t79.len t79.cap t30.2.2.2.1.len xs81 h80 (fun s82 h83=>
 K s82 h83)) (fun J73=>
 HC PG oo [.slice t30.2.2.1.a t30.2.2.1.len t30.2.2.1.cap] [.c .slice] (fun(e74:SliceV) h75=>
 ∃xs76,SRow h75 e74.a (e74.len*1) xs76∧
 AppP (some [.int .u8 0]) 1 1 ci t71.a t71.len t71.cap e74.len xs76 h75 (fun s77 h78=>
 J73 s77 h78)) h72)) (fun J65=>
 HC PG rQ [.int .u32 t30.2.1] [.c .slice] (fun(e66:SliceV) h67=>
 ∃xs68,SRow h67 e66.a (e66.len*1) xs68∧
 AppP (some [.int .u8 0]) 1 1 ci t63.a t63.len t63.cap e66.len xs68 h67 (fun s69 h70=>
 J65 s69 h70)) h64)) (fun J56=>
 At (hnew h31 [.int .u8 0] ci) (fun h57=>
 HC PG rQ [.int .u32 t30.1] [.c .slice] (fun(e58:SliceV) h59=>
 ∃xs60,SRow h59 e58.a (e58.len*1) xs60∧
 AppP (some [.int .u8 0]) 1 1 ci (some (aC h31)) 1 1 e58.len xs60 h59 (fun s61 h62=>
 J56 s61 h62)) h57)))) (0,0,⟨none,0,0⟩,⟨none,0,0⟩,1,0) h0)
noncomputable def M3:Ann:=.node .nil (.node .nil (.node .nil (.node .nil (.node .nil (.node .nil (.node (.node .nil (.loop [(5,.c (.int .u32)),(6,.c (.int .u32)),(7,.c .slice),(8,.c .slice),(9,.c (.int .u32)),(10,.c (.int .i64))] (.node .nil (.node (.join [(5,.c (.int .u32)),(7,.c .slice)] .nil (.join [(6,.c (.int .u32)),(8,.c .slice)] .nil .nil)) .nil)))) (.join [(11,.c .slice)] .nil (.join [(11,.c .slice)] .nil (.join [(11,.c .slice)] .nil .nil)))))))))
theorem Gw(x0:Option Addr)(x1:Int){K:cT [.c .slice]→ad→Prop}{h0:ad}(h:BK x0 x1 K h0):HC PG wR (yH x0 x1) [.c .slice] K h0:=dL M3 Tryz.func83 Tryz.call83 rfl rfl (by kernel_rfl) h
def GF(x0:Int×Int×Int)(x1:SliceV)(x2:Int)(K:(Option Addr)→ad→Prop)(h0:ad):Prop:=
 At (hnew h0 (uJ x0) mI) (fun h1=>
 LoopP (fun I2 (t3:SliceV×Int) h4=>
 CondP (decide (t3.2<(x1.len:Int))) (
 Join (fun(t21:SliceV) h22=>
 I2 (t21,IntKind.wrap .i64 (t3.2+1)) h22) (fun J5=>
 (cn t3.2 x1.len∧∃a6,x1.a=some a6∧
 ∃v7,aL h4 (adr a6 (t3.2.toNat*2)) 0 v7∧
 ∃v8,aL h4 (adr a6 (t3.2.toNat*2)) 1 v8∧
 nv h4 jm bG (im v7 v8) (fun h10=>
 ∃v11,ar h10 h0 0 v11∧
 ∃v12,ar h10 h0 1 v12∧
 ∃v13,ar h10 h0 2 v13∧
 ∃v14,aF h10 h4 0 v14∧
 HC PG vH [un v11 v12 v13,.string v14] is (fun(e15:Int) h16=>
 At (hnew h16 [.int .u64 e15] mH) (fun h17=>
 ∃xs18,SRow h17 (some (aC h16)) (1*1) xs18∧
 AppP (some [.int .u64 0]) 1 8 mH t3.1.a t3.1.len t3.1.cap 1 xs18 h17 (fun s19 h20=>
 J5 s19 h20))) h10)))) (
 HC PG wS (JS x1 t3.1 x2) [.c .ptr] (fun(e23:Option Addr) h24=>
 K e23 h24) h4)) (⟨none,0,0⟩,0) h1)
noncomputable def M5:Ann:=.node .nil (.node .nil (.node (.node .nil (.loop [(7,.c .slice),(12,.c (.int .i64))] (.node .nil (.node .nil (.join [(7,.c .slice)] .nil .nil))))) .nil))
theorem MZ(x0:Int×Int×Int)(x1:SliceV)(x2:Int){K:cT [.c .ptr]→ad→Prop}{h0:ad}(h:GF x0 x1 x2 K h0):HC PG A6 [FE x0,.slice x1.a x1.len x1.cap,.int .i64 x2] [.c .ptr] K h0:=dL M5 Tryz.func84 Tryz.call84 rfl rfl (by kernel_rfl) h
def uX(x0:Option Addr)(K:(Bool)→ad→Prop)(h0:ad):Prop:=
 CondP (!(x0.isNone)) (
 ∃a1,x0=some a1∧
 ∃v2,aL h0 a1 0 v2∧
 CondP (v2.toList==(⟨#[]⟩:ByteArray).toList) (
 HC PG js [.pointer x0] [.c .bool] (fun(e3:Bool) h4=>
 CondP e3 (
 ∃a5,x0=some a5∧
 ∃v6:SliceV,bU h4 a5 3 v6∧
 HC PG cB [.slice v6.a v6.len v6.cap,.func (.func si) #[] #[]] [.c .bool] (fun(e7:Bool) h8=>
 K (!e7) h8) h4) (
 K false h4)) h0) (
 K false h0)) (
 K false h0)
theorem Cz(x0:Option Addr){K:cT [.c .bool]→ad→Prop}{h0:ad}(h:uX x0 K h0):HC PG qM [.pointer x0] [.c .bool] K h0:=dL .nil Tryz.func85 Tryz.call85 rfl rfl (by kernel_rfl) h
def uT(x0:Int×Int×Int)(x1:Option Addr)(K:(Bool)→ad→Prop)(h0:ad):Prop:=
 At (hnew h0 (uJ x0) cH) (fun h1=>
 CondP x1.isNone (
 K false h1) (
 ∃v2,ar h1 h0 0 v2∧
 ∃v3,ar h1 h0 1 v3∧
 ∃v4,ar h1 h0 2 v4∧
 HC PG lK [un v2 v3 v4,.pointer x1,.slice none 0 0] ut (fun(e5:Int×Bool) h6=>
 K e5.2 h6) h1))
theorem Cw(x0:Int×Int×Int)(x1:Option Addr){K:cT [.c .bool]→ad→Prop}{h0:ad}(h:uT x0 x1 K h0):HC PG uL [FE x0,.pointer x1] [.c .bool] K h0:=dL .nil Tryz.func86 Tryz.call86 rfl rfl (by kernel_rfl) h
def u6(K:(Option Addr)→ad→Prop)(h0:ad):Prop:=
 HC PG ph [] [.c .ptr] (fun(e1:Option Addr) h2=>
 K e1 h2) h0
theorem CD{K:cT [.c .ptr]→ad→Prop}{h0:ad}(h:u6 K h0):HC PG nV [] [.c .ptr] K h0:=dL .nil Tryz.func87 Tryz.call87 rfl rfl (by kernel_rfl) h
def uV(K:(Option Addr)→ad→Prop)(h0:ad):Prop:=
 At (hnew h0 PE fp) (fun h1=>
 K (some (aC h0)) h1)
theorem Cy{K:cT [.c .ptr]→ad→Prop}{h0:ad}(h:uV K h0):HC PG qL [] [.c .ptr] K h0:=dL .nil Tryz.func88 Tryz.call88 rfl rfl (by kernel_rfl) h
def BP(x0:SliceV)(x1:ByteArray)(K:(SliceV)→ad→Prop)(h0:ad):Prop:=
 LoopP (fun I1 (t2:SliceV×Int) h3=>
 CondP (decide (t2.2<(x0.len:Int))) (
 Join (fun(t17:SliceV) h18=>
 I1 (t17,IntKind.wrap .i64 (t2.2+1)) h18) (fun J4=>
 (cn t2.2 x0.len∧∃a5,x0.a=some a5∧
 ∃v6,aL h3 (adr a5 (t2.2.toNat*2)) 0 v6∧
 ∃v7,aL h3 (adr a5 (t2.2.toNat*2)) 1 v7∧
 nv h3 jm bG (im v6 v7) (fun h9=>
 ∃v10,aF h9 h3 0 v10∧
 CondP (!(v10.toList==x1.toList)) (
 ∃v11,aF h9 h3 0 v11∧
 ∃v12,aF h9 h3 1 v12∧
 At (hnew h9 (im v11 v12) bG) (fun h13=>
 ∃xs14,SRow h13 (some (aC h9)) (1*2) xs14∧
 AppP (some jm) 2 32 bG t2.1.a t2.1.len t2.1.cap 1 xs14 h13 (fun s15 h16=>
 J4 s15 h16))) (
 J4 t2.1 h9))))) (
 K t2.1 h3)) (⟨none,0,0⟩,0) h0
noncomputable def IP:Ann:=.node .nil (.node .nil (.node (.node .nil (.loop [(5,.c .slice),(10,.c (.int .i64))] (.node .nil (.node .nil (.join [(5,.c .slice)] .nil .nil))))) .nil))
theorem IA(x0:SliceV)(x1:ByteArray){K:cT [.c .slice]→ad→Prop}{h0:ad}(h:BP x0 x1 K h0):HC PG vJ (xS x0 x1) [.c .slice] K h0:=dL IP Tryz.func93 Tryz.call93 rfl rfl (by kernel_rfl) h
def DR(x0:SliceV)(x1:ByteArray×ByteArray)(K:(SliceV)→ad→Prop)(h0:ad):Prop:=
 At (hnew h0 (B7 x1) bG) (fun h1=>
 ∃v2,aF h1 h0 0 v2∧
 HC PG vJ (xS x0 v2) [.c .slice] (fun(e3:SliceV) h4=>
 LoopP (fun I5 (t6:SliceV×Bool×Int) h7=>
 CondP (decide (t6.2.2<(e3.len:Int))) (
 Join (fun(t36:SliceV×Bool) h37=>
 I5 (t36.1,t36.2,IntKind.wrap .i64 (t6.2.2+1)) h37) (fun J8=>
 (cn t6.2.2 e3.len∧∃a9,e3.a=some a9∧
 ∃v10,aL h7 (adr a9 (t6.2.2.toNat*2)) 0 v10∧
 ∃v11,aL h7 (adr a9 (t6.2.2.toNat*2)) 1 v11∧
 nv h7 jm bG (im v10 v11) (fun h13=>
 Join (fun(t28:SliceV×Bool) h29=>
 ∃v30,aF h29 h7 0 v30∧
 ∃v31,aF h29 h7 1 v31∧
 At (hnew h29 (im v30 v31) bG) (fun h32=>
 ∃xs33,SRow h32 (some (aC h29)) (1*2) xs33∧
 AppP (some jm) 2 32 bG t28.1.a t28.1.len t28.1.cap 1 xs33 h32 (fun s34 h35=>
 J8 (s34,t28.2) h35))) (fun J14=>
 Join (fun(t20:Bool) h21=>
 CondP t20 (
 ∃v22,aF h21 h0 0 v22∧
 ∃v23,aF h21 h0 1 v23∧
 At (hnew h21 (im v22 v23) bG) (fun h24=>
 ∃xs25,SRow h24 (some (aC h21)) (1*2) xs25∧
 AppP (some jm) 2 32 bG t6.1.a t6.1.len t6.1.cap 1 xs25 h24 (fun s26 h27=>
 J14 (s26,true) h27))) (
 J14 (t6.1,t6.2.1) h21)) (fun J15=>
 CondP (!t6.2.1) (
 ∃v16,aF h13 h0 0 v16∧
 ∃v17,aF h13 h7 0 v17∧
 HC PG vI (im v16 v17) [.c .bool] (fun(e18:Bool) h19=>
 J15 e18 h19) h13) (
 J15 false h13))))))) (
 CondP (!t6.2.1) (
 ∃v38,aF h7 h0 0 v38∧
 ∃v39,aF h7 h0 1 v39∧
 At (hnew h7 (im v38 v39) bG) (fun h40=>
 ∃xs41,SRow h40 (some (aC h7)) (1*2) xs41∧
 AppP (some jm) 2 32 bG t6.1.a t6.1.len t6.1.cap 1 xs41 h40 (fun s42 h43=>
 K s42 h43))) (
 K t6.1 h7))) (⟨none,0,0⟩,false,0) h4) h1)
noncomputable def K8:Ann:=.node .nil (.node .nil (.node .nil (.node (.node .nil (.loop [(5,.c .slice),(6,.c .bool),(14,.c (.int .i64))] (.node .nil (.node .nil (.join [(5,.c .slice),(6,.c .bool)] (.node .nil (.join [(5,.c .slice),(6,.c .bool)] (.join [(26,.c .bool)] .nil .nil) .nil)) .nil))))) .nil)))
theorem K3(x0:SliceV)(x1:ByteArray×ByteArray){K:cT [.c .slice]→ad→Prop}{h0:ad}(h:DR x0 x1 K h0):HC PG yg [.slice x0.a x0.len x0.cap,OC x1] [.c .slice] K h0:=dL K8 Tryz.func94 Tryz.call94 rfl rfl (by kernel_rfl) h
def BO(x0:ByteArray)(x1:ByteArray)(K:(Bool)→ad→Prop)(h0:ad):Prop:=
 LoopP (fun I1 (t2:Int) h3=>
 Join (fun(t5:Bool) h6=>
 CondP t5 (
 ∃b7,(0:Int)≤t2∧x0[t2.toNat]? =some b7∧
 ∃b8,(0:Int)≤t2∧x1[t2.toNat]? =some b8∧
 CondP ((b7.toNat:Int) !=(b8.toNat:Int)) (
 ∃b9,(0:Int)≤t2∧x0[t2.toNat]? =some b9∧
 ∃b10,(0:Int)≤t2∧x1[t2.toNat]? =some b10∧
 K (decide ((b9.toNat:Int)<(b10.toNat:Int))) h6) (
 I1 (IntKind.wrap .i64 (t2+1)) h6)) (
 K (decide ((x0.size:Int)<(x1.size:Int))) h6)) (fun J4=>
 CondP (decide (t2<(x0.size:Int))) (
 J4 (decide (t2<(x1.size:Int))) h3) (
 J4 false h3))) 0 h0
noncomputable def IM:Ann:=.node .nil (.node (.node .nil (.loop [(5,.c (.int .i64))] (.node (.join [(15,.c .bool)] .nil .nil) .nil))) .nil)
theorem Iz(x0:ByteArray)(x1:ByteArray){K:cT [.c .bool]→ad→Prop}{h0:ad}(h:BO x0 x1 K h0):HC PG vI (im x0 x1) [.c .bool] K h0:=dL IM Tryz.func104 Tryz.call104 rfl rfl (by kernel_rfl) h
def qx(x0:ByteArray)(x1:ByteArray)(K:(Int)→ad→Prop)(h0:ad):Prop:=
 HC PG l4 [.string x0] [.c .bool] (fun(e1:Bool) h2=>
 HC PG l4 [.string x1] [.c .bool] (fun(e3:Bool) h4=>
 CondP e1 (
 CondP e3 (
 K 0 h4) (
 K (-1) h4)) (
 CondP e3 (
 K 1 h4) (
 CondP (Op.bytesLess x0.toList x1.toList) (
 K (-1) h4) (
 CondP (!(Op.bytesLess x0.toList x1.toList||x0.toList==x1.toList)) (
 K 1 h4) (
 K 0 h4))))) h2) h0
theorem xq(x0:ByteArray)(x1:ByteArray){K:cT bV→ad→Prop}{h0:ad}(h:qx x0 x1 K h0):HC PG mW (im x0 x1) bV K h0:=dL .nil Tryz.func110 Tryz.call110 rfl rfl (by kernel_rfl) h
def xx(x0:Option Addr)(x1:ByteArray×ByteArray×Bool)(K:(SliceV)→ad→Prop)(h0:ad):Prop:=
 At (hnew h0 (Ng x1) mz) (fun h1=>
 ∃v2,aF h1 h0 0 v2∧
 ∃v3,aF h1 h0 1 v3∧
 ∃v4,nr h1 h0 2 v4∧
 HC PG tw [.pointer x0,Ou v2 v3 v4,.bool false] [.c .raw] (fun(e5:Value) h6=>
 HC PG gY [e5] [.c .slice] (fun(e7:SliceV) h8=>
 K e7 h8) h6) h1)
theorem EL(x0:Option Addr)(x1:ByteArray×ByteArray×Bool){K:cT [.c .slice]→ad→Prop}{h0:ad}(h:xx x0 x1 K h0):HC PG rL [.pointer x0,O7 x1] [.c .slice] K h0:=dL .nil Tryz.func120 Tryz.call120 rfl rfl (by kernel_rfl) h
def BE(K:(ByteArray×ByteArray×Bool)→ad→Prop)(h0:ad):Prop:=
 nv h0 zl8 mz (vl8 (⟨#[]⟩:ByteArray) (⟨#[]⟩:ByteArray) true) (fun h2=>
 ∃v3,aF h2 h0 0 v3∧
 ∃v4,aF h2 h0 1 v4∧
 ∃v5,nr h2 h0 2 v5∧
 K (v3,v4,v5) h2)
theorem Ip{K:cT N4→ad→Prop}{h0:ad}(h:BE K h0):HC PG A4 [] N4 K h0:=dL .nil Tryz.func121 Tryz.call121 rfl rfl (by kernel_rfl) h
def uY(x0:SliceV)(K:(SliceV)→ad→Prop)(h0:ad):Prop:=
 HC PG cU [.slice x0.a x0.len x0.cap] [.c .slice] (fun(e1:SliceV) h2=>
 HC PG cL [.slice e1.a e1.len e1.cap,.func (.func oH) #[] #[]] [] (fun(e3:Unit) h4=>
 LoopP (fun I5 (t6:Int×Int) h7=>
 CondP (decide (t6.2<(e1.len:Int))) (
 Join (fun(t24:Int) h25=>
 I5 (t24,IntKind.wrap .i64 (t6.2+1)) h25) (fun J8=>
 (cn t6.2 e1.len∧∃a9,e1.a=some a9∧
 ∃v10,aL h7 (adr a9 (t6.2.toNat*2)) 0 v10∧
 ∃v11,aL h7 (adr a9 (t6.2.toNat*2)) 1 v11∧
 nv h7 jm al (im v10 v11) (fun h13=>
 Join (fun(t18:Bool) h19=>
 CondP t18 (
 J8 t6.1 h19) (
 ∃v20,aF h19 h7 0 v20∧
 ∃v21,aF h19 h7 1 v21∧
 (cn t6.1 e1.len∧∃a22,e1.a=some a22∧
 (lC h19 (adr a22 (t6.1.toNat*2)) (im v20 v21) (fun h23=>
 J8 (IntKind.wrap .i64 (t6.1+1)) h23))))) (fun J14=>
 CondP (decide ((IntKind.wrap .i64 (t6.2+1))<(e1.len:Int))) (
 (cn (IntKind.wrap .i64 (t6.2+1)) e1.len∧∃a15,e1.a=some a15∧
 ∃v16,bR h13 (adr a15 ((IntKind.wrap .i64 (t6.2+1)).toNat*2)) 0 (.string v16)∧
 ∃v17,aF h13 h7 0 v17∧
 J14 (v16.toList==v17.toList) h13)) (
 J14 false h13)))))) (
 (((0:Int)≤t6.1∧t6.1≤((e1.cap:Nat):Int))∧
 K ⟨aZ e1.a 0 e1.cap 2,t6.1.toNat-0,e1.cap-0⟩ h7))) (0,0) h4) h2) h0
noncomputable def CT:Ann:=.node .nil (.node .nil (.node .nil (.node .nil (.node (.node .nil (.loop [(4,.c (.int .i64)),(13,.c (.int .i64))] (.node .nil (.node .nil (.join [(4,.c (.int .i64))] (.node .nil (.node (.join [(33,.c .bool)] .nil .nil) .nil)) .nil))))) .nil))))
theorem CA(x0:SliceV){K:cT [.c .slice]→ad→Prop}{h0:ad}(h:uY x0 K h0):HC PG nU [.slice x0.a x0.len x0.cap] [.c .slice] K h0:=dL CT Tryz.func123 Tryz.call123 rfl rfl (by kernel_rfl) h
def xz(x0:ByteArray)(x1:Bool)(x2:ByteArray)(x3:SliceV)(K:(Option Addr)→ad→Prop)(h0:ad):Prop:=
 At (hnew h0 [.string x0,.bool x1,.string (⟨#[]⟩:ByteArray),.slice none 0 0,.pointer none] fp) (fun h1=>
 Join (fun(t5:Unit) h6=>
 LoopP (fun I7 (t8:Int) h9=>
 CondP (decide (t8<(x3.len:Int))) (
 Join (fun(t21:Unit) h22=>
 I7 (IntKind.wrap .i64 (t8+1)) h22) (fun J10=>
 (cn t8 x3.len∧∃a11,x3.a=some a11∧
 ∃v12,bR h9 a11 (t8.toNat*1) (.pointer v12)∧
 CondP (!(v12.isNone)) (
 ∃a13,some (aC h0)=some a13∧
 ∃v14:SliceV,bU h9 a13 3 v14∧
 At (hnew h9 [.pointer v12] bS) (fun h15=>
 ∃xs16,SRow h15 (some (aC h9)) (1*1) xs16∧
 AppP (some [.pointer none]) 1 8 bS v14.a v14.len v14.cap 1 xs16 h15 (fun s17 h18=>
 ∃a19,some (aC h0)=some a19∧
 (d6 h18 (adr a19 3) (.slice s17.a s17.len s17.cap) (fun h20=>
 J10 () h20))))) (
 J10 () h9)))) (
 K (some (aC h0)) h9)) 0 h6) (fun J2=>
 CondP x1 (
 ∃a3,some (aC h0)=some a3∧
 (d6 h1 (adr a3 2) (.string x2) (fun h4=>
 J2 () h4))) (
 J2 () h1)))
noncomputable def EZ:Ann:=.node .nil (.node .nil (.join [] .nil (.node (.node .nil (.loop [(23,.c (.int .i64))] (.node .nil (.node .nil (.join [] .nil .nil))))) .nil)))
theorem EN(x0:ByteArray)(x1:Bool)(x2:ByteArray)(x3:SliceV){K:cT [.c .ptr]→ad→Prop}{h0:ad}(h:xz x0 x1 x2 x3 K h0):HC PG pe (Lv x0 x1 x2 x3) [.c .ptr] K h0:=dL EZ Tryz.func124 Tryz.call124 rfl rfl (by kernel_rfl) h
def xH(x0:SliceV)(x1:Int)(K:(SliceV)→ad→Prop)(h0:ad):Prop:=
 At (hnew h0 [.int .i64 x1] ko) (fun h1=>
 LoopP (fun I2 (t3:SliceV×SliceV) h4=>
 CondP (decide ((t3.1.len:Int)>(0:Int))) (
 (cn 0 t3.1.len∧∃a5,t3.1.a=some a5∧
 ∃v6,aL h4 (adr a5 ((0:Int).toNat*2)) 0 v6∧
 ∃v7,aO h4 (aC h0)=some (.int .i64 v7)∧
 ∃b8,(0:Int)≤v7∧v6[v7.toNat]? =some b8∧
 At (hnew h4 [.int .u8 0] ci) (fun h9=>
 (aO h9 (aC h0)=some (.int .i64 v7)∧
 (aL h9 (adr a5 ((0:Int).toNat*2)) 0 v6∧
 (Wr h9 (aC h4)∧
 At (hset h9 (aC h4) (.int .u8 (b8.toNat:Int))) (fun h10=>
 HC PG dY [.slice t3.1.a t3.1.len t3.1.cap,.func (.func tF) #[] #[.pointer (some (aC h0)),.pointer (some (aC h4))]] bV (fun(e11:Int) h12=>
 Join (fun(t14:Int) h15=>
 Join (fun(t24:SliceV) h25=>
 (((0:Int)≤t14∧t14≤((t3.1.len:Nat):Int))∧
 I2 (⟨aZ t3.1.a t14.toNat t3.1.cap 2,t3.1.len-t14.toNat,t3.1.cap-t14.toNat⟩,t24) h25)) (fun J16=>
 (((0:Int)≤t14∧t14≤((t3.1.cap:Nat):Int))∧
 ∃v17,aO h15 (aC h0)=some (.int .i64 v17)∧
 HC PG pJ [.slice (aZ t3.1.a 0 t3.1.cap 2) (t14.toNat-0) (t3.1.cap-0),.int .i64 v17] [.c .ptr] (fun(e18:Option Addr) h19=>
 At (hnew h19 [.pointer e18] bS) (fun h20=>
 ∃xs21,SRow h20 (some (aC h19)) (1*1) xs21∧
 AppP (some [.pointer none]) 1 8 bS t3.2.a t3.2.len t3.2.cap 1 xs21 h20 (fun s22 h23=>
 J16 s22 h23))) h15))) (fun J13=>
 CondP (decide (e11<(0:Int))) (
 J13 (t3.1.len:Int) h12) (
 J13 e11 h12))) h10))))))) (
 K t3.2 h4)) (x0,⟨none,0,0⟩) h1)
noncomputable def E6:Ann:=.node .nil (.node .nil (.node (.loop [(0,.c .slice),(5,.c .slice)] (.node .nil (.node .nil (.node .nil (.join [(7,.c (.int .i64))] .nil (.join [(5,.c .slice)] .nil .nil)))))) .nil))
theorem EW(x0:SliceV)(x1:Int){K:cT [.c .slice]→ad→Prop}{h0:ad}(h:xH x0 x1 K h0):HC PG pi (M8 x0 x1) [.c .slice] K h0:=dL E6 Tryz.func125 Tryz.call125 rfl rfl (by kernel_rfl) h
def qr(x0:Int×Int×Int)(x1:ByteArray)(K:(Int)→ad→Prop)(h0:ad):Prop:=
 At (hnew h0 (uJ x0) cH) (fun h1=>
 ∃v2,eB h1 (adr (aC h0) 0) 0 v2∧
 ∃v3,eB h1 (adr (aC h0) 0) 1 v3∧
 ∃v4,ar h1 h0 2 v4∧
 HC PG yf [PM v2 v3,.string x1] is (fun(e5:Int) h6=>
 (ar h6 h0 2 v4∧
 Bd (IntKind.wrap .u64 (af (IntKind.bits .u64) e5&&&af (IntKind.bits .u64) v4).toNat:Int) (fun n7=>
 K n7 h6))) h1)
theorem xi(x0:Int×Int×Int)(x1:ByteArray){K:cT is→ad→Prop}{h0:ad}(h:qr x0 x1 K h0):HC PG gb [FE x0,.string x1] is K h0:=dL .nil Tryz.func126 Tryz.call126 rfl rfl (by kernel_rfl) h
def rZ(x0:SliceV)(x1:Int)(K:(Option Addr)→ad→Prop)(h0:ad):Prop:=
 At (hnew h0 [.int .i64 x1] ko) (fun h1=>
 ∃v2,aO h1 (aC h0)=some (.int .i64 v2)∧
 CondP (v2==(13:Int)) (
 HC PG qN [] [.c .ptr] (fun(e3:Option Addr) h4=>
 LoopP (fun I5 (t6:(Option Addr)×Int) h7=>
 CondP (decide (t6.2<(x0.len:Int))) (
 (cn t6.2 x0.len∧∃a8,x0.a=some a8∧
 ∃v9,aL h7 (adr a8 (t6.2.toNat*3)) 0 v9∧
 ∃v10,aL h7 (adr a8 (t6.2.toNat*3)) 1 v10∧
 ∃v11,eB h7 (adr a8 (t6.2.toNat*3)) 2 v11∧
 nv h7 GR aG (um v9 v10 v11) (fun h13=>
 ∃v14,aL h13 (adr (aC h7) 0) 0 v14∧
 ∃v15,aL h13 (adr (aC h7) 0) 1 v15∧
 HC PG oI [.pointer t6.1,.pointer none,xM v14 v15] [.c .ptr] (fun(e16:Option Addr) h17=>
 I5 (e16,IntKind.wrap .i64 (t6.2+1)) h17) h13))) (
 K t6.1 h7)) (e3,0) h4) h1) (
 At (hnew h1 [Value.nilFunc] mA) (fun h18=>
 (Wr h18 (aC h1)∧
 At (hset h18 (aC h1) (.func (.func pI) #[] #[.pointer (some (aC h0))])) (fun h19=>
 HC PG dP [.slice x0.a x0.len x0.cap] [.c .slice] (fun(e20:SliceV) h21=>
 HC PG cy [.slice e20.a e20.len e20.cap,.func (.func pH) #[] #[.pointer (some (aC h1))]] [] (fun(e22:Unit) h23=>
 HC PG ph [] [.c .ptr] (fun(e24:Option Addr) h25=>
 LoopP (fun I26 (t27:SliceV×(Option Addr)) h28=>
 CondP (decide ((t27.1.len:Int)>(0:Int))) (
 ∃v29,aO h28 (aC h1)=some (v29)∧
 (cn 0 t27.1.len∧∃a30,t27.1.a=some a30∧
 ∃v31,aL h28 (adr a30 ((0:Int).toNat*3)) 0 v31∧
 ∃v32,aL h28 (adr a30 ((0:Int).toNat*3)) 1 v32∧
 ∃v33,eB h28 (adr a30 ((0:Int).toNat*3)) 2 v33∧
 ((HV PG v29 [qE v31 v32 v33] bV (fun(e34:Int) h35=>
 At (hnew h35 [.int .i64 0] ko) (fun h36=>
 (Wr h36 (aC h35)∧
 At (hset h36 (aC h35) (.int .i64 e34)) (fun h37=>
 HC PG cI [.slice t27.1.a t27.1.len t27.1.cap,.func (.func pG) #[] #[.pointer (some (aC h1)),.pointer (some (aC h35))]] bV (fun(e38:Int) h39=>
 Join (fun(t41:Int) h42=>
 Join (fun(t56:Option Addr) h57=>
 (((0:Int)≤t41∧t41≤((t27.1.len:Nat):Int))∧
 I26 (⟨aZ t27.1.a t41.toNat t27.1.cap 3,t27.1.len-t41.toNat,t27.1.cap-t41.toNat⟩,t56) h57)) (fun J43=>
 CondP (t41==(1:Int)) (
 ∃v44,aO h42 (aC h35)=some (.int .i64 v44)∧
 (cn 0 t27.1.len∧∃a45,t27.1.a=some a45∧
 ∃v46,bR h42 (adr (adr a45 ((0:Int).toNat*3)) 0) 0 (.string v46)∧
 ∃v47,bR h42 (adr (adr a45 ((0:Int).toNat*3)) 0) 1 (.string v47)∧
 HC PG iS [.pointer t27.2,.pointer none,.int .i64 v44,xM v46 v47] [.c .ptr] (fun(e48:Option Addr) h49=>
 J43 e48 h49) h42)) (
 ∃v50,aO h42 (aC h35)=some (.int .i64 v50)∧
 (((0:Int)≤t41∧t41≤((t27.1.cap:Nat):Int))∧
 ∃v51,aO h42 (aC h0)=some (.int .i64 v51)∧
 HC PG mY [.slice (aZ t27.1.a 0 t27.1.cap 3) (t41.toNat-0) (t27.1.cap-0),.int .i64 (IntKind.wrap .i64 (v51+1))] [.c .ptr] (fun(e52:Option Addr) h53=>
 (aO h53 (aC h0)=some (.int .i64 v51)∧
 (aO h53 (aC h35)=some (.int .i64 v50)∧
 HC PG jw (Lu t27.2 none v50 e52) [.c .ptr] (fun(e54:Option Addr) h55=>
 (aO h55 (aC h0)=some (.int .i64 v51)∧
 J43 e54 h55)) h53))) h42)))) (fun J40=>
 CondP (decide (e38<(0:Int))) (
 J40 (t27.1.len:Int) h39) (
 J40 e38 h39))) h37)))) h28)∧
 At (hnew h28 [.int .i64 0] ko) (fun h58=>
 ((aL h58 (adr a30 ((0:Int).toNat*3)) 0 v31∧aL h58 (adr a30 ((0:Int).toNat*3)) 1 v32∧eB h58 (adr a30 ((0:Int).toNat*3)) 2 v33)∧
 (aO h58 (aC h1)=some (v29)∧
 HV PG v29 [qE v31 v32 v33] bV (fun(e59:Int) h60=>
 (Wr h60 (aC h28)∧
 At (hset h60 (aC h28) (.int .i64 e59)) (fun h61=>
 HC PG cI [.slice t27.1.a t27.1.len t27.1.cap,.func (.func pG) #[] #[.pointer (some (aC h1)),.pointer (some (aC h28))]] bV (fun(e62:Int) h63=>
 Join (fun(t65:Int) h66=>
 Join (fun(t80:Option Addr) h81=>
 (((0:Int)≤t65∧t65≤((t27.1.len:Nat):Int))∧
 I26 (⟨aZ t27.1.a t65.toNat t27.1.cap 3,t27.1.len-t65.toNat,t27.1.cap-t65.toNat⟩,t80) h81)) (fun J67=>
 CondP (t65==(1:Int)) (
 ∃v68,aO h66 (aC h28)=some (.int .i64 v68)∧
 (cn 0 t27.1.len∧∃a69,t27.1.a=some a69∧
 ∃v70,bR h66 (adr (adr a69 ((0:Int).toNat*3)) 0) 0 (.string v70)∧
 ∃v71,bR h66 (adr (adr a69 ((0:Int).toNat*3)) 0) 1 (.string v71)∧
 HC PG iS [.pointer t27.2,.pointer none,.int .i64 v68,xM v70 v71] [.c .ptr] (fun(e72:Option Addr) h73=>
 J67 e72 h73) h66)) (
 ∃v74,aO h66 (aC h28)=some (.int .i64 v74)∧
 (((0:Int)≤t65∧t65≤((t27.1.cap:Nat):Int))∧
 ∃v75,aO h66 (aC h0)=some (.int .i64 v75)∧
 HC PG mY [.slice (aZ t27.1.a 0 t27.1.cap 3) (t65.toNat-0) (t27.1.cap-0),.int .i64 (IntKind.wrap .i64 (v75+1))] [.c .ptr] (fun(e76:Option Addr) h77=>
 (aO h77 (aC h0)=some (.int .i64 v75)∧
 (aO h77 (aC h28)=some (.int .i64 v74)∧
 HC PG jw (Lu t27.2 none v74 e76) [.c .ptr] (fun(e78:Option Addr) h79=>
 (aO h79 (aC h0)=some (.int .i64 v75)∧
 J67 e78 h79)) h77))) h66)))) (fun J64=>
 CondP (decide (e62<(0:Int))) (
 J64 (t27.1.len:Int) h63) (
 J64 e62 h63))) h61))) h58)))))) (
 K t27.2 h28)) (e20,e24) h25) h23) h21) h19)))))
noncomputable def E5:Ann:=.node .nil (.node (.node .nil (.node (.node .nil (.node (.node .nil (.loop [(5,.c .ptr),(17,.c (.int .i64))] .nil)) .nil)) .nil)) (.node .nil (.node .nil (.node .nil (.node .nil (.node (.loop [(0,.c .slice),(9,.c .ptr)] (.node .nil (.node .nil (.node .nil (.join [(11,.c (.int .i64))] .nil (.join [(9,.c .ptr)] .nil .nil)))))) .nil))))))
theorem xw(x0:SliceV)(x1:Int){K:cT [.c .ptr]→ad→Prop}{h0:ad}(h:rZ x0 x1 K h0):HC PG mY (M8 x0 x1) [.c .ptr] K h0:=dL E5 Tryz.func127 Tryz.call127 rfl rfl (by kernel_rfl) h
def pU(x0:Option Addr)(K:(ByteArray×Bool)→ad→Prop)(h0:ad):Prop:=
 CondP x0.isNone (
 K ((⟨#[]⟩:ByteArray),false) h0) (
 ∃a1,x0=some a1∧
 ∃v2,aL h0 a1 2 v2∧
 ∃a3,x0=some a3∧
 ∃v4,hH h0 a3 1 v4∧
 K (v2,v4) h0)
theorem vW(x0:Option Addr){K:cT Ks→ad→Prop}{h0:ad}(h:pU x0 K h0):HC PG jt [.pointer x0] Ks K h0:=dL .nil Tryz.func128 Tryz.call128 rfl rfl (by kernel_rfl) h
def qs(x0:Option Addr)(K:(SliceV)→ad→Prop)(h0:ad):Prop:=
 CondP x0.isNone (
 K ⟨none,0,0⟩ h0) (
 ∃a1,x0=some a1∧
 ∃v2:SliceV,bU h0 a1 3 v2∧
 HC PG dQ [.slice v2.a v2.len v2.cap] [.c .slice] (fun(e3:SliceV) h4=>
 K e3 h4) h0)
theorem xj(x0:Option Addr){K:cT [.c .slice]→ad→Prop}{h0:ad}(h:qs x0 K h0):HC PG j3 [.pointer x0] [.c .slice] K h0:=dL .nil Tryz.func129 Tryz.call129 rfl rfl (by kernel_rfl) h
def m5(x0:Option Addr)(K:(SliceV)→ad→Prop)(h0:ad):Prop:=
 CondP x0.isNone (
 K ⟨none,0,0⟩ h0) (
 ∃a1,x0=some a1∧
 ∃v2:SliceV,bU h0 (adr a1 0) 2 v2∧
 HC PG cU [.slice v2.a v2.len v2.cap] [.c .slice] (fun(e3:SliceV) h4=>
 K e3 h4) h0)
theorem qm(x0:Option Addr){K:cT [.c .slice]→ad→Prop}{h0:ad}(h:m5 x0 K h0):HC PG gc [.pointer x0] [.c .slice] K h0:=dL .nil Tryz.func130 Tryz.call130 rfl rfl (by kernel_rfl) h
def nI(x0:Option Addr)(K:(SliceV)→ad→Prop)(h0:ad):Prop:=
 CondP x0.isNone (
 K ⟨none,0,0⟩ h0) (
 ∃a1,x0=some a1∧
 ∃v2:SliceV,bU h0 (adr a1 0) 3 v2∧
 HC PG dh [.slice v2.a v2.len v2.cap] [.c .slice] (fun(e3:SliceV) h4=>
 K e3 h4) h0)
theorem rj(x0:Option Addr){K:cT [.c .slice]→ad→Prop}{h0:ad}(h:nI x0 K h0):HC PG kW [.pointer x0] [.c .slice] K h0:=dL .nil Tryz.func131 Tryz.call131 rfl rfl (by kernel_rfl) h
def oZ(x0:Option Addr)(x1:SliceV)(K:(SliceV)→ad→Prop)(h0:ad):Prop:=
 ∃a1,x0=some a1∧
 ∃v2,aL h0 a1 0 v2∧
 HC PG kV (xS x1 v2) [.c .slice] (fun(e3:SliceV) h4=>
 Join (fun(t20:SliceV) h21=>
 Join (fun(t32:SliceV) h33=>
 ∃a34,x0=some a34∧
 ∃v35:SliceV,bU h33 a34 3 v35∧
 LoopP (fun I36 (t37:SliceV×Int) h38=>
 CondP (decide (t37.2<(v35.len:Int))) (
 (cn t37.2 v35.len∧∃a39,v35.a=some a39∧
 ∃v40,bR h38 a39 (t37.2.toNat*1) (.pointer v40)∧
 HC PG iQ (OO v40 t37.1) [.c .slice] (fun(e41:SliceV) h42=>
 I36 (e41,IntKind.wrap .i64 (t37.2+1)) h42) h38)) (
 K t37.1 h38)) (t32,0) h33) (fun J22=>
 ∃a23,x0=some a23∧
 ∃v24:SliceV,bU h21 a23 3 v24∧
 ∃a25,x0=some a25∧
 ∃v26:SliceV,bU h21 a25 3 v26∧
 ((0:Int)≤(8:Int)∧
 Bd (dE (v26.len:Int) (2^(min (8:Int).toNat (IntKind.bits .i64))):Int) (fun n27=>
 At (hnew h21 (Nm (IntKind.wrap .u8 (v24.len:Int)) (IntKind.wrap .u8 n27)) ci) (fun h28=>
 (bU h28 a25 3 v26∧
 (bU h28 a23 3 v24∧
 ∃xs29,SRow h28 (some (aC h21)) (2*1) xs29∧
 AppP (some [.int .u8 0]) 1 1 ci t20.a t20.len t20.cap 2 xs29 h28 (fun s30 h31=>
 (bU h31 a25 3 v26∧
 (bU h31 a23 3 v24∧
 J22 s30 h31)))))))))) (fun J5=>
 ∃a6,x0=some a6∧
 ∃v7,hH h4 a6 1 v7∧
 CondP v7 (
 ∃a8,x0=some a8∧
 ∃v9,aL h4 a8 2 v9∧
 At (hnew h4 [.int .u8 1] ci) (fun h10=>
 (aL h10 a8 2 v9∧
 ∃xs11,SRow h10 (some (aC h4)) (1*1) xs11∧
 AppP (some [.int .u8 0]) 1 1 ci e3.a e3.len e3.cap 1 xs11 h10 (fun s12 h13=>
 (aL h13 a8 2 v9∧
 HC PG kV (xS s12 v9) [.c .slice] (fun(e14:SliceV) h15=>
 J5 e14 h15) h13))))) (
 At (hnew h4 [.int .u8 0] ci) (fun h16=>
 ∃xs17,SRow h16 (some (aC h4)) (1*1) xs17∧
 AppP (some [.int .u8 0]) 1 1 ci e3.a e3.len e3.cap 1 xs17 h16 (fun s18 h19=>
 J5 s18 h19))))) h0
noncomputable def uA:Ann:=.node .nil (.node .nil (.join [(1,.c .slice)] .nil (.join [(1,.c .slice)] .nil (.node (.node .nil (.loop [(1,.c .slice),(49,.c (.int .i64))] .nil)) .nil))))
theorem uw(x0:Option Addr)(x1:SliceV){K:cT [.c .slice]→ad→Prop}{h0:ad}(h:oZ x0 x1 K h0):HC PG iQ (OO x0 x1) [.c .slice] K h0:=dL uA Tryz.func132 Tryz.call132 rfl rfl (by kernel_rfl) h
def tN(x0:SliceV)(x1:Option Addr)(x2:Int)(K:(SliceV)→ad→Prop)(h0:ad):Prop:=
 HC PG fX [.pointer x1] [.c .bool] (fun(e1:Bool) h2=>
 CondP e1 (
 At (hnew h2 [.int .u8 1] ci) (fun h3=>
 ∃xs4,SRow h3 (some (aC h2)) (1*1) xs4∧
 AppP (some [.int .u8 0]) 1 1 ci x0.a x0.len x0.cap 1 xs4 h3 (fun s5 h6=>
 HC PG oJ [.pointer x1] bV (fun(e7:Int) h8=>
 HC PG kF (JR s5 (IntKind.wrap .u64 e7) 2) [.c .slice] (fun(e9:SliceV) h10=>
 HC PG gc [.pointer x1] [.c .slice] (fun(e11:SliceV) h12=>
 HC PG nT (GO e9 e11) [.c .slice] (fun(e13:SliceV) h14=>
 K e13 h14) h12) h10) h8) h6))) (
 Join (fun(t28:SliceV) h29=>
 HC PG gc [.pointer x1] [.c .slice] (fun(e30:SliceV) h31=>
 HC PG nT (GO t28 e30) [.c .slice] (fun(e32:SliceV) h33=>
 CondP (x2==(13:Int)) (
 K e32 h33) (
 HC PG kW [.pointer x1] [.c .slice] (fun(e34:SliceV) h35=>
 LoopP (fun I36 (t37:SliceV×Int) h38=>
 CondP (decide (t37.2<(e34.len:Int))) (
 (cn t37.2 e34.len∧∃a39,e34.a=some a39∧
 ∃v40,bR h38 a39 (t37.2.toNat*1) (.pointer v40)∧
 HC PG qf (Nn t37.1 v40 (IntKind.wrap .i64 (x2+1))) [.c .slice] (fun(e41:SliceV) h42=>
 I36 (e41,IntKind.wrap .i64 (t37.2+1)) h42) h38)) (
 K t37.1 h38)) (e32,0) h35) h33)) h31) h29) (fun J15=>
 At (hnew h2 [.int .u8 0] ci) (fun h16=>
 ∃xs17,SRow h16 (some (aC h2)) (1*1) xs17∧
 AppP (some [.int .u8 0]) 1 1 ci x0.a x0.len x0.cap 1 xs17 h16 (fun s18 h19=>
 HC PG iY [.pointer x1] mG (fun(e20:Int) h21=>
 HC PG kF (JR s18 (IntKind.wrap .u64 e20) 4) [.c .slice] (fun(e22:SliceV) h23=>
 HC PG gd [.pointer x1] mG (fun(e24:Int) h25=>
 HC PG kF (JR e22 (IntKind.wrap .u64 e24) 4) [.c .slice] (fun(e26:SliceV) h27=>
 J15 e26 h27) h25) h23) h21) h19))))) h0
noncomputable def GH:Ann:=.node .nil (.node .nil (.join [(0,.c .slice)] .nil (.node .nil (.node .nil (.node (.node .nil (.loop [(0,.c .slice),(42,.c (.int .i64))] .nil)) .nil)))))
theorem za(x0:SliceV)(x1:Option Addr)(x2:Int){K:cT [.c .slice]→ad→Prop}{h0:ad}(h:tN x0 x1 x2 K h0):HC PG qf (Nn x0 x1 x2) [.c .slice] K h0:=dL GH Tryz.func133 Tryz.call133 rfl rfl (by kernel_rfl) h
def BI(x0:ByteArray)(K:(SliceV)→ad→Prop)(h0:ad):Prop:=
 HC PG pu [.int .i64 (x0.size:Int)] [.c .slice] (fun(e1:SliceV) h2=>
 ByP ci x0 h2 (fun c3 h4=>
 ∃xs5,SRow h4 (some (aC h2)) (x0.size*1) xs5∧
 AppP (some [.int .u8 0]) 1 1 ci e1.a e1.len e1.cap x0.size xs5 h4 (fun s6 h7=>
 K s6 h7))) h0
theorem Iu(x0:ByteArray){K:cT [.c .slice]→ad→Prop}{h0:ad}(h:BI x0 K h0):HC PG nF [.string x0] [.c .slice] K h0:=dL .nil Tryz.func134 Tryz.call134 rfl rfl (by kernel_rfl) h
def DQ(x0:Int)(K:(SliceV)→ad→Prop)(h0:ad):Prop:=
 ((256:Int)≠0∧
 At (hnew h0 (Nm (IntKind.wrap .u8 x0) (IntKind.wrap .u8 (IntKind.wrap .i64 (kP x0 256)))) ci) (fun h1=>
 K ⟨some (aC h0),2,2⟩ h1))
theorem KZ(x0:Int){K:cT [.c .slice]→ad→Prop}{h0:ad}(h:DQ x0 K h0):HC PG pu [.int .i64 x0] [.c .slice] K h0:=dL .nil Tryz.func135 Tryz.call135 rfl rfl (by kernel_rfl) h
def xA(x0:SliceV)(K:(SliceV)→ad→Prop)(h0:ad):Prop:=
 LoopP (fun I1 (t2:SliceV×Int) h3=>
 CondP (decide (t2.2<(x0.len:Int))) (
 LoopP (fun I4 (t5:Int) h6=>
 Join (fun(t14:Bool) h15=>
 CondP t14 (
 I4 (IntKind.wrap .i64 (t5+1)) h15) (
 (((0:Int)≤t5∧t5≤((x0.cap:Nat):Int))∧
 (((0:Int)≤t2.2∧t2.2≤((t5.toNat:Nat):Int))∧
 HC PG rO [.slice (aZ x0.a t2.2.toNat x0.cap 2) (t5.toNat-t2.2.toNat) (x0.cap-t2.2.toNat)] [.c .ptr] (fun(e16:Option Addr) h17=>
 At (hnew h17 [.pointer e16] pa) (fun h18=>
 ∃xs19,SRow h18 (some (aC h17)) (1*1) xs19∧
 AppP (some [.pointer none]) 1 8 pa t2.1.a t2.1.len t2.1.cap 1 xs19 h18 (fun s20 h21=>
 I1 (s20,t5) h21))) h15)))) (fun J7=>
 CondP (decide (t5<(x0.len:Int))) (
 (cn t5 x0.len∧∃a8,x0.a=some a8∧
 ∃v9,aL h6 (adr a8 (t5.toNat*2)) 0 v9∧
 ∃b10,(0:Int)≤(0:Int)∧v9[(0:Int).toNat]? =some b10∧
 (cn t2.2 x0.len∧∃a11,x0.a=some a11∧
 ∃v12,aL h6 (adr a11 (t2.2.toNat*2)) 0 v12∧
 ∃b13,(0:Int)≤(0:Int)∧v12[(0:Int).toNat]? =some b13∧
 J7 ((b10.toNat:Int)==(b13.toNat:Int)) h6))) (
 J7 false h6))) t2.2 h3) (
 K t2.1 h3)) (⟨none,0,0⟩,0) h0
noncomputable def E0:Ann:=.node .nil (.node .nil (.node (.node .nil (.loop [(3,.c .slice),(4,.c (.int .i64))] (.node .nil (.node .nil (.node (.loop [(5,.c (.int .i64))] (.node (.join [(29,.c .bool)] .nil .nil) .nil)) .nil))))) .nil))
theorem EO(x0:SliceV){K:cT [.c .slice]→ad→Prop}{h0:ad}(h:xA x0 K h0):HC PG pf [.slice x0.a x0.len x0.cap] [.c .slice] K h0:=dL E0 Tryz.func136 Tryz.call136 rfl rfl (by kernel_rfl) h
def zk(x0:SliceV)(K:(SliceV)→ad→Prop)(h0:ad):Prop:=
 LoopP (fun I1 (t2:SliceV×Int) h3=>
 CondP (decide (t2.2<(x0.len:Int))) (
 Join (fun(t22:SliceV) h23=>
 I1 (t22,IntKind.wrap .i64 (t2.2+1)) h23) (fun J4=>
 (cn t2.2 x0.len∧∃a5,x0.a=some a5∧
 ∃v6,aL h3 (adr a5 (t2.2.toNat*2)) 0 v6∧
 ∃v7,aL h3 (adr a5 (t2.2.toNat*2)) 1 v7∧
 nv h3 jm bG (im v6 v7) (fun h9=>
 ∃v10,aF h9 h3 0 v10∧
 ∃v11,aF h9 h3 1 v11∧
 HC PG nF [.string v10] [.c .slice] (fun(e12:SliceV) h13=>
 (aF h13 h3 1 v11∧
 ∃xs14,SRow h13 e12.a (e12.len*1) xs14∧
 AppP (some [.int .u8 0]) 1 1 ci t2.1.a t2.1.len t2.1.cap e12.len xs14 h13 (fun s15 h16=>
 (aF h16 h3 1 v11∧
 HC PG nF [.string v11] [.c .slice] (fun(e17:SliceV) h18=>
 ∃xs19,SRow h18 e17.a (e17.len*1) xs19∧
 AppP (some [.int .u8 0]) 1 1 ci s15.a s15.len s15.cap e17.len xs19 h18 (fun s20 h21=>
 J4 s20 h21)) h16)))) h9)))) (
 K t2.1 h3)) (⟨none,0,0⟩,0) h0
noncomputable def GL:Ann:=.node .nil (.node .nil (.node (.node .nil (.loop [(3,.c .slice),(8,.c (.int .i64))] (.node .nil (.node .nil (.join [(3,.c .slice)] .nil .nil))))) .nil))
theorem Gv(x0:SliceV){K:cT [.c .slice]→ad→Prop}{h0:ad}(h:zk x0 K h0):HC PG oo [.slice x0.a x0.len x0.cap] [.c .slice] K h0:=dL GL Tryz.func137 Tryz.call137 rfl rfl (by kernel_rfl) h
def BL(x0:Int)(K:(SliceV)→ad→Prop)(h0:ad):Prop:=
 ((256:Int)≠0∧
 ((65536:Int)≠0∧
 ((16777216:Int)≠0∧
 At (hnew h0 (PK (IntKind.wrap .u8 x0) (IntKind.wrap .u8 (IntKind.wrap .u32 (kP x0 256))) (IntKind.wrap .u8 (IntKind.wrap .u32 (kP x0 65536))) (IntKind.wrap .u8 (IntKind.wrap .u32 (kP x0 16777216)))) ci) (fun h1=>
 K ⟨some (aC h0),4,4⟩ h1))))
theorem Ix(x0:Int){K:cT [.c .slice]→ad→Prop}{h0:ad}(h:BL x0 K h0):HC PG rQ [.int .u32 x0] [.c .slice] K h0:=dL .nil Tryz.func138 Tryz.call138 rfl rfl (by kernel_rfl) h
def BN(x0:Int×Int×Int)(x1:ByteArray)(K:(Int)→ad→Prop)(h0:ad):Prop:=
 At (hnew h0 (uJ x0) mI) (fun h1=>
 ∃v2,ar h1 h0 0 v2∧
 ∃v3,ar h1 h0 1 v3∧
 ∃v4,ar h1 h0 2 v4∧
 HC PG yh (ON v2 v3 x1) is (fun(e5:Int) h6=>
 (ar h6 h0 2 v4∧
 Bd (IntKind.wrap .u64 (af (IntKind.bits .u64) e5&&&af (IntKind.bits .u64) v4).toNat:Int) (fun n7=>
 K n7 h6))) h1)
theorem Iy(x0:Int×Int×Int)(x1:ByteArray){K:cT is→ad→Prop}{h0:ad}(h:BN x0 x1 K h0):HC PG vH [FE x0,.string x1] is K h0:=dL .nil Tryz.func139 Tryz.call139 rfl rfl (by kernel_rfl) h
def BM(x0:SliceV)(x1:SliceV)(x2:Int)(K:(Option Addr)→ad→Prop)(h0:ad):Prop:=
 CondP (x2==(13:Int)) (
 At (hnew h0 ((.bool true)::(.slice x0.a x0.len x0.cap)::(.int .i64 0)::(.int .i64 0)::(.int .i64 0)::(.int .i64 0)::(.int .i64 0)::(.int .i64 0)::(.int .i64 0)::(.int .i64 0)::(.int .i64 0)::(.int .i64 0)::(.int .i64 0)::(.int .i64 0)::(.int .i64 0)::(.int .i64 0)::(.int .i64 0)::(.int .i64 0)::(.int .i64 0)::(.int .i64 0)::(.int .i64 0)::(.int .i64 0)::(.int .i64 0)::(.int .i64 0)::(.int .i64 0)::(.int .i64 0)::(.int .i64 0)::(.int .i64 0)::(.int .i64 0)::(.int .i64 0)::(.int .i64 0)::(.int .i64 0)::(.int .i64 0)::(.int .i64 0)::(.string (⟨#[]⟩:ByteArray))::(.string (⟨#[]⟩:ByteArray))::(.string (⟨#[]⟩:ByteArray))::(.string (⟨#[]⟩:ByteArray))::(.string (⟨#[]⟩:ByteArray))::(.string (⟨#[]⟩:ByteArray))::(.string (⟨#[]⟩:ByteArray))::(.string (⟨#[]⟩:ByteArray))::(.string (⟨#[]⟩:ByteArray))::(.string (⟨#[]⟩:ByteArray))::(.string (⟨#[]⟩:ByteArray))::(.string (⟨#[]⟩:ByteArray))::(.string (⟨#[]⟩:ByteArray))::(.string (⟨#[]⟩:ByteArray))::(.string (⟨#[]⟩:ByteArray))::(.string (⟨#[]⟩:ByteArray))::(.string (⟨#[]⟩:ByteArray))::(.string (⟨#[]⟩:ByteArray))::(.string (⟨#[]⟩:ByteArray))::(.string (⟨#[]⟩:ByteArray))::(.string (⟨#[]⟩:ByteArray))::(.string (⟨#[]⟩:ByteArray))::(.string (⟨#[]⟩:ByteArray))::(.string (⟨#[]⟩:ByteArray))::(.string (⟨#[]⟩:ByteArray))::(.string (⟨#[]⟩:ByteArray))::(.string (⟨#[]⟩:ByteArray))::(.string (⟨#[]⟩:ByteArray))::(.string (⟨#[]⟩:ByteArray))::(.string (⟨#[]⟩:ByteArray))::(.string (⟨#[]⟩:ByteArray))::(.string (⟨#[]⟩:ByteArray))::(.string (⟨#[]⟩:ByteArray))::(.string (⟨#[]⟩:ByteArray))::(.string (⟨#[]⟩:ByteArray))::(.string (⟨#[]⟩:ByteArray))::(.string (⟨#[]⟩:ByteArray))::(.string (⟨#[]⟩:ByteArray))::(.string (⟨#[]⟩:ByteArray))::(.string (⟨#[]⟩:ByteArray))::(.string (⟨#[]⟩:ByteArray))::(.string (⟨#[]⟩:ByteArray))::(.string (⟨#[]⟩:ByteArray))::(.string (⟨#[]⟩:ByteArray))::(.string (⟨#[]⟩:ByteArray))::(.string (⟨#[]⟩:ByteArray))::(.string (⟨#[]⟩:ByteArray))::(.string (⟨#[]⟩:ByteArray))::(.string (⟨#[]⟩:ByteArray))::(.string (⟨#[]⟩:ByteArray))::(.string (⟨#[]⟩:ByteArray))::(.string (⟨#[]⟩:ByteArray))::(.string (⟨#[]⟩:ByteArray))::(.string (⟨#[]⟩:ByteArray))::(.string (⟨#[]⟩:ByteArray))::(.string (⟨#[]⟩:ByteArray))::(.string (⟨#[]⟩:ByteArray))::(.string (⟨#[]⟩:ByteArray))::(.string (⟨#[]⟩:ByteArray))::(.string (⟨#[]⟩:ByteArray))::(.string (⟨#[]⟩:ByteArray))::(.string (⟨#[]⟩:ByteArray))::(.string (⟨#[]⟩:ByteArray))::(.string (⟨#[]⟩:ByteArray))::(.pointer none)::(.pointer none)::(.pointer none)::(.pointer none)::(.pointer none)::(.pointer none)::(.pointer none)::(.pointer none)::(.pointer none)::(.pointer none)::(.pointer none)::(.pointer none)::(.pointer none)::(.pointer none)::(.pointer none)::(.pointer none)::(.pointer none)::(.pointer none)::(.pointer none)::(.pointer none)::(.pointer none)::(.pointer none)::(.pointer none)::(.pointer none)::(.pointer none)::(.pointer none)::(.pointer none)::(.pointer none)::(.pointer none)::(.pointer none)::(.pointer none)::(.pointer none):: []) gl) (fun h1=>
 K (some (aC h0)) h1)) (
 At (hnew h0 ((.bool false)::(.slice none 0 0)::(.int .i64 0)::(.int .i64 0)::(.int .i64 0)::(.int .i64 0)::(.int .i64 0)::(.int .i64 0)::(.int .i64 0)::(.int .i64 0)::(.int .i64 0)::(.int .i64 0)::(.int .i64 0)::(.int .i64 0)::(.int .i64 0)::(.int .i64 0)::(.int .i64 0)::(.int .i64 0)::(.int .i64 0)::(.int .i64 0)::(.int .i64 0)::(.int .i64 0)::(.int .i64 0)::(.int .i64 0)::(.int .i64 0)::(.int .i64 0)::(.int .i64 0)::(.int .i64 0)::(.int .i64 0)::(.int .i64 0)::(.int .i64 0)::(.int .i64 0)::(.int .i64 0)::(.int .i64 0)::(.string (⟨#[]⟩:ByteArray))::(.string (⟨#[]⟩:ByteArray))::(.string (⟨#[]⟩:ByteArray))::(.string (⟨#[]⟩:ByteArray))::(.string (⟨#[]⟩:ByteArray))::(.string (⟨#[]⟩:ByteArray))::(.string (⟨#[]⟩:ByteArray))::(.string (⟨#[]⟩:ByteArray))::(.string (⟨#[]⟩:ByteArray))::(.string (⟨#[]⟩:ByteArray))::(.string (⟨#[]⟩:ByteArray))::(.string (⟨#[]⟩:ByteArray))::(.string (⟨#[]⟩:ByteArray))::(.string (⟨#[]⟩:ByteArray))::(.string (⟨#[]⟩:ByteArray))::(.string (⟨#[]⟩:ByteArray))::(.string (⟨#[]⟩:ByteArray))::(.string (⟨#[]⟩:ByteArray))::(.string (⟨#[]⟩:ByteArray))::(.string (⟨#[]⟩:ByteArray))::(.string (⟨#[]⟩:ByteArray))::(.string (⟨#[]⟩:ByteArray))::(.string (⟨#[]⟩:ByteArray))::(.string (⟨#[]⟩:ByteArray))::(.string (⟨#[]⟩:ByteArray))::(.string (⟨#[]⟩:ByteArray))::(.string (⟨#[]⟩:ByteArray))::(.string (⟨#[]⟩:ByteArray))::(.string (⟨#[]⟩:ByteArray))::(.string (⟨#[]⟩:ByteArray))::(.string (⟨#[]⟩:ByteArray))::(.string (⟨#[]⟩:ByteArray))::(.string (⟨#[]⟩:ByteArray))::(.string (⟨#[]⟩:ByteArray))::(.string (⟨#[]⟩:ByteArray))::(.string (⟨#[]⟩:ByteArray))::(.string (⟨#[]⟩:ByteArray))::(.string (⟨#[]⟩:ByteArray))::(.string (⟨#[]⟩:ByteArray))::(.string (⟨#[]⟩:ByteArray))::(.string (⟨#[]⟩:ByteArray))::(.string (⟨#[]⟩:ByteArray))::(.string (⟨#[]⟩:ByteArray))::(.string (⟨#[]⟩:ByteArray))::(.string (⟨#[]⟩:ByteArray))::(.string (⟨#[]⟩:ByteArray))::(.string (⟨#[]⟩:ByteArray))::(.string (⟨#[]⟩:ByteArray))::(.string (⟨#[]⟩:ByteArray))::(.string (⟨#[]⟩:ByteArray))::(.string (⟨#[]⟩:ByteArray))::(.string (⟨#[]⟩:ByteArray))::(.string (⟨#[]⟩:ByteArray))::(.string (⟨#[]⟩:ByteArray))::(.string (⟨#[]⟩:ByteArray))::(.string (⟨#[]⟩:ByteArray))::(.string (⟨#[]⟩:ByteArray))::(.string (⟨#[]⟩:ByteArray))::(.string (⟨#[]⟩:ByteArray))::(.string (⟨#[]⟩:ByteArray))::(.string (⟨#[]⟩:ByteArray))::(.string (⟨#[]⟩:ByteArray))::(.string (⟨#[]⟩:ByteArray))::(.string (⟨#[]⟩:ByteArray))::(.pointer none)::(.pointer none)::(.pointer none)::(.pointer none)::(.pointer none)::(.pointer none)::(.pointer none)::(.pointer none)::(.pointer none)::(.pointer none)::(.pointer none)::(.pointer none)::(.pointer none)::(.pointer none)::(.pointer none)::(.pointer none)::(.pointer none)::(.pointer none)::(.pointer none)::(.pointer none)::(.pointer none)::(.pointer none)::(.pointer none)::(.pointer none)::(.pointer none)::(.pointer none)::(.pointer none)::(.pointer none)::(.pointer none)::(.pointer none)::(.pointer none)::(.pointer none):: []) gl) (fun h2=>
 LoopP (fun I3 (t4:Int) h5=>
 CondP (decide (t4<(32:Int))) (
 Join (fun(t65:Unit) h66=>
 I3 (IntKind.wrap .i64 (t4+1)) h66) (fun J6=>
 LoopP (fun I7 (t8:SliceV×SliceV×Int) h9=>
 CondP (decide (t8.2.2<(x0.len:Int))) (
 Join (fun(t47:SliceV×SliceV) h48=>
 I7 (t47.1,t47.2,IntKind.wrap .i64 (t8.2.2+1)) h48) (fun J10=>
 (cn t8.2.2 x0.len∧∃a11,x0.a=some a11∧
 ∃v12,aL h9 (adr a11 (t8.2.2.toNat*2)) 0 v12∧
 ∃v13,aL h9 (adr a11 (t8.2.2.toNat*2)) 1 v13∧
 nv h9 jm bG (im v12 v13) (fun h15=>
 (cn t8.2.2 x1.len∧∃a16,x1.a=some a16∧
 ∃v17,bR h15 a16 (t8.2.2.toNat*1) (.int .u64 v17)∧
 HC PG wT (oC v17 x2) bV (fun(e18:Int) h19=>
 CondP (e18==t4) (
 ∃v20,aF h19 h9 0 v20∧
 ∃v21,aF h19 h9 1 v21∧
 (cn t8.2.2 x1.len∧∃a22,x1.a=some a22∧
 ∃v23,bR h19 a22 (t8.2.2.toNat*1) (.int .u64 v23)∧
 ((At (hnew h19 (im v20 v21) bG) (fun h24=>
 (bR h24 a22 (t8.2.2.toNat*1) (.int .u64 v23)∧
 ((∃xs25,SRow h24 (some (aC h19)) (1*2) xs25∧
 AppP (some jm) 2 32 bG t8.1.a t8.1.len t8.1.cap 1 xs25 h24 (fun s26 h27=>
 (bR h27 a22 (t8.2.2.toNat*1) (.int .u64 v23)∧
 At (hnew h27 [.int .u64 v23] mH) (fun h28=>
 ∃xs29,SRow h28 (some (aC h27)) (1*1) xs29∧
 AppP (some [.int .u64 0]) 1 8 mH t8.2.1.a t8.2.1.len t8.2.1.cap 1 xs29 h28 (fun s30 h31=>
 J10 (s26,s30) h31)))))∧
 At (hnew h24 [.int .u64 v23] mH) (fun h32=>
 ∃xs33,SRow h32 (some (aC h19)) (1*2) xs33∧
 AppP (some jm) 2 32 bG t8.1.a t8.1.len t8.1.cap 1 xs33 h32 (fun s34 h35=>
 ∃xs36,SRow h35 (some (aC h24)) (1*1) xs36∧
 AppP (some [.int .u64 0]) 1 8 mH t8.2.1.a t8.2.1.len t8.2.1.cap 1 xs36 h35 (fun s37 h38=>
 J10 (s34,s37) h38)))))))∧
 At (hnew h19 [.int .u64 v23] mH) (fun h39=>
 ((aF h39 h9 0 v20∧aF h39 h9 1 v21)∧
 At (hnew h39 (im v20 v21) bG) (fun h40=>
 ∃xs41,SRow h40 (some (aC h39)) (1*2) xs41∧
 AppP (some jm) 2 32 bG t8.1.a t8.1.len t8.1.cap 1 xs41 h40 (fun s42 h43=>
 ∃xs44,SRow h43 (some (aC h19)) (1*1) xs44∧
 AppP (some [.int .u64 0]) 1 8 mH t8.2.1.a t8.2.1.len t8.2.1.cap 1 xs44 h43 (fun s45 h46=>
 J10 (s42,s45) h46)))))))) (
 J10 (t8.1,t8.2.1) h19)) h15))))) (
 Join (fun(t57:Unit) h58=>
 CondP (decide ((t8.1.len:Int)>(1:Int))) (
 ∃a59,some (aC h0)=some a59∧
 ∃a60,some (aC h0)=some a60∧
 HC PG wS (JS t8.1 t8.2.1 (IntKind.wrap .i64 (x2+1))) [.c .ptr] (fun(e61:Option Addr) h62=>
 (cn t4 32∧
 (d6 h62 (adr (adr a59 2) (t4.toNat*1)) (.int .i64 2) (fun h63=>
 (cn t4 32∧
 (d6 h63 (adr (adr a60 98) (t4.toNat*1)) (.pointer e61) (fun h64=>
 J6 () h64))))))) h58) (
 J6 () h58)) (fun J49=>
 CondP ((t8.1.len:Int)==(1:Int)) (
 (cn 0 t8.1.len∧∃a50,t8.1.a=some a50∧
 ∃v51,aL h9 (adr a50 ((0:Int).toNat*2)) 0 v51∧
 ∃v52,aL h9 (adr a50 ((0:Int).toNat*2)) 1 v52∧
 ∃a53,some (aC h0)=some a53∧
 (cn t4 32∧
 ∃a54,some (aC h0)=some a54∧
 (d6 h9 (adr (adr a53 2) (t4.toNat*1)) (.int .i64 1) (fun h55=>
 (cn t4 32∧
 (lC h55 (adr (adr a54 34) (t4.toNat*2)) (im v51 v52) (fun h56=>
 J49 () h56)))))))) (
 J49 () h9)))) (⟨none,0,0⟩,⟨none,0,0⟩,0) h5)) (
 K (some (aC h0)) h5)) 0 h2))
noncomputable def M4:Ann:=.node .nil (.node .nil (.node .nil (.node (.node .nil (.loop [(8,.c (.int .i64))] (.node .nil (.join [] (.node .nil (.node .nil (.node (.node .nil (.loop [(9,.c .slice),(10,.c .slice),(26,.c (.int .i64))] (.node .nil (.node .nil (.join [(9,.c .slice),(10,.c .slice)] .nil .nil))))) (.join [] .nil .nil)))) .nil)))) .nil)))
theorem Gx(x0:SliceV)(x1:SliceV)(x2:Int){K:cT [.c .ptr]→ad→Prop}{h0:ad}(h:BM x0 x1 x2 K h0):HC PG wS (JS x0 x1 x2) [.c .ptr] K h0:=dL M4 Tryz.func140 Tryz.call140 rfl rfl (by kernel_rfl) h
def pT(x0:Option Addr)(K:(Bool)→ad→Prop)(h0:ad):Prop:=
 ∃a1,x0=some a1∧
 ∃v2:SliceV,bU h0 a1 3 v2∧
 LoopP (fun I3 (t4:Int) h5=>
 CondP (decide (t4<(v2.len:Int))) (
 (cn t4 v2.len∧∃a6,v2.a=some a6∧
 ∃v7,bR h5 a6 (t4.toNat*1) (.pointer v7)∧
 Join (fun(t21:Bool) h22=>
 CondP t21 (
 K false h22) (
 I3 (IntKind.wrap .i64 (t4+1)) h22)) (fun J8=>
 ∃a9,v7=some a9∧
 ∃v10,aL h5 a9 0 v10∧
 CondP (v10.toList==(⟨#[]⟩:ByteArray).toList) (
 J8 true h5) (
 CondP (decide (t4>(0:Int))) (
 ∃a11,x0=some a11∧
 ∃v12:SliceV,bU h5 a11 3 v12∧
 (cn (IntKind.wrap .i64 (t4-1)) v12.len∧∃a13,v12.a=some a13∧
 ∃v14,bR h5 a13 ((IntKind.wrap .i64 (t4-1)).toNat*1) (.pointer v14)∧
 ∃a15,v14=some a15∧
 ∃v16,aL h5 a15 0 v16∧
 ∃b17,(0:Int)≤(0:Int)∧v16[(0:Int).toNat]? =some b17∧
 ∃a18,v7=some a18∧
 ∃v19,aL h5 a18 0 v19∧
 ∃b20,(0:Int)≤(0:Int)∧v19[(0:Int).toNat]? =some b20∧
 J8 (decide ((b17.toNat:Int)≥(b20.toNat:Int))) h5)) (
 J8 false h5))))) (
 K true h5)) 0 h0
noncomputable def we:Ann:=.node .nil (.node (.node .nil (.loop [(10,.c (.int .i64))] (.node .nil (.node .nil (.node (.node .nil (.join [(43,.c .bool)] .nil .nil)) .nil))))) .nil)
theorem vV(x0:Option Addr){K:cT [.c .bool]→ad→Prop}{h0:ad}(h:pT x0 K h0):HC PG js [.pointer x0] [.c .bool] K h0:=dL we Tryz.func141 Tryz.call141 rfl rfl (by kernel_rfl) h
def eC(x0:SliceV)(x1:Value)(K:(Bool)→ad→Prop)(h0:ad):Prop:=
 HC PG eN [.slice x0.a x0.len x0.cap,x1] bV (fun(e1:Int) h2=>
 K (decide (e1≥(0:Int))) h2) h0
theorem hE(x0:SliceV)(x1:Value){K:cT [.c .bool]→ad→Prop}{h0:ad}(h:eC x0 x1 K h0):HC PG cB [.slice x0.a x0.len x0.cap,x1] [.c .bool] K h0:=dL .nil Tryz.func142 Tryz.call142 rfl rfl (by kernel_rfl) h
def sy(x0:Option Addr)(K:(Bool)→ad→Prop)(h0:ad):Prop:=
 HC PG iR [.pointer x0] [.c .bool] (fun(e1:Bool) h2=>
 K (!e1) h2) h0
theorem zA(x0:Option Addr){K:cT [.c .bool]→ad→Prop}{h0:ad}(h:sy x0 K h0):HC PG si [.pointer x0] [.c .bool] K h0:=dL .nil Tryz.func143 Tryz.call143 rfl rfl (by kernel_rfl) h
def o8(x0:Option Addr)(K:(Bool)→ad→Prop)(h0:ad):Prop:=
 Join (fun(t8:Bool) h9=>
 CondP t8 (
 K false h9) (
 ∃a10,x0=some a10∧
 ∃v11:SliceV,bU h9 a10 3 v11∧
 HC PG cB [.slice v11.a v11.len v11.cap,.func (.func ni) #[] #[]] [.c .bool] (fun(e12:Bool) h13=>
 K (!e12) h13) h9)) (fun J1=>
 HC PG js [.pointer x0] [.c .bool] (fun(e2:Bool) h3=>
 CondP (!e2) (
 J1 true h3) (
 ∃a4,x0=some a4∧
 ∃v5,hH h3 a4 1 v5∧
 CondP (!v5) (
 ∃a6,x0=some a6∧
 ∃v7:SliceV,bU h3 a6 3 v7∧
 J1 (decide ((v7.len:Int)<(2:Int))) h3) (
 J1 false h3))) h0)
noncomputable def uB:Ann:=.node .nil (.node (.join [(20,.c .bool)] .nil .nil) .nil)
theorem ux(x0:Option Addr){K:cT [.c .bool]→ad→Prop}{h0:ad}(h:o8 x0 K h0):HC PG iR [.pointer x0] [.c .bool] K h0:=dL uB Tryz.func144 Tryz.call144 rfl rfl (by kernel_rfl) h
def qU(x0:Int×Int×Int)(x1:Option Addr)(x2:SliceV)(K:(Int×Bool)→ad→Prop)(h0:ad):Prop:=
 At (hnew h0 (uJ x0) cH) (fun h1=>
 At (hnew h1 [.pointer x1] bK) (fun h2=>
 At (hnew h2 [.slice x2.a x2.len x2.cap] I6) (fun h3=>
 At (hnew h3 [.int .i64 0] ko) (fun h4=>
 At (hnew h4 [.bool false] rz) (fun h5=>
 ∃v6,aO h5 (aC h1)=some (.pointer v6)∧
 HC PG gc [.pointer v6] [.c .slice] (fun(e7:SliceV) h8=>
 ∃v9,aO h8 (aC h1)=some (.pointer v9)∧
 HC PG fX [.pointer v9] [.c .bool] (fun(e10:Bool) h11=>
 CondP e10 (
 Join (fun(t16:Bool) h17=>
 CondP t16 (
 (Wr h17 (aC h3)∧
 At (hset h17 (aC h3) (.int .i64 0)) (fun h18=>
 (Wr h18 (aC h4)∧
 At (hset h18 (aC h4) (.bool false)) (fun h19=>
 ∃v20,aO h19 (aC h3)=some (.int .i64 v20)∧
 ∃v21,aO h19 (aC h4)=some (.bool v21)∧
 K (v20,v21) h19))))) (
 LoopP (fun I22 (t23:Int) h24=>
 CondP (decide (t23<(e7.len:Int))) (
 (cn t23 e7.len∧∃a25,e7.a=some a25∧
 ∃v26,aL h24 (adr a25 (t23.toNat*2)) 0 v26∧
 ∃v27,aL h24 (adr a25 (t23.toNat*2)) 1 v27∧
 nv h24 jm al (im v26 v27) (fun h29=>
 ∃v30,ar h29 h0 0 v30∧
 ∃v31,ar h29 h0 1 v31∧
 ∃v32,ar h29 h0 2 v32∧
 ∃v33,aF h29 h24 0 v33∧
 ∃v34:SliceV,aO h29 (aC h2)=some (.slice v34.a v34.len v34.cap)∧
 HC PG gb [un v30 v31 v32,.string v33] is (fun(e35:Int) h36=>
 (aO h36 (aC h2)=some (.slice v34.a v34.len v34.cap)∧
 HC PG lJ (JQ e35 v34) [.c .bool] (fun(e37:Bool) h38=>
 CondP (!e37) (
 (Wr h38 (aC h3)∧
 At (hset h38 (aC h3) (.int .i64 0)) (fun h39=>
 (Wr h39 (aC h4)∧
 At (hset h39 (aC h4) (.bool false)) (fun h40=>
 ∃v41,aO h40 (aC h3)=some (.int .i64 v41)∧
 ∃v42,aO h40 (aC h4)=some (.bool v42)∧
 K (v41,v42) h40))))) (
 I22 (IntKind.wrap .i64 (t23+1)) h38)) h36)) h29))) (
 (Wr h24 (aC h3)∧
 At (hset h24 (aC h3) (.int .i64 (e7.len:Int))) (fun h43=>
 (Wr h43 (aC h4)∧
 At (hset h43 (aC h4) (.bool true)) (fun h44=>
 ∃v45,aO h44 (aC h3)=some (.int .i64 v45)∧
 ∃v46,aO h44 (aC h4)=some (.bool v46)∧
 K (v45,v46) h44)))))) 0 h17)) (fun J12=>
 ∃v13:SliceV,aO h11 (aC h2)=some (.slice v13.a v13.len v13.cap)∧
 CondP ((v13.len:Int) !=(13:Int)) (
 J12 true h11) (
 HC PG rS [.slice e7.a e7.len e7.cap] [.c .bool] (fun(e14:Bool) h15=>
 J12 (!e14) h15) h11))) (
 ∃v47:SliceV,aO h11 (aC h2)=some (.slice v47.a v47.len v47.cap)∧
 CondP (decide ((v47.len:Int)≥(13:Int))) (
 (Wr h11 (aC h3)∧
 At (hset h11 (aC h3) (.int .i64 0)) (fun h48=>
 (Wr h48 (aC h4)∧
 At (hset h48 (aC h4) (.bool false)) (fun h49=>
 ∃v50,aO h49 (aC h3)=some (.int .i64 v50)∧
 ∃v51,aO h49 (aC h4)=some (.bool v51)∧
 K (v50,v51) h49))))) (
 At (hnew h11 [.int .i64 0] ko) (fun h52=>
 (Wr h52 (aC h11)∧
 At (hset h52 (aC h11) (.int .i64 (e7.len:Int))) (fun h53=>
 ∃v54:SliceV,aO h53 (aC h2)=some (.slice v54.a v54.len v54.cap)∧
 ∃v55:SliceV,aO h53 (aC h2)=some (.slice v55.a v55.len v55.cap)∧
 ∃v56:SliceV,aO h53 (aC h2)=some (.slice v56.a v56.len v56.cap)∧
 (((0:Int)≤(v56.len:Int)∧(v56.len:Int)≤((v54.cap:Nat):Int))∧
 (((0:Int)≤(v55.len:Int)∧(v55.len:Int)≤(((v56.len:Int).toNat:Nat):Int))∧
 (Wr h53 (aC h2)∧
 At (hset h53 (aC h2) (.slice (aZ v54.a 0 ((v56.len:Int).toNat) 1) (((v55.len:Int).toNat)-0) (((v56.len:Int).toNat)-0))) (fun h57=>
 ∃v58,aO h57 (aC h1)=some (.pointer v58)∧
 HC PG iY [.pointer v58] mG (fun(e59:Int) h60=>
 HC PG kX [.int .u32 e59] [.c .raw] (fun(e61:Value) h62=>
 RangeP PG e61 bV h62 (fun rdy63 bz64 (x65:Int) k66 h67=>
 (h67[(bO h62+1)]? =some rdy63∧At (bJ h67 (bO h62+1) bz64) (fun h69=>
 ∃v71,aO h69 (aC h1)=some (.pointer v71)∧
 HC PG nG (yH v71 x65) wL (fun(e72:(ByteArray×ByteArray)×Bool) h73=>
 nv h73 jm al (B7 e72.1) (fun h75=>
 Join (fun(t98:Bool) h99=>
 CondP t98 (
 (Wr h99 (aC h3)∧
 At (hset h99 (aC h3) (.int .i64 0)) (fun h100=>
 (Wr h100 (aC h4)∧
 At (hset h100 (aC h4) (.bool false)) (fun h101=>
 k66 (some .ret) h101))))) (
 k66 none h99)) (fun J76=>
 ∃v77,ar h75 h0 0 v77∧
 ∃v78,ar h75 h0 1 v78∧
 ∃v79,ar h75 h0 2 v79∧
 ∃v80,aF h75 h73 0 v80∧
 ∃v81:SliceV,aO h75 (aC h2)=some (.slice v81.a v81.len v81.cap)∧
 ((HC PG gb [un v77 v78 v79,.string v80] is (fun(e82:Int) h83=>
 (aO h83 (aC h2)=some (.slice v81.a v81.len v81.cap)∧
 At (hnew h83 [.int .i64 x65] ko) (fun h84=>
 (aO h84 (aC h2)=some (.slice v81.a v81.len v81.cap)∧
 ∃xs85,SRow h84 (some (aC h83)) (1*1) xs85∧
 AppP (some [.int .i64 0]) 1 8 ko v81.a v81.len v81.cap 1 xs85 h84 (fun s86 h87=>
 HC PG lJ (JQ e82 s86) [.c .bool] (fun(e88:Bool) h89=>
 J76 (!e88) h89) h87))))) h75)∧
 At (hnew h75 [.int .i64 x65] ko) (fun h90=>
 (aO h90 (aC h2)=some (.slice v81.a v81.len v81.cap)∧
 (aF h90 h73 0 v80∧
 ((ar h90 h0 0 v77∧ar h90 h0 1 v78∧ar h90 h0 2 v79)∧
 HC PG gb [un v77 v78 v79,.string v80] is (fun(e91:Int) h92=>
 (aO h92 (aC h2)=some (.slice v81.a v81.len v81.cap)∧
 ∃xs93,SRow h92 (some (aC h75)) (1*1) xs93∧
 AppP (some [.int .i64 0]) 1 8 ko v81.a v81.len v81.cap 1 xs93 h92 (fun s94 h95=>
 HC PG lJ (JQ e91 s94) [.c .bool] (fun(e96:Bool) h97=>
 J76 (!e96) h97) h95))) h90)))))))) h69))) (fun h102=>
 ∃v105,aO h102 (aC h1)=some (.pointer v105)∧
 HC PG gd [.pointer v105] mG (fun(e106:Int) h107=>
 HC PG kX [.int .u32 e106] [.c .raw] (fun(e108:Value) h109=>
 RangeP PG e108 bV h109 (fun rdy110 bz111 (x112:Int) k113 h114=>
 (h114[(bO h109+1)]? =some rdy110∧At (bJ h114 (bO h109+1) bz111) (fun h116=>
 ∃v118,aO h116 (aC h1)=some (.pointer v118)∧
 HC PG l3 (yH v118 x112) Ds (fun(e119:(Option Addr)×Bool) h120=>
 Join (fun(t132:Int×Bool) h133=>
 Join (fun(t135:Bool) h136=>
 CondP t135 (
 (Wr h136 (aC h3)∧
 At (hset h136 (aC h3) (.int .i64 0)) (fun h137=>
 (Wr h137 (aC h4)∧
 At (hset h137 (aC h4) (.bool false)) (fun h138=>
 k113 (some .ret) h138))))) (
 ∃v139,aO h136 (aC h11)=some (.int .i64 v139)∧
 (Wr h136 (aC h11)∧
 At (hset h136 (aC h11) (.int .i64 (IntKind.wrap .i64 (v139+t132.1)))) (fun h140=>
 k113 none h140)))) (fun J134=>
 CondP (!t132.2) (
 J134 true h133) (
 J134 (decide (t132.1<(2:Int))) h133))) (fun J121=>
 ∃v122,ar h120 h0 0 v122∧
 ∃v123,ar h120 h0 1 v123∧
 ∃v124,ar h120 h0 2 v124∧
 ∃v125:SliceV,aO h120 (aC h2)=some (.slice v125.a v125.len v125.cap)∧
 At (hnew h120 [.int .i64 x112] ko) (fun h126=>
 (aO h126 (aC h2)=some (.slice v125.a v125.len v125.cap)∧
 ((ar h126 h0 0 v122∧ar h126 h0 1 v123∧ar h126 h0 2 v124)∧
 ∃xs127,SRow h126 (some (aC h120)) (1*1) xs127∧
 AppP (some [.int .i64 0]) 1 8 ko v125.a v125.len v125.cap 1 xs127 h126 (fun s128 h129=>
 ((ar h129 h0 0 v122∧ar h129 h0 1 v123∧ar h129 h0 2 v124)∧
 HC PG lK [un v122 v123 v124,.pointer e119.1,.slice s128.a s128.len s128.cap] ut (fun(e130:Int×Bool) h131=>
 J121 (e130.1,e130.2) h131) h129))))))) h116))) (fun h141=>
 ∃v144,aO h141 (aC h11)=some (.int .i64 v144)∧
 (Wr h141 (aC h3)∧
 At (hset h141 (aC h3) (.int .i64 v144)) (fun h145=>
 (Wr h145 (aC h4)∧
 At (hset h145 (aC h4) (.bool true)) (fun h146=>
 (h146[(bO h109)]? =some (.deferred (some []))∧At (bJ h146 (bO h109) (.deferred none)) (fun h147=>
 (h147[(bO h62)]? =some (.deferred (some []))∧At (bJ h147 (bO h62) (.deferred none)) (fun h148=>
 ∃v149,aO h148 (aC h3)=some (.int .i64 v149)∧
 ∃v150,aO h148 (aC h4)=some (.bool v150)∧
 K (v149,v150) h148))))))))) (fun i117 h142=>
 bif bE i117 4 then(
 ∃v151,aO h142 (aC h11)=some (.int .i64 v151)∧
 (Wr h142 (aC h3)∧
 At (hset h142 (aC h3) (.int .i64 v151)) (fun h152=>
 (Wr h152 (aC h4)∧
 At (hset h152 (aC h4) (.bool true)) (fun h153=>
 (h153[(bO h109)]? =some (.deferred (some []))∧At (bJ h153 (bO h109) (.deferred none)) (fun h154=>
 (h154[(bO h62)]? =some (.deferred (some []))∧At (bJ h154 (bO h62) (.deferred none)) (fun h155=>
 ∃v156,aO h155 (aC h3)=some (.int .i64 v156)∧
 ∃v157,aO h155 (aC h4)=some (.bool v157)∧
 K (v156,v157) h155)))))))))else(
 False)) (fun h143=>
 (h143[(bO h109)]? =some (.deferred (some []))∧At (bJ h143 (bO h109) (.deferred none)) (fun h158=>
 (h158[(bO h62)]? =some (.deferred (some []))∧At (bJ h158 (bO h62) (.deferred none)) (fun h159=>
 ∃v160,aO h159 (aC h3)=some (.int .i64 v160)∧
 ∃v161,aO h159 (aC h4)=some (.bool v161)∧
 K (v160,v161) h159)))))) h107) h102) (fun i70 h103=>
 bif bE i70 2 then(
 ∃v162,aO h103 (aC h1)=some (.pointer v162)∧
 HC PG gd [.pointer v162] mG (fun(e163:Int) h164=>
 HC PG kX [.int .u32 e163] [.c .raw] (fun(e165:Value) h166=>
 RangeP PG e165 bV h166 (fun rdy167 bz168 (x169:Int) k170 h171=>
 (h171[(bO h166+1)]? =some rdy167∧At (bJ h171 (bO h166+1) bz168) (fun h173=>
 ∃v175,aO h173 (aC h1)=some (.pointer v175)∧
 HC PG l3 (yH v175 x169) Ds (fun(e176:(Option Addr)×Bool) h177=>
 Join (fun(t189:Int×Bool) h190=>
 Join (fun(t192:Bool) h193=>
 CondP t192 (
 (Wr h193 (aC h3)∧
 At (hset h193 (aC h3) (.int .i64 0)) (fun h194=>
 (Wr h194 (aC h4)∧
 At (hset h194 (aC h4) (.bool false)) (fun h195=>
 k170 (some .ret) h195))))) (
 ∃v196,aO h193 (aC h11)=some (.int .i64 v196)∧
 (Wr h193 (aC h11)∧
 At (hset h193 (aC h11) (.int .i64 (IntKind.wrap .i64 (v196+t189.1)))) (fun h197=>
 k170 none h197)))) (fun J191=>
 CondP (!t189.2) (
 J191 true h190) (
 J191 (decide (t189.1<(2:Int))) h190))) (fun J178=>
 ∃v179,ar h177 h0 0 v179∧
 ∃v180,ar h177 h0 1 v180∧
 ∃v181,ar h177 h0 2 v181∧
 ∃v182:SliceV,aO h177 (aC h2)=some (.slice v182.a v182.len v182.cap)∧
 At (hnew h177 [.int .i64 x169] ko) (fun h183=>
 (aO h183 (aC h2)=some (.slice v182.a v182.len v182.cap)∧
 ((ar h183 h0 0 v179∧ar h183 h0 1 v180∧ar h183 h0 2 v181)∧
 ∃xs184,SRow h183 (some (aC h177)) (1*1) xs184∧
 AppP (some [.int .i64 0]) 1 8 ko v182.a v182.len v182.cap 1 xs184 h183 (fun s185 h186=>
 ((ar h186 h0 0 v179∧ar h186 h0 1 v180∧ar h186 h0 2 v181)∧
 HC PG lK [un v179 v180 v181,.pointer e176.1,.slice s185.a s185.len s185.cap] ut (fun(e187:Int×Bool) h188=>
 J178 (e187.1,e187.2) h188) h186))))))) h173))) (fun h198=>
 ∃v201,aO h198 (aC h11)=some (.int .i64 v201)∧
 (Wr h198 (aC h3)∧
 At (hset h198 (aC h3) (.int .i64 v201)) (fun h202=>
 (Wr h202 (aC h4)∧
 At (hset h202 (aC h4) (.bool true)) (fun h203=>
 (h203[(bO h166)]? =some (.deferred (some []))∧At (bJ h203 (bO h166) (.deferred none)) (fun h204=>
 (h204[(bO h62)]? =some (.deferred (some []))∧At (bJ h204 (bO h62) (.deferred none)) (fun h205=>
 ∃v206,aO h205 (aC h3)=some (.int .i64 v206)∧
 ∃v207,aO h205 (aC h4)=some (.bool v207)∧
 K (v206,v207) h205))))))))) (fun i174 h199=>
 bif bE i174 4 then(
 ∃v208,aO h199 (aC h11)=some (.int .i64 v208)∧
 (Wr h199 (aC h3)∧
 At (hset h199 (aC h3) (.int .i64 v208)) (fun h209=>
 (Wr h209 (aC h4)∧
 At (hset h209 (aC h4) (.bool true)) (fun h210=>
 (h210[(bO h166)]? =some (.deferred (some []))∧At (bJ h210 (bO h166) (.deferred none)) (fun h211=>
 (h211[(bO h62)]? =some (.deferred (some []))∧At (bJ h211 (bO h62) (.deferred none)) (fun h212=>
 ∃v213,aO h212 (aC h3)=some (.int .i64 v213)∧
 ∃v214,aO h212 (aC h4)=some (.bool v214)∧
 K (v213,v214) h212)))))))))else(
 False)) (fun h200=>
 (h200[(bO h166)]? =some (.deferred (some []))∧At (bJ h200 (bO h166) (.deferred none)) (fun h215=>
 (h215[(bO h62)]? =some (.deferred (some []))∧At (bJ h215 (bO h62) (.deferred none)) (fun h216=>
 ∃v217,aO h216 (aC h3)=some (.int .i64 v217)∧
 ∃v218,aO h216 (aC h4)=some (.bool v218)∧
 K (v217,v218) h216)))))) h164) h103)else(
 False)) (fun h104=>
 (h104[(bO h62)]? =some (.deferred (some []))∧At (bJ h104 (bO h62) (.deferred none)) (fun h219=>
 ∃v220,aO h219 (aC h3)=some (.int .i64 v220)∧
 ∃v221,aO h219 (aC h4)=some (.bool v221)∧
 K (v220,v221) h219)))) h60) h57)))))))))) h8) h5)))))
noncomputable def CS:Ann:=.node .nil (.node .nil (.node (.node .nil (.node (.node (.join [(31,.c .bool)] .nil .nil) (.node (.node .nil (.loop [(34,.c (.int .i64))] .nil)) .nil)) .nil)) (.node .nil (.node .nil (.node .nil (.node (.node .nil (.rf [.c (.int .i64)] .nil (.node .nil (.join [(78,.c .bool)] .nil .nil)))) (.node (.node .nil (.rf [.c (.int .i64)] .nil (.node .nil (.join [(18,.c (.int .i64)),(19,.c .bool)] .nil (.node (.join [(104,.c .bool)] .nil .nil) .nil))))) .nil)))))))
theorem uP(x0:Int×Int×Int)(x1:Option Addr)(x2:SliceV){K:cT ut→ad→Prop}{h0:ad}(h:qU x0 x1 x2 K h0):HC PG lK [FE x0,.pointer x1,.slice x2.a x2.len x2.cap] ut K h0:=Qc CS Tryz.func145 Tryz.call145 rfl rfl (by kernel_rfl) h
def xG(K:(Option Addr)→ad→Prop)(h0:ad):Prop:=
 At (hnew h0 Ll bm) (fun h1=>
 K (some (aC h0)) h1)
theorem EV{K:cT [.c .ptr]→ad→Prop}{h0:ad}(h:xG K h0):HC PG ph [] [.c .ptr] K h0:=dL .nil Tryz.func146 Tryz.call146 rfl rfl (by kernel_rfl) h
def oy(x0:Option Addr)(K:(Bool)→ad→Prop)(h0:ad):Prop:=
 CondP (!(x0.isNone)) (
 ∃a1,x0=some a1∧
 ∃v2,hH h0 a1 4 v2∧
 K v2 h0) (
 K false h0)
theorem tI(x0:Option Addr){K:cT [.c .bool]→ad→Prop}{h0:ad}(h:oy x0 K h0):HC PG fX [.pointer x0] [.c .bool] K h0:=dL .nil Tryz.func155 Tryz.call155 rfl rfl (by kernel_rfl) h
def BS(x0:Int)(x1:Int)(K:(Int)→ad→Prop)(h0:ad):Prop:=
 Join (fun(t2:Bool) h3=>
 CondP t2 (
 K 0 h3) (
 ((0:Int)≤(IntKind.wrap .i64 (5*x1))∧
 Bd (dE x0 (2^(min (IntKind.wrap .i64 (5*x1):Int).toNat (IntKind.bits .u64))):Int) (fun n4=>
 Bd (IntKind.wrap .u64 (af (IntKind.bits .u64) n4&&&af (IntKind.bits .u64) 31).toNat:Int) (fun n5=>
 K (IntKind.wrap .i64 n5) h3))))) (fun J1=>
 CondP (decide (x1<(0:Int))) (
 J1 true h0) (
 J1 (decide (x1≥(13:Int))) h0))
noncomputable def IS:Ann:=.node .nil (.node (.join [(10,.c .bool)] .nil .nil) .nil)
theorem IG(x0:Int)(x1:Int){K:cT bV→ad→Prop}{h0:ad}(h:BS x0 x1 K h0):HC PG pF (oC x0 x1) bV K h0:=dL IS Tryz.func157 Tryz.call157 rfl rfl (by kernel_rfl) h
def rq(x0:Option Addr)(x1:Int)(K:((ByteArray×ByteArray)×Bool)→ad→Prop)(h0:ad):Prop:=
 At (hnew h0 jm al) (fun h1=>
 HC PG iY [.pointer x0] mG (fun(e2:Int) h3=>
 HC PG fc (ma e2 x1) [.c .bool] (fun(e4:Bool) h5=>
 CondP (!e4) (
 (hJ h5 h0 jm (fun h6=>
 ∃v7,aF h6 h0 0 v7∧
 ∃v8,aF h6 h0 1 v8∧
 K ((v7,v8),false) h6))) (
 ∃a9,x0=some a9∧
 ∃v10:SliceV,bU h5 (adr a9 0) 2 v10∧
 ∃a11,x0=some a11∧
 ∃v12,f8 h5 (adr a11 0) 0 v12∧
 HC PG dg (ma v12 x1) bV (fun(e13:Int) h14=>
 (bU h14 (adr a9 0) 2 v10∧
 (cn e13 v10.len∧∃a15,v10.a=some a15∧
 ∃v16,aL h14 (adr a15 (e13.toNat*2)) 0 v16∧
 ∃v17,aL h14 (adr a15 (e13.toNat*2)) 1 v17∧
 (hJ h14 h0 (im v16 v17) (fun h18=>
 ∃v19,aF h18 h0 0 v19∧
 ∃v20,aF h18 h0 1 v20∧
 K ((v19,v20),true) h18))))) h5)) h3) h1)
theorem yy(x0:Option Addr)(x1:Int){K:cT wL→ad→Prop}{h0:ad}(h:rq x0 x1 K h0):HC PG nG (yH x0 x1) wL K h0:=dL .nil Tryz.func158 Tryz.call158 rfl rfl (by kernel_rfl) h
def sE(x0:Option Addr)(x1:Int)(K:((Option Addr)×Bool)→ad→Prop)(h0:ad):Prop:=
 HC PG gd [.pointer x0] mG (fun(e1:Int) h2=>
 HC PG fc (ma e1 x1) [.c .bool] (fun(e3:Bool) h4=>
 CondP (!e3) (
 K (none,false) h4) (
 ∃a5,x0=some a5∧
 ∃v6:SliceV,bU h4 (adr a5 0) 3 v6∧
 ∃a7,x0=some a7∧
 ∃v8,f8 h4 (adr a7 0) 1 v8∧
 HC PG dg (ma v8 x1) bV (fun(e9:Int) h10=>
 (bU h10 (adr a5 0) 3 v6∧
 (cn e9 v6.len∧∃a11,v6.a=some a11∧
 ∃v12,bR h10 a11 (e9.toNat*1) (.pointer v12)∧
 K (v12,true) h10))) h4)) h2) h0
theorem zE(x0:Option Addr)(x1:Int){K:cT Ds→ad→Prop}{h0:ad}(h:sE x0 x1 K h0):HC PG l3 (yH x0 x1) Ds K h0:=dL .nil Tryz.func159 Tryz.call159 rfl rfl (by kernel_rfl) h
def pV(x0:Option Addr)(K:(ByteArray)→ad→Prop)(h0:ad):Prop:=
 CondP x0.isNone (
 K (⟨#[]⟩:ByteArray) h0) (
 ∃a1,x0=some a1∧
 ∃v2,aL h0 a1 0 v2∧
 K v2 h0)
theorem vX(x0:Option Addr){K:cT [.c .str]→ad→Prop}{h0:ad}(h:pV x0 K h0):HC PG ju [.pointer x0] [.c .str] K h0:=dL .nil Tryz.func161 Tryz.call161 rfl rfl (by kernel_rfl) h
def sF(x0:ByteArray)(K:(Bool)→ad→Prop)(h0:ad):Prop:=
 K (!(x0.toList==x0.toList)) h0
theorem zF(x0:ByteArray){K:cT [.c .bool]→ad→Prop}{h0:ad}(h:sF x0 K h0):HC PG l4 [.string x0] [.c .bool] K h0:=dL .nil Tryz.func168 Tryz.call168 rfl rfl (by kernel_rfl) h
def kK(x0:Value)(K:(SliceV)→ad→Prop)(h0:ad):Prop:=
 HC PG dZ [.slice none 0 0,x0] [.c .slice] (fun(e1:SliceV) h2=>
 K e1 h2) h0
theorem pN(x0:Value){K:cT [.c .slice]→ad→Prop}{h0:ad}(h:kK x0 K h0):HC PG gY [x0] [.c .slice] K h0:=dL .nil Tryz.func169 Tryz.call169 rfl rfl (by kernel_rfl) h
def zg(x0:Option Addr)(x1:ByteArray×ByteArray×Bool)(x2:Bool)(K:(Value)→ad→Prop)(h0:ad):Prop:=
 At (hnew h0 [.pointer x0] bS) (fun h1=>
 At (hnew h1 (Ng x1) mz) (fun h2=>
 At (hnew h2 [.bool x2] rz) (fun h3=>
 K (.func (.func nS) #[] #[.pointer (some (aC h0)),.pointer (some (aC h1)),.pointer (some (aC h2))]) h3)))
theorem Gr(x0:Option Addr)(x1:ByteArray×ByteArray×Bool)(x2:Bool){K:cT [.c .raw]→ad→Prop}{h0:ad}(h:zg x0 x1 x2 K h0):HC PG tw [.pointer x0,O7 x1,.bool x2] [.c .raw] K h0:=dL .nil Tryz.func170 Tryz.call170 rfl rfl (by kernel_rfl) h
def gu(x0:SliceV)(K:(SliceV)→ad→Prop)(h0:ad):Prop:=
 CondP x0.a.isNone (
 K ⟨none,0,0⟩ h0) (
 At (hnew h0 [] al) (fun h1=>
 ∃xs2,SRow h1 x0.a (x0.len*2) xs2∧
 AppP (some jm) 2 32 al (some (aC h0)) 0 0 x0.len xs2 h1 (fun s3 h4=>
 K s3 h4)))
theorem ly(x0:SliceV){K:cT [.c .slice]→ad→Prop}{h0:ad}(h:gu x0 K h0):HC PG cU [.slice x0.a x0.len x0.cap] [.c .slice] K h0:=dL .nil Tryz.func172 Tryz.call172 rfl rfl (by kernel_rfl) h
def eW(x0:SliceV)(x1:Value)(K:(Unit)→ad→Prop)(h0:ad):Prop:=
 HC PG iw [.slice x0.a x0.len x0.cap,.int .i64 (x0.len:Int),x1] [] (fun(e1:Unit) h2=>
 K () h2) h0
theorem iP(x0:SliceV)(x1:Value){K:cT []→ad→Prop}{h0:ad}(h:eW x0 x1 K h0):HC PG cL [.slice x0.a x0.len x0.cap,x1] [] K h0:=dL .nil Tryz.func173 Tryz.call173 rfl rfl (by kernel_rfl) h
def sA(x0:ByteArray×ByteArray)(x1:ByteArray×ByteArray)(K:(Int)→ad→Prop)(h0:ad):Prop:=
 At (hnew h0 (B7 x0) al) (fun h1=>
 At (hnew h1 (B7 x1) al) (fun h2=>
 ∃v3,aF h2 h0 0 v3∧
 ∃v4,aF h2 h0 1 v4∧
 ∃v5,aF h2 h1 0 v5∧
 HC PG mU [xM v3 v4,.string v5] bV (fun(e6:Int) h7=>
 K e6 h7) h2))
theorem zB(x0:ByteArray×ByteArray)(x1:ByteArray×ByteArray){K:cT bV→ad→Prop}{h0:ad}(h:sA x0 x1 K h0):HC PG oH [OC x0,OC x1] bV K h0:=dL .nil Tryz.func174 Tryz.call174 rfl rfl (by kernel_rfl) h
def xE(x0:ByteArray×ByteArray)(x1:ByteArray)(K:(Int)→ad→Prop)(h0:ad):Prop:=
 At (hnew h0 (B7 x0) al) (fun h1=>
 ∃v2,aF h1 h0 0 v2∧
 HC PG mW (im v2 x1) bV (fun(e3:Int) h4=>
 K e3 h4) h1)
theorem ET(x0:ByteArray×ByteArray)(x1:ByteArray){K:cT bV→ad→Prop}{h0:ad}(h:xE x0 x1 K h0):HC PG mU [OC x0,.string x1] bV K h0:=dL .nil Tryz.func175 Tryz.call175 rfl rfl (by kernel_rfl) h
def fG(x0:SliceV)(x1:Value)(K:(Int)→ad→Prop)(h0:ad):Prop:=
 LoopP (fun I1 (t2:Int) h3=>
 CondP (decide (t2<(x0.len:Int))) (
 (cn t2 x0.len∧∃a4,x0.a=some a4∧
 ∃v5,aL h3 (adr a4 (t2.toNat*2)) 0 v5∧
 ∃v6,aL h3 (adr a4 (t2.toNat*2)) 1 v6∧
 HV PG x1 [xM v5 v6] [.c .bool] (fun(e7:Bool) h8=>
 CondP e7 (
 K t2 h8) (
 I1 (IntKind.wrap .i64 (t2+1)) h8)) h3)) (
 K (-1) h3)) 0 h0
noncomputable def jW:Ann:=.node .nil (.node (.node .nil (.loop [(8,.c (.int .i64))] .nil)) .nil)
theorem jT(x0:SliceV)(x1:Value){K:cT bV→ad→Prop}{h0:ad}(h:fG x0 x1 K h0):HC PG dY [.slice x0.a x0.len x0.cap,x1] bV K h0:=dL jW Tryz.func176 Tryz.call176 rfl rfl (by kernel_rfl) h
def tS(x0:ByteArray×ByteArray)(y0:Addr)(y1:Addr)(K:(Bool)→ad→Prop)(h0:ad):Prop:=
 At (hnew h0 (B7 x0) al) (fun h1=>
 ∃v2,aF h1 h0 0 v2∧
 ∃v3,aO h1 y0=some (.int .i64 v3)∧
 ∃b4,(0:Int)≤v3∧v2[v3.toNat]? =some b4∧
 ∃v5,aO h1 y1=some (.int .u8 v5)∧
 K ((b4.toNat:Int) !=v5) h1)
theorem BA(x0:ByteArray×ByteArray)(y0:Addr)(y1:Addr){K:cT [.c .bool]→ad→Prop}{h0:ad}(h:tS x0 y0 y1 K h0):HC PG tF [OC x0,.pointer (some y0),.pointer (some y1)] [.c .bool] K h0:=dL .nil Tryz.func177 Tryz.call177 rfl rfl (by kernel_rfl) h
def tT(x0:SliceV)(x1:Int)(K:(Option Addr)→ad→Prop)(h0:ad):Prop:=
 (cn 0 x0.len∧∃a1,x0.a=some a1∧
 ∃v2,aL h0 (adr a1 ((0:Int).toNat*2)) 0 v2∧
 (cn (IntKind.wrap .i64 ((x0.len:Int)-1)) x0.len∧∃a3,x0.a=some a3∧
 ∃v4,bR h0 (adr a3 ((IntKind.wrap .i64 ((x0.len:Int)-1)).toNat*2)) 0 (.string v4)∧
 HC PG qJ (im v2 v4) bV (fun(e5:Int) h6=>
 (cn 0 x0.len∧∃a7,x0.a=some a7∧
 ∃v8,aL h6 (adr a7 ((0:Int).toNat*2)) 0 v8∧
 (((0:Int)≤e5∧e5≤((v8.size:Nat):Int))∧
 (((0:Int)≤x1∧x1≤((e5.toNat:Nat):Int))∧
 (cn 0 x0.len∧∃a9,x0.a=some a9∧
 ∃v10,aL h6 (adr a9 ((0:Int).toNat*2)) 0 v10∧
 Join (fun(t14:SliceV×ByteArray) h15=>
 HC PG pi (M8 t14.1 e5) [.c .slice] (fun(e16:SliceV) h17=>
 HC PG pe (Lv (v8.extract x1.toNat e5.toNat) ((v10.size:Int)==e5) t14.2 e16) [.c .ptr] (fun(e18:Option Addr) h19=>
 K e18 h19) h17) h15) (fun J11=>
 CondP ((v10.size:Int)==e5) (
 (cn 0 x0.len∧∃a12,x0.a=some a12∧
 ∃v13,aL h6 (adr a12 ((0:Int).toNat*2)) 1 v13∧
 (((0:Int)≤(1:Int)∧(1:Int)≤((x0.len:Nat):Int))∧
 J11 (⟨aZ x0.a ((1:Int).toNat) x0.cap 2,x0.len-((1:Int).toNat),x0.cap-((1:Int).toNat)⟩,v13) h6))) (
 J11 (x0,(⟨#[]⟩:ByteArray)) h6))))))) h0))
noncomputable def B4:Ann:=.node .nil (.node .nil (.node .nil (.join [(0,.c .slice),(7,.c .str)] .nil .nil)))
theorem BB(x0:SliceV)(x1:Int){K:cT [.c .ptr]→ad→Prop}{h0:ad}(h:tT x0 x1 K h0):HC PG pJ (M8 x0 x1) [.c .ptr] K h0:=dL B4 Tryz.func178 Tryz.call178 rfl rfl (by kernel_rfl) h
def DP(x0:Int×Int)(x1:ByteArray)(K:(Int)→ad→Prop)(h0:ad):Prop:=
 At (hnew h0 (PY x0) jO) (fun h1=>
 ∃v2,ar h1 h0 0 v2∧
 Bd (IntKind.wrap .u64 (af (IntKind.bits .u64) v2^^^af (IntKind.bits .u64) 8317987319222330741).toNat:Int) (fun n3=>
 ∃v4,ar h1 h0 1 v4∧
 Bd (IntKind.wrap .u64 (af (IntKind.bits .u64) v4^^^af (IntKind.bits .u64) 7237128888997146477).toNat:Int) (fun n5=>
 ∃v6,ar h1 h0 0 v6∧
 Bd (IntKind.wrap .u64 (af (IntKind.bits .u64) v6^^^af (IntKind.bits .u64) 7816392313619706465).toNat:Int) (fun n7=>
 ∃v8,ar h1 h0 1 v8∧
 Bd (IntKind.wrap .u64 (af (IntKind.bits .u64) v8^^^af (IntKind.bits .u64) 8387220255154660723).toNat:Int) (fun n9=>
 nv h1 JM ip (JP n3 n5 n7 n9) (fun h11=>
 LoopP (fun I12 (t13:ByteArray) h14=>
 CondP (decide ((t13.size:Int)≥(8:Int))) (
 (((0:Int)≤(8:Int)∧(8:Int)≤((t13.size:Nat):Int))∧
 HC PG rM [.string (t13.extract 0 ((8:Int).toNat))] is (fun(e15:Int) h16=>
 HC PG kU (Nl (some (aC h1)) e15) [] (fun(e17:Unit) h18=>
 (((0:Int)≤(8:Int)∧(8:Int)≤((t13.size:Nat):Int))∧
 I12 (t13.extract ((8:Int).toNat) t13.size) h18)) h16) h14)) (
 HC PG rM [.string t13] is (fun(e19:Int) h20=>
 ((0:Int)≤(56:Int)∧
 Bd (IntKind.wrap .u64 ((IntKind.wrap .u64 (x1.size:Int))*2^(min (56:Int).toNat (IntKind.bits .u64))):Int) (fun n21=>
 Bd (IntKind.wrap .u64 (af (IntKind.bits .u64) e19|||af (IntKind.bits .u64) n21).toNat:Int) (fun n22=>
 HC PG kU (Nl (some (aC h1)) n22) [] (fun(e23:Unit) h24=>
 (cn (2:Int) 4∧
 ∃v25,bR h24 (aC h1) ((2:Int).toNat*1) (.int .u64 v25)∧
 Bd (IntKind.wrap .u64 (af (IntKind.bits .u64) v25^^^af (IntKind.bits .u64) 255).toNat:Int) (fun n26=>
 (cn (2:Int) 4∧
 (d6 h24 (adr (aC h1) ((2:Int).toNat*1)) (.int .u64 n26) (fun h27=>
 HC PG gZ (yH (some (aC h1)) 4) [] (fun(e28:Unit) h29=>
 (cn 0 4∧
 ∃v30,bR h29 (aC h1) ((0:Int).toNat*1) (.int .u64 v30)∧
 (cn 1 4∧
 ∃v31,bR h29 (aC h1) ((1:Int).toNat*1) (.int .u64 v31)∧
 Bd (IntKind.wrap .u64 (af (IntKind.bits .u64) v30^^^af (IntKind.bits .u64) v31).toNat:Int) (fun n32=>
 (cn (2:Int) 4∧
 ∃v33,bR h29 (aC h1) ((2:Int).toNat*1) (.int .u64 v33)∧
 Bd (IntKind.wrap .u64 (af (IntKind.bits .u64) n32^^^af (IntKind.bits .u64) v33).toNat:Int) (fun n34=>
 (cn (3:Int) 4∧
 ∃v35,bR h29 (aC h1) ((3:Int).toNat*1) (.int .u64 v35)∧
 Bd (IntKind.wrap .u64 (af (IntKind.bits .u64) n34^^^af (IntKind.bits .u64) v35).toNat:Int) (fun n36=>
 K n36 h29)))))))) h27)))))) h20)))) h14)) x1 h11))))))
noncomputable def K7:Ann:=.node .nil (.node .nil (.node .nil (.node (.loop [(1,.c .str)] .nil) .nil)))
theorem KY(x0:Int×Int)(x1:ByteArray){K:cT is→ad→Prop}{h0:ad}(h:DP x0 x1 K h0):HC PG yf [Qs x0,.string x1] is K h0:=dL K7 Tryz.func179 Tryz.call179 rfl rfl (by kernel_rfl) h
def uZ(K:(Option Addr)→ad→Prop)(h0:ad):Prop:=
 At (hnew h0 [.int .u32 0,.int .u32 0,.slice none 0 0,.slice none 0 0,.bool true,.pointer none] bm) (fun h1=>
 K (some (aC h0)) h1)
theorem CB{K:cT [.c .ptr]→ad→Prop}{h0:ad}(h:uZ K h0):HC PG qN [] [.c .ptr] K h0:=dL .nil Tryz.func180 Tryz.call180 rfl rfl (by kernel_rfl) h
def sB(x0:Option Addr)(x1:Option Addr)(x2:ByteArray×ByteArray)(K:(Option Addr)→ad→Prop)(h0:ad):Prop:=
 At (hnew h0 (B7 x2) al) (fun h1=>
 HC PG fX [.pointer x0] [.c .bool] (fun(e2:Bool) h3=>
 CondP (!e2) (
 K x0 h3) (
 HC PG ig (Aj x0 x1) [.c .ptr] (fun(e4:Option Addr) h5=>
 ∃a6,e4=some a6∧
 ∃v7:SliceV,bU h5 (adr a6 0) 2 v7∧
 ∃v8,aF h5 h0 0 v8∧
 ∃v9,aF h5 h0 1 v9∧
 HC PG vK [.slice v7.a v7.len v7.cap,xM v8 v9] [.c .slice] (fun(e10:SliceV) h11=>
 ∃a12,e4=some a12∧
 (d6 h11 (adr (adr a12 0) 2) (.slice e10.a e10.len e10.cap) (fun h13=>
 K e4 h13))) h5) h3)) h1)
theorem zC(x0:Option Addr)(x1:Option Addr)(x2:ByteArray×ByteArray){K:cT [.c .ptr]→ad→Prop}{h0:ad}(h:sB x0 x1 x2 K h0):HC PG oI [.pointer x0,.pointer x1,OC x2] [.c .ptr] K h0:=dL .nil Tryz.func181 Tryz.call181 rfl rfl (by kernel_rfl) h
end Go.Proofs
