/- A part of the proof that the named laws of this program answer true, whatever the input. -/
import Derived.Test.YtncppacbfagpgaaGreatDoorTreeF
set_option maxRecDepth 100000
set_option linter.unusedVariables false
open Array renaming size→ci,setIfInBounds→bZ
open BitVec renaming ofInt→ao
open Int renaming fdiv→dY,tdiv→lj,tmod→kM
open Nat renaming beq→bU,min→eB
namespace Go.Proofs
open Go.Lift
def qJ(x0:Option Addr)(x1:Option Addr)(x2:Option Addr)(x3:ByteArray)(K:(Unit)→ae→Prop)(h0:ae):Prop:=
 (True∧(∀x y:Addr,x1=some x→x2=some y→f8 h0 x∧f8 h0 y)∧
 CondP (x1==x2) (
 K () h0) (
 Join (fun(t6:Bool) h7=>
 CondP t6 (
 HC PG kB (A0 x1 x3) [.c .slice] (fun(e8:SliceV) h9=>
 HC PG kB (A0 x2 x3) [.c .slice] (fun(e10:SliceV) h11=>
 HC PG iq (Kj x0 e8 e10) [] (fun(e12:Unit) h13=>
 K () h13) h11) h9) h7) (
 HC PG eh [.pointer x1] [.c .str] (fun(e14:ByteArray) h15=>
 (((x3.size+e14.size:Nat):Int)≤9223372036854775807∧
 HC PG wS (A0 x1 (x3++e14)) [.c .slice] (fun(e16:SliceV) h17=>
 HC PG wS (A0 x2 (x3++e14)) [.c .slice] (fun(e18:SliceV) h19=>
 HC PG iq (Kj x0 e16 e18) [] (fun(e20:Unit) h21=>
 HC PG kA [.pointer x1] [.c .slice] (fun(e22:SliceV) h23=>
 HC PG kA [.pointer x2] [.c .slice] (fun(e24:SliceV) h25=>
 LoopP (fun I26 (t27:SliceV×SliceV) h28=>
 Join (fun(t30:Bool) h31=>
 CondP t30 (
 Join (fun(t43:Bool) h44=>
 CondP t43 (
 (cB 0 t27.1.len∧∃a45,t27.1.a=some a45∧
 ∃v46,bM h44 a45 ((0:Int).toNat*1) (.pointer v46)∧
 HC PG ip (LU x0 v46 none (x3++e14)) [] (fun(e47:Unit) h48=>
 (((0:Int)≤(1:Int)∧(1:Int)≤((t27.1.len:Nat):Int))∧
 Bd (bj t27.1.a ((1:Int).toNat) t27.1.cap 1:Option Addr) (fun a49=>Bd (t27.1.len-((1:Int).toNat):Nat) (fun n50=>Bd (t27.1.cap-((1:Int).toNat):Nat) (fun n51=>
 I26 (⟨a49,n50,n51⟩,t27.2) h48))))) h44)) (
 Join (fun(t63:Bool) h64=>
 CondP t63 (
 (cB 0 t27.2.len∧∃a65,t27.2.a=some a65∧
 ∃v66,bM h64 a65 ((0:Int).toNat*1) (.pointer v66)∧
 HC PG ip (LU x0 none v66 (x3++e14)) [] (fun(e67:Unit) h68=>
 (((0:Int)≤(1:Int)∧(1:Int)≤((t27.2.len:Nat):Int))∧
 Bd (bj t27.2.a ((1:Int).toNat) t27.2.cap 1:Option Addr) (fun a69=>Bd (t27.2.len-((1:Int).toNat):Nat) (fun n70=>Bd (t27.2.cap-((1:Int).toNat):Nat) (fun n71=>
 I26 (t27.1,⟨a69,n70,n71⟩) h68))))) h64)) (
 (cB 0 t27.1.len∧∃a72,t27.1.a=some a72∧
 ∃v73,bM h64 a72 ((0:Int).toNat*1) (.pointer v73)∧
 (cB 0 t27.2.len∧∃a74,t27.2.a=some a74∧
 ∃v75,bM h64 a74 ((0:Int).toNat*1) (.pointer v75)∧
 HC PG ip (LU x0 v73 v75 (x3++e14)) [] (fun(e76:Unit) h77=>
 (((0:Int)≤(1:Int)∧(1:Int)≤((t27.1.len:Nat):Int))∧
 Bd (bj t27.1.a ((1:Int).toNat) t27.1.cap 1:Option Addr) (fun a78=>Bd (t27.1.len-((1:Int).toNat):Nat) (fun n79=>Bd (t27.1.cap-((1:Int).toNat):Nat) (fun n80=>
 (((0:Int)≤(1:Int)∧(1:Int)≤((t27.2.len:Nat):Int))∧
 Bd (bj t27.2.a ((1:Int).toNat) t27.2.cap 1:Option Addr) (fun a81=>Bd (t27.2.len-((1:Int).toNat):Nat) (fun n82=>Bd (t27.2.cap-((1:Int).toNat):Nat) (fun n83=>
 I26 (⟨a78,n79,n80⟩,⟨a81,n82,n83⟩) h77))))))))) h64)))) (fun J52=>
 CondP ((t27.1.len:Int)==(0:Int)) (
 J52 true h44) (
 (cB 0 t27.2.len∧∃a53,t27.2.a=some a53∧
 ∃v54,bM h44 a53 ((0:Int).toNat*1) (.pointer v54)∧
 (cB 0 t27.1.len∧∃a55,t27.1.a=some a55∧
 ∃v56,bM h44 a55 ((0:Int).toNat*1) (.pointer v56)∧
 HC PG eh [.pointer v54] [.c .str] (fun(e57:ByteArray) h58=>
 (bM h58 a55 ((0:Int).toNat*1) (.pointer v56)∧
 ∃b59,(0:Int)≤(0:Int)∧e57[(0:Int).toNat]? =some b59∧
 HC PG eh [.pointer v56] [.c .str] (fun(e60:ByteArray) h61=>
 ∃b62,(0:Int)≤(0:Int)∧e60[(0:Int).toNat]? =some b62∧
 J52 (decide ((b59.toNat:Int)<(b62.toNat:Int))) h61) h58)) h44)))))) (fun J32=>
 CondP ((t27.2.len:Int)==(0:Int)) (
 J32 true h31) (
 CondP (decide ((t27.1.len:Int)>(0:Int))) (
 (cB 0 t27.1.len∧∃a33,t27.1.a=some a33∧
 ∃v34,bM h31 a33 ((0:Int).toNat*1) (.pointer v34)∧
 (cB 0 t27.2.len∧∃a35,t27.2.a=some a35∧
 ∃v36,bM h31 a35 ((0:Int).toNat*1) (.pointer v36)∧
 HC PG eh [.pointer v34] [.c .str] (fun(e37:ByteArray) h38=>
 (bM h38 a35 ((0:Int).toNat*1) (.pointer v36)∧
 ∃b39,(0:Int)≤(0:Int)∧e37[(0:Int).toNat]? =some b39∧
 HC PG eh [.pointer v36] [.c .str] (fun(e40:ByteArray) h41=>
 ∃b42,(0:Int)≤(0:Int)∧e40[(0:Int).toNat]? =some b42∧
 J32 (decide ((b39.toNat:Int)<(b42.toNat:Int))) h41) h38)) h31))) (
 J32 false h31)))) (
 K () h31)) (fun J29=>
 CondP (decide ((t27.1.len:Int)>(0:Int))) (
 J29 true h28) (
 J29 (decide ((t27.2.len:Int)>(0:Int))) h28))) (e22,e24) h25) h23) h21) h19) h17) h15)) h7)) (fun J1=>
 CondP x1.isNone (
 J1 true h0) (
 CondP x2.isNone (
 J1 true h0) (
 HC PG eh [.pointer x1] [.c .str] (fun(e2:ByteArray) h3=>
 HC PG eh [.pointer x2] [.c .str] (fun(e4:ByteArray) h5=>
 J1 (!(e2.toList==e4.toList)) h5) h3) h0)))))
noncomputable def DU:Ann:=.node (.node .nil (.node .nil (.join [(15,.c .bool)] .nil .nil))) (.node .nil (.node .nil (.node .nil (.loop [(9,.c .slice),(10,.c .slice)] (.node (.join [(60,.c .bool)] .nil .nil) (.join [(74,.c .bool)] .nil (.node .nil (.join [(104,.c .bool)] .nil .nil))))))))
theorem vS(x0:Option Addr)(x1:Option Addr)(x2:Option Addr)(x3:ByteArray){K:cQ []→ae→Prop}{h0:ae}(h:qJ x0 x1 x2 x3 K h0):HC PG ip (LU x0 x1 x2 x3) [] K h0:=dL DU Tryz.func106 Tryz.call106 rfl rfl (by kernel_rfl) h
def qI(x0:Option Addr)(x1:Option Addr)(x2:Option Addr)(K:(Unit)→ae→Prop)(h0:ae):Prop:=
 (True∧(∀x y:Addr,x1=some x→x2=some y→f8 h0 x∧f8 h0 y)∧
 CondP (x1==x2) (
 K () h0) (
 HC PG eQ [.pointer x1] [.c .bool] (fun(e1:Bool) h2=>
 CondP e1 (
 HC PG fi [.pointer x1] [.c .slice] (fun(e3:SliceV) h4=>
 HC PG fi [.pointer x2] [.c .slice] (fun(e5:SliceV) h6=>
 HC PG iq (Kj x0 e3 e5) [] (fun(e7:Unit) h8=>
 K () h8) h6) h4) h2) (
 LoopP (fun I9 (t10:Int) h11=>
 CondP (decide (t10<(32:Int))) (
 Join (fun(t28:Unit) h29=>
 I9 (IntKind.wrap .i64 (t10+1)) h29) (fun J12=>
 HC PG gi (uV x1 t10) sA (fun(e13:(Option Addr)×Bool) h14=>
 HC PG gi (uV x2 t10) sA (fun(e15:(Option Addr)×Bool) h16=>
 Join (fun(t18:Bool) h19=>
 CondP t18 (
 HC PG nA (Rv x0 e13.1 e15.1) [] (fun(e20:Unit) h21=>
 J12 () h21) h19) (
 HC PG ut (uV x1 t10) [.c .slice] (fun(e22:SliceV) h23=>
 HC PG ut (uV x2 t10) [.c .slice] (fun(e24:SliceV) h25=>
 HC PG iq (Kj x0 e22 e24) [] (fun(e26:Unit) h27=>
 J12 () h27) h25) h23) h19)) (fun J17=>
 CondP e13.2 (
 J17 e15.2 h16) (
 J17 false h16))) h14) h11)) (
 K () h11)) 0 h2)) h0))
noncomputable def DT:Ann:=.node .nil (.node .nil (.node .nil (.loop [(22,.c (.int .i64))] (.node .nil (.node .nil (.join [] (.node .nil (.node .nil (.node .nil (.node (.join [(40,.c .bool)] .nil .nil) .nil)))) .nil))))))
theorem vR(x0:Option Addr)(x1:Option Addr)(x2:Option Addr){K:cQ []→ae→Prop}{h0:ae}(h:qI x0 x1 x2 K h0):HC PG nA (Rv x0 x1 x2) [] K h0:=dL DT Tryz.func107 Tryz.call107 rfl rfl (by kernel_rfl) h
def gH(x0:SliceV)(x1:Value)(K:(Unit)→ae→Prop)(h0:ae):Prop:=
 HC PG rN [.int .u64 (IntKind.wrap .u64 (x0.len:Int))] cr (fun(e1:Int) h2=>
 HC PG eM [.slice x0.a x0.len x0.cap,.int .i64 0,.int .i64 (x0.len:Int),.int .i64 e1,x1] [] (fun(e3:Unit) h4=>
 K () h4) h2) h0
theorem lq(x0:SliceV)(x1:Value){K:cQ []→ae→Prop}{h0:ae}(h:gH x0 x1 K h0):HC PG dA [.slice x0.a x0.len x0.cap,x1] [] K h0:=dL .nil Tryz.func108 Tryz.call108 rfl rfl (by kernel_rfl) h
def EK(x0:ByteArray×ByteArray×ByteArray×Bool×Bool)(x1:ByteArray×ByteArray×ByteArray×Bool×Bool)(K:(Int)→ae→Prop)(h0:ae):Prop:=
 At (hnew h0 (XO x0) cp) (fun h1=>
 At (hnew h1 (XO x1) cp) (fun h2=>
 ∃v3,aw h2 h0 0 v3∧
 ∃v4,aw h2 h1 0 v4∧
 HC PG mC (ij v3 v4) cr (fun(e5:Int) h6=>
 K e5 h6) h2))
theorem NA(x0:ByteArray×ByteArray×ByteArray×Bool×Bool)(x1:ByteArray×ByteArray×ByteArray×Bool×Bool){K:cQ cr→ae→Prop}{h0:ae}(h:EK x0 x1 K h0):HC PG pn [YJ x0,YJ x1] cr K h0:=dL .nil Tryz.func109 Tryz.call109 rfl rfl (by kernel_rfl) h
def uO(x0:ByteArray)(x1:ByteArray)(K:(Int)→ae→Prop)(h0:ae):Prop:=
 HC PG oO [.string x0] [.c .bool] (fun(e1:Bool) h2=>
 HC PG oO [.string x1] [.c .bool] (fun(e3:Bool) h4=>
 CondP e1 (
 CondP e3 (
 K 0 h4) (
 K (-1) h4)) (
 CondP e3 (
 K 1 h4) (
 CondP (Op.bytesLess x0.toList x1.toList) (
 K (-1) h4) (
 CondP (!(Op.bytesLess x0.toList x1.toList||x0.toList==x1.toList)) (
 K 1 h4) (
 K 0 h4))))) h2) h0
theorem Co(x0:ByteArray)(x1:ByteArray){K:cQ cr→ae→Prop}{h0:ae}(h:uO x0 x1 K h0):HC PG mC (ij x0 x1) cr K h0:=dL .nil Tryz.func110 Tryz.call110 rfl rfl (by kernel_rfl) h
def Hk(x0:T5)(x1:T5)(K:(Bool)→ae→Prop)(h0:ae):Prop:=
 At (hnew h0 (CM x0) cG) (fun h1=>
 At (hnew h1 (CM x1) cG) (fun h2=>
 ∃v3,aU h2 h0 0 v3∧
 ∃v4,aU h2 h1 0 v4∧
 CondP (v3==v4) (
 ∃v5,cM h2 (adr (aE h0) 1) 0 v5∧
 ∃v6,cM h2 (adr (aE h0) 1) 1 v6∧
 ∃v7,cM h2 (adr (aE h0) 1) 2 v7∧
 ∃v8,cM h2 (adr (aE h1) 1) 0 v8∧
 ∃v9,cM h2 (adr (aE h1) 1) 1 v9∧
 ∃v10,cM h2 (adr (aE h1) 1) 2 v10∧
 K ((v5==v8)&&((v6==v9)&&((v7==v10)&&true))) h2) (
 K false h2)))
theorem PI(x0:T5)(x1:T5){K:cQ [.c .bool]→ae→Prop}{h0:ae}(h:Hk x0 x1 K h0):HC PG wK [Vt x0,Vt x1] [.c .bool] K h0:=dL .nil Tryz.func111 Tryz.call111 rfl rfl (by kernel_rfl) h
def Kc(x0:Int×Int×Int)(K:(Int×Int×Int)→ae→Prop)(h0:ae):Prop:=
 At (hnew h0 (zt x0) co) (fun h1=>
 At (hnew h1 Y7 su) (fun h2=>
 ∃v3,cM h2 (adr (aE h0) 0) 0 v3∧
 ∃v4,cM h2 (adr (aE h0) 0) 1 v4∧
 ∃v5,af h2 h0 2 v5∧
 (di h2 h1 (Y9 v3 v4 v5) (fun h6=>
 ∃v7,af h6 h1 0 v7∧
 ∃v8,af h6 h1 1 v8∧
 ∃v9,af h6 h1 2 v9∧
 K (v7,v8,v9) h6))))
theorem S0(x0:Int×Int×Int){K:cQ Eg→ae→Prop}{h0:ae}(h:Kc x0 K h0):HC PG Ds [LL x0] Eg K h0:=dL .nil Tryz.func113 Tryz.call113 rfl rfl (by kernel_rfl) h
def CD(x0:Int)(K:(ByteArray)→ae→Prop)(h0:ae):Prop:=
 CondP (x0==(0:Int)) (
 K (⟨#[102,97,105,108]⟩:ByteArray) h0) (
 CondP (x0==(1:Int)) (
 K (⟨#[111,117,114,115]⟩:ByteArray) h0) (
 CondP (x0==(2:Int)) (
 K (⟨#[116,104,101,105,114,115]⟩:ByteArray) h0) (
 CondP (x0==(3:Int)) (
 K (⟨#[107,101,101,112]⟩:ByteArray) h0) (
 K (⟨#[]⟩:ByteArray) h0))))
theorem Lz(x0:Int){K:cQ [.c .str]→ae→Prop}{h0:ae}(h:CD x0 K h0):HC PG wR [.int .i64 x0] [.c .str] K h0:=dL .nil Tryz.func114 Tryz.call114 rfl rfl (by kernel_rfl) h
def EF(x0:T6)(x1:ByteArray)(K:(ByteArray×Bool)→ae→Prop)(h0:ae):Prop:=
 At (hnew h0 (pj x0) bI) (fun h1=>
 At (hnew h1 A6 lF) (fun h2=>
 ∃v3,aU h2 h0 0 v3∧
 ∃v4,af h2 h0 1 v4∧
 ∃v5,af h2 h0 2 v5∧
 ∃v6,af h2 h0 3 v6∧
 ∃v7,aH h2 h0 4 v7∧
 ∃v8,aH h2 h0 5 v8∧
 HC PG rK [sQ v3 v4 v5 v6 v7 v8,.string x1] nn (fun(e9:ByteArray×Bool) h10=>
 (di h10 h1 (vA e9) (fun h11=>
 ∃v12,aw h11 h1 0 v12∧
 ∃v13,cT h11 h1 1 v13∧
 K (v12,v13) h11))) h2))
theorem Nv(x0:T6)(x1:ByteArray){K:cQ pH→ae→Prop}{h0:ae}(h:EF x0 x1 K h0):HC PG uo [Je x0,.string x1] pH K h0:=dL .nil Tryz.func115 Tryz.call115 rfl rfl (by kernel_rfl) h
def CC(x0:ByteArray×Bool)(x1:ByteArray×Bool)(x2:ByteArray×Bool)(x3:Int)(K:((ByteArray×Bool)×Bool)→ae→Prop)(h0:ae):Prop:=
 At (hnew h0 (vA x0) lF) (fun h1=>
 At (hnew h1 (vA x1) lF) (fun h2=>
 At (hnew h2 (vA x2) lF) (fun h3=>
 At (hnew h3 A6 lF) (fun h4=>
 Join (fun(t14:Bool) h15=>
 CondP t14 (
 ∃v16,aw h15 h1 0 v16∧
 ∃v17,cT h15 h1 1 v17∧
 (di h15 h3 (CQ v16 v17) (fun h18=>
 ∃v19,aw h18 h3 0 v19∧
 ∃v20,cT h18 h3 1 v20∧
 K ((v19,v20),true) h18))) (
 ∃v21,aw h15 h1 0 v21∧
 ∃v22,cT h15 h1 1 v22∧
 ∃v23,aw h15 h0 0 v23∧
 ∃v24,cT h15 h0 1 v24∧
 CondP ((v21.toList==v23.toList)&&((v22==v24)&&true)) (
 ∃v25,aw h15 h2 0 v25∧
 ∃v26,cT h15 h2 1 v26∧
 (di h15 h3 (CQ v25 v26) (fun h27=>
 ∃v28,aw h27 h3 0 v28∧
 ∃v29,cT h27 h3 1 v29∧
 K ((v28,v29),true) h27))) (
 CondP (x3==(1:Int)) (
 ∃v30,aw h15 h1 0 v30∧
 ∃v31,cT h15 h1 1 v31∧
 (di h15 h3 (CQ v30 v31) (fun h32=>
 ∃v33,aw h32 h3 0 v33∧
 ∃v34,cT h32 h3 1 v34∧
 K ((v33,v34),false) h32))) (
 CondP (x3==(2:Int)) (
 ∃v35,aw h15 h2 0 v35∧
 ∃v36,cT h15 h2 1 v36∧
 (di h15 h3 (CQ v35 v36) (fun h37=>
 ∃v38,aw h37 h3 0 v38∧
 ∃v39,cT h37 h3 1 v39∧
 K ((v38,v39),false) h37))) (
 ∃v40,aw h15 h0 0 v40∧
 ∃v41,cT h15 h0 1 v41∧
 (di h15 h3 (CQ v40 v41) (fun h42=>
 ∃v43,aw h42 h3 0 v43∧
 ∃v44,cT h42 h3 1 v44∧
 K ((v43,v44),false) h42))))))) (fun J5=>
 ∃v6,aw h4 h1 0 v6∧
 ∃v7,cT h4 h1 1 v7∧
 ∃v8,aw h4 h2 0 v8∧
 ∃v9,cT h4 h2 1 v9∧
 CondP ((v6.toList==v8.toList)&&((v7==v9)&&true)) (
 J5 ((v6.toList==v8.toList)&&((v7==v9)&&true)) h4) (
 ∃v10,aw h4 h2 0 v10∧
 ∃v11,cT h4 h2 1 v11∧
 ∃v12,aw h4 h0 0 v12∧
 ∃v13,cT h4 h0 1 v13∧
 J5 ((v10.toList==v12.toList)&&((v11==v13)&&true)) h4))))))
noncomputable def LH:Ann:=.node .nil (.node (.join [(10,.c .bool)] .nil .nil) .nil)
theorem Ly(x0:ByteArray×Bool)(x1:ByteArray×Bool)(x2:ByteArray×Bool)(x3:Int){K:cQ zv→ae→Prop}{h0:ae}(h:CC x0 x1 x2 x3 K h0):HC PG wQ [OF x0,OF x1,OF x2,.int .i64 x3] zv K h0:=dL LH Tryz.func116 Tryz.call116 rfl rfl (by kernel_rfl) h
def EE(x0:T6)(x1:ByteArray)(x2:ByteArray×Bool)(K:(T6)→ae→Prop)(h0:ae):Prop:=
 At (hnew h0 (pj x0) bI) (fun h1=>
 At (hnew h1 (vA x2) lF) (fun h2=>
 At (hnew h2 xB bI) (fun h3=>
 Join (fun(t25:Unit) h26=>
 ∃v27,aU h26 h0 0 v27∧
 ∃v28,af h26 h0 1 v28∧
 ∃v29,af h26 h0 2 v29∧
 ∃v30,af h26 h0 3 v30∧
 ∃v31,aH h26 h0 4 v31∧
 ∃v32,aH h26 h0 5 v32∧
 (di h26 h2 (Fz v27 v28 v29 v30 v31 v32) (fun h33=>
 ∃v34,aU h33 h2 0 v34∧
 ∃v35,af h33 h2 1 v35∧
 ∃v36,af h33 h2 2 v36∧
 ∃v37,af h33 h2 3 v37∧
 ∃v38,aH h33 h2 4 v38∧
 ∃v39,aH h33 h2 5 v39∧
 K (v34,v35,v36,v37,v38,v39) h33))) (fun J4=>
 ∃v5,cT h3 h1 1 v5∧
 CondP v5 (
 ∃v6,aU h3 h0 0 v6∧
 ∃v7,af h3 h0 1 v7∧
 ∃v8,af h3 h0 2 v8∧
 ∃v9,af h3 h0 3 v9∧
 ∃v10,aH h3 h0 4 v10∧
 ∃v11,aH h3 h0 5 v11∧
 ∃v12,aw h3 h1 0 v12∧
 HC PG np [sQ v6 v7 v8 v9 v10 v11,.pointer none,qn x1 v12] vE (fun(e13:(T6)×Int) h14=>
 (di h14 h0 (pj e13.1) (fun h15=>
 J4 () h15))) h3) (
 ∃v16,aU h3 h0 0 v16∧
 ∃v17,af h3 h0 1 v17∧
 ∃v18,af h3 h0 2 v18∧
 ∃v19,af h3 h0 3 v19∧
 ∃v20,aH h3 h0 4 v20∧
 ∃v21,aH h3 h0 5 v21∧
 HC PG r7 [sQ v16 v17 v18 v19 v20 v21,.pointer none,.string x1] vE (fun(e22:(T6)×Int) h23=>
 (di h23 h0 (pj e22.1) (fun h24=>
 J4 () h24))) h3)))))
noncomputable def NL:Ann:=.node .nil (.join [] .nil .nil)
theorem Nu(x0:T6)(x1:ByteArray)(x2:ByteArray×Bool){K:cQ Am→ae→Prop}{h0:ae}(h:EE x0 x1 x2 K h0):HC PG yi [Je x0,.string x1,OF x2] Am K h0:=dL NL Tryz.func117 Tryz.call117 rfl rfl (by kernel_rfl) h
def JY(x0:T5)(x1:ByteArray)(K:(ByteArray×Bool)→ae→Prop)(h0:ae):Prop:=
 At (hnew h0 (CM x0) cG) (fun h1=>
 At (hnew h1 A6 qv) (fun h2=>
 ∃v3:SliceV,cx h2 h0 4 v3∧
 HC PG Dq (HJ v3 x1) nn (fun(e4:ByteArray×Bool) h5=>
 (di h5 h1 (vA e4) (fun h6=>
 ∃v7,aw h6 h1 0 v7∧
 ∃v8,cT h6 h1 1 v8∧
 K (v7,v8) h6))) h2))
theorem SU(x0:T5)(x1:ByteArray){K:cQ pH→ae→Prop}{h0:ae}(h:JY x0 x1 K h0):HC PG lf [Vt x0,.string x1] pH K h0:=dL .nil Tryz.func118 Tryz.call118 rfl rfl (by kernel_rfl) h
def Hh(x0:ByteArray×Bool)(x1:ByteArray×Bool)(x2:ByteArray×Bool)(x3:Int)(K:((ByteArray×Bool)×Bool)→ae→Prop)(h0:ae):Prop:=
 At (hnew h0 (vA x0) qv) (fun h1=>
 At (hnew h1 (vA x1) qv) (fun h2=>
 At (hnew h2 (vA x2) qv) (fun h3=>
 At (hnew h3 A6 qv) (fun h4=>
 ∃v5,aw h4 h1 0 v5∧
 ∃v6,cT h4 h1 1 v6∧
 ∃v7,aw h4 h2 0 v7∧
 ∃v8,cT h4 h2 1 v8∧
 CondP ((v5.toList==v7.toList)&&((v6==v8)&&true)) (
 ∃v9,aw h4 h1 0 v9∧
 ∃v10,cT h4 h1 1 v10∧
 (di h4 h3 (CQ v9 v10) (fun h11=>
 ∃v12,aw h11 h3 0 v12∧
 ∃v13,cT h11 h3 1 v13∧
 K ((v12,v13),true) h11))) (
 ∃v14,aw h4 h1 0 v14∧
 ∃v15,cT h4 h1 1 v15∧
 ∃v16,aw h4 h0 0 v16∧
 ∃v17,cT h4 h0 1 v17∧
 CondP ((v14.toList==v16.toList)&&((v15==v17)&&true)) (
 ∃v18,aw h4 h2 0 v18∧
 ∃v19,cT h4 h2 1 v19∧
 (di h4 h3 (CQ v18 v19) (fun h20=>
 ∃v21,aw h20 h3 0 v21∧
 ∃v22,cT h20 h3 1 v22∧
 K ((v21,v22),true) h20))) (
 ∃v23,aw h4 h2 0 v23∧
 ∃v24,cT h4 h2 1 v24∧
 ∃v25,aw h4 h0 0 v25∧
 ∃v26,cT h4 h0 1 v26∧
 CondP ((v23.toList==v25.toList)&&((v24==v26)&&true)) (
 ∃v27,aw h4 h1 0 v27∧
 ∃v28,cT h4 h1 1 v28∧
 (di h4 h3 (CQ v27 v28) (fun h29=>
 ∃v30,aw h29 h3 0 v30∧
 ∃v31,cT h29 h3 1 v31∧
 K ((v30,v31),true) h29))) (
 CondP (x3==(1:Int)) (
 ∃v32,aw h4 h1 0 v32∧
 ∃v33,cT h4 h1 1 v33∧
 (di h4 h3 (CQ v32 v33) (fun h34=>
 ∃v35,aw h34 h3 0 v35∧
 ∃v36,cT h34 h3 1 v36∧
 K ((v35,v36),false) h34))) (
 CondP (x3==(2:Int)) (
 ∃v37,aw h4 h2 0 v37∧
 ∃v38,cT h4 h2 1 v38∧
 (di h4 h3 (CQ v37 v38) (fun h39=>
 ∃v40,aw h39 h3 0 v40∧
 ∃v41,cT h39 h3 1 v41∧
 K ((v40,v41),false) h39))) (
 ∃v42,aw h4 h0 0 v42∧
 ∃v43,cT h4 h0 1 v43∧
 (di h4 h3 (CQ v42 v43) (fun h44=>
 ∃v45,aw h44 h3 0 v45∧
 ∃v46,cT h44 h3 1 v46∧
 K ((v45,v46),false) h44)))))))))))
theorem PF(x0:ByteArray×Bool)(x1:ByteArray×Bool)(x2:ByteArray×Bool)(x3:Int){K:cQ zv→ae→Prop}{h0:ae}(h:Hh x0 x1 x2 x3 K h0):HC PG Av [OF x0,OF x1,OF x2,.int .i64 x3] zv K h0:=dL .nil Tryz.func119 Tryz.call119 rfl rfl (by kernel_rfl) h
def zC(x0:Option Addr)(K:(SliceV)→ae→Prop)(h0:ae):Prop:=
 HC PG Ar [.pointer x0] [.c .raw] (fun(e1:Value) h2=>
 HC PG jT [e1] [.c .slice] (fun(e3:SliceV) h4=>
 HC PG ox [.slice e3.a e3.len e3.cap] [.c .slice] (fun(e5:SliceV) h6=>
 K e5 h6) h4) h2) h0
theorem Ih(x0:Option Addr){K:cQ [.c .slice]→ae→Prop}{h0:ae}(h:zC x0 K h0):HC PG qT [.pointer x0] [.c .slice] K h0:=dL .nil Tryz.func122 Tryz.call122 rfl rfl (by kernel_rfl) h
def zN(x0:SliceV)(K:(SliceV)→ae→Prop)(h0:ae):Prop:=
 HC PG dB [.slice x0.a x0.len x0.cap] [.c .slice] (fun(e1:SliceV) h2=>
 HC PG dh [.slice e1.a e1.len e1.cap,.func (.func rL) #[] #[]] [] (fun(e3:Unit) h4=>
 LoopP (fun I5 (t6:Int×Int) h7=>
 CondP (decide (t6.2<(e1.len:Int))) (
 Join (fun(t24:Int) h25=>
 I5 (t24,IntKind.wrap .i64 (t6.2+1)) h25) (fun J8=>
 (cB t6.2 e1.len∧∃a9,e1.a=some a9∧
 ∃v10,aO h7 (adr a9 (t6.2.toNat*2)) 0 v10∧
 ∃v11,aO h7 (adr a9 (t6.2.toNat*2)) 1 v11∧
 nv h7 kZ al (ij v10 v11) (fun h13=>
 Join (fun(t18:Bool) h19=>
 CondP t18 (
 J8 t6.1 h19) (
 ∃v20,aw h19 h7 0 v20∧
 ∃v21,aw h19 h7 1 v21∧
 (cB t6.1 e1.len∧∃a22,e1.a=some a22∧
 (ml h19 (adr a22 (t6.1.toNat*2)) (ij v20 v21) (fun h23=>
 J8 (IntKind.wrap .i64 (t6.1+1)) h23))))) (fun J14=>
 CondP (decide ((IntKind.wrap .i64 (t6.2+1))<(e1.len:Int))) (
 (cB (IntKind.wrap .i64 (t6.2+1)) e1.len∧∃a15,e1.a=some a15∧
 ∃v16,bM h13 (adr a15 ((IntKind.wrap .i64 (t6.2+1)).toNat*2)) 0 (.string v16)∧
 ∃v17,aw h13 h7 0 v17∧
 J14 (v16.toList==v17.toList) h13)) (
 J14 false h13)))))) (
 (((0:Int)≤t6.1∧t6.1≤((e1.cap:Nat):Int))∧
 K ⟨bj e1.a 0 e1.cap 2,t6.1.toNat-0,e1.cap-0⟩ h7))) (0,0) h4) h2) h0
noncomputable def IG:Ann:=.node .nil (.node .nil (.node .nil (.node .nil (.node (.node .nil (.loop [(4,.c (.int .i64)),(13,.c (.int .i64))] (.node .nil (.node .nil (.join [(4,.c (.int .i64))] (.node .nil (.node (.join [(33,.c .bool)] .nil .nil) .nil)) .nil))))) .nil))))
theorem Iu(x0:SliceV){K:cQ [.c .slice]→ae→Prop}{h0:ae}(h:zN x0 K h0):HC PG ox [.slice x0.a x0.len x0.cap] [.c .slice] K h0:=dL IG Tryz.func123 Tryz.call123 rfl rfl (by kernel_rfl) h
def uG(x0:Int×Int×Int)(x1:ByteArray)(K:(Int)→ae→Prop)(h0:ae):Prop:=
 At (hnew h0 (zt x0) co) (fun h1=>
 ∃v2,cM h1 (adr (aE h0) 0) 0 v2∧
 ∃v3,cM h1 (adr (aE h0) 0) 1 v3∧
 ∃v4,af h1 h0 2 v4∧
 HC PG Dn [Yp v2 v3,.string x1] eW (fun(e5:Int) h6=>
 (af h6 h0 2 v4∧
 Bd (IntKind.wrap .u64 (ao (IntKind.bits .u64) e5&&&ao (IntKind.bits .u64) v4).toNat:Int) (fun n7=>
 K n7 h6))) h1)
theorem Ce(x0:Int×Int×Int)(x1:ByteArray){K:cQ eW→ae→Prop}{h0:ae}(h:uG x0 x1 K h0):HC PG eN [LL x0,.string x1] eW K h0:=dL .nil Tryz.func126 Tryz.call126 rfl rfl (by kernel_rfl) h
def w6(x0:SliceV)(x1:Int)(K:(Option Addr)→ae→Prop)(h0:ae):Prop:=
 At (hnew h0 [.int .i64 x1] nR) (fun h1=>
 ∃v2,aP h1 (aE h0)=some (.int .i64 v2)∧
 CondP (v2==(13:Int)) (
 HC PG qW [] [.c .ptr] (fun(e3:Option Addr) h4=>
 LoopP (fun I5 (t6:(Option Addr)×Int) h7=>
 CondP (decide (t6.2<(x0.len:Int))) (
 (cB t6.2 x0.len∧∃a8,x0.a=some a8∧
 ∃v9,aO h7 (adr a8 (t6.2.toNat*3)) 0 v9∧
 ∃v10,aO h7 (adr a8 (t6.2.toNat*3)) 1 v10∧
 ∃v11,cM h7 (adr a8 (t6.2.toNat*3)) 2 v11∧
 nv h7 NT bW (LT v9 v10 v11) (fun h13=>
 ∃v14,aO h13 (adr (aE h7) 0) 0 v14∧
 ∃v15,aO h13 (adr (aE h7) 0) 1 v15∧
 HC PG jf [.pointer t6.1,.pointer none,qn v14 v15] [.c .ptr] (fun(e16:Option Addr) h17=>
 I5 (e16,IntKind.wrap .i64 (t6.2+1)) h17) h13))) (
 K t6.1 h7)) (e3,0) h4) h1) (
 At (hnew h1 [Value.nilFunc] pi) (fun h18=>
 (Wr h18 (aE h1)∧
 At (hset h18 (aE h1) (.func (.func tl) #[] #[.pointer (some (aE h0))])) (fun h19=>
 HC PG eR [.slice x0.a x0.len x0.cap] [.c .slice] (fun(e20:SliceV) h21=>
 HC PG dM [.slice e20.a e20.len e20.cap,.func (.func th) #[] #[.pointer (some (aE h1))]] [] (fun(e22:Unit) h23=>
 HC PG nz [] [.c .ptr] (fun(e24:Option Addr) h25=>
 LoopP (fun I26 (t27:SliceV×(Option Addr)) h28=>
 CondP (decide ((t27.1.len:Int)>(0:Int))) (
 ∃v29,aP h28 (aE h1)=some (v29)∧
 (cB 0 t27.1.len∧∃a30,t27.1.a=some a30∧
 ∃v31,aO h28 (adr a30 ((0:Int).toNat*3)) 0 v31∧
 ∃v32,aO h28 (adr a30 ((0:Int).toNat*3)) 1 v32∧
 ∃v33,cM h28 (adr a30 ((0:Int).toNat*3)) 2 v33∧
 ((HV PG v29 [Bb v31 v32 v33] cr (fun(e34:Int) h35=>
 At (hnew h35 [.int .i64 0] nR) (fun h36=>
 (Wr h36 (aE h35)∧
 At (hset h36 (aE h35) (.int .i64 e34)) (fun h37=>
 HC PG dg [.slice t27.1.a t27.1.len t27.1.cap,.func (.func tg) #[] #[.pointer (some (aE h1)),.pointer (some (aE h35))]] cr (fun(e38:Int) h39=>
 Join (fun(t41:Int) h42=>
 Join (fun(t56:Option Addr) h57=>
 (((0:Int)≤t41∧t41≤((t27.1.len:Nat):Int))∧
 I26 (⟨bj t27.1.a t41.toNat t27.1.cap 3,t27.1.len-t41.toNat,t27.1.cap-t41.toNat⟩,t56) h57)) (fun J43=>
 CondP (t41==(1:Int)) (
 ∃v44,aP h42 (aE h35)=some (.int .i64 v44)∧
 (cB 0 t27.1.len∧∃a45,t27.1.a=some a45∧
 ∃v46,bM h42 (adr (adr a45 ((0:Int).toNat*3)) 0) 0 (.string v46)∧
 ∃v47,bM h42 (adr (adr a45 ((0:Int).toNat*3)) 0) 1 (.string v47)∧
 HC PG ff [.pointer t27.2,.pointer none,.int .i64 v44,qn v46 v47] [.c .ptr] (fun(e48:Option Addr) h49=>
 J43 e48 h49) h42)) (
 ∃v50,aP h42 (aE h35)=some (.int .i64 v50)∧
 (((0:Int)≤t41∧t41≤((t27.1.cap:Nat):Int))∧
 ∃v51,aP h42 (aE h0)=some (.int .i64 v51)∧
 HC PG pT [.slice (bj t27.1.a 0 t27.1.cap 3) (t41.toNat-0) (t27.1.cap-0),.int .i64 (IntKind.wrap .i64 (v51+1))] [.c .ptr] (fun(e52:Option Addr) h53=>
 (aP h53 (aE h0)=some (.int .i64 v51)∧
 (aP h53 (aE h35)=some (.int .i64 v50)∧
 HC PG gm (EN t27.2 none v50 e52) [.c .ptr] (fun(e54:Option Addr) h55=>
 (aP h55 (aE h0)=some (.int .i64 v51)∧
 J43 e54 h55)) h53))) h42)))) (fun J40=>
 CondP (decide (e38<(0:Int))) (
 J40 (t27.1.len:Int) h39) (
 J40 e38 h39))) h37)))) h28)∧
 At (hnew h28 [.int .i64 0] nR) (fun h58=>
 ((aO h58 (adr a30 ((0:Int).toNat*3)) 0 v31∧aO h58 (adr a30 ((0:Int).toNat*3)) 1 v32∧cM h58 (adr a30 ((0:Int).toNat*3)) 2 v33)∧
 (aP h58 (aE h1)=some (v29)∧
 HV PG v29 [Bb v31 v32 v33] cr (fun(e59:Int) h60=>
 (Wr h60 (aE h28)∧
 At (hset h60 (aE h28) (.int .i64 e59)) (fun h61=>
 HC PG dg [.slice t27.1.a t27.1.len t27.1.cap,.func (.func tg) #[] #[.pointer (some (aE h1)),.pointer (some (aE h28))]] cr (fun(e62:Int) h63=>
 Join (fun(t65:Int) h66=>
 Join (fun(t80:Option Addr) h81=>
 (((0:Int)≤t65∧t65≤((t27.1.len:Nat):Int))∧
 I26 (⟨bj t27.1.a t65.toNat t27.1.cap 3,t27.1.len-t65.toNat,t27.1.cap-t65.toNat⟩,t80) h81)) (fun J67=>
 CondP (t65==(1:Int)) (
 ∃v68,aP h66 (aE h28)=some (.int .i64 v68)∧
 (cB 0 t27.1.len∧∃a69,t27.1.a=some a69∧
 ∃v70,bM h66 (adr (adr a69 ((0:Int).toNat*3)) 0) 0 (.string v70)∧
 ∃v71,bM h66 (adr (adr a69 ((0:Int).toNat*3)) 0) 1 (.string v71)∧
 HC PG ff [.pointer t27.2,.pointer none,.int .i64 v68,qn v70 v71] [.c .ptr] (fun(e72:Option Addr) h73=>
 J67 e72 h73) h66)) (
 ∃v74,aP h66 (aE h28)=some (.int .i64 v74)∧
 (((0:Int)≤t65∧t65≤((t27.1.cap:Nat):Int))∧
 ∃v75,aP h66 (aE h0)=some (.int .i64 v75)∧
 HC PG pT [.slice (bj t27.1.a 0 t27.1.cap 3) (t65.toNat-0) (t27.1.cap-0),.int .i64 (IntKind.wrap .i64 (v75+1))] [.c .ptr] (fun(e76:Option Addr) h77=>
 (aP h77 (aE h0)=some (.int .i64 v75)∧
 (aP h77 (aE h28)=some (.int .i64 v74)∧
 HC PG gm (EN t27.2 none v74 e76) [.c .ptr] (fun(e78:Option Addr) h79=>
 (aP h79 (aE h0)=some (.int .i64 v75)∧
 J67 e78 h79)) h77))) h66)))) (fun J64=>
 CondP (decide (e62<(0:Int))) (
 J64 (t27.1.len:Int) h63) (
 J64 e62 h63))) h61))) h58)))))) (
 K t27.2 h28)) (e20,e24) h25) h23) h21) h19)))))
noncomputable def LI:Ann:=.node .nil (.node (.node .nil (.node (.node .nil (.node (.node .nil (.loop [(5,.c .ptr),(17,.c (.int .i64))] .nil)) .nil)) .nil)) (.node .nil (.node .nil (.node .nil (.node .nil (.node (.loop [(0,.c .slice),(9,.c .ptr)] (.node .nil (.node .nil (.node .nil (.join [(11,.c (.int .i64))] .nil (.join [(9,.c .ptr)] .nil .nil)))))) .nil))))))
theorem Cs(x0:SliceV)(x1:Int){K:cQ [.c .ptr]→ae→Prop}{h0:ae}(h:w6 x0 x1 K h0):HC PG pT (VD x0 x1) [.c .ptr] K h0:=dL LI Tryz.func127 Tryz.call127 rfl rfl (by kernel_rfl) h
def pb(x0:Option Addr)(K:(ByteArray×Bool)→ae→Prop)(h0:ae):Prop:=
 CondP x0.isNone (
 K ((⟨#[]⟩:ByteArray),false) h0) (
 ∃a1,x0=some a1∧
 ∃v2,aO h0 a1 2 v2∧
 ∃a3,x0=some a3∧
 ∃v4,cP h0 a3 1 v4∧
 K (v2,v4) h0)
theorem tG(x0:Option Addr){K:cQ nn→ae→Prop}{h0:ae}(h:pb x0 K h0):HC PG im [.pointer x0] nn K h0:=dL .nil Tryz.func128 Tryz.call128 rfl rfl (by kernel_rfl) h
def uI(x0:Option Addr)(K:(SliceV)→ae→Prop)(h0:ae):Prop:=
 CondP x0.isNone (
 K ⟨none,0,0⟩ h0) (
 ∃a1,x0=some a1∧
 ∃v2:SliceV,bR h0 a1 3 v2∧
 HC PG dE [.slice v2.a v2.len v2.cap] [.c .slice] (fun(e3:SliceV) h4=>
 K e3 h4) h0)
theorem Ci(x0:Option Addr){K:cQ [.c .slice]→ae→Prop}{h0:ae}(h:uI x0 K h0):HC PG kA [.pointer x0] [.c .slice] K h0:=dL .nil Tryz.func129 Tryz.call129 rfl rfl (by kernel_rfl) h
def pZ(x0:Option Addr)(K:(SliceV)→ae→Prop)(h0:ae):Prop:=
 CondP x0.isNone (
 K ⟨none,0,0⟩ h0) (
 ∃a1,x0=some a1∧
 ∃v2:SliceV,bR h0 (adr a1 0) 2 v2∧
 HC PG dB [.slice v2.a v2.len v2.cap] [.c .slice] (fun(e3:SliceV) h4=>
 K e3 h4) h0)
theorem uz(x0:Option Addr){K:cQ [.c .slice]→ae→Prop}{h0:ae}(h:pZ x0 K h0):HC PG fi [.pointer x0] [.c .slice] K h0:=dL .nil Tryz.func130 Tryz.call130 rfl rfl (by kernel_rfl) h
def qH(x0:Option Addr)(K:(SliceV)→ae→Prop)(h0:ae):Prop:=
 CondP x0.isNone (
 K ⟨none,0,0⟩ h0) (
 ∃a1,x0=some a1∧
 ∃v2:SliceV,bR h0 (adr a1 0) 3 v2∧
 HC PG dT [.slice v2.a v2.len v2.cap] [.c .slice] (fun(e3:SliceV) h4=>
 K e3 h4) h0)
theorem vP(x0:Option Addr){K:cQ [.c .slice]→ae→Prop}{h0:ae}(h:qH x0 K h0):HC PG ny [.pointer x0] [.c .slice] K h0:=dL .nil Tryz.func131 Tryz.call131 rfl rfl (by kernel_rfl) h
def se(x0:Option Addr)(x1:SliceV)(K:(SliceV)→ae→Prop)(h0:ae):Prop:=
 ∃a1,x0=some a1∧
 ∃v2,aO h0 a1 0 v2∧
 HC PG ns (HJ x1 v2) [.c .slice] (fun(e3:SliceV) h4=>
 Join (fun(t20:SliceV) h21=>
 Join (fun(t32:SliceV) h33=>
 ∃a34,x0=some a34∧
 ∃v35:SliceV,bR h33 a34 3 v35∧
 LoopP (fun I36 (t37:SliceV×Int) h38=>
 CondP (decide (t37.2<(v35.len:Int))) (
 (cB t37.2 v35.len∧∃a39,v35.a=some a39∧
 ∃v40,bM h38 a39 (t37.2.toNat*1) (.pointer v40)∧
 HC PG kV (Xr v40 t37.1) [.c .slice] (fun(e41:SliceV) h42=>
 I36 (e41,IntKind.wrap .i64 (t37.2+1)) h42) h38)) (
 K t37.1 h38)) (t32,0) h33) (fun J22=>
 ∃a23,x0=some a23∧
 ∃v24:SliceV,bR h21 a23 3 v24∧
 ∃a25,x0=some a25∧
 ∃v26:SliceV,bR h21 a25 3 v26∧
 ((0:Int)≤(8:Int)∧
 Bd (dY (v26.len:Int) (2^(min (8:Int).toNat (IntKind.bits .i64))):Int) (fun n27=>
 At (hnew h21 (VB (IntKind.wrap .u8 (v24.len:Int)) (IntKind.wrap .u8 n27)) cH) (fun h28=>
 (bR h28 a25 3 v26∧
 (bR h28 a23 3 v24∧
 ∃xs29,SRow h28 (some (aE h21)) (2*1) xs29∧
 AppP (some [.int .u8 0]) 1 1 cH t20.a t20.len t20.cap 2 xs29 h28 (fun s30 h31=>
 (bR h31 a25 3 v26∧
 (bR h31 a23 3 v24∧
 J22 s30 h31)))))))))) (fun J5=>
 ∃a6,x0=some a6∧
 ∃v7,cP h4 a6 1 v7∧
 CondP v7 (
 ∃a8,x0=some a8∧
 ∃v9,aO h4 a8 2 v9∧
 At (hnew h4 [.int .u8 1] cH) (fun h10=>
 (aO h10 a8 2 v9∧
 ∃xs11,SRow h10 (some (aE h4)) (1*1) xs11∧
 AppP (some [.int .u8 0]) 1 1 cH e3.a e3.len e3.cap 1 xs11 h10 (fun s12 h13=>
 (aO h13 a8 2 v9∧
 HC PG ns (HJ s12 v9) [.c .slice] (fun(e14:SliceV) h15=>
 J5 e14 h15) h13))))) (
 At (hnew h4 [.int .u8 0] cH) (fun h16=>
 ∃xs17,SRow h16 (some (aE h4)) (1*1) xs17∧
 AppP (some [.int .u8 0]) 1 1 cH e3.a e3.len e3.cap 1 xs17 h16 (fun s18 h19=>
 J5 s18 h19))))) h0
noncomputable def ze:Ann:=.node .nil (.node .nil (.join [(1,.c .slice)] .nil (.join [(1,.c .slice)] .nil (.node (.node .nil (.loop [(1,.c .slice),(49,.c (.int .i64))] .nil)) .nil))))
theorem y7(x0:Option Addr)(x1:SliceV){K:cQ [.c .slice]→ae→Prop}{h0:ae}(h:se x0 x1 K h0):HC PG kV (Xr x0 x1) [.c .slice] K h0:=dL ze Tryz.func132 Tryz.call132 rfl rfl (by kernel_rfl) h
def yw(x0:SliceV)(x1:Option Addr)(x2:Int)(K:(SliceV)→ae→Prop)(h0:ae):Prop:=
 HC PG eQ [.pointer x1] [.c .bool] (fun(e1:Bool) h2=>
 CondP e1 (
 At (hnew h2 [.int .u8 1] cH) (fun h3=>
 ∃xs4,SRow h3 (some (aE h2)) (1*1) xs4∧
 AppP (some [.int .u8 0]) 1 1 cH x0.a x0.len x0.cap 1 xs4 h3 (fun s5 h6=>
 HC PG rM [.pointer x1] cr (fun(e7:Int) h8=>
 HC PG m3 (Rs s5 (IntKind.wrap .u64 e7) 2) [.c .slice] (fun(e9:SliceV) h10=>
 HC PG fi [.pointer x1] [.c .slice] (fun(e11:SliceV) h12=>
 HC PG qU (Qi e9 e11) [.c .slice] (fun(e13:SliceV) h14=>
 K e13 h14) h12) h10) h8) h6))) (
 Join (fun(t28:SliceV) h29=>
 HC PG fi [.pointer x1] [.c .slice] (fun(e30:SliceV) h31=>
 HC PG qU (Qi t28 e30) [.c .slice] (fun(e32:SliceV) h33=>
 CondP (x2==(13:Int)) (
 K e32 h33) (
 HC PG ny [.pointer x1] [.c .slice] (fun(e34:SliceV) h35=>
 LoopP (fun I36 (t37:SliceV×Int) h38=>
 CondP (decide (t37.2<(e34.len:Int))) (
 (cB t37.2 e34.len∧∃a39,e34.a=some a39∧
 ∃v40,bM h38 a39 (t37.2.toNat*1) (.pointer v40)∧
 HC PG ul (VC t37.1 v40 (IntKind.wrap .i64 (x2+1))) [.c .slice] (fun(e41:SliceV) h42=>
 I36 (e41,IntKind.wrap .i64 (t37.2+1)) h42) h38)) (
 K t37.1 h38)) (e32,0) h35) h33)) h31) h29) (fun J15=>
 At (hnew h2 [.int .u8 0] cH) (fun h16=>
 ∃xs17,SRow h16 (some (aE h2)) (1*1) xs17∧
 AppP (some [.int .u8 0]) 1 1 cH x0.a x0.len x0.cap 1 xs17 h16 (fun s18 h19=>
 HC PG lg [.pointer x1] j7 (fun(e20:Int) h21=>
 HC PG m3 (Rs s18 (IntKind.wrap .u64 e20) 4) [.c .slice] (fun(e22:SliceV) h23=>
 HC PG iS [.pointer x1] j7 (fun(e24:Int) h25=>
 HC PG m3 (Rs e22 (IntKind.wrap .u64 e24) 4) [.c .slice] (fun(e26:SliceV) h27=>
 J15 e26 h27) h25) h23) h21) h19))))) h0
noncomputable def NG:Ann:=.node .nil (.node .nil (.join [(0,.c .slice)] .nil (.node .nil (.node .nil (.node (.node .nil (.loop [(0,.c .slice),(42,.c (.int .i64))] .nil)) .nil)))))
theorem Er(x0:SliceV)(x1:Option Addr)(x2:Int){K:cQ [.c .slice]→ae→Prop}{h0:ae}(h:yw x0 x1 x2 K h0):HC PG ul (VC x0 x1 x2) [.c .slice] K h0:=dL NG Tryz.func133 Tryz.call133 rfl rfl (by kernel_rfl) h
def Hl(x0:ByteArray)(K:(SliceV)→ae→Prop)(h0:ae):Prop:=
 HC PG sP [.int .i64 (x0.size:Int)] [.c .slice] (fun(e1:SliceV) h2=>
 ByP cH x0 h2 (fun c3 h4=>
 ∃xs5,SRow h4 (some (aE h2)) (x0.size*1) xs5∧
 AppP (some [.int .u8 0]) 1 1 cH e1.a e1.len e1.cap x0.size xs5 h4 (fun s6 h7=>
 K s6 h7))) h0
theorem PJ(x0:ByteArray){K:cQ [.c .slice]→ae→Prop}{h0:ae}(h:Hl x0 K h0):HC PG qE [.string x0] [.c .slice] K h0:=dL .nil Tryz.func134 Tryz.call134 rfl rfl (by kernel_rfl) h
def J0(x0:Int)(K:(SliceV)→ae→Prop)(h0:ae):Prop:=
 ((256:Int)≠0∧
 At (hnew h0 (VB (IntKind.wrap .u8 x0) (IntKind.wrap .u8 (IntKind.wrap .i64 (lj x0 256)))) cH) (fun h1=>
 K ⟨some (aE h0),2,2⟩ h1))
theorem SW(x0:Int){K:cQ [.c .slice]→ae→Prop}{h0:ae}(h:J0 x0 K h0):HC PG sP [.int .i64 x0] [.c .slice] K h0:=dL .nil Tryz.func135 Tryz.call135 rfl rfl (by kernel_rfl) h
def Cv(x0:SliceV)(K:(SliceV)→ae→Prop)(h0:ae):Prop:=
 LoopP (fun I1 (t2:SliceV×Int) h3=>
 CondP (decide (t2.2<(x0.len:Int))) (
 LoopP (fun I4 (t5:Int) h6=>
 Join (fun(t14:Bool) h15=>
 CondP t14 (
 I4 (IntKind.wrap .i64 (t5+1)) h15) (
 (((0:Int)≤t5∧t5≤((x0.cap:Nat):Int))∧
 (((0:Int)≤t2.2∧t2.2≤((t5.toNat:Nat):Int))∧
 HC PG wL [.slice (bj x0.a t2.2.toNat x0.cap 2) (t5.toNat-t2.2.toNat) (x0.cap-t2.2.toNat)] [.c .ptr] (fun(e16:Option Addr) h17=>
 At (hnew h17 [.pointer e16] sy) (fun h18=>
 ∃xs19,SRow h18 (some (aE h17)) (1*1) xs19∧
 AppP (some [.pointer none]) 1 8 sy t2.1.a t2.1.len t2.1.cap 1 xs19 h18 (fun s20 h21=>
 I1 (s20,t5) h21))) h15)))) (fun J7=>
 CondP (decide (t5<(x0.len:Int))) (
 (cB t5 x0.len∧∃a8,x0.a=some a8∧
 ∃v9,aO h6 (adr a8 (t5.toNat*2)) 0 v9∧
 ∃b10,(0:Int)≤(0:Int)∧v9[(0:Int).toNat]? =some b10∧
 (cB t2.2 x0.len∧∃a11,x0.a=some a11∧
 ∃v12,aO h6 (adr a11 (t2.2.toNat*2)) 0 v12∧
 ∃b13,(0:Int)≤(0:Int)∧v12[(0:Int).toNat]? =some b13∧
 J7 ((b10.toNat:Int)==(b13.toNat:Int)) h6))) (
 J7 false h6))) t2.2 h3) (
 K t2.1 h3)) (⟨none,0,0⟩,0) h0
noncomputable def LD:Ann:=.node .nil (.node .nil (.node (.node .nil (.loop [(3,.c .slice),(4,.c (.int .i64))] (.node .nil (.node .nil (.node (.loop [(5,.c (.int .i64))] (.node (.join [(29,.c .bool)] .nil .nil) .nil)) .nil))))) .nil))
theorem Lr(x0:SliceV){K:cQ [.c .slice]→ae→Prop}{h0:ae}(h:Cv x0 K h0):HC PG sF [.slice x0.a x0.len x0.cap] [.c .slice] K h0:=dL LD Tryz.func136 Tryz.call136 rfl rfl (by kernel_rfl) h
def EA(x0:SliceV)(K:(SliceV)→ae→Prop)(h0:ae):Prop:=
 LoopP (fun I1 (t2:SliceV×Int) h3=>
 CondP (decide (t2.2<(x0.len:Int))) (
 Join (fun(t22:SliceV) h23=>
 I1 (t22,IntKind.wrap .i64 (t2.2+1)) h23) (fun J4=>
 (cB t2.2 x0.len∧∃a5,x0.a=some a5∧
 ∃v6,aO h3 (adr a5 (t2.2.toNat*2)) 0 v6∧
 ∃v7,aO h3 (adr a5 (t2.2.toNat*2)) 1 v7∧
 nv h3 kZ bS (ij v6 v7) (fun h9=>
 ∃v10,aw h9 h3 0 v10∧
 ∃v11,aw h9 h3 1 v11∧
 HC PG qE [.string v10] [.c .slice] (fun(e12:SliceV) h13=>
 (aw h13 h3 1 v11∧
 ∃xs14,SRow h13 e12.a (e12.len*1) xs14∧
 AppP (some [.int .u8 0]) 1 1 cH t2.1.a t2.1.len t2.1.cap e12.len xs14 h13 (fun s15 h16=>
 (aw h16 h3 1 v11∧
 HC PG qE [.string v11] [.c .slice] (fun(e17:SliceV) h18=>
 ∃xs19,SRow h18 e17.a (e17.len*1) xs19∧
 AppP (some [.int .u8 0]) 1 1 cH s15.a s15.len s15.cap e17.len xs19 h18 (fun s20 h21=>
 J4 s20 h21)) h16)))) h9)))) (
 K t2.1 h3)) (⟨none,0,0⟩,0) h0
noncomputable def NK:Ann:=.node .nil (.node .nil (.node (.node .nil (.loop [(3,.c .slice),(8,.c (.int .i64))] (.node .nil (.node .nil (.join [(3,.c .slice)] .nil .nil))))) .nil))
theorem Nn(x0:SliceV){K:cQ [.c .slice]→ae→Prop}{h0:ae}(h:EA x0 K h0):HC PG rp [.slice x0.a x0.len x0.cap] [.c .slice] K h0:=dL NK Tryz.func137 Tryz.call137 rfl rfl (by kernel_rfl) h
def Ho(x0:Int)(K:(SliceV)→ae→Prop)(h0:ae):Prop:=
 ((256:Int)≠0∧
 ((65536:Int)≠0∧
 ((16777216:Int)≠0∧
 At (hnew h0 (Ym (IntKind.wrap .u8 x0) (IntKind.wrap .u8 (IntKind.wrap .u32 (lj x0 256))) (IntKind.wrap .u8 (IntKind.wrap .u32 (lj x0 65536))) (IntKind.wrap .u8 (IntKind.wrap .u32 (lj x0 16777216)))) cH) (fun h1=>
 K ⟨some (aE h0),4,4⟩ h1))))
theorem PL(x0:Int){K:cQ [.c .slice]→ae→Prop}{h0:ae}(h:Ho x0 K h0):HC PG wN [.int .u32 x0] [.c .slice] K h0:=dL .nil Tryz.func138 Tryz.call138 rfl rfl (by kernel_rfl) h
def Hq(x0:Int×Int×Int)(x1:ByteArray)(K:(Int)→ae→Prop)(h0:ae):Prop:=
 At (hnew h0 (zt x0) su) (fun h1=>
 ∃v2,af h1 h0 0 v2∧
 ∃v3,af h1 h0 1 v3∧
 ∃v4,af h1 h0 2 v4∧
 HC PG Dr (Xp v2 v3 x1) eW (fun(e5:Int) h6=>
 (af h6 h0 2 v4∧
 Bd (IntKind.wrap .u64 (ao (IntKind.bits .u64) e5&&&ao (IntKind.bits .u64) v4).toNat:Int) (fun n7=>
 K n7 h6))) h1)
theorem PM(x0:Int×Int×Int)(x1:ByteArray){K:cQ eW→ae→Prop}{h0:ae}(h:Hq x0 x1 K h0):HC PG Ay [LL x0,.string x1] eW K h0:=dL .nil Tryz.func139 Tryz.call139 rfl rfl (by kernel_rfl) h
def Hp(x0:SliceV)(x1:SliceV)(x2:Int)(K:(Option Addr)→ae→Prop)(h0:ae):Prop:=
 CondP (x2==(13:Int)) (
 At (hnew h0 ((.bool true)::(.slice x0.a x0.len x0.cap)::(.int .i64 0)::(.int .i64 0)::(.int .i64 0)::(.int .i64 0)::(.int .i64 0)::(.int .i64 0)::(.int .i64 0)::(.int .i64 0)::(.int .i64 0)::(.int .i64 0)::(.int .i64 0)::(.int .i64 0)::(.int .i64 0)::(.int .i64 0)::(.int .i64 0)::(.int .i64 0)::(.int .i64 0)::(.int .i64 0)::(.int .i64 0)::(.int .i64 0)::(.int .i64 0)::(.int .i64 0)::(.int .i64 0)::(.int .i64 0)::(.int .i64 0)::(.int .i64 0)::(.int .i64 0)::(.int .i64 0)::(.int .i64 0)::(.int .i64 0)::(.int .i64 0)::(.int .i64 0)::(.string (⟨#[]⟩:ByteArray))::(.string (⟨#[]⟩:ByteArray))::(.string (⟨#[]⟩:ByteArray))::(.string (⟨#[]⟩:ByteArray))::(.string (⟨#[]⟩:ByteArray))::(.string (⟨#[]⟩:ByteArray))::(.string (⟨#[]⟩:ByteArray))::(.string (⟨#[]⟩:ByteArray))::(.string (⟨#[]⟩:ByteArray))::(.string (⟨#[]⟩:ByteArray))::(.string (⟨#[]⟩:ByteArray))::(.string (⟨#[]⟩:ByteArray))::(.string (⟨#[]⟩:ByteArray))::(.string (⟨#[]⟩:ByteArray))::(.string (⟨#[]⟩:ByteArray))::(.string (⟨#[]⟩:ByteArray))::(.string (⟨#[]⟩:ByteArray))::(.string (⟨#[]⟩:ByteArray))::(.string (⟨#[]⟩:ByteArray))::(.string (⟨#[]⟩:ByteArray))::(.string (⟨#[]⟩:ByteArray))::(.string (⟨#[]⟩:ByteArray))::(.string (⟨#[]⟩:ByteArray))::(.string (⟨#[]⟩:ByteArray))::(.string (⟨#[]⟩:ByteArray))::(.string (⟨#[]⟩:ByteArray))::(.string (⟨#[]⟩:ByteArray))::(.string (⟨#[]⟩:ByteArray))::(.string (⟨#[]⟩:ByteArray))::(.string (⟨#[]⟩:ByteArray))::(.string (⟨#[]⟩:ByteArray))::(.string (⟨#[]⟩:ByteArray))::(.string (⟨#[]⟩:ByteArray))::(.string (⟨#[]⟩:ByteArray))::(.string (⟨#[]⟩:ByteArray))::(.string (⟨#[]⟩:ByteArray))::(.string (⟨#[]⟩:ByteArray))::(.string (⟨#[]⟩:ByteArray))::(.string (⟨#[]⟩:ByteArray))::(.string (⟨#[]⟩:ByteArray))::(.string (⟨#[]⟩:ByteArray))::(.string (⟨#[]⟩:ByteArray))::(.string (⟨#[]⟩:ByteArray))::(.string (⟨#[]⟩:ByteArray))::(.string (⟨#[]⟩:ByteArray))::(.string (⟨#[]⟩:ByteArray))::(.string (⟨#[]⟩:ByteArray))::(.string (⟨#[]⟩:ByteArray))::(.string (⟨#[]⟩:ByteArray))::(.string (⟨#[]⟩:ByteArray))::(.string (⟨#[]⟩:ByteArray))::(.string (⟨#[]⟩:ByteArray))::(.string (⟨#[]⟩:ByteArray))::(.string (⟨#[]⟩:ByteArray))::(.string (⟨#[]⟩:ByteArray))::(.string (⟨#[]⟩:ByteArray))::(.string (⟨#[]⟩:ByteArray))::(.string (⟨#[]⟩:ByteArray))::(.string (⟨#[]⟩:ByteArray))::(.string (⟨#[]⟩:ByteArray))::(.string (⟨#[]⟩:ByteArray))::(.string (⟨#[]⟩:ByteArray))::(.string (⟨#[]⟩:ByteArray))::(.string (⟨#[]⟩:ByteArray))::(.pointer none)::(.pointer none)::(.pointer none)::(.pointer none)::(.pointer none)::(.pointer none)::(.pointer none)::(.pointer none)::(.pointer none)::(.pointer none)::(.pointer none)::(.pointer none)::(.pointer none)::(.pointer none)::(.pointer none)::(.pointer none)::(.pointer none)::(.pointer none)::(.pointer none)::(.pointer none)::(.pointer none)::(.pointer none)::(.pointer none)::(.pointer none)::(.pointer none)::(.pointer none)::(.pointer none)::(.pointer none)::(.pointer none)::(.pointer none)::(.pointer none)::(.pointer none):: []) iZ) (fun h1=>
 K (some (aE h0)) h1)) (
 At (hnew h0 ((.bool false)::(.slice none 0 0)::(.int .i64 0)::(.int .i64 0)::(.int .i64 0)::(.int .i64 0)::(.int .i64 0)::(.int .i64 0)::(.int .i64 0)::(.int .i64 0)::(.int .i64 0)::(.int .i64 0)::(.int .i64 0)::(.int .i64 0)::(.int .i64 0)::(.int .i64 0)::(.int .i64 0)::(.int .i64 0)::(.int .i64 0)::(.int .i64 0)::(.int .i64 0)::(.int .i64 0)::(.int .i64 0)::(.int .i64 0)::(.int .i64 0)::(.int .i64 0)::(.int .i64 0)::(.int .i64 0)::(.int .i64 0)::(.int .i64 0)::(.int .i64 0)::(.int .i64 0)::(.int .i64 0)::(.int .i64 0)::(.string (⟨#[]⟩:ByteArray))::(.string (⟨#[]⟩:ByteArray))::(.string (⟨#[]⟩:ByteArray))::(.string (⟨#[]⟩:ByteArray))::(.string (⟨#[]⟩:ByteArray))::(.string (⟨#[]⟩:ByteArray))::(.string (⟨#[]⟩:ByteArray))::(.string (⟨#[]⟩:ByteArray))::(.string (⟨#[]⟩:ByteArray))::(.string (⟨#[]⟩:ByteArray))::(.string (⟨#[]⟩:ByteArray))::(.string (⟨#[]⟩:ByteArray))::(.string (⟨#[]⟩:ByteArray))::(.string (⟨#[]⟩:ByteArray))::(.string (⟨#[]⟩:ByteArray))::(.string (⟨#[]⟩:ByteArray))::(.string (⟨#[]⟩:ByteArray))::(.string (⟨#[]⟩:ByteArray))::(.string (⟨#[]⟩:ByteArray))::(.string (⟨#[]⟩:ByteArray))::(.string (⟨#[]⟩:ByteArray))::(.string (⟨#[]⟩:ByteArray))::(.string (⟨#[]⟩:ByteArray))::(.string (⟨#[]⟩:ByteArray))::(.string (⟨#[]⟩:ByteArray))::(.string (⟨#[]⟩:ByteArray))::(.string (⟨#[]⟩:ByteArray))::(.string (⟨#[]⟩:ByteArray))::(.string (⟨#[]⟩:ByteArray))::(.string (⟨#[]⟩:ByteArray))::(.string (⟨#[]⟩:ByteArray))::(.string (⟨#[]⟩:ByteArray))::(.string (⟨#[]⟩:ByteArray))::(.string (⟨#[]⟩:ByteArray))::(.string (⟨#[]⟩:ByteArray))::(.string (⟨#[]⟩:ByteArray))::(.string (⟨#[]⟩:ByteArray))::(.string (⟨#[]⟩:ByteArray))::(.string (⟨#[]⟩:ByteArray))::(.string (⟨#[]⟩:ByteArray))::(.string (⟨#[]⟩:ByteArray))::(.string (⟨#[]⟩:ByteArray))::(.string (⟨#[]⟩:ByteArray))::(.string (⟨#[]⟩:ByteArray))::(.string (⟨#[]⟩:ByteArray))::(.string (⟨#[]⟩:ByteArray))::(.string (⟨#[]⟩:ByteArray))::(.string (⟨#[]⟩:ByteArray))::(.string (⟨#[]⟩:ByteArray))::(.string (⟨#[]⟩:ByteArray))::(.string (⟨#[]⟩:ByteArray))::(.string (⟨#[]⟩:ByteArray))::(.string (⟨#[]⟩:ByteArray))::(.string (⟨#[]⟩:ByteArray))::(.string (⟨#[]⟩:ByteArray))::(.string (⟨#[]⟩:ByteArray))::(.string (⟨#[]⟩:ByteArray))::(.string (⟨#[]⟩:ByteArray))::(.string (⟨#[]⟩:ByteArray))::(.string (⟨#[]⟩:ByteArray))::(.string (⟨#[]⟩:ByteArray))::(.string (⟨#[]⟩:ByteArray))::(.string (⟨#[]⟩:ByteArray))::(.string (⟨#[]⟩:ByteArray))::(.pointer none)::(.pointer none)::(.pointer none)::(.pointer none)::(.pointer none)::(.pointer none)::(.pointer none)::(.pointer none)::(.pointer none)::(.pointer none)::(.pointer none)::(.pointer none)::(.pointer none)::(.pointer none)::(.pointer none)::(.pointer none)::(.pointer none)::(.pointer none)::(.pointer none)::(.pointer none)::(.pointer none)::(.pointer none)::(.pointer none)::(.pointer none)::(.pointer none)::(.pointer none)::(.pointer none)::(.pointer none)::(.pointer none)::(.pointer none)::(.pointer none)::(.pointer none):: []) iZ) (fun h2=>
 LoopP (fun I3 (t4:Int) h5=>
 CondP (decide (t4<(32:Int))) (
 Join (fun(t65:Unit) h66=>
 I3 (IntKind.wrap .i64 (t4+1)) h66) (fun J6=>
 LoopP (fun I7 (t8:SliceV×SliceV×Int) h9=>
 CondP (decide (t8.2.2<(x0.len:Int))) (
 Join (fun(t47:SliceV×SliceV) h48=>
 I7 (t47.1,t47.2,IntKind.wrap .i64 (t8.2.2+1)) h48) (fun J10=>
 (cB t8.2.2 x0.len∧∃a11,x0.a=some a11∧
 ∃v12,aO h9 (adr a11 (t8.2.2.toNat*2)) 0 v12∧
 ∃v13,aO h9 (adr a11 (t8.2.2.toNat*2)) 1 v13∧
 nv h9 kZ bS (ij v12 v13) (fun h15=>
 (cB t8.2.2 x1.len∧∃a16,x1.a=some a16∧
 ∃v17,bM h15 a16 (t8.2.2.toNat*1) (.int .u64 v17)∧
 HC PG BN (nf v17 x2) cr (fun(e18:Int) h19=>
 CondP (e18==t4) (
 ∃v20,aw h19 h9 0 v20∧
 ∃v21,aw h19 h9 1 v21∧
 (cB t8.2.2 x1.len∧∃a22,x1.a=some a22∧
 ∃v23,bM h19 a22 (t8.2.2.toNat*1) (.int .u64 v23)∧
 ((At (hnew h19 (ij v20 v21) bS) (fun h24=>
 (bM h24 a22 (t8.2.2.toNat*1) (.int .u64 v23)∧
 ((∃xs25,SRow h24 (some (aE h19)) (1*2) xs25∧
 AppP (some kZ) 2 32 bS t8.1.a t8.1.len t8.1.cap 1 xs25 h24 (fun s26 h27=>
 (bM h27 a22 (t8.2.2.toNat*1) (.int .u64 v23)∧
 At (hnew h27 [.int .u64 v23] pv) (fun h28=>
 ∃xs29,SRow h28 (some (aE h27)) (1*1) xs29∧
 AppP (some [.int .u64 0]) 1 8 pv t8.2.1.a t8.2.1.len t8.2.1.cap 1 xs29 h28 (fun s30 h31=>
 J10 (s26,s30) h31)))))∧
 At (hnew h24 [.int .u64 v23] pv) (fun h32=>
 ∃xs33,SRow h32 (some (aE h19)) (1*2) xs33∧
 AppP (some kZ) 2 32 bS t8.1.a t8.1.len t8.1.cap 1 xs33 h32 (fun s34 h35=>
 ∃xs36,SRow h35 (some (aE h24)) (1*1) xs36∧
 AppP (some [.int .u64 0]) 1 8 pv t8.2.1.a t8.2.1.len t8.2.1.cap 1 xs36 h35 (fun s37 h38=>
 J10 (s34,s37) h38)))))))∧
 At (hnew h19 [.int .u64 v23] pv) (fun h39=>
 ((aw h39 h9 0 v20∧aw h39 h9 1 v21)∧
 At (hnew h39 (ij v20 v21) bS) (fun h40=>
 ∃xs41,SRow h40 (some (aE h39)) (1*2) xs41∧
 AppP (some kZ) 2 32 bS t8.1.a t8.1.len t8.1.cap 1 xs41 h40 (fun s42 h43=>
 ∃xs44,SRow h43 (some (aE h19)) (1*1) xs44∧
 AppP (some [.int .u64 0]) 1 8 pv t8.2.1.a t8.2.1.len t8.2.1.cap 1 xs44 h43 (fun s45 h46=>
 J10 (s42,s45) h46)))))))) (
 J10 (t8.1,t8.2.1) h19)) h15))))) (
 Join (fun(t57:Unit) h58=>
 CondP (decide ((t8.1.len:Int)>(1:Int))) (
 ∃a59,some (aE h0)=some a59∧
 ∃a60,some (aE h0)=some a60∧
 HC PG BM (Ru t8.1 t8.2.1 (IntKind.wrap .i64 (x2+1))) [.c .ptr] (fun(e61:Option Addr) h62=>
 (cB t4 32∧
 (dS h62 (adr (adr a59 2) (t4.toNat*1)) (.int .i64 2) (fun h63=>
 (cB t4 32∧
 (dS h63 (adr (adr a60 98) (t4.toNat*1)) (.pointer e61) (fun h64=>
 J6 () h64))))))) h58) (
 J6 () h58)) (fun J49=>
 CondP ((t8.1.len:Int)==(1:Int)) (
 (cB 0 t8.1.len∧∃a50,t8.1.a=some a50∧
 ∃v51,aO h9 (adr a50 ((0:Int).toNat*2)) 0 v51∧
 ∃v52,aO h9 (adr a50 ((0:Int).toNat*2)) 1 v52∧
 ∃a53,some (aE h0)=some a53∧
 (cB t4 32∧
 ∃a54,some (aE h0)=some a54∧
 (dS h9 (adr (adr a53 2) (t4.toNat*1)) (.int .i64 1) (fun h55=>
 (cB t4 32∧
 (ml h55 (adr (adr a54 34) (t4.toNat*2)) (ij v51 v52) (fun h56=>
 J49 () h56)))))))) (
 J49 () h9)))) (⟨none,0,0⟩,⟨none,0,0⟩,0) h5)) (
 K (some (aE h0)) h5)) 0 h2))
noncomputable def Vl:Ann:=.node .nil (.node .nil (.node .nil (.node (.node .nil (.loop [(8,.c (.int .i64))] (.node .nil (.join [] (.node .nil (.node .nil (.node (.node .nil (.loop [(9,.c .slice),(10,.c .slice),(26,.c (.int .i64))] (.node .nil (.node .nil (.join [(9,.c .slice),(10,.c .slice)] .nil .nil))))) (.join [] .nil .nil)))) .nil)))) .nil)))
theorem Nq(x0:SliceV)(x1:SliceV)(x2:Int){K:cQ [.c .ptr]→ae→Prop}{h0:ae}(h:Hp x0 x1 x2 K h0):HC PG BM (Ru x0 x1 x2) [.c .ptr] K h0:=dL Vl Tryz.func140 Tryz.call140 rfl rfl (by kernel_rfl) h
def tN(x0:Option Addr)(K:(Bool)→ae→Prop)(h0:ae):Prop:=
 ∃a1,x0=some a1∧
 ∃v2:SliceV,bR h0 a1 3 v2∧
 LoopP (fun I3 (t4:Int) h5=>
 CondP (decide (t4<(v2.len:Int))) (
 (cB t4 v2.len∧∃a6,v2.a=some a6∧
 ∃v7,bM h5 a6 (t4.toNat*1) (.pointer v7)∧
 Join (fun(t21:Bool) h22=>
 CondP t21 (
 K false h22) (
 I3 (IntKind.wrap .i64 (t4+1)) h22)) (fun J8=>
 ∃a9,v7=some a9∧
 ∃v10,aO h5 a9 0 v10∧
 CondP (v10.toList==(⟨#[]⟩:ByteArray).toList) (
 J8 true h5) (
 CondP (decide (t4>(0:Int))) (
 ∃a11,x0=some a11∧
 ∃v12:SliceV,bR h5 a11 3 v12∧
 (cB (IntKind.wrap .i64 (t4-1)) v12.len∧∃a13,v12.a=some a13∧
 ∃v14,bM h5 a13 ((IntKind.wrap .i64 (t4-1)).toNat*1) (.pointer v14)∧
 ∃a15,v14=some a15∧
 ∃v16,aO h5 a15 0 v16∧
 ∃b17,(0:Int)≤(0:Int)∧v16[(0:Int).toNat]? =some b17∧
 ∃a18,v7=some a18∧
 ∃v19,aO h5 a18 0 v19∧
 ∃b20,(0:Int)≤(0:Int)∧v19[(0:Int).toNat]? =some b20∧
 J8 (decide ((b17.toNat:Int)≥(b20.toNat:Int))) h5)) (
 J8 false h5))))) (
 K true h5)) 0 h0
noncomputable def AZ:Ann:=.node .nil (.node (.node .nil (.loop [(10,.c (.int .i64))] (.node .nil (.node .nil (.node (.node .nil (.join [(43,.c .bool)] .nil .nil)) .nil))))) .nil)
theorem AO(x0:Option Addr){K:cQ [.c .bool]→ae→Prop}{h0:ae}(h:tN x0 K h0):HC PG lN [.pointer x0] [.c .bool] K h0:=dL AZ Tryz.func141 Tryz.call141 rfl rfl (by kernel_rfl) h
def fF(x0:SliceV)(x1:Value)(K:(Bool)→ae→Prop)(h0:ae):Prop:=
 HC PG ga [.slice x0.a x0.len x0.cap,x1] cr (fun(e1:Int) h2=>
 K (decide (e1≥(0:Int))) h2) h0
theorem j6(x0:SliceV)(x1:Value){K:cQ [.c .bool]→ae→Prop}{h0:ae}(h:fF x0 x1 K h0):HC PG cW [.slice x0.a x0.len x0.cap,x1] [.c .bool] K h0:=dL .nil Tryz.func142 Tryz.call142 rfl rfl (by kernel_rfl) h
def xi(x0:Option Addr)(K:(Bool)→ae→Prop)(h0:ae):Prop:=
 HC PG kW [.pointer x0] [.c .bool] (fun(e1:Bool) h2=>
 K (!e1) h2) h0
theorem EY(x0:Option Addr){K:cQ [.c .bool]→ae→Prop}{h0:ae}(h:xi x0 K h0):HC PG xd [.pointer x0] [.c .bool] K h0:=dL .nil Tryz.func143 Tryz.call143 rfl rfl (by kernel_rfl) h
def sm(x0:Option Addr)(K:(Bool)→ae→Prop)(h0:ae):Prop:=
 Join (fun(t8:Bool) h9=>
 CondP t8 (
 K false h9) (
 ∃a10,x0=some a10∧
 ∃v11:SliceV,bR h9 a10 3 v11∧
 HC PG cW [.slice v11.a v11.len v11.cap,.func (.func qp) #[] #[]] [.c .bool] (fun(e12:Bool) h13=>
 K (!e12) h13) h9)) (fun J1=>
 HC PG lN [.pointer x0] [.c .bool] (fun(e2:Bool) h3=>
 CondP (!e2) (
 J1 true h3) (
 ∃a4,x0=some a4∧
 ∃v5,cP h3 a4 1 v5∧
 CondP (!v5) (
 ∃a6,x0=some a6∧
 ∃v7:SliceV,bR h3 a6 3 v7∧
 J1 (decide ((v7.len:Int)<(2:Int))) h3) (
 J1 false h3))) h0)
noncomputable def zg:Ann:=.node .nil (.node (.join [(20,.c .bool)] .nil .nil) .nil)
theorem y9(x0:Option Addr){K:cQ [.c .bool]→ae→Prop}{h0:ae}(h:sm x0 K h0):HC PG kW [.pointer x0] [.c .bool] K h0:=dL zg Tryz.func144 Tryz.call144 rfl rfl (by kernel_rfl) h
def vm(x0:Int×Int×Int)(x1:Option Addr)(x2:SliceV)(K:(Int×Bool)→ae→Prop)(h0:ae):Prop:=
 At (hnew h0 (zt x0) co) (fun h1=>
 At (hnew h1 [.pointer x1] bV) (fun h2=>
 At (hnew h2 [.slice x2.a x2.len x2.cap] Qp) (fun h3=>
 At (hnew h3 [.int .i64 0] nR) (fun h4=>
 At (hnew h4 [.bool false] wt) (fun h5=>
 ∃v6,aP h5 (aE h1)=some (.pointer v6)∧
 HC PG fi [.pointer v6] [.c .slice] (fun(e7:SliceV) h8=>
 ∃v9,aP h8 (aE h1)=some (.pointer v9)∧
 HC PG eQ [.pointer v9] [.c .bool] (fun(e10:Bool) h11=>
 CondP e10 (
 Join (fun(t16:Bool) h17=>
 CondP t16 (
 (Wr h17 (aE h3)∧
 At (hset h17 (aE h3) (.int .i64 0)) (fun h18=>
 (Wr h18 (aE h4)∧
 At (hset h18 (aE h4) (.bool false)) (fun h19=>
 ∃v20,aP h19 (aE h3)=some (.int .i64 v20)∧
 ∃v21,aP h19 (aE h4)=some (.bool v21)∧
 K (v20,v21) h19))))) (
 LoopP (fun I22 (t23:Int) h24=>
 CondP (decide (t23<(e7.len:Int))) (
 (cB t23 e7.len∧∃a25,e7.a=some a25∧
 ∃v26,aO h24 (adr a25 (t23.toNat*2)) 0 v26∧
 ∃v27,aO h24 (adr a25 (t23.toNat*2)) 1 v27∧
 nv h24 kZ al (ij v26 v27) (fun h29=>
 ∃v30,af h29 h0 0 v30∧
 ∃v31,af h29 h0 1 v31∧
 ∃v32,af h29 h0 2 v32∧
 ∃v33,aw h29 h24 0 v33∧
 ∃v34:SliceV,aP h29 (aE h2)=some (.slice v34.a v34.len v34.cap)∧
 HC PG eN [vr v30 v31 v32,.string v33] eW (fun(e35:Int) h36=>
 (aP h36 (aE h2)=some (.slice v34.a v34.len v34.cap)∧
 HC PG ot (Rr e35 v34) [.c .bool] (fun(e37:Bool) h38=>
 CondP (!e37) (
 (Wr h38 (aE h3)∧
 At (hset h38 (aE h3) (.int .i64 0)) (fun h39=>
 (Wr h39 (aE h4)∧
 At (hset h39 (aE h4) (.bool false)) (fun h40=>
 ∃v41,aP h40 (aE h3)=some (.int .i64 v41)∧
 ∃v42,aP h40 (aE h4)=some (.bool v42)∧
 K (v41,v42) h40))))) (
 I22 (IntKind.wrap .i64 (t23+1)) h38)) h36)) h29))) (
 (Wr h24 (aE h3)∧
 At (hset h24 (aE h3) (.int .i64 (e7.len:Int))) (fun h43=>
 (Wr h43 (aE h4)∧
 At (hset h43 (aE h4) (.bool true)) (fun h44=>
 ∃v45,aP h44 (aE h3)=some (.int .i64 v45)∧
 ∃v46,aP h44 (aE h4)=some (.bool v46)∧
 K (v45,v46) h44)))))) 0 h17)) (fun J12=>
 ∃v13:SliceV,aP h11 (aE h2)=some (.slice v13.a v13.len v13.cap)∧
 CondP ((v13.len:Int) !=(13:Int)) (
 J12 true h11) (
 HC PG wP [.slice e7.a e7.len e7.cap] [.c .bool] (fun(e14:Bool) h15=>
 J12 (!e14) h15) h11))) (
 ∃v47:SliceV,aP h11 (aE h2)=some (.slice v47.a v47.len v47.cap)∧
 CondP (decide ((v47.len:Int)≥(13:Int))) (
 (Wr h11 (aE h3)∧
 At (hset h11 (aE h3) (.int .i64 0)) (fun h48=>
 (Wr h48 (aE h4)∧
 At (hset h48 (aE h4) (.bool false)) (fun h49=>
 ∃v50,aP h49 (aE h3)=some (.int .i64 v50)∧
 ∃v51,aP h49 (aE h4)=some (.bool v51)∧
 K (v50,v51) h49))))) (
 At (hnew h11 [.int .i64 0] nR) (fun h52=>
 (Wr h52 (aE h11)∧
 At (hset h52 (aE h11) (.int .i64 (e7.len:Int))) (fun h53=>
 ∃v54:SliceV,aP h53 (aE h2)=some (.slice v54.a v54.len v54.cap)∧
 ∃v55:SliceV,aP h53 (aE h2)=some (.slice v55.a v55.len v55.cap)∧
 ∃v56:SliceV,aP h53 (aE h2)=some (.slice v56.a v56.len v56.cap)∧
 (((0:Int)≤(v56.len:Int)∧(v56.len:Int)≤((v54.cap:Nat):Int))∧
 (((0:Int)≤(v55.len:Int)∧(v55.len:Int)≤(((v56.len:Int).toNat:Nat):Int))∧
 (Wr h53 (aE h2)∧
 At (hset h53 (aE h2) (.slice (bj v54.a 0 ((v56.len:Int).toNat) 1) (((v55.len:Int).toNat)-0) (((v56.len:Int).toNat)-0))) (fun h57=>
 ∃v58,aP h57 (aE h1)=some (.pointer v58)∧
 HC PG lg [.pointer v58] j7 (fun(e59:Int) h60=>
 HC PG nC [.int .u32 e59] [.c .raw] (fun(e61:Value) h62=>
 RangeP PG e61 cr h62 (fun rdy63 bz64 (x65:Int) k66 h67=>
 (h67[(ci h62+1)]? =some rdy63∧At (bZ h67 (ci h62+1) bz64) (fun h69=>
 ∃v71,aP h69 (aE h1)=some (.pointer v71)∧
 HC PG jK (uV v71 x65) rZ (fun(e72:(ByteArray×ByteArray)×Bool) h73=>
 nv h73 kZ al (wq e72.1) (fun h75=>
 Join (fun(t98:Bool) h99=>
 CondP t98 (
 (Wr h99 (aE h3)∧
 At (hset h99 (aE h3) (.int .i64 0)) (fun h100=>
 (Wr h100 (aE h4)∧
 At (hset h100 (aE h4) (.bool false)) (fun h101=>
 k66 (some .ret) h101))))) (
 k66 none h99)) (fun J76=>
 ∃v77,af h75 h0 0 v77∧
 ∃v78,af h75 h0 1 v78∧
 ∃v79,af h75 h0 2 v79∧
 ∃v80,aw h75 h73 0 v80∧
 ∃v81:SliceV,aP h75 (aE h2)=some (.slice v81.a v81.len v81.cap)∧
 ((HC PG eN [vr v77 v78 v79,.string v80] eW (fun(e82:Int) h83=>
 (aP h83 (aE h2)=some (.slice v81.a v81.len v81.cap)∧
 At (hnew h83 [.int .i64 x65] nR) (fun h84=>
 (aP h84 (aE h2)=some (.slice v81.a v81.len v81.cap)∧
 ∃xs85,SRow h84 (some (aE h83)) (1*1) xs85∧
 AppP (some [.int .i64 0]) 1 8 nR v81.a v81.len v81.cap 1 xs85 h84 (fun s86 h87=>
 HC PG ot (Rr e82 s86) [.c .bool] (fun(e88:Bool) h89=>
 J76 (!e88) h89) h87))))) h75)∧
 At (hnew h75 [.int .i64 x65] nR) (fun h90=>
 (aP h90 (aE h2)=some (.slice v81.a v81.len v81.cap)∧
 (aw h90 h73 0 v80∧
 ((af h90 h0 0 v77∧af h90 h0 1 v78∧af h90 h0 2 v79)∧
 HC PG eN [vr v77 v78 v79,.string v80] eW (fun(e91:Int) h92=>
 (aP h92 (aE h2)=some (.slice v81.a v81.len v81.cap)∧
 ∃xs93,SRow h92 (some (aE h75)) (1*1) xs93∧
 AppP (some [.int .i64 0]) 1 8 nR v81.a v81.len v81.cap 1 xs93 h92 (fun s94 h95=>
 HC PG ot (Rr e91 s94) [.c .bool] (fun(e96:Bool) h97=>
 J76 (!e96) h97) h95))) h90)))))))) h69))) (fun h102=>
 ∃v105,aP h102 (aE h1)=some (.pointer v105)∧
 HC PG iS [.pointer v105] j7 (fun(e106:Int) h107=>
 HC PG nC [.int .u32 e106] [.c .raw] (fun(e108:Value) h109=>
 RangeP PG e108 cr h109 (fun rdy110 bz111 (x112:Int) k113 h114=>
 (h114[(ci h109+1)]? =some rdy110∧At (bZ h114 (ci h109+1) bz111) (fun h116=>
 ∃v118,aP h116 (aE h1)=some (.pointer v118)∧
 HC PG gi (uV v118 x112) sA (fun(e119:(Option Addr)×Bool) h120=>
 Join (fun(t132:Int×Bool) h133=>
 Join (fun(t135:Bool) h136=>
 CondP t135 (
 (Wr h136 (aE h3)∧
 At (hset h136 (aE h3) (.int .i64 0)) (fun h137=>
 (Wr h137 (aE h4)∧
 At (hset h137 (aE h4) (.bool false)) (fun h138=>
 k113 (some .ret) h138))))) (
 ∃v139,aP h136 (aE h11)=some (.int .i64 v139)∧
 (Wr h136 (aE h11)∧
 At (hset h136 (aE h11) (.int .i64 (IntKind.wrap .i64 (v139+t132.1)))) (fun h140=>
 k113 none h140)))) (fun J134=>
 CondP (!t132.2) (
 J134 true h133) (
 J134 (decide (t132.1<(2:Int))) h133))) (fun J121=>
 ∃v122,af h120 h0 0 v122∧
 ∃v123,af h120 h0 1 v123∧
 ∃v124,af h120 h0 2 v124∧
 ∃v125:SliceV,aP h120 (aE h2)=some (.slice v125.a v125.len v125.cap)∧
 At (hnew h120 [.int .i64 x112] nR) (fun h126=>
 (aP h126 (aE h2)=some (.slice v125.a v125.len v125.cap)∧
 ((af h126 h0 0 v122∧af h126 h0 1 v123∧af h126 h0 2 v124)∧
 ∃xs127,SRow h126 (some (aE h120)) (1*1) xs127∧
 AppP (some [.int .i64 0]) 1 8 nR v125.a v125.len v125.cap 1 xs127 h126 (fun s128 h129=>
 ((af h129 h0 0 v122∧af h129 h0 1 v123∧af h129 h0 2 v124)∧
 HC PG ou [vr v122 v123 v124,.pointer e119.1,.slice s128.a s128.len s128.cap] nm (fun(e130:Int×Bool) h131=>
 J121 (e130.1,e130.2) h131) h129))))))) h116))) (fun h141=>
 ∃v144,aP h141 (aE h11)=some (.int .i64 v144)∧
 (Wr h141 (aE h3)∧
 At (hset h141 (aE h3) (.int .i64 v144)) (fun h145=>
 (Wr h145 (aE h4)∧
 At (hset h145 (aE h4) (.bool true)) (fun h146=>
 (h146[(ci h109)]? =some (.deferred (some []))∧At (bZ h146 (ci h109) (.deferred none)) (fun h147=>
 (h147[(ci h62)]? =some (.deferred (some []))∧At (bZ h147 (ci h62) (.deferred none)) (fun h148=>
 ∃v149,aP h148 (aE h3)=some (.int .i64 v149)∧
 ∃v150,aP h148 (aE h4)=some (.bool v150)∧
 K (v149,v150) h148))))))))) (fun i117 h142=>
 bif bU i117 4 then(
 ∃v151,aP h142 (aE h11)=some (.int .i64 v151)∧
 (Wr h142 (aE h3)∧
 At (hset h142 (aE h3) (.int .i64 v151)) (fun h152=>
 (Wr h152 (aE h4)∧
 At (hset h152 (aE h4) (.bool true)) (fun h153=>
 (h153[(ci h109)]? =some (.deferred (some []))∧At (bZ h153 (ci h109) (.deferred none)) (fun h154=>
 (h154[(ci h62)]? =some (.deferred (some []))∧At (bZ h154 (ci h62) (.deferred none)) (fun h155=>
 ∃v156,aP h155 (aE h3)=some (.int .i64 v156)∧
 ∃v157,aP h155 (aE h4)=some (.bool v157)∧
 K (v156,v157) h155)))))))))else(
 False)) (fun h143=>
 (h143[(ci h109)]? =some (.deferred (some []))∧At (bZ h143 (ci h109) (.deferred none)) (fun h158=>
 (h158[(ci h62)]? =some (.deferred (some []))∧At (bZ h158 (ci h62) (.deferred none)) (fun h159=>
 ∃v160,aP h159 (aE h3)=some (.int .i64 v160)∧
 ∃v161,aP h159 (aE h4)=some (.bool v161)∧
 K (v160,v161) h159)))))) h107) h102) (fun i70 h103=>
 bif bU i70 2 then(
 ∃v162,aP h103 (aE h1)=some (.pointer v162)∧
 HC PG iS [.pointer v162] j7 (fun(e163:Int) h164=>
 HC PG nC [.int .u32 e163] [.c .raw] (fun(e165:Value) h166=>
 RangeP PG e165 cr h166 (fun rdy167 bz168 (x169:Int) k170 h171=>
 (h171[(ci h166+1)]? =some rdy167∧At (bZ h171 (ci h166+1) bz168) (fun h173=>
 ∃v175,aP h173 (aE h1)=some (.pointer v175)∧
 HC PG gi (uV v175 x169) sA (fun(e176:(Option Addr)×Bool) h177=>
 Join (fun(t189:Int×Bool) h190=>
 Join (fun(t192:Bool) h193=>
 CondP t192 (
 (Wr h193 (aE h3)∧
 At (hset h193 (aE h3) (.int .i64 0)) (fun h194=>
 (Wr h194 (aE h4)∧
 At (hset h194 (aE h4) (.bool false)) (fun h195=>
 k170 (some .ret) h195))))) (
 ∃v196,aP h193 (aE h11)=some (.int .i64 v196)∧
 (Wr h193 (aE h11)∧
 At (hset h193 (aE h11) (.int .i64 (IntKind.wrap .i64 (v196+t189.1)))) (fun h197=>
 k170 none h197)))) (fun J191=>
 CondP (!t189.2) (
 J191 true h190) (
 J191 (decide (t189.1<(2:Int))) h190))) (fun J178=>
 ∃v179,af h177 h0 0 v179∧
 ∃v180,af h177 h0 1 v180∧
 ∃v181,af h177 h0 2 v181∧
 ∃v182:SliceV,aP h177 (aE h2)=some (.slice v182.a v182.len v182.cap)∧
 At (hnew h177 [.int .i64 x169] nR) (fun h183=>
 (aP h183 (aE h2)=some (.slice v182.a v182.len v182.cap)∧
 ((af h183 h0 0 v179∧af h183 h0 1 v180∧af h183 h0 2 v181)∧
 ∃xs184,SRow h183 (some (aE h177)) (1*1) xs184∧
 AppP (some [.int .i64 0]) 1 8 nR v182.a v182.len v182.cap 1 xs184 h183 (fun s185 h186=>
 ((af h186 h0 0 v179∧af h186 h0 1 v180∧af h186 h0 2 v181)∧
 HC PG ou [vr v179 v180 v181,.pointer e176.1,.slice s185.a s185.len s185.cap] nm (fun(e187:Int×Bool) h188=>
 J178 (e187.1,e187.2) h188) h186))))))) h173))) (fun h198=>
 ∃v201,aP h198 (aE h11)=some (.int .i64 v201)∧
 (Wr h198 (aE h3)∧
 At (hset h198 (aE h3) (.int .i64 v201)) (fun h202=>
 (Wr h202 (aE h4)∧
 At (hset h202 (aE h4) (.bool true)) (fun h203=>
 (h203[(ci h166)]? =some (.deferred (some []))∧At (bZ h203 (ci h166) (.deferred none)) (fun h204=>
 (h204[(ci h62)]? =some (.deferred (some []))∧At (bZ h204 (ci h62) (.deferred none)) (fun h205=>
 ∃v206,aP h205 (aE h3)=some (.int .i64 v206)∧
 ∃v207,aP h205 (aE h4)=some (.bool v207)∧
 K (v206,v207) h205))))))))) (fun i174 h199=>
 bif bU i174 4 then(
 ∃v208,aP h199 (aE h11)=some (.int .i64 v208)∧
 (Wr h199 (aE h3)∧
 At (hset h199 (aE h3) (.int .i64 v208)) (fun h209=>
 (Wr h209 (aE h4)∧
 At (hset h209 (aE h4) (.bool true)) (fun h210=>
 (h210[(ci h166)]? =some (.deferred (some []))∧At (bZ h210 (ci h166) (.deferred none)) (fun h211=>
 (h211[(ci h62)]? =some (.deferred (some []))∧At (bZ h211 (ci h62) (.deferred none)) (fun h212=>
 ∃v213,aP h212 (aE h3)=some (.int .i64 v213)∧
 ∃v214,aP h212 (aE h4)=some (.bool v214)∧
 K (v213,v214) h212)))))))))else(
 False)) (fun h200=>
 (h200[(ci h166)]? =some (.deferred (some []))∧At (bZ h200 (ci h166) (.deferred none)) (fun h215=>
 (h215[(ci h62)]? =some (.deferred (some []))∧At (bZ h215 (ci h62) (.deferred none)) (fun h216=>
 ∃v217,aP h216 (aE h3)=some (.int .i64 v217)∧
 ∃v218,aP h216 (aE h4)=some (.bool v218)∧
 K (v217,v218) h216)))))) h164) h103)else(
 False)) (fun h104=>
 (h104[(ci h62)]? =some (.deferred (some []))∧At (bZ h104 (ci h62) (.deferred none)) (fun h219=>
 ∃v220,aP h219 (aE h3)=some (.int .i64 v220)∧
 ∃v221,aP h219 (aE h4)=some (.bool v221)∧
 K (v220,v221) h219)))) h60) h57)))))))))) h8) h5)))))
noncomputable def IE:Ann:=.node .nil (.node .nil (.node (.node .nil (.node (.node (.join [(31,.c .bool)] .nil .nil) (.node (.node .nil (.loop [(34,.c (.int .i64))] .nil)) .nil)) .nil)) (.node .nil (.node .nil (.node .nil (.node (.node .nil (.rf [.c (.int .i64)] .nil (.node .nil (.join [(78,.c .bool)] .nil .nil)))) (.node (.node .nil (.rf [.c (.int .i64)] .nil (.node .nil (.join [(18,.c (.int .i64)),(19,.c .bool)] .nil (.node (.join [(104,.c .bool)] .nil .nil) .nil))))) .nil)))))))
theorem zA(x0:Int×Int×Int)(x1:Option Addr)(x2:SliceV){K:cQ nm→ae→Prop}{h0:ae}(h:vm x0 x1 x2 K h0):HC PG ou [LL x0,.pointer x1,.slice x2.a x2.len x2.cap] nm K h0:=Y5 IE Tryz.func145 Tryz.call145 rfl rfl (by kernel_rfl) h
def CB(K:(Option Addr)→ae→Prop)(h0:ae):Prop:=
 At (hnew h0 Th bQ) (fun h1=>
 K (some (aE h0)) h1)
theorem Lx{K:cQ [.c .ptr]→ae→Prop}{h0:ae}(h:CB K h0):HC PG nz [] [.c .ptr] K h0:=dL .nil Tryz.func146 Tryz.call146 rfl rfl (by kernel_rfl) h
def Cu(x0:Option Addr)(K:(Option Addr)→ae→Prop)(h0:ae):Prop:=
 CondP x0.isNone (
 HC PG qV [] [.c .ptr] (fun(e1:Option Addr) h2=>
 K e1 h2) h0) (
 K x0 h0)
theorem Lq(x0:Option Addr){K:cQ [.c .ptr]→ae→Prop}{h0:ae}(h:Cu x0 K h0):HC PG sE [.pointer x0] [.c .ptr] K h0:=dL .nil Tryz.func147 Tryz.call147 rfl rfl (by kernel_rfl) h
def vZ(x0:Option Addr)(x1:Option Addr)(x2:ByteArray)(x3:ByteArray)(K:((Option Addr)×Bool×Bool)→ae→Prop)(h0:ae):Prop:=
 CondP (x2.toList==(⟨#[]⟩:ByteArray).toList) (
 Join (fun(t6:Bool) h7=>
 CondP t6 (
 K (x0,false,false) h7) (
 ∃a8,x0=some a8∧
 ∃v9,cP h7 a8 1 v9∧
 HC PG gr (sr x0 x1) [.c .ptr] (fun(e10:Option Addr) h11=>
 (cP h11 a8 1 v9∧
 HC PG kU (A0 e10 x3) [.c .ptr] (fun(e12:Option Addr) h13=>
 (cP h13 a8 1 v9∧
 K (e12, !v9,true) h13)) h11)) h7)) (fun J1=>
 ∃a2,x0=some a2∧
 ∃v3,cP h0 a2 1 v3∧
 CondP v3 (
 ∃a4,x0=some a4∧
 ∃v5,aO h0 a4 2 v5∧
 J1 (v5.toList==x3.toList) h0) (
 J1 false h0))) (
 ∃b14,(0:Int)≤(0:Int)∧x2[(0:Int).toNat]? =some b14∧
 HC PG mz (Kk x0 (b14.toNat:Int)) nm (fun(e15:Int×Bool) h16=>
 CondP (!e15.2) (
 HC PG gr (sr x0 x1) [.c .ptr] (fun(e17:Option Addr) h18=>
 ∃a19,e17=some a19∧
 ∃v20:SliceV,bR h18 a19 3 v20∧
 HC PG vd (Xn x1 x2 x3) [.c .ptr] (fun(e21:Option Addr) h22=>
 (bR h22 a19 3 v20∧
 At (hnew h22 [.pointer e21] cf) (fun h23=>
 (bR h23 a19 3 v20∧
 HC PG eP [.slice v20.a v20.len v20.cap,.int .i64 e15.1,.slice (some (aE h22)) 1 1] [.c .slice] (fun(e24:SliceV) h25=>
 ∃a26,e17=some a26∧
 (dS h25 (adr a26 3) (.slice e24.a e24.len e24.cap) (fun h27=>
 K (e17,true,true) h27))) h23)))) h18) h16) (
 ∃a28,x0=some a28∧
 ∃v29:SliceV,bR h16 a28 3 v29∧
 (cB e15.1 v29.len∧∃a30,v29.a=some a30∧
 ∃v31,bM h16 a30 (e15.1.toNat*1) (.pointer v31)∧
 ∃a32,v31=some a32∧
 ∃v33,aO h16 a32 0 v33∧
 HC PG uZ (ij x2 v33) cr (fun(e34:Int) h35=>
 Join (fun(t41:Option Addr) h42=>
 (((0:Int)≤e34∧e34≤((x2.size:Nat):Int))∧
 HC PG nu (Tq t41 x1 (x2.extract e34.toNat x2.size) x3) ui (fun(e43:(Option Addr)×Bool×Bool) h44=>
 CondP (!e43.2.2) (
 K (x0,false,false) h44) (
 HC PG gr (sr x0 x1) [.c .ptr] (fun(e45:Option Addr) h46=>
 ∃a47,e45=some a47∧
 ∃v48:SliceV,bR h46 a47 3 v48∧
 (cB e15.1 v48.len∧∃a49,v48.a=some a49∧
 (dS h46 (adr a49 (e15.1.toNat*1)) (.pointer e43.1) (fun h50=>
 K (e45,e43.2.1,true) h50)))) h44)) h42)) (fun J36=>
 ∃a37,v31=some a37∧
 ∃v38,aO h35 a37 0 v38∧
 CondP (decide (e34<(v38.size:Int))) (
 HC PG oY (Tp v31 x1 e34) [.c .ptr] (fun(e39:Option Addr) h40=>
 J36 e39 h40) h35) (
 J36 v31 h35))) h16))) h0)
noncomputable def DS:Ann:=.node .nil (.node (.node .nil (.node (.node (.join [(33,.c .bool)] .nil .nil) .nil) .nil)) (.node .nil (.node .nil (.node .nil (.node .nil (.join [(14,.c .ptr)] .nil .nil))))))
theorem DH(x0:Option Addr)(x1:Option Addr)(x2:ByteArray)(x3:ByteArray){K:cQ ui→ae→Prop}{h0:ae}(h:vZ x0 x1 x2 x3 K h0):HC PG nu (Tq x0 x1 x2 x3) ui K h0:=dL DS Tryz.func148 Tryz.call148 rfl rfl (by kernel_rfl) h
def qK(x0:Int×Int×Int×(Option Addr)×ByteArray×Int)(x1:Option Addr)(x2:ByteArray×ByteArray)(x3:Int)(K:((Option Addr)×Bool×Bool)→ae→Prop)(h0:ae):Prop:=
 At (hnew h0 (R9 x0) df) (fun h1=>
 At (hnew h1 (wq x2) al) (fun h2=>
 HC PG eQ [.pointer x1] [.c .bool] (fun(e3:Bool) h4=>
 CondP e3 (
 ∃v5,aw h4 h1 0 v5∧
 HC PG tf (A0 x1 v5) nn (fun(e6:ByteArray×Bool) h7=>
 Join (fun(t10:Bool) h11=>
 CondP t10 (
 K (x1,false,false) h11) (
 ∃v12,aH h11 h0 3 v12∧
 ∃v13,aw h11 h1 0 v13∧
 ∃v14,aw h11 h1 1 v14∧
 HC PG jf [.pointer x1,.pointer v12,qn v13 v14] [.c .ptr] (fun(e15:Option Addr) h16=>
 K (e15, !e6.2,true) h16) h11)) (fun J8=>
 CondP e6.2 (
 ∃v9,aw h7 h1 1 v9∧
 J8 (e6.1.toList==v9.toList) h7) (
 J8 false h7))) h4) (
 ∃v17,af h4 h0 5 v17∧
 HC PG lO (nf v17 x3) cr (fun(e18:Int) h19=>
 HC PG jK (uV x1 e18) rZ (fun(e20:(ByteArray×ByteArray)×Bool) h21=>
 nv h21 kZ al (wq e20.1) (fun h23=>
 CondP e20.2 (
 ∃v24,aw h23 h21 0 v24∧
 ∃v25,aw h23 h21 1 v25∧
 ∃v26,aw h23 h1 0 v26∧
 ∃v27,aw h23 h1 1 v27∧
 CondP ((v24.toList==v26.toList)&&((v25.toList==v27.toList)&&true)) (
 K (x1,false,false) h23) (
 ∃v28,aw h23 h21 0 v28∧
 ∃v29,aw h23 h1 0 v29∧
 CondP (v28.toList==v29.toList) (
 ∃v30,aH h23 h0 3 v30∧
 ∃v31,aw h23 h1 0 v31∧
 ∃v32,aw h23 h1 1 v32∧
 HC PG ff [.pointer x1,.pointer v30,.int .i64 e18,qn v31 v32] [.c .ptr] (fun(e33:Option Addr) h34=>
 K (e33,false,true) h34) h23) (
 ∃v35,aH h23 h0 3 v35∧
 ∃v36,af h23 h0 0 v36∧
 ∃v37,af h23 h0 1 v37∧
 ∃v38,af h23 h0 2 v38∧
 ∃v39,aH h23 h0 3 v39∧
 ∃v40,aw h23 h0 4 v40∧
 ∃v41,af h23 h0 5 v41∧
 ∃v42,aw h23 h21 0 v42∧
 ∃v43,aw h23 h21 1 v43∧
 ∃v44,aw h23 h1 0 v44∧
 ∃v45,aw h23 h1 1 v45∧
 HC PG mD [HK v36 v37 v38 v39 v40 v41,qn v42 v43,qn v44 v45,.int .i64 (IntKind.wrap .i64 (x3+1))] [.c .ptr] (fun(e46:Option Addr) h47=>
 (aH h47 h0 3 v35∧
 HC PG gm (EN x1 v35 e18 e46) [.c .ptr] (fun(e48:Option Addr) h49=>
 K (e48,true,true) h49) h47)) h23))) (
 HC PG gi (uV x1 e18) sA (fun(e50:(Option Addr)×Bool) h51=>
 CondP (!e50.2) (
 ∃v52,aH h51 h0 3 v52∧
 ∃v53,aw h51 h1 0 v53∧
 ∃v54,aw h51 h1 1 v54∧
 HC PG ff [.pointer x1,.pointer v52,.int .i64 e18,qn v53 v54] [.c .ptr] (fun(e55:Option Addr) h56=>
 K (e55,true,true) h56) h51) (
 ∃v57,af h51 h0 0 v57∧
 ∃v58,af h51 h0 1 v58∧
 ∃v59,af h51 h0 2 v59∧
 ∃v60,aH h51 h0 3 v60∧
 ∃v61,aw h51 h0 4 v61∧
 ∃v62,af h51 h0 5 v62∧
 ∃v63,aw h51 h1 0 v63∧
 ∃v64,aw h51 h1 1 v64∧
 HC PG jM [HK v57 v58 v59 v60 v61 v62,.pointer e50.1,qn v63 v64,.int .i64 (IntKind.wrap .i64 (x3+1))] ui (fun(e65:(Option Addr)×Bool×Bool) h66=>
 CondP (!e65.2.2) (
 K (x1,false,false) h66) (
 ∃v67,aH h66 h0 3 v67∧
 HC PG gm (EN x1 v67 e18 e65.1) [.c .ptr] (fun(e68:Option Addr) h69=>
 K (e68,e65.2.1,true) h69) h66)) h51)) h23))) h19) h4)) h2))
noncomputable def DX:Ann:=.node .nil (.node (.node .nil (.node (.node .nil (.node (.join [(36,.c .bool)] .nil .nil) .nil)) .nil)) .nil)
theorem vU(x0:Int×Int×Int×(Option Addr)×ByteArray×Int)(x1:Option Addr)(x2:ByteArray×ByteArray)(x3:Int){K:cQ ui→ae→Prop}{h0:ae}(h:qK x0 x1 x2 x3 K h0):HC PG jM [YH x0,.pointer x1,QJ x2,.int .i64 x3] ui K h0:=dL DX Tryz.func149 Tryz.call149 rfl rfl (by kernel_rfl) h
def CE(x0:Option Addr)(K:(Option Addr)→ae→Prop)(h0:ae):Prop:=
 CondP x0.isNone (
 HC PG oz [] [.c .ptr] (fun(e1:Option Addr) h2=>
 K e1 h2) h0) (
 K x0 h0)
theorem LA(x0:Option Addr){K:cQ [.c .ptr]→ae→Prop}{h0:ae}(h:CE x0 K h0):HC PG nD [.pointer x0] [.c .ptr] K h0:=dL .nil Tryz.func150 Tryz.call150 rfl rfl (by kernel_rfl) h
def uH(x0:Option Addr)(x1:Int)(K:(Int×Bool)→ae→Prop)(h0:ae):Prop:=
 ∃a1,x0=some a1∧
 ∃v2:SliceV,bR h0 a1 3 v2∧
 HC PG eF [.slice v2.a v2.len v2.cap,.int .u8 x1,.func (.func nY) #[] #[]] nm (fun(e3:Int×Bool) h4=>
 K (e3.1,e3.2) h4) h0
theorem Cg(x0:Option Addr)(x1:Int){K:cQ nm→ae→Prop}{h0:ae}(h:uH x0 x1 K h0):HC PG mz (Kk x0 x1) nm K h0:=dL .nil Tryz.func153 Tryz.call153 rfl rfl (by kernel_rfl) h
def Hd(x0:ByteArray)(x1:ByteArray)(K:(ByteArray×Bool)→ae→Prop)(h0:ae):Prop:=
 HC PG u0 (ij x0 x1) [.c .bool] (fun(e1:Bool) h2=>
 CondP (!e1) (
 K ((⟨#[]⟩:ByteArray),false) h2) (
 (((0:Int)≤(x1.size:Int)∧(x1.size:Int)≤((x0.size:Nat):Int))∧
 K (x0.extract ((x1.size:Int).toNat) x0.size,true) h2))) h0
theorem PB(x0:ByteArray)(x1:ByteArray){K:cQ nn→ae→Prop}{h0:ae}(h:Hd x0 x1 K h0):HC PG As (ij x0 x1) nn K h0:=dL .nil Tryz.func154 Tryz.call154 rfl rfl (by kernel_rfl) h
def rA(x0:Option Addr)(K:(Bool)→ae→Prop)(h0:ae):Prop:=
 CondP (!(x0.isNone)) (
 ∃a1,x0=some a1∧
 ∃v2,cP h0 a1 4 v2∧
 K v2 h0) (
 K false h0)
theorem yq(x0:Option Addr){K:cQ [.c .bool]→ae→Prop}{h0:ae}(h:rA x0 K h0):HC PG eQ [.pointer x0] [.c .bool] K h0:=dL .nil Tryz.func155 Tryz.call155 rfl rfl (by kernel_rfl) h
def HB(x0:Option Addr)(x1:ByteArray)(K:(ByteArray×Bool)→ae→Prop)(h0:ae):Prop:=
 HC PG fi [.pointer x0] [.c .slice] (fun(e1:SliceV) h2=>
 HC PG un (HJ e1 x1) nm (fun(e3:Int×Bool) h4=>
 CondP (!e3.2) (
 K ((⟨#[]⟩:ByteArray),false) h4) (
 (cB e3.1 e1.len∧∃a5,e1.a=some a5∧
 ∃v6,aO h4 (adr a5 (e3.1.toNat*2)) 1 v6∧
 K (v6,true) h4))) h2) h0
theorem PX(x0:Option Addr)(x1:ByteArray){K:cQ nn→ae→Prop}{h0:ae}(h:HB x0 x1 K h0):HC PG tf (A0 x0 x1) nn K h0:=dL .nil Tryz.func156 Tryz.call156 rfl rfl (by kernel_rfl) h
def HA(x0:Int)(x1:Int)(K:(Int)→ae→Prop)(h0:ae):Prop:=
 Join (fun(t2:Bool) h3=>
 CondP t2 (
 K 0 h3) (
 ((0:Int)≤(IntKind.wrap .i64 (5*x1))∧
 Bd (dY x0 (2^(min (IntKind.wrap .i64 (5*x1):Int).toNat (IntKind.bits .u64))):Int) (fun n4=>
 Bd (IntKind.wrap .u64 (ao (IntKind.bits .u64) n4&&&ao (IntKind.bits .u64) 31).toNat:Int) (fun n5=>
 K (IntKind.wrap .i64 n5) h3))))) (fun J1=>
 CondP (decide (x1<(0:Int))) (
 J1 true h0) (
 J1 (decide (x1≥(13:Int))) h0))
noncomputable def Qb:Ann:=.node .nil (.node (.join [(10,.c .bool)] .nil .nil) .nil)
theorem PW(x0:Int)(x1:Int){K:cQ cr→ae→Prop}{h0:ae}(h:HA x0 x1 K h0):HC PG lO (nf x0 x1) cr K h0:=dL Qb Tryz.func157 Tryz.call157 rfl rfl (by kernel_rfl) h
def wb(x0:Option Addr)(x1:Int)(K:((ByteArray×ByteArray)×Bool)→ae→Prop)(h0:ae):Prop:=
 At (hnew h0 kZ al) (fun h1=>
 HC PG lg [.pointer x0] j7 (fun(e2:Int) h3=>
 HC PG gt (oS e2 x1) [.c .bool] (fun(e4:Bool) h5=>
 CondP (!e4) (
 (di h5 h0 kZ (fun h6=>
 ∃v7,aw h6 h0 0 v7∧
 ∃v8,aw h6 h0 1 v8∧
 K ((v7,v8),false) h6))) (
 ∃a9,x0=some a9∧
 ∃v10:SliceV,bR h5 (adr a9 0) 2 v10∧
 ∃a11,x0=some a11∧
 ∃v12,iK h5 (adr a11 0) 0 v12∧
 HC PG dQ (oS v12 x1) cr (fun(e13:Int) h14=>
 (bR h14 (adr a9 0) 2 v10∧
 (cB e13 v10.len∧∃a15,v10.a=some a15∧
 ∃v16,aO h14 (adr a15 (e13.toNat*2)) 0 v16∧
 ∃v17,aO h14 (adr a15 (e13.toNat*2)) 1 v17∧
 (di h14 h0 (ij v16 v17) (fun h18=>
 ∃v19,aw h18 h0 0 v19∧
 ∃v20,aw h18 h0 1 v20∧
 K ((v19,v20),true) h18))))) h5)) h3) h1)
theorem DJ(x0:Option Addr)(x1:Int){K:cQ rZ→ae→Prop}{h0:ae}(h:wb x0 x1 K h0):HC PG jK (uV x0 x1) rZ K h0:=dL .nil Tryz.func158 Tryz.call158 rfl rfl (by kernel_rfl) h
def xn(x0:Option Addr)(x1:Int)(K:((Option Addr)×Bool)→ae→Prop)(h0:ae):Prop:=
 HC PG iS [.pointer x0] j7 (fun(e1:Int) h2=>
 HC PG gt (oS e1 x1) [.c .bool] (fun(e3:Bool) h4=>
 CondP (!e3) (
 K (none,false) h4) (
 ∃a5,x0=some a5∧
 ∃v6:SliceV,bR h4 (adr a5 0) 3 v6∧
 ∃a7,x0=some a7∧
 ∃v8,iK h4 (adr a7 0) 1 v8∧
 HC PG dQ (oS v8 x1) cr (fun(e9:Int) h10=>
 (bR h10 (adr a5 0) 3 v6∧
 (cB e9 v6.len∧∃a11,v6.a=some a11∧
 ∃v12,bM h10 a11 (e9.toNat*1) (.pointer v12)∧
 K (v12,true) h10))) h4)) h2) h0
theorem E2(x0:Option Addr)(x1:Int){K:cQ sA→ae→Prop}{h0:ae}(h:xn x0 x1 K h0):HC PG gi (uV x0 x1) sA K h0:=dL .nil Tryz.func159 Tryz.call159 rfl rfl (by kernel_rfl) h
def tQ(x0:Option Addr)(K:(ByteArray)→ae→Prop)(h0:ae):Prop:=
 CondP x0.isNone (
 K (⟨#[]⟩:ByteArray) h0) (
 ∃a1,x0=some a1∧
 ∃v2,aO h0 a1 0 v2∧
 K v2 h0)
theorem AR(x0:Option Addr){K:cQ [.c .str]→ae→Prop}{h0:ae}(h:tQ x0 K h0):HC PG eh [.pointer x0] [.c .str] K h0:=dL .nil Tryz.func161 Tryz.call161 rfl rfl (by kernel_rfl) h
def wh(x0:Option Addr)(x1:SliceV)(x2:SliceV)(K:(Unit)→ae→Prop)(h0:ae):Prop:=
 LoopP (fun I1 (t2:SliceV×SliceV) h3=>
 Join (fun(t5:Bool) h6=>
 CondP t5 (
 Join (fun(t12:Bool) h13=>
 CondP t12 (
 Join (fun(t27:Unit) h28=>
 (((0:Int)≤(1:Int)∧(1:Int)≤((t2.1.len:Nat):Int))∧
 Bd (bj t2.1.a ((1:Int).toNat) t2.1.cap 2:Option Addr) (fun a29=>Bd (t2.1.len-((1:Int).toNat):Nat) (fun n30=>Bd (t2.1.cap-((1:Int).toNat):Nat) (fun n31=>
 I1 (⟨a29,n30,n31⟩,t2.2) h28))))) (fun J14=>
 ∃a15,x0=some a15∧
 ∃v16:SliceV,bR h13 a15 3 v16∧
 (cB 0 t2.1.len∧∃a17,t2.1.a=some a17∧
 ∃v18,aO h13 (adr a17 ((0:Int).toNat*2)) 0 v18∧
 (cB 0 t2.1.len∧∃a19,t2.1.a=some a19∧
 ∃v20,aO h13 (adr a19 ((0:Int).toNat*2)) 1 v20∧
 At (hnew h13 (vq v18 v20 (⟨#[]⟩:ByteArray) true false) cp) (fun h21=>
 (bR h21 a15 3 v16∧
 ∃xs22,SRow h21 (some (aE h13)) (1*5) xs22∧
 AppP (some NU) 5 56 cp v16.a v16.len v16.cap 1 xs22 h21 (fun s23 h24=>
 ∃a25,x0=some a25∧
 (dS h24 (adr a25 3) (.slice s23.a s23.len s23.cap) (fun h26=>
 J14 () h26))))))))) (
 Join (fun(t37:Bool) h38=>
 CondP t37 (
 Join (fun(t52:Unit) h53=>
 (((0:Int)≤(1:Int)∧(1:Int)≤((t2.2.len:Nat):Int))∧
 Bd (bj t2.2.a ((1:Int).toNat) t2.2.cap 2:Option Addr) (fun a54=>Bd (t2.2.len-((1:Int).toNat):Nat) (fun n55=>Bd (t2.2.cap-((1:Int).toNat):Nat) (fun n56=>
 I1 (t2.1,⟨a54,n55,n56⟩) h53))))) (fun J39=>
 ∃a40,x0=some a40∧
 ∃v41:SliceV,bR h38 a40 3 v41∧
 (cB 0 t2.2.len∧∃a42,t2.2.a=some a42∧
 ∃v43,aO h38 (adr a42 ((0:Int).toNat*2)) 0 v43∧
 (cB 0 t2.2.len∧∃a44,t2.2.a=some a44∧
 ∃v45,aO h38 (adr a44 ((0:Int).toNat*2)) 1 v45∧
 At (hnew h38 (vq v43 (⟨#[]⟩:ByteArray) v45 false true) cp) (fun h46=>
 (bR h46 a40 3 v41∧
 ∃xs47,SRow h46 (some (aE h38)) (1*5) xs47∧
 AppP (some NU) 5 56 cp v41.a v41.len v41.cap 1 xs47 h46 (fun s48 h49=>
 ∃a50,x0=some a50∧
 (dS h49 (adr a50 3) (.slice s48.a s48.len s48.cap) (fun h51=>
 J39 () h51))))))))) (
 Join (fun(t76:Unit) h77=>
 (((0:Int)≤(1:Int)∧(1:Int)≤((t2.1.len:Nat):Int))∧
 Bd (bj t2.1.a ((1:Int).toNat) t2.1.cap 2:Option Addr) (fun a78=>Bd (t2.1.len-((1:Int).toNat):Nat) (fun n79=>Bd (t2.1.cap-((1:Int).toNat):Nat) (fun n80=>
 (((0:Int)≤(1:Int)∧(1:Int)≤((t2.2.len:Nat):Int))∧
 Bd (bj t2.2.a ((1:Int).toNat) t2.2.cap 2:Option Addr) (fun a81=>Bd (t2.2.len-((1:Int).toNat):Nat) (fun n82=>Bd (t2.2.cap-((1:Int).toNat):Nat) (fun n83=>
 I1 (⟨a78,n79,n80⟩,⟨a81,n82,n83⟩) h77))))))))) (fun J57=>
 (cB 0 t2.1.len∧∃a58,t2.1.a=some a58∧
 ∃v59,aO h38 (adr a58 ((0:Int).toNat*2)) 1 v59∧
 (cB 0 t2.2.len∧∃a60,t2.2.a=some a60∧
 ∃v61,aO h38 (adr a60 ((0:Int).toNat*2)) 1 v61∧
 CondP (!(v59.toList==v61.toList)) (
 ∃a62,x0=some a62∧
 ∃v63:SliceV,bR h38 a62 3 v63∧
 (cB 0 t2.1.len∧∃a64,t2.1.a=some a64∧
 ∃v65,aO h38 (adr a64 ((0:Int).toNat*2)) 0 v65∧
 (cB 0 t2.1.len∧∃a66,t2.1.a=some a66∧
 ∃v67,aO h38 (adr a66 ((0:Int).toNat*2)) 1 v67∧
 (cB 0 t2.2.len∧∃a68,t2.2.a=some a68∧
 ∃v69,aO h38 (adr a68 ((0:Int).toNat*2)) 1 v69∧
 At (hnew h38 (vq v65 v67 v69 true true) cp) (fun h70=>
 (bR h70 a62 3 v63∧
 ∃xs71,SRow h70 (some (aE h38)) (1*5) xs71∧
 AppP (some NU) 5 56 cp v63.a v63.len v63.cap 1 xs71 h70 (fun s72 h73=>
 ∃a74,x0=some a74∧
 (dS h73 (adr a74 3) (.slice s72.a s72.len s72.cap) (fun h75=>
 J57 () h75))))))))) (
 J57 () h38)))))) (fun J32=>
 CondP ((t2.1.len:Int)==(0:Int)) (
 J32 true h13) (
 (cB 0 t2.2.len∧∃a33,t2.2.a=some a33∧
 ∃v34,aO h13 (adr a33 ((0:Int).toNat*2)) 0 v34∧
 (cB 0 t2.1.len∧∃a35,t2.1.a=some a35∧
 ∃v36,aO h13 (adr a35 ((0:Int).toNat*2)) 0 v36∧
 J32 (Op.bytesLess v34.toList v36.toList) h13)))))) (fun J7=>
 CondP ((t2.2.len:Int)==(0:Int)) (
 J7 true h6) (
 CondP (decide ((t2.1.len:Int)>(0:Int))) (
 (cB 0 t2.1.len∧∃a8,t2.1.a=some a8∧
 ∃v9,aO h6 (adr a8 ((0:Int).toNat*2)) 0 v9∧
 (cB 0 t2.2.len∧∃a10,t2.2.a=some a10∧
 ∃v11,aO h6 (adr a10 ((0:Int).toNat*2)) 0 v11∧
 J7 (Op.bytesLess v9.toList v11.toList) h6))) (
 J7 false h6)))) (
 K () h6)) (fun J4=>
 CondP (decide ((t2.1.len:Int)>(0:Int))) (
 J4 true h3) (
 J4 (decide ((t2.2.len:Int)>(0:Int))) h3))) (x1,x2) h0
noncomputable def DW:Ann:=.loop [(1,.c .slice),(2,.c .slice)] (.node (.join [(13,.c .bool)] .nil .nil) (.join [(49,.c .bool)] (.draw (NS 0 4 (.split 53 (NS 4 16 (.done)) (NS 4 4 (.split 57 (NS 8 12 (.done)) (NS 8 12 (.done))))))) (.node (.join [] (.draw (NS 0 14 (.all (.lastT 14 (.all (.lastT 15 (.take 16 (.take 17 (.all (.lastT 18 (.done))))))))))) .nil) (.join [(89,.c .bool)] (.draw (NS 0 4 (.split 93 (NS 4 11 (.done)) (NS 4 11 (.done))))) (.node (.join [] (.draw (NS 0 14 (.all (.lastT 14 (.all (.lastT 15 (.take 16 (.take 17 (.all (.lastT 18 (.done))))))))))) .nil) (.join [] (.node (.draw (NS 0 9 (.done))) (.node (.draw (NS 0 18 (.all (.lastT 18 (.all (.lastT 19 (.take 20 (.take 21 (.all (.lastT 22 (.done))))))))))) .nil)) (.draw (NS 0 6 (.done)))))))))
theorem DN(x0:Option Addr)(x1:SliceV)(x2:SliceV){K:cQ []→ae→Prop}{h0:ae}(h:wh x0 x1 x2 K h0):HC PG iq (Kj x0 x1 x2) [] K h0:=dL DW Tryz.func162 Tryz.call162 rfl rfl (by kernel_rfl) h
def yy(x0:Option Addr)(x1:ByteArray)(K:(SliceV)→ae→Prop)(h0:ae):Prop:=
 CondP x0.isNone (
 K ⟨none,0,0⟩ h0) (
 HC PG eh [.pointer x0] [.c .str] (fun(e1:ByteArray) h2=>
 (((x1.size+e1.size:Nat):Int)≤9223372036854775807∧
 Join (fun(t10:SliceV) h11=>
 HC PG kA [.pointer x0] [.c .slice] (fun(e12:SliceV) h13=>
 LoopP (fun I14 (t15:SliceV×Int) h16=>
 CondP (decide (t15.2<(e12.len:Int))) (
 Join (fun(t25:SliceV) h26=>
 I14 (t25,IntKind.wrap .i64 (t15.2+1)) h26) (fun J17=>
 (cB t15.2 e12.len∧∃a18,e12.a=some a18∧
 ∃v19,bM h16 a18 (t15.2.toNat*1) (.pointer v19)∧
 HC PG kB (A0 v19 (x1++e1)) [.c .slice] (fun(e20:SliceV) h21=>
 ∃xs22,SRow h21 e20.a (e20.len*2) xs22∧
 AppP (some kZ) 2 32 al t15.1.a t15.1.len t15.1.cap e20.len xs22 h21 (fun s23 h24=>
 J17 s23 h24)) h16))) (
 K t15.1 h16)) (t10,0) h13) h11) (fun J3=>
 HC PG im [.pointer x0] nn (fun(e4:ByteArray×Bool) h5=>
 CondP e4.2 (
 At (hnew h5 (ij (x1++e1) e4.1) al) (fun h6=>
 ∃xs7,SRow h6 (some (aE h5)) (1*2) xs7∧
 AppP (some kZ) 2 32 al none 0 0 1 xs7 h6 (fun s8 h9=>
 J3 s8 h9))) (
 J3 ⟨none,0,0⟩ h5)) h2))) h0)
noncomputable def NN:Ann:=.node .nil (.node .nil (.node .nil (.node .nil (.join [(6,.c .slice)] .nil (.node (.node .nil (.loop [(6,.c .slice),(32,.c (.int .i64))] (.node .nil (.node .nil (.join [(6,.c .slice)] .nil .nil))))) .nil)))))
theorem Et(x0:Option Addr)(x1:ByteArray){K:cQ [.c .slice]→ae→Prop}{h0:ae}(h:yy x0 x1 K h0):HC PG kB (A0 x0 x1) [.c .slice] K h0:=dL NN Tryz.func163 Tryz.call163 rfl rfl (by kernel_rfl) h
def Hz(x0:Option Addr)(x1:ByteArray)(K:(SliceV)→ae→Prop)(h0:ae):Prop:=
 HC PG im [.pointer x0] nn (fun(e1:ByteArray×Bool) h2=>
 CondP (!e1.2) (
 K ⟨none,0,0⟩ h2) (
 At (hnew h2 (ij x1 e1.1) al) (fun h3=>
 K ⟨some (aE h2),1,1⟩ h3))) h0
theorem PU(x0:Option Addr)(x1:ByteArray){K:cQ [.c .slice]→ae→Prop}{h0:ae}(h:Hz x0 x1 K h0):HC PG wS (A0 x0 x1) [.c .slice] K h0:=dL .nil Tryz.func164 Tryz.call164 rfl rfl (by kernel_rfl) h
def EJ(x0:Option Addr)(x1:Int)(K:(SliceV)→ae→Prop)(h0:ae):Prop:=
 HC PG jK (uV x0 x1) rZ (fun(e1:(ByteArray×ByteArray)×Bool) h2=>
 nv h2 kZ al (wq e1.1) (fun h4=>
 CondP e1.2 (
 ∃v5,aw h4 h2 0 v5∧
 ∃v6,aw h4 h2 1 v6∧
 At (hnew h4 (ij v5 v6) al) (fun h7=>
 K ⟨some (aE h4),1,1⟩ h7)) (
 HC PG gi (uV x0 x1) sA (fun(e8:(Option Addr)×Bool) h9=>
 HC PG qT [.pointer e8.1] [.c .slice] (fun(e10:SliceV) h11=>
 K e10 h11) h9) h4))) h0
theorem Nz(x0:Option Addr)(x1:Int){K:cQ [.c .slice]→ae→Prop}{h0:ae}(h:EJ x0 x1 K h0):HC PG ut (uV x0 x1) [.c .slice] K h0:=dL .nil Tryz.func165 Tryz.call165 rfl rfl (by kernel_rfl) h
def jE(x0:SliceV)(x1:Int)(x2:Int)(x3:Int)(x4:Value)(K:(Unit)→ae→Prop)(h0:ae):Prop:=
 LoopP (fun I1 (t2:Int×Int×Int×Bool×Bool) h3=>
 CondP (decide ((IntKind.wrap .i64 (t2.2.1-t2.1))≤(12:Int))) (
 HC PG eX [.slice x0.a x0.len x0.cap,.int .i64 t2.1,.int .i64 t2.2.1,x4] [] (fun(e4:Unit) h5=>
 K () h5) h3) (
 CondP (t2.2.2.1==(0:Int)) (
 HC PG nX [.slice x0.a x0.len x0.cap,.int .i64 t2.1,.int .i64 t2.2.1,x4] [] (fun(e6:Unit) h7=>
 K () h7) h3) (
 Join (fun(t11:Int) h12=>
 HC PG mG [.slice x0.a x0.len x0.cap,.int .i64 t2.1,.int .i64 t2.2.1,x4] Xa (fun(e13:Int×Int) h14=>
 Join (fun(t19:Int×Int) h20=>
 Join (fun(t27:Unit) h28=>
 Join (fun(t44:Bool) h45=>
 CondP t44 (
 HC PG lM [.slice x0.a x0.len x0.cap,.int .i64 t2.1,.int .i64 t2.2.1,.int .i64 t19.1,x4] cr (fun(e46:Int) h47=>
 I1 (e46,t2.2.1,t11,t2.2.2.2.1,t2.2.2.2.2) h47) h45) (
 HC PG nq [.slice x0.a x0.len x0.cap,.int .i64 t2.1,.int .i64 t2.2.1,.int .i64 t19.1,x4] nm (fun(e48:Int×Bool) h49=>
 ((8:Int)≠0∧
 CondP (decide ((IntKind.wrap .i64 (e48.1-t2.1))<(IntKind.wrap .i64 (t2.2.1-e48.1)))) (
 HC PG eM [.slice x0.a x0.len x0.cap,.int .i64 t2.1,.int .i64 e48.1,.int .i64 t11,x4] [] (fun(e50:Unit) h51=>
 I1 (IntKind.wrap .i64 (e48.1+1),t2.2.1,t11,decide ((IntKind.wrap .i64 (e48.1-t2.1))≥(IntKind.wrap .i64 (lj (IntKind.wrap .i64 (t2.2.1-t2.1)) 8))),e48.2) h51) h49) (
 HC PG eM [.slice x0.a x0.len x0.cap,.int .i64 (IntKind.wrap .i64 (e48.1+1)),.int .i64 t2.2.1,.int .i64 t11,x4] [] (fun(e52:Unit) h53=>
 I1 (t2.1,e48.1,t11,decide ((IntKind.wrap .i64 (t2.2.1-e48.1))≥(IntKind.wrap .i64 (lj (IntKind.wrap .i64 (t2.2.1-t2.1)) 8))),e48.2) h53) h49))) h45)) (fun J29=>
 CondP (decide (t2.1>(0:Int))) (
 (cB (IntKind.wrap .i64 (t2.1-1)) x0.len∧∃a30,x0.a=some a30∧
 ∃v31,bM h28 (adr a30 ((IntKind.wrap .i64 (t2.1-1)).toNat*5)) 0 (.string v31)∧
 ∃v32,bM h28 (adr a30 ((IntKind.wrap .i64 (t2.1-1)).toNat*5)) 1 (.string v32)∧
 ∃v33,bM h28 (adr a30 ((IntKind.wrap .i64 (t2.1-1)).toNat*5)) 2 (.string v33)∧
 ∃v34,bM h28 (adr a30 ((IntKind.wrap .i64 (t2.1-1)).toNat*5)) 3 (.bool v34)∧
 ∃v35,bM h28 (adr a30 ((IntKind.wrap .i64 (t2.1-1)).toNat*5)) 4 (.bool v35)∧
 (cB t19.1 x0.len∧∃a36,x0.a=some a36∧
 ∃v37,aO h28 (adr a36 (t19.1.toNat*5)) 0 v37∧
 ∃v38,aO h28 (adr a36 (t19.1.toNat*5)) 1 v38∧
 ∃v39,aO h28 (adr a36 (t19.1.toNat*5)) 2 v39∧
 ∃v40,cP h28 (adr a36 (t19.1.toNat*5)) 3 v40∧
 ∃v41,cP h28 (adr a36 (t19.1.toNat*5)) 4 v41∧
 HV PG x4 [xw v31 v32 v33 v34 v35,xw v37 v38 v39 v40 v41] cr (fun(e42:Int) h43=>
 J29 (!(decide (e42<(0:Int)))) h43) h28))) (
 J29 false h28))) (fun J21=>
 Join (fun(t23:Bool) h24=>
 CondP t23 (
 HC PG d8 [.slice x0.a x0.len x0.cap,.int .i64 t2.1,.int .i64 t2.2.1,x4] [.c .bool] (fun(e25:Bool) h26=>
 CondP e25 (
 K () h26) (
 J21 () h26)) h24) (
 J21 () h24)) (fun J22=>
 CondP t2.2.2.2.1 (
 CondP t2.2.2.2.2 (
 J22 (t19.2==(1:Int)) h20) (
 J22 false h20)) (
 J22 false h20)))) (fun J15=>
 CondP (e13.2==(2:Int)) (
 HC PG mo [.slice x0.a x0.len x0.cap,.int .i64 t2.1,.int .i64 t2.2.1,x4] [] (fun(e16:Unit) h17=>
 Bd (IntKind.wrap .i64 ((IntKind.wrap .i64 (t2.2.1-1))-(IntKind.wrap .i64 (e13.1-t2.1))):Int) (fun n18=>
 J15 (n18,1) h17)) h14) (
 J15 (e13.1,e13.2) h14))) h12) (fun J8=>
 CondP (!t2.2.2.2.1) (
 HC PG l3 [.slice x0.a x0.len x0.cap,.int .i64 t2.1,.int .i64 t2.2.1,x4] [] (fun(e9:Unit) h10=>
 J8 (IntKind.wrap .i64 (t2.2.2.1-1)) h10) h3) (
 J8 t2.2.2.1 h3))))) (x1,x2,x3,true,true) h0
noncomputable def oJ:Ann:=.node .nil (.node .nil (.loop [(1,.c (.int .i64)),(2,.c (.int .i64)),(3,.c (.int .i64)),(10,.c .bool),(11,.c .bool)] (.node .nil (.node .nil (.node .nil (.join [(3,.c (.int .i64))] .nil (.node .nil (.join [(13,.c (.int .i64)),(14,.c (.int .i64))] .nil (.join [] (.join [(75,.c .bool)] .nil .nil) (.node (.join [(97,.c .bool)] .nil .nil) .nil))))))))))
theorem oE(x0:SliceV)(x1:Int)(x2:Int)(x3:Int)(x4:Value){K:cQ []→ae→Prop}{h0:ae}(h:jE x0 x1 x2 x3 x4 K h0):HC PG eM [.slice x0.a x0.len x0.cap,.int .i64 x1,.int .i64 x2,.int .i64 x3,x4] [] K h0:=dL oJ Tryz.func166 Tryz.call166 rfl rfl (by kernel_rfl) h
def xp(x0:Int)(K:(Int)→ae→Prop)(h0:ae):Prop:=
 HC PG pR [.int .u64 x0] cr (fun(e3:Int) h4=>
 K e3 h4) h0
theorem E3(x0:Int){K:cQ cr→ae→Prop}{h0:ae}(h:xp x0 K h0):HC PG rN [.int .u64 x0] cr K h0:=dL .nil Tryz.func167 Tryz.call167 rfl rfl (by kernel_rfl) h
def xq(x0:ByteArray)(K:(Bool)→ae→Prop)(h0:ae):Prop:=
 K (!(x0.toList==x0.toList)) h0
theorem E4(x0:ByteArray){K:cQ [.c .bool]→ae→Prop}{h0:ae}(h:xq x0 K h0):HC PG oO [.string x0] [.c .bool] K h0:=dL .nil Tryz.func168 Tryz.call168 rfl rfl (by kernel_rfl) h
def m6(x0:Value)(K:(SliceV)→ae→Prop)(h0:ae):Prop:=
 HC PG fh [.slice none 0 0,x0] [.c .slice] (fun(e1:SliceV) h2=>
 K e1 h2) h0
theorem tF(x0:Value){K:cQ [.c .slice]→ae→Prop}{h0:ae}(h:m6 x0 K h0):HC PG jT [x0] [.c .slice] K h0:=dL .nil Tryz.func169 Tryz.call169 rfl rfl (by kernel_rfl) h
def Hc(x0:Option Addr)(K:(Value)→ae→Prop)(h0:ae):Prop:=
 At (hnew h0 [.pointer x0] bV) (fun h1=>
 K (.func (.func sC) #[] #[.pointer (some (aE h0))]) h1)
theorem PA(x0:Option Addr){K:cQ [.c .raw]→ae→Prop}{h0:ae}(h:Hc x0 K h0):HC PG Ar [.pointer x0] [.c .raw] K h0:=dL .nil Tryz.func171 Tryz.call171 rfl rfl (by kernel_rfl) h
def jp(x0:SliceV)(K:(SliceV)→ae→Prop)(h0:ae):Prop:=
 CondP x0.a.isNone (
 K ⟨none,0,0⟩ h0) (
 At (hnew h0 [] al) (fun h1=>
 ∃xs2,SRow h1 x0.a (x0.len*2) xs2∧
 AppP (some kZ) 2 32 al (some (aE h0)) 0 0 x0.len xs2 h1 (fun s3 h4=>
 K s3 h4)))
theorem oa(x0:SliceV){K:cQ [.c .slice]→ae→Prop}{h0:ae}(h:jp x0 K h0):HC PG dB [.slice x0.a x0.len x0.cap] [.c .slice] K h0:=dL .nil Tryz.func172 Tryz.call172 rfl rfl (by kernel_rfl) h
def ey(x0:SliceV)(x1:Value)(K:(Unit)→ae→Prop)(h0:ae):Prop:=
 HC PG kz [.slice x0.a x0.len x0.cap,.int .i64 (x0.len:Int),x1] [] (fun(e1:Unit) h2=>
 K () h2) h0
theorem gk(x0:SliceV)(x1:Value){K:cQ []→ae→Prop}{h0:ae}(h:ey x0 x1 K h0):HC PG dh [.slice x0.a x0.len x0.cap,x1] [] K h0:=dL .nil Tryz.func173 Tryz.call173 rfl rfl (by kernel_rfl) h
def xj(x0:ByteArray×ByteArray)(x1:ByteArray×ByteArray)(K:(Int)→ae→Prop)(h0:ae):Prop:=
 At (hnew h0 (wq x0) al) (fun h1=>
 At (hnew h1 (wq x1) al) (fun h2=>
 ∃v3,aw h2 h0 0 v3∧
 ∃v4,aw h2 h0 1 v4∧
 ∃v5,aw h2 h1 0 v5∧
 HC PG pP [qn v3 v4,.string v5] cr (fun(e6:Int) h7=>
 K e6 h7) h2))
theorem EZ(x0:ByteArray×ByteArray)(x1:ByteArray×ByteArray){K:cQ cr→ae→Prop}{h0:ae}(h:xj x0 x1 K h0):HC PG rL [QJ x0,QJ x1] cr K h0:=dL .nil Tryz.func174 Tryz.call174 rfl rfl (by kernel_rfl) h
def Cy(x0:ByteArray×ByteArray)(x1:ByteArray)(K:(Int)→ae→Prop)(h0:ae):Prop:=
 At (hnew h0 (wq x0) al) (fun h1=>
 ∃v2,aw h1 h0 0 v2∧
 HC PG mC (ij v2 x1) cr (fun(e3:Int) h4=>
 K e3 h4) h1)
theorem Lu(x0:ByteArray×ByteArray)(x1:ByteArray){K:cQ cr→ae→Prop}{h0:ae}(h:Cy x0 x1 K h0):HC PG pP [QJ x0,.string x1] cr K h0:=dL .nil Tryz.func175 Tryz.call175 rfl rfl (by kernel_rfl) h
def JX(x0:Int×Int)(x1:ByteArray)(K:(Int)→ae→Prop)(h0:ae):Prop:=
 At (hnew h0 (YE x0) mg) (fun h1=>
 ∃v2,af h1 h0 0 v2∧
 Bd (IntKind.wrap .u64 (ao (IntKind.bits .u64) v2^^^ao (IntKind.bits .u64) 8317987319222330741).toNat:Int) (fun n3=>
 ∃v4,af h1 h0 1 v4∧
 Bd (IntKind.wrap .u64 (ao (IntKind.bits .u64) v4^^^ao (IntKind.bits .u64) 7237128888997146477).toNat:Int) (fun n5=>
 ∃v6,af h1 h0 0 v6∧
 Bd (IntKind.wrap .u64 (ao (IntKind.bits .u64) v6^^^ao (IntKind.bits .u64) 7816392313619706465).toNat:Int) (fun n7=>
 ∃v8,af h1 h0 1 v8∧
 Bd (IntKind.wrap .u64 (ao (IntKind.bits .u64) v8^^^ao (IntKind.bits .u64) 8387220255154660723).toNat:Int) (fun n9=>
 nv h1 Rm ku (Rp n3 n5 n7 n9) (fun h11=>
 LoopP (fun I12 (t13:ByteArray) h14=>
 CondP (decide ((t13.size:Int)≥(8:Int))) (
 (((0:Int)≤(8:Int)∧(8:Int)≤((t13.size:Nat):Int))∧
 HC PG wJ [.string (t13.extract 0 ((8:Int).toNat))] eW (fun(e15:Int) h16=>
 HC PG nr (VA (some (aE h1)) e15) [] (fun(e17:Unit) h18=>
 (((0:Int)≤(8:Int)∧(8:Int)≤((t13.size:Nat):Int))∧
 I12 (t13.extract ((8:Int).toNat) t13.size) h18)) h16) h14)) (
 HC PG wJ [.string t13] eW (fun(e19:Int) h20=>
 ((0:Int)≤(56:Int)∧
 Bd (IntKind.wrap .u64 ((IntKind.wrap .u64 (x1.size:Int))*2^(min (56:Int).toNat (IntKind.bits .u64))):Int) (fun n21=>
 Bd (IntKind.wrap .u64 (ao (IntKind.bits .u64) e19|||ao (IntKind.bits .u64) n21).toNat:Int) (fun n22=>
 HC PG nr (VA (some (aE h1)) n22) [] (fun(e23:Unit) h24=>
 (cB (2:Int) 4∧
 ∃v25,bM h24 (aE h1) ((2:Int).toNat*1) (.int .u64 v25)∧
 Bd (IntKind.wrap .u64 (ao (IntKind.bits .u64) v25^^^ao (IntKind.bits .u64) 255).toNat:Int) (fun n26=>
 (cB (2:Int) 4∧
 (dS h24 (adr (aE h1) ((2:Int).toNat*1)) (.int .u64 n26) (fun h27=>
 HC PG jU (uV (some (aE h1)) 4) [] (fun(e28:Unit) h29=>
 (cB 0 4∧
 ∃v30,bM h29 (aE h1) ((0:Int).toNat*1) (.int .u64 v30)∧
 (cB 1 4∧
 ∃v31,bM h29 (aE h1) ((1:Int).toNat*1) (.int .u64 v31)∧
 Bd (IntKind.wrap .u64 (ao (IntKind.bits .u64) v30^^^ao (IntKind.bits .u64) v31).toNat:Int) (fun n32=>
 (cB (2:Int) 4∧
 ∃v33,bM h29 (aE h1) ((2:Int).toNat*1) (.int .u64 v33)∧
 Bd (IntKind.wrap .u64 (ao (IntKind.bits .u64) n32^^^ao (IntKind.bits .u64) v33).toNat:Int) (fun n34=>
 (cB (3:Int) 4∧
 ∃v35,bM h29 (aE h1) ((3:Int).toNat*1) (.int .u64 v35)∧
 Bd (IntKind.wrap .u64 (ao (IntKind.bits .u64) n34^^^ao (IntKind.bits .u64) v35).toNat:Int) (fun n36=>
 K n36 h29)))))))) h27)))))) h20)))) h14)) x1 h11))))))
noncomputable def S5:Ann:=.node .nil (.node .nil (.node .nil (.node (.loop [(1,.c .str)] .nil) .nil)))
theorem ST(x0:Int×Int)(x1:ByteArray){K:cQ eW→ae→Prop}{h0:ae}(h:JX x0 x1 K h0):HC PG Dn [Zp x0,.string x1] eW K h0:=dL S5 Tryz.func179 Tryz.call179 rfl rfl (by kernel_rfl) h
def zO(K:(Option Addr)→ae→Prop)(h0:ae):Prop:=
 At (hnew h0 [.int .u32 0,.int .u32 0,.slice none 0 0,.slice none 0 0,.bool true,.pointer none] bQ) (fun h1=>
 K (some (aE h0)) h1)
theorem Iw{K:cQ [.c .ptr]→ae→Prop}{h0:ae}(h:zO K h0):HC PG qW [] [.c .ptr] K h0:=dL .nil Tryz.func180 Tryz.call180 rfl rfl (by kernel_rfl) h
def xk(x0:Option Addr)(x1:Option Addr)(x2:ByteArray×ByteArray)(K:(Option Addr)→ae→Prop)(h0:ae):Prop:=
 At (hnew h0 (wq x2) al) (fun h1=>
 HC PG eQ [.pointer x0] [.c .bool] (fun(e2:Bool) h3=>
 CondP (!e2) (
 K x0 h3) (
 HC PG km (sr x0 x1) [.c .ptr] (fun(e4:Option Addr) h5=>
 ∃a6,e4=some a6∧
 ∃v7:SliceV,bR h5 (adr a6 0) 2 v7∧
 ∃v8,aw h5 h0 0 v8∧
 ∃v9,aw h5 h0 1 v9∧
 HC PG AB [.slice v7.a v7.len v7.cap,qn v8 v9] [.c .slice] (fun(e10:SliceV) h11=>
 ∃a12,e4=some a12∧
 (dS h11 (adr (adr a12 0) 2) (.slice e10.a e10.len e10.cap) (fun h13=>
 K e4 h13))) h5) h3)) h1)
theorem E0(x0:Option Addr)(x1:Option Addr)(x2:ByteArray×ByteArray){K:cQ [.c .ptr]→ae→Prop}{h0:ae}(h:xk x0 x1 x2 K h0):HC PG jf [.pointer x0,.pointer x1,QJ x2] [.c .ptr] K h0:=dL .nil Tryz.func181 Tryz.call181 rfl rfl (by kernel_rfl) h
def yB(x0:ByteArray×ByteArray×Int)(y0:Addr)(K:(Int)→ae→Prop)(h0:ae):Prop:=
 At (hnew h0 (OE x0) bW) (fun h1=>
 ∃v2,af h1 h0 2 v2∧
 ∃v3,aP h1 y0=some (.int .i64 v3)∧
 HC PG lO (nf v2 v3) cr (fun(e4:Int) h5=>
 K e4 h5) h1)
theorem Ha(x0:ByteArray×ByteArray×Int)(y0:Addr){K:cQ cr→ae→Prop}{h0:ae}(h:yB x0 y0 K h0):HC PG tl [V8 x0,.pointer (some y0)] cr K h0:=dL .nil Tryz.func182 Tryz.call182 rfl rfl (by kernel_rfl) h
def gN(x0:SliceV)(K:(SliceV)→ae→Prop)(h0:ae):Prop:=
 CondP x0.a.isNone (
 K ⟨none,0,0⟩ h0) (
 At (hnew h0 [] bW) (fun h1=>
 ∃xs2,SRow h1 x0.a (x0.len*3) xs2∧
 AppP (some NT) 3 40 bW (some (aE h0)) 0 0 x0.len xs2 h1 (fun s3 h4=>
 K s3 h4)))
theorem lR(x0:SliceV){K:cQ [.c .slice]→ae→Prop}{h0:ae}(h:gN x0 K h0):HC PG eR [.slice x0.a x0.len x0.cap] [.c .slice] K h0:=dL .nil Tryz.func183 Tryz.call183 rfl rfl (by kernel_rfl) h
def ft(x0:SliceV)(x1:Value)(K:(Unit)→ae→Prop)(h0:ae):Prop:=
 HC PG jB [.slice x0.a x0.len x0.cap,.int .i64 (x0.len:Int),x1] [] (fun(e1:Unit) h2=>
 K () h2) h0
theorem jN(x0:SliceV)(x1:Value){K:cQ []→ae→Prop}{h0:ae}(h:ft x0 x1 K h0):HC PG dM [.slice x0.a x0.len x0.cap,x1] [] K h0:=dL .nil Tryz.func184 Tryz.call184 rfl rfl (by kernel_rfl) h
def yA(x0:ByteArray×ByteArray×Int)(x1:ByteArray×ByteArray×Int)(y0:Addr)(K:(Int)→ae→Prop)(h0:ae):Prop:=
 At (hnew h0 (OE x0) bW) (fun h1=>
 At (hnew h1 (OE x1) bW) (fun h2=>
 ∃v3,aP h2 y0=some (v3)∧
 ∃v4,aw h2 h0 0 v4∧
 ∃v5,aw h2 h0 1 v5∧
 ∃v6,af h2 h0 2 v6∧
 ∃v7,aP h2 y0=some (v7)∧
 ∃v8,aw h2 h1 0 v8∧
 ∃v9,aw h2 h1 1 v9∧
 ∃v10,af h2 h1 2 v10∧
 HV PG v3 [Bb v4 v5 v6] cr (fun(e11:Int) h12=>
 ((aw h12 h1 0 v8∧aw h12 h1 1 v9∧af h12 h1 2 v10)∧
 (aP h12 y0=some (v7)∧
 HV PG v7 [Bb v8 v9 v10] cr (fun(e13:Int) h14=>
 HC PG pS (Xm e11 e13) cr (fun(e15:Int) h16=>
 K e15 h16) h14) h12))) h2))
theorem G9(x0:ByteArray×ByteArray×Int)(x1:ByteArray×ByteArray×Int)(y0:Addr){K:cQ cr→ae→Prop}{h0:ae}(h:yA x0 x1 y0 K h0):HC PG th [V8 x0,V8 x1,.pointer (some y0)] cr K h0:=dL .nil Tryz.func185 Tryz.call185 rfl rfl (by kernel_rfl) h
def uP(x0:Int)(x1:Int)(K:(Int)→ae→Prop)(h0:ae):Prop:=
 HC PG oP [.int .i64 x0] [.c .bool] (fun(e1:Bool) h2=>
 HC PG oP [.int .i64 x1] [.c .bool] (fun(e3:Bool) h4=>
 CondP e1 (
 CondP e3 (
 K 0 h4) (
 K (-1) h4)) (
 CondP e3 (
 K 1 h4) (
 CondP (decide (x0<x1)) (
 K (-1) h4) (
 CondP (decide (x0>x1)) (
 K 1 h4) (
 K 0 h4))))) h2) h0
theorem Cp(x0:Int)(x1:Int){K:cQ cr→ae→Prop}{h0:ae}(h:uP x0 x1 K h0):HC PG pS (Xm x0 x1) cr K h0:=dL .nil Tryz.func186 Tryz.call186 rfl rfl (by kernel_rfl) h
def ge(x0:SliceV)(x1:Value)(K:(Int)→ae→Prop)(h0:ae):Prop:=
 LoopP (fun I1 (t2:Int) h3=>
 CondP (decide (t2<(x0.len:Int))) (
 (cB t2 x0.len∧∃a4,x0.a=some a4∧
 ∃v5,aO h3 (adr a4 (t2.toNat*3)) 0 v5∧
 ∃v6,aO h3 (adr a4 (t2.toNat*3)) 1 v6∧
 ∃v7,cM h3 (adr a4 (t2.toNat*3)) 2 v7∧
 HV PG x1 [Bb v5 v6 v7] [.c .bool] (fun(e8:Bool) h9=>
 CondP e8 (
 K t2 h9) (
 I1 (IntKind.wrap .i64 (t2+1)) h9)) h3)) (
 K (-1) h3)) 0 h0
noncomputable def kP:Ann:=.node .nil (.node (.node .nil (.loop [(8,.c (.int .i64))] .nil)) .nil)
theorem kN(x0:SliceV)(x1:Value){K:cQ cr→ae→Prop}{h0:ae}(h:ge x0 x1 K h0):HC PG dg [.slice x0.a x0.len x0.cap,x1] cr K h0:=dL kP Tryz.func187 Tryz.call187 rfl rfl (by kernel_rfl) h
def yz(x0:ByteArray×ByteArray×Int)(y0:Addr)(y1:Addr)(K:(Bool)→ae→Prop)(h0:ae):Prop:=
 At (hnew h0 (OE x0) bW) (fun h1=>
 ∃v2,aP h1 y0=some (v2)∧
 ∃v3,aw h1 h0 0 v3∧
 ∃v4,aw h1 h0 1 v4∧
 ∃v5,af h1 h0 2 v5∧
 ∃v6,aP h1 y1=some (.int .i64 v6)∧
 HV PG v2 [Bb v3 v4 v5] cr (fun(e7:Int) h8=>
 (aP h8 y1=some (.int .i64 v6)∧
 K (e7 !=v6) h8)) h1)
theorem G8(x0:ByteArray×ByteArray×Int)(y0:Addr)(y1:Addr){K:cQ [.c .bool]→ae→Prop}{h0:ae}(h:yz x0 y0 y1 K h0):HC PG tg [V8 x0,.pointer (some y0),.pointer (some y1)] [.c .bool] K h0:=dL .nil Tryz.func188 Tryz.call188 rfl rfl (by kernel_rfl) h
def sq(x0:Option Addr)(x1:Option Addr)(x2:Int)(x3:ByteArray×ByteArray)(K:(Option Addr)→ae→Prop)(h0:ae):Prop:=
 At (hnew h0 (wq x3) al) (fun h1=>
 HC PG mB (uV x0 x2) [.c .bool] (fun(e2:Bool) h3=>
 CondP (!e2) (
 K x0 h3) (
 HC PG km (sr x0 x1) [.c .ptr] (fun(e4:Option Addr) h5=>
 ∃a6,e4=some a6∧
 ∃v7,iK h5 (adr a6 0) 0 v7∧
 HC PG gt (oS v7 x2) [.c .bool] (fun(e8:Bool) h9=>
 CondP e8 (
 ∃a10,e4=some a10∧
 ∃v11:SliceV,bR h9 (adr a10 0) 2 v11∧
 ∃a12,e4=some a12∧
 ∃v13,iK h9 (adr a12 0) 0 v13∧
 ∃v14,aw h9 h0 0 v14∧
 ∃v15,aw h9 h0 1 v15∧
 HC PG dQ (oS v13 x2) cr (fun(e16:Int) h17=>
 ((aw h17 h0 0 v14∧aw h17 h0 1 v15)∧
 (bR h17 (adr a10 0) 2 v11∧
 (cB e16 v11.len∧∃a18,v11.a=some a18∧
 (ml h17 (adr a18 (e16.toNat*2)) (ij v14 v15) (fun h19=>
 K e4 h19)))))) h9) (
 ∃a20,e4=some a20∧
 HC PG mA (uV (some (adr a20 0)) x2) [] (fun(e21:Unit) h22=>
 ∃a23,e4=some a23∧
 ∃v24:SliceV,bR h22 (adr a23 0) 2 v24∧
 ∃a25,e4=some a25∧
 ∃v26,iK h22 (adr a25 0) 0 v26∧
 ∃v27,aw h22 h0 0 v27∧
 ∃v28,aw h22 h0 1 v28∧
 ((HC PG dQ (oS v26 x2) cr (fun(e29:Int) h30=>
 ((aw h30 h0 0 v27∧aw h30 h0 1 v28)∧
 (bR h30 (adr a23 0) 2 v24∧
 At (hnew h30 (ij v27 v28) al) (fun h31=>
 (bR h31 (adr a23 0) 2 v24∧
 HC PG du [.slice v24.a v24.len v24.cap,.int .i64 e29,.slice (some (aE h30)) 1 1] [.c .slice] (fun(e32:SliceV) h33=>
 ∃a34,e4=some a34∧
 (dS h33 (adr (adr a34 0) 2) (.slice e32.a e32.len e32.cap) (fun h35=>
 ∃a36,e4=some a36∧
 ∃v37,iK h35 (adr a36 0) 0 v37∧
 HC PG fV (oS v37 x2) j7 (fun(e38:Int) h39=>
 ∃a40,e4=some a40∧
 (dS h39 (adr (adr a40 0) 0) (.int .u32 e38) (fun h41=>
 K e4 h41))) h35))) h31))))) h22)∧
 At (hnew h22 (ij v27 v28) al) (fun h42=>
 (iK h42 (adr a25 0) 0 v26∧
 (bR h42 (adr a23 0) 2 v24∧
 HC PG dQ (oS v26 x2) cr (fun(e43:Int) h44=>
 (bR h44 (adr a23 0) 2 v24∧
 HC PG du [.slice v24.a v24.len v24.cap,.int .i64 e43,.slice (some (aE h22)) 1 1] [.c .slice] (fun(e45:SliceV) h46=>
 ∃a47,e4=some a47∧
 (dS h46 (adr (adr a47 0) 2) (.slice e45.a e45.len e45.cap) (fun h48=>
 ∃a49,e4=some a49∧
 ∃v50,iK h48 (adr a49 0) 0 v50∧
 HC PG fV (oS v50 x2) j7 (fun(e51:Int) h52=>
 ∃a53,e4=some a53∧
 (dS h52 (adr (adr a53 0) 0) (.int .u32 e51) (fun h54=>
 K e4 h54))) h48))) h44)) h42))))) h9)) h5) h3)) h1)
theorem za(x0:Option Addr)(x1:Option Addr)(x2:Int)(x3:ByteArray×ByteArray){K:cQ [.c .ptr]→ae→Prop}{h0:ae}(h:sq x0 x1 x2 x3 K h0):HC PG ff [.pointer x0,.pointer x1,.int .i64 x2,QJ x3] [.c .ptr] K h0:=dL .nil Tryz.func189 Tryz.call189 rfl rfl (by kernel_rfl) h
def tR(x0:Option Addr)(x1:Option Addr)(x2:Int)(x3:Option Addr)(K:(Option Addr)→ae→Prop)(h0:ae):Prop:=
 CondP x3.isNone (
 HC PG BO (Tp x0 x1 x2) [.c .ptr] (fun(e1:Option Addr) h2=>
 K e1 h2) h0) (
 HC PG mB (uV x0 x2) [.c .bool] (fun(e3:Bool) h4=>
 CondP (!e3) (
 K x0 h4) (
 HC PG km (sr x0 x1) [.c .ptr] (fun(e5:Option Addr) h6=>
 ∃a7,e5=some a7∧
 ∃v8,iK h6 (adr a7 0) 1 v8∧
 HC PG gt (oS v8 x2) [.c .bool] (fun(e9:Bool) h10=>
 CondP e9 (
 ∃a11,e5=some a11∧
 ∃v12:SliceV,bR h10 (adr a11 0) 3 v12∧
 ∃a13,e5=some a13∧
 ∃v14,iK h10 (adr a13 0) 1 v14∧
 HC PG dQ (oS v14 x2) cr (fun(e15:Int) h16=>
 (bR h16 (adr a11 0) 3 v12∧
 (cB e15 v12.len∧∃a17,v12.a=some a17∧
 (dS h16 (adr a17 (e15.toNat*1)) (.pointer x3) (fun h18=>
 K e5 h18))))) h10) (
 ∃a19,e5=some a19∧
 HC PG mA (uV (some (adr a19 0)) x2) [] (fun(e20:Unit) h21=>
 ∃a22,e5=some a22∧
 ∃v23:SliceV,bR h21 (adr a22 0) 3 v23∧
 ∃a24,e5=some a24∧
 ∃v25,iK h21 (adr a24 0) 1 v25∧
 ((HC PG dQ (oS v25 x2) cr (fun(e26:Int) h27=>
 (bR h27 (adr a22 0) 3 v23∧
 At (hnew h27 [.pointer x3] bV) (fun h28=>
 (bR h28 (adr a22 0) 3 v23∧
 HC PG cX [.slice v23.a v23.len v23.cap,.int .i64 e26,.slice (some (aE h27)) 1 1] [.c .slice] (fun(e29:SliceV) h30=>
 ∃a31,e5=some a31∧
 (dS h30 (adr (adr a31 0) 3) (.slice e29.a e29.len e29.cap) (fun h32=>
 ∃a33,e5=some a33∧
 ∃v34,iK h32 (adr a33 0) 1 v34∧
 HC PG fV (oS v34 x2) j7 (fun(e35:Int) h36=>
 ∃a37,e5=some a37∧
 (dS h36 (adr (adr a37 0) 1) (.int .u32 e35) (fun h38=>
 K e5 h38))) h32))) h28)))) h21)∧
 At (hnew h21 [.pointer x3] bV) (fun h39=>
 (iK h39 (adr a24 0) 1 v25∧
 (bR h39 (adr a22 0) 3 v23∧
 HC PG dQ (oS v25 x2) cr (fun(e40:Int) h41=>
 (bR h41 (adr a22 0) 3 v23∧
 HC PG cX [.slice v23.a v23.len v23.cap,.int .i64 e40,.slice (some (aE h21)) 1 1] [.c .slice] (fun(e42:SliceV) h43=>
 ∃a44,e5=some a44∧
 (dS h43 (adr (adr a44 0) 3) (.slice e42.a e42.len e42.cap) (fun h45=>
 ∃a46,e5=some a46∧
 ∃v47,iK h45 (adr a46 0) 1 v47∧
 HC PG fV (oS v47 x2) j7 (fun(e48:Int) h49=>
 ∃a50,e5=some a50∧
 (dS h49 (adr (adr a50 0) 1) (.int .u32 e48) (fun h51=>
 K e5 h51))) h45))) h41)) h39))))) h10)) h6) h4)) h0)
theorem AS(x0:Option Addr)(x1:Option Addr)(x2:Int)(x3:Option Addr){K:cQ [.c .ptr]→ae→Prop}{h0:ae}(h:tR x0 x1 x2 x3 K h0):HC PG gm (EN x0 x1 x2 x3) [.c .ptr] K h0:=dL .nil Tryz.func190 Tryz.call190 rfl rfl (by kernel_rfl) h
def gO(x0:SliceV)(K:(SliceV)→ae→Prop)(h0:ae):Prop:=
 CondP x0.a.isNone (
 K ⟨none,0,0⟩ h0) (
 At (hnew h0 [] cf) (fun h1=>
 ∃xs2,SRow h1 x0.a (x0.len*1) xs2∧
 AppP (some [.pointer none]) 1 8 cf (some (aE h0)) 0 0 x0.len xs2 h1 (fun s3 h4=>
 K s3 h4)))
theorem lS(x0:SliceV){K:cQ [.c .slice]→ae→Prop}{h0:ae}(h:gO x0 K h0):HC PG dE [.slice x0.a x0.len x0.cap] [.c .slice] K h0:=dL .nil Tryz.func191 Tryz.call191 rfl rfl (by kernel_rfl) h
def hP(x0:SliceV)(K:(SliceV)→ae→Prop)(h0:ae):Prop:=
 CondP x0.a.isNone (
 K ⟨none,0,0⟩ h0) (
 At (hnew h0 [] bV) (fun h1=>
 ∃xs2,SRow h1 x0.a (x0.len*1) xs2∧
 AppP (some [.pointer none]) 1 8 bV (some (aE h0)) 0 0 x0.len xs2 h1 (fun s3 h4=>
 K s3 h4)))
theorem mp(x0:SliceV){K:cQ [.c .slice]→ae→Prop}{h0:ae}(h:hP x0 K h0):HC PG dT [.slice x0.a x0.len x0.cap] [.c .slice] K h0:=dL .nil Tryz.func192 Tryz.call192 rfl rfl (by kernel_rfl) h
def Ct(x0:SliceV)(x1:ByteArray)(K:(SliceV)→ae→Prop)(h0:ae):Prop:=
 (((0:Int)≤(x0.len:Int)∧(x0.len:Int)≤((x0.cap:Nat):Int))∧
 (((0:Int)≤(x0.len:Int)∧(x0.len:Int)≤(((x0.len:Int).toNat:Nat):Int))∧
 HC PG m3 [.slice (bj x0.a 0 ((x0.len:Int).toNat) 1) (((x0.len:Int).toNat)-0) (((x0.len:Int).toNat)-0),.int .u64 (IntKind.wrap .u64 (x1.size:Int)),.int .i64 2] [.c .slice] (fun(e1:SliceV) h2=>
 AppP (some [.int .u8 0]) 1 1 cH e1.a e1.len e1.cap x1.size (eH x1) h2 (fun s3 h4=>
 K s3 h4)) h0))
theorem Lp(x0:SliceV)(x1:ByteArray){K:cQ [.c .slice]→ae→Prop}{h0:ae}(h:Ct x0 x1 K h0):HC PG ns (HJ x0 x1) [.c .slice] K h0:=dL .nil Tryz.func193 Tryz.call193 rfl rfl (by kernel_rfl) h
def zF(x0:SliceV)(x1:SliceV)(K:(SliceV)→ae→Prop)(h0:ae):Prop:=
 LoopP (fun I1 (t2:SliceV×Int) h3=>
 CondP (decide (t2.2<(x1.len:Int))) (
 (cB t2.2 x1.len∧∃a4,x1.a=some a4∧
 ∃v5,aO h3 (adr a4 (t2.2.toNat*2)) 0 v5∧
 ∃v6,aO h3 (adr a4 (t2.2.toNat*2)) 1 v6∧
 nv h3 kZ al (ij v5 v6) (fun h8=>
 ∃v9,aw h8 h3 0 v9∧
 ∃v10,aw h8 h3 1 v10∧
 HC PG ns (HJ t2.1 v9) [.c .slice] (fun(e11:SliceV) h12=>
 (aw h12 h3 1 v10∧
 HC PG ns (HJ e11 v10) [.c .slice] (fun(e13:SliceV) h14=>
 I1 (e13,IntKind.wrap .i64 (t2.2+1)) h14) h12)) h8))) (
 K t2.1 h3)) (x0,0) h0
noncomputable def IC:Ann:=.node .nil (.node (.node .nil (.loop [(0,.c .slice),(9,.c (.int .i64))] .nil)) .nil)
theorem Ik(x0:SliceV)(x1:SliceV){K:cQ [.c .slice]→ae→Prop}{h0:ae}(h:zF x0 x1 K h0):HC PG qU (Qi x0 x1) [.c .slice] K h0:=dL IC Tryz.func194 Tryz.call194 rfl rfl (by kernel_rfl) h
def yx(x0:SliceV)(x1:Int)(x2:Int)(K:(SliceV)→ae→Prop)(h0:ae):Prop:=
 LoopP (fun I1 (t2:SliceV×Int) h3=>
 CondP (decide (t2.2<x2)) (
 Join (fun(t10:SliceV) h11=>
 I1 (t10,IntKind.wrap .i64 (t2.2+1)) h11) (fun J4=>
 ((0:Int)≤(IntKind.wrap .i64 (8*t2.2))∧
 Bd (dY x1 (2^(min (IntKind.wrap .i64 (8*t2.2):Int).toNat (IntKind.bits .u64))):Int) (fun n5=>
 At (hnew h3 [.int .u8 (IntKind.wrap .u8 n5)] cH) (fun h6=>
 ∃xs7,SRow h6 (some (aE h3)) (1*1) xs7∧
 AppP (some [.int .u8 0]) 1 1 cH t2.1.a t2.1.len t2.1.cap 1 xs7 h6 (fun s8 h9=>
 J4 s8 h9)))))) (
 K t2.1 h3)) (x0,0) h0
noncomputable def NH:Ann:=.node .nil (.node (.node .nil (.loop [(0,.c .slice),(9,.c (.int .i64))] (.node .nil (.node .nil (.join [(0,.c .slice)] .nil .nil))))) .nil)
theorem Es(x0:SliceV)(x1:Int)(x2:Int){K:cQ [.c .slice]→ae→Prop}{h0:ae}(h:yx x0 x1 x2 K h0):HC PG m3 (Rs x0 x1 x2) [.c .slice] K h0:=dL NH Tryz.func195 Tryz.call195 rfl rfl (by kernel_rfl) h
def xm(x0:Option Addr)(K:(Int)→ae→Prop)(h0:ae):Prop:=
 CondP x0.isNone (
 K 0 h0) (
 ∃a1,x0=some a1∧
 ∃v2:SliceV,bR h0 (adr a1 0) 2 v2∧
 ∃a3,x0=some a3∧
 ∃v4:SliceV,bR h0 (adr a3 0) 3 v4∧
 K (IntKind.wrap .i64 ((v2.len:Int)+(v4.len:Int))) h0)
theorem E1(x0:Option Addr){K:cQ cr→ae→Prop}{h0:ae}(h:xm x0 K h0):HC PG rM [.pointer x0] cr K h0:=dL .nil Tryz.func196 Tryz.call196 rfl rfl (by kernel_rfl) h
def wd(x0:Option Addr)(K:(Int)→ae→Prop)(h0:ae):Prop:=
 CondP x0.isNone (
 K 0 h0) (
 ∃a1,x0=some a1∧
 ∃v2,iK h0 (adr a1 0) 0 v2∧
 K v2 h0)
theorem DK(x0:Option Addr){K:cQ j7→ae→Prop}{h0:ae}(h:wd x0 K h0):HC PG lg [.pointer x0] j7 K h0:=dL .nil Tryz.func197 Tryz.call197 rfl rfl (by kernel_rfl) h
def uM(x0:Option Addr)(K:(Int)→ae→Prop)(h0:ae):Prop:=
 CondP x0.isNone (
 K 0 h0) (
 ∃a1,x0=some a1∧
 ∃v2,iK h0 (adr a1 0) 1 v2∧
 K v2 h0)
theorem Cm(x0:Option Addr){K:cQ j7→ae→Prop}{h0:ae}(h:uM x0 K h0):HC PG iS [.pointer x0] j7 K h0:=dL .nil Tryz.func198 Tryz.call198 rfl rfl (by kernel_rfl) h
def Cw(x0:SliceV)(K:(Option Addr)→ae→Prop)(h0:ae):Prop:=
 (cB 0 x0.len∧∃a1,x0.a=some a1∧
 ∃v2,aO h0 (adr a1 ((0:Int).toNat*2)) 0 v2∧
 LoopP (fun I3 (t4:Int×Int) h5=>
 CondP (decide (t4.2<(x0.len:Int))) (
 Join (fun(t17:Int) h18=>
 I3 (t17,IntKind.wrap .i64 (t4.2+1)) h18) (fun J6=>
 (cB t4.2 x0.len∧∃a7,x0.a=some a7∧
 ∃v8,aO h5 (adr a7 (t4.2.toNat*2)) 0 v8∧
 ∃v9,aO h5 (adr a7 (t4.2.toNat*2)) 1 v9∧
 nv h5 kZ bS (ij v8 v9) (fun h11=>
 (cB 0 x0.len∧∃a12,x0.a=some a12∧
 ∃v13,aO h11 (adr a12 ((0:Int).toNat*2)) 0 v13∧
 ∃v14,aw h11 h5 0 v14∧
 HC PG wM (ij v13 v14) cr (fun(e15:Int) h16=>
 CondP (decide (e15<t4.1)) (
 J6 e15 h16) (
 J6 t4.1 h16)) h11))))) (
 (cB 0 x0.len∧∃a19,x0.a=some a19∧
 ∃v20,aO h5 (adr a19 ((0:Int).toNat*2)) 0 v20∧
 (((0:Int)≤t4.1∧t4.1≤((v20.size:Nat):Int))∧
 At (hnew h5 [.string (v20.extract 0 t4.1.toNat),.bool false,.string (⟨#[]⟩:ByteArray),.slice none 0 0] oT) (fun h21=>
 LoopP (fun I22 (t23:SliceV×Int) h24=>
 CondP (decide (t23.2<(x0.len:Int))) (
 Join (fun(t43:SliceV) h44=>
 I22 (t43,IntKind.wrap .i64 (t23.2+1)) h44) (fun J25=>
 (cB t23.2 x0.len∧∃a26,x0.a=some a26∧
 ∃v27,aO h24 (adr a26 (t23.2.toNat*2)) 0 v27∧
 ∃v28,aO h24 (adr a26 (t23.2.toNat*2)) 1 v28∧
 nv h24 kZ bS (ij v27 v28) (fun h30=>
 ∃v31,aw h30 h24 0 v31∧
 CondP ((v31.size:Int)==t4.1) (
 ∃v32,aw h30 h24 1 v32∧
 ∃a33,some (aE h5)=some a33∧
 (dS h30 (adr a33 1) (.bool true) (fun h34=>
 (aw h34 h24 1 v32∧
 ∃a35,some (aE h5)=some a35∧
 (dS h34 (adr a35 2) (.string v32) (fun h36=>
 J25 t23.1 h36)))))) (
 ∃v37,aw h30 h24 0 v37∧
 (((0:Int)≤t4.1∧t4.1≤((v37.size:Nat):Int))∧
 ∃v38,aw h30 h24 1 v38∧
 At (hnew h30 (ij (v37.extract t4.1.toNat v37.size) v38) bS) (fun h39=>
 (aw h39 h24 1 v38∧
 (aw h39 h24 0 v37∧
 ∃xs40,SRow h39 (some (aE h30)) (1*2) xs40∧
 AppP (some kZ) 2 32 bS t23.1.a t23.1.len t23.1.cap 1 xs40 h39 (fun s41 h42=>
 (aw h42 h24 1 v38∧
 (aw h42 h24 0 v37∧
 J25 s41 h42)))))))))))) (
 HC PG sF [.slice t23.1.a t23.1.len t23.1.cap] [.c .slice] (fun(e45:SliceV) h46=>
 ∃a47,some (aE h5)=some a47∧
 (dS h46 (adr a47 3) (.slice e45.a e45.len e45.cap) (fun h48=>
 K (some (aE h5)) h48))) h24)) (⟨none,0,0⟩,0) h21))))) ((v2.size:Int),0) h0)
noncomputable def LE:Ann:=.node .nil (.node .nil (.node (.node .nil (.loop [(3,.c (.int .i64)),(18,.c (.int .i64))] (.node .nil (.node .nil (.join [(3,.c (.int .i64))] .nil .nil))))) (.node .nil (.node .nil (.node (.node .nil (.loop [(8,.c .slice),(44,.c (.int .i64))] (.node .nil (.node .nil (.join [(8,.c .slice)] .nil .nil))))) .nil)))))
theorem Ls(x0:SliceV){K:cQ [.c .ptr]→ae→Prop}{h0:ae}(h:Cw x0 K h0):HC PG wL [.slice x0.a x0.len x0.cap] [.c .ptr] K h0:=dL LE Tryz.func199 Tryz.call199 rfl rfl (by kernel_rfl) h
def Kb(x0:Int)(x1:Int)(x2:ByteArray)(K:(Int)→ae→Prop)(h0:ae):Prop:=
 Bd (IntKind.wrap .u64 (ao (IntKind.bits .u64) x0^^^ao (IntKind.bits .u64) 8317987319222330741).toNat:Int) (fun n1=>
 Bd (IntKind.wrap .u64 (ao (IntKind.bits .u64) x1^^^ao (IntKind.bits .u64) 7237128888997146477).toNat:Int) (fun n2=>
 Bd (IntKind.wrap .u64 (ao (IntKind.bits .u64) x0^^^ao (IntKind.bits .u64) 7816392313619706465).toNat:Int) (fun n3=>
 Bd (IntKind.wrap .u64 (ao (IntKind.bits .u64) x1^^^ao (IntKind.bits .u64) 8387220255154660723).toNat:Int) (fun n4=>
 nv h0 Rm ww (Rp n1 n2 n3 n4) (fun h6=>
 LoopP (fun I7 (t8:Int) h9=>
 CondP (decide (t8≤(x2.size:Int))) (
 LoopP (fun I10 (t11:Int×Int) h12=>
 CondP (decide (t11.2≥(0:Int))) (
 Join (fun(t16:Int) h17=>
 I10 (t16,IntKind.wrap .i64 (t11.2-1)) h17) (fun J13=>
 CondP (decide ((IntKind.wrap .i64 (t8+t11.2))<(x2.size:Int))) (
 ∃b14,(0:Int)≤(IntKind.wrap .i64 (t8+t11.2))∧x2[(IntKind.wrap .i64 (t8+t11.2)).toNat]? =some b14∧
 Bd (IntKind.wrap .u64 ((IntKind.wrap .u64 (t11.1*256))+(IntKind.wrap .u64 (b14.toNat:Int))):Int) (fun n15=>
 J13 n15 h12)) (
 J13 (IntKind.wrap .u64 (t11.1*256)) h12))) (
 Join (fun(t20:Int) h21=>
 (cB (3:Int) 4∧
 ∃v22,bM h21 (aE h0) ((3:Int).toNat*1) (.int .u64 v22)∧
 Bd (IntKind.wrap .u64 (ao (IntKind.bits .u64) v22^^^ao (IntKind.bits .u64) t20).toNat:Int) (fun n23=>
 (cB (3:Int) 4∧
 (dS h21 (adr (aE h0) ((3:Int).toNat*1)) (.int .u64 n23) (fun h24=>
 ∃v25,af h24 h0 0 v25∧
 ∃v26,af h24 h0 1 v26∧
 ∃v27,af h24 h0 2 v27∧
 ∃v28,af h24 h0 3 v28∧
 HC PG lA [Xs v25 v26 v27 v28] BC (fun(e29:Int×Int×Int×Int) h30=>
 HC PG lA [Sa e29] BC (fun(e31:Int×Int×Int×Int) h32=>
 (di h32 h0 (T9 e31) (fun h33=>
 (cB 0 4∧
 ∃v34,bM h33 (aE h0) ((0:Int).toNat*1) (.int .u64 v34)∧
 Bd (IntKind.wrap .u64 (ao (IntKind.bits .u64) v34^^^ao (IntKind.bits .u64) t20).toNat:Int) (fun n35=>
 (cB 0 4∧
 (dS h33 (adr (aE h0) ((0:Int).toNat*1)) (.int .u64 n35) (fun h36=>
 I7 (IntKind.wrap .i64 (t8+8)) h36)))))))) h30) h24)))))) (fun J18=>
 CondP (decide ((IntKind.wrap .i64 (t8+8))>(x2.size:Int))) (
 ((256:Int)≠0∧
 Bd (IntKind.wrap .u64 ((IntKind.wrap .u64 (kM (x2.size:Int) 256))*72057594037927936):Int) (fun n19=>
 J18 (IntKind.wrap .u64 (t11.1+n19)) h12))) (
 J18 t11.1 h12)))) (0,7) h9) (
 (cB (2:Int) 4∧
 ∃v37,bM h9 (aE h0) ((2:Int).toNat*1) (.int .u64 v37)∧
 Bd (IntKind.wrap .u64 (ao (IntKind.bits .u64) v37^^^ao (IntKind.bits .u64) 255).toNat:Int) (fun n38=>
 (cB (2:Int) 4∧
 (dS h9 (adr (aE h0) ((2:Int).toNat*1)) (.int .u64 n38) (fun h39=>
 ∃v40,af h39 h0 0 v40∧
 ∃v41,af h39 h0 1 v41∧
 ∃v42,af h39 h0 2 v42∧
 ∃v43,af h39 h0 3 v43∧
 HC PG lA [Xs v40 v41 v42 v43] BC (fun(e44:Int×Int×Int×Int) h45=>
 HC PG lA [Sa e44] BC (fun(e46:Int×Int×Int×Int) h47=>
 HC PG lA [Sa e46] BC (fun(e48:Int×Int×Int×Int) h49=>
 HC PG lA [Sa e48] BC (fun(e50:Int×Int×Int×Int) h51=>
 (di h51 h0 (T9 e50) (fun h52=>
 (cB 0 4∧
 ∃v53,bM h52 (aE h0) ((0:Int).toNat*1) (.int .u64 v53)∧
 (cB 1 4∧
 ∃v54,bM h52 (aE h0) ((1:Int).toNat*1) (.int .u64 v54)∧
 Bd (IntKind.wrap .u64 (ao (IntKind.bits .u64) v53^^^ao (IntKind.bits .u64) v54).toNat:Int) (fun n55=>
 (cB (2:Int) 4∧
 ∃v56,bM h52 (aE h0) ((2:Int).toNat*1) (.int .u64 v56)∧
 Bd (IntKind.wrap .u64 (ao (IntKind.bits .u64) n55^^^ao (IntKind.bits .u64) v56).toNat:Int) (fun n57=>
 (cB (3:Int) 4∧
 ∃v58,bM h52 (aE h0) ((3:Int).toNat*1) (.int .u64 v58)∧
 Bd (IntKind.wrap .u64 (ao (IntKind.bits .u64) n57^^^ao (IntKind.bits .u64) v58).toNat:Int) (fun n59=>
 K n59 h52)))))))))) h49) h47) h45) h39))))))) 0 h6)))))
noncomputable def S7:Ann:=.node .nil (.node .nil (.node (.node .nil (.loop [(8,.c (.int .i64))] (.node .nil (.node (.node .nil (.node (.node .nil (.loop [(9,.c (.int .u64)),(10,.c (.int .i64))] (.node .nil (.join [(9,.c (.int .u64))] .nil .nil)))) (.join [(9,.c (.int .u64))] .nil .nil))) .nil)))) .nil))
theorem SZ(x0:Int)(x1:Int)(x2:ByteArray){K:cQ eW→ae→Prop}{h0:ae}(h:Kb x0 x1 x2 K h0):HC PG Dr (Xp x0 x1 x2) eW K h0:=dL S7 Tryz.func200 Tryz.call200 rfl rfl (by kernel_rfl) h
def NF(x0:Int)(x1:Int)(K:(Int)→ae→Prop)(h0:ae):Prop:=
 Join (fun(t2:Bool) h3=>
 CondP t2 (
 K 0 h3) (
 LoopP (fun I4 (t5:Int×Int) h6=>
 CondP (decide (t5.2<x1)) (
 ((32:Int)≠0∧
 I4 (IntKind.wrap .u64 (lj t5.1 32),IntKind.wrap .i64 (t5.2+1)) h6)) (
 ((32:Int)≠0∧
 K (IntKind.wrap .i64 (kM t5.1 32)) h6))) (x0,0) h3)) (fun J1=>
 CondP (decide (x1<(0:Int))) (
 J1 true h0) (
 J1 (decide (x1>(12:Int))) h0))
noncomputable def Vn:Ann:=.node .nil (.node (.join [(11,.c .bool)] .nil .nil) (.node (.node .nil (.loop [(0,.c (.int .u64)),(5,.c (.int .i64))] .nil)) .nil))
theorem Vg(x0:Int)(x1:Int){K:cQ cr→ae→Prop}{h0:ae}(h:NF x0 x1 K h0):HC PG BN (nf x0 x1) cr K h0:=dL Vn Tryz.func201 Tryz.call201 rfl rfl (by kernel_rfl) h
def gf(x0:SliceV)(x1:Value)(K:(Int)→ae→Prop)(h0:ae):Prop:=
 LoopP (fun I1 (t2:Int) h3=>
 CondP (decide (t2<(x0.len:Int))) (
 (cB t2 x0.len∧∃a4,x0.a=some a4∧
 ∃v5,bM h3 a4 (t2.toNat*1) (.pointer v5)∧
 HV PG x1 [.pointer v5] [.c .bool] (fun(e6:Bool) h7=>
 CondP e6 (
 K t2 h7) (
 I1 (IntKind.wrap .i64 (t2+1)) h7)) h3)) (
 K (-1) h3)) 0 h0
noncomputable def kQ:Ann:=.node .nil (.node (.node .nil (.loop [(8,.c (.int .i64))] .nil)) .nil)
theorem kO(x0:SliceV)(x1:Value){K:cQ cr→ae→Prop}{h0:ae}(h:gf x0 x1 K h0):HC PG ga [.slice x0.a x0.len x0.cap,x1] cr K h0:=dL kQ Tryz.func202 Tryz.call202 rfl rfl (by kernel_rfl) h
def qq(x0:Option Addr)(K:(Bool)→ae→Prop)(h0:ae):Prop:=
 HC PG kW [.pointer x0] [.c .bool] (fun(e1:Bool) h2=>
 K (!e1) h2) h0
theorem xA(x0:Option Addr){K:cQ [.c .bool]→ae→Prop}{h0:ae}(h:qq x0 K h0):HC PG qp [.pointer x0] [.c .bool] K h0:=dL .nil Tryz.func203 Tryz.call203 rfl rfl (by kernel_rfl) h
def Cz(x0:SliceV)(K:(Bool)→ae→Prop)(h0:ae):Prop:=
 LoopP (fun I1 (t2:Int) h3=>
 CondP (decide (t2<(x0.len:Int))) (
 (cB (IntKind.wrap .i64 (t2-1)) x0.len∧∃a4,x0.a=some a4∧
 ∃v5,bM h3 (adr a4 ((IntKind.wrap .i64 (t2-1)).toNat*2)) 0 (.string v5)∧
 (cB t2 x0.len∧∃a6,x0.a=some a6∧
 ∃v7,aO h3 (adr a6 (t2.toNat*2)) 0 v7∧
 CondP (!(Op.bytesLess v5.toList v7.toList)) (
 K false h3) (
 I1 (IntKind.wrap .i64 (t2+1)) h3)))) (
 K true h3)) 1 h0
noncomputable def LG:Ann:=.node .nil (.node (.node .nil (.loop [(3,.c (.int .i64))] .nil)) .nil)
theorem Lv(x0:SliceV){K:cQ [.c .bool]→ae→Prop}{h0:ae}(h:Cz x0 K h0):HC PG wP [.slice x0.a x0.len x0.cap] [.c .bool] K h0:=dL LG Tryz.func204 Tryz.call204 rfl rfl (by kernel_rfl) h
def zG(x0:Int)(x1:SliceV)(K:(Bool)→ae→Prop)(h0:ae):Prop:=
 LoopP (fun I1 (t2:Int) h3=>
 CondP (decide (t2<(x1.len:Int))) (
 (cB t2 x1.len∧∃a4,x1.a=some a4∧
 ∃v5,bM h3 a4 (t2.toNat*1) (.int .i64 v5)∧
 HC PG lO (nf x0 t2) cr (fun(e6:Int) h7=>
 CondP (e6 !=v5) (
 K false h7) (
 I1 (IntKind.wrap .i64 (t2+1)) h7)) h3)) (
 K true h3)) 0 h0
noncomputable def ID:Ann:=.node .nil (.node (.node .nil (.loop [(9,.c (.int .i64))] .nil)) .nil)
theorem Il(x0:Int)(x1:SliceV){K:cQ [.c .bool]→ae→Prop}{h0:ae}(h:zG x0 x1 K h0):HC PG ot (Rr x0 x1) [.c .bool] K h0:=dL ID Tryz.func205 Tryz.call205 rfl rfl (by kernel_rfl) h
def DR(x0:Int)(K:(Value)→ae→Prop)(h0:ae):Prop:=
 At (hnew h0 [.int .u32 x0] ws) (fun h1=>
 K (.func (.func jW) #[] #[.pointer (some (aE h0))]) h1)
theorem vT(x0:Int){K:cQ [.c .raw]→ae→Prop}{h0:ae}(h:DR x0 K h0):HC PG nC [.int .u32 x0] [.c .raw] K h0:=dL .nil Tryz.func206 Tryz.call206 rfl rfl (by kernel_rfl) h
def wa(x0:Option Addr)(x1:Option Addr)(K:(Option Addr)→ae→Prop)(h0:ae):Prop:=
 HC PG oZ (sr x0 x1) [.c .bool] (fun(e1:Bool) h2=>
 CondP e1 (
 K x0 h2) (
 ∃a3,x0=some a3∧
 ∃v4,aO h2 a3 0 v4∧
 ∃v5,cP h2 a3 1 v5∧
 ∃v6,aO h2 a3 2 v6∧
 ∃v7:SliceV,bR h2 a3 3 v7∧
 ∃v8,rX h2 a3 4 v8∧
 nv h2 LN cj (Yn v4 v5 v6 v7 v8) (fun h10=>
 ∃a11,x0=some a11∧
 ∃v12:SliceV,bR h10 a11 3 v12∧
 HC PG dE [.slice v12.a v12.len v12.cap] [.c .slice] (fun(e13:SliceV) h14=>
 (dS h14 (adr (aE h2) 3) (.slice e13.a e13.len e13.cap) (fun h15=>
 (dS h15 (adr (aE h2) 4) (.pointer none) (fun h16=>
 HC PG ik [.pointer x1] [.c .bool] (fun(e17:Bool) h18=>
 CondP e17 (
 (dS h18 (adr (aE h2) 4) (.pointer x1) (fun h19=>
 K (some (aE h2)) h19))) (
 K (some (aE h2)) h18)) h16))))) h10))) h0
theorem DI(x0:Option Addr)(x1:Option Addr){K:cQ [.c .ptr]→ae→Prop}{h0:ae}(h:wa x0 x1 K h0):HC PG gr (sr x0 x1) [.c .ptr] K h0:=dL .nil Tryz.func207 Tryz.call207 rfl rfl (by kernel_rfl) h
def sd(x0:Option Addr)(x1:ByteArray)(K:(Option Addr)→ae→Prop)(h0:ae):Prop:=
 ∃a1,x0=some a1∧
 (dS h0 (adr a1 1) (.bool true) (fun h2=>
 ∃a3,x0=some a3∧
 (dS h2 (adr a3 2) (.string x1) (fun h4=>
 K x0 h4))))
theorem y6(x0:Option Addr)(x1:ByteArray){K:cQ [.c .ptr]→ae→Prop}{h0:ae}(h:sd x0 x1 K h0):HC PG kU (A0 x0 x1) [.c .ptr] K h0:=dL .nil Tryz.func208 Tryz.call208 rfl rfl (by kernel_rfl) h
def gI(x0:SliceV)(x1:Int)(x2:SliceV)(K:(SliceV)→ae→Prop)(h0:ae):Prop:=
 (((0:Int)≤x1∧x1≤((x0.len:Nat):Int))∧
 CondP ((x2.len:Int)==(0:Int)) (
 K x0 h0) (
 CondP (x1==(x0.len:Int)) (
 ∃xs1,SRow h0 x2.a (x2.len*1) xs1∧
 AppP (some [.pointer none]) 1 8 cf x0.a x0.len x0.cap x2.len xs1 h0 (fun s2 h3=>
 K s2 h3)) (
 CondP (decide ((IntKind.wrap .i64 ((x0.len:Int)+(x2.len:Int)))>(x0.cap:Int))) (
 Join (fun(t8:SliceV) h9=>
 (((0:Int)≤x1∧x1≤((t8.len:Nat):Int))∧
 ∃xs10,SRow h9 x2.a (eB x2.len (t8.len-x1.toNat)*1) xs10∧r9 h9 (bj t8.a x1.toNat t8.cap 1) 0 xs10∧cE xs10=true∧
 At (gF h9 (bj t8.a x1.toNat t8.cap 1) 0 xs10) (fun h11=>
 (((0:Int)≤(IntKind.wrap .i64 (x1+(x2.len:Int)))∧(IntKind.wrap .i64 (x1+(x2.len:Int)))≤((t8.len:Nat):Int))∧
 Bd (bj t8.a ((IntKind.wrap .i64 (x1+(x2.len:Int))).toNat) t8.cap 1:Option Addr) (fun a12=>Bd (t8.len-((IntKind.wrap .i64 (x1+(x2.len:Int))).toNat):Nat) (fun n13=>Bd (t8.cap-((IntKind.wrap .i64 (x1+(x2.len:Int))).toNat):Nat) (fun n14=>
 (((0:Int)≤x1∧x1≤((x0.len:Nat):Int))∧
 ∃xs15,SRow h11 (bj x0.a x1.toNat x0.cap 1) (eB (x0.len-x1.toNat) n13*1) xs15∧r9 h11 a12 0 xs15∧cE xs15=true∧
 At (gF h11 a12 0 xs15) (fun h16=>
 K t8 h16))))))))) (fun J4=>
 (((0:Int)≤x1∧x1≤((x0.cap:Nat):Int))∧
 Bd (IntKind.wrap .i64 ((IntKind.wrap .i64 ((x0.len:Int)+(x2.len:Int)))-x1):Int) (fun n5=>
 (((0:Int)≤n5∧n5*((8:Nat):Int)≤2^48∧n5≤9223372036854775807∧(((x1.toNat-0)+n5.toNat:Nat):Int)≤9223372036854775807)∧
 AppP (some [.pointer none]) 1 8 cf (bj x0.a 0 x0.cap 1) (x1.toNat-0) (x0.cap-0) n5.toNat (eD n5.toNat [.pointer none]) h0 (fun s6 h7=>
 J4 s6 h7)))))) (
 (((0:Int)≤(IntKind.wrap .i64 ((x0.len:Int)+(x2.len:Int)))∧(IntKind.wrap .i64 ((x0.len:Int)+(x2.len:Int)))≤((x0.cap:Nat):Int))∧
 Bd (bj x0.a 0 x0.cap 1:Option Addr) (fun a17=>Bd (((IntKind.wrap .i64 ((x0.len:Int)+(x2.len:Int))).toNat)-0:Nat) (fun n18=>Bd (x0.cap-0:Nat) (fun n19=>
 (((0:Int)≤(IntKind.wrap .i64 (x1+(x2.len:Int)))∧(IntKind.wrap .i64 (x1+(x2.len:Int)))≤((n18:Nat):Int))∧
 Bd (bj a17 ((IntKind.wrap .i64 (x1+(x2.len:Int))).toNat) n19 1:Option Addr) (fun a20=>Bd (n18-((IntKind.wrap .i64 (x1+(x2.len:Int))).toNat):Nat) (fun n21=>Bd (n19-((IntKind.wrap .i64 (x1+(x2.len:Int))).toNat):Nat) (fun n22=>
 HC PG il [.slice x2.a x2.len x2.cap,.slice a20 n21 n22] [.c .bool] (fun(e23:Bool) h24=>
 CondP (!e23) (
 (((0:Int)≤(IntKind.wrap .i64 (x1+(x2.len:Int)))∧(IntKind.wrap .i64 (x1+(x2.len:Int)))≤((n18:Nat):Int))∧
 Bd (bj a17 ((IntKind.wrap .i64 (x1+(x2.len:Int))).toNat) n19 1:Option Addr) (fun a25=>Bd (n18-((IntKind.wrap .i64 (x1+(x2.len:Int))).toNat):Nat) (fun n26=>Bd (n19-((IntKind.wrap .i64 (x1+(x2.len:Int))).toNat):Nat) (fun n27=>
 (((0:Int)≤x1∧x1≤((n18:Nat):Int))∧
 ∃xs28,SRow h24 (bj a17 x1.toNat n19 1) (eB (n18-x1.toNat) n26*1) xs28∧r9 h24 a25 0 xs28∧cE xs28=true∧
 At (gF h24 a25 0 xs28) (fun h29=>
 (((0:Int)≤x1∧x1≤((n18:Nat):Int))∧
 ∃xs30,SRow h29 x2.a (eB x2.len (n18-x1.toNat)*1) xs30∧r9 h29 (bj a17 x1.toNat n19 1) 0 xs30∧cE xs30=true∧
 At (gF h29 (bj a17 x1.toNat n19 1) 0 xs30) (fun h31=>
 K ⟨a17,n18,n19⟩ h31))))))))) (
 (((0:Int)≤(x0.len:Int)∧(x0.len:Int)≤((n18:Nat):Int))∧
 ∃xs32,SRow h24 x2.a (eB x2.len (n18-((x0.len:Int).toNat))*1) xs32∧r9 h24 (bj a17 ((x0.len:Int).toNat) n19 1) 0 xs32∧cE xs32=true∧
 At (gF h24 (bj a17 ((x0.len:Int).toNat) n19 1) 0 xs32) (fun h33=>
 (((0:Int)≤x1∧x1≤((n18:Nat):Int))∧
 HC PG pt [.slice (bj a17 x1.toNat n19 1) (n18-x1.toNat) (n19-x1.toNat),.int .i64 (x2.len:Int)] [] (fun(e34:Unit) h35=>
 K ⟨a17,n18,n19⟩ h35) h33))))) h0))))))))))))
noncomputable def lu:Ann:=.node .nil (.node .nil (.node .nil (.node .nil (.node .nil (.node .nil (.node (.node .nil (.node (.join [(9,.c .slice)] .nil .nil) .nil)) .nil))))))
theorem lr(x0:SliceV)(x1:Int)(x2:SliceV){K:cQ [.c .slice]→ae→Prop}{h0:ae}(h:gI x0 x1 x2 K h0):HC PG eP (Xl x0 x1 x2) [.c .slice] K h0:=dL lu Tryz.func209 Tryz.call209 rfl rfl (by kernel_rfl) h
end Go.Proofs
