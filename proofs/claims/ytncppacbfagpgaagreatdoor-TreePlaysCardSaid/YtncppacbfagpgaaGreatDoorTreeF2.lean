/- A part of the proof that the named laws of this program answer true, whatever the input. -/
import Derived.Test.YtncppacbfagpgaaGreatDoorTreeF
set_option maxRecDepth 100000
set_option linter.unusedVariables false
open BitVec renaming ofInt→aq
open Int renaming fdiv→eD
namespace Go.Proofs
open Go.Lift
def B9(x0:Int×Int×Int×Int)(K:(Int×Int×Int×Int)→ad→Prop)(h0:ad):Prop:=
 At (hnew h0 (Qj x0) ur) (fun h1=>
 At (hnew h1 NW ur) (fun h2=>
 (cD 0 4∧
 ∃v3,bl h2 (aA h0) ((0:Int).toNat*1) (.int .u64 v3)∧
 (cD 1 4∧
 ∃v4,bl h2 (aA h0) ((1:Int).toNat*1) (.int .u64 v4)∧
 (cD (2:Int) 4∧
 ∃v5,bl h2 (aA h0) ((2:Int).toNat*1) (.int .u64 v5)∧
 (cD (3:Int) 4∧
 ∃v6,bl h2 (aA h0) ((3:Int).toNat*1) (.int .u64 v6)∧
 HC PG lZ (lJ v4 13) g5 (fun(e7:Int) h8=>
 Bd (IntKind.wrap .u64 (aq (IntKind.bits .u64) e7^^^aq (IntKind.bits .u64) (IntKind.wrap .u64 (v3+v4))).toNat:Int) (fun n9=>
 HC PG lZ (lJ (IntKind.wrap .u64 (v3+v4)) 32) g5 (fun(e10:Int) h11=>
 HC PG lZ (lJ v6 16) g5 (fun(e12:Int) h13=>
 Bd (IntKind.wrap .u64 (aq (IntKind.bits .u64) e12^^^aq (IntKind.bits .u64) (IntKind.wrap .u64 (v5+v6))).toNat:Int) (fun n14=>
 HC PG lZ (lJ n14 21) g5 (fun(e15:Int) h16=>
 Bd (IntKind.wrap .u64 (aq (IntKind.bits .u64) e15^^^aq (IntKind.bits .u64) (IntKind.wrap .u64 (e10+n14))).toNat:Int) (fun n17=>
 HC PG lZ (lJ n9 17) g5 (fun(e18:Int) h19=>
 Bd (IntKind.wrap .u64 (aq (IntKind.bits .u64) e18^^^aq (IntKind.bits .u64) (IntKind.wrap .u64 ((IntKind.wrap .u64 (v5+v6))+n9))).toNat:Int) (fun n20=>
 HC PG lZ (lJ (IntKind.wrap .u64 ((IntKind.wrap .u64 (v5+v6))+n9)) 32) g5 (fun(e21:Int) h22=>
 (fj h22 h1 (N0 (IntKind.wrap .u64 (e10+n14)) n20 e21 n17) (fun h23=>
 ∃v24,ao h23 h1 0 v24∧
 ∃v25,ao h23 h1 1 v25∧
 ∃v26,ao h23 h1 2 v26∧
 ∃v27,ao h23 h1 3 v27∧
 K (v24,v25,v26,v27) h23))) h19)) h16)) h13)) h11) h8)) h2))))))
theorem Kk(x0:Int×Int×Int×Int){K:cL zn→ad→Prop}{h0:ad}(h:B9 x0 K h0):HC PG j6 [OE x0] zn K h0:=dJ .nil Tryz.func256 Tryz.call256 rfl rfl (by kernel_rfl) h
def nL(x0:Value)(y0:Addr)(K:(Unit)→ad→Prop)(h0:ad):Prop:=
 LoopP (fun I1 (t2:Unit) h3=>
 ∃v4,aE h3 y0=some (.int .u32 v4)∧
 CondP (v4 !=(0:Int)) (
 ∃v5,aE h3 y0=some (.int .u32 v5)∧
 HC PG iB [.int .u32 v5] cd (fun(e6:Int) h7=>
 HV PG x0 [.int .i64 e6] [.c .bool] (fun(e8:Bool) h9=>
 CondP (!e8) (
 K () h9) (
 ∃v10,aE h9 y0=some (.int .u32 v10)∧
 ∃v11,aE h9 y0=some (.int .u32 v11)∧
 Bd (IntKind.wrap .u32 (aq (IntKind.bits .u32) v10&&&aq (IntKind.bits .u32) (IntKind.wrap .u32 (v11-1))).toNat:Int) (fun n12=>
 (Wr h9 y0∧
 At (hset h9 y0 (.int .u32 n12)) (fun h13=>
 I1 () h13))))) h7) h3) (
 K () h3)) () h0
noncomputable def rI:Ann:=.loop [] .nil
theorem MK(x0:Value)(y0:Addr){K:cL []→ad→Prop}{h0:ad}(h:nL x0 y0 K h0):HC PG iU [x0,.pointer (some y0)] [] K h0:=dJ rI Tryz.func257 Tryz.call257 rfl rfl (by kernel_rfl) h
theorem w7(x0:Value)(y0:Addr){K:cL []→ad→Prop}{h0:ad}(h:nL x0 y0 K h0):HE PG iU [x0,.pointer (some y0)] [] K h0:=VB rI Tryz.func257 Tryz.call257 rfl rfl (by kernel_rfl) h
def lB(x0:Int)(K:(Int)→ad→Prop)(h0:ad):Prop:=
 CondP (x0==(0:Int)) (
 K 32 h0) (
 Bd (IntKind.wrap .u32 (aq (IntKind.bits .u32) x0&&&aq (IntKind.bits .u32) (IntKind.wrap .u32 (0-x0))).toNat:Int) (fun n1=>
 ((0:Int)≤(27:Int)∧
 Bd (eD (IntKind.wrap .u32 (n1*125613361)) (2^(min (27:Int).toNat (IntKind.bits .u32))):Int) (fun n2=>
 (cD n2 32∧
 ∃v3,bl h0 (⟨0,0,none⟩) (n2.toNat*1) (.int .u8 v3)∧
 K (IntKind.wrap .i64 v3) h0)))))
theorem qT(x0:Int){K:cL cd→ad→Prop}{h0:ad}(h:lB x0 K h0):HC PG iB [.int .u32 x0] cd K h0:=dJ .nil Tryz.func258 Tryz.call258 rfl rfl (by kernel_rfl) h
def rE(x0:Option Addr)(x1:Option Addr)(K:(Bool)→ad→Prop)(h0:ad):Prop:=
 CondP (!(x0.isNone)) (
 HC PG gC [.pointer x1] [.c .bool] (fun(e1:Bool) h2=>
 CondP e1 (
 ∃a3,x0=some a3∧
 ∃v4,re h2 a3 4 v4∧
 (True∧(∀x y:Addr,v4=some x→x1=some y→gS h2 x∧gS h2 y)∧
 K (v4==x1) h2)) (
 K false h2)) h0) (
 K false h0)
theorem yz(x0:Option Addr)(x1:Option Addr){K:cL [.c .bool]→ad→Prop}{h0:ad}(h:rE x0 x1 K h0):HC PG nC (lI x0 x1) [.c .bool] K h0:=dJ .nil Tryz.func259 Tryz.call259 rfl rfl (by kernel_rfl) h
def rx(x0:Option Addr)(K:(Bool)→ad→Prop)(h0:ad):Prop:=
 CondP (!(x0.isNone)) (
 ∃a1,x0=some a1∧
 ∃v2,dT h0 a1 2 v2∧
 K v2 h0) (
 K false h0)
theorem yq(x0:Option Addr){K:cL [.c .bool]→ad→Prop}{h0:ad}(h:rx x0 K h0):HC PG gC [.pointer x0] [.c .bool] K h0:=dJ .nil Tryz.func260 Tryz.call260 rfl rfl (by kernel_rfl) h
def rD(x0:Option Addr)(x1:ByteArray)(K:(Option Addr)→ad→Prop)(h0:ad):Prop:=
 ∃a1,x0=some a1∧
 (cT h0 (adr a1 0) (.string x1) (fun h2=>
 K x0 h2))
theorem yy(x0:Option Addr)(x1:ByteArray){K:cL [.c .ptr]→ad→Prop}{h0:ad}(h:rD x0 x1 K h0):HC PG gF (qL x0 x1) [.c .ptr] K h0:=dJ .nil Tryz.func263 Tryz.call263 rfl rfl (by kernel_rfl) h
def Cb(x0:SliceV)(x1:ByteArray)(K:(SliceV)→ad→Prop)(h0:ad):Prop:=
 HC PG p7 (yR x0 x1) kW (fun(e1:Int×Bool) h2=>
 CondP (!e1.2) (
 HC PG cG [.slice x0.a x0.len x0.cap] [.c .slice] (fun(e3:SliceV) h4=>
 K e3 h4) h2) (
 (((0:Int)≤e1.1∧e1.1≤((x0.cap:Nat):Int))∧
 (((0:Int)≤(IntKind.wrap .i64 (e1.1+1))∧(IntKind.wrap .i64 (e1.1+1))≤((x0.len:Nat):Int))∧
 Bd (aV x0.a ((IntKind.wrap .i64 (e1.1+1)).toNat) x0.cap 2:Option Addr) (fun a5=>Bd (x0.len-((IntKind.wrap .i64 (e1.1+1)).toNat):Nat) (fun n6=>Bd (x0.cap-((IntKind.wrap .i64 (e1.1+1)).toNat):Nat) (fun n7=>
 At (hnew h2 [.slice (aV x0.a 0 x0.cap 2) (e1.1.toNat-0) (x0.cap-0),.slice a5 n6 n7] dh) (fun h8=>
 HC PG dU [.slice (some (aA h2)) 2 2] [.c .slice] (fun(e9:SliceV) h10=>
 K e9 h10) h8)))))))) h0
theorem Km(x0:SliceV)(x1:ByteArray){K:cL [.c .slice]→ad→Prop}{h0:ad}(h:Cb x0 x1 K h0):HC PG vW (yR x0 x1) [.c .slice] K h0:=dJ .nil Tryz.func264 Tryz.call264 rfl rfl (by kernel_rfl) h
def ua(x0:ByteArray)(x1:ByteArray)(K:(Bool)→ad→Prop)(h0:ad):Prop:=
 HC PG j7 (gZ x0 x1) [.c .bool] (fun(e1:Bool) h2=>
 K e1 h2) h0
theorem Bg(x0:ByteArray)(x1:ByteArray){K:cL [.c .bool]→ad→Prop}{h0:ad}(h:ua x0 x1 K h0):HC PG tR (gZ x0 x1) [.c .bool] K h0:=dJ .nil Tryz.func265 Tryz.call265 rfl rfl (by kernel_rfl) h
def eX(x0:SliceV)(x1:ByteArray)(x2:Value)(K:(Int×Bool)→ad→Prop)(h0:ad):Prop:=
 LoopP (fun I1 (t2:Int×Int) h3=>
 CondP (decide (t2.1<t2.2)) (
 ((0:Int)≤(1:Int)∧
 Bd (eD (IntKind.wrap .u64 (IntKind.wrap .i64 (t2.1+t2.2))) (2^(min (1:Int).toNat (IntKind.bits .u64))):Int) (fun n4=>
 (cD (IntKind.wrap .i64 n4) x0.len∧∃a5,x0.a=some a5∧
 ∃v6,aQ h3 (adr a5 ((IntKind.wrap .i64 n4).toNat*2)) 0 v6∧
 ∃v7,aQ h3 (adr a5 ((IntKind.wrap .i64 n4).toNat*2)) 1 v7∧
 HV PG x2 [pn v6 v7,.string x1] cd (fun(e8:Int) h9=>
 CondP (decide (e8<(0:Int))) (
 I1 (IntKind.wrap .i64 ((IntKind.wrap .i64 n4)+1),t2.2) h9) (
 I1 (t2.1,IntKind.wrap .i64 n4) h9)) h3)))) (
 CondP (decide (t2.1<(x0.len:Int))) (
 (cD t2.1 x0.len∧∃a10,x0.a=some a10∧
 ∃v11,aQ h3 (adr a10 (t2.1.toNat*2)) 0 v11∧
 ∃v12,aQ h3 (adr a10 (t2.1.toNat*2)) 1 v12∧
 HV PG x2 [pn v11 v12,.string x1] cd (fun(e13:Int) h14=>
 K (t2.1,e13==(0:Int)) h14) h3)) (
 K (t2.1,false) h3))) (0,(x0.len:Int)) h0
noncomputable def iQ:Ann:=.node .nil (.node .nil (.node .nil (.node (.loop [(9,.c (.int .i64)),(10,.c (.int .i64))] .nil) .nil)))
theorem iP(x0:SliceV)(x1:ByteArray)(x2:Value){K:cL kW→ad→Prop}{h0:ad}(h:eX x0 x1 x2 K h0):HC PG eW [.slice x0.a x0.len x0.cap,.string x1,x2] kW K h0:=dJ iQ Tryz.func266 Tryz.call266 rfl rfl (by kernel_rfl) h
def xI(x0:Int)(K:(Bool)→ad→Prop)(h0:ad):Prop:=
 CondP (decide (x0≥(0:Int))) (
 K (decide (x0<(32:Int))) h0) (
 K false h0)
theorem Ft(x0:Int){K:cL [.c .bool]→ad→Prop}{h0:ad}(h:xI x0 K h0):HC PG mV [.int .i64 x0] [.c .bool] K h0:=dJ .nil Tryz.func267 Tryz.call267 rfl rfl (by kernel_rfl) h
def rH(x0:Int)(K:(Int)→ad→Prop)(h0:ad):Prop:=
 HC PG jV [.int .u32 x0] cd (fun(e1:Int) h2=>
 K e1 h2) h0
theorem yC(x0:Int){K:cL cd→ad→Prop}{h0:ad}(h:rH x0 K h0):HC PG nF [.int .u32 x0] cd K h0:=dJ .nil Tryz.func268 Tryz.call268 rfl rfl (by kernel_rfl) h
def iw(x0:SliceV)(x1:Int)(x2:Int)(x3:Int)(x4:Value)(K:(Unit)→ad→Prop)(h0:ad):Prop:=
 LoopP (fun I1 (t2:Int) h3=>
 CondP (decide ((IntKind.wrap .i64 ((IntKind.wrap .i64 (2*t2))+1))≥x2)) (
 K () h3) (
 Join (fun(t26:Int) h27=>
 (cD (IntKind.wrap .i64 (x3+t2)) x0.len∧∃a28,x0.a=some a28∧
 ∃v29,bl h27 (adr a28 ((IntKind.wrap .i64 (x3+t2)).toNat*5)) 0 (.string v29)∧
 ∃v30,bl h27 (adr a28 ((IntKind.wrap .i64 (x3+t2)).toNat*5)) 1 (.string v30)∧
 ∃v31,bl h27 (adr a28 ((IntKind.wrap .i64 (x3+t2)).toNat*5)) 2 (.string v31)∧
 ∃v32,bl h27 (adr a28 ((IntKind.wrap .i64 (x3+t2)).toNat*5)) 3 (.bool v32)∧
 ∃v33,bl h27 (adr a28 ((IntKind.wrap .i64 (x3+t2)).toNat*5)) 4 (.bool v33)∧
 (cD (IntKind.wrap .i64 (x3+t26)) x0.len∧∃a34,x0.a=some a34∧
 ∃v35,bl h27 (adr a34 ((IntKind.wrap .i64 (x3+t26)).toNat*5)) 0 (.string v35)∧
 ∃v36,bl h27 (adr a34 ((IntKind.wrap .i64 (x3+t26)).toNat*5)) 1 (.string v36)∧
 ∃v37,bl h27 (adr a34 ((IntKind.wrap .i64 (x3+t26)).toNat*5)) 2 (.string v37)∧
 ∃v38,bl h27 (adr a34 ((IntKind.wrap .i64 (x3+t26)).toNat*5)) 3 (.bool v38)∧
 ∃v39,bl h27 (adr a34 ((IntKind.wrap .i64 (x3+t26)).toNat*5)) 4 (.bool v39)∧
 HV PG x4 [Cg v29 v30 v31 v32 v33,Cg v35 v36 v37 v38 v39] cd (fun(e40:Int) h41=>
 CondP (!(decide (e40<(0:Int)))) (
 K () h41) (
 (cD (IntKind.wrap .i64 (x3+t26)) x0.len∧∃a42,x0.a=some a42∧
 ∃v43,bl h41 (adr a42 ((IntKind.wrap .i64 (x3+t26)).toNat*5)) 0 (.string v43)∧
 ∃v44,bl h41 (adr a42 ((IntKind.wrap .i64 (x3+t26)).toNat*5)) 1 (.string v44)∧
 ∃v45,bl h41 (adr a42 ((IntKind.wrap .i64 (x3+t26)).toNat*5)) 2 (.string v45)∧
 ∃v46,bl h41 (adr a42 ((IntKind.wrap .i64 (x3+t26)).toNat*5)) 3 (.bool v46)∧
 ∃v47,bl h41 (adr a42 ((IntKind.wrap .i64 (x3+t26)).toNat*5)) 4 (.bool v47)∧
 (cD (IntKind.wrap .i64 (x3+t2)) x0.len∧∃a48,x0.a=some a48∧
 ∃v49,bl h41 (adr a48 ((IntKind.wrap .i64 (x3+t2)).toNat*5)) 0 (.string v49)∧
 ∃v50,bl h41 (adr a48 ((IntKind.wrap .i64 (x3+t2)).toNat*5)) 1 (.string v50)∧
 ∃v51,bl h41 (adr a48 ((IntKind.wrap .i64 (x3+t2)).toNat*5)) 2 (.string v51)∧
 ∃v52,bl h41 (adr a48 ((IntKind.wrap .i64 (x3+t2)).toNat*5)) 3 (.bool v52)∧
 ∃v53,bl h41 (adr a48 ((IntKind.wrap .i64 (x3+t2)).toNat*5)) 4 (.bool v53)∧
 (cD (IntKind.wrap .i64 (x3+t2)) x0.len∧∃a54,x0.a=some a54∧
 (ni h41 (adr a54 ((IntKind.wrap .i64 (x3+t2)).toNat*5)) (ES v43 v44 v45 v46 v47) (fun h55=>
 (cD (IntKind.wrap .i64 (x3+t26)) x0.len∧∃a56,x0.a=some a56∧
 (ni h55 (adr a56 ((IntKind.wrap .i64 (x3+t26)).toNat*5)) (ES v49 v50 v51 v52 v53) (fun h57=>
 I1 t26 h57)))))))))) h27))) (fun J4=>
 Join (fun(t23:Bool) h24=>
 CondP t23 (
 Bd (IntKind.wrap .i64 ((IntKind.wrap .i64 ((IntKind.wrap .i64 (2*t2))+1))+1):Int) (fun n25=>
 J4 n25 h24)) (
 J4 (IntKind.wrap .i64 ((IntKind.wrap .i64 (2*t2))+1)) h24)) (fun J5=>
 Bd (IntKind.wrap .i64 ((IntKind.wrap .i64 ((IntKind.wrap .i64 (2*t2))+1))+1):Int) (fun n6=>
 CondP (decide (n6<x2)) (
 Bd (IntKind.wrap .i64 (x3+(IntKind.wrap .i64 ((IntKind.wrap .i64 (2*t2))+1))):Int) (fun n7=>
 (cD n7 x0.len∧∃a8,x0.a=some a8∧
 ∃v9,aQ h3 (adr a8 (n7.toNat*5)) 0 v9∧
 ∃v10,aQ h3 (adr a8 (n7.toNat*5)) 1 v10∧
 ∃v11,aQ h3 (adr a8 (n7.toNat*5)) 2 v11∧
 ∃v12,dT h3 (adr a8 (n7.toNat*5)) 3 v12∧
 ∃v13,dT h3 (adr a8 (n7.toNat*5)) 4 v13∧
 Bd (IntKind.wrap .i64 (x3+(IntKind.wrap .i64 ((IntKind.wrap .i64 (2*t2))+1))):Int) (fun n14=>
 (cD (IntKind.wrap .i64 (n14+1)) x0.len∧∃a15,x0.a=some a15∧
 ∃v16,bl h3 (adr a15 ((IntKind.wrap .i64 (n14+1)).toNat*5)) 0 (.string v16)∧
 ∃v17,bl h3 (adr a15 ((IntKind.wrap .i64 (n14+1)).toNat*5)) 1 (.string v17)∧
 ∃v18,bl h3 (adr a15 ((IntKind.wrap .i64 (n14+1)).toNat*5)) 2 (.string v18)∧
 ∃v19,bl h3 (adr a15 ((IntKind.wrap .i64 (n14+1)).toNat*5)) 3 (.bool v19)∧
 ∃v20,bl h3 (adr a15 ((IntKind.wrap .i64 (n14+1)).toNat*5)) 4 (.bool v20)∧
 HV PG x4 [Cg v9 v10 v11 v12 v13,Cg v16 v17 v18 v19 v20] cd (fun(e21:Int) h22=>
 J5 (decide (e21<(0:Int))) h22) h3))))) (
 J5 false h3)))))) x1 h0
noncomputable def mL:Ann:=.node .nil (.loop [(10,.c (.int .i64))] (.node .nil (.node .nil (.join [(11,.c (.int .i64))] (.join [(40,.c .bool)] .nil .nil) .nil))))
theorem mI(x0:SliceV)(x1:Int)(x2:Int)(x3:Int)(x4:Value){K:cL []→ad→Prop}{h0:ad}(h:iw x0 x1 x2 x3 x4 K h0):HC PG iu [.slice x0.a x0.len x0.cap,.int .i64 x1,.int .i64 x2,.int .i64 x3,x4] [] K h0:=dJ mL Tryz.func269 Tryz.call269 rfl rfl (by kernel_rfl) h
def ry(x0:Option Addr)(x1:(Option Addr)×ByteArray×Bool)(K:(Unit)→ad→Prop)(h0:ad):Prop:=
 At (hnew h0 (UG x1) dV) (fun h1=>
 ∃v2,aw h1 h0 1 v2∧
 ∃v3,aI h1 h0 0 v3∧
 HC PG ku [.pointer v3] [.c .str] (fun(e4:ByteArray) h5=>
 (aw h5 h0 1 v2∧
 (((v2.size+e4.size:Nat):Int)≤9223372036854775807∧
 ∃a6,x0=some a6∧
 ∃v7,aQ h5 (adr a6 1) 0 v7∧
 ∃v8,aQ h5 (adr a6 1) 1 v8∧
 ∃v9,dT h5 (adr a6 1) 2 v9∧
 HC PG px [Ix v7 v8 v9,.string (v2++e4)] [.c .bool] (fun(e10:Bool) h11=>
 CondP e10 (
 K () h11) (
 ∃v12,aI h11 h0 0 v12∧
 ∃v13,aw h11 h0 1 v13∧
 At (hnew h11 (ER v12 v13 true) dV) (fun h14=>
 ∃v15,aI h14 h0 0 v15∧
 HC PG lq [.pointer v15] [.c .slice] (fun(e16:SliceV) h17=>
 LoopP (fun I18 (t19:SliceV×Int) h20=>
 CondP (decide (t19.2<(e16.len:Int))) (
 Join (fun(t28:SliceV) h29=>
 I18 (t28,IntKind.wrap .i64 (t19.2+1)) h29) (fun J21=>
 (cD t19.2 e16.len∧∃a22,e16.a=some a22∧
 ∃v23,bl h20 a22 (t19.2.toNat*1) (.pointer v23)∧
 At (hnew h20 (ER v23 (v2++e4) false) dV) (fun h24=>
 ∃xs25,SRow h24 (some (aA h20)) (1*3) xs25∧
 AppP (some KI) 3 32 dV t19.1.a t19.1.len t19.1.cap 1 xs25 h24 (fun s26 h27=>
 J21 s26 h27))))) (
 Join (fun(t35:Unit) h36=>
 ∃a37,x0=some a37∧
 ∃v38:SliceV,bC h36 a37 0 v38∧
 ∃xs39,SRow h36 t19.1.a (t19.1.len*3) xs39∧
 AppP (some KI) 3 32 dV v38.a v38.len v38.cap t19.1.len xs39 h36 (fun s40 h41=>
 ∃a42,x0=some a42∧
 (cT h41 (adr a42 0) (.slice s40.a s40.len s40.cap) (fun h43=>
 K () h43)))) (fun J30=>
 ∃a31,x0=some a31∧
 ∃v32,dT h20 a31 4 v32∧
 CondP (!v32) (
 HC PG fe [.slice t19.1.a t19.1.len t19.1.cap] [] (fun(e33:Unit) h34=>
 J30 () h34) h20) (
 J30 () h20)))) (⟨some (aA h11),1,1⟩,0) h17) h14))) h5))) h1)
noncomputable def yG:Ann:=.node .nil (.node .nil (.node .nil (.node .nil (.node (.node .nil (.loop [(5,.c .slice),(30,.c (.int .i64))] (.node .nil (.node .nil (.join [(5,.c .slice)] .nil .nil))))) (.join [] .nil .nil)))))
theorem yr(x0:Option Addr)(x1:(Option Addr)×ByteArray×Bool){K:cL []→ad→Prop}{h0:ad}(h:ry x0 x1 K h0):HC PG nz [.pointer x0,Vk x1] [] K h0:=dJ yG Tryz.func274 Tryz.call274 rfl rfl (by kernel_rfl) h
def vm(x0:ByteArray×ByteArray×Bool)(x1:ByteArray)(K:(Bool)→ad→Prop)(h0:ad):Prop:=
 At (hnew h0 (EY x0) nT) (fun h1=>
 ∃v2,aw h1 h0 0 v2∧
 CondP (!(Op.bytesLess x1.toList v2.toList)) (
 ∃v3,pr h1 h0 2 v3∧
 CondP v3 (
 K true h1) (
 ∃v4,aw h1 h0 1 v4∧
 K (Op.bytesLess x1.toList v4.toList) h1)) (
 K false h1))
theorem Cp(x0:ByteArray×ByteArray×Bool)(x1:ByteArray){K:cL [.c .bool]→ad→Prop}{h0:ad}(h:vm x0 x1 K h0):HC PG qp [Hh x0,.string x1] [.c .bool] K h0:=dJ .nil Tryz.func275 Tryz.call275 rfl rfl (by kernel_rfl) h
def Bq(x0:Option Addr)(K:(SliceV×SliceV)→ad→Prop)(h0:ad):Prop:=
 At (hnew h0 Uj dX) (fun h1=>
 HC PG eS [.pointer x0] [.c .slice] (fun(e2:SliceV) h3=>
 HC PG jT [.pointer x0] [.c .slice] (fun(e4:SliceV) h5=>
 (fj h5 h0 (PH e2 e4) (fun h6=>
 ∃v7:SliceV,dI h6 h0 0 v7∧
 ∃v8:SliceV,dI h6 h0 1 v8∧
 K (v7,v8) h6))) h3) h1)
theorem GB(x0:Option Addr){K:cL Gf→ad→Prop}{h0:ad}(h:Bq x0 K h0):HC PG tQ [.pointer x0] Gf K h0:=dJ .nil Tryz.func276 Tryz.call276 rfl rfl (by kernel_rfl) h
def gN(x0:SliceV)(x1:Int)(x2:Int)(x3:Value)(K:(Unit)→ad→Prop)(h0:ad):Prop:=
 LoopP (fun I1 (t2:Int) h3=>
 CondP (decide (t2<x2)) (
 LoopP (fun I4 (t5:Int) h6=>
 Join (fun(t16:Bool) h17=>
 CondP t16 (
 (cD (IntKind.wrap .i64 (t5-1)) x0.len∧∃a18,x0.a=some a18∧
 ∃v19,bl h17 (adr a18 ((IntKind.wrap .i64 (t5-1)).toNat*2)) 0 (.string v19)∧
 ∃v20,bl h17 (adr a18 ((IntKind.wrap .i64 (t5-1)).toNat*2)) 1 (.string v20)∧
 (cD t5 x0.len∧∃a21,x0.a=some a21∧
 ∃v22,aQ h17 (adr a21 (t5.toNat*2)) 0 v22∧
 ∃v23,aQ h17 (adr a21 (t5.toNat*2)) 1 v23∧
 (cD t5 x0.len∧∃a24,x0.a=some a24∧
 (ni h17 (adr a24 (t5.toNat*2)) (gZ v19 v20) (fun h25=>
 (cD (IntKind.wrap .i64 (t5-1)) x0.len∧∃a26,x0.a=some a26∧
 (ni h25 (adr a26 ((IntKind.wrap .i64 (t5-1)).toNat*2)) (gZ v22 v23) (fun h27=>
 I4 (IntKind.wrap .i64 (t5-1)) h27))))))))) (
 I1 (IntKind.wrap .i64 (t2+1)) h17)) (fun J7=>
 CondP (decide (t5>x1)) (
 (cD t5 x0.len∧∃a8,x0.a=some a8∧
 ∃v9,aQ h6 (adr a8 (t5.toNat*2)) 0 v9∧
 ∃v10,aQ h6 (adr a8 (t5.toNat*2)) 1 v10∧
 (cD (IntKind.wrap .i64 (t5-1)) x0.len∧∃a11,x0.a=some a11∧
 ∃v12,bl h6 (adr a11 ((IntKind.wrap .i64 (t5-1)).toNat*2)) 0 (.string v12)∧
 ∃v13,bl h6 (adr a11 ((IntKind.wrap .i64 (t5-1)).toNat*2)) 1 (.string v13)∧
 HV PG x3 [pn v9 v10,pn v12 v13] cd (fun(e14:Int) h15=>
 J7 (decide (e14<(0:Int))) h15) h6))) (
 J7 false h6))) t2 h3) (
 K () h3)) (IntKind.wrap .i64 (x1+1)) h0
noncomputable def lF:Ann:=.node .nil (.loop [(8,.c (.int .i64))] (.node .nil (.node (.node .nil (.loop [(9,.c (.int .i64))] (.node (.join [(34,.c .bool)] .nil .nil) .nil))) .nil)))
theorem lD(x0:SliceV)(x1:Int)(x2:Int)(x3:Value){K:cL []→ad→Prop}{h0:ad}(h:gN x0 x1 x2 x3 K h0):HC PG dL [.slice x0.a x0.len x0.cap,.int .i64 x1,.int .i64 x2,x3] [] K h0:=dJ lF Tryz.func277 Tryz.call277 rfl rfl (by kernel_rfl) h
def iX(x0:SliceV)(x1:Int)(x2:Int)(x3:Int)(x4:Value)(K:(Unit)→ad→Prop)(h0:ad):Prop:=
 CondP ((IntKind.wrap .i64 (x2-x1))==(1:Int)) (
 LoopP (fun I1 (t2:Int×Int) h3=>
 CondP (decide (t2.1<t2.2)) (
 ((0:Int)≤(1:Int)∧
 Bd (eD (IntKind.wrap .u64 (IntKind.wrap .i64 (t2.1+t2.2))) (2^(min (1:Int).toNat (IntKind.bits .u64))):Int) (fun n4=>
 (cD (IntKind.wrap .i64 n4) x0.len∧∃a5,x0.a=some a5∧
 ∃v6,aQ h3 (adr a5 ((IntKind.wrap .i64 n4).toNat*2)) 0 v6∧
 ∃v7,aQ h3 (adr a5 ((IntKind.wrap .i64 n4).toNat*2)) 1 v7∧
 (cD x1 x0.len∧∃a8,x0.a=some a8∧
 ∃v9,aQ h3 (adr a8 (x1.toNat*2)) 0 v9∧
 ∃v10,aQ h3 (adr a8 (x1.toNat*2)) 1 v10∧
 HV PG x4 [pn v6 v7,pn v9 v10] cd (fun(e11:Int) h12=>
 CondP (decide (e11<(0:Int))) (
 I1 (IntKind.wrap .i64 ((IntKind.wrap .i64 n4)+1),t2.2) h12) (
 I1 (t2.1,IntKind.wrap .i64 n4) h12)) h3))))) (
 LoopP (fun I13 (t14:Int) h15=>
 CondP (decide (t14<(IntKind.wrap .i64 (t2.1-1)))) (
 (cD (IntKind.wrap .i64 (t14+1)) x0.len∧∃a16,x0.a=some a16∧
 ∃v17,bl h15 (adr a16 ((IntKind.wrap .i64 (t14+1)).toNat*2)) 0 (.string v17)∧
 ∃v18,bl h15 (adr a16 ((IntKind.wrap .i64 (t14+1)).toNat*2)) 1 (.string v18)∧
 (cD t14 x0.len∧∃a19,x0.a=some a19∧
 ∃v20,aQ h15 (adr a19 (t14.toNat*2)) 0 v20∧
 ∃v21,aQ h15 (adr a19 (t14.toNat*2)) 1 v21∧
 (cD t14 x0.len∧∃a22,x0.a=some a22∧
 (ni h15 (adr a22 (t14.toNat*2)) (gZ v17 v18) (fun h23=>
 (cD (IntKind.wrap .i64 (t14+1)) x0.len∧∃a24,x0.a=some a24∧
 (ni h23 (adr a24 ((IntKind.wrap .i64 (t14+1)).toNat*2)) (gZ v20 v21) (fun h25=>
 I13 (IntKind.wrap .i64 (t14+1)) h25))))))))) (
 K () h15)) x1 h3)) (x2,x3) h0) (
 CondP ((IntKind.wrap .i64 (x3-x2))==(1:Int)) (
 LoopP (fun I26 (t27:Int×Int) h28=>
 CondP (decide (t27.1<t27.2)) (
 ((0:Int)≤(1:Int)∧
 Bd (eD (IntKind.wrap .u64 (IntKind.wrap .i64 (t27.1+t27.2))) (2^(min (1:Int).toNat (IntKind.bits .u64))):Int) (fun n29=>
 (cD x2 x0.len∧∃a30,x0.a=some a30∧
 ∃v31,aQ h28 (adr a30 (x2.toNat*2)) 0 v31∧
 ∃v32,aQ h28 (adr a30 (x2.toNat*2)) 1 v32∧
 (cD (IntKind.wrap .i64 n29) x0.len∧∃a33,x0.a=some a33∧
 ∃v34,aQ h28 (adr a33 ((IntKind.wrap .i64 n29).toNat*2)) 0 v34∧
 ∃v35,aQ h28 (adr a33 ((IntKind.wrap .i64 n29).toNat*2)) 1 v35∧
 HV PG x4 [pn v31 v32,pn v34 v35] cd (fun(e36:Int) h37=>
 CondP (!(decide (e36<(0:Int)))) (
 I26 (IntKind.wrap .i64 ((IntKind.wrap .i64 n29)+1),t27.2) h37) (
 I26 (t27.1,IntKind.wrap .i64 n29) h37)) h28))))) (
 LoopP (fun I38 (t39:Int) h40=>
 CondP (decide (t39>t27.1)) (
 (cD (IntKind.wrap .i64 (t39-1)) x0.len∧∃a41,x0.a=some a41∧
 ∃v42,bl h40 (adr a41 ((IntKind.wrap .i64 (t39-1)).toNat*2)) 0 (.string v42)∧
 ∃v43,bl h40 (adr a41 ((IntKind.wrap .i64 (t39-1)).toNat*2)) 1 (.string v43)∧
 (cD t39 x0.len∧∃a44,x0.a=some a44∧
 ∃v45,aQ h40 (adr a44 (t39.toNat*2)) 0 v45∧
 ∃v46,aQ h40 (adr a44 (t39.toNat*2)) 1 v46∧
 (cD t39 x0.len∧∃a47,x0.a=some a47∧
 (ni h40 (adr a47 (t39.toNat*2)) (gZ v42 v43) (fun h48=>
 (cD (IntKind.wrap .i64 (t39-1)) x0.len∧∃a49,x0.a=some a49∧
 (ni h48 (adr a49 ((IntKind.wrap .i64 (t39-1)).toNat*2)) (gZ v45 v46) (fun h50=>
 I38 (IntKind.wrap .i64 (t39-1)) h50))))))))) (
 K () h40)) x2 h28)) (x1,x2) h0) (
 ((0:Int)≤(1:Int)∧
 Bd (eD (IntKind.wrap .u64 (IntKind.wrap .i64 (x1+x3))) (2^(min (1:Int).toNat (IntKind.bits .u64))):Int) (fun n51=>
 Join (fun(t54:Int×Int) h55=>
 Bd (IntKind.wrap .i64 ((IntKind.wrap .i64 ((IntKind.wrap .i64 n51)+x2))-1):Int) (fun n56=>
 LoopP (fun I57 (t58:Int×Int) h59=>
 CondP (decide (t58.1<t58.2)) (
 ((0:Int)≤(1:Int)∧
 Bd (eD (IntKind.wrap .u64 (IntKind.wrap .i64 (t58.1+t58.2))) (2^(min (1:Int).toNat (IntKind.bits .u64))):Int) (fun n60=>
 (cD (IntKind.wrap .i64 (n56-(IntKind.wrap .i64 n60))) x0.len∧∃a61,x0.a=some a61∧
 ∃v62,bl h59 (adr a61 ((IntKind.wrap .i64 (n56-(IntKind.wrap .i64 n60))).toNat*2)) 0 (.string v62)∧
 ∃v63,bl h59 (adr a61 ((IntKind.wrap .i64 (n56-(IntKind.wrap .i64 n60))).toNat*2)) 1 (.string v63)∧
 (cD (IntKind.wrap .i64 n60) x0.len∧∃a64,x0.a=some a64∧
 ∃v65,aQ h59 (adr a64 ((IntKind.wrap .i64 n60).toNat*2)) 0 v65∧
 ∃v66,aQ h59 (adr a64 ((IntKind.wrap .i64 n60).toNat*2)) 1 v66∧
 HV PG x4 [pn v62 v63,pn v65 v66] cd (fun(e67:Int) h68=>
 CondP (!(decide (e67<(0:Int)))) (
 I57 (IntKind.wrap .i64 ((IntKind.wrap .i64 n60)+1),t58.2) h68) (
 I57 (t58.1,IntKind.wrap .i64 n60) h68)) h59))))) (
 Bd (IntKind.wrap .i64 ((IntKind.wrap .i64 ((IntKind.wrap .i64 n51)+x2))-t58.1):Int) (fun n69=>
 Join (fun(t76:Unit) h77=>
 Join (fun(t84:Unit) h85=>
 Join (fun(t87:Bool) h88=>
 CondP t87 (
 HC PG cO [.slice x0.a x0.len x0.cap,.int .i64 (IntKind.wrap .i64 n51),.int .i64 n69,.int .i64 x3,x4] [] (fun(e89:Unit) h90=>
 K () h90) h88) (
 K () h88)) (fun J86=>
 CondP (decide ((IntKind.wrap .i64 n51)<n69)) (
 J86 (decide (n69<x3)) h85) (
 J86 false h85))) (fun J78=>
 Join (fun(t80:Bool) h81=>
 CondP t80 (
 HC PG cO [.slice x0.a x0.len x0.cap,.int .i64 x1,.int .i64 t58.1,.int .i64 (IntKind.wrap .i64 n51),x4] [] (fun(e82:Unit) h83=>
 J78 () h83) h81) (
 J78 () h81)) (fun J79=>
 CondP (decide (x1<t58.1)) (
 J79 (decide (t58.1<(IntKind.wrap .i64 n51))) h77) (
 J79 false h77)))) (fun J70=>
 Join (fun(t72:Bool) h73=>
 CondP t72 (
 HC PG ga [.slice x0.a x0.len x0.cap,.int .i64 t58.1,.int .i64 x2,.int .i64 n69,x4] [] (fun(e74:Unit) h75=>
 J70 () h75) h73) (
 J70 () h73)) (fun J71=>
 CondP (decide (t58.1<x2)) (
 J71 (decide (x2<n69)) h59) (
 J71 false h59)))))) (t54.1,t54.2) h55)) (fun J52=>
 CondP (decide (x2>(IntKind.wrap .i64 n51))) (
 Bd (IntKind.wrap .i64 ((IntKind.wrap .i64 ((IntKind.wrap .i64 n51)+x2))-x3):Int) (fun n53=>
 J52 (n53,IntKind.wrap .i64 n51) h0)) (
 J52 (x1,x2) h0))))))
noncomputable def nM:Ann:=.node (.node .nil (.node (.node .nil (.node .nil (.node (.loop [(10,.c (.int .i64)),(11,.c (.int .i64))] .nil) (.node (.node .nil (.loop [(13,.c (.int .i64))] .nil)) .nil)))) .nil)) (.node (.node .nil (.node (.node .nil (.node .nil (.node (.loop [(14,.c (.int .i64)),(15,.c (.int .i64))] .nil) (.node (.node .nil (.loop [(17,.c (.int .i64))] .nil)) .nil)))) .nil)) (.node .nil (.node .nil (.node .nil (.join [(20,.c (.int .i64)),(21,.c (.int .i64))] .nil (.node .nil (.node (.loop [(20,.c (.int .i64)),(21,.c (.int .i64))] .nil) (.node .nil (.join [] (.join [(185,.c .bool)] .nil .nil) (.join [] (.join [(199,.c .bool)] .nil .nil) (.join [(213,.c .bool)] .nil .nil)))))))))))
theorem nJ(x0:SliceV)(x1:Int)(x2:Int)(x3:Int)(x4:Value){K:cL []→ad→Prop}{h0:ad}(h:iX x0 x1 x2 x3 x4 K h0):HC PG cO [.slice x0.a x0.len x0.cap,.int .i64 x1,.int .i64 x2,.int .i64 x3,x4] [] K h0:=dJ nM Tryz.func278 Tryz.call278 rfl rfl (by kernel_rfl) h
def m3(x0:Int)(x1:Int)(K:(Int)→ad→Prop)(h0:ad):Prop:=
 Bd (IntKind.wrap .u64 (aq (IntKind.bits .u64) (IntKind.wrap .u64 x1)&&&aq (IntKind.bits .u64) 63).toNat:Int) (fun n1=>
 ((0:Int)≤n1∧
 Bd (IntKind.wrap .u64 (x0*2^(min (n1:Int).toNat (IntKind.bits .u64))):Int) (fun n2=>
 ((0:Int)≤(IntKind.wrap .u64 (64-n1))∧
 Bd (eD x0 (2^(min (IntKind.wrap .u64 (64-n1):Int).toNat (IntKind.bits .u64))):Int) (fun n3=>
 Bd (IntKind.wrap .u64 (aq (IntKind.bits .u64) n2|||aq (IntKind.bits .u64) n3).toNat:Int) (fun n4=>
 K n4 h0))))))
theorem tE(x0:Int)(x1:Int){K:cL g5→ad→Prop}{h0:ad}(h:m3 x0 x1 K h0):HC PG du (lJ x0 x1) g5 K h0:=dJ .nil Tryz.func279 Tryz.call279 rfl rfl (by kernel_rfl) h
def sJ(x0:Option Addr)(x1:Option Addr)(K:(Bool)→ad→Prop)(h0:ad):Prop:=
 CondP (!(x0.isNone)) (
 HC PG gC [.pointer x1] [.c .bool] (fun(e1:Bool) h2=>
 CondP e1 (
 ∃a3,x0=some a3∧
 ∃v4,re h2 a3 5 v4∧
 (True∧(∀x y:Addr,v4=some x→x1=some y→gS h2 x∧gS h2 y)∧
 K (v4==x1) h2)) (
 K false h2)) h0) (
 K false h0)
theorem zV(x0:Option Addr)(x1:Option Addr){K:cL [.c .bool]→ad→Prop}{h0:ad}(h:sJ x0 x1 K h0):HC PG oB (lI x0 x1) [.c .bool] K h0:=dJ .nil Tryz.func280 Tryz.call280 rfl rfl (by kernel_rfl) h
def hJ(x0:SliceV)(K:(SliceV)→ad→Prop)(h0:ad):Prop:=
 LoopP (fun I1 (t2:Int×Int) h3=>
 CondP (decide (t2.2<(x0.len:Int))) (
 Join (fun(t7:Int) h8=>
 I1 (t7,IntKind.wrap .i64 (t2.2+1)) h8) (fun J4=>
 (cD t2.2 x0.len∧∃a5,x0.a=some a5∧
 ∃v6:SliceV,bl h3 a5 (t2.2.toNat*1) (.slice v6.a v6.len v6.cap)∧
 CondP (decide ((IntKind.wrap .i64 (t2.1+(v6.len:Int)))<(0:Int))) (
 False) (
 J4 (IntKind.wrap .i64 (t2.1+(v6.len:Int))) h3)))) (
 HC PG fL [.slice none 0 0,.int .i64 t2.1] [.c .slice] (fun(e9:SliceV) h10=>
 LoopP (fun I11 (t12:SliceV×Int) h13=>
 CondP (decide (t12.2<(x0.len:Int))) (
 Join (fun(t20:SliceV) h21=>
 I11 (t20,IntKind.wrap .i64 (t12.2+1)) h21) (fun J14=>
 (cD t12.2 x0.len∧∃a15,x0.a=some a15∧
 ∃v16:SliceV,bl h13 a15 (t12.2.toNat*1) (.slice v16.a v16.len v16.cap)∧
 ∃xs17,SRow h13 v16.a (v16.len*2) xs17∧
 AppP (some jN) 2 32 aj t12.1.a t12.1.len t12.1.cap v16.len xs17 h13 (fun s18 h19=>
 J14 s18 h19)))) (
 K t12.1 h13)) (e9,0) h10) h3)) (0,0) h0
noncomputable def mC:Ann:=.node .nil (.node .nil (.node (.node .nil (.loop [(3,.c (.int .i64)),(11,.c (.int .i64))] (.node .nil (.node .nil (.join [(3,.c (.int .i64))] .nil .nil))))) (.node .nil (.node (.node .nil (.loop [(6,.c .slice),(27,.c (.int .i64))] (.node .nil (.node .nil (.join [(6,.c .slice)] .nil .nil))))) .nil))))
theorem my(x0:SliceV){K:cL [.c .slice]→ad→Prop}{h0:ad}(h:hJ x0 K h0):HC PG dU [.slice x0.a x0.len x0.cap] [.c .slice] K h0:=dJ mC Tryz.func281 Tryz.call281 rfl rfl (by kernel_rfl) h
def hH(x0:SliceV)(x1:Int)(x2:Int)(K:(SliceV)→ad→Prop)(h0:ad):Prop:=
 (((0:Int)≤(x0.len:Int)∧(x0.len:Int)≤((x0.cap:Nat):Int))∧
 (((0:Int)≤x2∧x2≤(((x0.len:Int).toNat:Nat):Int))∧
 (((0:Int)≤x1∧x1≤((x2.toNat:Nat):Int))∧
 CondP (x1==x2) (
 K x0 h0) (
 Join (fun(t5:SliceV) h6=>
 (((0:Int)≤(x0.len:Int)∧(x0.len:Int)≤((t5.cap:Nat):Int))∧
 (((0:Int)≤(t5.len:Int)∧(t5.len:Int)≤(((x0.len:Int).toNat:Nat):Int))∧
 Bd (aV t5.a ((t5.len:Int).toNat) t5.cap 2:Option Addr) (fun a7=>Bd (((x0.len:Int).toNat)-((t5.len:Int).toNat):Nat) (fun n8=>Bd (t5.cap-((t5.len:Int).toNat):Nat) (fun n9=>
 (rP h6 a7 0 (dK n8 jN)∧
 At (fU h6 a7 0 (dK n8 jN)) (fun h10=>
 K t5 h10)))))))) (fun J1=>
 (((0:Int)≤x1∧x1≤((x0.cap:Nat):Int))∧
 (((0:Int)≤x2∧x2≤((x0.len:Nat):Int))∧
 ∃xs2,SRow h0 (aV x0.a x2.toNat x0.cap 2) ((x0.len-x2.toNat)*2) xs2∧
 AppP (some jN) 2 32 aj (aV x0.a 0 x0.cap 2) (x1.toNat-0) (x0.cap-0) (x0.len-x2.toNat) xs2 h0 (fun s3 h4=>
 J1 s3 h4))))))))
noncomputable def mB:Ann:=.node .nil (.node .nil (.node .nil (.node .nil (.join [(0,.c .slice)] .nil .nil))))
theorem mw(x0:SliceV)(x1:Int)(x2:Int){K:cL [.c .slice]→ad→Prop}{h0:ad}(h:hH x0 x1 x2 K h0):HC PG fl (Iw x0 x1 x2) [.c .slice] K h0:=dJ mB Tryz.func284 Tryz.call284 rfl rfl (by kernel_rfl) h
def gl(x0:SliceV)(x1:Int)(x2:Int)(K:(SliceV)→ad→Prop)(h0:ad):Prop:=
 (((0:Int)≤(x0.len:Int)∧(x0.len:Int)≤((x0.cap:Nat):Int))∧
 (((0:Int)≤x2∧x2≤(((x0.len:Int).toNat:Nat):Int))∧
 (((0:Int)≤x1∧x1≤((x2.toNat:Nat):Int))∧
 CondP (x1==x2) (
 K x0 h0) (
 Join (fun(t5:SliceV) h6=>
 (((0:Int)≤(x0.len:Int)∧(x0.len:Int)≤((t5.cap:Nat):Int))∧
 (((0:Int)≤(t5.len:Int)∧(t5.len:Int)≤(((x0.len:Int).toNat:Nat):Int))∧
 Bd (aV t5.a ((t5.len:Int).toNat) t5.cap 1:Option Addr) (fun a7=>Bd (((x0.len:Int).toNat)-((t5.len:Int).toNat):Nat) (fun n8=>Bd (t5.cap-((t5.len:Int).toNat):Nat) (fun n9=>
 (rP h6 a7 0 (dK n8 [.pointer none])∧
 At (fU h6 a7 0 (dK n8 [.pointer none])) (fun h10=>
 K t5 h10)))))))) (fun J1=>
 (((0:Int)≤x1∧x1≤((x0.cap:Nat):Int))∧
 (((0:Int)≤x2∧x2≤((x0.len:Nat):Int))∧
 ∃xs2,SRow h0 (aV x0.a x2.toNat x0.cap 1) ((x0.len-x2.toNat)*1) xs2∧
 AppP (some [.pointer none]) 1 8 bO (aV x0.a 0 x0.cap 1) (x1.toNat-0) (x0.cap-0) (x0.len-x2.toNat) xs2 h0 (fun s3 h4=>
 J1 s3 h4))))))))
noncomputable def kO:Ann:=.node .nil (.node .nil (.node .nil (.node .nil (.join [(0,.c .slice)] .nil .nil))))
theorem kM(x0:SliceV)(x1:Int)(x2:Int){K:cL [.c .slice]→ad→Prop}{h0:ad}(h:gl x0 x1 x2 K h0):HC PG eN (Iw x0 x1 x2) [.c .slice] K h0:=dJ kO Tryz.func285 Tryz.call285 rfl rfl (by kernel_rfl) h
def qd(x0:Int)(x1:Int)(K:(Int)→ad→Prop)(h0:ad):Prop:=
 HC PG mV [.int .i64 x1] [.c .bool] (fun(e1:Bool) h2=>
 CondP (!e1) (
 K x0 h2) (
 ((0:Int)≤x1∧
 Bd (IntKind.wrap .u32 (aq (IntKind.bits .u32) x0&&& ~~~aq (IntKind.bits .u32) (IntKind.wrap .u32 (1*2^(min (x1:Int).toNat (IntKind.bits .u32))))).toNat:Int) (fun n3=>
 K n3 h2)))) h0
theorem wn(x0:Int)(x1:Int){K:cL iG→ad→Prop}{h0:ad}(h:qd x0 x1 K h0):HC PG jt (nm x0 x1) iG K h0:=dJ .nil Tryz.func286 Tryz.call286 rfl rfl (by kernel_rfl) h
def EG(x0:Int)(x1:Int)(K:(Int)→ad→Prop)(h0:ad):Prop:=
 LoopP (fun I1 (t2:Int×Int) h3=>
 CondP (decide (t2.2<x1)) (
 ((9223372036854775808:Int)≠0∧
 Bd (IntKind.wrap .u64 ((IntKind.wrap .u64 (t2.1*2))+(IntKind.wrap .u64 (Int.tdiv t2.1 9223372036854775808))):Int) (fun n4=>
 I1 (n4,IntKind.wrap .i64 (t2.2+1)) h3))) (
 K t2.1 h3)) (x0,0) h0
noncomputable def MU:Ann:=.node .nil (.node (.node .nil (.loop [(0,.c (.int .u64)),(5,.c (.int .i64))] .nil)) .nil)
theorem MG(x0:Int)(x1:Int){K:cL g5→ad→Prop}{h0:ad}(h:EG x0 x1 K h0):HC PG lZ (lJ x0 x1) g5 K h0:=dJ MU Tryz.func291 Tryz.call291 rfl rfl (by kernel_rfl) h
def j9(x0:ByteArray)(x1:ByteArray)(K:(Bool)→ad→Prop)(h0:ad):Prop:=
 CondP (decide ((x0.size:Int)≥(x1.size:Int))) (
 (((0:Int)≤(x1.size:Int)∧(x1.size:Int)≤((x0.size:Nat):Int))∧
 K ((x0.extract 0 ((x1.size:Int).toNat)).toList==x1.toList) h0)) (
 K false h0)
theorem qb(x0:ByteArray)(x1:ByteArray){K:cL [.c .bool]→ad→Prop}{h0:ad}(h:j9 x0 x1 K h0):HC PG j7 (gZ x0 x1) [.c .bool] K h0:=dJ .nil Tryz.func293 Tryz.call293 rfl rfl (by kernel_rfl) h
def nW(x0:Int)(K:(Int)→ad→Prop)(h0:ad):Prop:=
 ((0:Int)≤(24:Int)∧
 ∃b1,(0:Int)≤(eD x0 (2^(min (24:Int).toNat (IntKind.bits .u32))))∧(⟨#[0,1,1,2,1,2,2,3,1,2,2,3,2,3,3,4,1,2,2,3,2,3,3,4,2,3,3,4,3,4,4,5,1,2,2,3,2,3,3,4,2,3,3,4,3,4,4,5,2,3,3,4,3,4,4,5,3,4,4,5,4,5,5,6,1,2,2,3,2,3,3,4,2,3,3,4,3,4,4,5,2,3,3,4,3,4,4,5,3,4,4,5,4,5,5,6,2,3,3,4,3,4,4,5,3,4,4,5,4,5,5,6,3,4,4,5,4,5,5,6,4,5,5,6,5,6,6,7,1,2,2,3,2,3,3,4,2,3,3,4,3,4,4,5,2,3,3,4,3,4,4,5,3,4,4,5,4,5,5,6,2,3,3,4,3,4,4,5,3,4,4,5,4,5,5,6,3,4,4,5,4,5,5,6,4,5,5,6,5,6,6,7,2,3,3,4,3,4,4,5,3,4,4,5,4,5,5,6,3,4,4,5,4,5,5,6,4,5,5,6,5,6,6,7,3,4,4,5,4,5,5,6,4,5,5,6,5,6,6,7,4,5,5,6,5,6,6,7,5,6,6,7,6,7,7,8]⟩:ByteArray)[(eD x0 (2^(min (24:Int).toNat (IntKind.bits .u32)))).toNat]? =some b1∧
 ((0:Int)≤(16:Int)∧
 Bd (IntKind.wrap .u32 (aq (IntKind.bits .u32) (eD x0 (2^(min (16:Int).toNat (IntKind.bits .u32))))&&&aq (IntKind.bits .u32) 255).toNat:Int) (fun n2=>
 ∃b3,(0:Int)≤n2∧(⟨#[0,1,1,2,1,2,2,3,1,2,2,3,2,3,3,4,1,2,2,3,2,3,3,4,2,3,3,4,3,4,4,5,1,2,2,3,2,3,3,4,2,3,3,4,3,4,4,5,2,3,3,4,3,4,4,5,3,4,4,5,4,5,5,6,1,2,2,3,2,3,3,4,2,3,3,4,3,4,4,5,2,3,3,4,3,4,4,5,3,4,4,5,4,5,5,6,2,3,3,4,3,4,4,5,3,4,4,5,4,5,5,6,3,4,4,5,4,5,5,6,4,5,5,6,5,6,6,7,1,2,2,3,2,3,3,4,2,3,3,4,3,4,4,5,2,3,3,4,3,4,4,5,3,4,4,5,4,5,5,6,2,3,3,4,3,4,4,5,3,4,4,5,4,5,5,6,3,4,4,5,4,5,5,6,4,5,5,6,5,6,6,7,2,3,3,4,3,4,4,5,3,4,4,5,4,5,5,6,3,4,4,5,4,5,5,6,4,5,5,6,5,6,6,7,3,4,4,5,4,5,5,6,4,5,5,6,5,6,6,7,4,5,5,6,5,6,6,7,5,6,6,7,6,7,7,8]⟩:ByteArray)[n2.toNat]? =some b3∧
 ((0:Int)≤(8:Int)∧
 Bd (IntKind.wrap .u32 (aq (IntKind.bits .u32) (eD x0 (2^(min (8:Int).toNat (IntKind.bits .u32))))&&&aq (IntKind.bits .u32) 255).toNat:Int) (fun n4=>
 ∃b5,(0:Int)≤n4∧(⟨#[0,1,1,2,1,2,2,3,1,2,2,3,2,3,3,4,1,2,2,3,2,3,3,4,2,3,3,4,3,4,4,5,1,2,2,3,2,3,3,4,2,3,3,4,3,4,4,5,2,3,3,4,3,4,4,5,3,4,4,5,4,5,5,6,1,2,2,3,2,3,3,4,2,3,3,4,3,4,4,5,2,3,3,4,3,4,4,5,3,4,4,5,4,5,5,6,2,3,3,4,3,4,4,5,3,4,4,5,4,5,5,6,3,4,4,5,4,5,5,6,4,5,5,6,5,6,6,7,1,2,2,3,2,3,3,4,2,3,3,4,3,4,4,5,2,3,3,4,3,4,4,5,3,4,4,5,4,5,5,6,2,3,3,4,3,4,4,5,3,4,4,5,4,5,5,6,3,4,4,5,4,5,5,6,4,5,5,6,5,6,6,7,2,3,3,4,3,4,4,5,3,4,4,5,4,5,5,6,3,4,4,5,4,5,5,6,4,5,5,6,5,6,6,7,3,4,4,5,4,5,5,6,4,5,5,6,5,6,6,7,4,5,5,6,5,6,6,7,5,6,6,7,6,7,7,8]⟩:ByteArray)[n4.toNat]? =some b5∧
 Bd (IntKind.wrap .u8 ((IntKind.wrap .u8 ((b1.toNat:Int)+(b3.toNat:Int)))+(b5.toNat:Int)):Int) (fun n6=>
 Bd (IntKind.wrap .u32 (aq (IntKind.bits .u32) x0&&&aq (IntKind.bits .u32) 255).toNat:Int) (fun n7=>
 ∃b8,(0:Int)≤n7∧(⟨#[0,1,1,2,1,2,2,3,1,2,2,3,2,3,3,4,1,2,2,3,2,3,3,4,2,3,3,4,3,4,4,5,1,2,2,3,2,3,3,4,2,3,3,4,3,4,4,5,2,3,3,4,3,4,4,5,3,4,4,5,4,5,5,6,1,2,2,3,2,3,3,4,2,3,3,4,3,4,4,5,2,3,3,4,3,4,4,5,3,4,4,5,4,5,5,6,2,3,3,4,3,4,4,5,3,4,4,5,4,5,5,6,3,4,4,5,4,5,5,6,4,5,5,6,5,6,6,7,1,2,2,3,2,3,3,4,2,3,3,4,3,4,4,5,2,3,3,4,3,4,4,5,3,4,4,5,4,5,5,6,2,3,3,4,3,4,4,5,3,4,4,5,4,5,5,6,3,4,4,5,4,5,5,6,4,5,5,6,5,6,6,7,2,3,3,4,3,4,4,5,3,4,4,5,4,5,5,6,3,4,4,5,4,5,5,6,4,5,5,6,5,6,6,7,3,4,4,5,4,5,5,6,4,5,5,6,5,6,6,7,4,5,5,6,5,6,6,7,5,6,6,7,6,7,7,8]⟩:ByteArray)[n7.toNat]? =some b8∧
 K (IntKind.wrap .i64 (IntKind.wrap .u8 (n6+(b8.toNat:Int)))) h0)))))))
theorem tW(x0:Int){K:cL cd→ad→Prop}{h0:ad}(h:nW x0 K h0):HC PG jV [.int .u32 x0] cd K h0:=dJ .nil Tryz.func294 Tryz.call294 rfl rfl (by kernel_rfl) h
def uc(x0:ByteArray×ByteArray×Bool)(x1:ByteArray)(K:(Bool)→ad→Prop)(h0:ad):Prop:=
 At (hnew h0 (EY x0) nT) (fun h1=>
 Join (fun(t5:Bool) h6=>
 CondP t5 (
 K true h6) (
 ∃v7,aw h6 h0 0 v7∧
 CondP (Op.bytesLess x1.toList v7.toList) (
 ∃v8,aw h6 h0 0 v8∧
 HC PG pO (gZ v8 x1) [.c .bool] (fun(e9:Bool) h10=>
 K (!e9) h10) h6) (
 K false h6))) (fun J2=>
 ∃v3,pr h1 h0 2 v3∧
 CondP (!v3) (
 ∃v4,aw h1 h0 1 v4∧
 J2 (!(Op.bytesLess x1.toList v4.toList)) h1) (
 J2 false h1)))
noncomputable def Bu:Ann:=.node .nil (.node (.join [(13,.c .bool)] .nil .nil) .nil)
theorem Bh(x0:ByteArray×ByteArray×Bool)(x1:ByteArray){K:cL [.c .bool]→ad→Prop}{h0:ad}(h:uc x0 x1 K h0):HC PG px [Hh x0,.string x1] [.c .bool] K h0:=dJ Bu Tryz.func296 Tryz.call296 rfl rfl (by kernel_rfl) h
def gU(x0:SliceV)(K:(Unit)→ad→Prop)(h0:ad):Prop:=
 LoopP (fun I1 (t2:Int×Int) h3=>
 CondP (decide (t2.1<t2.2)) (
 (cD t2.2 x0.len∧∃a4,x0.a=some a4∧
 ∃v5,re h3 (adr a4 (t2.2.toNat*3)) 0 v5∧
 ∃v6,aQ h3 (adr a4 (t2.2.toNat*3)) 1 v6∧
 ∃v7,dT h3 (adr a4 (t2.2.toNat*3)) 2 v7∧
 (cD t2.1 x0.len∧∃a8,x0.a=some a8∧
 ∃v9,re h3 (adr a8 (t2.1.toNat*3)) 0 v9∧
 ∃v10,aQ h3 (adr a8 (t2.1.toNat*3)) 1 v10∧
 ∃v11,dT h3 (adr a8 (t2.1.toNat*3)) 2 v11∧
 (cD t2.1 x0.len∧∃a12,x0.a=some a12∧
 (ni h3 (adr a12 (t2.1.toNat*3)) (ER v5 v6 v7) (fun h13=>
 (cD t2.2 x0.len∧∃a14,x0.a=some a14∧
 (ni h13 (adr a14 (t2.2.toNat*3)) (ER v9 v10 v11) (fun h15=>
 I1 (IntKind.wrap .i64 (t2.1+1),IntKind.wrap .i64 (t2.2-1)) h15))))))))) (
 K () h3)) (0,IntKind.wrap .i64 ((x0.len:Int)-1)) h0
noncomputable def l6:Ann:=.node .nil (.loop [(2,.c (.int .i64)),(3,.c (.int .i64))] .nil)
theorem l3(x0:SliceV){K:cL []→ad→Prop}{h0:ad}(h:gU x0 K h0):HC PG fe [.slice x0.a x0.len x0.cap] [] K h0:=dJ l6 Tryz.func297 Tryz.call297 rfl rfl (by kernel_rfl) h
def jx(x0:SliceV)(x1:Int)(x2:Int)(x3:Int)(x4:Value)(K:(Unit)→ad→Prop)(h0:ad):Prop:=
 LoopP (fun I1 (t2:Int×Int) h3=>
 CondP (t2.1 !=t2.2) (
 CondP (decide (t2.1>t2.2)) (
 HC PG dq [.slice x0.a x0.len x0.cap,.int .i64 (IntKind.wrap .i64 (x2-t2.1)),.int .i64 x2,.int .i64 t2.2,x4] [] (fun(e4:Unit) h5=>
 I1 (IntKind.wrap .i64 (t2.1-t2.2),t2.2) h5) h3) (
 HC PG dq [.slice x0.a x0.len x0.cap,.int .i64 (IntKind.wrap .i64 (x2-t2.1)),.int .i64 (IntKind.wrap .i64 ((IntKind.wrap .i64 (x2+t2.2))-t2.1)),.int .i64 t2.1,x4] [] (fun(e6:Unit) h7=>
 I1 (t2.1,IntKind.wrap .i64 (t2.2-t2.1)) h7) h3)) (
 HC PG dq [.slice x0.a x0.len x0.cap,.int .i64 (IntKind.wrap .i64 (x2-t2.1)),.int .i64 x2,.int .i64 t2.1,x4] [] (fun(e8:Unit) h9=>
 K () h9) h3)) (IntKind.wrap .i64 (x2-x1),IntKind.wrap .i64 (x3-x2)) h0
noncomputable def oQ:Ann:=.node .nil (.node .nil (.node (.loop [(10,.c (.int .i64)),(11,.c (.int .i64))] .nil) .nil))
theorem oI(x0:SliceV)(x1:Int)(x2:Int)(x3:Int)(x4:Value){K:cL []→ad→Prop}{h0:ad}(h:jx x0 x1 x2 x3 x4 K h0):HC PG ga [.slice x0.a x0.len x0.cap,.int .i64 x1,.int .i64 x2,.int .i64 x3,x4] [] K h0:=dJ oQ Tryz.func298 Tryz.call298 rfl rfl (by kernel_rfl) h
def iI(x0:SliceV)(x1:Int)(K:(SliceV)→ad→Prop)(h0:ad):Prop:=
 Join (fun(t2:Unit) h3=>
 Bd (IntKind.wrap .i64 (x1-(IntKind.wrap .i64 ((x0.cap:Int)-(x0.len:Int)))):Int) (fun n4=>
 CondP (decide (n4>(0:Int))) (
 (((0:Int)≤(x0.cap:Int)∧(x0.cap:Int)≤((x0.cap:Nat):Int))∧
 (((0:Int)≤n4∧n4*((32:Nat):Int)≤2^48∧n4≤9223372036854775807∧(((((x0.cap:Int).toNat)-0)+n4.toNat:Nat):Int)≤9223372036854775807)∧
 AppP (some jN) 2 32 aj (aV x0.a 0 x0.cap 2) (((x0.cap:Int).toNat)-0) (x0.cap-0) n4.toNat (dK n4.toNat jN) h3 (fun s5 h6=>
 (((0:Int)≤(x0.len:Int)∧(x0.len:Int)≤((s5.cap:Nat):Int))∧
 K ⟨aV s5.a 0 s5.cap 2,((x0.len:Int).toNat)-0,s5.cap-0⟩ h6))))) (
 K x0 h3))) (fun J1=>
 CondP (decide (x1<(0:Int))) (
 False) (
 J1 () h0))
noncomputable def m6:Ann:=.node .nil (.join [] .nil .nil)
theorem m0(x0:SliceV)(x1:Int){K:cL [.c .slice]→ad→Prop}{h0:ad}(h:iI x0 x1 K h0):HC PG fL (Vb x0 x1) [.c .slice] K h0:=dJ m6 Tryz.func299 Tryz.call299 rfl rfl (by kernel_rfl) h
def iH(x0:SliceV)(x1:Int)(x2:Int)(x3:Int)(x4:Value)(K:(Unit)→ad→Prop)(h0:ad):Prop:=
 LoopP (fun I1 (t2:Int) h3=>
 CondP (decide (t2<x3)) (
 (cD (IntKind.wrap .i64 (x2+t2)) x0.len∧∃a4,x0.a=some a4∧
 ∃v5,bl h3 (adr a4 ((IntKind.wrap .i64 (x2+t2)).toNat*2)) 0 (.string v5)∧
 ∃v6,bl h3 (adr a4 ((IntKind.wrap .i64 (x2+t2)).toNat*2)) 1 (.string v6)∧
 (cD (IntKind.wrap .i64 (x1+t2)) x0.len∧∃a7,x0.a=some a7∧
 ∃v8,bl h3 (adr a7 ((IntKind.wrap .i64 (x1+t2)).toNat*2)) 0 (.string v8)∧
 ∃v9,bl h3 (adr a7 ((IntKind.wrap .i64 (x1+t2)).toNat*2)) 1 (.string v9)∧
 (cD (IntKind.wrap .i64 (x1+t2)) x0.len∧∃a10,x0.a=some a10∧
 (ni h3 (adr a10 ((IntKind.wrap .i64 (x1+t2)).toNat*2)) (gZ v5 v6) (fun h11=>
 (cD (IntKind.wrap .i64 (x2+t2)) x0.len∧∃a12,x0.a=some a12∧
 (ni h11 (adr a12 ((IntKind.wrap .i64 (x2+t2)).toNat*2)) (gZ v8 v9) (fun h13=>
 I1 (IntKind.wrap .i64 (t2+1)) h13))))))))) (
 K () h3)) 0 h0
noncomputable def m5:Ann:=.node .nil (.loop [(10,.c (.int .i64))] .nil)
theorem mZ(x0:SliceV)(x1:Int)(x2:Int)(x3:Int)(x4:Value){K:cL []→ad→Prop}{h0:ad}(h:iH x0 x1 x2 x3 x4 K h0):HC PG dq [.slice x0.a x0.len x0.cap,.int .i64 x1,.int .i64 x2,.int .i64 x3,x4] [] K h0:=dJ m5 Tryz.func304 Tryz.call304 rfl rfl (by kernel_rfl) h
end Go.Proofs
