/- A part of the proof that the named laws of this program answer true, whatever the input. -/
import Derived.Test.YtncppacbfagpgaaGreatDoorTreeF
set_option maxRecDepth 100000
set_option linter.unusedVariables false
open BitVec renaming ofInt→aj
open Int renaming fdiv→ee
namespace Go.Proofs
open Go.Lift
def tR(x0:ByteArray×ByteArray×Bool)(x1:ByteArray)(K:(Bool)→ad→Prop)(h0:ad):Prop:=
 At (hnew h0 (Oj x0) na) (fun h1=>
 ∃v2,av h1 h0 0 v2∧
 CondP (!(Op.bytesLess x1.toList v2.toList)) (
 ∃v3,oz h1 h0 2 v3∧
 CondP v3 (
 K true h1) (
 ∃v4,av h1 h0 1 v4∧
 K (Op.bytesLess x1.toList v4.toList) h1)) (
 K false h1))
theorem Aw(x0:ByteArray×ByteArray×Bool)(x1:ByteArray){K:cW [.c .bool]→ad→Prop}{h0:ad}(h:tR x0 x1 K h0):HC PG pB [OT x0,.string x1] [.c .bool] K h0:=ed .nil Tryz.func275 Tryz.call275 rfl rfl (by kernel_rfl) h
def zv(x0:Option Addr)(K:(SliceV×SliceV)→ad→Prop)(h0:ad):Prop:=
 At (hnew h0 QF dV) (fun h1=>
 HC PG fg [.pointer x0] [.c .slice] (fun(e2:SliceV) h3=>
 HC PG jB [.pointer x0] [.c .slice] (fun(e4:SliceV) h5=>
 (cJ h5 h0 (MD e2 e4) (fun h6=>
 ∃v7:SliceV,eP h6 h0 0 v7∧
 ∃v8:SliceV,eP h6 h0 1 v8∧
 K (v7,v8) h6))) h3) h1)
theorem Ep(x0:Option Addr){K:cW D6→ad→Prop}{h0:ad}(h:zv x0 K h0):HC PG rZ [.pointer x0] D6 K h0:=ed .nil Tryz.func276 Tryz.call276 rfl rfl (by kernel_rfl) h
def gu(x0:SliceV)(x1:Int)(x2:Int)(x3:Value)(K:(Unit)→ad→Prop)(h0:ad):Prop:=
 LoopP (fun I1 (t2:Int) h3=>
 CondP (decide (t2<x2)) (
 LoopP (fun I4 (t5:Int) h6=>
 Join (fun(t16:Bool) h17=>
 CondP t16 (
 (dd (IntKind.wrap .i64 (t5-1)) x0.len∧∃a18,x0.a=some a18∧
 ∃v19,cf h17 (adr a18 ((IntKind.wrap .i64 (t5-1)).toNat*2)) 0 (.string v19)∧
 ∃v20,cf h17 (adr a18 ((IntKind.wrap .i64 (t5-1)).toNat*2)) 1 (.string v20)∧
 (dd t5 x0.len∧∃a21,x0.a=some a21∧
 ∃v22,bC h17 (adr a21 (t5.toNat*2)) 0 v22∧
 ∃v23,bC h17 (adr a21 (t5.toNat*2)) 1 v23∧
 (dd t5 x0.len∧∃a24,x0.a=some a24∧
 (rt h17 (adr a24 (t5.toNat*2)) (jx v19 v20) (fun h25=>
 (dd (IntKind.wrap .i64 (t5-1)) x0.len∧∃a26,x0.a=some a26∧
 (rt h25 (adr a26 ((IntKind.wrap .i64 (t5-1)).toNat*2)) (jx v22 v23) (fun h27=>
 I4 (IntKind.wrap .i64 (t5-1)) h27))))))))) (
 I1 (IntKind.wrap .i64 (t2+1)) h17)) (fun J7=>
 CondP (decide (t5>x1)) (
 (dd t5 x0.len∧∃a8,x0.a=some a8∧
 ∃v9,bC h6 (adr a8 (t5.toNat*2)) 0 v9∧
 ∃v10,bC h6 (adr a8 (t5.toNat*2)) 1 v10∧
 (dd (IntKind.wrap .i64 (t5-1)) x0.len∧∃a11,x0.a=some a11∧
 ∃v12,cf h6 (adr a11 ((IntKind.wrap .i64 (t5-1)).toNat*2)) 0 (.string v12)∧
 ∃v13,cf h6 (adr a11 ((IntKind.wrap .i64 (t5-1)).toNat*2)) 1 (.string v13)∧
 HV PG x3 [o9 v9 v10,o9 v12 v13] cy (fun(e14:Int) h15=>
 J7 (decide (e14<(0:Int))) h15) h6))) (
 J7 false h6))) t2 h3) (
 K () h3)) (IntKind.wrap .i64 (x1+1)) h0
noncomputable def kT:Ann:=.node .nil (.loop [(8,.c (.int .i64))] (.node .nil (.node (.node .nil (.loop [(9,.c (.int .i64))] (.node (.join [(34,.c .bool)] .nil .nil) .nil))) .nil)))
theorem kS(x0:SliceV)(x1:Int)(x2:Int)(x3:Value){K:cW []→ad→Prop}{h0:ad}(h:gu x0 x1 x2 x3 K h0):HC PG dJ [.slice x0.a x0.len x0.cap,.int .i64 x1,.int .i64 x2,x3] [] K h0:=ed kT Tryz.func277 Tryz.call277 rfl rfl (by kernel_rfl) h
def iA(x0:SliceV)(x1:Int)(x2:Int)(x3:Int)(x4:Value)(K:(Unit)→ad→Prop)(h0:ad):Prop:=
 CondP ((IntKind.wrap .i64 (x2-x1))==(1:Int)) (
 LoopP (fun I1 (t2:Int×Int) h3=>
 CondP (decide (t2.1<t2.2)) (
 ((0:Int)≤(1:Int)∧
 Bd (ee (IntKind.wrap .u64 (IntKind.wrap .i64 (t2.1+t2.2))) (2^(min (1:Int).toNat (IntKind.bits .u64))):Int) (fun n4=>
 (dd (IntKind.wrap .i64 n4) x0.len∧∃a5,x0.a=some a5∧
 ∃v6,bC h3 (adr a5 ((IntKind.wrap .i64 n4).toNat*2)) 0 v6∧
 ∃v7,bC h3 (adr a5 ((IntKind.wrap .i64 n4).toNat*2)) 1 v7∧
 (dd x1 x0.len∧∃a8,x0.a=some a8∧
 ∃v9,bC h3 (adr a8 (x1.toNat*2)) 0 v9∧
 ∃v10,bC h3 (adr a8 (x1.toNat*2)) 1 v10∧
 HV PG x4 [o9 v6 v7,o9 v9 v10] cy (fun(e11:Int) h12=>
 CondP (decide (e11<(0:Int))) (
 I1 (IntKind.wrap .i64 ((IntKind.wrap .i64 n4)+1),t2.2) h12) (
 I1 (t2.1,IntKind.wrap .i64 n4) h12)) h3))))) (
 LoopP (fun I13 (t14:Int) h15=>
 CondP (decide (t14<(IntKind.wrap .i64 (t2.1-1)))) (
 (dd (IntKind.wrap .i64 (t14+1)) x0.len∧∃a16,x0.a=some a16∧
 ∃v17,cf h15 (adr a16 ((IntKind.wrap .i64 (t14+1)).toNat*2)) 0 (.string v17)∧
 ∃v18,cf h15 (adr a16 ((IntKind.wrap .i64 (t14+1)).toNat*2)) 1 (.string v18)∧
 (dd t14 x0.len∧∃a19,x0.a=some a19∧
 ∃v20,bC h15 (adr a19 (t14.toNat*2)) 0 v20∧
 ∃v21,bC h15 (adr a19 (t14.toNat*2)) 1 v21∧
 (dd t14 x0.len∧∃a22,x0.a=some a22∧
 (rt h15 (adr a22 (t14.toNat*2)) (jx v17 v18) (fun h23=>
 (dd (IntKind.wrap .i64 (t14+1)) x0.len∧∃a24,x0.a=some a24∧
 (rt h23 (adr a24 ((IntKind.wrap .i64 (t14+1)).toNat*2)) (jx v20 v21) (fun h25=>
 I13 (IntKind.wrap .i64 (t14+1)) h25))))))))) (
 K () h15)) x1 h3)) (x2,x3) h0) (
 CondP ((IntKind.wrap .i64 (x3-x2))==(1:Int)) (
 LoopP (fun I26 (t27:Int×Int) h28=>
 CondP (decide (t27.1<t27.2)) (
 ((0:Int)≤(1:Int)∧
 Bd (ee (IntKind.wrap .u64 (IntKind.wrap .i64 (t27.1+t27.2))) (2^(min (1:Int).toNat (IntKind.bits .u64))):Int) (fun n29=>
 (dd x2 x0.len∧∃a30,x0.a=some a30∧
 ∃v31,bC h28 (adr a30 (x2.toNat*2)) 0 v31∧
 ∃v32,bC h28 (adr a30 (x2.toNat*2)) 1 v32∧
 (dd (IntKind.wrap .i64 n29) x0.len∧∃a33,x0.a=some a33∧
 ∃v34,bC h28 (adr a33 ((IntKind.wrap .i64 n29).toNat*2)) 0 v34∧
 ∃v35,bC h28 (adr a33 ((IntKind.wrap .i64 n29).toNat*2)) 1 v35∧
 HV PG x4 [o9 v31 v32,o9 v34 v35] cy (fun(e36:Int) h37=>
 CondP (!(decide (e36<(0:Int)))) (
 I26 (IntKind.wrap .i64 ((IntKind.wrap .i64 n29)+1),t27.2) h37) (
 I26 (t27.1,IntKind.wrap .i64 n29) h37)) h28))))) (
 LoopP (fun I38 (t39:Int) h40=>
 CondP (decide (t39>t27.1)) (
 (dd (IntKind.wrap .i64 (t39-1)) x0.len∧∃a41,x0.a=some a41∧
 ∃v42,cf h40 (adr a41 ((IntKind.wrap .i64 (t39-1)).toNat*2)) 0 (.string v42)∧
 ∃v43,cf h40 (adr a41 ((IntKind.wrap .i64 (t39-1)).toNat*2)) 1 (.string v43)∧
 (dd t39 x0.len∧∃a44,x0.a=some a44∧
 ∃v45,bC h40 (adr a44 (t39.toNat*2)) 0 v45∧
 ∃v46,bC h40 (adr a44 (t39.toNat*2)) 1 v46∧
 (dd t39 x0.len∧∃a47,x0.a=some a47∧
 (rt h40 (adr a47 (t39.toNat*2)) (jx v42 v43) (fun h48=>
 (dd (IntKind.wrap .i64 (t39-1)) x0.len∧∃a49,x0.a=some a49∧
 (rt h48 (adr a49 ((IntKind.wrap .i64 (t39-1)).toNat*2)) (jx v45 v46) (fun h50=>
 I38 (IntKind.wrap .i64 (t39-1)) h50))))))))) (
 K () h40)) x2 h28)) (x1,x2) h0) (
 ((0:Int)≤(1:Int)∧
 Bd (ee (IntKind.wrap .u64 (IntKind.wrap .i64 (x1+x3))) (2^(min (1:Int).toNat (IntKind.bits .u64))):Int) (fun n51=>
 Join (fun(t54:Int×Int) h55=>
 Bd (IntKind.wrap .i64 ((IntKind.wrap .i64 ((IntKind.wrap .i64 n51)+x2))-1):Int) (fun n56=>
 LoopP (fun I57 (t58:Int×Int) h59=>
 CondP (decide (t58.1<t58.2)) (
 ((0:Int)≤(1:Int)∧
 Bd (ee (IntKind.wrap .u64 (IntKind.wrap .i64 (t58.1+t58.2))) (2^(min (1:Int).toNat (IntKind.bits .u64))):Int) (fun n60=>
 (dd (IntKind.wrap .i64 (n56-(IntKind.wrap .i64 n60))) x0.len∧∃a61,x0.a=some a61∧
 ∃v62,cf h59 (adr a61 ((IntKind.wrap .i64 (n56-(IntKind.wrap .i64 n60))).toNat*2)) 0 (.string v62)∧
 ∃v63,cf h59 (adr a61 ((IntKind.wrap .i64 (n56-(IntKind.wrap .i64 n60))).toNat*2)) 1 (.string v63)∧
 (dd (IntKind.wrap .i64 n60) x0.len∧∃a64,x0.a=some a64∧
 ∃v65,bC h59 (adr a64 ((IntKind.wrap .i64 n60).toNat*2)) 0 v65∧
 ∃v66,bC h59 (adr a64 ((IntKind.wrap .i64 n60).toNat*2)) 1 v66∧
 HV PG x4 [o9 v62 v63,o9 v65 v66] cy (fun(e67:Int) h68=>
 CondP (!(decide (e67<(0:Int)))) (
 I57 (IntKind.wrap .i64 ((IntKind.wrap .i64 n60)+1),t58.2) h68) (
 I57 (t58.1,IntKind.wrap .i64 n60) h68)) h59))))) (
 Bd (IntKind.wrap .i64 ((IntKind.wrap .i64 ((IntKind.wrap .i64 n51)+x2))-t58.1):Int) (fun n69=>
 Join (fun(t76:Unit) h77=>
 Join (fun(t84:Unit) h85=>
 Join (fun(t87:Bool) h88=>
 CondP t87 (
 HC PG cN [.slice x0.a x0.len x0.cap,.int .i64 (IntKind.wrap .i64 n51),.int .i64 n69,.int .i64 x3,x4] [] (fun(e89:Unit) h90=>
 K () h90) h88) (
 K () h88)) (fun J86=>
 CondP (decide ((IntKind.wrap .i64 n51)<n69)) (
 J86 (decide (n69<x3)) h85) (
 J86 false h85))) (fun J78=>
 Join (fun(t80:Bool) h81=>
 CondP t80 (
 HC PG cN [.slice x0.a x0.len x0.cap,.int .i64 x1,.int .i64 t58.1,.int .i64 (IntKind.wrap .i64 n51),x4] [] (fun(e82:Unit) h83=>
 J78 () h83) h81) (
 J78 () h81)) (fun J79=>
 CondP (decide (x1<t58.1)) (
 J79 (decide (t58.1<(IntKind.wrap .i64 n51))) h77) (
 J79 false h77)))) (fun J70=>
 Join (fun(t72:Bool) h73=>
 CondP t72 (
 HC PG fS [.slice x0.a x0.len x0.cap,.int .i64 t58.1,.int .i64 x2,.int .i64 n69,x4] [] (fun(e74:Unit) h75=>
 J70 () h75) h73) (
 J70 () h73)) (fun J71=>
 CondP (decide (t58.1<x2)) (
 J71 (decide (x2<n69)) h59) (
 J71 false h59)))))) (t54.1,t54.2) h55)) (fun J52=>
 CondP (decide (x2>(IntKind.wrap .i64 n51))) (
 Bd (IntKind.wrap .i64 ((IntKind.wrap .i64 ((IntKind.wrap .i64 n51)+x2))-x3):Int) (fun n53=>
 J52 (n53,IntKind.wrap .i64 n51) h0)) (
 J52 (x1,x2) h0))))))
noncomputable def m5:Ann:=.node (.node .nil (.node (.node .nil (.node .nil (.node (.loop [(10,.c (.int .i64)),(11,.c (.int .i64))] .nil) (.node (.node .nil (.loop [(13,.c (.int .i64))] .nil)) .nil)))) .nil)) (.node (.node .nil (.node (.node .nil (.node .nil (.node (.loop [(14,.c (.int .i64)),(15,.c (.int .i64))] .nil) (.node (.node .nil (.loop [(17,.c (.int .i64))] .nil)) .nil)))) .nil)) (.node .nil (.node .nil (.node .nil (.join [(20,.c (.int .i64)),(21,.c (.int .i64))] .nil (.node .nil (.node (.loop [(20,.c (.int .i64)),(21,.c (.int .i64))] .nil) (.node .nil (.join [] (.join [(185,.c .bool)] .nil .nil) (.join [] (.join [(199,.c .bool)] .nil .nil) (.join [(213,.c .bool)] .nil .nil)))))))))))
theorem m3(x0:SliceV)(x1:Int)(x2:Int)(x3:Int)(x4:Value){K:cW []→ad→Prop}{h0:ad}(h:iA x0 x1 x2 x3 x4 K h0):HC PG cN [.slice x0.a x0.len x0.cap,.int .i64 x1,.int .i64 x2,.int .i64 x3,x4] [] K h0:=ed m5 Tryz.func278 Tryz.call278 rfl rfl (by kernel_rfl) h
def mE(x0:Int)(x1:Int)(K:(Int)→ad→Prop)(h0:ad):Prop:=
 Bd (IntKind.wrap .u64 (aj (IntKind.bits .u64) (IntKind.wrap .u64 x1)&&&aj (IntKind.bits .u64) 63).toNat:Int) (fun n1=>
 ((0:Int)≤n1∧
 Bd (IntKind.wrap .u64 (x0*2^(min (n1:Int).toNat (IntKind.bits .u64))):Int) (fun n2=>
 ((0:Int)≤(IntKind.wrap .u64 (64-n1))∧
 Bd (ee x0 (2^(min (IntKind.wrap .u64 (64-n1):Int).toNat (IntKind.bits .u64))):Int) (fun n3=>
 Bd (IntKind.wrap .u64 (aj (IntKind.bits .u64) n2|||aj (IntKind.bits .u64) n3).toNat:Int) (fun n4=>
 K n4 h0))))))
theorem rK(x0:Int)(x1:Int){K:cW ii→ad→Prop}{h0:ad}(h:mE x0 x1 K h0):HC PG dq (nn x0 x1) ii K h0:=ed .nil Tryz.func279 Tryz.call279 rfl rfl (by kernel_rfl) h
def ri(x0:Option Addr)(x1:Option Addr)(K:(Bool)→ad→Prop)(h0:ad):Prop:=
 CondP (!(x0.isNone)) (
 HC PG gl [.pointer x1] [.c .bool] (fun(e1:Bool) h2=>
 CondP e1 (
 ∃a3,x0=some a3∧
 ∃v4,tK h2 a3 5 v4∧
 (True∧(∀x y:Addr,v4=some x→x1=some y→gA h2 x∧gA h2 y)∧
 K (v4==x1) h2)) (
 K false h2)) h0) (
 K false h0)
theorem yi(x0:Option Addr)(x1:Option Addr){K:cW [.c .bool]→ad→Prop}{h0:ad}(h:ri x0 x1 K h0):HC PG nF (pV x0 x1) [.c .bool] K h0:=ed .nil Tryz.func280 Tryz.call280 rfl rfl (by kernel_rfl) h
def gP(x0:SliceV)(K:(SliceV)→ad→Prop)(h0:ad):Prop:=
 LoopP (fun I1 (t2:Int×Int) h3=>
 CondP (decide (t2.2<(x0.len:Int))) (
 Join (fun(t7:Int) h8=>
 I1 (t7,IntKind.wrap .i64 (t2.2+1)) h8) (fun J4=>
 (dd t2.2 x0.len∧∃a5,x0.a=some a5∧
 ∃v6:SliceV,cf h3 a5 (t2.2.toNat*1) (.slice v6.a v6.len v6.cap)∧
 CondP (decide ((IntKind.wrap .i64 (t2.1+(v6.len:Int)))<(0:Int))) (
 False) (
 J4 (IntKind.wrap .i64 (t2.1+(v6.len:Int))) h3)))) (
 HC PG fu [.slice none 0 0,.int .i64 t2.1] [.c .slice] (fun(e9:SliceV) h10=>
 LoopP (fun I11 (t12:SliceV×Int) h13=>
 CondP (decide (t12.2<(x0.len:Int))) (
 Join (fun(t20:SliceV) h21=>
 I11 (t20,IntKind.wrap .i64 (t12.2+1)) h21) (fun J14=>
 (dd t12.2 x0.len∧∃a15,x0.a=some a15∧
 ∃v16:SliceV,cf h13 a15 (t12.2.toNat*1) (.slice v16.a v16.len v16.cap)∧
 ∃xs17,SRow h13 v16.a (v16.len*2) xs17∧
 AppP (some kU) 2 32 ag t12.1.a t12.1.len t12.1.cap v16.len xs17 h13 (fun s18 h19=>
 J14 s18 h19)))) (
 K t12.1 h13)) (e9,0) h10) h3)) (0,0) h0
noncomputable def l4:Ann:=.node .nil (.node .nil (.node (.node .nil (.loop [(3,.c (.int .i64)),(11,.c (.int .i64))] (.node .nil (.node .nil (.join [(3,.c (.int .i64))] .nil .nil))))) (.node .nil (.node (.node .nil (.loop [(6,.c .slice),(27,.c (.int .i64))] (.node .nil (.node .nil (.join [(6,.c .slice)] .nil .nil))))) .nil))))
theorem lY(x0:SliceV){K:cW [.c .slice]→ad→Prop}{h0:ad}(h:gP x0 K h0):HC PG fa [.slice x0.a x0.len x0.cap] [.c .slice] K h0:=ed l4 Tryz.func281 Tryz.call281 rfl rfl (by kernel_rfl) h
def gO(x0:SliceV)(x1:Int)(x2:Int)(K:(SliceV)→ad→Prop)(h0:ad):Prop:=
 (((0:Int)≤(x0.len:Int)∧(x0.len:Int)≤((x0.cap:Nat):Int))∧
 (((0:Int)≤x2∧x2≤(((x0.len:Int).toNat:Nat):Int))∧
 (((0:Int)≤x1∧x1≤((x2.toNat:Nat):Int))∧
 CondP (x1==x2) (
 K x0 h0) (
 Join (fun(t5:SliceV) h6=>
 (((0:Int)≤(x0.len:Int)∧(x0.len:Int)≤((t5.cap:Nat):Int))∧
 (((0:Int)≤(t5.len:Int)∧(t5.len:Int)≤(((x0.len:Int).toNat:Nat):Int))∧
 Bd (aY t5.a ((t5.len:Int).toNat) t5.cap 2:Option Addr) (fun a7=>Bd (((x0.len:Int).toNat)-((t5.len:Int).toNat):Nat) (fun n8=>Bd (t5.cap-((t5.len:Int).toNat):Nat) (fun n9=>
 (uc h6 a7 0 (dU n8 kU)∧
 At (fP h6 a7 0 (dU n8 kU)) (fun h10=>
 K t5 h10)))))))) (fun J1=>
 (((0:Int)≤x1∧x1≤((x0.cap:Nat):Int))∧
 (((0:Int)≤x2∧x2≤((x0.len:Nat):Int))∧
 ∃xs2,SRow h0 (aY x0.a x2.toNat x0.cap 2) ((x0.len-x2.toNat)*2) xs2∧
 AppP (some kU) 2 32 ag (aY x0.a 0 x0.cap 2) (x1.toNat-0) (x0.cap-0) (x0.len-x2.toNat) xs2 h0 (fun s3 h4=>
 J1 s3 h4))))))))
noncomputable def l3:Ann:=.node .nil (.node .nil (.node .nil (.node .nil (.join [(0,.c .slice)] .nil .nil))))
theorem lX(x0:SliceV)(x1:Int)(x2:Int){K:cW [.c .slice]→ad→Prop}{h0:ad}(h:gO x0 x1 x2 K h0):HC PG eZ (ME x0 x1 x2) [.c .slice] K h0:=ed l3 Tryz.func284 Tryz.call284 rfl rfl (by kernel_rfl) h
def f7(x0:SliceV)(x1:Int)(x2:Int)(K:(SliceV)→ad→Prop)(h0:ad):Prop:=
 (((0:Int)≤(x0.len:Int)∧(x0.len:Int)≤((x0.cap:Nat):Int))∧
 (((0:Int)≤x2∧x2≤(((x0.len:Int).toNat:Nat):Int))∧
 (((0:Int)≤x1∧x1≤((x2.toNat:Nat):Int))∧
 CondP (x1==x2) (
 K x0 h0) (
 Join (fun(t5:SliceV) h6=>
 (((0:Int)≤(x0.len:Int)∧(x0.len:Int)≤((t5.cap:Nat):Int))∧
 (((0:Int)≤(t5.len:Int)∧(t5.len:Int)≤(((x0.len:Int).toNat:Nat):Int))∧
 Bd (aY t5.a ((t5.len:Int).toNat) t5.cap 1:Option Addr) (fun a7=>Bd (((x0.len:Int).toNat)-((t5.len:Int).toNat):Nat) (fun n8=>Bd (t5.cap-((t5.len:Int).toNat):Nat) (fun n9=>
 (uc h6 a7 0 (dU n8 [.pointer none])∧
 At (fP h6 a7 0 (dU n8 [.pointer none])) (fun h10=>
 K t5 h10)))))))) (fun J1=>
 (((0:Int)≤x1∧x1≤((x0.cap:Nat):Int))∧
 (((0:Int)≤x2∧x2≤((x0.len:Nat):Int))∧
 ∃xs2,SRow h0 (aY x0.a x2.toNat x0.cap 1) ((x0.len-x2.toNat)*1) xs2∧
 AppP (some [.pointer none]) 1 8 bK (aY x0.a 0 x0.cap 1) (x1.toNat-0) (x0.cap-0) (x0.len-x2.toNat) xs2 h0 (fun s3 h4=>
 J1 s3 h4))))))))
noncomputable def ki:Ann:=.node .nil (.node .nil (.node .nil (.node .nil (.join [(0,.c .slice)] .nil .nil))))
theorem j9(x0:SliceV)(x1:Int)(x2:Int){K:cW [.c .slice]→ad→Prop}{h0:ad}(h:f7 x0 x1 x2 K h0):HC PG eo (ME x0 x1 x2) [.c .slice] K h0:=ed ki Tryz.func285 Tryz.call285 rfl rfl (by kernel_rfl) h
def pp(x0:Int)(x1:Int)(K:(Int)→ad→Prop)(h0:ad):Prop:=
 HC PG mw [.int .i64 x1] [.c .bool] (fun(e1:Bool) h2=>
 CondP (!e1) (
 K x0 h2) (
 ((0:Int)≤x1∧
 Bd (IntKind.wrap .u32 (aj (IntKind.bits .u32) x0&&& ~~~aj (IntKind.bits .u32) (IntKind.wrap .u32 (1*2^(min (x1:Int).toNat (IntKind.bits .u32))))).toNat:Int) (fun n3=>
 K n3 h2)))) h0
theorem uR(x0:Int)(x1:Int){K:cW iK→ad→Prop}{h0:ad}(h:pp x0 x1 K h0):HC PG i7 (mN x0 x1) iK K h0:=ed .nil Tryz.func286 Tryz.call286 rfl rfl (by kernel_rfl) h
def CJ(x0:Int)(x1:Int)(K:(Int)→ad→Prop)(h0:ad):Prop:=
 LoopP (fun I1 (t2:Int×Int) h3=>
 CondP (decide (t2.2<x1)) (
 ((9223372036854775808:Int)≠0∧
 Bd (IntKind.wrap .u64 ((IntKind.wrap .u64 (t2.1*2))+(IntKind.wrap .u64 (Int.tdiv t2.1 9223372036854775808))):Int) (fun n4=>
 I1 (n4,IntKind.wrap .i64 (t2.2+1)) h3))) (
 K t2.1 h3)) (x0,0) h0
noncomputable def JV:Ann:=.node .nil (.node (.node .nil (.loop [(0,.c (.int .u64)),(5,.c (.int .i64))] .nil)) .nil)
theorem JI(x0:Int)(x1:Int){K:cW ii→ad→Prop}{h0:ad}(h:CJ x0 x1 K h0):HC PG lx (nn x0 x1) ii K h0:=ed JV Tryz.func291 Tryz.call291 rfl rfl (by kernel_rfl) h
def ni(x0:Int)(K:(Int)→ad→Prop)(h0:ad):Prop:=
 ((0:Int)≤(24:Int)∧
 ∃b1,(0:Int)≤(ee x0 (2^(min (24:Int).toNat (IntKind.bits .u32))))∧(⟨#[0,1,1,2,1,2,2,3,1,2,2,3,2,3,3,4,1,2,2,3,2,3,3,4,2,3,3,4,3,4,4,5,1,2,2,3,2,3,3,4,2,3,3,4,3,4,4,5,2,3,3,4,3,4,4,5,3,4,4,5,4,5,5,6,1,2,2,3,2,3,3,4,2,3,3,4,3,4,4,5,2,3,3,4,3,4,4,5,3,4,4,5,4,5,5,6,2,3,3,4,3,4,4,5,3,4,4,5,4,5,5,6,3,4,4,5,4,5,5,6,4,5,5,6,5,6,6,7,1,2,2,3,2,3,3,4,2,3,3,4,3,4,4,5,2,3,3,4,3,4,4,5,3,4,4,5,4,5,5,6,2,3,3,4,3,4,4,5,3,4,4,5,4,5,5,6,3,4,4,5,4,5,5,6,4,5,5,6,5,6,6,7,2,3,3,4,3,4,4,5,3,4,4,5,4,5,5,6,3,4,4,5,4,5,5,6,4,5,5,6,5,6,6,7,3,4,4,5,4,5,5,6,4,5,5,6,5,6,6,7,4,5,5,6,5,6,6,7,5,6,6,7,6,7,7,8]⟩:ByteArray)[(ee x0 (2^(min (24:Int).toNat (IntKind.bits .u32)))).toNat]? =some b1∧
 ((0:Int)≤(16:Int)∧
 Bd (IntKind.wrap .u32 (aj (IntKind.bits .u32) (ee x0 (2^(min (16:Int).toNat (IntKind.bits .u32))))&&&aj (IntKind.bits .u32) 255).toNat:Int) (fun n2=>
 ∃b3,(0:Int)≤n2∧(⟨#[0,1,1,2,1,2,2,3,1,2,2,3,2,3,3,4,1,2,2,3,2,3,3,4,2,3,3,4,3,4,4,5,1,2,2,3,2,3,3,4,2,3,3,4,3,4,4,5,2,3,3,4,3,4,4,5,3,4,4,5,4,5,5,6,1,2,2,3,2,3,3,4,2,3,3,4,3,4,4,5,2,3,3,4,3,4,4,5,3,4,4,5,4,5,5,6,2,3,3,4,3,4,4,5,3,4,4,5,4,5,5,6,3,4,4,5,4,5,5,6,4,5,5,6,5,6,6,7,1,2,2,3,2,3,3,4,2,3,3,4,3,4,4,5,2,3,3,4,3,4,4,5,3,4,4,5,4,5,5,6,2,3,3,4,3,4,4,5,3,4,4,5,4,5,5,6,3,4,4,5,4,5,5,6,4,5,5,6,5,6,6,7,2,3,3,4,3,4,4,5,3,4,4,5,4,5,5,6,3,4,4,5,4,5,5,6,4,5,5,6,5,6,6,7,3,4,4,5,4,5,5,6,4,5,5,6,5,6,6,7,4,5,5,6,5,6,6,7,5,6,6,7,6,7,7,8]⟩:ByteArray)[n2.toNat]? =some b3∧
 ((0:Int)≤(8:Int)∧
 Bd (IntKind.wrap .u32 (aj (IntKind.bits .u32) (ee x0 (2^(min (8:Int).toNat (IntKind.bits .u32))))&&&aj (IntKind.bits .u32) 255).toNat:Int) (fun n4=>
 ∃b5,(0:Int)≤n4∧(⟨#[0,1,1,2,1,2,2,3,1,2,2,3,2,3,3,4,1,2,2,3,2,3,3,4,2,3,3,4,3,4,4,5,1,2,2,3,2,3,3,4,2,3,3,4,3,4,4,5,2,3,3,4,3,4,4,5,3,4,4,5,4,5,5,6,1,2,2,3,2,3,3,4,2,3,3,4,3,4,4,5,2,3,3,4,3,4,4,5,3,4,4,5,4,5,5,6,2,3,3,4,3,4,4,5,3,4,4,5,4,5,5,6,3,4,4,5,4,5,5,6,4,5,5,6,5,6,6,7,1,2,2,3,2,3,3,4,2,3,3,4,3,4,4,5,2,3,3,4,3,4,4,5,3,4,4,5,4,5,5,6,2,3,3,4,3,4,4,5,3,4,4,5,4,5,5,6,3,4,4,5,4,5,5,6,4,5,5,6,5,6,6,7,2,3,3,4,3,4,4,5,3,4,4,5,4,5,5,6,3,4,4,5,4,5,5,6,4,5,5,6,5,6,6,7,3,4,4,5,4,5,5,6,4,5,5,6,5,6,6,7,4,5,5,6,5,6,6,7,5,6,6,7,6,7,7,8]⟩:ByteArray)[n4.toNat]? =some b5∧
 Bd (IntKind.wrap .u8 ((IntKind.wrap .u8 ((b1.toNat:Int)+(b3.toNat:Int)))+(b5.toNat:Int)):Int) (fun n6=>
 Bd (IntKind.wrap .u32 (aj (IntKind.bits .u32) x0&&&aj (IntKind.bits .u32) 255).toNat:Int) (fun n7=>
 ∃b8,(0:Int)≤n7∧(⟨#[0,1,1,2,1,2,2,3,1,2,2,3,2,3,3,4,1,2,2,3,2,3,3,4,2,3,3,4,3,4,4,5,1,2,2,3,2,3,3,4,2,3,3,4,3,4,4,5,2,3,3,4,3,4,4,5,3,4,4,5,4,5,5,6,1,2,2,3,2,3,3,4,2,3,3,4,3,4,4,5,2,3,3,4,3,4,4,5,3,4,4,5,4,5,5,6,2,3,3,4,3,4,4,5,3,4,4,5,4,5,5,6,3,4,4,5,4,5,5,6,4,5,5,6,5,6,6,7,1,2,2,3,2,3,3,4,2,3,3,4,3,4,4,5,2,3,3,4,3,4,4,5,3,4,4,5,4,5,5,6,2,3,3,4,3,4,4,5,3,4,4,5,4,5,5,6,3,4,4,5,4,5,5,6,4,5,5,6,5,6,6,7,2,3,3,4,3,4,4,5,3,4,4,5,4,5,5,6,3,4,4,5,4,5,5,6,4,5,5,6,5,6,6,7,3,4,4,5,4,5,5,6,4,5,5,6,5,6,6,7,4,5,5,6,5,6,6,7,5,6,6,7,6,7,7,8]⟩:ByteArray)[n7.toNat]? =some b8∧
 K (IntKind.wrap .i64 (IntKind.wrap .u8 (n6+(b8.toNat:Int)))) h0)))))))
theorem sd(x0:Int){K:cW cy→ad→Prop}{h0:ad}(h:ni x0 K h0):HC PG jD [.int .u32 x0] cy K h0:=ed .nil Tryz.func294 Tryz.call294 rfl rfl (by kernel_rfl) h
def su(x0:ByteArray×ByteArray×Bool)(x1:ByteArray)(K:(Bool)→ad→Prop)(h0:ad):Prop:=
 At (hnew h0 (Oj x0) na) (fun h1=>
 Join (fun(t5:Bool) h6=>
 CondP t5 (
 K true h6) (
 ∃v7,av h6 h0 0 v7∧
 CondP (Op.bytesLess x1.toList v7.toList) (
 ∃v8,av h6 h0 0 v8∧
 HC PG C8 (jx v8 x1) [.c .bool] (fun(e9:Bool) h10=>
 K (!e9) h10) h6) (
 K false h6))) (fun J2=>
 ∃v3,oz h1 h0 2 v3∧
 CondP (!v3) (
 ∃v4,av h1 h0 1 v4∧
 J2 (!(Op.bytesLess x1.toList v4.toList)) h1) (
 J2 false h1)))
noncomputable def zx:Ann:=.node .nil (.node (.join [(13,.c .bool)] .nil .nil) .nil)
theorem zm(x0:ByteArray×ByteArray×Bool)(x1:ByteArray){K:cW [.c .bool]→ad→Prop}{h0:ad}(h:su x0 x1 K h0):HC PG oC [OT x0,.string x1] [.c .bool] K h0:=ed zx Tryz.func296 Tryz.call296 rfl rfl (by kernel_rfl) h
def gG(x0:SliceV)(K:(Unit)→ad→Prop)(h0:ad):Prop:=
 LoopP (fun I1 (t2:Int×Int) h3=>
 CondP (decide (t2.1<t2.2)) (
 (dd t2.2 x0.len∧∃a4,x0.a=some a4∧
 ∃v5,tK h3 (adr a4 (t2.2.toNat*3)) 0 v5∧
 ∃v6,bC h3 (adr a4 (t2.2.toNat*3)) 1 v6∧
 ∃v7,ge h3 (adr a4 (t2.2.toNat*3)) 2 v7∧
 (dd t2.1 x0.len∧∃a8,x0.a=some a8∧
 ∃v9,tK h3 (adr a8 (t2.1.toNat*3)) 0 v9∧
 ∃v10,bC h3 (adr a8 (t2.1.toNat*3)) 1 v10∧
 ∃v11,ge h3 (adr a8 (t2.1.toNat*3)) 2 v11∧
 (dd t2.1 x0.len∧∃a12,x0.a=some a12∧
 (rt h3 (adr a12 (t2.1.toNat*3)) (CW v5 v6 v7) (fun h13=>
 (dd t2.2 x0.len∧∃a14,x0.a=some a14∧
 (rt h13 (adr a14 (t2.2.toNat*3)) (CW v9 v10 v11) (fun h15=>
 I1 (IntKind.wrap .i64 (t2.1+1),IntKind.wrap .i64 (t2.2-1)) h15))))))))) (
 K () h3)) (0,IntKind.wrap .i64 ((x0.len:Int)-1)) h0
noncomputable def lB:Ann:=.node .nil (.loop [(2,.c (.int .i64)),(3,.c (.int .i64))] .nil)
theorem lz(x0:SliceV){K:cW []→ad→Prop}{h0:ad}(h:gG x0 K h0):HC PG eR [.slice x0.a x0.len x0.cap] [] K h0:=ed lB Tryz.func297 Tryz.call297 rfl rfl (by kernel_rfl) h
def jc(x0:SliceV)(x1:Int)(x2:Int)(x3:Int)(x4:Value)(K:(Unit)→ad→Prop)(h0:ad):Prop:=
 LoopP (fun I1 (t2:Int×Int) h3=>
 CondP (t2.1 !=t2.2) (
 CondP (decide (t2.1>t2.2)) (
 HC PG di [.slice x0.a x0.len x0.cap,.int .i64 (IntKind.wrap .i64 (x2-t2.1)),.int .i64 x2,.int .i64 t2.2,x4] [] (fun(e4:Unit) h5=>
 I1 (IntKind.wrap .i64 (t2.1-t2.2),t2.2) h5) h3) (
 HC PG di [.slice x0.a x0.len x0.cap,.int .i64 (IntKind.wrap .i64 (x2-t2.1)),.int .i64 (IntKind.wrap .i64 ((IntKind.wrap .i64 (x2+t2.2))-t2.1)),.int .i64 t2.1,x4] [] (fun(e6:Unit) h7=>
 I1 (t2.1,IntKind.wrap .i64 (t2.2-t2.1)) h7) h3)) (
 HC PG di [.slice x0.a x0.len x0.cap,.int .i64 (IntKind.wrap .i64 (x2-t2.1)),.int .i64 x2,.int .i64 t2.1,x4] [] (fun(e8:Unit) h9=>
 K () h9) h3)) (IntKind.wrap .i64 (x2-x1),IntKind.wrap .i64 (x3-x2)) h0
noncomputable def nU:Ann:=.node .nil (.node .nil (.node (.loop [(10,.c (.int .i64)),(11,.c (.int .i64))] .nil) .nil))
theorem nO(x0:SliceV)(x1:Int)(x2:Int)(x3:Int)(x4:Value){K:cW []→ad→Prop}{h0:ad}(h:jc x0 x1 x2 x3 x4 K h0):HC PG fS [.slice x0.a x0.len x0.cap,.int .i64 x1,.int .i64 x2,.int .i64 x3,x4] [] K h0:=ed nU Tryz.func298 Tryz.call298 rfl rfl (by kernel_rfl) h
def ia(x0:SliceV)(x1:Int)(K:(SliceV)→ad→Prop)(h0:ad):Prop:=
 Join (fun(t2:Unit) h3=>
 Bd (IntKind.wrap .i64 (x1-(IntKind.wrap .i64 ((x0.cap:Int)-(x0.len:Int)))):Int) (fun n4=>
 CondP (decide (n4>(0:Int))) (
 (((0:Int)≤(x0.cap:Int)∧(x0.cap:Int)≤((x0.cap:Nat):Int))∧
 (((0:Int)≤n4∧n4*((32:Nat):Int)≤2^48∧n4≤9223372036854775807∧(((((x0.cap:Int).toNat)-0)+n4.toNat:Nat):Int)≤9223372036854775807)∧
 AppP (some kU) 2 32 ag (aY x0.a 0 x0.cap 2) (((x0.cap:Int).toNat)-0) (x0.cap-0) n4.toNat (dU n4.toNat kU) h3 (fun s5 h6=>
 (((0:Int)≤(x0.len:Int)∧(x0.len:Int)≤((s5.cap:Nat):Int))∧
 K ⟨aY s5.a 0 s5.cap 2,((x0.len:Int).toNat)-0,s5.cap-0⟩ h6))))) (
 K x0 h3))) (fun J1=>
 CondP (decide (x1<(0:Int))) (
 False) (
 J1 () h0))
noncomputable def mG:Ann:=.node .nil (.join [] .nil .nil)
theorem mD(x0:SliceV)(x1:Int){K:cW [.c .slice]→ad→Prop}{h0:ad}(h:ia x0 x1 K h0):HC PG fu (Rs x0 x1) [.c .slice] K h0:=ed mG Tryz.func299 Tryz.call299 rfl rfl (by kernel_rfl) h
def hP(x0:SliceV)(x1:Int)(x2:Int)(x3:Int)(x4:Value)(K:(Unit)→ad→Prop)(h0:ad):Prop:=
 LoopP (fun I1 (t2:Int) h3=>
 CondP (decide (t2<x3)) (
 (dd (IntKind.wrap .i64 (x2+t2)) x0.len∧∃a4,x0.a=some a4∧
 ∃v5,cf h3 (adr a4 ((IntKind.wrap .i64 (x2+t2)).toNat*2)) 0 (.string v5)∧
 ∃v6,cf h3 (adr a4 ((IntKind.wrap .i64 (x2+t2)).toNat*2)) 1 (.string v6)∧
 (dd (IntKind.wrap .i64 (x1+t2)) x0.len∧∃a7,x0.a=some a7∧
 ∃v8,cf h3 (adr a7 ((IntKind.wrap .i64 (x1+t2)).toNat*2)) 0 (.string v8)∧
 ∃v9,cf h3 (adr a7 ((IntKind.wrap .i64 (x1+t2)).toNat*2)) 1 (.string v9)∧
 (dd (IntKind.wrap .i64 (x1+t2)) x0.len∧∃a10,x0.a=some a10∧
 (rt h3 (adr a10 ((IntKind.wrap .i64 (x1+t2)).toNat*2)) (jx v5 v6) (fun h11=>
 (dd (IntKind.wrap .i64 (x2+t2)) x0.len∧∃a12,x0.a=some a12∧
 (rt h11 (adr a12 ((IntKind.wrap .i64 (x2+t2)).toNat*2)) (jx v8 v9) (fun h13=>
 I1 (IntKind.wrap .i64 (t2+1)) h13))))))))) (
 K () h3)) 0 h0
noncomputable def mF:Ann:=.node .nil (.loop [(10,.c (.int .i64))] .nil)
theorem mC(x0:SliceV)(x1:Int)(x2:Int)(x3:Int)(x4:Value){K:cW []→ad→Prop}{h0:ad}(h:hP x0 x1 x2 x3 x4 K h0):HC PG di [.slice x0.a x0.len x0.cap,.int .i64 x1,.int .i64 x2,.int .i64 x3,x4] [] K h0:=ed mF Tryz.func304 Tryz.call304 rfl rfl (by kernel_rfl) h
end Go.Proofs
