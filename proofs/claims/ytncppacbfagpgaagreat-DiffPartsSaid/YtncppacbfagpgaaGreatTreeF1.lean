/- A part of the proof that the named laws of this program answer true, whatever the input. -/
import Derived.Test.YtncppacbfagpgaaGreatTreeF
set_option maxRecDepth 100000
set_option linter.unusedVariables false
open BitVec renaming ofInt→aw
open Int renaming tdiv→ni,fdiv→db
open Nat renaming le_of_ble_eq_true→ad,min→dM
namespace Go.Proofs
open Go.Lift
def Eu(x0:Option Addr)(x1:Int)(K:(SliceV)→af→Prop)(h0:af):Prop:=
 HC PG jl [.pointer x0,.int .i64 x1] [.agg [.str,.str],.c .bool] (fun(e1:(ByteArray×ByteArray)×Bool) h2=>
 At (hnew h2 [.string (⟨#[]⟩:ByteArray),.string (⟨#[]⟩:ByteArray)] al) (fun h3=>
 (dq h3 (some (ag h2)) 0 [.string e1.1.1,.string e1.1.2]∧
 At (aX h3 (ag h2) 0 [.string e1.1.1,.string e1.1.2]) (fun h4=>
 CondP e1.2 (
 ∃v5,ae h4 (ag h2) 0 (.string v5)∧
 ∃v6,ae h4 (ag h2) 1 (.string v6)∧
 At (hnew h4 [.string v5,.string v6] al) (fun h7=>
 K ⟨some (ag h4),1,1⟩ h7)) (
 HC PG gK [.pointer x0,.int .i64 x1] [.c .ptr,.c .bool] (fun(e8:(Option Addr)×Bool) h9=>
 HC PG uI [.pointer e8.1] [.c .slice] (fun(e10:SliceV) h11=>
 K e10 h11) h9) h4))))) h0
noncomputable def Nd:Ann:=.nil
theorem MT(x0:Option Addr)(x1:Int){K:cD [.c .slice]→af→Prop}{h0:af}(h:Eu x0 x1 K h0):HC PG uc [.pointer x0,.int .i64 x1] [.c .slice] K h0:=HC.intro (an:=Nd) (c:=Tryz.f81.body.getD .skip) Tryz.mixed Tryz.func81 rfl Tryz.call81 (ad rfl) (cT (by kernel_rfl) h)
def uU(K:(Option Addr)→af→Prop)(h0:af):Prop:=
 HC PG nD [] [.c .ptr] (fun(e1:Option Addr) h2=>
 K e1 h2) h0
noncomputable def H6:Ann:=.nil
theorem y7{K:cD [.c .ptr]→af→Prop}{h0:af}(h:uU K h0):HC PG oB [] [.c .ptr] K h0:=HC.intro (an:=H6) (c:=Tryz.f82.body.getD .skip) Tryz.mixed Tryz.func82 rfl Tryz.call82 (ad rfl) (cT (by kernel_rfl) h)
def fO(x0:SliceV)(x1:Int)(x2:Int)(x3:Int)(x4:Value)(K:(Unit)→af→Prop)(h0:af):Prop:=
 LoopP (fun I1 (t2:Int×Int×Int×Bool×Bool) h3=>
 CondP (decide ((IntKind.wrap .i64 (t2.2.1-t2.1))≤(12:Int))) (
 HC PG de [.slice x0.a x0.len x0.cap,.int .i64 t2.1,.int .i64 t2.2.1,x4] [] (fun(e4:Unit) h5=>
 K () h5) h3) (
 CondP (t2.2.2.1==(0:Int)) (
 HC PG fx [.slice x0.a x0.len x0.cap,.int .i64 t2.1,.int .i64 t2.2.1,x4] [] (fun(e6:Unit) h7=>
 K () h7) h3) (
 Join (fun(t11:Int) h12=>
 HC PG eQ [.slice x0.a x0.len x0.cap,.int .i64 t2.1,.int .i64 t2.2.1,x4] [.c (.int .i64),.c (.int .i64)] (fun(e13:Int×Int) h14=>
 Join (fun(t19:Int×Int) h20=>
 Join (fun(t27:Unit) h28=>
 Join (fun(t44:Bool) h45=>
 CondP t44 (
 HC PG eo [.slice x0.a x0.len x0.cap,.int .i64 t2.1,.int .i64 t2.2.1,.int .i64 t19.1,x4] [.c (.int .i64)] (fun(e46:Int) h47=>
 I1 (e46,t2.2.1,t11,t2.2.2.2.1,t2.2.2.2.2) h47) h45) (
 HC PG fh [.slice x0.a x0.len x0.cap,.int .i64 t2.1,.int .i64 t2.2.1,.int .i64 t19.1,x4] [.c (.int .i64),.c .bool] (fun(e48:Int×Bool) h49=>
 ((8:Int)≠0∧
 CondP (decide ((IntKind.wrap .i64 (e48.1-t2.1))<(IntKind.wrap .i64 (t2.2.1-e48.1)))) (
 HC PG cZ [.slice x0.a x0.len x0.cap,.int .i64 t2.1,.int .i64 e48.1,.int .i64 t11,x4] [] (fun(e50:Unit) h51=>
 I1 (IntKind.wrap .i64 (e48.1+1),t2.2.1,t11,decide ((IntKind.wrap .i64 (e48.1-t2.1))≥(IntKind.wrap .i64 (ni (IntKind.wrap .i64 (t2.2.1-t2.1)) 8))),e48.2) h51) h49) (
 HC PG cZ [.slice x0.a x0.len x0.cap,.int .i64 (IntKind.wrap .i64 (e48.1+1)),.int .i64 t2.2.1,.int .i64 t11,x4] [] (fun(e52:Unit) h53=>
 I1 (t2.1,e48.1,t11,decide ((IntKind.wrap .i64 (t2.2.1-e48.1))≥(IntKind.wrap .i64 (ni (IntKind.wrap .i64 (t2.2.1-t2.1)) 8))),e48.2) h53) h49))) h45)) (fun J29=>
 CondP (decide (t2.1>(0:Int))) (
 (bS (IntKind.wrap .i64 (t2.1-1)) x0.len∧∃a30,x0.a=some a30∧
 ∃v31,ae h28 (adr a30 ((IntKind.wrap .i64 (t2.1-1)).toNat*5)) 0 (.string v31)∧
 ∃v32,ae h28 (adr a30 ((IntKind.wrap .i64 (t2.1-1)).toNat*5)) 1 (.string v32)∧
 ∃v33,ae h28 (adr a30 ((IntKind.wrap .i64 (t2.1-1)).toNat*5)) 2 (.string v33)∧
 ∃v34,ae h28 (adr a30 ((IntKind.wrap .i64 (t2.1-1)).toNat*5)) 3 (.bool v34)∧
 ∃v35,ae h28 (adr a30 ((IntKind.wrap .i64 (t2.1-1)).toNat*5)) 4 (.bool v35)∧
 (bS t19.1 x0.len∧∃a36,x0.a=some a36∧
 ∃v37,ae h28 (adr a36 (t19.1.toNat*5)) 0 (.string v37)∧
 ∃v38,ae h28 (adr a36 (t19.1.toNat*5)) 1 (.string v38)∧
 ∃v39,ae h28 (adr a36 (t19.1.toNat*5)) 2 (.string v39)∧
 ∃v40,ae h28 (adr a36 (t19.1.toNat*5)) 3 (.bool v40)∧
 ∃v41,ae h28 (adr a36 (t19.1.toNat*5)) 4 (.bool v41)∧
 HV PG x4 [.agg #[.string v31,.string v32,.string v33,.bool v34,.bool v35],.agg #[.string v37,.string v38,.string v39,.bool v40,.bool v41]] [.c (.int .i64)] (fun(e42:Int) h43=>
 J29 (!(decide (e42<(0:Int)))) h43) h28))) (
 J29 false h28))) (fun J21=>
 Join (fun(t23:Bool) h24=>
 CondP t23 (
 HC PG dw [.slice x0.a x0.len x0.cap,.int .i64 t2.1,.int .i64 t2.2.1,x4] [.c .bool] (fun(e25:Bool) h26=>
 CondP e25 (
 K () h26) (
 J21 () h26)) h24) (
 J21 () h24)) (fun J22=>
 CondP t2.2.2.2.1 (
 CondP t2.2.2.2.2 (
 J22 (t19.2==(1:Int)) h20) (
 J22 false h20)) (
 J22 false h20)))) (fun J15=>
 CondP (e13.2==(2:Int)) (
 HC PG eK [.slice x0.a x0.len x0.cap,.int .i64 t2.1,.int .i64 t2.2.1,x4] [] (fun(e16:Unit) h17=>
 Bd (IntKind.wrap .i64 ((IntKind.wrap .i64 (t2.2.1-1))-(IntKind.wrap .i64 (e13.1-t2.1))):Int) (fun n18=>
 J15 (n18,1) h17)) h14) (
 J15 (e13.1,e13.2) h14))) h12) (fun J8=>
 CondP (!t2.2.2.2.1) (
 HC PG eC [.slice x0.a x0.len x0.cap,.int .i64 t2.1,.int .i64 t2.2.1,x4] [] (fun(e9:Unit) h10=>
 J8 (IntKind.wrap .i64 (t2.2.2.1-1)) h10) h3) (
 J8 t2.2.2.1 h3))))) (x1,x2,x3,true,true) h0
noncomputable def oN:Ann:=.node .nil (.node .nil (.loop [(1,.c (.int .i64)),(2,.c (.int .i64)),(3,.c (.int .i64)),(10,.c .bool),(11,.c .bool)] (.node .nil (.node .nil (.node .nil (.join [(3,.c (.int .i64))] .nil (.node .nil (.join [(13,.c (.int .i64)),(14,.c (.int .i64))] .nil (.join [] (.join [(75,.c .bool)] .nil .nil) (.node (.join [(97,.c .bool)] .nil .nil) .nil))))))))))
theorem jg(x0:SliceV)(x1:Int)(x2:Int)(x3:Int)(x4:Value){K:cD []→af→Prop}{h0:af}(h:fO x0 x1 x2 x3 x4 K h0):HC PG cZ [.slice x0.a x0.len x0.cap,.int .i64 x1,.int .i64 x2,.int .i64 x3,x4] [] K h0:=HC.intro (an:=oN) (c:=Tryz.f83.body.getD .skip) Tryz.mixed Tryz.func83 rfl Tryz.call83 (ad rfl) (cT (by kernel_rfl) h)
def xb(x0:Int)(K:(Int)→af→Prop)(h0:af):Prop:=
 HC PG pY [.int .u64 x0] [.c (.int .i64)] (fun(e3:Int) h4=>
 K e3 h4) h0
noncomputable def EX:Ann:=.nil
theorem EN(x0:Int){K:cD [.c (.int .i64)]→af→Prop}{h0:af}(h:xb x0 K h0):HC PG oT [.int .u64 x0] [.c (.int .i64)] K h0:=HC.intro (an:=EX) (c:=Tryz.f84.body.getD .skip) Tryz.mixed Tryz.func84 rfl Tryz.call84 (ad rfl) (cT (by kernel_rfl) h)
def xe(x0:ByteArray)(K:(Bool)→af→Prop)(h0:af):Prop:=
 K (!(x0.toList==x0.toList)) h0
noncomputable def EZ:Ann:=.nil
theorem EP(x0:ByteArray){K:cD [.c .bool]→af→Prop}{h0:af}(h:xe x0 K h0):HC PG oU [.string x0] [.c .bool] K h0:=HC.intro (an:=EZ) (c:=Tryz.f85.body.getD .skip) Tryz.mixed Tryz.func85 rfl Tryz.call85 (ad rfl) (cT (by kernel_rfl) h)
def yb(x0:ByteArray×ByteArray×ByteArray×Bool×Bool)(K:(Bool)→af→Prop)(h0:af):Prop:=
 At (hnew h0 [.string x0.1,.string x0.2.1,.string x0.2.2.1,.bool x0.2.2.2.1,.bool x0.2.2.2.2] aO) (fun h1=>
 ∃v2,ae h1 (ag h0) 0 (.string v2)∧
 ∃v3,ae h1 (ag h0) 1 (.string v3)∧
 ∃v4,ae h1 (ag h0) 2 (.string v4)∧
 ∃v5,ae h1 (ag h0) 3 (.bool v5)∧
 ∃v6,ae h1 (ag h0) 4 (.bool v6)∧
 HC PG gD [.agg #[.string v2,.string v3,.string v4,.bool v5,.bool v6]] [.c .bool] (fun(e7:Bool) h8=>
 K (!e7) h8) h1)
noncomputable def G6:Ann:=.nil
theorem GG(x0:ByteArray×ByteArray×ByteArray×Bool×Bool){K:cD [.c .bool]→af→Prop}{h0:af}(h:yb x0 K h0):HC PG sQ [.agg #[.string x0.1,.string x0.2.1,.string x0.2.2.1,.bool x0.2.2.2.1,.bool x0.2.2.2.2]] [.c .bool] K h0:=HC.intro (an:=G6) (c:=Tryz.f86.body.getD .skip) Tryz.mixed Tryz.func86 rfl Tryz.call86 (ad rfl) (cT (by kernel_rfl) h)
def GU(x0:ByteArray)(x1:ByteArray)(K:(Bool)→af→Prop)(h0:af):Prop:=
 LoopP (fun I1 (t2:Int) h3=>
 Join (fun(t5:Bool) h6=>
 CondP t5 (
 ∃b7,(0:Int)≤t2∧x0[t2.toNat]? =some b7∧
 ∃b8,(0:Int)≤t2∧x1[t2.toNat]? =some b8∧
 CondP ((b7.toNat:Int) !=(b8.toNat:Int)) (
 ∃b9,(0:Int)≤t2∧x0[t2.toNat]? =some b9∧
 ∃b10,(0:Int)≤t2∧x1[t2.toNat]? =some b10∧
 K (decide ((b9.toNat:Int)<(b10.toNat:Int))) h6) (
 I1 (IntKind.wrap .i64 (t2+1)) h6)) (
 K (decide ((x0.size:Int)<(x1.size:Int))) h6)) (fun J4=>
 CondP (decide (t2<(x0.size:Int))) (
 J4 (decide (t2<(x1.size:Int))) h3) (
 J4 false h3))) 0 h0
noncomputable def Pl:Ann:=.node .nil (.node (.node .nil (.loop [(5,.c (.int .i64))] (.node (.join [(15,.c .bool)] .nil .nil) .nil))) .nil)
theorem O5(x0:ByteArray)(x1:ByteArray){K:cD [.c .bool]→af→Prop}{h0:af}(h:GU x0 x1 K h0):HC PG wA [.string x0,.string x1] [.c .bool] K h0:=HC.intro (an:=Pl) (c:=Tryz.f87.body.getD .skip) Tryz.mixed Tryz.func87 rfl Tryz.call87 (ad rfl) (cT (by kernel_rfl) h)
def gb(x0:SliceV)(x1:Value)(K:(Int)→af→Prop)(h0:af):Prop:=
 LoopP (fun I1 (t2:Int) h3=>
 CondP (decide (t2<(x0.len:Int))) (
 (bS t2 x0.len∧∃a4,x0.a=some a4∧
 ∃v5,ae h3 (adr a4 (t2.toNat*5)) 0 (.string v5)∧
 ∃v6,ae h3 (adr a4 (t2.toNat*5)) 1 (.string v6)∧
 ∃v7,ae h3 (adr a4 (t2.toNat*5)) 2 (.string v7)∧
 ∃v8,ae h3 (adr a4 (t2.toNat*5)) 3 (.bool v8)∧
 ∃v9,ae h3 (adr a4 (t2.toNat*5)) 4 (.bool v9)∧
 HV PG x1 [.agg #[.string v5,.string v6,.string v7,.bool v8,.bool v9]] [.c .bool] (fun(e10:Bool) h11=>
 CondP e10 (
 K t2 h11) (
 I1 (IntKind.wrap .i64 (t2+1)) h11)) h3)) (
 K (-1) h3)) 0 h0
noncomputable def kN:Ann:=.node .nil (.node (.node .nil (.loop [(8,.c (.int .i64))] .nil)) .nil)
theorem kM(x0:SliceV)(x1:Value){K:cD [.c (.int .i64)]→af→Prop}{h0:af}(h:gb x0 x1 K h0):HC PG fZ [.slice x0.a x0.len x0.cap,x1] [.c (.int .i64)] K h0:=HC.intro (an:=kN) (c:=Tryz.f88.body.getD .skip) Tryz.mixed Tryz.func88 rfl Tryz.call88 (ad rfl) (cT (by kernel_rfl) h)
def zg(x0:Option Addr)(K:(SliceV)→af→Prop)(h0:af):Prop:=
 CondP x0.isNone (
 K ⟨none,0,0⟩ h0) (
 HC PG ko [.pointer x0,.slice none 0 0] [.c .slice] (fun(e1:SliceV) h2=>
 K e1 h2) h0)
noncomputable def HZ:Ann:=.nil
theorem HG(x0:Option Addr){K:cD [.c .slice]→af→Prop}{h0:af}(h:zg x0 K h0):HC PG uL [.pointer x0] [.c .slice] K h0:=HC.intro (an:=HZ) (c:=Tryz.f89.body.getD .skip) Tryz.mixed Tryz.func89 rfl Tryz.call89 (ad rfl) (cT (by kernel_rfl) h)
def GS(x0:Option Addr)(K:(SliceV)→af→Prop)(h0:af):Prop:=
 CondP x0.isNone (
 K ⟨none,0,0⟩ h0) (
 HC PG tZ [.slice none 0 0,.pointer x0,.int .i64 0] [.c .slice] (fun(e1:SliceV) h2=>
 K e1 h2) h0)
noncomputable def Pi:Ann:=.nil
theorem O3(x0:Option Addr){K:cD [.c .slice]→af→Prop}{h0:af}(h:GS x0 K h0):HC PG zQ [.pointer x0] [.c .slice] K h0:=HC.intro (an:=Pi) (c:=Tryz.f90.body.getD .skip) Tryz.mixed Tryz.func90 rfl Tryz.call90 (ad rfl) (cT (by kernel_rfl) h)
def BM(x0:Option Addr)(K:(Option Addr)→af→Prop)(h0:af):Prop:=
 CondP x0.isNone (
 HC PG rc [] [.c .ptr] (fun(e1:Option Addr) h2=>
 K e1 h2) h0) (
 K x0 h0)
noncomputable def KP:Ann:=.nil
theorem KA(x0:Option Addr){K:cD [.c .ptr]→af→Prop}{h0:af}(h:BM x0 K h0):HC PG pU [.pointer x0] [.c .ptr] K h0:=HC.intro (an:=KP) (c:=Tryz.f91.body.getD .skip) Tryz.mixed Tryz.func91 rfl Tryz.call91 (ad rfl) (cT (by kernel_rfl) h)
def uq(x0:Option Addr)(x1:Int)(K:(Int×Bool)→af→Prop)(h0:af):Prop:=
 ∃a1,x0=some a1∧
 ∃v2:SliceV,ae h0 a1 3 (.slice v2.a v2.len v2.cap)∧
 HC PG dS [.slice v2.a v2.len v2.cap,.int .u8 x1,.func (.func nY) #[] #[]] [.c (.int .i64),.c .bool] (fun(e3:Int×Bool) h4=>
 K (e3.1,e3.2) h4) h0
noncomputable def B8:Ann:=.nil
theorem Bw(x0:Option Addr)(x1:Int){K:cD [.c (.int .i64),.c .bool]→af→Prop}{h0:af}(h:uq x0 x1 K h0):HC PG jM [.pointer x0,.int .u8 x1] [.c (.int .i64),.c .bool] K h0:=HC.intro (an:=B8) (c:=Tryz.f92.body.getD .skip) Tryz.mixed Tryz.func92 rfl Tryz.call92 (ad rfl) (cT (by kernel_rfl) h)
def GP(x0:ByteArray)(x1:ByteArray)(K:(ByteArray×Bool)→af→Prop)(h0:af):Prop:=
 HC PG uJ [.string x0,.string x1] [.c .bool] (fun(e1:Bool) h2=>
 CondP (!e1) (
 K ((⟨#[]⟩:ByteArray),false) h2) (
 (((0:Int)≤(x1.size:Int)∧(x1.size:Int)≤((x0.size:Nat):Int))∧
 K (x0.extract ((x1.size:Int).toNat) x0.size,true) h2))) h0
noncomputable def Pf:Ann:=.nil
theorem O0(x0:ByteArray)(x1:ByteArray){K:cD [.c .str,.c .bool]→af→Prop}{h0:af}(h:GP x0 x1 K h0):HC PG wt [.string x0,.string x1] [.c .str,.c .bool] K h0:=HC.intro (an:=Pf) (c:=Tryz.f93.body.getD .skip) Tryz.mixed Tryz.func93 rfl Tryz.call93 (ad rfl) (cT (by kernel_rfl) h)
def pq(x0:Option Addr)(K:(ByteArray×Bool)→af→Prop)(h0:af):Prop:=
 CondP x0.isNone (
 K ((⟨#[]⟩:ByteArray),false) h0) (
 ∃a1,x0=some a1∧
 ∃v2,ae h0 a1 2 (.string v2)∧
 ∃a3,x0=some a3∧
 ∃v4,ae h0 a3 1 (.bool v4)∧
 K (v2,v4) h0)
noncomputable def Ar:Ann:=.nil
theorem tl(x0:Option Addr){K:cD [.c .str,.c .bool]→af→Prop}{h0:af}(h:pq x0 K h0):HC PG ic [.pointer x0] [.c .str,.c .bool] K h0:=HC.intro (an:=Ar) (c:=Tryz.f94.body.getD .skip) Tryz.mixed Tryz.func94 rfl Tryz.call94 (ad rfl) (cT (by kernel_rfl) h)
def un(x0:Int×Int×Int)(x1:ByteArray)(K:(Int)→af→Prop)(h0:af):Prop:=
 At (hnew h0 [.int .u64 x0.1,.int .u64 x0.2.1,.int .u64 x0.2.2] cn) (fun h1=>
 ∃v2,ae h1 (adr (ag h0) 0) 0 (.int .u64 v2)∧
 ∃v3,ae h1 (adr (ag h0) 0) 1 (.int .u64 v3)∧
 ∃v4,ae h1 (ag h0) 2 (.int .u64 v4)∧
 HC PG CS [.agg #[.int .u64 v2,.int .u64 v3],.string x1] [.c (.int .u64)] (fun(e5:Int) h6=>
 (ae h6 (ag h0) 2 (.int .u64 v4)∧
 Bd (IntKind.wrap .u64 (aw (IntKind.bits .u64) e5&&&aw (IntKind.bits .u64) v4).toNat:Int) (fun n7=>
 K n7 h6))) h1)
noncomputable def B6:Ann:=.nil
theorem Bu(x0:Int×Int×Int)(x1:ByteArray){K:cD [.c (.int .u64)]→af→Prop}{h0:af}(h:un x0 x1 K h0):HC PG fE [.agg #[.int .u64 x0.1,.int .u64 x0.2.1,.int .u64 x0.2.2],.string x1] [.c (.int .u64)] K h0:=HC.intro (an:=B6) (c:=Tryz.f95.body.getD .skip) Tryz.mixed Tryz.func95 rfl Tryz.call95 (ad rfl) (cT (by kernel_rfl) h)
def BU(x0:Option Addr)(K:(Option Addr)→af→Prop)(h0:af):Prop:=
 CondP x0.isNone (
 HC PG oB [] [.c .ptr] (fun(e1:Option Addr) h2=>
 K e1 h2) h0) (
 K x0 h0)
noncomputable def KZ:Ann:=.nil
theorem KI(x0:Option Addr){K:cD [.c .ptr]→af→Prop}{h0:af}(h:BU x0 K h0):HC PG lu [.pointer x0] [.c .ptr] K h0:=HC.intro (an:=KZ) (c:=Tryz.f96.body.getD .skip) Tryz.mixed Tryz.func96 rfl Tryz.call96 (ad rfl) (cT (by kernel_rfl) h)
def G3(x0:Option Addr)(x1:ByteArray)(K:(ByteArray×Bool)→af→Prop)(h0:af):Prop:=
 HC PG eO [.pointer x0] [.c .slice] (fun(e1:SliceV) h2=>
 HC PG ry [.slice e1.a e1.len e1.cap,.string x1] [.c (.int .i64),.c .bool] (fun(e3:Int×Bool) h4=>
 CondP (!e3.2) (
 K ((⟨#[]⟩:ByteArray),false) h4) (
 (bS e3.1 e1.len∧∃a5,e1.a=some a5∧
 ∃v6,ae h4 (adr a5 (e3.1.toNat*2)) 1 (.string v6)∧
 K (v6,true) h4))) h2) h0
noncomputable def Ps:Ann:=.nil
theorem Pb(x0:Option Addr)(x1:ByteArray){K:cD [.c .str,.c .bool]→af→Prop}{h0:af}(h:G3 x0 x1 K h0):HC PG qK [.pointer x0,.string x1] [.c .str,.c .bool] K h0:=HC.intro (an:=Ps) (c:=Tryz.f97.body.getD .skip) Tryz.mixed Tryz.func97 rfl Tryz.call97 (ad rfl) (cT (by kernel_rfl) h)
def GZ(x0:Int)(x1:Int)(K:(Int)→af→Prop)(h0:af):Prop:=
 Join (fun(t2:Bool) h3=>
 CondP t2 (
 K 0 h3) (
 ((0:Int)≤(IntKind.wrap .i64 (5*x1))∧
 Bd (db x0 (2^(min (IntKind.wrap .i64 (5*x1):Int).toNat (IntKind.bits .u64))):Int) (fun n4=>
 Bd (IntKind.wrap .u64 (aw (IntKind.bits .u64) n4&&&aw (IntKind.bits .u64) 31).toNat:Int) (fun n5=>
 K (IntKind.wrap .i64 n5) h3))))) (fun J1=>
 CondP (decide (x1<(0:Int))) (
 J1 true h0) (
 J1 (decide (x1≥(13:Int))) h0))
noncomputable def Pq:Ann:=.node .nil (.node (.join [(10,.c .bool)] .nil .nil) .nil)
theorem Pa(x0:Int)(x1:Int){K:cD [.c (.int .i64)]→af→Prop}{h0:af}(h:GZ x0 x1 K h0):HC PG lr [.int .u64 x0,.int .i64 x1] [.c (.int .i64)] K h0:=HC.intro (an:=Pq) (c:=Tryz.f98.body.getD .skip) Tryz.mixed Tryz.func98 rfl Tryz.call98 (ad rfl) (cT (by kernel_rfl) h)
def vH(x0:Option Addr)(x1:Int)(K:((ByteArray×ByteArray)×Bool)→af→Prop)(h0:af):Prop:=
 At (hnew h0 [.string (⟨#[]⟩:ByteArray),.string (⟨#[]⟩:ByteArray)] al) (fun h1=>
 HC PG nC [.pointer x0] [.c (.int .u32)] (fun(e2:Int) h3=>
 HC PG ga [.int .u32 e2,.int .i64 x1] [.c .bool] (fun(e4:Bool) h5=>
 CondP (!e4) (
 (dq h5 (some (ag h0)) 0 [.string (⟨#[]⟩:ByteArray),.string (⟨#[]⟩:ByteArray)]∧
 At (aX h5 (ag h0) 0 [.string (⟨#[]⟩:ByteArray),.string (⟨#[]⟩:ByteArray)]) (fun h6=>
 ∃v7,ae h6 (ag h0) 0 (.string v7)∧
 ∃v8,ae h6 (ag h0) 1 (.string v8)∧
 K ((v7,v8),false) h6))) (
 ∃a9,x0=some a9∧
 ∃v10:SliceV,ae h5 (adr a9 0) 2 (.slice v10.a v10.len v10.cap)∧
 ∃a11,x0=some a11∧
 ∃v12,ae h5 (adr a11 0) 0 (.int .u32 v12)∧
 HC PG df [.int .u32 v12,.int .i64 x1] [.c (.int .i64)] (fun(e13:Int) h14=>
 (ae h14 (adr a9 0) 2 (.slice v10.a v10.len v10.cap)∧
 (bS e13 v10.len∧∃a15,v10.a=some a15∧
 ∃v16,ae h14 (adr a15 (e13.toNat*2)) 0 (.string v16)∧
 ∃v17,ae h14 (adr a15 (e13.toNat*2)) 1 (.string v17)∧
 (dq h14 (some (ag h0)) 0 [.string v16,.string v17]∧
 At (aX h14 (ag h0) 0 [.string v16,.string v17]) (fun h18=>
 ∃v19,ae h18 (ag h0) 0 (.string v19)∧
 ∃v20,ae h18 (ag h0) 1 (.string v20)∧
 K ((v19,v20),true) h18))))) h5)) h3) h1)
noncomputable def Dy:Ann:=.nil
theorem Dl(x0:Option Addr)(x1:Int){K:cD [.agg [.str,.str],.c .bool]→af→Prop}{h0:af}(h:vH x0 x1 K h0):HC PG jl [.pointer x0,.int .i64 x1] [.agg [.str,.str],.c .bool] K h0:=HC.intro (an:=Dy) (c:=Tryz.f99.body.getD .skip) Tryz.mixed Tryz.func99 rfl Tryz.call99 (ad rfl) (cT (by kernel_rfl) h)
def y8(x0:Option Addr)(K:(SliceV)→af→Prop)(h0:af):Prop:=
 HC PG zP [.pointer x0] [.c .raw] (fun(e1:Value) h2=>
 HC PG ju [e1] [.c .slice] (fun(e3:SliceV) h4=>
 HC PG oz [.slice e3.a e3.len e3.cap] [.c .slice] (fun(e5:SliceV) h6=>
 K e5 h6) h4) h2) h0
noncomputable def HS:Ann:=.nil
theorem Hz(x0:Option Addr){K:cD [.c .slice]→af→Prop}{h0:af}(h:y8 x0 K h0):HC PG uI [.pointer x0] [.c .slice] K h0:=HC.intro (an:=HS) (c:=Tryz.f102.body.getD .skip) Tryz.mixed Tryz.func102 rfl Tryz.call102 (ad rfl) (cT (by kernel_rfl) h)
def zh(K:(Option Addr)→af→Prop)(h0:af):Prop:=
 At (hnew h0 [.string (⟨#[]⟩:ByteArray),.bool false,.string (⟨#[]⟩:ByteArray),.slice none 0 0,.pointer none] bM) (fun h1=>
 K (some (ag h0)) h1)
noncomputable def H0:Ann:=.nil
theorem HH{K:cD [.c .ptr]→af→Prop}{h0:af}(h:zh K h0):HC PG rc [] [.c .ptr] K h0:=HC.intro (an:=H0) (c:=Tryz.f104.body.getD .skip) Tryz.mixed Tryz.func104 rfl Tryz.call104 (ad rfl) (cT (by kernel_rfl) h)
def zj(x0:SliceV)(K:(SliceV)→af→Prop)(h0:af):Prop:=
 HC PG cC [.slice x0.a x0.len x0.cap] [.c .slice] (fun(e1:SliceV) h2=>
 HC PG dH [.slice e1.a e1.len e1.cap,.func (.func rR) #[] #[]] [] (fun(e3:Unit) h4=>
 LoopP (fun I5 (t6:Int×Int) h7=>
 CondP (decide (t6.2<(e1.len:Int))) (
 Join (fun(t24:Int) h25=>
 I5 (t24,IntKind.wrap .i64 (t6.2+1)) h25) (fun J8=>
 (bS t6.2 e1.len∧∃a9,e1.a=some a9∧
 ∃v10,ae h7 (adr a9 (t6.2.toNat*2)) 0 (.string v10)∧
 ∃v11,ae h7 (adr a9 (t6.2.toNat*2)) 1 (.string v11)∧
 At (hnew h7 [.string (⟨#[]⟩:ByteArray),.string (⟨#[]⟩:ByteArray)] al) (fun h12=>
 (dq h12 (some (ag h7)) 0 [.string v10,.string v11]∧
 At (aX h12 (ag h7) 0 [.string v10,.string v11]) (fun h13=>
 Join (fun(t18:Bool) h19=>
 CondP t18 (
 J8 t6.1 h19) (
 ∃v20,ae h19 (ag h7) 0 (.string v20)∧
 ∃v21,ae h19 (ag h7) 1 (.string v21)∧
 (bS t6.1 e1.len∧∃a22,e1.a=some a22∧
 (dq h19 (some (adr a22 (t6.1.toNat*2))) 0 [.string v20,.string v21]∧
 At (aX h19 (adr a22 (t6.1.toNat*2)) 0 [.string v20,.string v21]) (fun h23=>
 J8 (IntKind.wrap .i64 (t6.1+1)) h23))))) (fun J14=>
 CondP (decide ((IntKind.wrap .i64 (t6.2+1))<(e1.len:Int))) (
 (bS (IntKind.wrap .i64 (t6.2+1)) e1.len∧∃a15,e1.a=some a15∧
 ∃v16,ae h13 (adr a15 ((IntKind.wrap .i64 (t6.2+1)).toNat*2)) 0 (.string v16)∧
 ∃v17,ae h13 (ag h7) 0 (.string v17)∧
 J14 (v16.toList==v17.toList) h13)) (
 J14 false h13)))))))) (
 (((0:Int)≤t6.1∧t6.1≤((e1.cap:Nat):Int))∧
 K ⟨aM e1.a 0 e1.cap 2,t6.1.toNat-0,e1.cap-0⟩ h7))) (0,0) h4) h2) h0
noncomputable def H2:Ann:=.node .nil (.node .nil (.node .nil (.node .nil (.node (.node .nil (.loop [(4,.c (.int .i64)),(13,.c (.int .i64))] (.node .nil (.node .nil (.join [(4,.c (.int .i64))] (.node .nil (.node (.join [(33,.c .bool)] .nil .nil) .nil)) .nil))))) .nil))))
theorem HJ(x0:SliceV){K:cD [.c .slice]→af→Prop}{h0:af}(h:zj x0 K h0):HC PG oz [.slice x0.a x0.len x0.cap] [.c .slice] K h0:=HC.intro (an:=H2) (c:=Tryz.f105.body.getD .skip) Tryz.mixed Tryz.func105 rfl Tryz.call105 (ad rfl) (cT (by kernel_rfl) h)
def BN(x0:ByteArray)(x1:Bool)(x2:ByteArray)(x3:SliceV)(K:(Option Addr)→af→Prop)(h0:af):Prop:=
 At (hnew h0 [.string x0,.bool x1,.string (⟨#[]⟩:ByteArray),.slice none 0 0,.pointer none] bM) (fun h1=>
 Join (fun(t5:Unit) h6=>
 LoopP (fun I7 (t8:Int) h9=>
 CondP (decide (t8<(x3.len:Int))) (
 Join (fun(t21:Unit) h22=>
 I7 (IntKind.wrap .i64 (t8+1)) h22) (fun J10=>
 (bS t8 x3.len∧∃a11,x3.a=some a11∧
 ∃v12,ae h9 a11 (t8.toNat*1) (.pointer v12)∧
 CondP (!(v12.isNone)) (
 ∃a13,some (ag h0)=some a13∧
 ∃v14:SliceV,ae h9 a13 3 (.slice v14.a v14.len v14.cap)∧
 At (hnew h9 [.pointer v12] aR) (fun h15=>
 ∃xs16,SRow h15 (some (ag h9)) (1*1) xs16∧
 AppP (some [.pointer none]) 1 8 aR v14.a v14.len v14.cap 1 xs16 h15 (fun s17 h18=>
 ∃a19,some (ag h0)=some a19∧
 (Wr h18 (adr a19 3)∧
 At (hset h18 (adr a19 3) (.slice s17.a s17.len s17.cap)) (fun h20=>
 J10 () h20))))) (
 J10 () h9)))) (
 K (some (ag h0)) h9)) 0 h6) (fun J2=>
 CondP x1 (
 ∃a3,some (ag h0)=some a3∧
 (Wr h1 (adr a3 2)∧
 At (hset h1 (adr a3 2) (.string x2)) (fun h4=>
 J2 () h4))) (
 J2 () h1)))
noncomputable def KQ:Ann:=.node .nil (.node .nil (.join [] .nil (.node (.node .nil (.loop [(23,.c (.int .i64))] (.node .nil (.node .nil (.join [] .nil .nil))))) .nil)))
theorem KB(x0:ByteArray)(x1:Bool)(x2:ByteArray)(x3:SliceV){K:cD [.c .ptr]→af→Prop}{h0:af}(h:BN x0 x1 x2 x3 K h0):HC PG sw [.string x0,.bool x1,.string x2,.slice x3.a x3.len x3.cap] [.c .ptr] K h0:=HC.intro (an:=KQ) (c:=Tryz.f106.body.getD .skip) Tryz.mixed Tryz.func106 rfl Tryz.call106 (ad rfl) (cT (by kernel_rfl) h)
def BW(x0:SliceV)(x1:Int)(K:(SliceV)→af→Prop)(h0:af):Prop:=
 At (hnew h0 [.int .i64 x1] ri) (fun h1=>
 LoopP (fun I2 (t3:SliceV×SliceV) h4=>
 CondP (decide ((t3.1.len:Int)>(0:Int))) (
 (bS 0 t3.1.len∧∃a5,t3.1.a=some a5∧
 ∃v6,ae h4 (adr a5 ((0:Int).toNat*2)) 0 (.string v6)∧
 ∃v7,aL h4 (ag h0)=some (.int .i64 v7)∧
 ∃b8,(0:Int)≤v7∧v6[v7.toNat]? =some b8∧
 At (hnew h4 [.int .u8 0] eZ) (fun h9=>
 (aL h9 (ag h0)=some (.int .i64 v7)∧
 (ae h9 (adr a5 ((0:Int).toNat*2)) 0 (.string v6)∧
 (Wr h9 (ag h4)∧
 At (hset h9 (ag h4) (.int .u8 (b8.toNat:Int))) (fun h10=>
 HC PG eM [.slice t3.1.a t3.1.len t3.1.cap,.func (.func xR) #[] #[.pointer (some (ag h0)),.pointer (some (ag h4))]] [.c (.int .i64)] (fun(e11:Int) h12=>
 Join (fun(t14:Int) h15=>
 Join (fun(t24:SliceV) h25=>
 (((0:Int)≤t14∧t14≤((t3.1.len:Nat):Int))∧
 I2 (⟨aM t3.1.a t14.toNat t3.1.cap 2,t3.1.len-t14.toNat,t3.1.cap-t14.toNat⟩,t24) h25)) (fun J16=>
 (((0:Int)≤t14∧t14≤((t3.1.cap:Nat):Int))∧
 ∃v17,aL h15 (ag h0)=some (.int .i64 v17)∧
 HC PG sX [.slice (aM t3.1.a 0 t3.1.cap 2) (t14.toNat-0) (t3.1.cap-0),.int .i64 v17] [.c .ptr] (fun(e18:Option Addr) h19=>
 At (hnew h19 [.pointer e18] aR) (fun h20=>
 ∃xs21,SRow h20 (some (ag h19)) (1*1) xs21∧
 AppP (some [.pointer none]) 1 8 aR t3.2.a t3.2.len t3.2.cap 1 xs21 h20 (fun s22 h23=>
 J16 s22 h23))) h15))) (fun J13=>
 CondP (decide (e11<(0:Int))) (
 J13 (t3.1.len:Int) h12) (
 J13 e11 h12))) h10))))))) (
 K t3.2 h4)) (x0,⟨none,0,0⟩) h1)
noncomputable def K5:Ann:=.node .nil (.node .nil (.node (.loop [(0,.c .slice),(5,.c .slice)] (.node .nil (.node .nil (.node .nil (.join [(7,.c (.int .i64))] .nil (.join [(5,.c .slice)] .nil .nil)))))) .nil))
theorem KK(x0:SliceV)(x1:Int){K:cD [.c .slice]→af→Prop}{h0:af}(h:BW x0 x1 K h0):HC PG sy [.slice x0.a x0.len x0.cap,.int .i64 x1] [.c .slice] K h0:=HC.intro (an:=K5) (c:=Tryz.f107.body.getD .skip) Tryz.mixed Tryz.func107 rfl Tryz.call107 (ad rfl) (cT (by kernel_rfl) h)
def wO(x0:SliceV)(x1:Int)(K:(Option Addr)→af→Prop)(h0:af):Prop:=
 At (hnew h0 [.int .i64 x1] ri) (fun h1=>
 ∃v2,aL h1 (ag h0)=some (.int .i64 v2)∧
 CondP (v2==(13:Int)) (
 HC PG re [] [.c .ptr] (fun(e3:Option Addr) h4=>
 LoopP (fun I5 (t6:(Option Addr)×Int) h7=>
 CondP (decide (t6.2<(x0.len:Int))) (
 (bS t6.2 x0.len∧∃a8,x0.a=some a8∧
 ∃v9,ae h7 (adr a8 (t6.2.toNat*3)) 0 (.string v9)∧
 ∃v10,ae h7 (adr a8 (t6.2.toNat*3)) 1 (.string v10)∧
 ∃v11,ae h7 (adr a8 (t6.2.toNat*3)) 2 (.int .u64 v11)∧
 At (hnew h7 [.string (⟨#[]⟩:ByteArray),.string (⟨#[]⟩:ByteArray),.int .u64 0] aQ) (fun h12=>
 (dq h12 (some (ag h7)) 0 [.string v9,.string v10,.int .u64 v11]∧
 At (aX h12 (ag h7) 0 [.string v9,.string v10,.int .u64 v11]) (fun h13=>
 ∃v14,ae h13 (adr (ag h7) 0) 0 (.string v14)∧
 ∃v15,ae h13 (adr (ag h7) 0) 1 (.string v15)∧
 HC PG iT [.pointer t6.1,.pointer none,.agg #[.string v14,.string v15]] [.c .ptr] (fun(e16:Option Addr) h17=>
 I5 (e16,IntKind.wrap .i64 (t6.2+1)) h17) h13))))) (
 K t6.1 h7)) (e3,0) h4) h1) (
 At (hnew h1 [Value.nilFunc] pz) (fun h18=>
 (Wr h18 (ag h1)∧
 At (hset h18 (ag h1) (.func (.func sW) #[] #[.pointer (some (ag h0))])) (fun h19=>
 HC PG ey [.slice x0.a x0.len x0.cap] [.c .slice] (fun(e20:SliceV) h21=>
 HC PG dd [.slice e20.a e20.len e20.cap,.func (.func sS) #[] #[.pointer (some (ag h1))]] [] (fun(e22:Unit) h23=>
 HC PG nD [] [.c .ptr] (fun(e24:Option Addr) h25=>
 LoopP (fun I26 (t27:SliceV×(Option Addr)) h28=>
 CondP (decide ((t27.1.len:Int)>(0:Int))) (
 ∃v29,aL h28 (ag h1)=some (v29)∧
 (bS 0 t27.1.len∧∃a30,t27.1.a=some a30∧
 ∃v31,ae h28 (adr a30 ((0:Int).toNat*3)) 0 (.string v31)∧
 ∃v32,ae h28 (adr a30 ((0:Int).toNat*3)) 1 (.string v32)∧
 ∃v33,ae h28 (adr a30 ((0:Int).toNat*3)) 2 (.int .u64 v33)∧
 ((HV PG v29 [.agg #[.string v31,.string v32,.int .u64 v33]] [.c (.int .i64)] (fun(e34:Int) h35=>
 At (hnew h35 [.int .i64 0] ri) (fun h36=>
 (Wr h36 (ag h35)∧
 At (hset h36 (ag h35) (.int .i64 e34)) (fun h37=>
 HC PG cM [.slice t27.1.a t27.1.len t27.1.cap,.func (.func sR) #[] #[.pointer (some (ag h1)),.pointer (some (ag h35))]] [.c (.int .i64)] (fun(e38:Int) h39=>
 Join (fun(t41:Int) h42=>
 Join (fun(t56:Option Addr) h57=>
 (((0:Int)≤t41∧t41≤((t27.1.len:Nat):Int))∧
 I26 (⟨aM t27.1.a t41.toNat t27.1.cap 3,t27.1.len-t41.toNat,t27.1.cap-t41.toNat⟩,t56) h57)) (fun J43=>
 CondP (t41==(1:Int)) (
 ∃v44,aL h42 (ag h35)=some (.int .i64 v44)∧
 (bS 0 t27.1.len∧∃a45,t27.1.a=some a45∧
 ∃v46,ae h42 (adr (adr a45 ((0:Int).toNat*3)) 0) 0 (.string v46)∧
 ∃v47,ae h42 (adr (adr a45 ((0:Int).toNat*3)) 0) 1 (.string v47)∧
 HC PG dK [.pointer t27.2,.pointer none,.int .i64 v44,.agg #[.string v46,.string v47]] [.c .ptr] (fun(e48:Option Addr) h49=>
 J43 e48 h49) h42)) (
 ∃v50,aL h42 (ag h35)=some (.int .i64 v50)∧
 (((0:Int)≤t41∧t41≤((t27.1.cap:Nat):Int))∧
 ∃v51,aL h42 (ag h0)=some (.int .i64 v51)∧
 HC PG p4 [.slice (aM t27.1.a 0 t27.1.cap 3) (t41.toNat-0) (t27.1.cap-0),.int .i64 (IntKind.wrap .i64 (v51+1))] [.c .ptr] (fun(e52:Option Addr) h53=>
 (aL h53 (ag h0)=some (.int .i64 v51)∧
 (aL h53 (ag h35)=some (.int .i64 v50)∧
 HC PG fc [.pointer t27.2,.pointer none,.int .i64 v50,.pointer e52] [.c .ptr] (fun(e54:Option Addr) h55=>
 (aL h55 (ag h0)=some (.int .i64 v51)∧
 J43 e54 h55)) h53))) h42)))) (fun J40=>
 CondP (decide (e38<(0:Int))) (
 J40 (t27.1.len:Int) h39) (
 J40 e38 h39))) h37)))) h28)∧
 At (hnew h28 [.int .i64 0] ri) (fun h58=>
 ((ae h58 (adr a30 ((0:Int).toNat*3)) 0 (.string v31)∧ae h58 (adr a30 ((0:Int).toNat*3)) 1 (.string v32)∧ae h58 (adr a30 ((0:Int).toNat*3)) 2 (.int .u64 v33))∧
 (aL h58 (ag h1)=some (v29)∧
 HV PG v29 [.agg #[.string v31,.string v32,.int .u64 v33]] [.c (.int .i64)] (fun(e59:Int) h60=>
 (Wr h60 (ag h28)∧
 At (hset h60 (ag h28) (.int .i64 e59)) (fun h61=>
 HC PG cM [.slice t27.1.a t27.1.len t27.1.cap,.func (.func sR) #[] #[.pointer (some (ag h1)),.pointer (some (ag h28))]] [.c (.int .i64)] (fun(e62:Int) h63=>
 Join (fun(t65:Int) h66=>
 Join (fun(t80:Option Addr) h81=>
 (((0:Int)≤t65∧t65≤((t27.1.len:Nat):Int))∧
 I26 (⟨aM t27.1.a t65.toNat t27.1.cap 3,t27.1.len-t65.toNat,t27.1.cap-t65.toNat⟩,t80) h81)) (fun J67=>
 CondP (t65==(1:Int)) (
 ∃v68,aL h66 (ag h28)=some (.int .i64 v68)∧
 (bS 0 t27.1.len∧∃a69,t27.1.a=some a69∧
 ∃v70,ae h66 (adr (adr a69 ((0:Int).toNat*3)) 0) 0 (.string v70)∧
 ∃v71,ae h66 (adr (adr a69 ((0:Int).toNat*3)) 0) 1 (.string v71)∧
 HC PG dK [.pointer t27.2,.pointer none,.int .i64 v68,.agg #[.string v70,.string v71]] [.c .ptr] (fun(e72:Option Addr) h73=>
 J67 e72 h73) h66)) (
 ∃v74,aL h66 (ag h28)=some (.int .i64 v74)∧
 (((0:Int)≤t65∧t65≤((t27.1.cap:Nat):Int))∧
 ∃v75,aL h66 (ag h0)=some (.int .i64 v75)∧
 HC PG p4 [.slice (aM t27.1.a 0 t27.1.cap 3) (t65.toNat-0) (t27.1.cap-0),.int .i64 (IntKind.wrap .i64 (v75+1))] [.c .ptr] (fun(e76:Option Addr) h77=>
 (aL h77 (ag h0)=some (.int .i64 v75)∧
 (aL h77 (ag h28)=some (.int .i64 v74)∧
 HC PG fc [.pointer t27.2,.pointer none,.int .i64 v74,.pointer e76] [.c .ptr] (fun(e78:Option Addr) h79=>
 (aL h79 (ag h0)=some (.int .i64 v75)∧
 J67 e78 h79)) h77))) h66)))) (fun J64=>
 CondP (decide (e62<(0:Int))) (
 J64 (t27.1.len:Int) h63) (
 J64 e62 h63))) h61))) h58)))))) (
 K t27.2 h28)) (e20,e24) h25) h23) h21) h19)))))
noncomputable def K4:Ann:=.node .nil (.node (.node .nil (.node (.node .nil (.node (.node .nil (.loop [(5,.c .ptr),(17,.c (.int .i64))] .nil)) .nil)) .nil)) (.node .nil (.node .nil (.node .nil (.node .nil (.node (.loop [(0,.c .slice),(9,.c .ptr)] (.node .nil (.node .nil (.node .nil (.join [(11,.c (.int .i64))] .nil (.join [(9,.c .ptr)] .nil .nil)))))) .nil))))))
theorem BK(x0:SliceV)(x1:Int){K:cD [.c .ptr]→af→Prop}{h0:af}(h:wO x0 x1 K h0):HC PG p4 [.slice x0.a x0.len x0.cap,.int .i64 x1] [.c .ptr] K h0:=HC.intro (an:=K4) (c:=Tryz.f108.body.getD .skip) Tryz.mixed Tryz.func108 rfl Tryz.call108 (ad rfl) (cT (by kernel_rfl) h)
def vF(x0:Option Addr)(x1:Option Addr)(x2:ByteArray)(x3:ByteArray)(K:((Option Addr)×Bool×Bool)→af→Prop)(h0:af):Prop:=
 CondP (x2.toList==(⟨#[]⟩:ByteArray).toList) (
 Join (fun(t6:Bool) h7=>
 CondP t6 (
 K (x0,false,false) h7) (
 ∃a8,x0=some a8∧
 ∃v9,ae h7 a8 1 (.bool v9)∧
 HC PG dT [.pointer x0,.pointer x1] [.c .ptr] (fun(e10:Option Addr) h11=>
 (ae h11 a8 1 (.bool v9)∧
 HC PG km [.pointer e10,.string x3] [.c .ptr] (fun(e12:Option Addr) h13=>
 (ae h13 a8 1 (.bool v9)∧
 K (e12, !v9,true) h13)) h11)) h7)) (fun J1=>
 ∃a2,x0=some a2∧
 ∃v3,ae h0 a2 1 (.bool v3)∧
 CondP v3 (
 ∃a4,x0=some a4∧
 ∃v5,ae h0 a4 2 (.string v5)∧
 J1 (v5.toList==x3.toList) h0) (
 J1 false h0))) (
 ∃b14,(0:Int)≤(0:Int)∧x2[(0:Int).toNat]? =some b14∧
 HC PG jM [.pointer x0,.int .u8 (b14.toNat:Int)] [.c (.int .i64),.c .bool] (fun(e15:Int×Bool) h16=>
 CondP (!e15.2) (
 HC PG dT [.pointer x0,.pointer x1] [.c .ptr] (fun(e17:Option Addr) h18=>
 ∃a19,e17=some a19∧
 ∃v20:SliceV,ae h18 a19 3 (.slice v20.a v20.len v20.cap)∧
 HC PG uK [.pointer x1,.string x2,.string x3] [.c .ptr] (fun(e21:Option Addr) h22=>
 (ae h22 a19 3 (.slice v20.a v20.len v20.cap)∧
 At (hnew h22 [.pointer e21] aR) (fun h23=>
 (ae h23 a19 3 (.slice v20.a v20.len v20.cap)∧
 HC PG dY [.slice v20.a v20.len v20.cap,.int .i64 e15.1,.slice (some (ag h22)) 1 1] [.c .slice] (fun(e24:SliceV) h25=>
 ∃a26,e17=some a26∧
 (Wr h25 (adr a26 3)∧
 At (hset h25 (adr a26 3) (.slice e24.a e24.len e24.cap)) (fun h27=>
 K (e17,true,true) h27))) h23)))) h18) h16) (
 ∃a28,x0=some a28∧
 ∃v29:SliceV,ae h16 a28 3 (.slice v29.a v29.len v29.cap)∧
 (bS e15.1 v29.len∧∃a30,v29.a=some a30∧
 ∃v31,ae h16 a30 (e15.1.toNat*1) (.pointer v31)∧
 ∃a32,v31=some a32∧
 ∃v33,ae h16 a32 0 (.string v33)∧
 HC PG qZ [.string x2,.string v33] [.c (.int .i64)] (fun(e34:Int) h35=>
 Join (fun(t41:Option Addr) h42=>
 (((0:Int)≤e34∧e34≤((x2.size:Nat):Int))∧
 HC PG ny [.pointer t41,.pointer x1,.string (x2.extract e34.toNat x2.size),.string x3] [.c .ptr,.c .bool,.c .bool] (fun(e43:(Option Addr)×Bool×Bool) h44=>
 CondP (!e43.2.2) (
 K (x0,false,false) h44) (
 HC PG dT [.pointer x0,.pointer x1] [.c .ptr] (fun(e45:Option Addr) h46=>
 ∃a47,e45=some a47∧
 ∃v48:SliceV,ae h46 a47 3 (.slice v48.a v48.len v48.cap)∧
 (bS e15.1 v48.len∧∃a49,v48.a=some a49∧
 (Wr h46 (adr a49 (e15.1.toNat*1))∧
 At (hset h46 (adr a49 (e15.1.toNat*1)) (.pointer e43.1)) (fun h50=>
 K (e45,e43.2.1,true) h50)))) h44)) h42)) (fun J36=>
 ∃a37,v31=some a37∧
 ∃v38,ae h35 a37 0 (.string v38)∧
 CondP (decide (e34<(v38.size:Int))) (
 HC PG pg [.pointer v31,.pointer x1,.int .i64 e34] [.c .ptr] (fun(e39:Option Addr) h40=>
 J36 e39 h40) h35) (
 J36 v31 h35))) h16))) h0)
noncomputable def Dw:Ann:=.node .nil (.node (.node .nil (.node (.node (.join [(33,.c .bool)] .nil .nil) .nil) .nil)) (.node .nil (.node .nil (.node .nil (.node .nil (.join [(14,.c .ptr)] .nil .nil))))))
theorem Dj(x0:Option Addr)(x1:Option Addr)(x2:ByteArray)(x3:ByteArray){K:cD [.c .ptr,.c .bool,.c .bool]→af→Prop}{h0:af}(h:vF x0 x1 x2 x3 K h0):HC PG ny [.pointer x0,.pointer x1,.string x2,.string x3] [.c .ptr,.c .bool,.c .bool] K h0:=HC.intro (an:=Dw) (c:=Tryz.f109.body.getD .skip) Tryz.mixed Tryz.func109 rfl Tryz.call109 (ad rfl) (cT (by kernel_rfl) h)
def qS(x0:Int×Int×Int×(Option Addr)×ByteArray×Int)(x1:Option Addr)(x2:ByteArray×ByteArray)(x3:Int)(K:((Option Addr)×Bool×Bool)→af→Prop)(h0:af):Prop:=
 At (hnew h0 [.int .u64 x0.1,.int .u64 x0.2.1,.int .u64 x0.2.2.1,.pointer x0.2.2.2.1,.string x0.2.2.2.2.1,.int .u64 x0.2.2.2.2.2] cI) (fun h1=>
 At (hnew h1 [.string x2.1,.string x2.2] al) (fun h2=>
 HC PG dy [.pointer x1] [.c .bool] (fun(e3:Bool) h4=>
 CondP e3 (
 ∃v5,ae h4 (ag h1) 0 (.string v5)∧
 HC PG qK [.pointer x1,.string v5] [.c .str,.c .bool] (fun(e6:ByteArray×Bool) h7=>
 Join (fun(t10:Bool) h11=>
 CondP t10 (
 K (x1,false,false) h11) (
 ∃v12,ae h11 (ag h0) 3 (.pointer v12)∧
 ∃v13,ae h11 (ag h1) 0 (.string v13)∧
 ∃v14,ae h11 (ag h1) 1 (.string v14)∧
 HC PG iT [.pointer x1,.pointer v12,.agg #[.string v13,.string v14]] [.c .ptr] (fun(e15:Option Addr) h16=>
 K (e15, !e6.2,true) h16) h11)) (fun J8=>
 CondP e6.2 (
 ∃v9,ae h7 (ag h1) 1 (.string v9)∧
 J8 (e6.1.toList==v9.toList) h7) (
 J8 false h7))) h4) (
 ∃v17,ae h4 (ag h0) 5 (.int .u64 v17)∧
 HC PG lr [.int .u64 v17,.int .i64 x3] [.c (.int .i64)] (fun(e18:Int) h19=>
 HC PG jl [.pointer x1,.int .i64 e18] [.agg [.str,.str],.c .bool] (fun(e20:(ByteArray×ByteArray)×Bool) h21=>
 At (hnew h21 [.string (⟨#[]⟩:ByteArray),.string (⟨#[]⟩:ByteArray)] al) (fun h22=>
 (dq h22 (some (ag h21)) 0 [.string e20.1.1,.string e20.1.2]∧
 At (aX h22 (ag h21) 0 [.string e20.1.1,.string e20.1.2]) (fun h23=>
 CondP e20.2 (
 ∃v24,ae h23 (ag h21) 0 (.string v24)∧
 ∃v25,ae h23 (ag h21) 1 (.string v25)∧
 ∃v26,ae h23 (ag h1) 0 (.string v26)∧
 ∃v27,ae h23 (ag h1) 1 (.string v27)∧
 CondP ((v24.toList==v26.toList)&&((v25.toList==v27.toList)&&true)) (
 K (x1,false,false) h23) (
 ∃v28,ae h23 (ag h21) 0 (.string v28)∧
 ∃v29,ae h23 (ag h1) 0 (.string v29)∧
 CondP (v28.toList==v29.toList) (
 ∃v30,ae h23 (ag h0) 3 (.pointer v30)∧
 ∃v31,ae h23 (ag h1) 0 (.string v31)∧
 ∃v32,ae h23 (ag h1) 1 (.string v32)∧
 HC PG dK [.pointer x1,.pointer v30,.int .i64 e18,.agg #[.string v31,.string v32]] [.c .ptr] (fun(e33:Option Addr) h34=>
 K (e33,false,true) h34) h23) (
 ∃v35,ae h23 (ag h0) 3 (.pointer v35)∧
 ∃v36,ae h23 (ag h0) 0 (.int .u64 v36)∧
 ∃v37,ae h23 (ag h0) 1 (.int .u64 v37)∧
 ∃v38,ae h23 (ag h0) 2 (.int .u64 v38)∧
 ∃v39,ae h23 (ag h0) 3 (.pointer v39)∧
 ∃v40,ae h23 (ag h0) 4 (.string v40)∧
 ∃v41,ae h23 (ag h0) 5 (.int .u64 v41)∧
 ∃v42,ae h23 (ag h21) 0 (.string v42)∧
 ∃v43,ae h23 (ag h21) 1 (.string v43)∧
 ∃v44,ae h23 (ag h1) 0 (.string v44)∧
 ∃v45,ae h23 (ag h1) 1 (.string v45)∧
 HC PG mB [.agg #[.int .u64 v36,.int .u64 v37,.int .u64 v38,.pointer v39,.string v40,.int .u64 v41],.agg #[.string v42,.string v43],.agg #[.string v44,.string v45],.int .i64 (IntKind.wrap .i64 (x3+1))] [.c .ptr] (fun(e46:Option Addr) h47=>
 (ae h47 (ag h0) 3 (.pointer v35)∧
 HC PG fc [.pointer x1,.pointer v35,.int .i64 e18,.pointer e46] [.c .ptr] (fun(e48:Option Addr) h49=>
 K (e48,true,true) h49) h47)) h23))) (
 HC PG gK [.pointer x1,.int .i64 e18] [.c .ptr,.c .bool] (fun(e50:(Option Addr)×Bool) h51=>
 CondP (!e50.2) (
 ∃v52,ae h51 (ag h0) 3 (.pointer v52)∧
 ∃v53,ae h51 (ag h1) 0 (.string v53)∧
 ∃v54,ae h51 (ag h1) 1 (.string v54)∧
 HC PG dK [.pointer x1,.pointer v52,.int .i64 e18,.agg #[.string v53,.string v54]] [.c .ptr] (fun(e55:Option Addr) h56=>
 K (e55,true,true) h56) h51) (
 ∃v57,ae h51 (ag h0) 0 (.int .u64 v57)∧
 ∃v58,ae h51 (ag h0) 1 (.int .u64 v58)∧
 ∃v59,ae h51 (ag h0) 2 (.int .u64 v59)∧
 ∃v60,ae h51 (ag h0) 3 (.pointer v60)∧
 ∃v61,ae h51 (ag h0) 4 (.string v61)∧
 ∃v62,ae h51 (ag h0) 5 (.int .u64 v62)∧
 ∃v63,ae h51 (ag h1) 0 (.string v63)∧
 ∃v64,ae h51 (ag h1) 1 (.string v64)∧
 HC PG jm [.agg #[.int .u64 v57,.int .u64 v58,.int .u64 v59,.pointer v60,.string v61,.int .u64 v62],.pointer e50.1,.agg #[.string v63,.string v64],.int .i64 (IntKind.wrap .i64 (x3+1))] [.c .ptr,.c .bool,.c .bool] (fun(e65:(Option Addr)×Bool×Bool) h66=>
 CondP (!e65.2.2) (
 K (x1,false,false) h66) (
 ∃v67,ae h66 (ag h0) 3 (.pointer v67)∧
 HC PG fc [.pointer x1,.pointer v67,.int .i64 e18,.pointer e65.1] [.c .ptr] (fun(e68:Option Addr) h69=>
 K (e68,e65.2.1,true) h69) h66)) h51)) h23))))) h19) h4)) h2))
noncomputable def DH:Ann:=.node .nil (.node (.node .nil (.node (.node .nil (.node (.join [(36,.c .bool)] .nil .nil) .nil)) .nil)) .nil)
theorem vA(x0:Int×Int×Int×(Option Addr)×ByteArray×Int)(x1:Option Addr)(x2:ByteArray×ByteArray)(x3:Int){K:cD [.c .ptr,.c .bool,.c .bool]→af→Prop}{h0:af}(h:qS x0 x1 x2 x3 K h0):HC PG jm [.agg #[.int .u64 x0.1,.int .u64 x0.2.1,.int .u64 x0.2.2.1,.pointer x0.2.2.2.1,.string x0.2.2.2.2.1,.int .u64 x0.2.2.2.2.2],.pointer x1,.agg #[.string x2.1,.string x2.2],.int .i64 x3] [.c .ptr,.c .bool,.c .bool] K h0:=HC.intro (an:=DH) (c:=Tryz.f110.body.getD .skip) Tryz.mixed Tryz.func110 rfl Tryz.call110 (ad rfl) (cT (by kernel_rfl) h)
def ur(x0:Option Addr)(x1:Option Addr)(x2:ByteArray)(K:((Option Addr)×Bool)→af→Prop)(h0:af):Prop:=
 CondP (x2.toList==(⟨#[]⟩:ByteArray).toList) (
 ∃a1,x0=some a1∧
 ∃v2,ae h0 a1 1 (.bool v2)∧
 CondP (!v2) (
 K (x0,false) h0) (
 HC PG dT [.pointer x0,.pointer x1] [.c .ptr] (fun(e3:Option Addr) h4=>
 ∃a5,e3=some a5∧
 (Wr h4 (adr a5 1)∧
 At (hset h4 (adr a5 1) (.bool false)) (fun h6=>
 ∃a7,e3=some a7∧
 (Wr h6 (adr a7 2)∧
 At (hset h6 (adr a7 2) (.string (⟨#[]⟩:ByteArray))) (fun h8=>
 K (e3,true) h8))))) h0)) (
 ∃b9,(0:Int)≤(0:Int)∧x2[(0:Int).toNat]? =some b9∧
 HC PG jM [.pointer x0,.int .u8 (b9.toNat:Int)] [.c (.int .i64),.c .bool] (fun(e10:Int×Bool) h11=>
 CondP (!e10.2) (
 K (x0,false) h11) (
 ∃a12,x0=some a12∧
 ∃v13:SliceV,ae h11 a12 3 (.slice v13.a v13.len v13.cap)∧
 (bS e10.1 v13.len∧∃a14,v13.a=some a14∧
 ∃v15,ae h11 a14 (e10.1.toNat*1) (.pointer v15)∧
 ∃a16,v15=some a16∧
 ∃v17,ae h11 a16 0 (.string v17)∧
 HC PG wt [.string x2,.string v17] [.c .str,.c .bool] (fun(e18:ByteArray×Bool) h19=>
 CondP (!e18.2) (
 K (x0,false) h19) (
 ∃a20,x0=some a20∧
 ∃v21:SliceV,ae h19 a20 3 (.slice v21.a v21.len v21.cap)∧
 (bS e10.1 v21.len∧∃a22,v21.a=some a22∧
 ∃v23,ae h19 a22 (e10.1.toNat*1) (.pointer v23)∧
 HC PG mw [.pointer v23,.pointer x1,.string e18.1] [.c .ptr,.c .bool] (fun(e24:(Option Addr)×Bool) h25=>
 CondP (!e24.2) (
 K (x0,false) h25) (
 HC PG dT [.pointer x0,.pointer x1] [.c .ptr] (fun(e26:Option Addr) h27=>
 HC PG pV [.pointer e24.1,.pointer x1] [.c .ptr] (fun(e28:Option Addr) h29=>
 CondP e28.isNone (
 ∃a30,e26=some a30∧
 ∃v31:SliceV,ae h29 a30 3 (.slice v31.a v31.len v31.cap)∧
 HC PG dZ [.slice v31.a v31.len v31.cap,.int .i64 e10.1,.int .i64 (IntKind.wrap .i64 (e10.1+1))] [.c .slice] (fun(e32:SliceV) h33=>
 ∃a34,e26=some a34∧
 (Wr h33 (adr a34 3)∧
 At (hset h33 (adr a34 3) (.slice e32.a e32.len e32.cap)) (fun h35=>
 K (e26,true) h35))) h29) (
 ∃a36,e26=some a36∧
 ∃v37:SliceV,ae h29 a36 3 (.slice v37.a v37.len v37.cap)∧
 (bS e10.1 v37.len∧∃a38,v37.a=some a38∧
 (Wr h29 (adr a38 (e10.1.toNat*1))∧
 At (hset h29 (adr a38 (e10.1.toNat*1)) (.pointer e28)) (fun h39=>
 K (e26,true) h39))))) h27) h25)) h19))) h11))) h0)
noncomputable def B9:Ann:=.nil
theorem Bx(x0:Option Addr)(x1:Option Addr)(x2:ByteArray){K:cD [.c .ptr,.c .bool]→af→Prop}{h0:af}(h:ur x0 x1 x2 K h0):HC PG mw [.pointer x0,.pointer x1,.string x2] [.c .ptr,.c .bool] K h0:=HC.intro (an:=B9) (c:=Tryz.f111.body.getD .skip) Tryz.mixed Tryz.func111 rfl Tryz.call111 (ad rfl) (cT (by kernel_rfl) h)
def qc(x0:Int×Int×Int×(Option Addr)×ByteArray×Int)(x1:Option Addr)(x2:Int)(K:((Option Addr)×Bool)→af→Prop)(h0:af):Prop:=
 At (hnew h0 [.int .u64 x0.1,.int .u64 x0.2.1,.int .u64 x0.2.2.1,.pointer x0.2.2.2.1,.string x0.2.2.2.2.1,.int .u64 x0.2.2.2.2.2] cI) (fun h1=>
 HC PG dy [.pointer x1] [.c .bool] (fun(e2:Bool) h3=>
 CondP e2 (
 ∃v4,ae h3 (ag h0) 4 (.string v4)∧
 HC PG qK [.pointer x1,.string v4] [.c .str,.c .bool] (fun(e5:ByteArray×Bool) h6=>
 CondP (!e5.2) (
 K (x1,false) h6) (
 ∃v7,ae h6 (ag h0) 3 (.pointer v7)∧
 ∃v8,ae h6 (ag h0) 4 (.string v8)∧
 HC PG qJ [.pointer x1,.pointer v7,.string v8] [.c .ptr] (fun(e9:Option Addr) h10=>
 K (e9,true) h10) h6)) h3) (
 ∃v11,ae h3 (ag h0) 5 (.int .u64 v11)∧
 HC PG lr [.int .u64 v11,.int .i64 x2] [.c (.int .i64)] (fun(e12:Int) h13=>
 HC PG jl [.pointer x1,.int .i64 e12] [.agg [.str,.str],.c .bool] (fun(e14:(ByteArray×ByteArray)×Bool) h15=>
 At (hnew h15 [.string (⟨#[]⟩:ByteArray),.string (⟨#[]⟩:ByteArray)] al) (fun h16=>
 (dq h16 (some (ag h15)) 0 [.string e14.1.1,.string e14.1.2]∧
 At (aX h16 (ag h15) 0 [.string e14.1.1,.string e14.1.2]) (fun h17=>
 CondP e14.2 (
 ∃v18,ae h17 (ag h15) 0 (.string v18)∧
 ∃v19,ae h17 (ag h0) 4 (.string v19)∧
 CondP (!(v18.toList==v19.toList)) (
 K (x1,false) h17) (
 ∃v20,ae h17 (ag h0) 3 (.pointer v20)∧
 HC PG my [.pointer x1,.pointer v20,.int .i64 e12] [.c .ptr] (fun(e21:Option Addr) h22=>
 K (e21,true) h22) h17)) (
 HC PG gK [.pointer x1,.int .i64 e12] [.c .ptr,.c .bool] (fun(e23:(Option Addr)×Bool) h24=>
 CondP (!e23.2) (
 K (x1,false) h24) (
 ∃v25,ae h24 (ag h0) 0 (.int .u64 v25)∧
 ∃v26,ae h24 (ag h0) 1 (.int .u64 v26)∧
 ∃v27,ae h24 (ag h0) 2 (.int .u64 v27)∧
 ∃v28,ae h24 (ag h0) 3 (.pointer v28)∧
 ∃v29,ae h24 (ag h0) 4 (.string v29)∧
 ∃v30,ae h24 (ag h0) 5 (.int .u64 v30)∧
 HC PG mA [.agg #[.int .u64 v25,.int .u64 v26,.int .u64 v27,.pointer v28,.string v29,.int .u64 v30],.pointer e23.1,.int .i64 (IntKind.wrap .i64 (x2+1))] [.c .ptr,.c .bool] (fun(e31:(Option Addr)×Bool) h32=>
 CondP (!e31.2) (
 K (x1,false) h32) (
 HC PG uN [.pointer e31.1] [.agg [.str,.str],.c .bool] (fun(e33:(ByteArray×ByteArray)×Bool) h34=>
 At (hnew h34 [.string (⟨#[]⟩:ByteArray),.string (⟨#[]⟩:ByteArray)] al) (fun h35=>
 (dq h35 (some (ag h34)) 0 [.string e33.1.1,.string e33.1.2]∧
 At (aX h35 (ag h34) 0 [.string e33.1.1,.string e33.1.2]) (fun h36=>
 CondP e33.2 (
 ∃v37,ae h36 (ag h0) 3 (.pointer v37)∧
 ∃v38,ae h36 (ag h34) 0 (.string v38)∧
 ∃v39,ae h36 (ag h34) 1 (.string v39)∧
 HC PG dK [.pointer x1,.pointer v37,.int .i64 e12,.agg #[.string v38,.string v39]] [.c .ptr] (fun(e40:Option Addr) h41=>
 K (e40,true) h41) h36) (
 ∃v42,ae h36 (ag h0) 3 (.pointer v42)∧
 HC PG fc [.pointer x1,.pointer v42,.int .i64 e12,.pointer e31.1] [.c .ptr] (fun(e43:Option Addr) h44=>
 K (e43,true) h44) h36))))) h32)) h24)) h17))))) h13) h3)) h1)
noncomputable def Cn:Ann:=.nil
theorem ui(x0:Int×Int×Int×(Option Addr)×ByteArray×Int)(x1:Option Addr)(x2:Int){K:cD [.c .ptr,.c .bool]→af→Prop}{h0:af}(h:qc x0 x1 x2 K h0):HC PG mA [.agg #[.int .u64 x0.1,.int .u64 x0.2.1,.int .u64 x0.2.2.1,.pointer x0.2.2.2.1,.string x0.2.2.2.2.1,.int .u64 x0.2.2.2.2.2],.pointer x1,.int .i64 x2] [.c .ptr,.c .bool] K h0:=HC.intro (an:=Cn) (c:=Tryz.f112.body.getD .skip) Tryz.mixed Tryz.func112 rfl Tryz.call112 (ad rfl) (cT (by kernel_rfl) h)
def GV(x0:SliceV)(x1:ByteArray)(K:(Int×Bool)→af→Prop)(h0:af):Prop:=
 LoopP (fun I1 (t2:Int) h3=>
 Join (fun(t9:Bool) h10=>
 CondP t9 (
 I1 (IntKind.wrap .i64 (t2+1)) h10) (
 CondP (decide (t2<(x0.len:Int))) (
 (bS t2 x0.len∧∃a11,x0.a=some a11∧
 ∃v12,ae h10 (adr a11 (t2.toNat*2)) 0 (.string v12)∧
 K (t2,v12.toList==x1.toList) h10)) (
 K (t2,false) h10))) (fun J4=>
 CondP (decide (t2<(x0.len:Int))) (
 (bS t2 x0.len∧∃a5,x0.a=some a5∧
 ∃v6,ae h3 (adr a5 (t2.toNat*2)) 0 (.string v6)∧
 HC PG wA [.string v6,.string x1] [.c .bool] (fun(e7:Bool) h8=>
 J4 e7 h8) h3)) (
 J4 false h3))) 0 h0
noncomputable def Pm:Ann:=.node .nil (.node .nil (.node (.loop [(6,.c (.int .i64))] (.node (.join [(19,.c .bool)] .nil .nil) .nil)) .nil))
theorem O6(x0:SliceV)(x1:ByteArray){K:cD [.c (.int .i64),.c .bool]→af→Prop}{h0:af}(h:GV x0 x1 K h0):HC PG zS [.slice x0.a x0.len x0.cap,.string x1] [.c (.int .i64),.c .bool] K h0:=HC.intro (an:=Pm) (c:=Tryz.f113.body.getD .skip) Tryz.mixed Tryz.func113 rfl Tryz.call113 (ad rfl) (cT (by kernel_rfl) h)
def gr(x0:SliceV)(K:(SliceV)→af→Prop)(h0:af):Prop:=
 CondP x0.a.isNone (
 K ⟨none,0,0⟩ h0) (
 At (hnew h0 [] aR) (fun h1=>
 ∃xs2,SRow h1 x0.a (x0.len*1) xs2∧
 AppP (some [.pointer none]) 1 8 aR (some (ag h0)) 0 0 x0.len xs2 h1 (fun s3 h4=>
 K s3 h4)))
noncomputable def lI:Ann:=.nil
theorem lC(x0:SliceV){K:cD [.c .slice]→af→Prop}{h0:af}(h:gr x0 K h0):HC PG cV [.slice x0.a x0.len x0.cap] [.c .slice] K h0:=HC.intro (an:=lI) (c:=Tryz.f114.body.getD .skip) Tryz.mixed Tryz.func114 rfl Tryz.call114 (ad rfl) (cT (by kernel_rfl) h)
def iY(x0:SliceV)(K:(SliceV)→af→Prop)(h0:af):Prop:=
 CondP x0.a.isNone (
 K ⟨none,0,0⟩ h0) (
 At (hnew h0 [] al) (fun h1=>
 ∃xs2,SRow h1 x0.a (x0.len*2) xs2∧
 AppP (some [.string (⟨#[]⟩:ByteArray),.string (⟨#[]⟩:ByteArray)]) 2 32 al (some (ag h0)) 0 0 x0.len xs2 h1 (fun s3 h4=>
 K s3 h4)))
noncomputable def oh:Ann:=.nil
theorem oc(x0:SliceV){K:cD [.c .slice]→af→Prop}{h0:af}(h:iY x0 K h0):HC PG cC [.slice x0.a x0.len x0.cap] [.c .slice] K h0:=HC.intro (an:=oh) (c:=Tryz.f115.body.getD .skip) Tryz.mixed Tryz.func115 rfl Tryz.call115 (ad rfl) (cT (by kernel_rfl) h)
def ux(x0:Option Addr)(K:(Int)→af→Prop)(h0:af):Prop:=
 CondP x0.isNone (
 K 0 h0) (
 ∃a1,x0=some a1∧
 ∃v2,ae h0 (adr a1 0) 1 (.int .u32 v2)∧
 K v2 h0)
noncomputable def Cf:Ann:=.nil
theorem BD(x0:Option Addr){K:cD [.c (.int .u32)]→af→Prop}{h0:af}(h:ux x0 K h0):HC PG jQ [.pointer x0] [.c (.int .u32)] K h0:=HC.intro (an:=Cf) (c:=Tryz.f116.body.getD .skip) Tryz.mixed Tryz.func116 rfl Tryz.call116 (ad rfl) (cT (by kernel_rfl) h)
def vL(x0:Int)(x1:Int)(K:(Bool)→af→Prop)(h0:af):Prop:=
 HC PG oA [.int .i64 x1] [.c .bool] (fun(e1:Bool) h2=>
 CondP e1 (
 ((0:Int)≤x1∧
 Bd (IntKind.wrap .u32 (aw (IntKind.bits .u32) (db x0 (2^(min (x1:Int).toNat (IntKind.bits .u32))))&&&aw (IntKind.bits .u32) 1).toNat:Int) (fun n3=>
 K (n3==(1:Int)) h2))) (
 K false h2)) h0
noncomputable def DG:Ann:=.nil
theorem Dq(x0:Int)(x1:Int){K:cD [.c .bool]→af→Prop}{h0:af}(h:vL x0 x1 K h0):HC PG ga [.int .u32 x0,.int .i64 x1] [.c .bool] K h0:=HC.intro (an:=DG) (c:=Tryz.f117.body.getD .skip) Tryz.mixed Tryz.func117 rfl Tryz.call117 (ad rfl) (cT (by kernel_rfl) h)
def uD(x0:Int)(x1:Int)(K:(Int)→af→Prop)(h0:af):Prop:=
 CondP (decide (x1≤(0:Int))) (
 K 0 h0) (
 CondP (decide (x1≥(32:Int))) (
 HC PG pj [.int .u32 x0] [.c (.int .i64)] (fun(e1:Int) h2=>
 K e1 h2) h0) (
 ((0:Int)≤x1∧
 Bd (IntKind.wrap .u32 ((IntKind.wrap .u32 (1*2^(min (x1:Int).toNat (IntKind.bits .u32))))-1):Int) (fun n3=>
 Bd (IntKind.wrap .u32 (aw (IntKind.bits .u32) x0&&&aw (IntKind.bits .u32) n3).toNat:Int) (fun n4=>
 HC PG pj [.int .u32 n4] [.c (.int .i64)] (fun(e5:Int) h6=>
 K e5 h6) h0)))))
noncomputable def Cm:Ann:=.nil
theorem BJ(x0:Int)(x1:Int){K:cD [.c (.int .i64)]→af→Prop}{h0:af}(h:uD x0 x1 K h0):HC PG df [.int .u32 x0,.int .i64 x1] [.c (.int .i64)] K h0:=HC.intro (an:=Cm) (c:=Tryz.f118.body.getD .skip) Tryz.mixed Tryz.func118 rfl Tryz.call118 (ad rfl) (cT (by kernel_rfl) h)
def BR(K:(Option Addr)→af→Prop)(h0:af):Prop:=
 At (hnew h0 [.int .u32 0,.int .u32 0,.slice none 0 0,.slice none 0 0,.bool false,.pointer none] bw) (fun h1=>
 K (some (ag h0)) h1)
noncomputable def KV:Ann:=.nil
theorem KF{K:cD [.c .ptr]→af→Prop}{h0:af}(h:BR K h0):HC PG nD [] [.c .ptr] K h0:=HC.intro (an:=KV) (c:=Tryz.f119.body.getD .skip) Tryz.mixed Tryz.func119 rfl Tryz.call119 (ad rfl) (cT (by kernel_rfl) h)
def eG(x0:SliceV)(x1:Int)(x2:Int)(x3:Value)(K:(Unit)→af→Prop)(h0:af):Prop:=
 LoopP (fun I1 (t2:Int) h3=>
 CondP (decide (t2<x2)) (
 LoopP (fun I4 (t5:Int) h6=>
 Join (fun(t22:Bool) h23=>
 CondP t22 (
 (bS (IntKind.wrap .i64 (t5-1)) x0.len∧∃a24,x0.a=some a24∧
 ∃v25,ae h23 (adr a24 ((IntKind.wrap .i64 (t5-1)).toNat*5)) 0 (.string v25)∧
 ∃v26,ae h23 (adr a24 ((IntKind.wrap .i64 (t5-1)).toNat*5)) 1 (.string v26)∧
 ∃v27,ae h23 (adr a24 ((IntKind.wrap .i64 (t5-1)).toNat*5)) 2 (.string v27)∧
 ∃v28,ae h23 (adr a24 ((IntKind.wrap .i64 (t5-1)).toNat*5)) 3 (.bool v28)∧
 ∃v29,ae h23 (adr a24 ((IntKind.wrap .i64 (t5-1)).toNat*5)) 4 (.bool v29)∧
 (bS t5 x0.len∧∃a30,x0.a=some a30∧
 ∃v31,ae h23 (adr a30 (t5.toNat*5)) 0 (.string v31)∧
 ∃v32,ae h23 (adr a30 (t5.toNat*5)) 1 (.string v32)∧
 ∃v33,ae h23 (adr a30 (t5.toNat*5)) 2 (.string v33)∧
 ∃v34,ae h23 (adr a30 (t5.toNat*5)) 3 (.bool v34)∧
 ∃v35,ae h23 (adr a30 (t5.toNat*5)) 4 (.bool v35)∧
 (bS t5 x0.len∧∃a36,x0.a=some a36∧
 (dq h23 (some (adr a36 (t5.toNat*5))) 0 [.string v25,.string v26,.string v27,.bool v28,.bool v29]∧
 At (aX h23 (adr a36 (t5.toNat*5)) 0 [.string v25,.string v26,.string v27,.bool v28,.bool v29]) (fun h37=>
 (bS (IntKind.wrap .i64 (t5-1)) x0.len∧∃a38,x0.a=some a38∧
 (dq h37 (some (adr a38 ((IntKind.wrap .i64 (t5-1)).toNat*5))) 0 [.string v31,.string v32,.string v33,.bool v34,.bool v35]∧
 At (aX h37 (adr a38 ((IntKind.wrap .i64 (t5-1)).toNat*5)) 0 [.string v31,.string v32,.string v33,.bool v34,.bool v35]) (fun h39=>
 I4 (IntKind.wrap .i64 (t5-1)) h39))))))))) (
 I1 (IntKind.wrap .i64 (t2+1)) h23)) (fun J7=>
 CondP (decide (t5>x1)) (
 (bS t5 x0.len∧∃a8,x0.a=some a8∧
 ∃v9,ae h6 (adr a8 (t5.toNat*5)) 0 (.string v9)∧
 ∃v10,ae h6 (adr a8 (t5.toNat*5)) 1 (.string v10)∧
 ∃v11,ae h6 (adr a8 (t5.toNat*5)) 2 (.string v11)∧
 ∃v12,ae h6 (adr a8 (t5.toNat*5)) 3 (.bool v12)∧
 ∃v13,ae h6 (adr a8 (t5.toNat*5)) 4 (.bool v13)∧
 (bS (IntKind.wrap .i64 (t5-1)) x0.len∧∃a14,x0.a=some a14∧
 ∃v15,ae h6 (adr a14 ((IntKind.wrap .i64 (t5-1)).toNat*5)) 0 (.string v15)∧
 ∃v16,ae h6 (adr a14 ((IntKind.wrap .i64 (t5-1)).toNat*5)) 1 (.string v16)∧
 ∃v17,ae h6 (adr a14 ((IntKind.wrap .i64 (t5-1)).toNat*5)) 2 (.string v17)∧
 ∃v18,ae h6 (adr a14 ((IntKind.wrap .i64 (t5-1)).toNat*5)) 3 (.bool v18)∧
 ∃v19,ae h6 (adr a14 ((IntKind.wrap .i64 (t5-1)).toNat*5)) 4 (.bool v19)∧
 HV PG x3 [.agg #[.string v9,.string v10,.string v11,.bool v12,.bool v13],.agg #[.string v15,.string v16,.string v17,.bool v18,.bool v19]] [.c (.int .i64)] (fun(e20:Int) h21=>
 J7 (decide (e20<(0:Int))) h21) h6))) (
 J7 false h6))) t2 h3) (
 K () h3)) (IntKind.wrap .i64 (x1+1)) h0
noncomputable def lX:Ann:=.node .nil (.loop [(8,.c (.int .i64))] (.node .nil (.node (.node .nil (.loop [(9,.c (.int .i64))] (.node (.join [(34,.c .bool)] .nil .nil) .nil))) .nil)))
theorem gL(x0:SliceV)(x1:Int)(x2:Int)(x3:Value){K:cD []→af→Prop}{h0:af}(h:eG x0 x1 x2 x3 K h0):HC PG de [.slice x0.a x0.len x0.cap,.int .i64 x1,.int .i64 x2,x3] [] K h0:=HC.intro (an:=lX) (c:=Tryz.f120.body.getD .skip) Tryz.mixed Tryz.func120 rfl Tryz.call120 (ad rfl) (cT (by kernel_rfl) h)
def iX(x0:SliceV)(x1:Int)(x2:Int)(x3:Value)(K:(Unit)→af→Prop)(h0:af):Prop:=
 ((2:Int)≠0∧
 Bd (IntKind.wrap .i64 (ni (IntKind.wrap .i64 ((IntKind.wrap .i64 (x2-x1))-1)) 2):Int) (fun n1=>
 LoopP (fun I2 (t3:Int) h4=>
 CondP (decide (t3≥(0:Int))) (
 HC PG dJ [.slice x0.a x0.len x0.cap,.int .i64 t3,.int .i64 (IntKind.wrap .i64 (x2-x1)),.int .i64 x1,x3] [] (fun(e5:Unit) h6=>
 I2 (IntKind.wrap .i64 (t3-1)) h6) h4) (
 LoopP (fun I7 (t8:Int) h9=>
 CondP (decide (t8≥(0:Int))) (
 (bS (IntKind.wrap .i64 (x1+t8)) x0.len∧∃a10,x0.a=some a10∧
 ∃v11,ae h9 (adr a10 ((IntKind.wrap .i64 (x1+t8)).toNat*5)) 0 (.string v11)∧
 ∃v12,ae h9 (adr a10 ((IntKind.wrap .i64 (x1+t8)).toNat*5)) 1 (.string v12)∧
 ∃v13,ae h9 (adr a10 ((IntKind.wrap .i64 (x1+t8)).toNat*5)) 2 (.string v13)∧
 ∃v14,ae h9 (adr a10 ((IntKind.wrap .i64 (x1+t8)).toNat*5)) 3 (.bool v14)∧
 ∃v15,ae h9 (adr a10 ((IntKind.wrap .i64 (x1+t8)).toNat*5)) 4 (.bool v15)∧
 (bS x1 x0.len∧∃a16,x0.a=some a16∧
 ∃v17,ae h9 (adr a16 (x1.toNat*5)) 0 (.string v17)∧
 ∃v18,ae h9 (adr a16 (x1.toNat*5)) 1 (.string v18)∧
 ∃v19,ae h9 (adr a16 (x1.toNat*5)) 2 (.string v19)∧
 ∃v20,ae h9 (adr a16 (x1.toNat*5)) 3 (.bool v20)∧
 ∃v21,ae h9 (adr a16 (x1.toNat*5)) 4 (.bool v21)∧
 (bS x1 x0.len∧∃a22,x0.a=some a22∧
 (dq h9 (some (adr a22 (x1.toNat*5))) 0 [.string v11,.string v12,.string v13,.bool v14,.bool v15]∧
 At (aX h9 (adr a22 (x1.toNat*5)) 0 [.string v11,.string v12,.string v13,.bool v14,.bool v15]) (fun h23=>
 (bS (IntKind.wrap .i64 (x1+t8)) x0.len∧∃a24,x0.a=some a24∧
 (dq h23 (some (adr a24 ((IntKind.wrap .i64 (x1+t8)).toNat*5))) 0 [.string v17,.string v18,.string v19,.bool v20,.bool v21]∧
 At (aX h23 (adr a24 ((IntKind.wrap .i64 (x1+t8)).toNat*5)) 0 [.string v17,.string v18,.string v19,.bool v20,.bool v21]) (fun h25=>
 HC PG dJ [.slice x0.a x0.len x0.cap,.int .i64 0,.int .i64 t8,.int .i64 x1,x3] [] (fun(e26:Unit) h27=>
 I7 (IntKind.wrap .i64 (t8-1)) h27) h25))))))))) (
 K () h9)) (IntKind.wrap .i64 ((IntKind.wrap .i64 (x2-x1))-1)) h4)) n1 h0))
noncomputable def oe:Ann:=.node .nil (.node .nil (.node .nil (.node (.node .nil (.loop [(11,.c (.int .i64))] .nil)) (.node .nil (.loop [(12,.c (.int .i64))] .nil)))))
theorem oa(x0:SliceV)(x1:Int)(x2:Int)(x3:Value){K:cD []→af→Prop}{h0:af}(h:iX x0 x1 x2 x3 K h0):HC PG fx [.slice x0.a x0.len x0.cap,.int .i64 x1,.int .i64 x2,x3] [] K h0:=HC.intro (an:=oe) (c:=Tryz.f121.body.getD .skip) Tryz.mixed Tryz.func121 rfl Tryz.call121 (ad rfl) (cT (by kernel_rfl) h)
def gM(x0:SliceV)(x1:Int)(x2:Int)(x3:Value)(K:(Unit)→af→Prop)(h0:af):Prop:=
 CondP (decide ((IntKind.wrap .i64 (x2-x1))≥(8:Int))) (
 At (hnew h0 [.int .u64 0] iE) (fun h1=>
 (Wr h1 (ag h0)∧
 At (hset h1 (ag h0) (.int .u64 (IntKind.wrap .u64 (IntKind.wrap .i64 (x2-x1))))) (fun h2=>
 HC PG kJ [.int .i64 (IntKind.wrap .i64 (x2-x1))] [.c (.int .u64)] (fun(e3:Int) h4=>
 ((4:Int)≠0∧
 Bd (IntKind.wrap .i64 ((IntKind.wrap .i64 (ni (IntKind.wrap .i64 (x2-x1)) 4))*2):Int) (fun n5=>
 LoopP (fun I6 (t7:Int) h8=>
 ((4:Int)≠0∧
 Bd (IntKind.wrap .i64 ((IntKind.wrap .i64 (ni (IntKind.wrap .i64 (x2-x1)) 4))*2):Int) (fun n9=>
 CondP (decide (t7≤(IntKind.wrap .i64 ((IntKind.wrap .i64 (x1+n9))+1)))) (
 HC PG ll [.pointer (some (ag h0))] [.c (.int .u64)] (fun(e10:Int) h11=>
 Bd (IntKind.wrap .u64 (aw (IntKind.bits .u64) e10&&&aw (IntKind.bits .u64) (IntKind.wrap .u64 (e3-1))).toNat:Int) (fun n12=>
 Join (fun(t15:Int) h16=>
 (bS (IntKind.wrap .i64 (x1+t15)) x0.len∧∃a17,x0.a=some a17∧
 ∃v18,ae h16 (adr a17 ((IntKind.wrap .i64 (x1+t15)).toNat*5)) 0 (.string v18)∧
 ∃v19,ae h16 (adr a17 ((IntKind.wrap .i64 (x1+t15)).toNat*5)) 1 (.string v19)∧
 ∃v20,ae h16 (adr a17 ((IntKind.wrap .i64 (x1+t15)).toNat*5)) 2 (.string v20)∧
 ∃v21,ae h16 (adr a17 ((IntKind.wrap .i64 (x1+t15)).toNat*5)) 3 (.bool v21)∧
 ∃v22,ae h16 (adr a17 ((IntKind.wrap .i64 (x1+t15)).toNat*5)) 4 (.bool v22)∧
 (bS t7 x0.len∧∃a23,x0.a=some a23∧
 ∃v24,ae h16 (adr a23 (t7.toNat*5)) 0 (.string v24)∧
 ∃v25,ae h16 (adr a23 (t7.toNat*5)) 1 (.string v25)∧
 ∃v26,ae h16 (adr a23 (t7.toNat*5)) 2 (.string v26)∧
 ∃v27,ae h16 (adr a23 (t7.toNat*5)) 3 (.bool v27)∧
 ∃v28,ae h16 (adr a23 (t7.toNat*5)) 4 (.bool v28)∧
 (bS t7 x0.len∧∃a29,x0.a=some a29∧
 (dq h16 (some (adr a29 (t7.toNat*5))) 0 [.string v18,.string v19,.string v20,.bool v21,.bool v22]∧
 At (aX h16 (adr a29 (t7.toNat*5)) 0 [.string v18,.string v19,.string v20,.bool v21,.bool v22]) (fun h30=>
 (bS (IntKind.wrap .i64 (x1+t15)) x0.len∧∃a31,x0.a=some a31∧
 (dq h30 (some (adr a31 ((IntKind.wrap .i64 (x1+t15)).toNat*5))) 0 [.string v24,.string v25,.string v26,.bool v27,.bool v28]∧
 At (aX h30 (adr a31 ((IntKind.wrap .i64 (x1+t15)).toNat*5)) 0 [.string v24,.string v25,.string v26,.bool v27,.bool v28]) (fun h32=>
 I6 (IntKind.wrap .i64 (t7+1)) h32))))))))) (fun J13=>
 CondP (decide ((IntKind.wrap .i64 n12)≥(IntKind.wrap .i64 (x2-x1)))) (
 Bd (IntKind.wrap .i64 ((IntKind.wrap .i64 n12)-(IntKind.wrap .i64 (x2-x1))):Int) (fun n14=>
 J13 n14 h11)) (
 J13 (IntKind.wrap .i64 n12) h11)))) h8) (
 K () h8)))) (IntKind.wrap .i64 ((IntKind.wrap .i64 (x1+n5))-1)) h4))) h2)))) (
 K () h0)
noncomputable def lY:Ann:=.node .nil (.node .nil (.node (.node .nil (.node .nil (.node .nil (.loop [(11,.c (.int .i64))] (.node .nil (.node (.node .nil (.join [(12,.c (.int .i64))] .nil .nil)) .nil)))))) .nil))
theorem lU(x0:SliceV)(x1:Int)(x2:Int)(x3:Value){K:cD []→af→Prop}{h0:af}(h:gM x0 x1 x2 x3 K h0):HC PG eC [.slice x0.a x0.len x0.cap,.int .i64 x1,.int .i64 x2,x3] [] K h0:=HC.intro (an:=lY) (c:=Tryz.f122.body.getD .skip) Tryz.mixed Tryz.func122 rfl Tryz.call122 (ad rfl) (cT (by kernel_rfl) h)
def ir(x0:SliceV)(x1:Int)(x2:Int)(x3:Value)(K:(Int×Int)→af→Prop)(h0:af):Prop:=
 At (hnew h0 [.int .i64 0] ri) (fun h1=>
 ((4:Int)≠0∧
 Bd (IntKind.wrap .i64 ((IntKind.wrap .i64 (ni (IntKind.wrap .i64 (x2-x1)) 4))*1):Int) (fun n2=>
 ((4:Int)≠0∧
 Bd (IntKind.wrap .i64 ((IntKind.wrap .i64 (ni (IntKind.wrap .i64 (x2-x1)) 4))*2):Int) (fun n3=>
 ((4:Int)≠0∧
 Bd (IntKind.wrap .i64 ((IntKind.wrap .i64 (ni (IntKind.wrap .i64 (x2-x1)) 4))*3):Int) (fun n4=>
 Join (fun(t17:Int) h18=>
 ∃v19,aL h18 (ag h0)=some (.int .i64 v19)∧
 CondP (v19==(0:Int)) (
 K (t17,1) h18) (
 CondP (v19==(12:Int)) (
 K (t17,2) h18) (
 K (t17,0) h18))) (fun J5=>
 CondP (decide ((IntKind.wrap .i64 (x2-x1))≥(8:Int))) (
 Join (fun(t13:Int×Int×Int) h14=>
 HC PG eu [.slice x0.a x0.len x0.cap,.int .i64 t13.1,.int .i64 t13.2.1,.int .i64 t13.2.2,.pointer (some (ag h0)),x3] [.c (.int .i64)] (fun(e15:Int) h16=>
 J5 e15 h16) h14) (fun J6=>
 CondP (decide ((IntKind.wrap .i64 (x2-x1))≥(50:Int))) (
 HC PG ct [.slice x0.a x0.len x0.cap,.int .i64 (IntKind.wrap .i64 (x1+n2)),.pointer (some (ag h0)),x3] [.c (.int .i64)] (fun(e7:Int) h8=>
 HC PG ct [.slice x0.a x0.len x0.cap,.int .i64 (IntKind.wrap .i64 (x1+n3)),.pointer (some (ag h0)),x3] [.c (.int .i64)] (fun(e9:Int) h10=>
 HC PG ct [.slice x0.a x0.len x0.cap,.int .i64 (IntKind.wrap .i64 (x1+n4)),.pointer (some (ag h0)),x3] [.c (.int .i64)] (fun(e11:Int) h12=>
 J6 (e7,e9,e11) h12) h10) h8) h1) (
 J6 (IntKind.wrap .i64 (x1+n2),IntKind.wrap .i64 (x1+n3),IntKind.wrap .i64 (x1+n4)) h1))) (
 J5 (IntKind.wrap .i64 (x1+n3)) h1)))))))))
noncomputable def mI:Ann:=.node .nil (.node .nil (.node .nil (.node .nil (.node .nil (.node .nil (.join [(13,.c (.int .i64))] (.node .nil (.node (.join [(12,.c (.int .i64)),(13,.c (.int .i64)),(14,.c (.int .i64))] .nil .nil) .nil)) .nil))))))
theorem mG(x0:SliceV)(x1:Int)(x2:Int)(x3:Value){K:cD [.c (.int .i64),.c (.int .i64)]→af→Prop}{h0:af}(h:ir x0 x1 x2 x3 K h0):HC PG eQ [.slice x0.a x0.len x0.cap,.int .i64 x1,.int .i64 x2,x3] [.c (.int .i64),.c (.int .i64)] K h0:=HC.intro (an:=mI) (c:=Tryz.f123.body.getD .skip) Tryz.mixed Tryz.func123 rfl Tryz.call123 (ad rfl) (cT (by kernel_rfl) h)
def g5(x0:SliceV)(x1:Int)(x2:Int)(x3:Value)(K:(Unit)→af→Prop)(h0:af):Prop:=
 LoopP (fun I1 (t2:Int×Int) h3=>
 CondP (decide (t2.1<t2.2)) (
 (bS t2.2 x0.len∧∃a4,x0.a=some a4∧
 ∃v5,ae h3 (adr a4 (t2.2.toNat*5)) 0 (.string v5)∧
 ∃v6,ae h3 (adr a4 (t2.2.toNat*5)) 1 (.string v6)∧
 ∃v7,ae h3 (adr a4 (t2.2.toNat*5)) 2 (.string v7)∧
 ∃v8,ae h3 (adr a4 (t2.2.toNat*5)) 3 (.bool v8)∧
 ∃v9,ae h3 (adr a4 (t2.2.toNat*5)) 4 (.bool v9)∧
 (bS t2.1 x0.len∧∃a10,x0.a=some a10∧
 ∃v11,ae h3 (adr a10 (t2.1.toNat*5)) 0 (.string v11)∧
 ∃v12,ae h3 (adr a10 (t2.1.toNat*5)) 1 (.string v12)∧
 ∃v13,ae h3 (adr a10 (t2.1.toNat*5)) 2 (.string v13)∧
 ∃v14,ae h3 (adr a10 (t2.1.toNat*5)) 3 (.bool v14)∧
 ∃v15,ae h3 (adr a10 (t2.1.toNat*5)) 4 (.bool v15)∧
 (bS t2.1 x0.len∧∃a16,x0.a=some a16∧
 (dq h3 (some (adr a16 (t2.1.toNat*5))) 0 [.string v5,.string v6,.string v7,.bool v8,.bool v9]∧
 At (aX h3 (adr a16 (t2.1.toNat*5)) 0 [.string v5,.string v6,.string v7,.bool v8,.bool v9]) (fun h17=>
 (bS t2.2 x0.len∧∃a18,x0.a=some a18∧
 (dq h17 (some (adr a18 (t2.2.toNat*5))) 0 [.string v11,.string v12,.string v13,.bool v14,.bool v15]∧
 At (aX h17 (adr a18 (t2.2.toNat*5)) 0 [.string v11,.string v12,.string v13,.bool v14,.bool v15]) (fun h19=>
 I1 (IntKind.wrap .i64 (t2.1+1),IntKind.wrap .i64 (t2.2-1)) h19))))))))) (
 K () h3)) (x1,IntKind.wrap .i64 (x2-1)) h0
noncomputable def mf:Ann:=.node .nil (.node .nil (.loop [(8,.c (.int .i64)),(9,.c (.int .i64))] .nil))
theorem l9(x0:SliceV)(x1:Int)(x2:Int)(x3:Value){K:cD []→af→Prop}{h0:af}(h:g5 x0 x1 x2 x3 K h0):HC PG eK [.slice x0.a x0.len x0.cap,.int .i64 x1,.int .i64 x2,x3] [] K h0:=HC.intro (an:=mf) (c:=Tryz.f124.body.getD .skip) Tryz.mixed Tryz.func124 rfl Tryz.call124 (ad rfl) (cT (by kernel_rfl) h)
def fq(x0:SliceV)(x1:Int)(x2:Int)(x3:Value)(K:(Bool)→af→Prop)(h0:af):Prop:=
 LoopP (fun I1 (t2:Int×Int) h3=>
 CondP (decide (t2.2<(5:Int))) (
 Join (fun(t110:Int) h111=>
 I1 (t110,IntKind.wrap .i64 (t2.2+1)) h111) (fun J4=>
 LoopP (fun I5 (t6:Int) h7=>
 Join (fun(t23:Bool) h24=>
 CondP t23 (
 I5 (IntKind.wrap .i64 (t6+1)) h24) (
 CondP (t6==x2) (
 K true h24) (
 CondP (decide ((IntKind.wrap .i64 (x2-x1))<(50:Int))) (
 K false h24) (
 (bS (IntKind.wrap .i64 (t6-1)) x0.len∧∃a25,x0.a=some a25∧
 ∃v26,ae h24 (adr a25 ((IntKind.wrap .i64 (t6-1)).toNat*5)) 0 (.string v26)∧
 ∃v27,ae h24 (adr a25 ((IntKind.wrap .i64 (t6-1)).toNat*5)) 1 (.string v27)∧
 ∃v28,ae h24 (adr a25 ((IntKind.wrap .i64 (t6-1)).toNat*5)) 2 (.string v28)∧
 ∃v29,ae h24 (adr a25 ((IntKind.wrap .i64 (t6-1)).toNat*5)) 3 (.bool v29)∧
 ∃v30,ae h24 (adr a25 ((IntKind.wrap .i64 (t6-1)).toNat*5)) 4 (.bool v30)∧
 (bS t6 x0.len∧∃a31,x0.a=some a31∧
 ∃v32,ae h24 (adr a31 (t6.toNat*5)) 0 (.string v32)∧
 ∃v33,ae h24 (adr a31 (t6.toNat*5)) 1 (.string v33)∧
 ∃v34,ae h24 (adr a31 (t6.toNat*5)) 2 (.string v34)∧
 ∃v35,ae h24 (adr a31 (t6.toNat*5)) 3 (.bool v35)∧
 ∃v36,ae h24 (adr a31 (t6.toNat*5)) 4 (.bool v36)∧
 (bS t6 x0.len∧∃a37,x0.a=some a37∧
 (dq h24 (some (adr a37 (t6.toNat*5))) 0 [.string v26,.string v27,.string v28,.bool v29,.bool v30]∧
 At (aX h24 (adr a37 (t6.toNat*5)) 0 [.string v26,.string v27,.string v28,.bool v29,.bool v30]) (fun h38=>
 (bS (IntKind.wrap .i64 (t6-1)) x0.len∧∃a39,x0.a=some a39∧
 (dq h38 (some (adr a39 ((IntKind.wrap .i64 (t6-1)).toNat*5))) 0 [.string v32,.string v33,.string v34,.bool v35,.bool v36]∧
 At (aX h38 (adr a39 ((IntKind.wrap .i64 (t6-1)).toNat*5)) 0 [.string v32,.string v33,.string v34,.bool v35,.bool v36]) (fun h40=>
 Join (fun(t75:Unit) h76=>
 CondP (decide ((IntKind.wrap .i64 (x2-t6))≥(2:Int))) (
 LoopP (fun I77 (t78:Int) h79=>
 CondP (decide (t78<x2)) (
 (bS t78 x0.len∧∃a80,x0.a=some a80∧
 ∃v81,ae h79 (adr a80 (t78.toNat*5)) 0 (.string v81)∧
 ∃v82,ae h79 (adr a80 (t78.toNat*5)) 1 (.string v82)∧
 ∃v83,ae h79 (adr a80 (t78.toNat*5)) 2 (.string v83)∧
 ∃v84,ae h79 (adr a80 (t78.toNat*5)) 3 (.bool v84)∧
 ∃v85,ae h79 (adr a80 (t78.toNat*5)) 4 (.bool v85)∧
 (bS (IntKind.wrap .i64 (t78-1)) x0.len∧∃a86,x0.a=some a86∧
 ∃v87,ae h79 (adr a86 ((IntKind.wrap .i64 (t78-1)).toNat*5)) 0 (.string v87)∧
 ∃v88,ae h79 (adr a86 ((IntKind.wrap .i64 (t78-1)).toNat*5)) 1 (.string v88)∧
 ∃v89,ae h79 (adr a86 ((IntKind.wrap .i64 (t78-1)).toNat*5)) 2 (.string v89)∧
 ∃v90,ae h79 (adr a86 ((IntKind.wrap .i64 (t78-1)).toNat*5)) 3 (.bool v90)∧
 ∃v91,ae h79 (adr a86 ((IntKind.wrap .i64 (t78-1)).toNat*5)) 4 (.bool v91)∧
 HV PG x3 [.agg #[.string v81,.string v82,.string v83,.bool v84,.bool v85],.agg #[.string v87,.string v88,.string v89,.bool v90,.bool v91]] [.c (.int .i64)] (fun(e92:Int) h93=>
 CondP (!(decide (e92<(0:Int)))) (
 J4 t6 h93) (
 (bS (IntKind.wrap .i64 (t78-1)) x0.len∧∃a94,x0.a=some a94∧
 ∃v95,ae h93 (adr a94 ((IntKind.wrap .i64 (t78-1)).toNat*5)) 0 (.string v95)∧
 ∃v96,ae h93 (adr a94 ((IntKind.wrap .i64 (t78-1)).toNat*5)) 1 (.string v96)∧
 ∃v97,ae h93 (adr a94 ((IntKind.wrap .i64 (t78-1)).toNat*5)) 2 (.string v97)∧
 ∃v98,ae h93 (adr a94 ((IntKind.wrap .i64 (t78-1)).toNat*5)) 3 (.bool v98)∧
 ∃v99,ae h93 (adr a94 ((IntKind.wrap .i64 (t78-1)).toNat*5)) 4 (.bool v99)∧
 (bS t78 x0.len∧∃a100,x0.a=some a100∧
 ∃v101,ae h93 (adr a100 (t78.toNat*5)) 0 (.string v101)∧
 ∃v102,ae h93 (adr a100 (t78.toNat*5)) 1 (.string v102)∧
 ∃v103,ae h93 (adr a100 (t78.toNat*5)) 2 (.string v103)∧
 ∃v104,ae h93 (adr a100 (t78.toNat*5)) 3 (.bool v104)∧
 ∃v105,ae h93 (adr a100 (t78.toNat*5)) 4 (.bool v105)∧
 (bS t78 x0.len∧∃a106,x0.a=some a106∧
 (dq h93 (some (adr a106 (t78.toNat*5))) 0 [.string v95,.string v96,.string v97,.bool v98,.bool v99]∧
 At (aX h93 (adr a106 (t78.toNat*5)) 0 [.string v95,.string v96,.string v97,.bool v98,.bool v99]) (fun h107=>
 (bS (IntKind.wrap .i64 (t78-1)) x0.len∧∃a108,x0.a=some a108∧
 (dq h107 (some (adr a108 ((IntKind.wrap .i64 (t78-1)).toNat*5))) 0 [.string v101,.string v102,.string v103,.bool v104,.bool v105]∧
 At (aX h107 (adr a108 ((IntKind.wrap .i64 (t78-1)).toNat*5)) 0 [.string v101,.string v102,.string v103,.bool v104,.bool v105]) (fun h109=>
 I77 (IntKind.wrap .i64 (t78+1)) h109)))))))))) h79))) (
 J4 t6 h79)) (IntKind.wrap .i64 (t6+1)) h76) (
 J4 t6 h76)) (fun J41=>
 CondP (decide ((IntKind.wrap .i64 (t6-x1))≥(2:Int))) (
 LoopP (fun I42 (t43:Int) h44=>
 CondP (decide (t43≥(1:Int))) (
 (bS t43 x0.len∧∃a45,x0.a=some a45∧
 ∃v46,ae h44 (adr a45 (t43.toNat*5)) 0 (.string v46)∧
 ∃v47,ae h44 (adr a45 (t43.toNat*5)) 1 (.string v47)∧
 ∃v48,ae h44 (adr a45 (t43.toNat*5)) 2 (.string v48)∧
 ∃v49,ae h44 (adr a45 (t43.toNat*5)) 3 (.bool v49)∧
 ∃v50,ae h44 (adr a45 (t43.toNat*5)) 4 (.bool v50)∧
 (bS (IntKind.wrap .i64 (t43-1)) x0.len∧∃a51,x0.a=some a51∧
 ∃v52,ae h44 (adr a51 ((IntKind.wrap .i64 (t43-1)).toNat*5)) 0 (.string v52)∧
 ∃v53,ae h44 (adr a51 ((IntKind.wrap .i64 (t43-1)).toNat*5)) 1 (.string v53)∧
 ∃v54,ae h44 (adr a51 ((IntKind.wrap .i64 (t43-1)).toNat*5)) 2 (.string v54)∧
 ∃v55,ae h44 (adr a51 ((IntKind.wrap .i64 (t43-1)).toNat*5)) 3 (.bool v55)∧
 ∃v56,ae h44 (adr a51 ((IntKind.wrap .i64 (t43-1)).toNat*5)) 4 (.bool v56)∧
 HV PG x3 [.agg #[.string v46,.string v47,.string v48,.bool v49,.bool v50],.agg #[.string v52,.string v53,.string v54,.bool v55,.bool v56]] [.c (.int .i64)] (fun(e57:Int) h58=>
 CondP (!(decide (e57<(0:Int)))) (
 J41 () h58) (
 (bS (IntKind.wrap .i64 (t43-1)) x0.len∧∃a59,x0.a=some a59∧
 ∃v60,ae h58 (adr a59 ((IntKind.wrap .i64 (t43-1)).toNat*5)) 0 (.string v60)∧
 ∃v61,ae h58 (adr a59 ((IntKind.wrap .i64 (t43-1)).toNat*5)) 1 (.string v61)∧
 ∃v62,ae h58 (adr a59 ((IntKind.wrap .i64 (t43-1)).toNat*5)) 2 (.string v62)∧
 ∃v63,ae h58 (adr a59 ((IntKind.wrap .i64 (t43-1)).toNat*5)) 3 (.bool v63)∧
 ∃v64,ae h58 (adr a59 ((IntKind.wrap .i64 (t43-1)).toNat*5)) 4 (.bool v64)∧
 (bS t43 x0.len∧∃a65,x0.a=some a65∧
 ∃v66,ae h58 (adr a65 (t43.toNat*5)) 0 (.string v66)∧
 ∃v67,ae h58 (adr a65 (t43.toNat*5)) 1 (.string v67)∧
 ∃v68,ae h58 (adr a65 (t43.toNat*5)) 2 (.string v68)∧
 ∃v69,ae h58 (adr a65 (t43.toNat*5)) 3 (.bool v69)∧
 ∃v70,ae h58 (adr a65 (t43.toNat*5)) 4 (.bool v70)∧
 (bS t43 x0.len∧∃a71,x0.a=some a71∧
 (dq h58 (some (adr a71 (t43.toNat*5))) 0 [.string v60,.string v61,.string v62,.bool v63,.bool v64]∧
 At (aX h58 (adr a71 (t43.toNat*5)) 0 [.string v60,.string v61,.string v62,.bool v63,.bool v64]) (fun h72=>
 (bS (IntKind.wrap .i64 (t43-1)) x0.len∧∃a73,x0.a=some a73∧
 (dq h72 (some (adr a73 ((IntKind.wrap .i64 (t43-1)).toNat*5))) 0 [.string v66,.string v67,.string v68,.bool v69,.bool v70]∧
 At (aX h72 (adr a73 ((IntKind.wrap .i64 (t43-1)).toNat*5)) 0 [.string v66,.string v67,.string v68,.bool v69,.bool v70]) (fun h74=>
 I42 (IntKind.wrap .i64 (t43-1)) h74)))))))))) h44))) (
 J41 () h44)) (IntKind.wrap .i64 (t6-1)) h40) (
 J41 () h40)))))))))))))) (fun J8=>
 CondP (decide (t6<x2)) (
 (bS t6 x0.len∧∃a9,x0.a=some a9∧
 ∃v10,ae h7 (adr a9 (t6.toNat*5)) 0 (.string v10)∧
 ∃v11,ae h7 (adr a9 (t6.toNat*5)) 1 (.string v11)∧
 ∃v12,ae h7 (adr a9 (t6.toNat*5)) 2 (.string v12)∧
 ∃v13,ae h7 (adr a9 (t6.toNat*5)) 3 (.bool v13)∧
 ∃v14,ae h7 (adr a9 (t6.toNat*5)) 4 (.bool v14)∧
 (bS (IntKind.wrap .i64 (t6-1)) x0.len∧∃a15,x0.a=some a15∧
 ∃v16,ae h7 (adr a15 ((IntKind.wrap .i64 (t6-1)).toNat*5)) 0 (.string v16)∧
 ∃v17,ae h7 (adr a15 ((IntKind.wrap .i64 (t6-1)).toNat*5)) 1 (.string v17)∧
 ∃v18,ae h7 (adr a15 ((IntKind.wrap .i64 (t6-1)).toNat*5)) 2 (.string v18)∧
 ∃v19,ae h7 (adr a15 ((IntKind.wrap .i64 (t6-1)).toNat*5)) 3 (.bool v19)∧
 ∃v20,ae h7 (adr a15 ((IntKind.wrap .i64 (t6-1)).toNat*5)) 4 (.bool v20)∧
 HV PG x3 [.agg #[.string v10,.string v11,.string v12,.bool v13,.bool v14],.agg #[.string v16,.string v17,.string v18,.bool v19,.bool v20]] [.c (.int .i64)] (fun(e21:Int) h22=>
 J8 (!(decide (e21<(0:Int)))) h22) h7))) (
 J8 false h7))) t2.1 h3)) (
 K false h3)) (IntKind.wrap .i64 (x1+1),0) h0
noncomputable def jD:Ann:=.node .nil (.node .nil (.node (.node .nil (.loop [(9,.c (.int .i64)),(10,.c (.int .i64))] (.node .nil (.join [(9,.c (.int .i64))] (.node (.loop [(9,.c (.int .i64))] (.node (.join [(36,.c .bool)] .nil .nil) .nil)) (.node .nil (.node .nil (.node .nil (.join [] (.node .nil (.node (.node .nil (.loop [(11,.c (.int .i64))] .nil)) .nil)) (.node .nil (.node (.node .nil (.loop [(12,.c (.int .i64))] .nil)) .nil))))))) .nil)))) .nil))
theorem jC(x0:SliceV)(x1:Int)(x2:Int)(x3:Value){K:cD [.c .bool]→af→Prop}{h0:af}(h:fq x0 x1 x2 x3 K h0):HC PG dw [.slice x0.a x0.len x0.cap,.int .i64 x1,.int .i64 x2,x3] [.c .bool] K h0:=HC.intro (an:=jD) (c:=Tryz.f125.body.getD .skip) Tryz.mixed Tryz.func125 rfl Tryz.call125 (ad rfl) (cT (by kernel_rfl) h)
def gm(x0:SliceV)(x1:Int)(x2:Int)(x3:Int)(x4:Value)(K:(Int)→af→Prop)(h0:af):Prop:=
 (bS x3 x0.len∧∃a1,x0.a=some a1∧
 ∃v2,ae h0 (adr a1 (x3.toNat*5)) 0 (.string v2)∧
 ∃v3,ae h0 (adr a1 (x3.toNat*5)) 1 (.string v3)∧
 ∃v4,ae h0 (adr a1 (x3.toNat*5)) 2 (.string v4)∧
 ∃v5,ae h0 (adr a1 (x3.toNat*5)) 3 (.bool v5)∧
 ∃v6,ae h0 (adr a1 (x3.toNat*5)) 4 (.bool v6)∧
 (bS x1 x0.len∧∃a7,x0.a=some a7∧
 ∃v8,ae h0 (adr a7 (x1.toNat*5)) 0 (.string v8)∧
 ∃v9,ae h0 (adr a7 (x1.toNat*5)) 1 (.string v9)∧
 ∃v10,ae h0 (adr a7 (x1.toNat*5)) 2 (.string v10)∧
 ∃v11,ae h0 (adr a7 (x1.toNat*5)) 3 (.bool v11)∧
 ∃v12,ae h0 (adr a7 (x1.toNat*5)) 4 (.bool v12)∧
 (bS x1 x0.len∧∃a13,x0.a=some a13∧
 (dq h0 (some (adr a13 (x1.toNat*5))) 0 [.string v2,.string v3,.string v4,.bool v5,.bool v6]∧
 At (aX h0 (adr a13 (x1.toNat*5)) 0 [.string v2,.string v3,.string v4,.bool v5,.bool v6]) (fun h14=>
 (bS x3 x0.len∧∃a15,x0.a=some a15∧
 (dq h14 (some (adr a15 (x3.toNat*5))) 0 [.string v8,.string v9,.string v10,.bool v11,.bool v12]∧
 At (aX h14 (adr a15 (x3.toNat*5)) 0 [.string v8,.string v9,.string v10,.bool v11,.bool v12]) (fun h16=>
 LoopP (fun I17 (t18:Int×Int) h19=>
 LoopP (fun I20 (t21:Int) h22=>
 Join (fun(t38:Bool) h39=>
 CondP t38 (
 I20 (IntKind.wrap .i64 (t21+1)) h39) (
 LoopP (fun I40 (t41:Int) h42=>
 Join (fun(t58:Bool) h59=>
 CondP t58 (
 I40 (IntKind.wrap .i64 (t41-1)) h59) (
 CondP (decide (t21>t41)) (
 K t21 h59) (
 (bS t41 x0.len∧∃a60,x0.a=some a60∧
 ∃v61,ae h59 (adr a60 (t41.toNat*5)) 0 (.string v61)∧
 ∃v62,ae h59 (adr a60 (t41.toNat*5)) 1 (.string v62)∧
 ∃v63,ae h59 (adr a60 (t41.toNat*5)) 2 (.string v63)∧
 ∃v64,ae h59 (adr a60 (t41.toNat*5)) 3 (.bool v64)∧
 ∃v65,ae h59 (adr a60 (t41.toNat*5)) 4 (.bool v65)∧
 (bS t21 x0.len∧∃a66,x0.a=some a66∧
 ∃v67,ae h59 (adr a66 (t21.toNat*5)) 0 (.string v67)∧
 ∃v68,ae h59 (adr a66 (t21.toNat*5)) 1 (.string v68)∧
 ∃v69,ae h59 (adr a66 (t21.toNat*5)) 2 (.string v69)∧
 ∃v70,ae h59 (adr a66 (t21.toNat*5)) 3 (.bool v70)∧
 ∃v71,ae h59 (adr a66 (t21.toNat*5)) 4 (.bool v71)∧
 (bS t21 x0.len∧∃a72,x0.a=some a72∧
 (dq h59 (some (adr a72 (t21.toNat*5))) 0 [.string v61,.string v62,.string v63,.bool v64,.bool v65]∧
 At (aX h59 (adr a72 (t21.toNat*5)) 0 [.string v61,.string v62,.string v63,.bool v64,.bool v65]) (fun h73=>
 (bS t41 x0.len∧∃a74,x0.a=some a74∧
 (dq h73 (some (adr a74 (t41.toNat*5))) 0 [.string v67,.string v68,.string v69,.bool v70,.bool v71]∧
 At (aX h73 (adr a74 (t41.toNat*5)) 0 [.string v67,.string v68,.string v69,.bool v70,.bool v71]) (fun h75=>
 I17 (IntKind.wrap .i64 (t21+1),IntKind.wrap .i64 (t41-1)) h75))))))))))) (fun J43=>
 CondP (decide (t21≤t41)) (
 (bS x1 x0.len∧∃a44,x0.a=some a44∧
 ∃v45,ae h42 (adr a44 (x1.toNat*5)) 0 (.string v45)∧
 ∃v46,ae h42 (adr a44 (x1.toNat*5)) 1 (.string v46)∧
 ∃v47,ae h42 (adr a44 (x1.toNat*5)) 2 (.string v47)∧
 ∃v48,ae h42 (adr a44 (x1.toNat*5)) 3 (.bool v48)∧
 ∃v49,ae h42 (adr a44 (x1.toNat*5)) 4 (.bool v49)∧
 (bS t41 x0.len∧∃a50,x0.a=some a50∧
 ∃v51,ae h42 (adr a50 (t41.toNat*5)) 0 (.string v51)∧
 ∃v52,ae h42 (adr a50 (t41.toNat*5)) 1 (.string v52)∧
 ∃v53,ae h42 (adr a50 (t41.toNat*5)) 2 (.string v53)∧
 ∃v54,ae h42 (adr a50 (t41.toNat*5)) 3 (.bool v54)∧
 ∃v55,ae h42 (adr a50 (t41.toNat*5)) 4 (.bool v55)∧
 HV PG x4 [.agg #[.string v45,.string v46,.string v47,.bool v48,.bool v49],.agg #[.string v51,.string v52,.string v53,.bool v54,.bool v55]] [.c (.int .i64)] (fun(e56:Int) h57=>
 J43 (decide (e56<(0:Int))) h57) h42))) (
 J43 false h42))) t18.2 h39)) (fun J23=>
 CondP (decide (t21≤t18.2)) (
 (bS x1 x0.len∧∃a24,x0.a=some a24∧
 ∃v25,ae h22 (adr a24 (x1.toNat*5)) 0 (.string v25)∧
 ∃v26,ae h22 (adr a24 (x1.toNat*5)) 1 (.string v26)∧
 ∃v27,ae h22 (adr a24 (x1.toNat*5)) 2 (.string v27)∧
 ∃v28,ae h22 (adr a24 (x1.toNat*5)) 3 (.bool v28)∧
 ∃v29,ae h22 (adr a24 (x1.toNat*5)) 4 (.bool v29)∧
 (bS t21 x0.len∧∃a30,x0.a=some a30∧
 ∃v31,ae h22 (adr a30 (t21.toNat*5)) 0 (.string v31)∧
 ∃v32,ae h22 (adr a30 (t21.toNat*5)) 1 (.string v32)∧
 ∃v33,ae h22 (adr a30 (t21.toNat*5)) 2 (.string v33)∧
 ∃v34,ae h22 (adr a30 (t21.toNat*5)) 3 (.bool v34)∧
 ∃v35,ae h22 (adr a30 (t21.toNat*5)) 4 (.bool v35)∧
 HV PG x4 [.agg #[.string v25,.string v26,.string v27,.bool v28,.bool v29],.agg #[.string v31,.string v32,.string v33,.bool v34,.bool v35]] [.c (.int .i64)] (fun(e36:Int) h37=>
 J23 (!(decide (e36<(0:Int)))) h37) h22))) (
 J23 false h22))) t18.1 h19) (IntKind.wrap .i64 (x1+1),IntKind.wrap .i64 (x2-1)) h16))))))))
noncomputable def lE:Ann:=.node .nil (.node .nil (.node .nil (.node (.loop [(11,.c (.int .i64)),(12,.c (.int .i64))] (.node (.loop [(11,.c (.int .i64))] (.node (.join [(47,.c .bool)] .nil .nil) .nil)) (.node (.loop [(12,.c (.int .i64))] (.node (.join [(65,.c .bool)] .nil .nil) .nil)) .nil))) .nil)))
theorem ly(x0:SliceV)(x1:Int)(x2:Int)(x3:Int)(x4:Value){K:cD [.c (.int .i64)]→af→Prop}{h0:af}(h:gm x0 x1 x2 x3 x4 K h0):HC PG eo [.slice x0.a x0.len x0.cap,.int .i64 x1,.int .i64 x2,.int .i64 x3,x4] [.c (.int .i64)] K h0:=HC.intro (an:=lE) (c:=Tryz.f126.body.getD .skip) Tryz.mixed Tryz.func126 rfl Tryz.call126 (ad rfl) (cT (by kernel_rfl) h)
def iJ(x0:SliceV)(x1:Int)(x2:Int)(x3:Int)(x4:Value)(K:(Int×Bool)→af→Prop)(h0:af):Prop:=
 (bS x3 x0.len∧∃a1,x0.a=some a1∧
 ∃v2,ae h0 (adr a1 (x3.toNat*5)) 0 (.string v2)∧
 ∃v3,ae h0 (adr a1 (x3.toNat*5)) 1 (.string v3)∧
 ∃v4,ae h0 (adr a1 (x3.toNat*5)) 2 (.string v4)∧
 ∃v5,ae h0 (adr a1 (x3.toNat*5)) 3 (.bool v5)∧
 ∃v6,ae h0 (adr a1 (x3.toNat*5)) 4 (.bool v6)∧
 (bS x1 x0.len∧∃a7,x0.a=some a7∧
 ∃v8,ae h0 (adr a7 (x1.toNat*5)) 0 (.string v8)∧
 ∃v9,ae h0 (adr a7 (x1.toNat*5)) 1 (.string v9)∧
 ∃v10,ae h0 (adr a7 (x1.toNat*5)) 2 (.string v10)∧
 ∃v11,ae h0 (adr a7 (x1.toNat*5)) 3 (.bool v11)∧
 ∃v12,ae h0 (adr a7 (x1.toNat*5)) 4 (.bool v12)∧
 (bS x1 x0.len∧∃a13,x0.a=some a13∧
 (dq h0 (some (adr a13 (x1.toNat*5))) 0 [.string v2,.string v3,.string v4,.bool v5,.bool v6]∧
 At (aX h0 (adr a13 (x1.toNat*5)) 0 [.string v2,.string v3,.string v4,.bool v5,.bool v6]) (fun h14=>
 (bS x3 x0.len∧∃a15,x0.a=some a15∧
 (dq h14 (some (adr a15 (x3.toNat*5))) 0 [.string v8,.string v9,.string v10,.bool v11,.bool v12]∧
 At (aX h14 (adr a15 (x3.toNat*5)) 0 [.string v8,.string v9,.string v10,.bool v11,.bool v12]) (fun h16=>
 LoopP (fun I17 (t18:Int) h19=>
 Join (fun(t35:Bool) h36=>
 CondP t35 (
 I17 (IntKind.wrap .i64 (t18+1)) h36) (
 LoopP (fun I37 (t38:Int) h39=>
 Join (fun(t55:Bool) h56=>
 CondP t55 (
 I37 (IntKind.wrap .i64 (t38-1)) h56) (
 CondP (decide (t18>t38)) (
 (bS x1 x0.len∧∃a57,x0.a=some a57∧
 ∃v58,ae h56 (adr a57 (x1.toNat*5)) 0 (.string v58)∧
 ∃v59,ae h56 (adr a57 (x1.toNat*5)) 1 (.string v59)∧
 ∃v60,ae h56 (adr a57 (x1.toNat*5)) 2 (.string v60)∧
 ∃v61,ae h56 (adr a57 (x1.toNat*5)) 3 (.bool v61)∧
 ∃v62,ae h56 (adr a57 (x1.toNat*5)) 4 (.bool v62)∧
 (bS t38 x0.len∧∃a63,x0.a=some a63∧
 ∃v64,ae h56 (adr a63 (t38.toNat*5)) 0 (.string v64)∧
 ∃v65,ae h56 (adr a63 (t38.toNat*5)) 1 (.string v65)∧
 ∃v66,ae h56 (adr a63 (t38.toNat*5)) 2 (.string v66)∧
 ∃v67,ae h56 (adr a63 (t38.toNat*5)) 3 (.bool v67)∧
 ∃v68,ae h56 (adr a63 (t38.toNat*5)) 4 (.bool v68)∧
 (bS t38 x0.len∧∃a69,x0.a=some a69∧
 (dq h56 (some (adr a69 (t38.toNat*5))) 0 [.string v58,.string v59,.string v60,.bool v61,.bool v62]∧
 At (aX h56 (adr a69 (t38.toNat*5)) 0 [.string v58,.string v59,.string v60,.bool v61,.bool v62]) (fun h70=>
 (bS x1 x0.len∧∃a71,x0.a=some a71∧
 (dq h70 (some (adr a71 (x1.toNat*5))) 0 [.string v64,.string v65,.string v66,.bool v67,.bool v68]∧
 At (aX h70 (adr a71 (x1.toNat*5)) 0 [.string v64,.string v65,.string v66,.bool v67,.bool v68]) (fun h72=>
 K (t38,true) h72))))))))) (
 (bS t38 x0.len∧∃a73,x0.a=some a73∧
 ∃v74,ae h56 (adr a73 (t38.toNat*5)) 0 (.string v74)∧
 ∃v75,ae h56 (adr a73 (t38.toNat*5)) 1 (.string v75)∧
 ∃v76,ae h56 (adr a73 (t38.toNat*5)) 2 (.string v76)∧
 ∃v77,ae h56 (adr a73 (t38.toNat*5)) 3 (.bool v77)∧
 ∃v78,ae h56 (adr a73 (t38.toNat*5)) 4 (.bool v78)∧
 (bS t18 x0.len∧∃a79,x0.a=some a79∧
 ∃v80,ae h56 (adr a79 (t18.toNat*5)) 0 (.string v80)∧
 ∃v81,ae h56 (adr a79 (t18.toNat*5)) 1 (.string v81)∧
 ∃v82,ae h56 (adr a79 (t18.toNat*5)) 2 (.string v82)∧
 ∃v83,ae h56 (adr a79 (t18.toNat*5)) 3 (.bool v83)∧
 ∃v84,ae h56 (adr a79 (t18.toNat*5)) 4 (.bool v84)∧
 (bS t18 x0.len∧∃a85,x0.a=some a85∧
 (dq h56 (some (adr a85 (t18.toNat*5))) 0 [.string v74,.string v75,.string v76,.bool v77,.bool v78]∧
 At (aX h56 (adr a85 (t18.toNat*5)) 0 [.string v74,.string v75,.string v76,.bool v77,.bool v78]) (fun h86=>
 (bS t38 x0.len∧∃a87,x0.a=some a87∧
 (dq h86 (some (adr a87 (t38.toNat*5))) 0 [.string v80,.string v81,.string v82,.bool v83,.bool v84]∧
 At (aX h86 (adr a87 (t38.toNat*5)) 0 [.string v80,.string v81,.string v82,.bool v83,.bool v84]) (fun h88=>
 LoopP (fun I89 (t90:Int×Int) h91=>
 LoopP (fun I92 (t93:Int) h94=>
 Join (fun(t110:Bool) h111=>
 CondP t110 (
 I92 (IntKind.wrap .i64 (t93+1)) h111) (
 LoopP (fun I112 (t113:Int) h114=>
 Join (fun(t130:Bool) h131=>
 CondP t130 (
 I112 (IntKind.wrap .i64 (t113-1)) h131) (
 CondP (decide (t93>t113)) (
 (bS x1 x0.len∧∃a132,x0.a=some a132∧
 ∃v133,ae h131 (adr a132 (x1.toNat*5)) 0 (.string v133)∧
 ∃v134,ae h131 (adr a132 (x1.toNat*5)) 1 (.string v134)∧
 ∃v135,ae h131 (adr a132 (x1.toNat*5)) 2 (.string v135)∧
 ∃v136,ae h131 (adr a132 (x1.toNat*5)) 3 (.bool v136)∧
 ∃v137,ae h131 (adr a132 (x1.toNat*5)) 4 (.bool v137)∧
 (bS t113 x0.len∧∃a138,x0.a=some a138∧
 ∃v139,ae h131 (adr a138 (t113.toNat*5)) 0 (.string v139)∧
 ∃v140,ae h131 (adr a138 (t113.toNat*5)) 1 (.string v140)∧
 ∃v141,ae h131 (adr a138 (t113.toNat*5)) 2 (.string v141)∧
 ∃v142,ae h131 (adr a138 (t113.toNat*5)) 3 (.bool v142)∧
 ∃v143,ae h131 (adr a138 (t113.toNat*5)) 4 (.bool v143)∧
 (bS t113 x0.len∧∃a144,x0.a=some a144∧
 (dq h131 (some (adr a144 (t113.toNat*5))) 0 [.string v133,.string v134,.string v135,.bool v136,.bool v137]∧
 At (aX h131 (adr a144 (t113.toNat*5)) 0 [.string v133,.string v134,.string v135,.bool v136,.bool v137]) (fun h145=>
 (bS x1 x0.len∧∃a146,x0.a=some a146∧
 (dq h145 (some (adr a146 (x1.toNat*5))) 0 [.string v139,.string v140,.string v141,.bool v142,.bool v143]∧
 At (aX h145 (adr a146 (x1.toNat*5)) 0 [.string v139,.string v140,.string v141,.bool v142,.bool v143]) (fun h147=>
 K (t113,false) h147))))))))) (
 (bS t113 x0.len∧∃a148,x0.a=some a148∧
 ∃v149,ae h131 (adr a148 (t113.toNat*5)) 0 (.string v149)∧
 ∃v150,ae h131 (adr a148 (t113.toNat*5)) 1 (.string v150)∧
 ∃v151,ae h131 (adr a148 (t113.toNat*5)) 2 (.string v151)∧
 ∃v152,ae h131 (adr a148 (t113.toNat*5)) 3 (.bool v152)∧
 ∃v153,ae h131 (adr a148 (t113.toNat*5)) 4 (.bool v153)∧
 (bS t93 x0.len∧∃a154,x0.a=some a154∧
 ∃v155,ae h131 (adr a154 (t93.toNat*5)) 0 (.string v155)∧
 ∃v156,ae h131 (adr a154 (t93.toNat*5)) 1 (.string v156)∧
 ∃v157,ae h131 (adr a154 (t93.toNat*5)) 2 (.string v157)∧
 ∃v158,ae h131 (adr a154 (t93.toNat*5)) 3 (.bool v158)∧
 ∃v159,ae h131 (adr a154 (t93.toNat*5)) 4 (.bool v159)∧
 (bS t93 x0.len∧∃a160,x0.a=some a160∧
 (dq h131 (some (adr a160 (t93.toNat*5))) 0 [.string v149,.string v150,.string v151,.bool v152,.bool v153]∧
 At (aX h131 (adr a160 (t93.toNat*5)) 0 [.string v149,.string v150,.string v151,.bool v152,.bool v153]) (fun h161=>
 (bS t113 x0.len∧∃a162,x0.a=some a162∧
 (dq h161 (some (adr a162 (t113.toNat*5))) 0 [.string v155,.string v156,.string v157,.bool v158,.bool v159]∧
 At (aX h161 (adr a162 (t113.toNat*5)) 0 [.string v155,.string v156,.string v157,.bool v158,.bool v159]) (fun h163=>
 I89 (IntKind.wrap .i64 (t93+1),IntKind.wrap .i64 (t113-1)) h163))))))))))) (fun J115=>
 CondP (decide (t93≤t113)) (
 (bS t113 x0.len∧∃a116,x0.a=some a116∧
 ∃v117,ae h114 (adr a116 (t113.toNat*5)) 0 (.string v117)∧
 ∃v118,ae h114 (adr a116 (t113.toNat*5)) 1 (.string v118)∧
 ∃v119,ae h114 (adr a116 (t113.toNat*5)) 2 (.string v119)∧
 ∃v120,ae h114 (adr a116 (t113.toNat*5)) 3 (.bool v120)∧
 ∃v121,ae h114 (adr a116 (t113.toNat*5)) 4 (.bool v121)∧
 (bS x1 x0.len∧∃a122,x0.a=some a122∧
 ∃v123,ae h114 (adr a122 (x1.toNat*5)) 0 (.string v123)∧
 ∃v124,ae h114 (adr a122 (x1.toNat*5)) 1 (.string v124)∧
 ∃v125,ae h114 (adr a122 (x1.toNat*5)) 2 (.string v125)∧
 ∃v126,ae h114 (adr a122 (x1.toNat*5)) 3 (.bool v126)∧
 ∃v127,ae h114 (adr a122 (x1.toNat*5)) 4 (.bool v127)∧
 HV PG x4 [.agg #[.string v117,.string v118,.string v119,.bool v120,.bool v121],.agg #[.string v123,.string v124,.string v125,.bool v126,.bool v127]] [.c (.int .i64)] (fun(e128:Int) h129=>
 J115 (!(decide (e128<(0:Int)))) h129) h114))) (
 J115 false h114))) t90.2 h111)) (fun J95=>
 CondP (decide (t93≤t90.2)) (
 (bS t93 x0.len∧∃a96,x0.a=some a96∧
 ∃v97,ae h94 (adr a96 (t93.toNat*5)) 0 (.string v97)∧
 ∃v98,ae h94 (adr a96 (t93.toNat*5)) 1 (.string v98)∧
 ∃v99,ae h94 (adr a96 (t93.toNat*5)) 2 (.string v99)∧
 ∃v100,ae h94 (adr a96 (t93.toNat*5)) 3 (.bool v100)∧
 ∃v101,ae h94 (adr a96 (t93.toNat*5)) 4 (.bool v101)∧
 (bS x1 x0.len∧∃a102,x0.a=some a102∧
 ∃v103,ae h94 (adr a102 (x1.toNat*5)) 0 (.string v103)∧
 ∃v104,ae h94 (adr a102 (x1.toNat*5)) 1 (.string v104)∧
 ∃v105,ae h94 (adr a102 (x1.toNat*5)) 2 (.string v105)∧
 ∃v106,ae h94 (adr a102 (x1.toNat*5)) 3 (.bool v106)∧
 ∃v107,ae h94 (adr a102 (x1.toNat*5)) 4 (.bool v107)∧
 HV PG x4 [.agg #[.string v97,.string v98,.string v99,.bool v100,.bool v101],.agg #[.string v103,.string v104,.string v105,.bool v106,.bool v107]] [.c (.int .i64)] (fun(e108:Int) h109=>
 J95 (decide (e108<(0:Int))) h109) h94))) (
 J95 false h94))) t90.1 h91) (IntKind.wrap .i64 (t18+1),IntKind.wrap .i64 (t38-1)) h88))))))))))) (fun J40=>
 CondP (decide (t18≤t38)) (
 (bS t38 x0.len∧∃a41,x0.a=some a41∧
 ∃v42,ae h39 (adr a41 (t38.toNat*5)) 0 (.string v42)∧
 ∃v43,ae h39 (adr a41 (t38.toNat*5)) 1 (.string v43)∧
 ∃v44,ae h39 (adr a41 (t38.toNat*5)) 2 (.string v44)∧
 ∃v45,ae h39 (adr a41 (t38.toNat*5)) 3 (.bool v45)∧
 ∃v46,ae h39 (adr a41 (t38.toNat*5)) 4 (.bool v46)∧
 (bS x1 x0.len∧∃a47,x0.a=some a47∧
 ∃v48,ae h39 (adr a47 (x1.toNat*5)) 0 (.string v48)∧
 ∃v49,ae h39 (adr a47 (x1.toNat*5)) 1 (.string v49)∧
 ∃v50,ae h39 (adr a47 (x1.toNat*5)) 2 (.string v50)∧
 ∃v51,ae h39 (adr a47 (x1.toNat*5)) 3 (.bool v51)∧
 ∃v52,ae h39 (adr a47 (x1.toNat*5)) 4 (.bool v52)∧
 HV PG x4 [.agg #[.string v42,.string v43,.string v44,.bool v45,.bool v46],.agg #[.string v48,.string v49,.string v50,.bool v51,.bool v52]] [.c (.int .i64)] (fun(e53:Int) h54=>
 J40 (!(decide (e53<(0:Int)))) h54) h39))) (
 J40 false h39))) (IntKind.wrap .i64 (x2-1)) h36)) (fun J20=>
 CondP (decide (t18≤(IntKind.wrap .i64 (x2-1)))) (
 (bS t18 x0.len∧∃a21,x0.a=some a21∧
 ∃v22,ae h19 (adr a21 (t18.toNat*5)) 0 (.string v22)∧
 ∃v23,ae h19 (adr a21 (t18.toNat*5)) 1 (.string v23)∧
 ∃v24,ae h19 (adr a21 (t18.toNat*5)) 2 (.string v24)∧
 ∃v25,ae h19 (adr a21 (t18.toNat*5)) 3 (.bool v25)∧
 ∃v26,ae h19 (adr a21 (t18.toNat*5)) 4 (.bool v26)∧
 (bS x1 x0.len∧∃a27,x0.a=some a27∧
 ∃v28,ae h19 (adr a27 (x1.toNat*5)) 0 (.string v28)∧
 ∃v29,ae h19 (adr a27 (x1.toNat*5)) 1 (.string v29)∧
 ∃v30,ae h19 (adr a27 (x1.toNat*5)) 2 (.string v30)∧
 ∃v31,ae h19 (adr a27 (x1.toNat*5)) 3 (.bool v31)∧
 ∃v32,ae h19 (adr a27 (x1.toNat*5)) 4 (.bool v32)∧
 HV PG x4 [.agg #[.string v22,.string v23,.string v24,.bool v25,.bool v26],.agg #[.string v28,.string v29,.string v30,.bool v31,.bool v32]] [.c (.int .i64)] (fun(e33:Int) h34=>
 J20 (decide (e33<(0:Int))) h34) h19))) (
 J20 false h19))) (IntKind.wrap .i64 (x1+1)) h16))))))))
noncomputable def nN:Ann:=.node .nil (.node .nil (.node .nil (.node (.loop [(12,.c (.int .i64))] (.node (.join [(47,.c .bool)] .nil .nil) .nil)) (.node (.loop [(13,.c (.int .i64))] (.node (.join [(66,.c .bool)] .nil .nil) .nil)) (.node .nil (.node .nil (.node .nil (.node .nil (.node (.loop [(12,.c (.int .i64)),(13,.c (.int .i64))] (.node (.loop [(12,.c (.int .i64))] (.node (.join [(120,.c .bool)] .nil .nil) .nil)) (.node (.loop [(13,.c (.int .i64))] (.node (.join [(139,.c .bool)] .nil .nil) .nil)) .nil))) .nil)))))))))
theorem nI(x0:SliceV)(x1:Int)(x2:Int)(x3:Int)(x4:Value){K:cD [.c (.int .i64),.c .bool]→af→Prop}{h0:af}(h:iJ x0 x1 x2 x3 x4 K h0):HC PG fh [.slice x0.a x0.len x0.cap,.int .i64 x1,.int .i64 x2,.int .i64 x3,x4] [.c (.int .i64),.c .bool] K h0:=HC.intro (an:=nN) (c:=Tryz.f127.body.getD .skip) Tryz.mixed Tryz.func127 rfl Tryz.call127 (ad rfl) (cT (by kernel_rfl) h)
def uz(x0:Int)(K:(Int)→af→Prop)(h0:af):Prop:=
 Join (fun(t2:Int×Int) h3=>
 Join (fun(t5:Int×Int) h6=>
 Join (fun(t8:Int×Int) h9=>
 ∃b10,(0:Int)≤(IntKind.wrap .u8 t8.1)∧(⟨#[0,1,2,2,3,3,3,3,4,4,4,4,4,4,4,4,5,5,5,5,5,5,5,5,5,5,5,5,5,5,5,5,6,6,6,6,6,6,6,6,6,6,6,6,6,6,6,6,6,6,6,6,6,6,6,6,6,6,6,6,6,6,6,6,7,7,7,7,7,7,7,7,7,7,7,7,7,7,7,7,7,7,7,7,7,7,7,7,7,7,7,7,7,7,7,7,7,7,7,7,7,7,7,7,7,7,7,7,7,7,7,7,7,7,7,7,7,7,7,7,7,7,7,7,7,7,7,7,8,8,8,8,8,8,8,8,8,8,8,8,8,8,8,8,8,8,8,8,8,8,8,8,8,8,8,8,8,8,8,8,8,8,8,8,8,8,8,8,8,8,8,8,8,8,8,8,8,8,8,8,8,8,8,8,8,8,8,8,8,8,8,8,8,8,8,8,8,8,8,8,8,8,8,8,8,8,8,8,8,8,8,8,8,8,8,8,8,8,8,8,8,8,8,8,8,8,8,8,8,8,8,8,8,8,8,8,8,8,8,8,8,8,8,8,8,8,8,8,8,8,8,8,8,8,8,8]⟩:ByteArray)[(IntKind.wrap .u8 t8.1).toNat]? =some b10∧
 K (IntKind.wrap .i64 (t8.2+(IntKind.wrap .i64 (b10.toNat:Int)))) h9) (fun J7=>
 CondP (decide (t5.1≥(256:Int))) (
 ((0:Int)≤(8:Int)∧
 J7 (db t5.1 (2^(min (8:Int).toNat (IntKind.bits .u64))),IntKind.wrap .i64 (t5.2+8)) h6)) (
 J7 (t5.1,t5.2) h6))) (fun J4=>
 CondP (decide (t2.1≥(65536:Int))) (
 ((0:Int)≤(16:Int)∧
 J4 (db t2.1 (2^(min (16:Int).toNat (IntKind.bits .u64))),IntKind.wrap .i64 (t2.2+16)) h3)) (
 J4 (t2.1,t2.2) h3))) (fun J1=>
 CondP (decide (x0≥(4294967296:Int))) (
 ((0:Int)≤(32:Int)∧
 J1 (db x0 (2^(min (32:Int).toNat (IntKind.bits .u64))),32) h0)) (
 J1 (x0,0) h0))
noncomputable def Ci:Ann:=.node .nil (.join [(0,.c (.int .u64)),(2,.c (.int .i64))] .nil (.join [(0,.c (.int .u64)),(2,.c (.int .i64))] .nil (.join [(0,.c (.int .u64)),(2,.c (.int .i64))] .nil .nil)))
theorem BF(x0:Int){K:cD [.c (.int .i64)]→af→Prop}{h0:af}(h:uz x0 K h0):HC PG pY [.int .u64 x0] [.c (.int .i64)] K h0:=HC.intro (an:=Ci) (c:=Tryz.f129.body.getD .skip) Tryz.mixed Tryz.func129 rfl Tryz.call129 (ad rfl) (cT (by kernel_rfl) h)
def sf(x0:Option Addr)(x1:SliceV)(K:(SliceV)→af→Prop)(h0:af):Prop:=
 ∃a1,x0=some a1∧
 ∃v2,ae h0 a1 0 (.string v2)∧
 HC PG nv [.slice x1.a x1.len x1.cap,.string v2] [.c .slice] (fun(e3:SliceV) h4=>
 Join (fun(t20:SliceV) h21=>
 Join (fun(t32:SliceV) h33=>
 ∃a34,x0=some a34∧
 ∃v35:SliceV,ae h33 a34 3 (.slice v35.a v35.len v35.cap)∧
 LoopP (fun I36 (t37:SliceV×Int) h38=>
 CondP (decide (t37.2<(v35.len:Int))) (
 (bS t37.2 v35.len∧∃a39,v35.a=some a39∧
 ∃v40,ae h38 a39 (t37.2.toNat*1) (.pointer v40)∧
 HC PG ko [.pointer v40,.slice t37.1.a t37.1.len t37.1.cap] [.c .slice] (fun(e41:SliceV) h42=>
 I36 (e41,IntKind.wrap .i64 (t37.2+1)) h42) h38)) (
 K t37.1 h38)) (t32,0) h33) (fun J22=>
 ∃a23,x0=some a23∧
 ∃v24:SliceV,ae h21 a23 3 (.slice v24.a v24.len v24.cap)∧
 ∃a25,x0=some a25∧
 ∃v26:SliceV,ae h21 a25 3 (.slice v26.a v26.len v26.cap)∧
 ((0:Int)≤(8:Int)∧
 Bd (db (v26.len:Int) (2^(min (8:Int).toNat (IntKind.bits .i64))):Int) (fun n27=>
 At (hnew h21 [.int .u8 (IntKind.wrap .u8 (v24.len:Int)),.int .u8 (IntKind.wrap .u8 n27)] eZ) (fun h28=>
 (ae h28 a25 3 (.slice v26.a v26.len v26.cap)∧
 (ae h28 a23 3 (.slice v24.a v24.len v24.cap)∧
 ∃xs29,SRow h28 (some (ag h21)) (2*1) xs29∧
 AppP (some [.int .u8 0]) 1 1 eZ t20.a t20.len t20.cap 2 xs29 h28 (fun s30 h31=>
 (ae h31 a25 3 (.slice v26.a v26.len v26.cap)∧
 (ae h31 a23 3 (.slice v24.a v24.len v24.cap)∧
 J22 s30 h31)))))))))) (fun J5=>
 ∃a6,x0=some a6∧
 ∃v7,ae h4 a6 1 (.bool v7)∧
 CondP v7 (
 ∃a8,x0=some a8∧
 ∃v9,ae h4 a8 2 (.string v9)∧
 At (hnew h4 [.int .u8 1] eZ) (fun h10=>
 (ae h10 a8 2 (.string v9)∧
 ∃xs11,SRow h10 (some (ag h4)) (1*1) xs11∧
 AppP (some [.int .u8 0]) 1 1 eZ e3.a e3.len e3.cap 1 xs11 h10 (fun s12 h13=>
 (ae h13 a8 2 (.string v9)∧
 HC PG nv [.slice s12.a s12.len s12.cap,.string v9] [.c .slice] (fun(e14:SliceV) h15=>
 J5 e14 h15) h13))))) (
 At (hnew h4 [.int .u8 0] eZ) (fun h16=>
 ∃xs17,SRow h16 (some (ag h4)) (1*1) xs17∧
 AppP (some [.int .u8 0]) 1 1 eZ e3.a e3.len e3.cap 1 xs17 h16 (fun s18 h19=>
 J5 s18 h19))))) h0
noncomputable def yN:Ann:=.node .nil (.node .nil (.join [(1,.c .slice)] .nil (.join [(1,.c .slice)] .nil (.node (.node .nil (.loop [(1,.c .slice),(49,.c (.int .i64))] .nil)) .nil))))
theorem yH(x0:Option Addr)(x1:SliceV){K:cD [.c .slice]→af→Prop}{h0:af}(h:sf x0 x1 K h0):HC PG ko [.pointer x0,.slice x1.a x1.len x1.cap] [.c .slice] K h0:=HC.intro (an:=yN) (c:=Tryz.f130.body.getD .skip) Tryz.mixed Tryz.func130 rfl Tryz.call130 (ad rfl) (cT (by kernel_rfl) h)
def x8(x0:SliceV)(x1:Option Addr)(x2:Int)(K:(SliceV)→af→Prop)(h0:af):Prop:=
 HC PG dy [.pointer x1] [.c .bool] (fun(e1:Bool) h2=>
 CondP e1 (
 At (hnew h2 [.int .u8 1] eZ) (fun h3=>
 ∃xs4,SRow h3 (some (ag h2)) (1*1) xs4∧
 AppP (some [.int .u8 0]) 1 1 eZ x0.a x0.len x0.cap 1 xs4 h3 (fun s5 h6=>
 HC PG lR [.pointer x1] [.c (.int .i64)] (fun(e7:Int) h8=>
 HC PG mZ [.slice s5.a s5.len s5.cap,.int .u64 (IntKind.wrap .u64 e7),.int .i64 2] [.c .slice] (fun(e9:SliceV) h10=>
 HC PG eO [.pointer x1] [.c .slice] (fun(e11:SliceV) h12=>
 HC PG q9 [.slice e9.a e9.len e9.cap,.slice e11.a e11.len e11.cap] [.c .slice] (fun(e13:SliceV) h14=>
 K e13 h14) h12) h10) h8) h6))) (
 Join (fun(t28:SliceV) h29=>
 HC PG eO [.pointer x1] [.c .slice] (fun(e30:SliceV) h31=>
 HC PG q9 [.slice t28.a t28.len t28.cap,.slice e30.a e30.len e30.cap] [.c .slice] (fun(e32:SliceV) h33=>
 CondP (x2==(13:Int)) (
 K e32 h33) (
 HC PG nz [.pointer x1] [.c .slice] (fun(e34:SliceV) h35=>
 LoopP (fun I36 (t37:SliceV×Int) h38=>
 CondP (decide (t37.2<(e34.len:Int))) (
 (bS t37.2 e34.len∧∃a39,e34.a=some a39∧
 ∃v40,ae h38 a39 (t37.2.toNat*1) (.pointer v40)∧
 HC PG tZ [.slice t37.1.a t37.1.len t37.1.cap,.pointer v40,.int .i64 (IntKind.wrap .i64 (x2+1))] [.c .slice] (fun(e41:SliceV) h42=>
 I36 (e41,IntKind.wrap .i64 (t37.2+1)) h42) h38)) (
 K t37.1 h38)) (e32,0) h35) h33)) h31) h29) (fun J15=>
 At (hnew h2 [.int .u8 0] eZ) (fun h16=>
 ∃xs17,SRow h16 (some (ag h2)) (1*1) xs17∧
 AppP (some [.int .u8 0]) 1 1 eZ x0.a x0.len x0.cap 1 xs17 h16 (fun s18 h19=>
 HC PG nC [.pointer x1] [.c (.int .u32)] (fun(e20:Int) h21=>
 HC PG mZ [.slice s18.a s18.len s18.cap,.int .u64 (IntKind.wrap .u64 e20),.int .i64 4] [.c .slice] (fun(e22:SliceV) h23=>
 HC PG jQ [.pointer x1] [.c (.int .u32)] (fun(e24:Int) h25=>
 HC PG mZ [.slice e22.a e22.len e22.cap,.int .u64 (IntKind.wrap .u64 e24),.int .i64 4] [.c .slice] (fun(e26:SliceV) h27=>
 J15 e26 h27) h25) h23) h21) h19))))) h0
noncomputable def M2:Ann:=.node .nil (.node .nil (.join [(0,.c .slice)] .nil (.node .nil (.node .nil (.node (.node .nil (.loop [(0,.c .slice),(42,.c (.int .i64))] .nil)) .nil)))))
theorem Eg(x0:SliceV)(x1:Option Addr)(x2:Int){K:cD [.c .slice]→af→Prop}{h0:af}(h:x8 x0 x1 x2 K h0):HC PG tZ [.slice x0.a x0.len x0.cap,.pointer x1,.int .i64 x2] [.c .slice] K h0:=HC.intro (an:=M2) (c:=Tryz.f131.body.getD .skip) Tryz.mixed Tryz.func131 rfl Tryz.call131 (ad rfl) (cT (by kernel_rfl) h)
def dV(x0:SliceV)(x1:Int)(x2:Value)(K:(Int×Bool)→af→Prop)(h0:af):Prop:=
 LoopP (fun I1 (t2:Int×Int) h3=>
 CondP (decide (t2.1<t2.2)) (
 ((0:Int)≤(1:Int)∧
 Bd (db (IntKind.wrap .u64 (IntKind.wrap .i64 (t2.1+t2.2))) (2^(min (1:Int).toNat (IntKind.bits .u64))):Int) (fun n4=>
 (bS (IntKind.wrap .i64 n4) x0.len∧∃a5,x0.a=some a5∧
 ∃v6,ae h3 a5 ((IntKind.wrap .i64 n4).toNat*1) (.pointer v6)∧
 HV PG x2 [.pointer v6,.int .u8 x1] [.c (.int .i64)] (fun(e7:Int) h8=>
 CondP (decide (e7<(0:Int))) (
 I1 (IntKind.wrap .i64 ((IntKind.wrap .i64 n4)+1),t2.2) h8) (
 I1 (t2.1,IntKind.wrap .i64 n4) h8)) h3)))) (
 CondP (decide (t2.1<(x0.len:Int))) (
 (bS t2.1 x0.len∧∃a9,x0.a=some a9∧
 ∃v10,ae h3 a9 (t2.1.toNat*1) (.pointer v10)∧
 HV PG x2 [.pointer v10,.int .u8 x1] [.c (.int .i64)] (fun(e11:Int) h12=>
 K (t2.1,e11==(0:Int)) h12) h3)) (
 K (t2.1,false) h3))) (0,(x0.len:Int)) h0
noncomputable def ij:Ann:=.node .nil (.node .nil (.node .nil (.node (.loop [(9,.c (.int .i64)),(10,.c (.int .i64))] .nil) .nil)))
theorem ii(x0:SliceV)(x1:Int)(x2:Value){K:cD [.c (.int .i64),.c .bool]→af→Prop}{h0:af}(h:dV x0 x1 x2 K h0):HC PG dS [.slice x0.a x0.len x0.cap,.int .u8 x1,x2] [.c (.int .i64),.c .bool] K h0:=HC.intro (an:=ij) (c:=Tryz.f132.body.getD .skip) Tryz.mixed Tryz.func132 rfl Tryz.call132 (ad rfl) (cT (by kernel_rfl) h)
def sh(x0:Option Addr)(x1:Int)(K:(Int)→af→Prop)(h0:af):Prop:=
 ∃a1,x0=some a1∧
 ∃v2,ae h0 a1 0 (.string v2)∧
 ∃b3,(0:Int)≤(0:Int)∧v2[(0:Int).toNat]? =some b3∧
 Bd (IntKind.wrap .i64 ((IntKind.wrap .i64 (b3.toNat:Int))-(IntKind.wrap .i64 x1)):Int) (fun n4=>
 K n4 h0)
noncomputable def yO:Ann:=.nil
theorem yI(x0:Option Addr)(x1:Int){K:cD [.c (.int .i64)]→af→Prop}{h0:af}(h:sh x0 x1 K h0):HC PG nY [.pointer x0,.int .u8 x1] [.c (.int .i64)] K h0:=HC.intro (an:=yO) (c:=Tryz.f133.body.getD .skip) Tryz.mixed Tryz.func133 rfl Tryz.call133 (ad rfl) (cT (by kernel_rfl) h)
def za(x0:ByteArray)(x1:ByteArray)(K:(Bool)→af→Prop)(h0:af):Prop:=
 HC PG vl [.string x0,.string x1] [.c .bool] (fun(e1:Bool) h2=>
 K e1 h2) h0
noncomputable def HU:Ann:=.nil
theorem HB(x0:ByteArray)(x1:ByteArray){K:cD [.c .bool]→af→Prop}{h0:af}(h:za x0 x1 K h0):HC PG uJ [.string x0,.string x1] [.c .bool] K h0:=HC.intro (an:=HU) (c:=Tryz.f134.body.getD .skip) Tryz.mixed Tryz.func134 rfl Tryz.call134 (ad rfl) (cT (by kernel_rfl) h)
def Jp(x0:Int×Int)(x1:ByteArray)(K:(Int)→af→Prop)(h0:af):Prop:=
 At (hnew h0 [.int .u64 x0.1,.int .u64 x0.2] l5) (fun h1=>
 ∃v2,ae h1 (ag h0) 0 (.int .u64 v2)∧
 Bd (IntKind.wrap .u64 (aw (IntKind.bits .u64) v2^^^aw (IntKind.bits .u64) 8317987319222330741).toNat:Int) (fun n3=>
 ∃v4,ae h1 (ag h0) 1 (.int .u64 v4)∧
 Bd (IntKind.wrap .u64 (aw (IntKind.bits .u64) v4^^^aw (IntKind.bits .u64) 7237128888997146477).toNat:Int) (fun n5=>
 ∃v6,ae h1 (ag h0) 0 (.int .u64 v6)∧
 Bd (IntKind.wrap .u64 (aw (IntKind.bits .u64) v6^^^aw (IntKind.bits .u64) 7816392313619706465).toNat:Int) (fun n7=>
 ∃v8,ae h1 (ag h0) 1 (.int .u64 v8)∧
 Bd (IntKind.wrap .u64 (aw (IntKind.bits .u64) v8^^^aw (IntKind.bits .u64) 8387220255154660723).toNat:Int) (fun n9=>
 At (hnew h1 [.int .u64 0,.int .u64 0,.int .u64 0,.int .u64 0] jH) (fun h10=>
 (dq h10 (some (ag h1)) 0 [.int .u64 n3,.int .u64 n5,.int .u64 n7,.int .u64 n9]∧
 At (aX h10 (ag h1) 0 [.int .u64 n3,.int .u64 n5,.int .u64 n7,.int .u64 n9]) (fun h11=>
 LoopP (fun I12 (t13:ByteArray) h14=>
 CondP (decide ((t13.size:Int)≥(8:Int))) (
 (((0:Int)≤(8:Int)∧(8:Int)≤((t13.size:Nat):Int))∧
 HC PG wy [.string (t13.extract 0 ((8:Int).toNat))] [.c (.int .u64)] (fun(e15:Int) h16=>
 HC PG nu [.pointer (some (ag h1)),.int .u64 e15] [] (fun(e17:Unit) h18=>
 (((0:Int)≤(8:Int)∧(8:Int)≤((t13.size:Nat):Int))∧
 I12 (t13.extract ((8:Int).toNat) t13.size) h18)) h16) h14)) (
 HC PG wy [.string t13] [.c (.int .u64)] (fun(e19:Int) h20=>
 ((0:Int)≤(56:Int)∧
 Bd (IntKind.wrap .u64 ((IntKind.wrap .u64 (x1.size:Int))*2^(min (56:Int).toNat (IntKind.bits .u64))):Int) (fun n21=>
 Bd (IntKind.wrap .u64 (aw (IntKind.bits .u64) e19|||aw (IntKind.bits .u64) n21).toNat:Int) (fun n22=>
 HC PG nu [.pointer (some (ag h1)),.int .u64 n22] [] (fun(e23:Unit) h24=>
 (bS (2:Int) 4∧
 ∃v25,ae h24 (ag h1) ((2:Int).toNat*1) (.int .u64 v25)∧
 Bd (IntKind.wrap .u64 (aw (IntKind.bits .u64) v25^^^aw (IntKind.bits .u64) 255).toNat:Int) (fun n26=>
 (bS (2:Int) 4∧
 (Wr h24 (adr (ag h1) ((2:Int).toNat*1))∧
 At (hset h24 (adr (ag h1) ((2:Int).toNat*1)) (.int .u64 n26)) (fun h27=>
 HC PG jv [.pointer (some (ag h1)),.int .i64 4] [] (fun(e28:Unit) h29=>
 (bS 0 4∧
 ∃v30,ae h29 (ag h1) ((0:Int).toNat*1) (.int .u64 v30)∧
 (bS 1 4∧
 ∃v31,ae h29 (ag h1) ((1:Int).toNat*1) (.int .u64 v31)∧
 Bd (IntKind.wrap .u64 (aw (IntKind.bits .u64) v30^^^aw (IntKind.bits .u64) v31).toNat:Int) (fun n32=>
 (bS (2:Int) 4∧
 ∃v33,ae h29 (ag h1) ((2:Int).toNat*1) (.int .u64 v33)∧
 Bd (IntKind.wrap .u64 (aw (IntKind.bits .u64) n32^^^aw (IntKind.bits .u64) v33).toNat:Int) (fun n34=>
 (bS (3:Int) 4∧
 ∃v35,ae h29 (ag h1) ((3:Int).toNat*1) (.int .u64 v35)∧
 Bd (IntKind.wrap .u64 (aw (IntKind.bits .u64) n34^^^aw (IntKind.bits .u64) v35).toNat:Int) (fun n36=>
 K n36 h29)))))))) h27)))))) h20)))) h14)) x1 h11))))))))
noncomputable def Ry:Ann:=.node .nil (.node .nil (.node .nil (.node (.loop [(1,.c .str)] .nil) .nil)))
theorem Rq(x0:Int×Int)(x1:ByteArray){K:cD [.c (.int .u64)]→af→Prop}{h0:af}(h:Jp x0 x1 K h0):HC PG CS [.agg #[.int .u64 x0.1,.int .u64 x0.2],.string x1] [.c (.int .u64)] K h0:=HC.intro (an:=Ry) (c:=Tryz.f135.body.getD .skip) Tryz.mixed Tryz.func135 rfl Tryz.call135 (ad rfl) (cT (by kernel_rfl) h)
def Eo(x0:SliceV)(x1:ByteArray)(K:(Int×Bool)→af→Prop)(h0:af):Prop:=
 HC PG eR [.slice x0.a x0.len x0.cap,.string x1,.func (.func pW) #[] #[]] [.c (.int .i64),.c .bool] (fun(e1:Int×Bool) h2=>
 K (e1.1,e1.2) h2) h0
noncomputable def M7:Ann:=.nil
theorem MO(x0:SliceV)(x1:ByteArray){K:cD [.c (.int .i64),.c .bool]→af→Prop}{h0:af}(h:Eo x0 x1 K h0):HC PG ry [.slice x0.a x0.len x0.cap,.string x1] [.c (.int .i64),.c .bool] K h0:=HC.intro (an:=M7) (c:=Tryz.f136.body.getD .skip) Tryz.mixed Tryz.func136 rfl Tryz.call136 (ad rfl) (cT (by kernel_rfl) h)
def vJ(x0:Option Addr)(K:(Int)→af→Prop)(h0:af):Prop:=
 CondP x0.isNone (
 K 0 h0) (
 ∃a1,x0=some a1∧
 ∃v2,ae h0 (adr a1 0) 0 (.int .u32 v2)∧
 K v2 h0)
noncomputable def DC:Ann:=.nil
theorem Dn(x0:Option Addr){K:cD [.c (.int .u32)]→af→Prop}{h0:af}(h:vJ x0 K h0):HC PG nC [.pointer x0] [.c (.int .u32)] K h0:=HC.intro (an:=DC) (c:=Tryz.f137.body.getD .skip) Tryz.mixed Tryz.func137 rfl Tryz.call137 (ad rfl) (cT (by kernel_rfl) h)
def m9(x0:Value)(K:(SliceV)→af→Prop)(h0:af):Prop:=
 HC PG eN [.slice none 0 0,x0] [.c .slice] (fun(e1:SliceV) h2=>
 K e1 h2) h0
noncomputable def tI:Ann:=.nil
theorem th(x0:Value){K:cD [.c .slice]→af→Prop}{h0:af}(h:m9 x0 K h0):HC PG ju [x0] [.c .slice] K h0:=HC.intro (an:=tI) (c:=Tryz.f138.body.getD .skip) Tryz.mixed Tryz.func138 rfl Tryz.call138 (ad rfl) (cT (by kernel_rfl) h)
def GO(x0:Option Addr)(K:(Value)→af→Prop)(h0:af):Prop:=
 At (hnew h0 [.pointer x0] bO) (fun h1=>
 K (.func (.func su) #[] #[.pointer (some (ag h0))]) h1)
noncomputable def Pe:Ann:=.nil
theorem OZ(x0:Option Addr){K:cD [.c .raw]→af→Prop}{h0:af}(h:GO x0 K h0):HC PG zP [.pointer x0] [.c .raw] K h0:=HC.intro (an:=Pe) (c:=Tryz.f140.body.getD .skip) Tryz.mixed Tryz.func140 rfl Tryz.call140 (ad rfl) (cT (by kernel_rfl) h)
def fU(x0:SliceV)(x1:Value)(K:(Unit)→af→Prop)(h0:af):Prop:=
 HC PG jK [.slice x0.a x0.len x0.cap,.int .i64 (x0.len:Int),x1] [] (fun(e1:Unit) h2=>
 K () h2) h0
noncomputable def kh:Ann:=.nil
theorem kg(x0:SliceV)(x1:Value){K:cD []→af→Prop}{h0:af}(h:fU x0 x1 K h0):HC PG dH [.slice x0.a x0.len x0.cap,x1] [] K h0:=HC.intro (an:=kh) (c:=Tryz.f141.body.getD .skip) Tryz.mixed Tryz.func141 rfl Tryz.call141 (ad rfl) (cT (by kernel_rfl) h)
def w8(x0:ByteArray×ByteArray)(x1:ByteArray×ByteArray)(K:(Int)→af→Prop)(h0:af):Prop:=
 At (hnew h0 [.string x0.1,.string x0.2] al) (fun h1=>
 At (hnew h1 [.string x1.1,.string x1.2] al) (fun h2=>
 ∃v3,ae h2 (ag h0) 0 (.string v3)∧
 ∃v4,ae h2 (ag h0) 1 (.string v4)∧
 ∃v5,ae h2 (ag h1) 0 (.string v5)∧
 HC PG pW [.agg #[.string v3,.string v4],.string v5] [.c (.int .i64)] (fun(e6:Int) h7=>
 K e6 h7) h2))
noncomputable def ES:Ann:=.nil
theorem EK(x0:ByteArray×ByteArray)(x1:ByteArray×ByteArray){K:cD [.c (.int .i64)]→af→Prop}{h0:af}(h:w8 x0 x1 K h0):HC PG rR [.agg #[.string x0.1,.string x0.2],.agg #[.string x1.1,.string x1.2]] [.c (.int .i64)] K h0:=HC.intro (an:=ES) (c:=Tryz.f142.body.getD .skip) Tryz.mixed Tryz.func142 rfl Tryz.call142 (ad rfl) (cT (by kernel_rfl) h)
def BP(x0:ByteArray×ByteArray)(x1:ByteArray)(K:(Int)→af→Prop)(h0:af):Prop:=
 At (hnew h0 [.string x0.1,.string x0.2] al) (fun h1=>
 ∃v2,ae h1 (ag h0) 0 (.string v2)∧
 HC PG mz [.string v2,.string x1] [.c (.int .i64)] (fun(e3:Int) h4=>
 K e3 h4) h1)
noncomputable def KT:Ann:=.nil
theorem KD(x0:ByteArray×ByteArray)(x1:ByteArray){K:cD [.c (.int .i64)]→af→Prop}{h0:af}(h:BP x0 x1 K h0):HC PG pW [.agg #[.string x0.1,.string x0.2],.string x1] [.c (.int .i64)] K h0:=HC.intro (an:=KT) (c:=Tryz.f143.body.getD .skip) Tryz.mixed Tryz.func143 rfl Tryz.call143 (ad rfl) (cT (by kernel_rfl) h)
def g6(x0:SliceV)(x1:Value)(K:(Int)→af→Prop)(h0:af):Prop:=
 LoopP (fun I1 (t2:Int) h3=>
 CondP (decide (t2<(x0.len:Int))) (
 (bS t2 x0.len∧∃a4,x0.a=some a4∧
 ∃v5,ae h3 (adr a4 (t2.toNat*2)) 0 (.string v5)∧
 ∃v6,ae h3 (adr a4 (t2.toNat*2)) 1 (.string v6)∧
 HV PG x1 [.agg #[.string v5,.string v6]] [.c .bool] (fun(e7:Bool) h8=>
 CondP e7 (
 K t2 h8) (
 I1 (IntKind.wrap .i64 (t2+1)) h8)) h3)) (
 K (-1) h3)) 0 h0
noncomputable def mg:Ann:=.node .nil (.node (.node .nil (.loop [(8,.c (.int .i64))] .nil)) .nil)
theorem ma(x0:SliceV)(x1:Value){K:cD [.c (.int .i64)]→af→Prop}{h0:af}(h:g6 x0 x1 K h0):HC PG eM [.slice x0.a x0.len x0.cap,x1] [.c (.int .i64)] K h0:=HC.intro (an:=mg) (c:=Tryz.f144.body.getD .skip) Tryz.mixed Tryz.func144 rfl Tryz.call144 (ad rfl) (cT (by kernel_rfl) h)
def yg(x0:ByteArray×ByteArray)(y0:Addr)(y1:Addr)(K:(Bool)→af→Prop)(h0:af):Prop:=
 At (hnew h0 [.string x0.1,.string x0.2] al) (fun h1=>
 ∃v2,ae h1 (ag h0) 0 (.string v2)∧
 ∃v3,aL h1 y0=some (.int .i64 v3)∧
 ∃b4,(0:Int)≤v3∧v2[v3.toNat]? =some b4∧
 ∃v5,aL h1 y1=some (.int .u8 v5)∧
 K ((b4.toNat:Int) !=v5) h1)
noncomputable def Hb:Ann:=.nil
theorem GL(x0:ByteArray×ByteArray)(y0:Addr)(y1:Addr){K:cD [.c .bool]→af→Prop}{h0:af}(h:yg x0 y0 y1 K h0):HC PG xR [.agg #[.string x0.1,.string x0.2],.pointer (some y0),.pointer (some y1)] [.c .bool] K h0:=HC.intro (an:=Hb) (c:=Tryz.f145.body.getD .skip) Tryz.mixed Tryz.func145 rfl Tryz.call145 (ad rfl) (cT (by kernel_rfl) h)
def yh(x0:SliceV)(x1:Int)(K:(Option Addr)→af→Prop)(h0:af):Prop:=
 (bS 0 x0.len∧∃a1,x0.a=some a1∧
 ∃v2,ae h0 (adr a1 ((0:Int).toNat*2)) 0 (.string v2)∧
 (bS (IntKind.wrap .i64 ((x0.len:Int)-1)) x0.len∧∃a3,x0.a=some a3∧
 ∃v4,ae h0 (adr a3 ((IntKind.wrap .i64 ((x0.len:Int)-1)).toNat*2)) 0 (.string v4)∧
 HC PG qZ [.string v2,.string v4] [.c (.int .i64)] (fun(e5:Int) h6=>
 (bS 0 x0.len∧∃a7,x0.a=some a7∧
 ∃v8,ae h6 (adr a7 ((0:Int).toNat*2)) 0 (.string v8)∧
 (((0:Int)≤e5∧e5≤((v8.size:Nat):Int))∧
 (((0:Int)≤x1∧x1≤((e5.toNat:Nat):Int))∧
 (bS 0 x0.len∧∃a9,x0.a=some a9∧
 ∃v10,ae h6 (adr a9 ((0:Int).toNat*2)) 0 (.string v10)∧
 Join (fun(t14:SliceV×ByteArray) h15=>
 HC PG sy [.slice t14.1.a t14.1.len t14.1.cap,.int .i64 e5] [.c .slice] (fun(e16:SliceV) h17=>
 HC PG sw [.string (v8.extract x1.toNat e5.toNat),.bool ((v10.size:Int)==e5),.string t14.2,.slice e16.a e16.len e16.cap] [.c .ptr] (fun(e18:Option Addr) h19=>
 K e18 h19) h17) h15) (fun J11=>
 CondP ((v10.size:Int)==e5) (
 (bS 0 x0.len∧∃a12,x0.a=some a12∧
 ∃v13,ae h6 (adr a12 ((0:Int).toNat*2)) 1 (.string v13)∧
 (((0:Int)≤(1:Int)∧(1:Int)≤((x0.len:Nat):Int))∧
 J11 (⟨aM x0.a ((1:Int).toNat) x0.cap 2,x0.len-((1:Int).toNat),x0.cap-((1:Int).toNat)⟩,v13) h6))) (
 J11 (x0,(⟨#[]⟩:ByteArray)) h6))))))) h0))
noncomputable def Hc:Ann:=.node .nil (.node .nil (.node .nil (.join [(0,.c .slice),(7,.c .str)] .nil .nil)))
theorem GM(x0:SliceV)(x1:Int){K:cD [.c .ptr]→af→Prop}{h0:af}(h:yh x0 x1 K h0):HC PG sX [.slice x0.a x0.len x0.cap,.int .i64 x1] [.c .ptr] K h0:=HC.intro (an:=Hc) (c:=Tryz.f146.body.getD .skip) Tryz.mixed Tryz.func146 rfl Tryz.call146 (ad rfl) (cT (by kernel_rfl) h)
def zk(K:(Option Addr)→af→Prop)(h0:af):Prop:=
 At (hnew h0 [.int .u32 0,.int .u32 0,.slice none 0 0,.slice none 0 0,.bool true,.pointer none] bw) (fun h1=>
 K (some (ag h0)) h1)
noncomputable def H3:Ann:=.nil
theorem HK{K:cD [.c .ptr]→af→Prop}{h0:af}(h:zk K h0):HC PG re [] [.c .ptr] K h0:=HC.intro (an:=H3) (c:=Tryz.f147.body.getD .skip) Tryz.mixed Tryz.func147 rfl Tryz.call147 (ad rfl) (cT (by kernel_rfl) h)
def w9(x0:Option Addr)(x1:Option Addr)(x2:ByteArray×ByteArray)(K:(Option Addr)→af→Prop)(h0:af):Prop:=
 At (hnew h0 [.string x2.1,.string x2.2] al) (fun h1=>
 HC PG dy [.pointer x0] [.c .bool] (fun(e2:Bool) h3=>
 CondP (!e2) (
 K x0 h3) (
 HC PG gJ [.pointer x0,.pointer x1] [.c .ptr] (fun(e4:Option Addr) h5=>
 ∃a6,e4=some a6∧
 ∃v7:SliceV,ae h5 (adr a6 0) 2 (.slice v7.a v7.len v7.cap)∧
 ∃v8,ae h5 (ag h0) 0 (.string v8)∧
 ∃v9,ae h5 (ag h0) 1 (.string v9)∧
 HC PG zT [.slice v7.a v7.len v7.cap,.agg #[.string v8,.string v9]] [.c .slice] (fun(e10:SliceV) h11=>
 ∃a12,e4=some a12∧
 (Wr h11 (adr (adr a12 0) 2)∧
 At (hset h11 (adr (adr a12 0) 2) (.slice e10.a e10.len e10.cap)) (fun h13=>
 K e4 h13))) h5) h3)) h1)
noncomputable def EU:Ann:=.nil
theorem EL(x0:Option Addr)(x1:Option Addr)(x2:ByteArray×ByteArray){K:cD [.c .ptr]→af→Prop}{h0:af}(h:w9 x0 x1 x2 K h0):HC PG iT [.pointer x0,.pointer x1,.agg #[.string x2.1,.string x2.2]] [.c .ptr] K h0:=HC.intro (an:=EU) (c:=Tryz.f148.body.getD .skip) Tryz.mixed Tryz.func148 rfl Tryz.call148 (ad rfl) (cT (by kernel_rfl) h)
def yf(x0:ByteArray×ByteArray×Int)(y0:Addr)(K:(Int)→af→Prop)(h0:af):Prop:=
 At (hnew h0 [.string x0.1,.string x0.2.1,.int .u64 x0.2.2] aQ) (fun h1=>
 ∃v2,ae h1 (ag h0) 2 (.int .u64 v2)∧
 ∃v3,aL h1 y0=some (.int .i64 v3)∧
 HC PG lr [.int .u64 v2,.int .i64 v3] [.c (.int .i64)] (fun(e4:Int) h5=>
 K e4 h5) h1)
noncomputable def Ha:Ann:=.nil
theorem GK(x0:ByteArray×ByteArray×Int)(y0:Addr){K:cD [.c (.int .i64)]→af→Prop}{h0:af}(h:yf x0 y0 K h0):HC PG sW [.agg #[.string x0.1,.string x0.2.1,.int .u64 x0.2.2],.pointer (some y0)] [.c (.int .i64)] K h0:=HC.intro (an:=Ha) (c:=Tryz.f149.body.getD .skip) Tryz.mixed Tryz.func149 rfl Tryz.call149 (ad rfl) (cT (by kernel_rfl) h)
def gq(x0:SliceV)(K:(SliceV)→af→Prop)(h0:af):Prop:=
 CondP x0.a.isNone (
 K ⟨none,0,0⟩ h0) (
 At (hnew h0 [] aQ) (fun h1=>
 ∃xs2,SRow h1 x0.a (x0.len*3) xs2∧
 AppP (some [.string (⟨#[]⟩:ByteArray),.string (⟨#[]⟩:ByteArray),.int .u64 0]) 3 40 aQ (some (ag h0)) 0 0 x0.len xs2 h1 (fun s3 h4=>
 K s3 h4)))
noncomputable def lH:Ann:=.nil
theorem lB(x0:SliceV){K:cD [.c .slice]→af→Prop}{h0:af}(h:gq x0 K h0):HC PG ey [.slice x0.a x0.len x0.cap] [.c .slice] K h0:=HC.intro (an:=lH) (c:=Tryz.f150.body.getD .skip) Tryz.mixed Tryz.func150 rfl Tryz.call150 (ad rfl) (cT (by kernel_rfl) h)
def eS(x0:SliceV)(x1:Value)(K:(Unit)→af→Prop)(h0:af):Prop:=
 HC PG jf [.slice x0.a x0.len x0.cap,.int .i64 (x0.len:Int),x1] [] (fun(e1:Unit) h2=>
 K () h2) h0
noncomputable def jp:Ann:=.nil
theorem jn(x0:SliceV)(x1:Value){K:cD []→af→Prop}{h0:af}(h:eS x0 x1 K h0):HC PG dd [.slice x0.a x0.len x0.cap,x1] [] K h0:=HC.intro (an:=jp) (c:=Tryz.f151.body.getD .skip) Tryz.mixed Tryz.func151 rfl Tryz.call151 (ad rfl) (cT (by kernel_rfl) h)
def ye(x0:ByteArray×ByteArray×Int)(x1:ByteArray×ByteArray×Int)(y0:Addr)(K:(Int)→af→Prop)(h0:af):Prop:=
 At (hnew h0 [.string x0.1,.string x0.2.1,.int .u64 x0.2.2] aQ) (fun h1=>
 At (hnew h1 [.string x1.1,.string x1.2.1,.int .u64 x1.2.2] aQ) (fun h2=>
 ∃v3,aL h2 y0=some (v3)∧
 ∃v4,ae h2 (ag h0) 0 (.string v4)∧
 ∃v5,ae h2 (ag h0) 1 (.string v5)∧
 ∃v6,ae h2 (ag h0) 2 (.int .u64 v6)∧
 ∃v7,aL h2 y0=some (v7)∧
 ∃v8,ae h2 (ag h1) 0 (.string v8)∧
 ∃v9,ae h2 (ag h1) 1 (.string v9)∧
 ∃v10,ae h2 (ag h1) 2 (.int .u64 v10)∧
 HV PG v3 [.agg #[.string v4,.string v5,.int .u64 v6]] [.c (.int .i64)] (fun(e11:Int) h12=>
 ((ae h12 (ag h1) 0 (.string v8)∧ae h12 (ag h1) 1 (.string v9)∧ae h12 (ag h1) 2 (.int .u64 v10))∧
 (aL h12 y0=some (v7)∧
 HV PG v7 [.agg #[.string v8,.string v9,.int .u64 v10]] [.c (.int .i64)] (fun(e13:Int) h14=>
 HC PG pZ [.int .i64 e11,.int .i64 e13] [.c (.int .i64)] (fun(e15:Int) h16=>
 K e15 h16) h14) h12))) h2))
noncomputable def G9:Ann:=.nil
theorem GJ(x0:ByteArray×ByteArray×Int)(x1:ByteArray×ByteArray×Int)(y0:Addr){K:cD [.c (.int .i64)]→af→Prop}{h0:af}(h:ye x0 x1 y0 K h0):HC PG sS [.agg #[.string x0.1,.string x0.2.1,.int .u64 x0.2.2],.agg #[.string x1.1,.string x1.2.1,.int .u64 x1.2.2],.pointer (some y0)] [.c (.int .i64)] K h0:=HC.intro (an:=G9) (c:=Tryz.f152.body.getD .skip) Tryz.mixed Tryz.func152 rfl Tryz.call152 (ad rfl) (cT (by kernel_rfl) h)
def uB(x0:Int)(x1:Int)(K:(Int)→af→Prop)(h0:af):Prop:=
 HC PG oV [.int .i64 x0] [.c .bool] (fun(e1:Bool) h2=>
 HC PG oV [.int .i64 x1] [.c .bool] (fun(e3:Bool) h4=>
 CondP e1 (
 CondP e3 (
 K 0 h4) (
 K (-1) h4)) (
 CondP e3 (
 K 1 h4) (
 CondP (decide (x0<x1)) (
 K (-1) h4) (
 CondP (decide (x0>x1)) (
 K 1 h4) (
 K 0 h4))))) h2) h0
noncomputable def Ck:Ann:=.nil
theorem BH(x0:Int)(x1:Int){K:cD [.c (.int .i64)]→af→Prop}{h0:af}(h:uB x0 x1 K h0):HC PG pZ [.int .i64 x0,.int .i64 x1] [.c (.int .i64)] K h0:=HC.intro (an:=Ck) (c:=Tryz.f153.body.getD .skip) Tryz.mixed Tryz.func153 rfl Tryz.call153 (ad rfl) (cT (by kernel_rfl) h)
def fQ(x0:SliceV)(x1:Value)(K:(Int)→af→Prop)(h0:af):Prop:=
 LoopP (fun I1 (t2:Int) h3=>
 CondP (decide (t2<(x0.len:Int))) (
 (bS t2 x0.len∧∃a4,x0.a=some a4∧
 ∃v5,ae h3 (adr a4 (t2.toNat*3)) 0 (.string v5)∧
 ∃v6,ae h3 (adr a4 (t2.toNat*3)) 1 (.string v6)∧
 ∃v7,ae h3 (adr a4 (t2.toNat*3)) 2 (.int .u64 v7)∧
 HV PG x1 [.agg #[.string v5,.string v6,.int .u64 v7]] [.c .bool] (fun(e8:Bool) h9=>
 CondP e8 (
 K t2 h9) (
 I1 (IntKind.wrap .i64 (t2+1)) h9)) h3)) (
 K (-1) h3)) 0 h0
noncomputable def ke:Ann:=.node .nil (.node (.node .nil (.loop [(8,.c (.int .i64))] .nil)) .nil)
theorem j9(x0:SliceV)(x1:Value){K:cD [.c (.int .i64)]→af→Prop}{h0:af}(h:fQ x0 x1 K h0):HC PG cM [.slice x0.a x0.len x0.cap,x1] [.c (.int .i64)] K h0:=HC.intro (an:=ke) (c:=Tryz.f154.body.getD .skip) Tryz.mixed Tryz.func154 rfl Tryz.call154 (ad rfl) (cT (by kernel_rfl) h)
def yd(x0:ByteArray×ByteArray×Int)(y0:Addr)(y1:Addr)(K:(Bool)→af→Prop)(h0:af):Prop:=
 At (hnew h0 [.string x0.1,.string x0.2.1,.int .u64 x0.2.2] aQ) (fun h1=>
 ∃v2,aL h1 y0=some (v2)∧
 ∃v3,ae h1 (ag h0) 0 (.string v3)∧
 ∃v4,ae h1 (ag h0) 1 (.string v4)∧
 ∃v5,ae h1 (ag h0) 2 (.int .u64 v5)∧
 ∃v6,aL h1 y1=some (.int .i64 v6)∧
 HV PG v2 [.agg #[.string v3,.string v4,.int .u64 v5]] [.c (.int .i64)] (fun(e7:Int) h8=>
 (aL h8 y1=some (.int .i64 v6)∧
 K (e7 !=v6) h8)) h1)
noncomputable def G8:Ann:=.nil
theorem GI(x0:ByteArray×ByteArray×Int)(y0:Addr)(y1:Addr){K:cD [.c .bool]→af→Prop}{h0:af}(h:yd x0 y0 y1 K h0):HC PG sR [.agg #[.string x0.1,.string x0.2.1,.int .u64 x0.2.2],.pointer (some y0),.pointer (some y1)] [.c .bool] K h0:=HC.intro (an:=G8) (c:=Tryz.f155.body.getD .skip) Tryz.mixed Tryz.func155 rfl Tryz.call155 (ad rfl) (cT (by kernel_rfl) h)
def si(x0:Option Addr)(x1:Option Addr)(x2:Int)(x3:ByteArray×ByteArray)(K:(Option Addr)→af→Prop)(h0:af):Prop:=
 At (hnew h0 [.string x3.1,.string x3.2] al) (fun h1=>
 HC PG jP [.pointer x0,.int .i64 x2] [.c .bool] (fun(e2:Bool) h3=>
 CondP (!e2) (
 K x0 h3) (
 HC PG gJ [.pointer x0,.pointer x1] [.c .ptr] (fun(e4:Option Addr) h5=>
 ∃a6,e4=some a6∧
 ∃v7,ae h5 (adr a6 0) 0 (.int .u32 v7)∧
 HC PG ga [.int .u32 v7,.int .i64 x2] [.c .bool] (fun(e8:Bool) h9=>
 CondP e8 (
 ∃a10,e4=some a10∧
 ∃v11:SliceV,ae h9 (adr a10 0) 2 (.slice v11.a v11.len v11.cap)∧
 ∃a12,e4=some a12∧
 ∃v13,ae h9 (adr a12 0) 0 (.int .u32 v13)∧
 ∃v14,ae h9 (ag h0) 0 (.string v14)∧
 ∃v15,ae h9 (ag h0) 1 (.string v15)∧
 HC PG df [.int .u32 v13,.int .i64 x2] [.c (.int .i64)] (fun(e16:Int) h17=>
 ((ae h17 (ag h0) 0 (.string v14)∧ae h17 (ag h0) 1 (.string v15))∧
 (ae h17 (adr a10 0) 2 (.slice v11.a v11.len v11.cap)∧
 (bS e16 v11.len∧∃a18,v11.a=some a18∧
 (dq h17 (some (adr a18 (e16.toNat*2))) 0 [.string v14,.string v15]∧
 At (aX h17 (adr a18 (e16.toNat*2)) 0 [.string v14,.string v15]) (fun h19=>
 K e4 h19)))))) h9) (
 ∃a20,e4=some a20∧
 HC PG jO [.pointer (some (adr a20 0)),.int .i64 x2] [] (fun(e21:Unit) h22=>
 ∃a23,e4=some a23∧
 ∃v24:SliceV,ae h22 (adr a23 0) 2 (.slice v24.a v24.len v24.cap)∧
 ∃a25,e4=some a25∧
 ∃v26,ae h22 (adr a25 0) 0 (.int .u32 v26)∧
 ∃v27,ae h22 (ag h0) 0 (.string v27)∧
 ∃v28,ae h22 (ag h0) 1 (.string v28)∧
 ((HC PG df [.int .u32 v26,.int .i64 x2] [.c (.int .i64)] (fun(e29:Int) h30=>
 ((ae h30 (ag h0) 0 (.string v27)∧ae h30 (ag h0) 1 (.string v28))∧
 (ae h30 (adr a23 0) 2 (.slice v24.a v24.len v24.cap)∧
 At (hnew h30 [.string v27,.string v28] al) (fun h31=>
 (ae h31 (adr a23 0) 2 (.slice v24.a v24.len v24.cap)∧
 HC PG cP [.slice v24.a v24.len v24.cap,.int .i64 e29,.slice (some (ag h30)) 1 1] [.c .slice] (fun(e32:SliceV) h33=>
 ∃a34,e4=some a34∧
 (Wr h33 (adr (adr a34 0) 2)∧
 At (hset h33 (adr (adr a34 0) 2) (.slice e32.a e32.len e32.cap)) (fun h35=>
 ∃a36,e4=some a36∧
 ∃v37,ae h35 (adr a36 0) 0 (.int .u32 v37)∧
 HC PG fF [.int .u32 v37,.int .i64 x2] [.c (.int .u32)] (fun(e38:Int) h39=>
 ∃a40,e4=some a40∧
 (Wr h39 (adr (adr a40 0) 0)∧
 At (hset h39 (adr (adr a40 0) 0) (.int .u32 e38)) (fun h41=>
 K e4 h41))) h35))) h31))))) h22)∧
 At (hnew h22 [.string v27,.string v28] al) (fun h42=>
 (ae h42 (adr a25 0) 0 (.int .u32 v26)∧
 (ae h42 (adr a23 0) 2 (.slice v24.a v24.len v24.cap)∧
 HC PG df [.int .u32 v26,.int .i64 x2] [.c (.int .i64)] (fun(e43:Int) h44=>
 (ae h44 (adr a23 0) 2 (.slice v24.a v24.len v24.cap)∧
 HC PG cP [.slice v24.a v24.len v24.cap,.int .i64 e43,.slice (some (ag h22)) 1 1] [.c .slice] (fun(e45:SliceV) h46=>
 ∃a47,e4=some a47∧
 (Wr h46 (adr (adr a47 0) 2)∧
 At (hset h46 (adr (adr a47 0) 2) (.slice e45.a e45.len e45.cap)) (fun h48=>
 ∃a49,e4=some a49∧
 ∃v50,ae h48 (adr a49 0) 0 (.int .u32 v50)∧
 HC PG fF [.int .u32 v50,.int .i64 x2] [.c (.int .u32)] (fun(e51:Int) h52=>
 ∃a53,e4=some a53∧
 (Wr h52 (adr (adr a53 0) 0)∧
 At (hset h52 (adr (adr a53 0) 0) (.int .u32 e51)) (fun h54=>
 K e4 h54))) h48))) h44)) h42))))) h9)) h5) h3)) h1)
noncomputable def yP:Ann:=.nil
theorem yJ(x0:Option Addr)(x1:Option Addr)(x2:Int)(x3:ByteArray×ByteArray){K:cD [.c .ptr]→af→Prop}{h0:af}(h:si x0 x1 x2 x3 K h0):HC PG dK [.pointer x0,.pointer x1,.int .i64 x2,.agg #[.string x3.1,.string x3.2]] [.c .ptr] K h0:=HC.intro (an:=yP) (c:=Tryz.f156.body.getD .skip) Tryz.mixed Tryz.func156 rfl Tryz.call156 (ad rfl) (cT (by kernel_rfl) h)
def tF(x0:Option Addr)(x1:Option Addr)(x2:Int)(x3:Option Addr)(K:(Option Addr)→af→Prop)(h0:af):Prop:=
 CondP x3.isNone (
 HC PG my [.pointer x0,.pointer x1,.int .i64 x2] [.c .ptr] (fun(e1:Option Addr) h2=>
 K e1 h2) h0) (
 HC PG jP [.pointer x0,.int .i64 x2] [.c .bool] (fun(e3:Bool) h4=>
 CondP (!e3) (
 K x0 h4) (
 HC PG gJ [.pointer x0,.pointer x1] [.c .ptr] (fun(e5:Option Addr) h6=>
 ∃a7,e5=some a7∧
 ∃v8,ae h6 (adr a7 0) 1 (.int .u32 v8)∧
 HC PG ga [.int .u32 v8,.int .i64 x2] [.c .bool] (fun(e9:Bool) h10=>
 CondP e9 (
 ∃a11,e5=some a11∧
 ∃v12:SliceV,ae h10 (adr a11 0) 3 (.slice v12.a v12.len v12.cap)∧
 ∃a13,e5=some a13∧
 ∃v14,ae h10 (adr a13 0) 1 (.int .u32 v14)∧
 HC PG df [.int .u32 v14,.int .i64 x2] [.c (.int .i64)] (fun(e15:Int) h16=>
 (ae h16 (adr a11 0) 3 (.slice v12.a v12.len v12.cap)∧
 (bS e15 v12.len∧∃a17,v12.a=some a17∧
 (Wr h16 (adr a17 (e15.toNat*1))∧
 At (hset h16 (adr a17 (e15.toNat*1)) (.pointer x3)) (fun h18=>
 K e5 h18))))) h10) (
 ∃a19,e5=some a19∧
 HC PG jO [.pointer (some (adr a19 0)),.int .i64 x2] [] (fun(e20:Unit) h21=>
 ∃a22,e5=some a22∧
 ∃v23:SliceV,ae h21 (adr a22 0) 3 (.slice v23.a v23.len v23.cap)∧
 ∃a24,e5=some a24∧
 ∃v25,ae h21 (adr a24 0) 1 (.int .u32 v25)∧
 ((HC PG df [.int .u32 v25,.int .i64 x2] [.c (.int .i64)] (fun(e26:Int) h27=>
 (ae h27 (adr a22 0) 3 (.slice v23.a v23.len v23.cap)∧
 At (hnew h27 [.pointer x3] bO) (fun h28=>
 (ae h28 (adr a22 0) 3 (.slice v23.a v23.len v23.cap)∧
 HC PG cG [.slice v23.a v23.len v23.cap,.int .i64 e26,.slice (some (ag h27)) 1 1] [.c .slice] (fun(e29:SliceV) h30=>
 ∃a31,e5=some a31∧
 (Wr h30 (adr (adr a31 0) 3)∧
 At (hset h30 (adr (adr a31 0) 3) (.slice e29.a e29.len e29.cap)) (fun h32=>
 ∃a33,e5=some a33∧
 ∃v34,ae h32 (adr a33 0) 1 (.int .u32 v34)∧
 HC PG fF [.int .u32 v34,.int .i64 x2] [.c (.int .u32)] (fun(e35:Int) h36=>
 ∃a37,e5=some a37∧
 (Wr h36 (adr (adr a37 0) 1)∧
 At (hset h36 (adr (adr a37 0) 1) (.int .u32 e35)) (fun h38=>
 K e5 h38))) h32))) h28)))) h21)∧
 At (hnew h21 [.pointer x3] bO) (fun h39=>
 (ae h39 (adr a24 0) 1 (.int .u32 v25)∧
 (ae h39 (adr a22 0) 3 (.slice v23.a v23.len v23.cap)∧
 HC PG df [.int .u32 v25,.int .i64 x2] [.c (.int .i64)] (fun(e40:Int) h41=>
 (ae h41 (adr a22 0) 3 (.slice v23.a v23.len v23.cap)∧
 HC PG cG [.slice v23.a v23.len v23.cap,.int .i64 e40,.slice (some (ag h21)) 1 1] [.c .slice] (fun(e42:SliceV) h43=>
 ∃a44,e5=some a44∧
 (Wr h43 (adr (adr a44 0) 3)∧
 At (hset h43 (adr (adr a44 0) 3) (.slice e42.a e42.len e42.cap)) (fun h45=>
 ∃a46,e5=some a46∧
 ∃v47,ae h45 (adr a46 0) 1 (.int .u32 v47)∧
 HC PG fF [.int .u32 v47,.int .i64 x2] [.c (.int .u32)] (fun(e48:Int) h49=>
 ∃a50,e5=some a50∧
 (Wr h49 (adr (adr a50 0) 1)∧
 At (hset h49 (adr (adr a50 0) 1) (.int .u32 e48)) (fun h51=>
 K e5 h51))) h45))) h41)) h39))))) h10)) h6) h4)) h0)
noncomputable def Av:Ann:=.nil
theorem Ai(x0:Option Addr)(x1:Option Addr)(x2:Int)(x3:Option Addr){K:cD [.c .ptr]→af→Prop}{h0:af}(h:tF x0 x1 x2 x3 K h0):HC PG fc [.pointer x0,.pointer x1,.int .i64 x2,.pointer x3] [.c .ptr] K h0:=HC.intro (an:=Av) (c:=Tryz.f157.body.getD .skip) Tryz.mixed Tryz.func157 rfl Tryz.call157 (ad rfl) (cT (by kernel_rfl) h)
def vG(x0:Option Addr)(x1:Option Addr)(K:(Option Addr)→af→Prop)(h0:af):Prop:=
 HC PG ph [.pointer x0,.pointer x1] [.c .bool] (fun(e1:Bool) h2=>
 CondP e1 (
 K x0 h2) (
 ∃a3,x0=some a3∧
 ∃v4,ae h2 a3 0 (.string v4)∧
 ∃v5,ae h2 a3 1 (.bool v5)∧
 ∃v6,ae h2 a3 2 (.string v6)∧
 ∃v7:SliceV,ae h2 a3 3 (.slice v7.a v7.len v7.cap)∧
 ∃v8,ae h2 a3 4 (.pointer v8)∧
 At (hnew h2 [.string (⟨#[]⟩:ByteArray),.bool false,.string (⟨#[]⟩:ByteArray),.slice none 0 0,.pointer none] bM) (fun h9=>
 (dq h9 (some (ag h2)) 0 [.string v4,.bool v5,.string v6,.slice v7.a v7.len v7.cap,.pointer v8]∧
 At (aX h9 (ag h2) 0 [.string v4,.bool v5,.string v6,.slice v7.a v7.len v7.cap,.pointer v8]) (fun h10=>
 ∃a11,x0=some a11∧
 ∃v12:SliceV,ae h10 a11 3 (.slice v12.a v12.len v12.cap)∧
 HC PG cV [.slice v12.a v12.len v12.cap] [.c .slice] (fun(e13:SliceV) h14=>
 (Wr h14 (adr (ag h2) 3)∧
 At (hset h14 (adr (ag h2) 3) (.slice e13.a e13.len e13.cap)) (fun h15=>
 (Wr h15 (adr (ag h2) 4)∧
 At (hset h15 (adr (ag h2) 4) (.pointer none)) (fun h16=>
 HC PG hJ [.pointer x1] [.c .bool] (fun(e17:Bool) h18=>
 CondP e17 (
 (Wr h18 (adr (ag h2) 4)∧
 At (hset h18 (adr (ag h2) 4) (.pointer x1)) (fun h19=>
 K (some (ag h2)) h19))) (
 K (some (ag h2)) h18)) h16))))) h10))))) h0
noncomputable def Dx:Ann:=.nil
theorem Dk(x0:Option Addr)(x1:Option Addr){K:cD [.c .ptr]→af→Prop}{h0:af}(h:vG x0 x1 K h0):HC PG dT [.pointer x0,.pointer x1] [.c .ptr] K h0:=HC.intro (an:=Dx) (c:=Tryz.f158.body.getD .skip) Tryz.mixed Tryz.func158 rfl Tryz.call158 (ad rfl) (cT (by kernel_rfl) h)
def se(x0:Option Addr)(x1:ByteArray)(K:(Option Addr)→af→Prop)(h0:af):Prop:=
 ∃a1,x0=some a1∧
 (Wr h0 (adr a1 1)∧
 At (hset h0 (adr a1 1) (.bool true)) (fun h2=>
 ∃a3,x0=some a3∧
 (Wr h2 (adr a3 2)∧
 At (hset h2 (adr a3 2) (.string x1)) (fun h4=>
 K x0 h4))))
noncomputable def yM:Ann:=.nil
theorem yG(x0:Option Addr)(x1:ByteArray){K:cD [.c .ptr]→af→Prop}{h0:af}(h:se x0 x1 K h0):HC PG km [.pointer x0,.string x1] [.c .ptr] K h0:=HC.intro (an:=yM) (c:=Tryz.f159.body.getD .skip) Tryz.mixed Tryz.func159 rfl Tryz.call159 (ad rfl) (cT (by kernel_rfl) h)
def gi(x0:SliceV)(x1:Int)(x2:SliceV)(K:(SliceV)→af→Prop)(h0:af):Prop:=
 (((0:Int)≤x1∧x1≤((x0.len:Nat):Int))∧
 CondP ((x2.len:Int)==(0:Int)) (
 K x0 h0) (
 CondP (x1==(x0.len:Int)) (
 ∃xs1,SRow h0 x2.a (x2.len*1) xs1∧
 AppP (some [.pointer none]) 1 8 aR x0.a x0.len x0.cap x2.len xs1 h0 (fun s2 h3=>
 K s2 h3)) (
 CondP (decide ((IntKind.wrap .i64 ((x0.len:Int)+(x2.len:Int)))>(x0.cap:Int))) (
 Join (fun(t8:SliceV) h9=>
 (((0:Int)≤x1∧x1≤((t8.len:Nat):Int))∧
 ∃xs10,SRow h9 x2.a (dM x2.len (t8.len-x1.toNat)*1) xs10∧dq h9 (aM t8.a x1.toNat t8.cap 1) 0 xs10∧ce xs10=true∧
 At (fY h9 (aM t8.a x1.toNat t8.cap 1) 0 xs10) (fun h11=>
 (((0:Int)≤(IntKind.wrap .i64 (x1+(x2.len:Int)))∧(IntKind.wrap .i64 (x1+(x2.len:Int)))≤((t8.len:Nat):Int))∧
 Bd (aM t8.a ((IntKind.wrap .i64 (x1+(x2.len:Int))).toNat) t8.cap 1:Option Addr) (fun a12=>Bd (t8.len-((IntKind.wrap .i64 (x1+(x2.len:Int))).toNat):Nat) (fun n13=>Bd (t8.cap-((IntKind.wrap .i64 (x1+(x2.len:Int))).toNat):Nat) (fun n14=>
 (((0:Int)≤x1∧x1≤((x0.len:Nat):Int))∧
 ∃xs15,SRow h11 (aM x0.a x1.toNat x0.cap 1) (dM (x0.len-x1.toNat) n13*1) xs15∧dq h11 a12 0 xs15∧ce xs15=true∧
 At (fY h11 a12 0 xs15) (fun h16=>
 K t8 h16))))))))) (fun J4=>
 (((0:Int)≤x1∧x1≤((x0.cap:Nat):Int))∧
 Bd (IntKind.wrap .i64 ((IntKind.wrap .i64 ((x0.len:Int)+(x2.len:Int)))-x1):Int) (fun n5=>
 (((0:Int)≤n5∧n5*((8:Nat):Int)≤2^48∧n5≤9223372036854775807∧(((x1.toNat-0)+n5.toNat:Nat):Int)≤9223372036854775807)∧
 AppP (some [.pointer none]) 1 8 aR (aM x0.a 0 x0.cap 1) (x1.toNat-0) (x0.cap-0) n5.toNat (dD n5.toNat [.pointer none]) h0 (fun s6 h7=>
 J4 s6 h7)))))) (
 (((0:Int)≤(IntKind.wrap .i64 ((x0.len:Int)+(x2.len:Int)))∧(IntKind.wrap .i64 ((x0.len:Int)+(x2.len:Int)))≤((x0.cap:Nat):Int))∧
 Bd (aM x0.a 0 x0.cap 1:Option Addr) (fun a17=>Bd (((IntKind.wrap .i64 ((x0.len:Int)+(x2.len:Int))).toNat)-0:Nat) (fun n18=>Bd (x0.cap-0:Nat) (fun n19=>
 (((0:Int)≤(IntKind.wrap .i64 (x1+(x2.len:Int)))∧(IntKind.wrap .i64 (x1+(x2.len:Int)))≤((n18:Nat):Int))∧
 Bd (aM a17 ((IntKind.wrap .i64 (x1+(x2.len:Int))).toNat) n19 1:Option Addr) (fun a20=>Bd (n18-((IntKind.wrap .i64 (x1+(x2.len:Int))).toNat):Nat) (fun n21=>Bd (n19-((IntKind.wrap .i64 (x1+(x2.len:Int))).toNat):Nat) (fun n22=>
 HC PG ia [.slice x2.a x2.len x2.cap,.slice a20 n21 n22] [.c .bool] (fun(e23:Bool) h24=>
 CondP (!e23) (
 (((0:Int)≤(IntKind.wrap .i64 (x1+(x2.len:Int)))∧(IntKind.wrap .i64 (x1+(x2.len:Int)))≤((n18:Nat):Int))∧
 Bd (aM a17 ((IntKind.wrap .i64 (x1+(x2.len:Int))).toNat) n19 1:Option Addr) (fun a25=>Bd (n18-((IntKind.wrap .i64 (x1+(x2.len:Int))).toNat):Nat) (fun n26=>Bd (n19-((IntKind.wrap .i64 (x1+(x2.len:Int))).toNat):Nat) (fun n27=>
 (((0:Int)≤x1∧x1≤((n18:Nat):Int))∧
 ∃xs28,SRow h24 (aM a17 x1.toNat n19 1) (dM (n18-x1.toNat) n26*1) xs28∧dq h24 a25 0 xs28∧ce xs28=true∧
 At (fY h24 a25 0 xs28) (fun h29=>
 (((0:Int)≤x1∧x1≤((n18:Nat):Int))∧
 ∃xs30,SRow h29 x2.a (dM x2.len (n18-x1.toNat)*1) xs30∧dq h29 (aM a17 x1.toNat n19 1) 0 xs30∧ce xs30=true∧
 At (fY h29 (aM a17 x1.toNat n19 1) 0 xs30) (fun h31=>
 K ⟨a17,n18,n19⟩ h31))))))))) (
 (((0:Int)≤(x0.len:Int)∧(x0.len:Int)≤((n18:Nat):Int))∧
 ∃xs32,SRow h24 x2.a (dM x2.len (n18-((x0.len:Int).toNat))*1) xs32∧dq h24 (aM a17 ((x0.len:Int).toNat) n19 1) 0 xs32∧ce xs32=true∧
 At (fY h24 (aM a17 ((x0.len:Int).toNat) n19 1) 0 xs32) (fun h33=>
 (((0:Int)≤x1∧x1≤((n18:Nat):Int))∧
 HC PG pI [.slice (aM a17 x1.toNat n19 1) (n18-x1.toNat) (n19-x1.toNat),.int .i64 (x2.len:Int)] [] (fun(e34:Unit) h35=>
 K ⟨a17,n18,n19⟩ h35) h33))))) h0))))))))))))
noncomputable def kT:Ann:=.node .nil (.node .nil (.node .nil (.node .nil (.node .nil (.node .nil (.node (.node .nil (.node (.join [(9,.c .slice)] .nil .nil) .nil)) .nil))))))
theorem kQ(x0:SliceV)(x1:Int)(x2:SliceV){K:cD [.c .slice]→af→Prop}{h0:af}(h:gi x0 x1 x2 K h0):HC PG dY [.slice x0.a x0.len x0.cap,.int .i64 x1,.slice x2.a x2.len x2.cap] [.c .slice] K h0:=HC.intro (an:=kT) (c:=Tryz.f160.body.getD .skip) Tryz.mixed Tryz.func160 rfl Tryz.call160 (ad rfl) (cT (by kernel_rfl) h)
def ze(x0:Option Addr)(x1:ByteArray)(x2:ByteArray)(K:(Option Addr)→af→Prop)(h0:af):Prop:=
 At (hnew h0 [.string (⟨#[]⟩:ByteArray),.bool false,.string (⟨#[]⟩:ByteArray),.slice none 0 0,.pointer none] bM) (fun h1=>
 HC PG dT [.pointer (some (ag h0)),.pointer x0] [.c .ptr] (fun(e2:Option Addr) h3=>
 HC PG ib [.pointer e2,.string x1] [.c .ptr] (fun(e4:Option Addr) h5=>
 HC PG km [.pointer e4,.string x2] [.c .ptr] (fun(e6:Option Addr) h7=>
 K e6 h7) h5) h3) h1)
noncomputable def HX:Ann:=.nil
theorem HF(x0:Option Addr)(x1:ByteArray)(x2:ByteArray){K:cD [.c .ptr]→af→Prop}{h0:af}(h:ze x0 x1 x2 K h0):HC PG uK [.pointer x0,.string x1,.string x2] [.c .ptr] K h0:=HC.intro (an:=HX) (c:=Tryz.f161.body.getD .skip) Tryz.mixed Tryz.func161 rfl Tryz.call161 (ad rfl) (cT (by kernel_rfl) h)
def y9(x0:ByteArray)(x1:ByteArray)(K:(Int)→af→Prop)(h0:af):Prop:=
 Bd (if(x1.size:Int)<(x0.size:Int)then(x1.size:Int)else(x0.size:Int):Int) (fun n1=>
 LoopP (fun I2 (t3:Int) h4=>
 CondP (decide (t3<n1)) (
 ∃b5,(0:Int)≤t3∧x0[t3.toNat]? =some b5∧
 ∃b6,(0:Int)≤t3∧x1[t3.toNat]? =some b6∧
 CondP ((b5.toNat:Int) !=(b6.toNat:Int)) (
 K t3 h4) (
 I2 (IntKind.wrap .i64 (t3+1)) h4)) (
 K n1 h4)) 0 h0)
noncomputable def HT:Ann:=.node .nil (.node .nil (.node (.node .nil (.loop [(13,.c (.int .i64))] .nil)) .nil))
theorem HA(x0:ByteArray)(x1:ByteArray){K:cD [.c (.int .i64)]→af→Prop}{h0:af}(h:y9 x0 x1 K h0):HC PG qZ [.string x0,.string x1] [.c (.int .i64)] K h0:=HC.intro (an:=HT) (c:=Tryz.f162.body.getD .skip) Tryz.mixed Tryz.func162 rfl Tryz.call162 (ad rfl) (cT (by kernel_rfl) h)
def tB(x0:Option Addr)(x1:Option Addr)(x2:Int)(K:(Option Addr)→af→Prop)(h0:af):Prop:=
 ∃a1,x0=some a1∧
 ∃v2,ae h0 a1 0 (.string v2)∧
 (((0:Int)≤x2∧x2≤((v2.size:Nat):Int))∧
 At (hnew h0 [.string (⟨#[]⟩:ByteArray),.bool false,.string (⟨#[]⟩:ByteArray),.slice none 0 0,.pointer none] bM) (fun h3=>
 (ae h3 a1 0 (.string v2)∧
 HC PG dT [.pointer (some (ag h0)),.pointer x1] [.c .ptr] (fun(e4:Option Addr) h5=>
 (ae h5 a1 0 (.string v2)∧
 HC PG ib [.pointer e4,.string (v2.extract 0 x2.toNat)] [.c .ptr] (fun(e6:Option Addr) h7=>
 HC PG dT [.pointer x0,.pointer x1] [.c .ptr] (fun(e8:Option Addr) h9=>
 ∃a10,e8=some a10∧
 ∃v11,ae h9 a10 0 (.string v11)∧
 (((0:Int)≤x2∧x2≤((v11.size:Nat):Int))∧
 HC PG ib [.pointer e8,.string (v11.extract x2.toNat v11.size)] [.c .ptr] (fun(e12:Option Addr) h13=>
 At (hnew h13 [.pointer e12] aR) (fun h14=>
 ∃a15,e6=some a15∧
 (Wr h14 (adr a15 3)∧
 At (hset h14 (adr a15 3) (.slice (some (ag h13)) 1 1)) (fun h16=>
 K e6 h16)))) h9)) h7) h5)) h3)))
noncomputable def Ap:Ann:=.node .nil (.node (.draw (tk [0,2,4,5,6,7,8,9] (.all (.lastT 1 (.all (.lastT 3 (.all (.lastT 10 (.take 11 (.done)))))))))) .nil)
theorem Ae(x0:Option Addr)(x1:Option Addr)(x2:Int){K:cD [.c .ptr]→af→Prop}{h0:af}(h:tB x0 x1 x2 K h0):HC PG pg [.pointer x0,.pointer x1,.int .i64 x2] [.c .ptr] K h0:=HC.intro (an:=Ap) (c:=Tryz.f163.body.getD .skip) Tryz.mixed Tryz.func163 rfl Tryz.call163 (ad rfl) (cT (by kernel_rfl) h)
def qd(x0:Int×Int×Int×(Option Addr)×ByteArray×Int)(x1:ByteArray×ByteArray)(x2:ByteArray×ByteArray)(x3:Int)(K:(Option Addr)→af→Prop)(h0:af):Prop:=
 At (hnew h0 [.int .u64 x0.1,.int .u64 x0.2.1,.int .u64 x0.2.2.1,.pointer x0.2.2.2.1,.string x0.2.2.2.2.1,.int .u64 x0.2.2.2.2.2] cI) (fun h1=>
 At (hnew h1 [.string x1.1,.string x1.2] al) (fun h2=>
 At (hnew h2 [.string x2.1,.string x2.2] al) (fun h3=>
 CondP (x3==(13:Int)) (
 ∃v4,ae h3 (ag h0) 3 (.pointer v4)∧
 ∃v5,ae h3 (ag h1) 0 (.string v5)∧
 ∃v6,ae h3 (ag h1) 1 (.string v6)∧
 ∃v7,ae h3 (ag h0) 3 (.pointer v7)∧
 ∃v8,ae h3 (ag h2) 0 (.string v8)∧
 ∃v9,ae h3 (ag h2) 1 (.string v9)∧
 HC PG re [] [.c .ptr] (fun(e10:Option Addr) h11=>
 ((ae h11 (ag h2) 0 (.string v8)∧ae h11 (ag h2) 1 (.string v9))∧
 (ae h11 (ag h0) 3 (.pointer v7)∧
 ((ae h11 (ag h1) 0 (.string v5)∧ae h11 (ag h1) 1 (.string v6))∧
 (ae h11 (ag h0) 3 (.pointer v4)∧
 HC PG iT [.pointer e10,.pointer v4,.agg #[.string v5,.string v6]] [.c .ptr] (fun(e12:Option Addr) h13=>
 ((ae h13 (ag h2) 0 (.string v8)∧ae h13 (ag h2) 1 (.string v9))∧
 (ae h13 (ag h0) 3 (.pointer v7)∧
 HC PG iT [.pointer e12,.pointer v7,.agg #[.string v8,.string v9]] [.c .ptr] (fun(e14:Option Addr) h15=>
 K e14 h15) h13))) h11))))) h3) (
 ∃v16,ae h3 (adr (ag h0) 0) 0 (.int .u64 v16)∧
 ∃v17,ae h3 (adr (ag h0) 0) 1 (.int .u64 v17)∧
 ∃v18,ae h3 (adr (ag h0) 0) 2 (.int .u64 v18)∧
 ∃v19,ae h3 (ag h1) 0 (.string v19)∧
 ∃v20,ae h3 (ag h0) 5 (.int .u64 v20)∧
 HC PG fE [.agg #[.int .u64 v16,.int .u64 v17,.int .u64 v18],.string v19] [.c (.int .u64)] (fun(e21:Int) h22=>
 (ae h22 (ag h0) 5 (.int .u64 v20)∧
 HC PG lr [.int .u64 e21,.int .i64 x3] [.c (.int .i64)] (fun(e23:Int) h24=>
 (ae h24 (ag h0) 5 (.int .u64 v20)∧
 HC PG lr [.int .u64 v20,.int .i64 x3] [.c (.int .i64)] (fun(e25:Int) h26=>
 CondP (e23==e25) (
 ∃v27,ae h26 (ag h0) 3 (.pointer v27)∧
 ∃v28,ae h26 (ag h0) 0 (.int .u64 v28)∧
 ∃v29,ae h26 (ag h0) 1 (.int .u64 v29)∧
 ∃v30,ae h26 (ag h0) 2 (.int .u64 v30)∧
 ∃v31,ae h26 (ag h0) 3 (.pointer v31)∧
 ∃v32,ae h26 (ag h0) 4 (.string v32)∧
 ∃v33,ae h26 (ag h0) 5 (.int .u64 v33)∧
 ∃v34,ae h26 (ag h1) 0 (.string v34)∧
 ∃v35,ae h26 (ag h1) 1 (.string v35)∧
 ∃v36,ae h26 (ag h2) 0 (.string v36)∧
 ∃v37,ae h26 (ag h2) 1 (.string v37)∧
 HC PG nD [] [.c .ptr] (fun(e38:Option Addr) h39=>
 ((ae h39 (ag h2) 0 (.string v36)∧ae h39 (ag h2) 1 (.string v37))∧
 ((ae h39 (ag h1) 0 (.string v34)∧ae h39 (ag h1) 1 (.string v35))∧
 ((ae h39 (ag h0) 0 (.int .u64 v28)∧ae h39 (ag h0) 1 (.int .u64 v29)∧ae h39 (ag h0) 2 (.int .u64 v30)∧ae h39 (ag h0) 3 (.pointer v31)∧ae h39 (ag h0) 4 (.string v32)∧ae h39 (ag h0) 5 (.int .u64 v33))∧
 (ae h39 (ag h0) 3 (.pointer v27)∧
 HC PG mB [.agg #[.int .u64 v28,.int .u64 v29,.int .u64 v30,.pointer v31,.string v32,.int .u64 v33],.agg #[.string v34,.string v35],.agg #[.string v36,.string v37],.int .i64 (IntKind.wrap .i64 (x3+1))] [.c .ptr] (fun(e40:Option Addr) h41=>
 (ae h41 (ag h0) 3 (.pointer v27)∧
 HC PG fc [.pointer e38,.pointer v27,.int .i64 e23,.pointer e40] [.c .ptr] (fun(e42:Option Addr) h43=>
 K e42 h43) h41)) h39))))) h26) (
 ∃v44,ae h26 (ag h0) 3 (.pointer v44)∧
 ∃v45,ae h26 (ag h1) 0 (.string v45)∧
 ∃v46,ae h26 (ag h1) 1 (.string v46)∧
 ∃v47,ae h26 (ag h0) 3 (.pointer v47)∧
 ∃v48,ae h26 (ag h2) 0 (.string v48)∧
 ∃v49,ae h26 (ag h2) 1 (.string v49)∧
 HC PG nD [] [.c .ptr] (fun(e50:Option Addr) h51=>
 ((ae h51 (ag h2) 0 (.string v48)∧ae h51 (ag h2) 1 (.string v49))∧
 (ae h51 (ag h0) 3 (.pointer v47)∧
 ((ae h51 (ag h1) 0 (.string v45)∧ae h51 (ag h1) 1 (.string v46))∧
 (ae h51 (ag h0) 3 (.pointer v44)∧
 HC PG dK [.pointer e50,.pointer v44,.int .i64 e23,.agg #[.string v45,.string v46]] [.c .ptr] (fun(e52:Option Addr) h53=>
 ((ae h53 (ag h2) 0 (.string v48)∧ae h53 (ag h2) 1 (.string v49))∧
 (ae h53 (ag h0) 3 (.pointer v47)∧
 HC PG dK [.pointer e52,.pointer v47,.int .i64 e25,.agg #[.string v48,.string v49]] [.c .ptr] (fun(e54:Option Addr) h55=>
 K e54 h55) h53))) h51))))) h26)) h24)) h22)) h3))))
noncomputable def Co:Ann:=.nil
theorem uj(x0:Int×Int×Int×(Option Addr)×ByteArray×Int)(x1:ByteArray×ByteArray)(x2:ByteArray×ByteArray)(x3:Int){K:cD [.c .ptr]→af→Prop}{h0:af}(h:qd x0 x1 x2 x3 K h0):HC PG mB [.agg #[.int .u64 x0.1,.int .u64 x0.2.1,.int .u64 x0.2.2.1,.pointer x0.2.2.2.1,.string x0.2.2.2.2.1,.int .u64 x0.2.2.2.2.2],.agg #[.string x1.1,.string x1.2],.agg #[.string x2.1,.string x2.2],.int .i64 x3] [.c .ptr] K h0:=HC.intro (an:=Co) (c:=Tryz.f164.body.getD .skip) Tryz.mixed Tryz.func164 rfl Tryz.call164 (ad rfl) (cT (by kernel_rfl) h)
def uo(x0:Option Addr)(x1:Option Addr)(K:(Option Addr)→af→Prop)(h0:af):Prop:=
 Join (fun(t6:Bool) h7=>
 CondP t6 (
 K x0 h7) (
 ∃a8,x0=some a8∧
 ∃v9:SliceV,ae h7 a8 3 (.slice v9.a v9.len v9.cap)∧
 CondP ((v9.len:Int)==(0:Int)) (
 K none h7) (
 ∃a10,x0=some a10∧
 ∃v11:SliceV,ae h7 a10 3 (.slice v11.a v11.len v11.cap)∧
 (bS 0 v11.len∧∃a12,v11.a=some a12∧
 ∃v13,ae h7 a12 ((0:Int).toNat*1) (.pointer v13)∧
 HC PG dT [.pointer v13,.pointer x1] [.c .ptr] (fun(e14:Option Addr) h15=>
 ∃a16,x0=some a16∧
 ∃v17,ae h15 a16 0 (.string v17)∧
 ∃a18,e14=some a18∧
 ∃v19,ae h15 a18 0 (.string v19)∧
 (((v17.size+v19.size:Nat):Int)≤9223372036854775807∧
 HC PG ib [.pointer e14,.string (v17++v19)] [.c .ptr] (fun(e20:Option Addr) h21=>
 K e20 h21) h15)) h7)))) (fun J1=>
 ∃a2,x0=some a2∧
 ∃v3,ae h0 a2 1 (.bool v3)∧
 CondP v3 (
 J1 true h0) (
 ∃a4,x0=some a4∧
 ∃v5:SliceV,ae h0 a4 3 (.slice v5.a v5.len v5.cap)∧
 J1 (decide ((v5.len:Int)≥(2:Int))) h0))
noncomputable def B7:Ann:=.node .nil (.node (.join [(6,.c .bool)] .nil .nil) (.node .nil (.node (.draw (tr 0 10 (.all (.lastT 10 (.take 11 (.done)))))) .nil)))
theorem Bv(x0:Option Addr)(x1:Option Addr){K:cD [.c .ptr]→af→Prop}{h0:af}(h:uo x0 x1 K h0):HC PG pV [.pointer x0,.pointer x1] [.c .ptr] K h0:=HC.intro (an:=B7) (c:=Tryz.f165.body.getD .skip) Tryz.mixed Tryz.func165 rfl Tryz.call165 (ad rfl) (cT (by kernel_rfl) h)
def gj(x0:SliceV)(x1:Int)(x2:Int)(K:(SliceV)→af→Prop)(h0:af):Prop:=
 (((0:Int)≤(x0.len:Int)∧(x0.len:Int)≤((x0.cap:Nat):Int))∧
 (((0:Int)≤x2∧x2≤(((x0.len:Int).toNat:Nat):Int))∧
 (((0:Int)≤x1∧x1≤((x2.toNat:Nat):Int))∧
 CondP (x1==x2) (
 K x0 h0) (
 Join (fun(t5:SliceV) h6=>
 (((0:Int)≤(x0.len:Int)∧(x0.len:Int)≤((t5.cap:Nat):Int))∧
 (((0:Int)≤(t5.len:Int)∧(t5.len:Int)≤(((x0.len:Int).toNat:Nat):Int))∧
 Bd (aM t5.a ((t5.len:Int).toNat) t5.cap 1:Option Addr) (fun a7=>Bd (((x0.len:Int).toNat)-((t5.len:Int).toNat):Nat) (fun n8=>Bd (t5.cap-((t5.len:Int).toNat):Nat) (fun n9=>
 (dq h6 a7 0 (dD n8 [.pointer none])∧
 At (fY h6 a7 0 (dD n8 [.pointer none])) (fun h10=>
 K t5 h10)))))))) (fun J1=>
 (((0:Int)≤x1∧x1≤((x0.cap:Nat):Int))∧
 (((0:Int)≤x2∧x2≤((x0.len:Nat):Int))∧
 ∃xs2,SRow h0 (aM x0.a x2.toNat x0.cap 1) ((x0.len-x2.toNat)*1) xs2∧
 AppP (some [.pointer none]) 1 8 aR (aM x0.a 0 x0.cap 1) (x1.toNat-0) (x0.cap-0) (x0.len-x2.toNat) xs2 h0 (fun s3 h4=>
 J1 s3 h4))))))))
noncomputable def kU:Ann:=.node .nil (.node .nil (.node .nil (.node .nil (.join [(0,.c .slice)] .nil .nil))))
theorem kR(x0:SliceV)(x1:Int)(x2:Int){K:cD [.c .slice]→af→Prop}{h0:af}(h:gj x0 x1 x2 K h0):HC PG dZ [.slice x0.a x0.len x0.cap,.int .i64 x1,.int .i64 x2] [.c .slice] K h0:=HC.intro (an:=kU) (c:=Tryz.f166.body.getD .skip) Tryz.mixed Tryz.func166 rfl Tryz.call166 (ad rfl) (cT (by kernel_rfl) h)
def vI(x0:Option Addr)(x1:Option Addr)(x2:ByteArray)(K:(Option Addr)→af→Prop)(h0:af):Prop:=
 HC PG dy [.pointer x0] [.c .bool] (fun(e1:Bool) h2=>
 CondP (!e1) (
 K x0 h2) (
 HC PG gJ [.pointer x0,.pointer x1] [.c .ptr] (fun(e3:Option Addr) h4=>
 ∃a5,e3=some a5∧
 ∃v6:SliceV,ae h4 (adr a5 0) 2 (.slice v6.a v6.len v6.cap)∧
 HC PG xJ [.slice v6.a v6.len v6.cap,.string x2] [.c .slice] (fun(e7:SliceV) h8=>
 ∃a9,e3=some a9∧
 (Wr h8 (adr (adr a9 0) 2)∧
 At (hset h8 (adr (adr a9 0) 2) (.slice e7.a e7.len e7.cap)) (fun h10=>
 K e3 h10))) h4) h2)) h0
noncomputable def DB:Ann:=.nil
theorem Dm(x0:Option Addr)(x1:Option Addr)(x2:ByteArray){K:cD [.c .ptr]→af→Prop}{h0:af}(h:vI x0 x1 x2 K h0):HC PG qJ [.pointer x0,.pointer x1,.string x2] [.c .ptr] K h0:=HC.intro (an:=DB) (c:=Tryz.f167.body.getD .skip) Tryz.mixed Tryz.func167 rfl Tryz.call167 (ad rfl) (cT (by kernel_rfl) h)
def uy(x0:Option Addr)(x1:Option Addr)(x2:Int)(K:(Option Addr)→af→Prop)(h0:af):Prop:=
 HC PG jP [.pointer x0,.int .i64 x2] [.c .bool] (fun(e1:Bool) h2=>
 CondP (!e1) (
 K x0 h2) (
 HC PG gJ [.pointer x0,.pointer x1] [.c .ptr] (fun(e3:Option Addr) h4=>
 ∃a5,e3=some a5∧
 HC PG jO [.pointer (some (adr a5 0)),.int .i64 x2] [] (fun(e6:Unit) h7=>
 K e3 h7) h4) h2)) h0
noncomputable def Cg:Ann:=.nil
theorem BE(x0:Option Addr)(x1:Option Addr)(x2:Int){K:cD [.c .ptr]→af→Prop}{h0:af}(h:uy x0 x1 x2 K h0):HC PG my [.pointer x0,.pointer x1,.int .i64 x2] [.c .ptr] K h0:=HC.intro (an:=Cg) (c:=Tryz.f168.body.getD .skip) Tryz.mixed Tryz.func168 rfl Tryz.call168 (ad rfl) (cT (by kernel_rfl) h)
def zm(x0:Option Addr)(K:((ByteArray×ByteArray)×Bool)→af→Prop)(h0:af):Prop:=
 At (hnew h0 [.string (⟨#[]⟩:ByteArray),.string (⟨#[]⟩:ByteArray)] al) (fun h1=>
 Join (fun(t7:Bool) h8=>
 CondP t7 (
 (dq h8 (some (ag h0)) 0 [.string (⟨#[]⟩:ByteArray),.string (⟨#[]⟩:ByteArray)]∧
 At (aX h8 (ag h0) 0 [.string (⟨#[]⟩:ByteArray),.string (⟨#[]⟩:ByteArray)]) (fun h9=>
 ∃v10,ae h9 (ag h0) 0 (.string v10)∧
 ∃v11,ae h9 (ag h0) 1 (.string v11)∧
 K ((v10,v11),false) h9))) (
 HC PG eO [.pointer x0] [.c .slice] (fun(e12:SliceV) h13=>
 (bS 0 e12.len∧∃a14,e12.a=some a14∧
 ∃v15,ae h13 (adr a14 ((0:Int).toNat*2)) 0 (.string v15)∧
 ∃v16,ae h13 (adr a14 ((0:Int).toNat*2)) 1 (.string v16)∧
 (dq h13 (some (ag h0)) 0 [.string v15,.string v16]∧
 At (aX h13 (ag h0) 0 [.string v15,.string v16]) (fun h17=>
 ∃v18,ae h17 (ag h0) 0 (.string v18)∧
 ∃v19,ae h17 (ag h0) 1 (.string v19)∧
 K ((v18,v19),true) h17)))) h8)) (fun J2=>
 HC PG lR [.pointer x0] [.c (.int .i64)] (fun(e3:Int) h4=>
 CondP (e3 !=(1:Int)) (
 J2 true h4) (
 HC PG jQ [.pointer x0] [.c (.int .u32)] (fun(e5:Int) h6=>
 J2 (e5 !=(0:Int)) h6) h4)) h1))
noncomputable def H5:Ann:=.node .nil (.node (.join [(11,.c .bool)] .nil .nil) .nil)
theorem HM(x0:Option Addr){K:cD [.agg [.str,.str],.c .bool]→af→Prop}{h0:af}(h:zm x0 K h0):HC PG uN [.pointer x0] [.agg [.str,.str],.c .bool] K h0:=HC.intro (an:=H5) (c:=Tryz.f169.body.getD .skip) Tryz.mixed Tryz.func169 rfl Tryz.call169 (ad rfl) (cT (by kernel_rfl) h)
def zl(x0:Int)(K:(Bool)→af→Prop)(h0:af):Prop:=
 CondP (decide (x0≥(0:Int))) (
 K (decide (x0<(32:Int))) h0) (
 K false h0)
noncomputable def H4:Ann:=.nil
theorem HL(x0:Int){K:cD [.c .bool]→af→Prop}{h0:af}(h:zl x0 K h0):HC PG oA [.int .i64 x0] [.c .bool] K h0:=HC.intro (an:=H4) (c:=Tryz.f170.body.getD .skip) Tryz.mixed Tryz.func170 rfl Tryz.call170 (ad rfl) (cT (by kernel_rfl) h)
def tH(x0:Int)(K:(Int)→af→Prop)(h0:af):Prop:=
 HC PG kK [.int .u32 x0] [.c (.int .i64)] (fun(e1:Int) h2=>
 K e1 h2) h0
noncomputable def Ax:Ann:=.nil
theorem Ak(x0:Int){K:cD [.c (.int .i64)]→af→Prop}{h0:af}(h:tH x0 K h0):HC PG pj [.int .u32 x0] [.c (.int .i64)] K h0:=HC.intro (an:=Ax) (c:=Tryz.f171.body.getD .skip) Tryz.mixed Tryz.func171 rfl Tryz.call171 (ad rfl) (cT (by kernel_rfl) h)
def iW(x0:SliceV)(x1:Int)(x2:Int)(x3:Int)(x4:Value)(K:(Unit)→af→Prop)(h0:af):Prop:=
 LoopP (fun I1 (t2:Int) h3=>
 CondP (decide ((IntKind.wrap .i64 ((IntKind.wrap .i64 (2*t2))+1))≥x2)) (
 K () h3) (
 Join (fun(t26:Int) h27=>
 (bS (IntKind.wrap .i64 (x3+t2)) x0.len∧∃a28,x0.a=some a28∧
 ∃v29,ae h27 (adr a28 ((IntKind.wrap .i64 (x3+t2)).toNat*5)) 0 (.string v29)∧
 ∃v30,ae h27 (adr a28 ((IntKind.wrap .i64 (x3+t2)).toNat*5)) 1 (.string v30)∧
 ∃v31,ae h27 (adr a28 ((IntKind.wrap .i64 (x3+t2)).toNat*5)) 2 (.string v31)∧
 ∃v32,ae h27 (adr a28 ((IntKind.wrap .i64 (x3+t2)).toNat*5)) 3 (.bool v32)∧
 ∃v33,ae h27 (adr a28 ((IntKind.wrap .i64 (x3+t2)).toNat*5)) 4 (.bool v33)∧
 (bS (IntKind.wrap .i64 (x3+t26)) x0.len∧∃a34,x0.a=some a34∧
 ∃v35,ae h27 (adr a34 ((IntKind.wrap .i64 (x3+t26)).toNat*5)) 0 (.string v35)∧
 ∃v36,ae h27 (adr a34 ((IntKind.wrap .i64 (x3+t26)).toNat*5)) 1 (.string v36)∧
 ∃v37,ae h27 (adr a34 ((IntKind.wrap .i64 (x3+t26)).toNat*5)) 2 (.string v37)∧
 ∃v38,ae h27 (adr a34 ((IntKind.wrap .i64 (x3+t26)).toNat*5)) 3 (.bool v38)∧
 ∃v39,ae h27 (adr a34 ((IntKind.wrap .i64 (x3+t26)).toNat*5)) 4 (.bool v39)∧
 HV PG x4 [.agg #[.string v29,.string v30,.string v31,.bool v32,.bool v33],.agg #[.string v35,.string v36,.string v37,.bool v38,.bool v39]] [.c (.int .i64)] (fun(e40:Int) h41=>
 CondP (!(decide (e40<(0:Int)))) (
 K () h41) (
 (bS (IntKind.wrap .i64 (x3+t26)) x0.len∧∃a42,x0.a=some a42∧
 ∃v43,ae h41 (adr a42 ((IntKind.wrap .i64 (x3+t26)).toNat*5)) 0 (.string v43)∧
 ∃v44,ae h41 (adr a42 ((IntKind.wrap .i64 (x3+t26)).toNat*5)) 1 (.string v44)∧
 ∃v45,ae h41 (adr a42 ((IntKind.wrap .i64 (x3+t26)).toNat*5)) 2 (.string v45)∧
 ∃v46,ae h41 (adr a42 ((IntKind.wrap .i64 (x3+t26)).toNat*5)) 3 (.bool v46)∧
 ∃v47,ae h41 (adr a42 ((IntKind.wrap .i64 (x3+t26)).toNat*5)) 4 (.bool v47)∧
 (bS (IntKind.wrap .i64 (x3+t2)) x0.len∧∃a48,x0.a=some a48∧
 ∃v49,ae h41 (adr a48 ((IntKind.wrap .i64 (x3+t2)).toNat*5)) 0 (.string v49)∧
 ∃v50,ae h41 (adr a48 ((IntKind.wrap .i64 (x3+t2)).toNat*5)) 1 (.string v50)∧
 ∃v51,ae h41 (adr a48 ((IntKind.wrap .i64 (x3+t2)).toNat*5)) 2 (.string v51)∧
 ∃v52,ae h41 (adr a48 ((IntKind.wrap .i64 (x3+t2)).toNat*5)) 3 (.bool v52)∧
 ∃v53,ae h41 (adr a48 ((IntKind.wrap .i64 (x3+t2)).toNat*5)) 4 (.bool v53)∧
 (bS (IntKind.wrap .i64 (x3+t2)) x0.len∧∃a54,x0.a=some a54∧
 (dq h41 (some (adr a54 ((IntKind.wrap .i64 (x3+t2)).toNat*5))) 0 [.string v43,.string v44,.string v45,.bool v46,.bool v47]∧
 At (aX h41 (adr a54 ((IntKind.wrap .i64 (x3+t2)).toNat*5)) 0 [.string v43,.string v44,.string v45,.bool v46,.bool v47]) (fun h55=>
 (bS (IntKind.wrap .i64 (x3+t26)) x0.len∧∃a56,x0.a=some a56∧
 (dq h55 (some (adr a56 ((IntKind.wrap .i64 (x3+t26)).toNat*5))) 0 [.string v49,.string v50,.string v51,.bool v52,.bool v53]∧
 At (aX h55 (adr a56 ((IntKind.wrap .i64 (x3+t26)).toNat*5)) 0 [.string v49,.string v50,.string v51,.bool v52,.bool v53]) (fun h57=>
 I1 t26 h57)))))))))) h27))) (fun J4=>
 Join (fun(t23:Bool) h24=>
 CondP t23 (
 Bd (IntKind.wrap .i64 ((IntKind.wrap .i64 ((IntKind.wrap .i64 (2*t2))+1))+1):Int) (fun n25=>
 J4 n25 h24)) (
 J4 (IntKind.wrap .i64 ((IntKind.wrap .i64 (2*t2))+1)) h24)) (fun J5=>
 Bd (IntKind.wrap .i64 ((IntKind.wrap .i64 ((IntKind.wrap .i64 (2*t2))+1))+1):Int) (fun n6=>
 CondP (decide (n6<x2)) (
 Bd (IntKind.wrap .i64 (x3+(IntKind.wrap .i64 ((IntKind.wrap .i64 (2*t2))+1))):Int) (fun n7=>
 (bS n7 x0.len∧∃a8,x0.a=some a8∧
 ∃v9,ae h3 (adr a8 (n7.toNat*5)) 0 (.string v9)∧
 ∃v10,ae h3 (adr a8 (n7.toNat*5)) 1 (.string v10)∧
 ∃v11,ae h3 (adr a8 (n7.toNat*5)) 2 (.string v11)∧
 ∃v12,ae h3 (adr a8 (n7.toNat*5)) 3 (.bool v12)∧
 ∃v13,ae h3 (adr a8 (n7.toNat*5)) 4 (.bool v13)∧
 Bd (IntKind.wrap .i64 (x3+(IntKind.wrap .i64 ((IntKind.wrap .i64 (2*t2))+1))):Int) (fun n14=>
 (bS (IntKind.wrap .i64 (n14+1)) x0.len∧∃a15,x0.a=some a15∧
 ∃v16,ae h3 (adr a15 ((IntKind.wrap .i64 (n14+1)).toNat*5)) 0 (.string v16)∧
 ∃v17,ae h3 (adr a15 ((IntKind.wrap .i64 (n14+1)).toNat*5)) 1 (.string v17)∧
 ∃v18,ae h3 (adr a15 ((IntKind.wrap .i64 (n14+1)).toNat*5)) 2 (.string v18)∧
 ∃v19,ae h3 (adr a15 ((IntKind.wrap .i64 (n14+1)).toNat*5)) 3 (.bool v19)∧
 ∃v20,ae h3 (adr a15 ((IntKind.wrap .i64 (n14+1)).toNat*5)) 4 (.bool v20)∧
 HV PG x4 [.agg #[.string v9,.string v10,.string v11,.bool v12,.bool v13],.agg #[.string v16,.string v17,.string v18,.bool v19,.bool v20]] [.c (.int .i64)] (fun(e21:Int) h22=>
 J5 (decide (e21<(0:Int))) h22) h3))))) (
 J5 false h3)))))) x1 h0
noncomputable def od:Ann:=.node .nil (.loop [(10,.c (.int .i64))] (.node .nil (.node .nil (.join [(11,.c (.int .i64))] (.join [(40,.c .bool)] .nil .nil) .nil))))
theorem nZ(x0:SliceV)(x1:Int)(x2:Int)(x3:Int)(x4:Value){K:cD []→af→Prop}{h0:af}(h:iW x0 x1 x2 x3 x4 K h0):HC PG dJ [.slice x0.a x0.len x0.cap,.int .i64 x1,.int .i64 x2,.int .i64 x3,x4] [] K h0:=HC.intro (an:=od) (c:=Tryz.f172.body.getD .skip) Tryz.mixed Tryz.func172 rfl Tryz.call172 (ad rfl) (cT (by kernel_rfl) h)
def pG(x0:Int)(K:(Int)→af→Prop)(h0:af):Prop:=
 HC PG oT [.int .u64 (IntKind.wrap .u64 x0)] [.c (.int .i64)] (fun(e1:Int) h2=>
 ((0:Int)≤e1∧
 K (IntKind.wrap .u64 (1*2^(min (e1:Int).toNat (IntKind.bits .u64)))) h2)) h0
noncomputable def vN:Ann:=.nil
theorem vt(x0:Int){K:cD [.c (.int .u64)]→af→Prop}{h0:af}(h:pG x0 K h0):HC PG kJ [.int .i64 x0] [.c (.int .u64)] K h0:=HC.intro (an:=vN) (c:=Tryz.f173.body.getD .skip) Tryz.mixed Tryz.func173 rfl Tryz.call173 (ad rfl) (cT (by kernel_rfl) h)
end Go.Proofs
