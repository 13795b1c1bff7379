/- A part of the proof that the named laws of this program answer true, whatever the input. -/
import Derived.Test.YtncppacbfagpgaaGreatDoorTreeF
set_option maxRecDepth 100000
set_option linter.unusedVariables false
open Array renaming size→bF,setIfInBounds→bv
open BitVec renaming ofInt→ap
open Int renaming fdiv→di
open Nat renaming le_of_ble_eq_true→ad,min→dz
namespace Go.Proofs
open Go.Lift
def xj(x0:SliceV)(x1:ByteArray)(K:(SliceV)→ae→Prop)(h0:ae):Prop:=
 (((0:Int)≤(x0.len:Int)∧(x0.len:Int)≤((x0.cap:Nat):Int))∧
 (((0:Int)≤(x0.len:Int)∧(x0.len:Int)≤(((x0.len:Int).toNat:Nat):Int))∧
 HC PG kH [.slice (aN x0.a 0 ((x0.len:Int).toNat) 1) (((x0.len:Int).toNat)-0) (((x0.len:Int).toNat)-0),.int .u64 (IntKind.wrap .u64 (x1.size:Int)),.int .i64 2] [.c .slice] (fun(e1:SliceV) h2=>
 AppP (some [.int .u8 0]) 1 1 dQ e1.a e1.len e1.cap x1.size (dq x1) h2 (fun s3 h4=>
 K s3 h4)) h0))
noncomputable def Ff:Ann:=.nil
theorem E1(x0:SliceV)(x1:ByteArray){K:cJ [.c .slice]→ae→Prop}{h0:ae}(h:xj x0 x1 K h0):HC PG kV [.slice x0.a x0.len x0.cap,.string x1] [.c .slice] K h0:=HC.intro (an:=Ff) (c:=Tryz.f193.body.getD .skip) Tryz.mixed Tryz.func193 rfl Tryz.call193 (ad rfl) (dF (by kernel_rfl) h)
def uL(x0:SliceV)(x1:SliceV)(K:(SliceV)→ae→Prop)(h0:ae):Prop:=
 LoopP (fun I1 (t2:SliceV×Int) h3=>
 CondP (decide (t2.2<(x1.len:Int))) (
 (cQ t2.2 x1.len∧∃a4,x1.a=some a4∧
 ∃v5,af h3 (adr a4 (t2.2.toNat*2)) 0 (.string v5)∧
 ∃v6,af h3 (adr a4 (t2.2.toNat*2)) 1 (.string v6)∧
 At (hnew h3 [.string (⟨#[]⟩:ByteArray),.string (⟨#[]⟩:ByteArray)] aj) (fun h7=>
 (fV h7 (some (ag h3)) 0 [.string v5,.string v6]∧
 At (bP h7 (ag h3) 0 [.string v5,.string v6]) (fun h8=>
 ∃v9,af h8 (ag h3) 0 (.string v9)∧
 ∃v10,af h8 (ag h3) 1 (.string v10)∧
 HC PG kV [.slice t2.1.a t2.1.len t2.1.cap,.string v9] [.c .slice] (fun(e11:SliceV) h12=>
 (af h12 (ag h3) 1 (.string v10)∧
 HC PG kV [.slice e11.a e11.len e11.cap,.string v10] [.c .slice] (fun(e13:SliceV) h14=>
 I1 (e13,IntKind.wrap .i64 (t2.2+1)) h14) h12)) h8))))) (
 K t2.1 h3)) (x0,0) h0
noncomputable def C0:Ann:=.node .nil (.node (.node .nil (.loop [(0,.c .slice),(9,.c (.int .i64))] .nil)) .nil)
theorem CC(x0:SliceV)(x1:SliceV){K:cJ [.c .slice]→ae→Prop}{h0:ae}(h:uL x0 x1 K h0):HC PG nZ [.slice x0.a x0.len x0.cap,.slice x1.a x1.len x1.cap] [.c .slice] K h0:=HC.intro (an:=C0) (c:=Tryz.f194.body.getD .skip) Tryz.mixed Tryz.func194 rfl Tryz.call194 (ad rfl) (dF (by kernel_rfl) h)
def tI(x0:SliceV)(x1:Int)(x2:Int)(K:(SliceV)→ae→Prop)(h0:ae):Prop:=
 LoopP (fun I1 (t2:SliceV×Int) h3=>
 CondP (decide (t2.2<x2)) (
 Join (fun(t10:SliceV) h11=>
 I1 (t10,IntKind.wrap .i64 (t2.2+1)) h11) (fun J4=>
 ((0:Int)≤(IntKind.wrap .i64 (8*t2.2))∧
 Bd (di x1 (2^(min (IntKind.wrap .i64 (8*t2.2):Int).toNat (IntKind.bits .u64))):Int) (fun n5=>
 At (hnew h3 [.int .u8 (IntKind.wrap .u8 n5)] dQ) (fun h6=>
 ∃xs7,SRow h6 (some (ag h3)) (1*1) xs7∧
 AppP (some [.int .u8 0]) 1 1 dQ t2.1.a t2.1.len t2.1.cap 1 xs7 h6 (fun s8 h9=>
 J4 s8 h9)))))) (
 K t2.1 h3)) (x0,0) h0
noncomputable def GQ:Ann:=.node .nil (.node (.node .nil (.loop [(0,.c .slice),(9,.c (.int .i64))] (.node .nil (.node .nil (.join [(0,.c .slice)] .nil .nil))))) .nil)
theorem zw(x0:SliceV)(x1:Int)(x2:Int){K:cJ [.c .slice]→ae→Prop}{h0:ae}(h:tI x0 x1 x2 K h0):HC PG kH [.slice x0.a x0.len x0.cap,.int .u64 x1,.int .i64 x2] [.c .slice] K h0:=HC.intro (an:=GQ) (c:=Tryz.f195.body.getD .skip) Tryz.mixed Tryz.func195 rfl Tryz.call195 (ad rfl) (dF (by kernel_rfl) h)
def oT(x0:Option Addr)(K:(Int)→ae→Prop)(h0:ae):Prop:=
 CondP x0.isNone (
 K 0 h0) (
 ∃a1,x0=some a1∧
 ∃v2:SliceV,af h0 (adr a1 0) 2 (.slice v2.a v2.len v2.cap)∧
 ∃a3,x0=some a3∧
 ∃v4:SliceV,af h0 (adr a3 0) 3 (.slice v4.a v4.len v4.cap)∧
 K (IntKind.wrap .i64 ((v2.len:Int)+(v4.len:Int))) h0)
noncomputable def zY:Ann:=.nil
theorem sF(x0:Option Addr){K:cJ [.c (.int .i64)]→ae→Prop}{h0:ae}(h:oT x0 K h0):HC PG jE [.pointer x0] [.c (.int .i64)] K h0:=HC.intro (an:=zY) (c:=Tryz.f196.body.getD .skip) Tryz.mixed Tryz.func196 rfl Tryz.call196 (ad rfl) (dF (by kernel_rfl) h)
def rG(x0:Option Addr)(K:(Int)→ae→Prop)(h0:ae):Prop:=
 CondP x0.isNone (
 K 0 h0) (
 ∃a1,x0=some a1∧
 ∃v2,af h0 (adr a1 0) 0 (.int .u32 v2)∧
 K v2 h0)
noncomputable def yR:Ann:=.nil
theorem yE(x0:Option Addr){K:cJ [.c (.int .u32)]→ae→Prop}{h0:ae}(h:rG x0 K h0):HC PG iV [.pointer x0] [.c (.int .u32)] K h0:=HC.intro (an:=yR) (c:=Tryz.f197.body.getD .skip) Tryz.mixed Tryz.func197 rfl Tryz.call197 (ad rfl) (dF (by kernel_rfl) h)
def qB(x0:Option Addr)(K:(Int)→ae→Prop)(h0:ae):Prop:=
 CondP x0.isNone (
 K 0 h0) (
 ∃a1,x0=some a1∧
 ∃v2,af h0 (adr a1 0) 1 (.int .u32 v2)∧
 K v2 h0)
noncomputable def xM:Ann:=.nil
theorem xa(x0:Option Addr){K:cJ [.c (.int .u32)]→ae→Prop}{h0:ae}(h:qB x0 K h0):HC PG fq [.pointer x0] [.c (.int .u32)] K h0:=HC.intro (an:=xM) (c:=Tryz.f198.body.getD .skip) Tryz.mixed Tryz.func198 rfl Tryz.call198 (ad rfl) (dF (by kernel_rfl) h)
def eR(x0:SliceV)(x1:Value)(K:(Int)→ae→Prop)(h0:ae):Prop:=
 LoopP (fun I1 (t2:Int) h3=>
 CondP (decide (t2<(x0.len:Int))) (
 (cQ t2 x0.len∧∃a4,x0.a=some a4∧
 ∃v5,af h3 a4 (t2.toNat*1) (.pointer v5)∧
 HV PG x1 [.pointer v5] [.c .bool] (fun(e6:Bool) h7=>
 CondP e6 (
 K t2 h7) (
 I1 (IntKind.wrap .i64 (t2+1)) h7)) h3)) (
 K (-1) h3)) 0 h0
noncomputable def iD:Ann:=.node .nil (.node (.node .nil (.loop [(8,.c (.int .i64))] .nil)) .nil)
theorem iB(x0:SliceV)(x1:Value){K:cJ [.c (.int .i64)]→ae→Prop}{h0:ae}(h:eR x0 x1 K h0):HC PG eO [.slice x0.a x0.len x0.cap,x1] [.c (.int .i64)] K h0:=HC.intro (an:=iD) (c:=Tryz.f202.body.getD .skip) Tryz.mixed Tryz.func202 rfl Tryz.call202 (ad rfl) (dF (by kernel_rfl) h)
def nr(x0:Option Addr)(K:(Bool)→ae→Prop)(h0:ae):Prop:=
 HC PG iK [.pointer x0] [.c .bool] (fun(e1:Bool) h2=>
 K (!e1) h2) h0
noncomputable def sP:Ann:=.nil
theorem sO(x0:Option Addr){K:cJ [.c .bool]→ae→Prop}{h0:ae}(h:nr x0 K h0):HC PG nq [.pointer x0] [.c .bool] K h0:=HC.intro (an:=sP) (c:=Tryz.f203.body.getD .skip) Tryz.mixed Tryz.func203 rfl Tryz.call203 (ad rfl) (dF (by kernel_rfl) h)
def xp(x0:SliceV)(K:(Bool)→ae→Prop)(h0:ae):Prop:=
 LoopP (fun I1 (t2:Int) h3=>
 CondP (decide (t2<(x0.len:Int))) (
 (cQ (IntKind.wrap .i64 (t2-1)) x0.len∧∃a4,x0.a=some a4∧
 ∃v5,af h3 (adr a4 ((IntKind.wrap .i64 (t2-1)).toNat*2)) 0 (.string v5)∧
 (cQ t2 x0.len∧∃a6,x0.a=some a6∧
 ∃v7,af h3 (adr a6 (t2.toNat*2)) 0 (.string v7)∧
 CondP (!(Op.bytesLess v5.toList v7.toList)) (
 K false h3) (
 I1 (IntKind.wrap .i64 (t2+1)) h3)))) (
 K true h3)) 1 h0
noncomputable def Fl:Ann:=.node .nil (.node (.node .nil (.loop [(3,.c (.int .i64))] .nil)) .nil)
theorem E6(x0:SliceV){K:cJ [.c .bool]→ae→Prop}{h0:ae}(h:xp x0 K h0):HC PG r9 [.slice x0.a x0.len x0.cap] [.c .bool] K h0:=HC.intro (an:=Fl) (c:=Tryz.f204.body.getD .skip) Tryz.mixed Tryz.func204 rfl Tryz.call204 (ad rfl) (dF (by kernel_rfl) h)
def uM(x0:Int)(x1:SliceV)(K:(Bool)→ae→Prop)(h0:ae):Prop:=
 LoopP (fun I1 (t2:Int) h3=>
 CondP (decide (t2<(x1.len:Int))) (
 (cQ t2 x1.len∧∃a4,x1.a=some a4∧
 ∃v5,af h3 a4 (t2.toNat*1) (.int .i64 v5)∧
 HC PG jr [.int .u64 x0,.int .i64 t2] [.c (.int .i64)] (fun(e6:Int) h7=>
 CondP (e6 !=v5) (
 K false h7) (
 I1 (IntKind.wrap .i64 (t2+1)) h7)) h3)) (
 K true h3)) 0 h0
noncomputable def C1:Ann:=.node .nil (.node (.node .nil (.loop [(9,.c (.int .i64))] .nil)) .nil)
theorem CD(x0:Int)(x1:SliceV){K:cJ [.c .bool]→ae→Prop}{h0:ae}(h:uM x0 x1 K h0):HC PG lN [.int .u64 x0,.slice x1.a x1.len x1.cap] [.c .bool] K h0:=HC.intro (an:=C1) (c:=Tryz.f205.body.getD .skip) Tryz.mixed Tryz.func205 rfl Tryz.call205 (ad rfl) (dF (by kernel_rfl) h)
def yH(x0:Int)(K:(Value)→ae→Prop)(h0:ae):Prop:=
 At (hnew h0 [.int .u32 x0] rN) (fun h1=>
 K (.func (.func gR) #[] #[.pointer (some (ag h0))]) h1)
noncomputable def yU:Ann:=.nil
theorem ru(x0:Int){K:cJ [.c .raw]→ae→Prop}{h0:ae}(h:yH x0 K h0):HC PG kY [.int .u32 x0] [.c .raw] K h0:=HC.intro (an:=yU) (c:=Tryz.f206.body.getD .skip) Tryz.mixed Tryz.func206 rfl Tryz.call206 (ad rfl) (dF (by kernel_rfl) h)
def rC(x0:Option Addr)(x1:Option Addr)(K:(Option Addr)→ae→Prop)(h0:ae):Prop:=
 HC PG ml [.pointer x0,.pointer x1] [.c .bool] (fun(e1:Bool) h2=>
 CondP e1 (
 K x0 h2) (
 ∃a3,x0=some a3∧
 ∃v4,af h2 a3 0 (.string v4)∧
 ∃v5,af h2 a3 1 (.bool v5)∧
 ∃v6,af h2 a3 2 (.string v6)∧
 ∃v7:SliceV,af h2 a3 3 (.slice v7.a v7.len v7.cap)∧
 ∃v8,af h2 a3 4 (.pointer v8)∧
 At (hnew h2 [.string (⟨#[]⟩:ByteArray),.bool false,.string (⟨#[]⟩:ByteArray),.slice none 0 0,.pointer none] bj) (fun h9=>
 (fV h9 (some (ag h2)) 0 [.string v4,.bool v5,.string v6,.slice v7.a v7.len v7.cap,.pointer v8]∧
 At (bP h9 (ag h2) 0 [.string v4,.bool v5,.string v6,.slice v7.a v7.len v7.cap,.pointer v8]) (fun h10=>
 ∃a11,x0=some a11∧
 ∃v12:SliceV,af h10 a11 3 (.slice v12.a v12.len v12.cap)∧
 HC PG cL [.slice v12.a v12.len v12.cap] [.c .slice] (fun(e13:SliceV) h14=>
 (Wr h14 (adr (ag h2) 3)∧
 At (hset h14 (adr (ag h2) 3) (.slice e13.a e13.len e13.cap)) (fun h15=>
 (Wr h15 (adr (ag h2) 4)∧
 At (hset h15 (adr (ag h2) 4) (.pointer none)) (fun h16=>
 HC PG fN [.pointer x1] [.c .bool] (fun(e17:Bool) h18=>
 CondP e17 (
 (Wr h18 (adr (ag h2) 4)∧
 At (hset h18 (adr (ag h2) 4) (.pointer x1)) (fun h19=>
 K (some (ag h2)) h19))) (
 K (some (ag h2)) h18)) h16))))) h10))))) h0
noncomputable def yN:Ann:=.nil
theorem yA(x0:Option Addr)(x1:Option Addr){K:cJ [.c .ptr]→ae→Prop}{h0:ae}(h:rC x0 x1 K h0):HC PG dC [.pointer x0,.pointer x1] [.c .ptr] K h0:=HC.intro (an:=yN) (c:=Tryz.f207.body.getD .skip) Tryz.mixed Tryz.func207 rfl Tryz.call207 (ad rfl) (dF (by kernel_rfl) h)
def o9(x0:Option Addr)(x1:ByteArray)(K:(Option Addr)→ae→Prop)(h0:ae):Prop:=
 ∃a1,x0=some a1∧
 (Wr h0 (adr a1 1)∧
 At (hset h0 (adr a1 1) (.bool true)) (fun h2=>
 ∃a3,x0=some a3∧
 (Wr h2 (adr a3 2)∧
 At (hset h2 (adr a3 2) (.string x1)) (fun h4=>
 K x0 h4))))
noncomputable def uq:Ann:=.nil
theorem ui(x0:Option Addr)(x1:ByteArray){K:cJ [.c .ptr]→ae→Prop}{h0:ae}(h:o9 x0 x1 K h0):HC PG iI [.pointer x0,.string x1] [.c .ptr] K h0:=HC.intro (an:=uq) (c:=Tryz.f208.body.getD .skip) Tryz.mixed Tryz.func208 rfl Tryz.call208 (ad rfl) (dF (by kernel_rfl) h)
def fj(x0:SliceV)(x1:Int)(x2:SliceV)(K:(SliceV)→ae→Prop)(h0:ae):Prop:=
 (((0:Int)≤x1∧x1≤((x0.len:Nat):Int))∧
 CondP ((x2.len:Int)==(0:Int)) (
 K x0 h0) (
 CondP (x1==(x0.len:Int)) (
 ∃xs1,SRow h0 x2.a (x2.len*1) xs1∧
 AppP (some [.pointer none]) 1 8 aK x0.a x0.len x0.cap x2.len xs1 h0 (fun s2 h3=>
 K s2 h3)) (
 CondP (decide ((IntKind.wrap .i64 ((x0.len:Int)+(x2.len:Int)))>(x0.cap:Int))) (
 Join (fun(t8:SliceV) h9=>
 (((0:Int)≤x1∧x1≤((t8.len:Nat):Int))∧
 ∃xs10,SRow h9 x2.a (dz x2.len (t8.len-x1.toNat)*1) xs10∧fV h9 (aN t8.a x1.toNat t8.cap 1) 0 xs10∧bS xs10=true∧
 At (fe h9 (aN t8.a x1.toNat t8.cap 1) 0 xs10) (fun h11=>
 (((0:Int)≤(IntKind.wrap .i64 (x1+(x2.len:Int)))∧(IntKind.wrap .i64 (x1+(x2.len:Int)))≤((t8.len:Nat):Int))∧
 Bd (aN t8.a ((IntKind.wrap .i64 (x1+(x2.len:Int))).toNat) t8.cap 1:Option Addr) (fun a12=>Bd (t8.len-((IntKind.wrap .i64 (x1+(x2.len:Int))).toNat):Nat) (fun n13=>Bd (t8.cap-((IntKind.wrap .i64 (x1+(x2.len:Int))).toNat):Nat) (fun n14=>
 (((0:Int)≤x1∧x1≤((x0.len:Nat):Int))∧
 ∃xs15,SRow h11 (aN x0.a x1.toNat x0.cap 1) (dz (x0.len-x1.toNat) n13*1) xs15∧fV h11 a12 0 xs15∧bS xs15=true∧
 At (fe h11 a12 0 xs15) (fun h16=>
 K t8 h16))))))))) (fun J4=>
 (((0:Int)≤x1∧x1≤((x0.cap:Nat):Int))∧
 Bd (IntKind.wrap .i64 ((IntKind.wrap .i64 ((x0.len:Int)+(x2.len:Int)))-x1):Int) (fun n5=>
 (((0:Int)≤n5∧n5*((8:Nat):Int)≤2^48∧n5≤9223372036854775807∧(((x1.toNat-0)+n5.toNat:Nat):Int)≤9223372036854775807)∧
 AppP (some [.pointer none]) 1 8 aK (aN x0.a 0 x0.cap 1) (x1.toNat-0) (x0.cap-0) n5.toNat (dd n5.toNat [.pointer none]) h0 (fun s6 h7=>
 J4 s6 h7)))))) (
 (((0:Int)≤(IntKind.wrap .i64 ((x0.len:Int)+(x2.len:Int)))∧(IntKind.wrap .i64 ((x0.len:Int)+(x2.len:Int)))≤((x0.cap:Nat):Int))∧
 Bd (aN x0.a 0 x0.cap 1:Option Addr) (fun a17=>Bd (((IntKind.wrap .i64 ((x0.len:Int)+(x2.len:Int))).toNat)-0:Nat) (fun n18=>Bd (x0.cap-0:Nat) (fun n19=>
 (((0:Int)≤(IntKind.wrap .i64 (x1+(x2.len:Int)))∧(IntKind.wrap .i64 (x1+(x2.len:Int)))≤((n18:Nat):Int))∧
 Bd (aN a17 ((IntKind.wrap .i64 (x1+(x2.len:Int))).toNat) n19 1:Option Addr) (fun a20=>Bd (n18-((IntKind.wrap .i64 (x1+(x2.len:Int))).toNat):Nat) (fun n21=>Bd (n19-((IntKind.wrap .i64 (x1+(x2.len:Int))).toNat):Nat) (fun n22=>
 HC PG fO [.slice x2.a x2.len x2.cap,.slice a20 n21 n22] [.c .bool] (fun(e23:Bool) h24=>
 CondP (!e23) (
 (((0:Int)≤(IntKind.wrap .i64 (x1+(x2.len:Int)))∧(IntKind.wrap .i64 (x1+(x2.len:Int)))≤((n18:Nat):Int))∧
 Bd (aN a17 ((IntKind.wrap .i64 (x1+(x2.len:Int))).toNat) n19 1:Option Addr) (fun a25=>Bd (n18-((IntKind.wrap .i64 (x1+(x2.len:Int))).toNat):Nat) (fun n26=>Bd (n19-((IntKind.wrap .i64 (x1+(x2.len:Int))).toNat):Nat) (fun n27=>
 (((0:Int)≤x1∧x1≤((n18:Nat):Int))∧
 ∃xs28,SRow h24 (aN a17 x1.toNat n19 1) (dz (n18-x1.toNat) n26*1) xs28∧fV h24 a25 0 xs28∧bS xs28=true∧
 At (fe h24 a25 0 xs28) (fun h29=>
 (((0:Int)≤x1∧x1≤((n18:Nat):Int))∧
 ∃xs30,SRow h29 x2.a (dz x2.len (n18-x1.toNat)*1) xs30∧fV h29 (aN a17 x1.toNat n19 1) 0 xs30∧bS xs30=true∧
 At (fe h29 (aN a17 x1.toNat n19 1) 0 xs30) (fun h31=>
 K ⟨a17,n18,n19⟩ h31))))))))) (
 (((0:Int)≤(x0.len:Int)∧(x0.len:Int)≤((n18:Nat):Int))∧
 ∃xs32,SRow h24 x2.a (dz x2.len (n18-((x0.len:Int).toNat))*1) xs32∧fV h24 (aN a17 ((x0.len:Int).toNat) n19 1) 0 xs32∧bS xs32=true∧
 At (fe h24 (aN a17 ((x0.len:Int).toNat) n19 1) 0 xs32) (fun h33=>
 (((0:Int)≤x1∧x1≤((n18:Nat):Int))∧
 HC PG mA [.slice (aN a17 x1.toNat n19 1) (n18-x1.toNat) (n19-x1.toNat),.int .i64 (x2.len:Int)] [] (fun(e34:Unit) h35=>
 K ⟨a17,n18,n19⟩ h35) h33))))) h0))))))))))))
noncomputable def jd:Ann:=.node .nil (.node .nil (.node .nil (.node .nil (.node .nil (.node .nil (.node (.node .nil (.node (.join [(9,.c .slice)] .nil .nil) .nil)) .nil))))))
theorem ja(x0:SliceV)(x1:Int)(x2:SliceV){K:cJ [.c .slice]→ae→Prop}{h0:ae}(h:fj x0 x1 x2 K h0):HC PG dJ [.slice x0.a x0.len x0.cap,.int .i64 x1,.slice x2.a x2.len x2.cap] [.c .slice] K h0:=HC.intro (an:=jd) (c:=Tryz.f209.body.getD .skip) Tryz.mixed Tryz.func209 rfl Tryz.call209 (ad rfl) (dF (by kernel_rfl) h)
def uO(x0:Option Addr)(x1:ByteArray)(x2:ByteArray)(K:(Option Addr)→ae→Prop)(h0:ae):Prop:=
 At (hnew h0 [.string (⟨#[]⟩:ByteArray),.bool false,.string (⟨#[]⟩:ByteArray),.slice none 0 0,.pointer none] bj) (fun h1=>
 HC PG dC [.pointer (some (ag h0)),.pointer x0] [.c .ptr] (fun(e2:Option Addr) h3=>
 HC PG fP [.pointer e2,.string x1] [.c .ptr] (fun(e4:Option Addr) h5=>
 HC PG iI [.pointer e4,.string x2] [.c .ptr] (fun(e6:Option Addr) h7=>
 K e6 h7) h5) h3) h1)
noncomputable def C4:Ann:=.nil
theorem CF(x0:Option Addr)(x1:ByteArray)(x2:ByteArray){K:cJ [.c .ptr]→ae→Prop}{h0:ae}(h:uO x0 x1 x2 K h0):HC PG qL [.pointer x0,.string x1,.string x2] [.c .ptr] K h0:=HC.intro (an:=C4) (c:=Tryz.f210.body.getD .skip) Tryz.mixed Tryz.func210 rfl Tryz.call210 (ad rfl) (dF (by kernel_rfl) h)
def uJ(x0:ByteArray)(x1:ByteArray)(K:(Int)→ae→Prop)(h0:ae):Prop:=
 Bd (if(x1.size:Int)<(x0.size:Int)then(x1.size:Int)else(x0.size:Int):Int) (fun n1=>
 LoopP (fun I2 (t3:Int) h4=>
 CondP (decide (t3<n1)) (
 ∃b5,(0:Int)≤t3∧x0[t3.toNat]? =some b5∧
 ∃b6,(0:Int)≤t3∧x1[t3.toNat]? =some b6∧
 CondP ((b5.toNat:Int) !=(b6.toNat:Int)) (
 K t3 h4) (
 I2 (IntKind.wrap .i64 (t3+1)) h4)) (
 K n1 h4)) 0 h0)
noncomputable def CY:Ann:=.node .nil (.node .nil (.node (.node .nil (.loop [(13,.c (.int .i64))] .nil)) .nil))
theorem CA(x0:ByteArray)(x1:ByteArray){K:cJ [.c (.int .i64)]→ae→Prop}{h0:ae}(h:uJ x0 x1 K h0):HC PG nW [.string x0,.string x1] [.c (.int .i64)] K h0:=HC.intro (an:=CY) (c:=Tryz.f211.body.getD .skip) Tryz.mixed Tryz.func211 rfl Tryz.call211 (ad rfl) (dF (by kernel_rfl) h)
def pO(x0:Option Addr)(x1:Option Addr)(x2:Int)(K:(Option Addr)→ae→Prop)(h0:ae):Prop:=
 ∃a1,x0=some a1∧
 ∃v2,af h0 a1 0 (.string v2)∧
 (((0:Int)≤x2∧x2≤((v2.size:Nat):Int))∧
 At (hnew h0 [.string (⟨#[]⟩:ByteArray),.bool false,.string (⟨#[]⟩:ByteArray),.slice none 0 0,.pointer none] bj) (fun h3=>
 (af h3 a1 0 (.string v2)∧
 HC PG dC [.pointer (some (ag h0)),.pointer x1] [.c .ptr] (fun(e4:Option Addr) h5=>
 (af h5 a1 0 (.string v2)∧
 HC PG fP [.pointer e4,.string (v2.extract 0 x2.toNat)] [.c .ptr] (fun(e6:Option Addr) h7=>
 HC PG dC [.pointer x0,.pointer x1] [.c .ptr] (fun(e8:Option Addr) h9=>
 ∃a10,e8=some a10∧
 ∃v11,af h9 a10 0 (.string v11)∧
 (((0:Int)≤x2∧x2≤((v11.size:Nat):Int))∧
 HC PG fP [.pointer e8,.string (v11.extract x2.toNat v11.size)] [.c .ptr] (fun(e12:Option Addr) h13=>
 At (hnew h13 [.pointer e12] aK) (fun h14=>
 ∃a15,e6=some a15∧
 (Wr h14 (adr a15 3)∧
 At (hset h14 (adr a15 3) (.slice (some (ag h13)) 1 1)) (fun h16=>
 K e6 h16)))) h9)) h7) h5)) h3)))
noncomputable def vO:Ann:=.node .nil (.node (.draw (tk [0,2,4,5,6,7,8,9] (.all (.lastT 1 (.all (.lastT 3 (.all (.lastT 10 (.take 11 (.done)))))))))) .nil)
theorem vC(x0:Option Addr)(x1:Option Addr)(x2:Int){K:cJ [.c .ptr]→ae→Prop}{h0:ae}(h:pO x0 x1 x2 K h0):HC PG mg [.pointer x0,.pointer x1,.int .i64 x2] [.c .ptr] K h0:=HC.intro (an:=vO) (c:=Tryz.f212.body.getD .skip) Tryz.mixed Tryz.func212 rfl Tryz.call212 (ad rfl) (dF (by kernel_rfl) h)
def m7(x0:Int×Int×Int×(Option Addr)×ByteArray×Int)(x1:ByteArray×ByteArray)(x2:ByteArray×ByteArray)(x3:Int)(K:(Option Addr)→ae→Prop)(h0:ae):Prop:=
 At (hnew h0 [.int .u64 x0.1,.int .u64 x0.2.1,.int .u64 x0.2.2.1,.pointer x0.2.2.2.1,.string x0.2.2.2.2.1,.int .u64 x0.2.2.2.2.2] cn) (fun h1=>
 At (hnew h1 [.string x1.1,.string x1.2] aj) (fun h2=>
 At (hnew h2 [.string x2.1,.string x2.2] aj) (fun h3=>
 CondP (x3==(13:Int)) (
 ∃v4,af h3 (ag h0) 3 (.pointer v4)∧
 ∃v5,af h3 (ag h1) 0 (.string v5)∧
 ∃v6,af h3 (ag h1) 1 (.string v6)∧
 ∃v7,af h3 (ag h0) 3 (.pointer v7)∧
 ∃v8,af h3 (ag h2) 0 (.string v8)∧
 ∃v9,af h3 (ag h2) 1 (.string v9)∧
 HC PG od [] [.c .ptr] (fun(e10:Option Addr) h11=>
 ((af h11 (ag h2) 0 (.string v8)∧af h11 (ag h2) 1 (.string v9))∧
 (af h11 (ag h0) 3 (.pointer v7)∧
 ((af h11 (ag h1) 0 (.string v5)∧af h11 (ag h1) 1 (.string v6))∧
 (af h11 (ag h0) 3 (.pointer v4)∧
 HC PG gk [.pointer e10,.pointer v4,.agg #[.string v5,.string v6]] [.c .ptr] (fun(e12:Option Addr) h13=>
 ((af h13 (ag h2) 0 (.string v8)∧af h13 (ag h2) 1 (.string v9))∧
 (af h13 (ag h0) 3 (.pointer v7)∧
 HC PG gk [.pointer e12,.pointer v7,.agg #[.string v8,.string v9]] [.c .ptr] (fun(e14:Option Addr) h15=>
 K e14 h15) h13))) h11))))) h3) (
 ∃v16,af h3 (adr (ag h0) 0) 0 (.int .u64 v16)∧
 ∃v17,af h3 (adr (ag h0) 0) 1 (.int .u64 v17)∧
 ∃v18,af h3 (adr (ag h0) 0) 2 (.int .u64 v18)∧
 ∃v19,af h3 (ag h1) 0 (.string v19)∧
 ∃v20,af h3 (ag h0) 5 (.int .u64 v20)∧
 HC PG dG [.agg #[.int .u64 v16,.int .u64 v17,.int .u64 v18],.string v19] [.c (.int .u64)] (fun(e21:Int) h22=>
 (af h22 (ag h0) 5 (.int .u64 v20)∧
 HC PG jr [.int .u64 e21,.int .i64 x3] [.c (.int .i64)] (fun(e23:Int) h24=>
 (af h24 (ag h0) 5 (.int .u64 v20)∧
 HC PG jr [.int .u64 v20,.int .i64 x3] [.c (.int .i64)] (fun(e25:Int) h26=>
 CondP (e23==e25) (
 ∃v27,af h26 (ag h0) 3 (.pointer v27)∧
 ∃v28,af h26 (ag h0) 0 (.int .u64 v28)∧
 ∃v29,af h26 (ag h0) 1 (.int .u64 v29)∧
 ∃v30,af h26 (ag h0) 2 (.int .u64 v30)∧
 ∃v31,af h26 (ag h0) 3 (.pointer v31)∧
 ∃v32,af h26 (ag h0) 4 (.string v32)∧
 ∃v33,af h26 (ag h0) 5 (.int .u64 v33)∧
 ∃v34,af h26 (ag h1) 0 (.string v34)∧
 ∃v35,af h26 (ag h1) 1 (.string v35)∧
 ∃v36,af h26 (ag h2) 0 (.string v36)∧
 ∃v37,af h26 (ag h2) 1 (.string v37)∧
 HC PG kX [] [.c .ptr] (fun(e38:Option Addr) h39=>
 ((af h39 (ag h2) 0 (.string v36)∧af h39 (ag h2) 1 (.string v37))∧
 ((af h39 (ag h1) 0 (.string v34)∧af h39 (ag h1) 1 (.string v35))∧
 ((af h39 (ag h0) 0 (.int .u64 v28)∧af h39 (ag h0) 1 (.int .u64 v29)∧af h39 (ag h0) 2 (.int .u64 v30)∧af h39 (ag h0) 3 (.pointer v31)∧af h39 (ag h0) 4 (.string v32)∧af h39 (ag h0) 5 (.int .u64 v33))∧
 (af h39 (ag h0) 3 (.pointer v27)∧
 HC PG j7 [.agg #[.int .u64 v28,.int .u64 v29,.int .u64 v30,.pointer v31,.string v32,.int .u64 v33],.agg #[.string v34,.string v35],.agg #[.string v36,.string v37],.int .i64 (IntKind.wrap .i64 (x3+1))] [.c .ptr] (fun(e40:Option Addr) h41=>
 (af h41 (ag h0) 3 (.pointer v27)∧
 HC PG ee [.pointer e38,.pointer v27,.int .i64 e23,.pointer e40] [.c .ptr] (fun(e42:Option Addr) h43=>
 K e42 h43) h41)) h39))))) h26) (
 ∃v44,af h26 (ag h0) 3 (.pointer v44)∧
 ∃v45,af h26 (ag h1) 0 (.string v45)∧
 ∃v46,af h26 (ag h1) 1 (.string v46)∧
 ∃v47,af h26 (ag h0) 3 (.pointer v47)∧
 ∃v48,af h26 (ag h2) 0 (.string v48)∧
 ∃v49,af h26 (ag h2) 1 (.string v49)∧
 HC PG kX [] [.c .ptr] (fun(e50:Option Addr) h51=>
 ((af h51 (ag h2) 0 (.string v48)∧af h51 (ag h2) 1 (.string v49))∧
 (af h51 (ag h0) 3 (.pointer v47)∧
 ((af h51 (ag h1) 0 (.string v45)∧af h51 (ag h1) 1 (.string v46))∧
 (af h51 (ag h0) 3 (.pointer v44)∧
 HC PG dx [.pointer e50,.pointer v44,.int .i64 e23,.agg #[.string v45,.string v46]] [.c .ptr] (fun(e52:Option Addr) h53=>
 ((af h53 (ag h2) 0 (.string v48)∧af h53 (ag h2) 1 (.string v49))∧
 (af h53 (ag h0) 3 (.pointer v47)∧
 HC PG dx [.pointer e52,.pointer v47,.int .i64 e25,.agg #[.string v48,.string v49]] [.c .ptr] (fun(e54:Option Addr) h55=>
 K e54 h55) h53))) h51))))) h26)) h24)) h22)) h3))))
noncomputable def xT:Ann:=.nil
theorem qn(x0:Int×Int×Int×(Option Addr)×ByteArray×Int)(x1:ByteArray×ByteArray)(x2:ByteArray×ByteArray)(x3:Int){K:cJ [.c .ptr]→ae→Prop}{h0:ae}(h:m7 x0 x1 x2 x3 K h0):HC PG j7 [.agg #[.int .u64 x0.1,.int .u64 x0.2.1,.int .u64 x0.2.2.1,.pointer x0.2.2.2.1,.string x0.2.2.2.2.1,.int .u64 x0.2.2.2.2.2],.agg #[.string x1.1,.string x1.2],.agg #[.string x2.1,.string x2.2],.int .i64 x3] [.c .ptr] K h0:=HC.intro (an:=xT) (c:=Tryz.f213.body.getD .skip) Tryz.mixed Tryz.func213 rfl Tryz.call213 (ad rfl) (dF (by kernel_rfl) h)
def qt(x0:Option Addr)(x1:Option Addr)(K:(Option Addr)→ae→Prop)(h0:ae):Prop:=
 Join (fun(t6:Bool) h7=>
 CondP t6 (
 K x0 h7) (
 ∃a8,x0=some a8∧
 ∃v9:SliceV,af h7 a8 3 (.slice v9.a v9.len v9.cap)∧
 CondP ((v9.len:Int)==(0:Int)) (
 K none h7) (
 ∃a10,x0=some a10∧
 ∃v11:SliceV,af h7 a10 3 (.slice v11.a v11.len v11.cap)∧
 (cQ 0 v11.len∧∃a12,v11.a=some a12∧
 ∃v13,af h7 a12 ((0:Int).toNat*1) (.pointer v13)∧
 HC PG dC [.pointer v13,.pointer x1] [.c .ptr] (fun(e14:Option Addr) h15=>
 ∃a16,x0=some a16∧
 ∃v17,af h15 a16 0 (.string v17)∧
 ∃a18,e14=some a18∧
 ∃v19,af h15 a18 0 (.string v19)∧
 (((v17.size+v19.size:Nat):Int)≤9223372036854775807∧
 HC PG fP [.pointer e14,.string (v17++v19)] [.c .ptr] (fun(e20:Option Addr) h21=>
 K e20 h21) h15)) h7)))) (fun J1=>
 ∃a2,x0=some a2∧
 ∃v3,af h0 a2 1 (.bool v3)∧
 CondP v3 (
 J1 true h0) (
 ∃a4,x0=some a4∧
 ∃v5:SliceV,af h0 a4 3 (.slice v5.a v5.len v5.cap)∧
 J1 (decide ((v5.len:Int)≥(2:Int))) h0))
noncomputable def xE:Ann:=.node .nil (.node (.join [(6,.c .bool)] .nil .nil) (.node .nil (.node (.draw (tr 0 10 (.all (.lastT 10 (.take 11 (.done)))))) .nil)))
theorem wW(x0:Option Addr)(x1:Option Addr){K:cJ [.c .ptr]→ae→Prop}{h0:ae}(h:qt x0 x1 K h0):HC PG mR [.pointer x0,.pointer x1] [.c .ptr] K h0:=HC.intro (an:=xE) (c:=Tryz.f214.body.getD .skip) Tryz.mixed Tryz.func214 rfl Tryz.call214 (ad rfl) (dF (by kernel_rfl) h)
def fk(x0:SliceV)(x1:Int)(x2:Int)(K:(SliceV)→ae→Prop)(h0:ae):Prop:=
 (((0:Int)≤(x0.len:Int)∧(x0.len:Int)≤((x0.cap:Nat):Int))∧
 (((0:Int)≤x2∧x2≤(((x0.len:Int).toNat:Nat):Int))∧
 (((0:Int)≤x1∧x1≤((x2.toNat:Nat):Int))∧
 CondP (x1==x2) (
 K x0 h0) (
 Join (fun(t5:SliceV) h6=>
 (((0:Int)≤(x0.len:Int)∧(x0.len:Int)≤((t5.cap:Nat):Int))∧
 (((0:Int)≤(t5.len:Int)∧(t5.len:Int)≤(((x0.len:Int).toNat:Nat):Int))∧
 Bd (aN t5.a ((t5.len:Int).toNat) t5.cap 1:Option Addr) (fun a7=>Bd (((x0.len:Int).toNat)-((t5.len:Int).toNat):Nat) (fun n8=>Bd (t5.cap-((t5.len:Int).toNat):Nat) (fun n9=>
 (fV h6 a7 0 (dd n8 [.pointer none])∧
 At (fe h6 a7 0 (dd n8 [.pointer none])) (fun h10=>
 K t5 h10)))))))) (fun J1=>
 (((0:Int)≤x1∧x1≤((x0.cap:Nat):Int))∧
 (((0:Int)≤x2∧x2≤((x0.len:Nat):Int))∧
 ∃xs2,SRow h0 (aN x0.a x2.toNat x0.cap 1) ((x0.len-x2.toNat)*1) xs2∧
 AppP (some [.pointer none]) 1 8 aK (aN x0.a 0 x0.cap 1) (x1.toNat-0) (x0.cap-0) (x0.len-x2.toNat) xs2 h0 (fun s3 h4=>
 J1 s3 h4))))))))
noncomputable def je:Ann:=.node .nil (.node .nil (.node .nil (.node .nil (.join [(0,.c .slice)] .nil .nil))))
theorem jc(x0:SliceV)(x1:Int)(x2:Int){K:cJ [.c .slice]→ae→Prop}{h0:ae}(h:fk x0 x1 x2 K h0):HC PG dK [.slice x0.a x0.len x0.cap,.int .i64 x1,.int .i64 x2] [.c .slice] K h0:=HC.intro (an:=je) (c:=Tryz.f215.body.getD .skip) Tryz.mixed Tryz.func215 rfl Tryz.call215 (ad rfl) (dF (by kernel_rfl) h)
def rF(x0:Option Addr)(x1:Option Addr)(x2:ByteArray)(K:(Option Addr)→ae→Prop)(h0:ae):Prop:=
 HC PG dL [.pointer x0] [.c .bool] (fun(e1:Bool) h2=>
 CondP (!e1) (
 K x0 h2) (
 HC PG fD [.pointer x0,.pointer x1] [.c .ptr] (fun(e3:Option Addr) h4=>
 ∃a5,e3=some a5∧
 ∃v6:SliceV,af h4 (adr a5 0) 2 (.slice v6.a v6.len v6.cap)∧
 HC PG tw [.slice v6.a v6.len v6.cap,.string x2] [.c .slice] (fun(e7:SliceV) h8=>
 ∃a9,e3=some a9∧
 (Wr h8 (adr (adr a9 0) 2)∧
 At (hset h8 (adr (adr a9 0) 2) (.slice e7.a e7.len e7.cap)) (fun h10=>
 K e3 h10))) h4) h2)) h0
noncomputable def yQ:Ann:=.nil
theorem yD(x0:Option Addr)(x1:Option Addr)(x2:ByteArray){K:cJ [.c .ptr]→ae→Prop}{h0:ae}(h:rF x0 x1 x2 K h0):HC PG nH [.pointer x0,.pointer x1,.string x2] [.c .ptr] K h0:=HC.intro (an:=yQ) (c:=Tryz.f216.body.getD .skip) Tryz.mixed Tryz.func216 rfl Tryz.call216 (ad rfl) (dF (by kernel_rfl) h)
def qC(x0:Option Addr)(x1:Option Addr)(x2:Int)(K:(Option Addr)→ae→Prop)(h0:ae):Prop:=
 HC PG ip [.pointer x0,.int .i64 x2] [.c .bool] (fun(e1:Bool) h2=>
 CondP (!e1) (
 K x0 h2) (
 HC PG fD [.pointer x0,.pointer x1] [.c .ptr] (fun(e3:Option Addr) h4=>
 ∃a5,e3=some a5∧
 HC PG im [.pointer (some (adr a5 0)),.int .i64 x2] [] (fun(e6:Unit) h7=>
 K e3 h7) h4) h2)) h0
noncomputable def xN:Ann:=.nil
theorem xb(x0:Option Addr)(x1:Option Addr)(x2:Int){K:cJ [.c .ptr]→ae→Prop}{h0:ae}(h:qC x0 x1 x2 K h0):HC PG j5 [.pointer x0,.pointer x1,.int .i64 x2] [.c .ptr] K h0:=HC.intro (an:=xN) (c:=Tryz.f217.body.getD .skip) Tryz.mixed Tryz.func217 rfl Tryz.call217 (ad rfl) (dF (by kernel_rfl) h)
def uV(x0:Option Addr)(K:((ByteArray×ByteArray)×Bool)→ae→Prop)(h0:ae):Prop:=
 At (hnew h0 [.string (⟨#[]⟩:ByteArray),.string (⟨#[]⟩:ByteArray)] aj) (fun h1=>
 Join (fun(t7:Bool) h8=>
 CondP t7 (
 (fV h8 (some (ag h0)) 0 [.string (⟨#[]⟩:ByteArray),.string (⟨#[]⟩:ByteArray)]∧
 At (bP h8 (ag h0) 0 [.string (⟨#[]⟩:ByteArray),.string (⟨#[]⟩:ByteArray)]) (fun h9=>
 ∃v10,af h9 (ag h0) 0 (.string v10)∧
 ∃v11,af h9 (ag h0) 1 (.string v11)∧
 K ((v10,v11),false) h9))) (
 HC PG fp [.pointer x0] [.c .slice] (fun(e12:SliceV) h13=>
 (cQ 0 e12.len∧∃a14,e12.a=some a14∧
 ∃v15,af h13 (adr a14 ((0:Int).toNat*2)) 0 (.string v15)∧
 ∃v16,af h13 (adr a14 ((0:Int).toNat*2)) 1 (.string v16)∧
 (fV h13 (some (ag h0)) 0 [.string v15,.string v16]∧
 At (bP h13 (ag h0) 0 [.string v15,.string v16]) (fun h17=>
 ∃v18,af h17 (ag h0) 0 (.string v18)∧
 ∃v19,af h17 (ag h0) 1 (.string v19)∧
 K ((v18,v19),true) h17)))) h8)) (fun J2=>
 HC PG jE [.pointer x0] [.c (.int .i64)] (fun(e3:Int) h4=>
 CondP (e3 !=(1:Int)) (
 J2 true h4) (
 HC PG fq [.pointer x0] [.c (.int .u32)] (fun(e5:Int) h6=>
 J2 (e5 !=(0:Int)) h6) h4)) h1))
noncomputable def Db:Ann:=.node .nil (.node (.join [(11,.c .bool)] .nil .nil) .nil)
theorem CN(x0:Option Addr){K:cJ [.agg [.str,.str],.c .bool]→ae→Prop}{h0:ae}(h:uV x0 K h0):HC PG qO [.pointer x0] [.agg [.str,.str],.c .bool] K h0:=HC.intro (an:=Db) (c:=Tryz.f218.body.getD .skip) Tryz.mixed Tryz.func218 rfl Tryz.call218 (ad rfl) (dF (by kernel_rfl) h)
def dD(x0:SliceV)(x1:Int)(x2:Value)(K:(Int×Bool)→ae→Prop)(h0:ae):Prop:=
 LoopP (fun I1 (t2:Int×Int) h3=>
 CondP (decide (t2.1<t2.2)) (
 ((0:Int)≤(1:Int)∧
 Bd (di (IntKind.wrap .u64 (IntKind.wrap .i64 (t2.1+t2.2))) (2^(min (1:Int).toNat (IntKind.bits .u64))):Int) (fun n4=>
 (cQ (IntKind.wrap .i64 n4) x0.len∧∃a5,x0.a=some a5∧
 ∃v6,af h3 a5 ((IntKind.wrap .i64 n4).toNat*1) (.pointer v6)∧
 HV PG x2 [.pointer v6,.int .u8 x1] [.c (.int .i64)] (fun(e7:Int) h8=>
 CondP (decide (e7<(0:Int))) (
 I1 (IntKind.wrap .i64 ((IntKind.wrap .i64 n4)+1),t2.2) h8) (
 I1 (t2.1,IntKind.wrap .i64 n4) h8)) h3)))) (
 CondP (decide (t2.1<(x0.len:Int))) (
 (cQ t2.1 x0.len∧∃a9,x0.a=some a9∧
 ∃v10,af h3 a9 (t2.1.toNat*1) (.pointer v10)∧
 HV PG x2 [.pointer v10,.int .u8 x1] [.c (.int .i64)] (fun(e11:Int) h12=>
 K (t2.1,e11==(0:Int)) h12) h3)) (
 K (t2.1,false) h3))) (0,(x0.len:Int)) h0
noncomputable def fR:Ann:=.node .nil (.node .nil (.node .nil (.node (.loop [(9,.c (.int .i64)),(10,.c (.int .i64))] .nil) .nil)))
theorem fQ(x0:SliceV)(x1:Int)(x2:Value){K:cJ [.c (.int .i64),.c .bool]→ae→Prop}{h0:ae}(h:dD x0 x1 x2 K h0):HC PG dB [.slice x0.a x0.len x0.cap,.int .u8 x1,x2] [.c (.int .i64),.c .bool] K h0:=HC.intro (an:=fR) (c:=Tryz.f219.body.getD .skip) Tryz.mixed Tryz.func219 rfl Tryz.call219 (ad rfl) (dF (by kernel_rfl) h)
def pb(x0:Option Addr)(x1:Int)(K:(Int)→ae→Prop)(h0:ae):Prop:=
 ∃a1,x0=some a1∧
 ∃v2,af h0 a1 0 (.string v2)∧
 ∃b3,(0:Int)≤(0:Int)∧v2[(0:Int).toNat]? =some b3∧
 Bd (IntKind.wrap .i64 ((IntKind.wrap .i64 (b3.toNat:Int))-(IntKind.wrap .i64 x1)):Int) (fun n4=>
 K n4 h0)
noncomputable def ut:Ann:=.nil
theorem uk(x0:Option Addr)(x1:Int){K:cJ [.c (.int .i64)]→ae→Prop}{h0:ae}(h:pb x0 x1 K h0):HC PG lA [.pointer x0,.int .u8 x1] [.c (.int .i64)] K h0:=HC.intro (an:=ut) (c:=Tryz.f220.body.getD .skip) Tryz.mixed Tryz.func220 rfl Tryz.call220 (ad rfl) (dF (by kernel_rfl) h)
def uK(x0:ByteArray)(x1:ByteArray)(K:(Bool)→ae→Prop)(h0:ae):Prop:=
 HC PG rk [.string x0,.string x1] [.c .bool] (fun(e1:Bool) h2=>
 K e1 h2) h0
noncomputable def CZ:Ann:=.nil
theorem CB(x0:ByteArray)(x1:ByteArray){K:cJ [.c .bool]→ae→Prop}{h0:ae}(h:uK x0 x1 K h0):HC PG nX [.string x0,.string x1] [.c .bool] K h0:=HC.intro (an:=CZ) (c:=Tryz.f221.body.getD .skip) Tryz.mixed Tryz.func221 rfl Tryz.call221 (ad rfl) (dF (by kernel_rfl) h)
def zC(x0:SliceV)(x1:ByteArray)(K:(Int×Bool)→ae→Prop)(h0:ae):Prop:=
 HC PG dY [.slice x0.a x0.len x0.cap,.string x1,.func (.func mT) #[] #[]] [.c (.int .i64),.c .bool] (fun(e1:Int×Bool) h2=>
 K (e1.1,e1.2) h2) h0
noncomputable def GS:Ann:=.nil
theorem GH(x0:SliceV)(x1:ByteArray){K:cJ [.c (.int .i64),.c .bool]→ae→Prop}{h0:ae}(h:zC x0 x1 K h0):HC PG oB [.slice x0.a x0.len x0.cap,.string x1] [.c (.int .i64),.c .bool] K h0:=HC.intro (an:=GS) (c:=Tryz.f222.body.getD .skip) Tryz.mixed Tryz.func222 rfl Tryz.call222 (ad rfl) (dF (by kernel_rfl) h)
def rI(x0:Int)(x1:Int)(K:(Bool)→ae→Prop)(h0:ae):Prop:=
 HC PG lP [.int .i64 x1] [.c .bool] (fun(e1:Bool) h2=>
 CondP e1 (
 ((0:Int)≤x1∧
 Bd (IntKind.wrap .u32 (ap (IntKind.bits .u32) (di x0 (2^(min (x1:Int).toNat (IntKind.bits .u32))))&&&ap (IntKind.bits .u32) 1).toNat:Int) (fun n3=>
 K (n3==(1:Int)) h2))) (
 K false h2)) h0
noncomputable def yT:Ann:=.nil
theorem yG(x0:Int)(x1:Int){K:cJ [.c .bool]→ae→Prop}{h0:ae}(h:rI x0 x1 K h0):HC PG ff [.int .u32 x0,.int .i64 x1] [.c .bool] K h0:=HC.intro (an:=yT) (c:=Tryz.f223.body.getD .skip) Tryz.mixed Tryz.func223 rfl Tryz.call223 (ad rfl) (dF (by kernel_rfl) h)
def qG(x0:Int)(x1:Int)(K:(Int)→ae→Prop)(h0:ae):Prop:=
 CondP (decide (x1≤(0:Int))) (
 K 0 h0) (
 CondP (decide (x1≥(32:Int))) (
 HC PG mn [.int .u32 x0] [.c (.int .i64)] (fun(e1:Int) h2=>
 K e1 h2) h0) (
 ((0:Int)≤x1∧
 Bd (IntKind.wrap .u32 ((IntKind.wrap .u32 (1*2^(min (x1:Int).toNat (IntKind.bits .u32))))-1):Int) (fun n3=>
 Bd (IntKind.wrap .u32 (ap (IntKind.bits .u32) x0&&&ap (IntKind.bits .u32) n3).toNat:Int) (fun n4=>
 HC PG mn [.int .u32 n4] [.c (.int .i64)] (fun(e5:Int) h6=>
 K e5 h6) h0)))))
noncomputable def xR:Ann:=.nil
theorem xg(x0:Int)(x1:Int){K:cJ [.c (.int .i64)]→ae→Prop}{h0:ae}(h:qG x0 x1 K h0):HC PG cT [.int .u32 x0,.int .i64 x1] [.c (.int .i64)] K h0:=HC.intro (an:=xR) (c:=Tryz.f224.body.getD .skip) Tryz.mixed Tryz.func224 rfl Tryz.call224 (ad rfl) (dF (by kernel_rfl) h)
def fM(x0:SliceV)(x1:Value)(K:(SliceV)→ae→Prop)(h0:ae):Prop:=
 At (hnew h0 [.slice x0.a x0.len x0.cap] bO) (fun h1=>
 RangeP PG x1 [.agg [.str,.str]] h1 (fun rdy2 bz3 (x4:ByteArray×ByteArray) k5 h6=>
 At (hnew h6 [.string (⟨#[]⟩:ByteArray),.string (⟨#[]⟩:ByteArray)] aj) (fun h10=>
 (fV h10 (some (ag h6)) 0 [.string x4.1,.string x4.2]∧
 At (bP h10 (ag h6) 0 [.string x4.1,.string x4.2]) (fun h11=>
 (h11[(bF h1+1)]? =some rdy2∧At (bv h11 (bF h1+1) bz3) (fun h8=>
 ∃v12:SliceV,aE h8 (ag h0)=some (.slice v12.a v12.len v12.cap)∧
 ∃v13,af h8 (ag h6) 0 (.string v13)∧
 ∃v14,af h8 (ag h6) 1 (.string v14)∧
 At (hnew h8 [.string v13,.string v14] aj) (fun h15=>
 ∃xs16,SRow h15 (some (ag h8)) (1*2) xs16∧
 AppP (some [.string (⟨#[]⟩:ByteArray),.string (⟨#[]⟩:ByteArray)]) 2 32 aj v12.a v12.len v12.cap 1 xs16 h15 (fun s17 h18=>
 (Wr h18 (ag h0)∧
 At (hset h18 (ag h0) (.slice s17.a s17.len s17.cap)) (fun h19=>
 k5 none h19)))))))))) (fun h20=>
 ∃v23:SliceV,aE h20 (ag h0)=some (.slice v23.a v23.len v23.cap)∧
 (h20[(bF h1)]? =some (.deferred (some []))∧At (bv h20 (bF h1) (.deferred none)) (fun h24=>
 K v23 h24))) (fun i9 h21=>
 bif Nat.beq i9 0 then(
 ∃v25:SliceV,aE h21 (ag h0)=some (.slice v25.a v25.len v25.cap)∧
 (h21[(bF h1)]? =some (.deferred (some []))∧At (bv h21 (bF h1) (.deferred none)) (fun h26=>
 K v25 h26)))else(
 False)) (fun h22=>
 (h22[(bF h1)]? =some (.deferred (some []))∧At (bv h22 (bF h1) (.deferred none)) (fun h27=>
 K ⟨none,0,0⟩ h27))))
noncomputable def jX:Ann:=.node .nil (.node (.node .nil (.rf [.agg [.str,.str]] .nil .nil)) .nil)
theorem jS(x0:SliceV)(x1:Value){K:cJ [.c .slice]→ae→Prop}{h0:ae}(h:fM x0 x1 K h0):HC PG dV [.slice x0.a x0.len x0.cap,x1] [.c .slice] K h0:=HC.introM (an:=jX) (c:=Tryz.f235.body.getD .skip) Tryz.mixed Tryz.func235 rfl Tryz.call235 (ad rfl) (dF (by kernel_rfl) h)
def qV(x0:Value)(y0:Addr)(y1:Addr)(y2:Addr)(K:(Unit)→ae→Prop)(h0:ae):Prop:=
 ∃v1,aE h0 y0=some (.pointer v1)∧
 ∃v2,af h0 y1 0 (.string v2)∧
 ∃v3,af h0 y1 1 (.string v3)∧
 ∃v4,af h0 y1 2 (.bool v4)∧
 ∃v5,aE h0 y2=some (.bool v5)∧
 HC PG vn [.pointer v1,.agg #[.string v2,.string v3,.bool v4],.bool v5] [.c .ptr] (fun(e6:Option Addr) h7=>
 LoopP (fun I8 (t9:Unit) h10=>
 HC PG mf [.pointer e6] [.agg [.str,.str],.c .bool] (fun(e11:(ByteArray×ByteArray)×Bool) h12=>
 At (hnew h12 [.string (⟨#[]⟩:ByteArray),.string (⟨#[]⟩:ByteArray)] aj) (fun h13=>
 (fV h13 (some (ag h12)) 0 [.string e11.1.1,.string e11.1.2]∧
 At (bP h13 (ag h12) 0 [.string e11.1.1,.string e11.1.2]) (fun h14=>
 Join (fun(t20:Bool) h21=>
 CondP t20 (
 K () h21) (
 I8 () h21)) (fun J15=>
 CondP (!e11.2) (
 J15 true h14) (
 ∃v16,af h14 (ag h12) 0 (.string v16)∧
 ∃v17,af h14 (ag h12) 1 (.string v17)∧
 HV PG x0 [.agg #[.string v16,.string v17]] [.c .bool] (fun(e18:Bool) h19=>
 J15 (!e18) h19) h14)))))) h10) () h7) h0
noncomputable def u0:Ann:=.node .nil (.loop [] (.node .nil (.join [(24,.c .bool)] .nil .nil)))
theorem Mn(x0:Value)(y0:Addr)(y1:Addr)(y2:Addr){K:cJ []→ae→Prop}{h0:ae}(h:qV x0 y0 y1 y2 K h0):HC PG nY [x0,.pointer (some y0),.pointer (some y1),.pointer (some y2)] [] K h0:=HC.intro (an:=u0) (c:=Tryz.f236.body.getD .skip) Tryz.mixed Tryz.func236 rfl Tryz.call236 (ad rfl) (dF (by kernel_rfl) h)
theorem BR(x0:Value)(y0:Addr)(y1:Addr)(y2:Addr){K:cJ []→ae→Prop}{h0:ae}(h:qV x0 y0 y1 y2 K h0):HE PG nY [x0,.pointer (some y0),.pointer (some y1),.pointer (some y2)] [] K h0:=HE.intro (an:=u0) (c:=Tryz.f236.body.getD .skip) Tryz.mixed Tryz.func236 rfl Tryz.call236 (ad rfl) (dF (by kernel_rfl) h)
def BU(x0:Option Addr)(x1:ByteArray×ByteArray×Bool)(x2:Bool)(K:(Option Addr)→ae→Prop)(h0:ae):Prop:=
 At (hnew h0 [.string x1.1,.string x1.2.1,.bool x1.2.2] mu) (fun h1=>
 ∃v2,af h1 (ag h0) 0 (.string v2)∧
 ∃v3,af h1 (ag h0) 1 (.string v3)∧
 ∃v4,af h1 (ag h0) 2 (.bool v4)∧
 At (hnew h1 [.slice none 0 0,.string v2,.string v3,.bool v4,.bool x2] uB) (fun h5=>
 CondP (!(x0.isNone)) (
 ∃a6,some (ag h1)=some a6∧
 ∃v7:SliceV,af h5 a6 0 (.slice v7.a v7.len v7.cap)∧
 At (hnew h5 [.pointer x0,.string (⟨#[]⟩:ByteArray),.bool false] du) (fun h8=>
 ∃xs9,SRow h8 (some (ag h5)) (1*3) xs9∧
 AppP (some [.pointer none,.string (⟨#[]⟩:ByteArray),.bool false]) 3 32 du v7.a v7.len v7.cap 1 xs9 h8 (fun s10 h11=>
 ∃a12,some (ag h1)=some a12∧
 (Wr h11 (adr a12 0)∧
 At (hset h11 (adr a12 0) (.slice s10.a s10.len s10.cap)) (fun h13=>
 K (some (ag h1)) h13))))) (
 K (some (ag h1)) h5)))
noncomputable def IC:Ann:=.nil
theorem Ip(x0:Option Addr)(x1:ByteArray×ByteArray×Bool)(x2:Bool){K:cJ [.c .ptr]→ae→Prop}{h0:ae}(h:BU x0 x1 x2 K h0):HC PG vn [.pointer x0,.agg #[.string x1.1,.string x1.2.1,.bool x1.2.2],.bool x2] [.c .ptr] K h0:=HC.intro (an:=IC) (c:=Tryz.f237.body.getD .skip) Tryz.mixed Tryz.func237 rfl Tryz.call237 (ad rfl) (dF (by kernel_rfl) h)
def pM(x0:Option Addr)(K:((ByteArray×ByteArray)×Bool)→ae→Prop)(h0:ae):Prop:=
 At (hnew h0 [.string (⟨#[]⟩:ByteArray),.string (⟨#[]⟩:ByteArray)] aj) (fun h1=>
 CondP x0.isNone (
 (fV h1 (some (ag h0)) 0 [.string (⟨#[]⟩:ByteArray),.string (⟨#[]⟩:ByteArray)]∧
 At (bP h1 (ag h0) 0 [.string (⟨#[]⟩:ByteArray),.string (⟨#[]⟩:ByteArray)]) (fun h2=>
 ∃v3,af h2 (ag h0) 0 (.string v3)∧
 ∃v4,af h2 (ag h0) 1 (.string v4)∧
 K ((v3,v4),false) h2))) (
 LoopP (fun I5 (t6:Unit) h7=>
 ∃a8,x0=some a8∧
 ∃v9:SliceV,af h7 a8 0 (.slice v9.a v9.len v9.cap)∧
 CondP (decide ((v9.len:Int)>(0:Int))) (
 ∃a10,x0=some a10∧
 ∃v11:SliceV,af h7 a10 0 (.slice v11.a v11.len v11.cap)∧
 ∃a12,x0=some a12∧
 ∃v13:SliceV,af h7 a12 0 (.slice v13.a v13.len v13.cap)∧
 (cQ (IntKind.wrap .i64 ((v13.len:Int)-1)) v11.len∧∃a14,v11.a=some a14∧
 ∃v15,af h7 (adr a14 ((IntKind.wrap .i64 ((v13.len:Int)-1)).toNat*3)) 0 (.pointer v15)∧
 ∃v16,af h7 (adr a14 ((IntKind.wrap .i64 ((v13.len:Int)-1)).toNat*3)) 1 (.string v16)∧
 ∃v17,af h7 (adr a14 ((IntKind.wrap .i64 ((v13.len:Int)-1)).toNat*3)) 2 (.bool v17)∧
 At (hnew h7 [.pointer none,.string (⟨#[]⟩:ByteArray),.bool false] du) (fun h18=>
 ((af h18 (adr a14 ((IntKind.wrap .i64 ((v13.len:Int)-1)).toNat*3)) 0 (.pointer v15)∧af h18 (adr a14 ((IntKind.wrap .i64 ((v13.len:Int)-1)).toNat*3)) 1 (.string v16)∧af h18 (adr a14 ((IntKind.wrap .i64 ((v13.len:Int)-1)).toNat*3)) 2 (.bool v17))∧
 (af h18 a12 0 (.slice v13.a v13.len v13.cap)∧
 (af h18 a10 0 (.slice v11.a v11.len v11.cap)∧
 (fV h18 (some (ag h7)) 0 [.pointer v15,.string v16,.bool v17]∧
 At (bP h18 (ag h7) 0 [.pointer v15,.string v16,.bool v17]) (fun h19=>
 ∃a20,x0=some a20∧
 ∃v21:SliceV,af h19 a20 0 (.slice v21.a v21.len v21.cap)∧
 ∃a22,x0=some a22∧
 ∃v23:SliceV,af h19 a22 0 (.slice v23.a v23.len v23.cap)∧
 (((0:Int)≤(IntKind.wrap .i64 ((v23.len:Int)-1))∧(IntKind.wrap .i64 ((v23.len:Int)-1))≤((v21.cap:Nat):Int))∧
 Bd (aN v21.a 0 v21.cap 3:Option Addr) (fun a24=>Bd (((IntKind.wrap .i64 ((v23.len:Int)-1)).toNat)-0:Nat) (fun n25=>Bd (v21.cap-0:Nat) (fun n26=>
 ∃a27,x0=some a27∧
 (Wr h19 (adr a27 0)∧
 At (hset h19 (adr a27 0) (.slice a24 n25 n26)) (fun h28=>
 ∃v29,af h28 (ag h7) 2 (.bool v29)∧
 CondP (!v29) (
 ∃v30,af h28 (ag h7) 0 (.pointer v30)∧
 ∃v31,af h28 (ag h7) 1 (.string v31)∧
 ∃v32,af h28 (ag h7) 2 (.bool v32)∧
 HC PG me [.pointer x0,.agg #[.pointer v30,.string v31,.bool v32]] [] (fun(e33:Unit) h34=>
 I5 () h34) h28) (
 ∃v35,af h28 (ag h7) 1 (.string v35)∧
 ∃v36,af h28 (ag h7) 0 (.pointer v36)∧
 HC PG jq [.pointer v36] [.c .str] (fun(e37:ByteArray) h38=>
 (af h38 (ag h7) 1 (.string v35)∧
 (((v35.size+e37.size:Nat):Int)≤9223372036854775807∧
 ∃v39,af h38 (ag h7) 0 (.pointer v39)∧
 HC PG mh [.pointer v39] [.c .str,.c .bool] (fun(e40:ByteArray×Bool) h41=>
 Join (fun(t49:Bool) h50=>
 CondP t49 (
 (fV h50 (some (ag h0)) 0 [.string (v35++e37),.string e40.1]∧
 At (bP h50 (ag h0) 0 [.string (v35++e37),.string e40.1]) (fun h51=>
 ∃v52,af h51 (ag h0) 0 (.string v52)∧
 ∃v53,af h51 (ag h0) 1 (.string v53)∧
 K ((v52,v53),true) h51))) (
 I5 () h50)) (fun J42=>
 CondP e40.2 (
 ∃a43,x0=some a43∧
 ∃v44,af h41 (adr a43 1) 0 (.string v44)∧
 ∃v45,af h41 (adr a43 1) 1 (.string v45)∧
 ∃v46,af h41 (adr a43 1) 2 (.bool v46)∧
 HC PG oO [.agg #[.string v44,.string v45,.bool v46],.string (v35++e37)] [.c .bool] (fun(e47:Bool) h48=>
 J42 e47 h48) h41) (
 J42 false h41))) h38))) h28))))))))))))))) (
 (fV h7 (some (ag h0)) 0 [.string (⟨#[]⟩:ByteArray),.string (⟨#[]⟩:ByteArray)]∧
 At (bP h7 (ag h0) 0 [.string (⟨#[]⟩:ByteArray),.string (⟨#[]⟩:ByteArray)]) (fun h54=>
 ∃v55,af h54 (ag h0) 0 (.string v55)∧
 ∃v56,af h54 (ag h0) 1 (.string v56)∧
 K ((v55,v56),false) h54)))) () h1))
noncomputable def vM:Ann:=.node .nil (.node .nil (.node (.loop [] (.node .nil (.node .nil (.node .nil (.node .nil (.node .nil (.node .nil (.join [(69,.c .bool)] .nil .nil)))))))) .nil))
theorem vA(x0:Option Addr){K:cJ [.agg [.str,.str],.c .bool]→ae→Prop}{h0:ae}(h:pM x0 K h0):HC PG mf [.pointer x0] [.agg [.str,.str],.c .bool] K h0:=HC.intro (an:=vM) (c:=Tryz.f238.body.getD .skip) Tryz.mixed Tryz.func238 rfl Tryz.call238 (ad rfl) (dF (by kernel_rfl) h)
def ir(x0:SliceV)(x1:Int)(x2:Value)(K:(Unit)→ae→Prop)(h0:ae):Prop:=
 LoopP (fun I1 (t2:Int×Int) h3=>
 CondP (decide (t2.2≤x1)) (
 HC PG cY [.slice x0.a x0.len x0.cap,.int .i64 t2.1,.int .i64 t2.2,x2] [] (fun(e4:Unit) h5=>
 I1 (t2.2,IntKind.wrap .i64 (t2.2+20)) h5) h3) (
 HC PG cY [.slice x0.a x0.len x0.cap,.int .i64 t2.1,.int .i64 x1,x2] [] (fun(e6:Unit) h7=>
 LoopP (fun I8 (t9:Int) h10=>
 CondP (decide (t9<x1)) (
 LoopP (fun I11 (t12:Int×Int) h13=>
 CondP (decide (t12.2≤x1)) (
 HC PG cr [.slice x0.a x0.len x0.cap,.int .i64 t12.1,.int .i64 (IntKind.wrap .i64 (t12.1+t9)),.int .i64 t12.2,x2] [] (fun(e14:Unit) h15=>
 I11 (t12.2,IntKind.wrap .i64 (t12.2+(IntKind.wrap .i64 (2*t9)))) h15) h13) (
 Join (fun(t19:Unit) h20=>
 I8 (IntKind.wrap .i64 (t9*2)) h20) (fun J16=>
 CondP (decide ((IntKind.wrap .i64 (t12.1+t9))<x1)) (
 HC PG cr [.slice x0.a x0.len x0.cap,.int .i64 t12.1,.int .i64 (IntKind.wrap .i64 (t12.1+t9)),.int .i64 x1,x2] [] (fun(e17:Unit) h18=>
 J16 () h18) h13) (
 J16 () h13)))) (0,IntKind.wrap .i64 (2*t9)) h10) (
 K () h10)) 20 h7) h3)) (0,20) h0
noncomputable def m8:Ann:=.node .nil (.node .nil (.node (.loop [(7,.c (.int .i64)),(8,.c (.int .i64))] .nil) (.node .nil (.loop [(6,.c (.int .i64))] (.node .nil (.node .nil (.node (.loop [(7,.c (.int .i64)),(8,.c (.int .i64))] .nil) (.join [] .nil .nil))))))))
theorem m3(x0:SliceV)(x1:Int)(x2:Value){K:cJ []→ae→Prop}{h0:ae}(h:ir x0 x1 x2 K h0):HC PG il [.slice x0.a x0.len x0.cap,.int .i64 x1,x2] [] K h0:=HC.intro (an:=m8) (c:=Tryz.f242.body.getD .skip) Tryz.mixed Tryz.func242 rfl Tryz.call242 (ad rfl) (dF (by kernel_rfl) h)
def rA(x0:Option Addr)(x1:Int)(K:(Unit)→ae→Prop)(h0:ae):Prop:=
 ∃a1,x0=some a1∧
 (cQ (3:Int) 4∧
 ∃v2,af h0 a1 ((3:Int).toNat*1) (.int .u64 v2)∧
 Bd (IntKind.wrap .u64 (ap (IntKind.bits .u64) v2^^^ap (IntKind.bits .u64) x1).toNat:Int) (fun n3=>
 ∃a4,x0=some a4∧
 (cQ (3:Int) 4∧
 (Wr h0 (adr a4 ((3:Int).toNat*1))∧
 At (hset h0 (adr a4 ((3:Int).toNat*1)) (.int .u64 n3)) (fun h5=>
 HC PG gQ [.pointer x0,.int .i64 2] [] (fun(e6:Unit) h7=>
 ∃a8,x0=some a8∧
 (cQ 0 4∧
 ∃v9,af h7 a8 ((0:Int).toNat*1) (.int .u64 v9)∧
 Bd (IntKind.wrap .u64 (ap (IntKind.bits .u64) v9^^^ap (IntKind.bits .u64) x1).toNat:Int) (fun n10=>
 ∃a11,x0=some a11∧
 (cQ 0 4∧
 (Wr h7 (adr a11 ((0:Int).toNat*1))∧
 At (hset h7 (adr a11 ((0:Int).toNat*1)) (.int .u64 n10)) (fun h12=>
 K () h12)))))) h5)))))
noncomputable def yL:Ann:=.nil
theorem yy(x0:Option Addr)(x1:Int){K:cJ []→ae→Prop}{h0:ae}(h:rA x0 x1 K h0):HC PG kU [.pointer x0,.int .u64 x1] [] K h0:=HC.intro (an:=yL) (c:=Tryz.f243.body.getD .skip) Tryz.mixed Tryz.func243 rfl Tryz.call243 (ad rfl) (dF (by kernel_rfl) h)
def BW(x0:ByteArray)(K:(Int)→ae→Prop)(h0:ae):Prop:=
 Join (fun(t41:Int) h42=>
 ∃b43,(0:Int)≤(0:Int)∧x0[(0:Int).toNat]? =some b43∧
 Bd (IntKind.wrap .u64 (ap (IntKind.bits .u64) t41|||ap (IntKind.bits .u64) (IntKind.wrap .u64 (b43.toNat:Int))).toNat:Int) (fun n44=>
 K n44 h42)) (fun J1=>
 Join (fun(t36:Int) h37=>
 ∃b38,(0:Int)≤(1:Int)∧x0[(1:Int).toNat]? =some b38∧
 ((0:Int)≤(8:Int)∧
 Bd (IntKind.wrap .u64 ((IntKind.wrap .u64 (b38.toNat:Int))*2^(min (8:Int).toNat (IntKind.bits .u64))):Int) (fun n39=>
 Bd (IntKind.wrap .u64 (ap (IntKind.bits .u64) t36|||ap (IntKind.bits .u64) n39).toNat:Int) (fun n40=>
 J1 n40 h37)))) (fun J2=>
 Join (fun(t31:Int) h32=>
 ∃b33,(0:Int)≤(2:Int)∧x0[(2:Int).toNat]? =some b33∧
 ((0:Int)≤(16:Int)∧
 Bd (IntKind.wrap .u64 ((IntKind.wrap .u64 (b33.toNat:Int))*2^(min (16:Int).toNat (IntKind.bits .u64))):Int) (fun n34=>
 Bd (IntKind.wrap .u64 (ap (IntKind.bits .u64) t31|||ap (IntKind.bits .u64) n34).toNat:Int) (fun n35=>
 J2 n35 h32)))) (fun J3=>
 Join (fun(t26:Int) h27=>
 ∃b28,(0:Int)≤(3:Int)∧x0[(3:Int).toNat]? =some b28∧
 ((0:Int)≤(24:Int)∧
 Bd (IntKind.wrap .u64 ((IntKind.wrap .u64 (b28.toNat:Int))*2^(min (24:Int).toNat (IntKind.bits .u64))):Int) (fun n29=>
 Bd (IntKind.wrap .u64 (ap (IntKind.bits .u64) t26|||ap (IntKind.bits .u64) n29).toNat:Int) (fun n30=>
 J3 n30 h27)))) (fun J4=>
 Join (fun(t21:Int) h22=>
 ∃b23,(0:Int)≤(4:Int)∧x0[(4:Int).toNat]? =some b23∧
 ((0:Int)≤(32:Int)∧
 Bd (IntKind.wrap .u64 ((IntKind.wrap .u64 (b23.toNat:Int))*2^(min (32:Int).toNat (IntKind.bits .u64))):Int) (fun n24=>
 Bd (IntKind.wrap .u64 (ap (IntKind.bits .u64) t21|||ap (IntKind.bits .u64) n24).toNat:Int) (fun n25=>
 J4 n25 h22)))) (fun J5=>
 Join (fun(t16:Int) h17=>
 ∃b18,(0:Int)≤(5:Int)∧x0[(5:Int).toNat]? =some b18∧
 ((0:Int)≤(40:Int)∧
 Bd (IntKind.wrap .u64 ((IntKind.wrap .u64 (b18.toNat:Int))*2^(min (40:Int).toNat (IntKind.bits .u64))):Int) (fun n19=>
 Bd (IntKind.wrap .u64 (ap (IntKind.bits .u64) t16|||ap (IntKind.bits .u64) n19).toNat:Int) (fun n20=>
 J5 n20 h17)))) (fun J6=>
 Join (fun(t11:Int) h12=>
 ∃b13,(0:Int)≤(6:Int)∧x0[(6:Int).toNat]? =some b13∧
 ((0:Int)≤(48:Int)∧
 Bd (IntKind.wrap .u64 ((IntKind.wrap .u64 (b13.toNat:Int))*2^(min (48:Int).toNat (IntKind.bits .u64))):Int) (fun n14=>
 Bd (IntKind.wrap .u64 (ap (IntKind.bits .u64) t11|||ap (IntKind.bits .u64) n14).toNat:Int) (fun n15=>
 J6 n15 h12)))) (fun J7=>
 CondP ((x0.size:Int)==(8:Int)) (
 ∃b8,(0:Int)≤(7:Int)∧x0[(7:Int).toNat]? =some b8∧
 ((0:Int)≤(56:Int)∧
 Bd (IntKind.wrap .u64 ((IntKind.wrap .u64 (b8.toNat:Int))*2^(min (56:Int).toNat (IntKind.bits .u64))):Int) (fun n9=>
 Bd (IntKind.wrap .u64 (ap (IntKind.bits .u64) 0|||ap (IntKind.bits .u64) n9).toNat:Int) (fun n10=>
 J7 n10 h0)))) (
 CondP ((x0.size:Int)==(7:Int)) (
 J7 0 h0) (
 CondP ((x0.size:Int)==(6:Int)) (
 J6 0 h0) (
 CondP ((x0.size:Int)==(5:Int)) (
 J5 0 h0) (
 CondP ((x0.size:Int)==(4:Int)) (
 J4 0 h0) (
 CondP ((x0.size:Int)==(3:Int)) (
 J3 0 h0) (
 CondP ((x0.size:Int)==(2:Int)) (
 J2 0 h0) (
 CondP ((x0.size:Int)==(1:Int)) (
 J1 0 h0) (
 K 0 h0)))))))))))))))
noncomputable def IE:Ann:=.node .nil (.node .nil (.node (.node .nil (.join [(3,.c (.int .u64))] (.join [(3,.c (.int .u64))] (.join [(3,.c (.int .u64))] (.join [(3,.c (.int .u64))] (.join [(3,.c (.int .u64))] (.join [(3,.c (.int .u64))] (.join [(3,.c (.int .u64))] .nil .nil) .nil) .nil) .nil) .nil) .nil) .nil)) .nil))
theorem Ir(x0:ByteArray){K:cJ [.c (.int .u64)]→ae→Prop}{h0:ae}(h:BW x0 K h0):HC PG r7 [.string x0] [.c (.int .u64)] K h0:=HC.intro (an:=IE) (c:=Tryz.f244.body.getD .skip) Tryz.mixed Tryz.func244 rfl Tryz.call244 (ad rfl) (dF (by kernel_rfl) h)
def pN(x0:Option Addr)(x1:Int)(K:(Unit)→ae→Prop)(h0:ae):Prop:=
 LoopP (fun I1 (t2:Int) h3=>
 CondP (decide (t2<x1)) (
 ∃a4,x0=some a4∧
 (cQ 0 4∧
 ∃v5,af h3 a4 ((0:Int).toNat*1) (.int .u64 v5)∧
 ∃a6,x0=some a6∧
 (cQ 1 4∧
 ∃v7,af h3 a6 ((1:Int).toNat*1) (.int .u64 v7)∧
 ∃a8,x0=some a8∧
 (cQ 0 4∧
 (Wr h3 (adr a8 ((0:Int).toNat*1))∧
 At (hset h3 (adr a8 ((0:Int).toNat*1)) (.int .u64 (IntKind.wrap .u64 (v5+v7)))) (fun h9=>
 ∃a10,x0=some a10∧
 (cQ 1 4∧
 ∃v11,af h9 a10 ((1:Int).toNat*1) (.int .u64 v11)∧
 ∃a12,x0=some a12∧
 (cQ 0 4∧
 ∃v13,af h9 a12 ((0:Int).toNat*1) (.int .u64 v13)∧
 ∃a14,x0=some a14∧
 HC PG cP [.int .u64 v11,.int .i64 13] [.c (.int .u64)] (fun(e15:Int) h16=>
 (af h16 a12 ((0:Int).toNat*1) (.int .u64 v13)∧
 Bd (IntKind.wrap .u64 (ap (IntKind.bits .u64) e15^^^ap (IntKind.bits .u64) v13).toNat:Int) (fun n17=>
 (cQ 1 4∧
 (Wr h16 (adr a14 ((1:Int).toNat*1))∧
 At (hset h16 (adr a14 ((1:Int).toNat*1)) (.int .u64 n17)) (fun h18=>
 ∃a19,x0=some a19∧
 (cQ 0 4∧
 ∃v20,af h18 a19 ((0:Int).toNat*1) (.int .u64 v20)∧
 ∃a21,x0=some a21∧
 HC PG cP [.int .u64 v20,.int .i64 32] [.c (.int .u64)] (fun(e22:Int) h23=>
 (cQ 0 4∧
 (Wr h23 (adr a21 ((0:Int).toNat*1))∧
 At (hset h23 (adr a21 ((0:Int).toNat*1)) (.int .u64 e22)) (fun h24=>
 ∃a25,x0=some a25∧
 (cQ (2:Int) 4∧
 ∃v26,af h24 a25 ((2:Int).toNat*1) (.int .u64 v26)∧
 ∃a27,x0=some a27∧
 (cQ (3:Int) 4∧
 ∃v28,af h24 a27 ((3:Int).toNat*1) (.int .u64 v28)∧
 ∃a29,x0=some a29∧
 (cQ (2:Int) 4∧
 (Wr h24 (adr a29 ((2:Int).toNat*1))∧
 At (hset h24 (adr a29 ((2:Int).toNat*1)) (.int .u64 (IntKind.wrap .u64 (v26+v28)))) (fun h30=>
 ∃a31,x0=some a31∧
 (cQ (3:Int) 4∧
 ∃v32,af h30 a31 ((3:Int).toNat*1) (.int .u64 v32)∧
 ∃a33,x0=some a33∧
 (cQ (2:Int) 4∧
 ∃v34,af h30 a33 ((2:Int).toNat*1) (.int .u64 v34)∧
 ∃a35,x0=some a35∧
 HC PG cP [.int .u64 v32,.int .i64 16] [.c (.int .u64)] (fun(e36:Int) h37=>
 (af h37 a33 ((2:Int).toNat*1) (.int .u64 v34)∧
 Bd (IntKind.wrap .u64 (ap (IntKind.bits .u64) e36^^^ap (IntKind.bits .u64) v34).toNat:Int) (fun n38=>
 (cQ (3:Int) 4∧
 (Wr h37 (adr a35 ((3:Int).toNat*1))∧
 At (hset h37 (adr a35 ((3:Int).toNat*1)) (.int .u64 n38)) (fun h39=>
 ∃a40,x0=some a40∧
 (cQ 0 4∧
 ∃v41,af h39 a40 ((0:Int).toNat*1) (.int .u64 v41)∧
 ∃a42,x0=some a42∧
 (cQ (3:Int) 4∧
 ∃v43,af h39 a42 ((3:Int).toNat*1) (.int .u64 v43)∧
 ∃a44,x0=some a44∧
 (cQ 0 4∧
 (Wr h39 (adr a44 ((0:Int).toNat*1))∧
 At (hset h39 (adr a44 ((0:Int).toNat*1)) (.int .u64 (IntKind.wrap .u64 (v41+v43)))) (fun h45=>
 ∃a46,x0=some a46∧
 (cQ (3:Int) 4∧
 ∃v47,af h45 a46 ((3:Int).toNat*1) (.int .u64 v47)∧
 ∃a48,x0=some a48∧
 (cQ 0 4∧
 ∃v49,af h45 a48 ((0:Int).toNat*1) (.int .u64 v49)∧
 ∃a50,x0=some a50∧
 HC PG cP [.int .u64 v47,.int .i64 21] [.c (.int .u64)] (fun(e51:Int) h52=>
 (af h52 a48 ((0:Int).toNat*1) (.int .u64 v49)∧
 Bd (IntKind.wrap .u64 (ap (IntKind.bits .u64) e51^^^ap (IntKind.bits .u64) v49).toNat:Int) (fun n53=>
 (cQ (3:Int) 4∧
 (Wr h52 (adr a50 ((3:Int).toNat*1))∧
 At (hset h52 (adr a50 ((3:Int).toNat*1)) (.int .u64 n53)) (fun h54=>
 ∃a55,x0=some a55∧
 (cQ (2:Int) 4∧
 ∃v56,af h54 a55 ((2:Int).toNat*1) (.int .u64 v56)∧
 ∃a57,x0=some a57∧
 (cQ 1 4∧
 ∃v58,af h54 a57 ((1:Int).toNat*1) (.int .u64 v58)∧
 ∃a59,x0=some a59∧
 (cQ (2:Int) 4∧
 (Wr h54 (adr a59 ((2:Int).toNat*1))∧
 At (hset h54 (adr a59 ((2:Int).toNat*1)) (.int .u64 (IntKind.wrap .u64 (v56+v58)))) (fun h60=>
 ∃a61,x0=some a61∧
 (cQ 1 4∧
 ∃v62,af h60 a61 ((1:Int).toNat*1) (.int .u64 v62)∧
 ∃a63,x0=some a63∧
 (cQ (2:Int) 4∧
 ∃v64,af h60 a63 ((2:Int).toNat*1) (.int .u64 v64)∧
 ∃a65,x0=some a65∧
 HC PG cP [.int .u64 v62,.int .i64 17] [.c (.int .u64)] (fun(e66:Int) h67=>
 (af h67 a63 ((2:Int).toNat*1) (.int .u64 v64)∧
 Bd (IntKind.wrap .u64 (ap (IntKind.bits .u64) e66^^^ap (IntKind.bits .u64) v64).toNat:Int) (fun n68=>
 (cQ 1 4∧
 (Wr h67 (adr a65 ((1:Int).toNat*1))∧
 At (hset h67 (adr a65 ((1:Int).toNat*1)) (.int .u64 n68)) (fun h69=>
 ∃a70,x0=some a70∧
 (cQ (2:Int) 4∧
 ∃v71,af h69 a70 ((2:Int).toNat*1) (.int .u64 v71)∧
 ∃a72,x0=some a72∧
 HC PG cP [.int .u64 v71,.int .i64 32] [.c (.int .u64)] (fun(e73:Int) h74=>
 (cQ (2:Int) 4∧
 (Wr h74 (adr a72 ((2:Int).toNat*1))∧
 At (hset h74 (adr a72 ((2:Int).toNat*1)) (.int .u64 e73)) (fun h75=>
 I1 (IntKind.wrap .i64 (t2+1)) h75)))) h69))))))) h60))))))))))))) h45))))))))))))) h30))))))))))) h18))))))) h9)))))))) (
 K () h3)) 0 h0
noncomputable def vN:Ann:=.node .nil (.loop [(5,.c (.int .i64))] .nil)
theorem vB(x0:Option Addr)(x1:Int){K:cJ []→ae→Prop}{h0:ae}(h:pN x0 x1 K h0):HC PG gQ [.pointer x0,.int .i64 x1] [] K h0:=HC.intro (an:=vN) (c:=Tryz.f245.body.getD .skip) Tryz.mixed Tryz.func245 rfl Tryz.call245 (ad rfl) (dF (by kernel_rfl) h)
def oS(x0:Option Addr)(x1:Option Addr)(K:(Option Addr)→ae→Prop)(h0:ae):Prop:=
 HC PG mV [.pointer x0,.pointer x1] [.c .bool] (fun(e1:Bool) h2=>
 CondP e1 (
 K x0 h2) (
 ∃a3,x0=some a3∧
 ∃v4,af h2 a3 0 (.int .u32 v4)∧
 ∃v5,af h2 a3 1 (.int .u32 v5)∧
 ∃v6:SliceV,af h2 a3 2 (.slice v6.a v6.len v6.cap)∧
 ∃v7:SliceV,af h2 a3 3 (.slice v7.a v7.len v7.cap)∧
 ∃v8,af h2 a3 4 (.bool v8)∧
 ∃v9,af h2 a3 5 (.pointer v9)∧
 At (hnew h2 [.int .u32 0,.int .u32 0,.slice none 0 0,.slice none 0 0,.bool false,.pointer none] bh) (fun h10=>
 (fV h10 (some (ag h2)) 0 [.int .u32 v4,.int .u32 v5,.slice v6.a v6.len v6.cap,.slice v7.a v7.len v7.cap,.bool v8,.pointer v9]∧
 At (bP h10 (ag h2) 0 [.int .u32 v4,.int .u32 v5,.slice v6.a v6.len v6.cap,.slice v7.a v7.len v7.cap,.bool v8,.pointer v9]) (fun h11=>
 ∃a12,x0=some a12∧
 ∃v13:SliceV,af h11 (adr a12 0) 2 (.slice v13.a v13.len v13.cap)∧
 ∃a14,x0=some a14∧
 ∃v15:SliceV,af h11 (adr a14 0) 3 (.slice v15.a v15.len v15.cap)∧
 HC PG cf [.slice v13.a v13.len v13.cap] [.c .slice] (fun(e16:SliceV) h17=>
 (af h17 (adr a14 0) 3 (.slice v15.a v15.len v15.cap)∧
 HC PG cU [.slice v15.a v15.len v15.cap] [.c .slice] (fun(e18:SliceV) h19=>
 (Wr h19 (adr (adr (ag h2) 0) 2)∧
 At (hset h19 (adr (adr (ag h2) 0) 2) (.slice e16.a e16.len e16.cap)) (fun h20=>
 (Wr h20 (adr (adr (ag h2) 0) 3)∧
 At (hset h20 (adr (adr (ag h2) 0) 3) (.slice e18.a e18.len e18.cap)) (fun h21=>
 (Wr h21 (adr (ag h2) 5)∧
 At (hset h21 (adr (ag h2) 5) (.pointer none)) (fun h22=>
 HC PG fN [.pointer x1] [.c .bool] (fun(e23:Bool) h24=>
 CondP e23 (
 (Wr h24 (adr (ag h2) 5)∧
 At (hset h24 (adr (ag h2) 5) (.pointer x1)) (fun h25=>
 K (some (ag h2)) h25))) (
 K (some (ag h2)) h24)) h22))))))) h17)) h11))))) h0
noncomputable def zW:Ann:=.nil
theorem sE(x0:Option Addr)(x1:Option Addr){K:cJ [.c .ptr]→ae→Prop}{h0:ae}(h:oS x0 x1 K h0):HC PG fD [.pointer x0,.pointer x1] [.c .ptr] K h0:=HC.intro (an:=zW) (c:=Tryz.f246.body.getD .skip) Tryz.mixed Tryz.func246 rfl Tryz.call246 (ad rfl) (dF (by kernel_rfl) h)
def BZ(x0:SliceV)(x1:ByteArray×ByteArray)(K:(SliceV)→ae→Prop)(h0:ae):Prop:=
 At (hnew h0 [.string x1.1,.string x1.2] aj) (fun h1=>
 ∃v2,af h1 (ag h0) 0 (.string v2)∧
 HC PG oB [.slice x0.a x0.len x0.cap,.string v2] [.c (.int .i64),.c .bool] (fun(e3:Int×Bool) h4=>
 (((0:Int)≤e3.1∧e3.1≤((x0.len:Nat):Int))∧
 Join (fun(t9:SliceV) h10=>
 (((0:Int)≤e3.1∧e3.1≤((x0.cap:Nat):Int))∧
 ∃v11,af h10 (ag h0) 0 (.string v11)∧
 ∃v12,af h10 (ag h0) 1 (.string v12)∧
 At (hnew h10 [.string v11,.string v12] aj) (fun h13=>
 At (hnew h13 [.slice (aN x0.a 0 x0.cap 2) (e3.1.toNat-0) (x0.cap-0),.slice (some (ag h10)) 1 1,.slice t9.a t9.len t9.cap] bO) (fun h14=>
 HC PG dj [.slice (some (ag h13)) 3 3] [.c .slice] (fun(e15:SliceV) h16=>
 K e15 h16) h14)))) (fun J5=>
 CondP e3.2 (
 (((0:Int)≤(IntKind.wrap .i64 (e3.1+1))∧(IntKind.wrap .i64 (e3.1+1))≤((x0.len:Nat):Int))∧
 Bd (aN x0.a ((IntKind.wrap .i64 (e3.1+1)).toNat) x0.cap 2:Option Addr) (fun a6=>Bd (x0.len-((IntKind.wrap .i64 (e3.1+1)).toNat):Nat) (fun n7=>Bd (x0.cap-((IntKind.wrap .i64 (e3.1+1)).toNat):Nat) (fun n8=>
 J5 ⟨a6,n7,n8⟩ h4))))) (
 J5 ⟨aN x0.a e3.1.toNat x0.cap 2,x0.len-e3.1.toNat,x0.cap-e3.1.toNat⟩ h4)))) h1)
noncomputable def IH:Ann:=.node .nil (.node .nil (.node .nil (.join [(7,.c .slice)] .nil .nil)))
theorem Iu(x0:SliceV)(x1:ByteArray×ByteArray){K:cJ [.c .slice]→ae→Prop}{h0:ae}(h:BZ x0 x1 K h0):HC PG vp [.slice x0.a x0.len x0.cap,.agg #[.string x1.1,.string x1.2]] [.c .slice] K h0:=HC.intro (an:=IH) (c:=Tryz.f247.body.getD .skip) Tryz.mixed Tryz.func247 rfl Tryz.call247 (ad rfl) (dF (by kernel_rfl) h)
def gD(x0:SliceV)(x1:Int)(x2:Value)(K:(Unit)→ae→Prop)(h0:ae):Prop:=
 LoopP (fun I1 (t2:Int×Int) h3=>
 CondP (decide (t2.2≤x1)) (
 HC PG cK [.slice x0.a x0.len x0.cap,.int .i64 t2.1,.int .i64 t2.2,x2] [] (fun(e4:Unit) h5=>
 I1 (t2.2,IntKind.wrap .i64 (t2.2+20)) h5) h3) (
 HC PG cK [.slice x0.a x0.len x0.cap,.int .i64 t2.1,.int .i64 x1,x2] [] (fun(e6:Unit) h7=>
 LoopP (fun I8 (t9:Int) h10=>
 CondP (decide (t9<x1)) (
 LoopP (fun I11 (t12:Int×Int) h13=>
 CondP (decide (t12.2≤x1)) (
 HC PG cd [.slice x0.a x0.len x0.cap,.int .i64 t12.1,.int .i64 (IntKind.wrap .i64 (t12.1+t9)),.int .i64 t12.2,x2] [] (fun(e14:Unit) h15=>
 I11 (t12.2,IntKind.wrap .i64 (t12.2+(IntKind.wrap .i64 (2*t9)))) h15) h13) (
 Join (fun(t19:Unit) h20=>
 I8 (IntKind.wrap .i64 (t9*2)) h20) (fun J16=>
 CondP (decide ((IntKind.wrap .i64 (t12.1+t9))<x1)) (
 HC PG cd [.slice x0.a x0.len x0.cap,.int .i64 t12.1,.int .i64 (IntKind.wrap .i64 (t12.1+t9)),.int .i64 x1,x2] [] (fun(e17:Unit) h18=>
 J16 () h18) h13) (
 J16 () h13)))) (0,IntKind.wrap .i64 (2*t9)) h10) (
 K () h10)) 20 h7) h3)) (0,20) h0
noncomputable def lZ:Ann:=.node .nil (.node .nil (.node (.loop [(7,.c (.int .i64)),(8,.c (.int .i64))] .nil) (.node .nil (.loop [(6,.c (.int .i64))] (.node .nil (.node .nil (.node (.loop [(7,.c (.int .i64)),(8,.c (.int .i64))] .nil) (.join [] .nil .nil))))))))
theorem lU(x0:SliceV)(x1:Int)(x2:Value){K:cJ []→ae→Prop}{h0:ae}(h:gD x0 x1 x2 K h0):HC PG gB [.slice x0.a x0.len x0.cap,.int .i64 x1,x2] [] K h0:=HC.intro (an:=lZ) (c:=Tryz.f248.body.getD .skip) Tryz.mixed Tryz.func248 rfl Tryz.call248 (ad rfl) (dF (by kernel_rfl) h)
def sM(x0:Int)(K:(Bool)→ae→Prop)(h0:ae):Prop:=
 K (x0 !=x0) h0
noncomputable def z8:Ann:=.nil
theorem zS(x0:Int){K:cJ [.c .bool]→ae→Prop}{h0:ae}(h:sM x0 K h0):HC PG l8 [.int .i64 x0] [.c .bool] K h0:=HC.intro (an:=z8) (c:=Tryz.f249.body.getD .skip) Tryz.mixed Tryz.func249 rfl Tryz.call249 (ad rfl) (dF (by kernel_rfl) h)
def qy(x0:Option Addr)(x1:Int)(K:(Bool)→ae→Prop)(h0:ae):Prop:=
 CondP (!(x0.isNone)) (
 ∃a1,x0=some a1∧
 ∃v2,af h0 a1 4 (.bool v2)∧
 CondP (!v2) (
 CondP (decide (x1≥(0:Int))) (
 K (decide (x1<(32:Int))) h0) (
 K false h0)) (
 K false h0)) (
 K false h0)
noncomputable def xJ:Ann:=.nil
theorem w7(x0:Option Addr)(x1:Int){K:cJ [.c .bool]→ae→Prop}{h0:ae}(h:qy x0 x1 K h0):HC PG ip [.pointer x0,.int .i64 x1] [.c .bool] K h0:=HC.intro (an:=xJ) (c:=Tryz.f250.body.getD .skip) Tryz.mixed Tryz.func250 rfl Tryz.call250 (ad rfl) (dF (by kernel_rfl) h)
def qx(x0:Option Addr)(x1:Int)(K:(Unit)→ae→Prop)(h0:ae):Prop:=
 Join (fun(t16:Unit) h17=>
 Join (fun(t33:Unit) h34=>
 ∃a35,x0=some a35∧
 ∃v36,af h34 a35 0 (.int .u32 v36)∧
 ∃a37,x0=some a37∧
 ∃v38,af h34 a37 1 (.int .u32 v38)∧
 HC PG iq [.int .u32 v36,.int .i64 x1] [.c (.int .u32)] (fun(e39:Int) h40=>
 (af h40 a37 1 (.int .u32 v38)∧
 HC PG iq [.int .u32 v38,.int .i64 x1] [.c (.int .u32)] (fun(e41:Int) h42=>
 ∃a43,x0=some a43∧
 (Wr h42 (adr a43 0)∧
 At (hset h42 (adr a43 0) (.int .u32 e39)) (fun h44=>
 ∃a45,x0=some a45∧
 (Wr h44 (adr a45 1)∧
 At (hset h44 (adr a45 1) (.int .u32 e41)) (fun h46=>
 K () h46))))) h40)) h34) (fun J18=>
 ∃a19,x0=some a19∧
 ∃v20,af h17 a19 1 (.int .u32 v20)∧
 HC PG ff [.int .u32 v20,.int .i64 x1] [.c .bool] (fun(e21:Bool) h22=>
 CondP e21 (
 ∃a23,x0=some a23∧
 ∃v24,af h22 a23 1 (.int .u32 v24)∧
 HC PG cT [.int .u32 v24,.int .i64 x1] [.c (.int .i64)] (fun(e25:Int) h26=>
 ∃a27,x0=some a27∧
 ∃v28:SliceV,af h26 a27 3 (.slice v28.a v28.len v28.cap)∧
 HC PG dS [.slice v28.a v28.len v28.cap,.int .i64 e25,.int .i64 (IntKind.wrap .i64 (e25+1))] [.c .slice] (fun(e29:SliceV) h30=>
 ∃a31,x0=some a31∧
 (Wr h30 (adr a31 3)∧
 At (hset h30 (adr a31 3) (.slice e29.a e29.len e29.cap)) (fun h32=>
 J18 () h32))) h26) h22) (
 J18 () h22)) h17)) (fun J1=>
 ∃a2,x0=some a2∧
 ∃v3,af h0 a2 0 (.int .u32 v3)∧
 HC PG ff [.int .u32 v3,.int .i64 x1] [.c .bool] (fun(e4:Bool) h5=>
 CondP e4 (
 ∃a6,x0=some a6∧
 ∃v7,af h5 a6 0 (.int .u32 v7)∧
 HC PG cT [.int .u32 v7,.int .i64 x1] [.c (.int .i64)] (fun(e8:Int) h9=>
 ∃a10,x0=some a10∧
 ∃v11:SliceV,af h9 a10 2 (.slice v11.a v11.len v11.cap)∧
 HC PG eA [.slice v11.a v11.len v11.cap,.int .i64 e8,.int .i64 (IntKind.wrap .i64 (e8+1))] [.c .slice] (fun(e12:SliceV) h13=>
 ∃a14,x0=some a14∧
 (Wr h13 (adr a14 2)∧
 At (hset h13 (adr a14 2) (.slice e12.a e12.len e12.cap)) (fun h15=>
 J1 () h15))) h9) h5) (
 J1 () h5)) h0)
noncomputable def xI:Ann:=.join [] .nil (.join [] .nil .nil)
theorem w6(x0:Option Addr)(x1:Int){K:cJ []→ae→Prop}{h0:ae}(h:qx x0 x1 K h0):HC PG im [.pointer x0,.int .i64 x1] [] K h0:=HC.intro (an:=xI) (c:=Tryz.f251.body.getD .skip) Tryz.mixed Tryz.func251 rfl Tryz.call251 (ad rfl) (dF (by kernel_rfl) h)
def gg(x0:SliceV)(x1:Int)(x2:SliceV)(K:(SliceV)→ae→Prop)(h0:ae):Prop:=
 (((0:Int)≤x1∧x1≤((x0.len:Nat):Int))∧
 CondP ((x2.len:Int)==(0:Int)) (
 K x0 h0) (
 CondP (x1==(x0.len:Int)) (
 ∃xs1,SRow h0 x2.a (x2.len*2) xs1∧
 AppP (some [.string (⟨#[]⟩:ByteArray),.string (⟨#[]⟩:ByteArray)]) 2 32 aj x0.a x0.len x0.cap x2.len xs1 h0 (fun s2 h3=>
 K s2 h3)) (
 CondP (decide ((IntKind.wrap .i64 ((x0.len:Int)+(x2.len:Int)))>(x0.cap:Int))) (
 Join (fun(t8:SliceV) h9=>
 (((0:Int)≤x1∧x1≤((t8.len:Nat):Int))∧
 ∃xs10,SRow h9 x2.a (dz x2.len (t8.len-x1.toNat)*2) xs10∧fV h9 (aN t8.a x1.toNat t8.cap 2) 0 xs10∧bS xs10=true∧
 At (fe h9 (aN t8.a x1.toNat t8.cap 2) 0 xs10) (fun h11=>
 (((0:Int)≤(IntKind.wrap .i64 (x1+(x2.len:Int)))∧(IntKind.wrap .i64 (x1+(x2.len:Int)))≤((t8.len:Nat):Int))∧
 Bd (aN t8.a ((IntKind.wrap .i64 (x1+(x2.len:Int))).toNat) t8.cap 2:Option Addr) (fun a12=>Bd (t8.len-((IntKind.wrap .i64 (x1+(x2.len:Int))).toNat):Nat) (fun n13=>Bd (t8.cap-((IntKind.wrap .i64 (x1+(x2.len:Int))).toNat):Nat) (fun n14=>
 (((0:Int)≤x1∧x1≤((x0.len:Nat):Int))∧
 ∃xs15,SRow h11 (aN x0.a x1.toNat x0.cap 2) (dz (x0.len-x1.toNat) n13*2) xs15∧fV h11 a12 0 xs15∧bS xs15=true∧
 At (fe h11 a12 0 xs15) (fun h16=>
 K t8 h16))))))))) (fun J4=>
 (((0:Int)≤x1∧x1≤((x0.cap:Nat):Int))∧
 Bd (IntKind.wrap .i64 ((IntKind.wrap .i64 ((x0.len:Int)+(x2.len:Int)))-x1):Int) (fun n5=>
 (((0:Int)≤n5∧n5*((32:Nat):Int)≤2^48∧n5≤9223372036854775807∧(((x1.toNat-0)+n5.toNat:Nat):Int)≤9223372036854775807)∧
 AppP (some [.string (⟨#[]⟩:ByteArray),.string (⟨#[]⟩:ByteArray)]) 2 32 aj (aN x0.a 0 x0.cap 2) (x1.toNat-0) (x0.cap-0) n5.toNat (dd n5.toNat [.string (⟨#[]⟩:ByteArray),.string (⟨#[]⟩:ByteArray)]) h0 (fun s6 h7=>
 J4 s6 h7)))))) (
 (((0:Int)≤(IntKind.wrap .i64 ((x0.len:Int)+(x2.len:Int)))∧(IntKind.wrap .i64 ((x0.len:Int)+(x2.len:Int)))≤((x0.cap:Nat):Int))∧
 Bd (aN x0.a 0 x0.cap 2:Option Addr) (fun a17=>Bd (((IntKind.wrap .i64 ((x0.len:Int)+(x2.len:Int))).toNat)-0:Nat) (fun n18=>Bd (x0.cap-0:Nat) (fun n19=>
 (((0:Int)≤(IntKind.wrap .i64 (x1+(x2.len:Int)))∧(IntKind.wrap .i64 (x1+(x2.len:Int)))≤((n18:Nat):Int))∧
 Bd (aN a17 ((IntKind.wrap .i64 (x1+(x2.len:Int))).toNat) n19 2:Option Addr) (fun a20=>Bd (n18-((IntKind.wrap .i64 (x1+(x2.len:Int))).toNat):Nat) (fun n21=>Bd (n19-((IntKind.wrap .i64 (x1+(x2.len:Int))).toNat):Nat) (fun n22=>
 HC PG gt [.slice x2.a x2.len x2.cap,.slice a20 n21 n22] [.c .bool] (fun(e23:Bool) h24=>
 CondP (!e23) (
 (((0:Int)≤(IntKind.wrap .i64 (x1+(x2.len:Int)))∧(IntKind.wrap .i64 (x1+(x2.len:Int)))≤((n18:Nat):Int))∧
 Bd (aN a17 ((IntKind.wrap .i64 (x1+(x2.len:Int))).toNat) n19 2:Option Addr) (fun a25=>Bd (n18-((IntKind.wrap .i64 (x1+(x2.len:Int))).toNat):Nat) (fun n26=>Bd (n19-((IntKind.wrap .i64 (x1+(x2.len:Int))).toNat):Nat) (fun n27=>
 (((0:Int)≤x1∧x1≤((n18:Nat):Int))∧
 ∃xs28,SRow h24 (aN a17 x1.toNat n19 2) (dz (n18-x1.toNat) n26*2) xs28∧fV h24 a25 0 xs28∧bS xs28=true∧
 At (fe h24 a25 0 xs28) (fun h29=>
 (((0:Int)≤x1∧x1≤((n18:Nat):Int))∧
 ∃xs30,SRow h29 x2.a (dz x2.len (n18-x1.toNat)*2) xs30∧fV h29 (aN a17 x1.toNat n19 2) 0 xs30∧bS xs30=true∧
 At (fe h29 (aN a17 x1.toNat n19 2) 0 xs30) (fun h31=>
 K ⟨a17,n18,n19⟩ h31))))))))) (
 (((0:Int)≤(x0.len:Int)∧(x0.len:Int)≤((n18:Nat):Int))∧
 ∃xs32,SRow h24 x2.a (dz x2.len (n18-((x0.len:Int).toNat))*2) xs32∧fV h24 (aN a17 ((x0.len:Int).toNat) n19 2) 0 xs32∧bS xs32=true∧
 At (fe h24 (aN a17 ((x0.len:Int).toNat) n19 2) 0 xs32) (fun h33=>
 (((0:Int)≤x1∧x1≤((n18:Nat):Int))∧
 HC PG nF [.slice (aN a17 x1.toNat n19 2) (n18-x1.toNat) (n19-x1.toNat),.int .i64 (x2.len:Int)] [] (fun(e34:Unit) h35=>
 K ⟨a17,n18,n19⟩ h35) h33))))) h0))))))))))))
noncomputable def ll:Ann:=.node .nil (.node .nil (.node .nil (.node .nil (.node .nil (.node .nil (.node (.node .nil (.node (.join [(9,.c .slice)] .nil .nil) .nil)) .nil))))))
theorem lg(x0:SliceV)(x1:Int)(x2:SliceV){K:cJ [.c .slice]→ae→Prop}{h0:ae}(h:gg x0 x1 x2 K h0):HC PG cE [.slice x0.a x0.len x0.cap,.int .i64 x1,.slice x2.a x2.len x2.cap] [.c .slice] K h0:=HC.intro (an:=ll) (c:=Tryz.f252.body.getD .skip) Tryz.mixed Tryz.func252 rfl Tryz.call252 (ad rfl) (dF (by kernel_rfl) h)
def qF(x0:Int)(x1:Int)(K:(Int)→ae→Prop)(h0:ae):Prop:=
 HC PG lP [.int .i64 x1] [.c .bool] (fun(e1:Bool) h2=>
 CondP (!e1) (
 K x0 h2) (
 ((0:Int)≤x1∧
 Bd (IntKind.wrap .u32 (ap (IntKind.bits .u32) x0|||ap (IntKind.bits .u32) (IntKind.wrap .u32 (1*2^(min (x1:Int).toNat (IntKind.bits .u32))))).toNat:Int) (fun n3=>
 K n3 h2)))) h0
noncomputable def xQ:Ann:=.nil
theorem xf(x0:Int)(x1:Int){K:cJ [.c (.int .u32)]→ae→Prop}{h0:ae}(h:qF x0 x1 K h0):HC PG eI [.int .u32 x0,.int .i64 x1] [.c (.int .u32)] K h0:=HC.intro (an:=xQ) (c:=Tryz.f253.body.getD .skip) Tryz.mixed Tryz.func253 rfl Tryz.call253 (ad rfl) (dF (by kernel_rfl) h)
def fE(x0:SliceV)(x1:Int)(x2:SliceV)(K:(SliceV)→ae→Prop)(h0:ae):Prop:=
 (((0:Int)≤x1∧x1≤((x0.len:Nat):Int))∧
 CondP ((x2.len:Int)==(0:Int)) (
 K x0 h0) (
 CondP (x1==(x0.len:Int)) (
 ∃xs1,SRow h0 x2.a (x2.len*1) xs1∧
 AppP (some [.pointer none]) 1 8 bw x0.a x0.len x0.cap x2.len xs1 h0 (fun s2 h3=>
 K s2 h3)) (
 CondP (decide ((IntKind.wrap .i64 ((x0.len:Int)+(x2.len:Int)))>(x0.cap:Int))) (
 Join (fun(t8:SliceV) h9=>
 (((0:Int)≤x1∧x1≤((t8.len:Nat):Int))∧
 ∃xs10,SRow h9 x2.a (dz x2.len (t8.len-x1.toNat)*1) xs10∧fV h9 (aN t8.a x1.toNat t8.cap 1) 0 xs10∧bS xs10=true∧
 At (fe h9 (aN t8.a x1.toNat t8.cap 1) 0 xs10) (fun h11=>
 (((0:Int)≤(IntKind.wrap .i64 (x1+(x2.len:Int)))∧(IntKind.wrap .i64 (x1+(x2.len:Int)))≤((t8.len:Nat):Int))∧
 Bd (aN t8.a ((IntKind.wrap .i64 (x1+(x2.len:Int))).toNat) t8.cap 1:Option Addr) (fun a12=>Bd (t8.len-((IntKind.wrap .i64 (x1+(x2.len:Int))).toNat):Nat) (fun n13=>Bd (t8.cap-((IntKind.wrap .i64 (x1+(x2.len:Int))).toNat):Nat) (fun n14=>
 (((0:Int)≤x1∧x1≤((x0.len:Nat):Int))∧
 ∃xs15,SRow h11 (aN x0.a x1.toNat x0.cap 1) (dz (x0.len-x1.toNat) n13*1) xs15∧fV h11 a12 0 xs15∧bS xs15=true∧
 At (fe h11 a12 0 xs15) (fun h16=>
 K t8 h16))))))))) (fun J4=>
 (((0:Int)≤x1∧x1≤((x0.cap:Nat):Int))∧
 Bd (IntKind.wrap .i64 ((IntKind.wrap .i64 ((x0.len:Int)+(x2.len:Int)))-x1):Int) (fun n5=>
 (((0:Int)≤n5∧n5*((8:Nat):Int)≤2^48∧n5≤9223372036854775807∧(((x1.toNat-0)+n5.toNat:Nat):Int)≤9223372036854775807)∧
 AppP (some [.pointer none]) 1 8 bw (aN x0.a 0 x0.cap 1) (x1.toNat-0) (x0.cap-0) n5.toNat (dd n5.toNat [.pointer none]) h0 (fun s6 h7=>
 J4 s6 h7)))))) (
 (((0:Int)≤(IntKind.wrap .i64 ((x0.len:Int)+(x2.len:Int)))∧(IntKind.wrap .i64 ((x0.len:Int)+(x2.len:Int)))≤((x0.cap:Nat):Int))∧
 Bd (aN x0.a 0 x0.cap 1:Option Addr) (fun a17=>Bd (((IntKind.wrap .i64 ((x0.len:Int)+(x2.len:Int))).toNat)-0:Nat) (fun n18=>Bd (x0.cap-0:Nat) (fun n19=>
 (((0:Int)≤(IntKind.wrap .i64 (x1+(x2.len:Int)))∧(IntKind.wrap .i64 (x1+(x2.len:Int)))≤((n18:Nat):Int))∧
 Bd (aN a17 ((IntKind.wrap .i64 (x1+(x2.len:Int))).toNat) n19 1:Option Addr) (fun a20=>Bd (n18-((IntKind.wrap .i64 (x1+(x2.len:Int))).toNat):Nat) (fun n21=>Bd (n19-((IntKind.wrap .i64 (x1+(x2.len:Int))).toNat):Nat) (fun n22=>
 HC PG f8 [.slice x2.a x2.len x2.cap,.slice a20 n21 n22] [.c .bool] (fun(e23:Bool) h24=>
 CondP (!e23) (
 (((0:Int)≤(IntKind.wrap .i64 (x1+(x2.len:Int)))∧(IntKind.wrap .i64 (x1+(x2.len:Int)))≤((n18:Nat):Int))∧
 Bd (aN a17 ((IntKind.wrap .i64 (x1+(x2.len:Int))).toNat) n19 1:Option Addr) (fun a25=>Bd (n18-((IntKind.wrap .i64 (x1+(x2.len:Int))).toNat):Nat) (fun n26=>Bd (n19-((IntKind.wrap .i64 (x1+(x2.len:Int))).toNat):Nat) (fun n27=>
 (((0:Int)≤x1∧x1≤((n18:Nat):Int))∧
 ∃xs28,SRow h24 (aN a17 x1.toNat n19 1) (dz (n18-x1.toNat) n26*1) xs28∧fV h24 a25 0 xs28∧bS xs28=true∧
 At (fe h24 a25 0 xs28) (fun h29=>
 (((0:Int)≤x1∧x1≤((n18:Nat):Int))∧
 ∃xs30,SRow h29 x2.a (dz x2.len (n18-x1.toNat)*1) xs30∧fV h29 (aN a17 x1.toNat n19 1) 0 xs30∧bS xs30=true∧
 At (fe h29 (aN a17 x1.toNat n19 1) 0 xs30) (fun h31=>
 K ⟨a17,n18,n19⟩ h31))))))))) (
 (((0:Int)≤(x0.len:Int)∧(x0.len:Int)≤((n18:Nat):Int))∧
 ∃xs32,SRow h24 x2.a (dz x2.len (n18-((x0.len:Int).toNat))*1) xs32∧fV h24 (aN a17 ((x0.len:Int).toNat) n19 1) 0 xs32∧bS xs32=true∧
 At (fe h24 (aN a17 ((x0.len:Int).toNat) n19 1) 0 xs32) (fun h33=>
 (((0:Int)≤x1∧x1≤((n18:Nat):Int))∧
 HC PG mQ [.slice (aN a17 x1.toNat n19 1) (n18-x1.toNat) (n19-x1.toNat),.int .i64 (x2.len:Int)] [] (fun(e34:Unit) h35=>
 K ⟨a17,n18,n19⟩ h35) h33))))) h0))))))))))))
noncomputable def jJ:Ann:=.node .nil (.node .nil (.node .nil (.node .nil (.node .nil (.node .nil (.node (.node .nil (.node (.join [(9,.c .slice)] .nil .nil) .nil)) .nil))))))
theorem jH(x0:SliceV)(x1:Int)(x2:SliceV){K:cJ [.c .slice]→ae→Prop}{h0:ae}(h:fE x0 x1 x2 K h0):HC PG cj [.slice x0.a x0.len x0.cap,.int .i64 x1,.slice x2.a x2.len x2.cap] [.c .slice] K h0:=HC.intro (an:=jJ) (c:=Tryz.f254.body.getD .skip) Tryz.mixed Tryz.func254 rfl Tryz.call254 (ad rfl) (dF (by kernel_rfl) h)
def mq(x0:Value)(y0:Addr)(K:(Unit)→ae→Prop)(h0:ae):Prop:=
 LoopP (fun I1 (t2:Unit) h3=>
 ∃v4,aE h3 y0=some (.int .u32 v4)∧
 CondP (v4 !=(0:Int)) (
 ∃v5,aE h3 y0=some (.int .u32 v5)∧
 HC PG gu [.int .u32 v5] [.c (.int .i64)] (fun(e6:Int) h7=>
 HV PG x0 [.int .i64 e6] [.c .bool] (fun(e8:Bool) h9=>
 CondP (!e8) (
 K () h9) (
 ∃v10,aE h9 y0=some (.int .u32 v10)∧
 ∃v11,aE h9 y0=some (.int .u32 v11)∧
 Bd (IntKind.wrap .u32 (ap (IntKind.bits .u32) v10&&&ap (IntKind.bits .u32) (IntKind.wrap .u32 (v11-1))).toNat:Int) (fun n12=>
 (Wr h9 y0∧
 At (hset h9 y0 (.int .u32 n12)) (fun h13=>
 I1 () h13))))) h7) h3) (
 K () h3)) () h0
noncomputable def pX:Ann:=.loop [] .nil
theorem Iw(x0:Value)(y0:Addr){K:cJ []→ae→Prop}{h0:ae}(h:mq x0 y0 K h0):HC PG gR [x0,.pointer (some y0)] [] K h0:=HC.intro (an:=pX) (c:=Tryz.f257.body.getD .skip) Tryz.mixed Tryz.func257 rfl Tryz.call257 (ad rfl) (dF (by kernel_rfl) h)
theorem un(x0:Value)(y0:Addr){K:cJ []→ae→Prop}{h0:ae}(h:mq x0 y0 K h0):HE PG gR [x0,.pointer (some y0)] [] K h0:=HE.intro (an:=pX) (c:=Tryz.f257.body.getD .skip) Tryz.mixed Tryz.func257 rfl Tryz.call257 (ad rfl) (dF (by kernel_rfl) h)
def j9(x0:Int)(K:(Int)→ae→Prop)(h0:ae):Prop:=
 CondP (x0==(0:Int)) (
 K 32 h0) (
 Bd (IntKind.wrap .u32 (ap (IntKind.bits .u32) x0&&&ap (IntKind.bits .u32) (IntKind.wrap .u32 (0-x0))).toNat:Int) (fun n1=>
 ((0:Int)≤(27:Int)∧
 Bd (di (IntKind.wrap .u32 (n1*125613361)) (2^(min (27:Int).toNat (IntKind.bits .u32))):Int) (fun n2=>
 (cQ n2 32∧
 ∃v3,af h0 (⟨0,0,none⟩) (n2.toNat*1) (.int .u8 v3)∧
 K (IntKind.wrap .i64 v3) h0)))))
noncomputable def pn:Ann:=.nil
theorem pm(x0:Int){K:cJ [.c (.int .i64)]→ae→Prop}{h0:ae}(h:j9 x0 K h0):HC PG gu [.int .u32 x0] [.c (.int .i64)] K h0:=HC.intro (an:=pn) (c:=Tryz.f258.body.getD .skip) Tryz.mixed Tryz.func258 rfl Tryz.call258 (ad rfl) (dF (by kernel_rfl) h)
def pS(x0:Option Addr)(x1:Option Addr)(K:(Bool)→ae→Prop)(h0:ae):Prop:=
 CondP (!(x0.isNone)) (
 HC PG fN [.pointer x1] [.c .bool] (fun(e1:Bool) h2=>
 CondP e1 (
 ∃a3,x0=some a3∧
 ∃v4,af h2 a3 4 (.pointer v4)∧
 (True∧(∀x y:Addr,v4=some x→x1=some y→ig h2 x∧ig h2 y)∧
 K (v4==x1) h2)) (
 K false h2)) h0) (
 K false h0)
noncomputable def vS:Ann:=.nil
theorem vG(x0:Option Addr)(x1:Option Addr){K:cJ [.c .bool]→ae→Prop}{h0:ae}(h:pS x0 x1 K h0):HC PG ml [.pointer x0,.pointer x1] [.c .bool] K h0:=HC.intro (an:=vS) (c:=Tryz.f259.body.getD .skip) Tryz.mixed Tryz.func259 rfl Tryz.call259 (ad rfl) (dF (by kernel_rfl) h)
def pK(x0:Option Addr)(K:(Bool)→ae→Prop)(h0:ae):Prop:=
 CondP (!(x0.isNone)) (
 ∃a1,x0=some a1∧
 ∃v2,af h0 a1 2 (.bool v2)∧
 K v2 h0) (
 K false h0)
noncomputable def vK:Ann:=.nil
theorem vy(x0:Option Addr){K:cJ [.c .bool]→ae→Prop}{h0:ae}(h:pK x0 K h0):HC PG fN [.pointer x0] [.c .bool] K h0:=HC.intro (an:=vK) (c:=Tryz.f260.body.getD .skip) Tryz.mixed Tryz.func260 rfl Tryz.call260 (ad rfl) (dF (by kernel_rfl) h)
def pQ(x0:Option Addr)(x1:ByteArray)(K:(Option Addr)→ae→Prop)(h0:ae):Prop:=
 ∃a1,x0=some a1∧
 (Wr h0 (adr a1 0)∧
 At (hset h0 (adr a1 0) (.string x1)) (fun h2=>
 K x0 h2))
noncomputable def vQ:Ann:=.nil
theorem vE(x0:Option Addr)(x1:ByteArray){K:cJ [.c .ptr]→ae→Prop}{h0:ae}(h:pQ x0 x1 K h0):HC PG fP [.pointer x0,.string x1] [.c .ptr] K h0:=HC.intro (an:=vQ) (c:=Tryz.f263.body.getD .skip) Tryz.mixed Tryz.func263 rfl Tryz.call263 (ad rfl) (dF (by kernel_rfl) h)
def zD(x0:SliceV)(x1:ByteArray)(K:(SliceV)→ae→Prop)(h0:ae):Prop:=
 HC PG oB [.slice x0.a x0.len x0.cap,.string x1] [.c (.int .i64),.c .bool] (fun(e1:Int×Bool) h2=>
 CondP (!e1.2) (
 HC PG cf [.slice x0.a x0.len x0.cap] [.c .slice] (fun(e3:SliceV) h4=>
 K e3 h4) h2) (
 (((0:Int)≤e1.1∧e1.1≤((x0.cap:Nat):Int))∧
 (((0:Int)≤(IntKind.wrap .i64 (e1.1+1))∧(IntKind.wrap .i64 (e1.1+1))≤((x0.len:Nat):Int))∧
 Bd (aN x0.a ((IntKind.wrap .i64 (e1.1+1)).toNat) x0.cap 2:Option Addr) (fun a5=>Bd (x0.len-((IntKind.wrap .i64 (e1.1+1)).toNat):Nat) (fun n6=>Bd (x0.cap-((IntKind.wrap .i64 (e1.1+1)).toNat):Nat) (fun n7=>
 At (hnew h2 [.slice (aN x0.a 0 x0.cap 2) (e1.1.toNat-0) (x0.cap-0),.slice a5 n6 n7] bO) (fun h8=>
 HC PG dj [.slice (some (ag h2)) 2 2] [.c .slice] (fun(e9:SliceV) h10=>
 K e9 h10) h8)))))))) h0
noncomputable def GT:Ann:=.nil
theorem GI(x0:SliceV)(x1:ByteArray){K:cJ [.c .slice]→ae→Prop}{h0:ae}(h:zD x0 x1 K h0):HC PG tw [.slice x0.a x0.len x0.cap,.string x1] [.c .slice] K h0:=HC.intro (an:=GT) (c:=Tryz.f264.body.getD .skip) Tryz.mixed Tryz.func264 rfl Tryz.call264 (ad rfl) (dF (by kernel_rfl) h)
def ry(x0:ByteArray)(x1:ByteArray)(K:(Bool)→ae→Prop)(h0:ae):Prop:=
 HC PG ji [.string x0,.string x1] [.c .bool] (fun(e1:Bool) h2=>
 K e1 h2) h0
noncomputable def yJ:Ann:=.nil
theorem yw(x0:ByteArray)(x1:ByteArray){K:cJ [.c .bool]→ae→Prop}{h0:ae}(h:ry x0 x1 K h0):HC PG rk [.string x0,.string x1] [.c .bool] K h0:=HC.intro (an:=yJ) (c:=Tryz.f265.body.getD .skip) Tryz.mixed Tryz.func265 rfl Tryz.call265 (ad rfl) (dF (by kernel_rfl) h)
def d6(x0:SliceV)(x1:ByteArray)(x2:Value)(K:(Int×Bool)→ae→Prop)(h0:ae):Prop:=
 LoopP (fun I1 (t2:Int×Int) h3=>
 CondP (decide (t2.1<t2.2)) (
 ((0:Int)≤(1:Int)∧
 Bd (di (IntKind.wrap .u64 (IntKind.wrap .i64 (t2.1+t2.2))) (2^(min (1:Int).toNat (IntKind.bits .u64))):Int) (fun n4=>
 (cQ (IntKind.wrap .i64 n4) x0.len∧∃a5,x0.a=some a5∧
 ∃v6,af h3 (adr a5 ((IntKind.wrap .i64 n4).toNat*2)) 0 (.string v6)∧
 ∃v7,af h3 (adr a5 ((IntKind.wrap .i64 n4).toNat*2)) 1 (.string v7)∧
 HV PG x2 [.agg #[.string v6,.string v7],.string x1] [.c (.int .i64)] (fun(e8:Int) h9=>
 CondP (decide (e8<(0:Int))) (
 I1 (IntKind.wrap .i64 ((IntKind.wrap .i64 n4)+1),t2.2) h9) (
 I1 (t2.1,IntKind.wrap .i64 n4) h9)) h3)))) (
 CondP (decide (t2.1<(x0.len:Int))) (
 (cQ t2.1 x0.len∧∃a10,x0.a=some a10∧
 ∃v11,af h3 (adr a10 (t2.1.toNat*2)) 0 (.string v11)∧
 ∃v12,af h3 (adr a10 (t2.1.toNat*2)) 1 (.string v12)∧
 HV PG x2 [.agg #[.string v11,.string v12],.string x1] [.c (.int .i64)] (fun(e13:Int) h14=>
 K (t2.1,e13==(0:Int)) h14) h3)) (
 K (t2.1,false) h3))) (0,(x0.len:Int)) h0
noncomputable def gM:Ann:=.node .nil (.node .nil (.node .nil (.node (.loop [(9,.c (.int .i64)),(10,.c (.int .i64))] .nil) .nil)))
theorem gK(x0:SliceV)(x1:ByteArray)(x2:Value){K:cJ [.c (.int .i64),.c .bool]→ae→Prop}{h0:ae}(h:d6 x0 x1 x2 K h0):HC PG dY [.slice x0.a x0.len x0.cap,.string x1,x2] [.c (.int .i64),.c .bool] K h0:=HC.intro (an:=gM) (c:=Tryz.f266.body.getD .skip) Tryz.mixed Tryz.func266 rfl Tryz.call266 (ad rfl) (dF (by kernel_rfl) h)
def uU(x0:Int)(K:(Bool)→ae→Prop)(h0:ae):Prop:=
 CondP (decide (x0≥(0:Int))) (
 K (decide (x0<(32:Int))) h0) (
 K false h0)
noncomputable def Da:Ann:=.nil
theorem CM(x0:Int){K:cJ [.c .bool]→ae→Prop}{h0:ae}(h:uU x0 K h0):HC PG lP [.int .i64 x0] [.c .bool] K h0:=HC.intro (an:=Da) (c:=Tryz.f267.body.getD .skip) Tryz.mixed Tryz.func267 rfl Tryz.call267 (ad rfl) (dF (by kernel_rfl) h)
def pV(x0:Int)(K:(Int)→ae→Prop)(h0:ae):Prop:=
 HC PG iW [.int .u32 x0] [.c (.int .i64)] (fun(e1:Int) h2=>
 K e1 h2) h0
noncomputable def vV:Ann:=.nil
theorem vJ(x0:Int){K:cJ [.c (.int .i64)]→ae→Prop}{h0:ae}(h:pV x0 K h0):HC PG mn [.int .u32 x0] [.c (.int .i64)] K h0:=HC.intro (an:=vV) (c:=Tryz.f268.body.getD .skip) Tryz.mixed Tryz.func268 rfl Tryz.call268 (ad rfl) (dF (by kernel_rfl) h)
def pL(x0:Option Addr)(x1:(Option Addr)×ByteArray×Bool)(K:(Unit)→ae→Prop)(h0:ae):Prop:=
 At (hnew h0 [.pointer x1.1,.string x1.2.1,.bool x1.2.2] du) (fun h1=>
 ∃v2,af h1 (ag h0) 1 (.string v2)∧
 ∃v3,af h1 (ag h0) 0 (.pointer v3)∧
 HC PG jq [.pointer v3] [.c .str] (fun(e4:ByteArray) h5=>
 (af h5 (ag h0) 1 (.string v2)∧
 (((v2.size+e4.size:Nat):Int)≤9223372036854775807∧
 ∃a6,x0=some a6∧
 ∃v7,af h5 (adr a6 1) 0 (.string v7)∧
 ∃v8,af h5 (adr a6 1) 1 (.string v8)∧
 ∃v9,af h5 (adr a6 1) 2 (.bool v9)∧
 HC PG nE [.agg #[.string v7,.string v8,.bool v9],.string (v2++e4)] [.c .bool] (fun(e10:Bool) h11=>
 CondP e10 (
 K () h11) (
 ∃v12,af h11 (ag h0) 0 (.pointer v12)∧
 ∃v13,af h11 (ag h0) 1 (.string v13)∧
 At (hnew h11 [.pointer v12,.string v13,.bool true] du) (fun h14=>
 ∃v15,af h14 (ag h0) 0 (.pointer v15)∧
 HC PG mS [.pointer v15] [.c .slice] (fun(e16:SliceV) h17=>
 LoopP (fun I18 (t19:SliceV×Int) h20=>
 CondP (decide (t19.2<(e16.len:Int))) (
 Join (fun(t28:SliceV) h29=>
 I18 (t28,IntKind.wrap .i64 (t19.2+1)) h29) (fun J21=>
 (cQ t19.2 e16.len∧∃a22,e16.a=some a22∧
 ∃v23,af h20 a22 (t19.2.toNat*1) (.pointer v23)∧
 At (hnew h20 [.pointer v23,.string (v2++e4),.bool false] du) (fun h24=>
 ∃xs25,SRow h24 (some (ag h20)) (1*3) xs25∧
 AppP (some [.pointer none,.string (⟨#[]⟩:ByteArray),.bool false]) 3 32 du t19.1.a t19.1.len t19.1.cap 1 xs25 h24 (fun s26 h27=>
 J21 s26 h27))))) (
 Join (fun(t35:Unit) h36=>
 ∃a37,x0=some a37∧
 ∃v38:SliceV,af h36 a37 0 (.slice v38.a v38.len v38.cap)∧
 ∃xs39,SRow h36 t19.1.a (t19.1.len*3) xs39∧
 AppP (some [.pointer none,.string (⟨#[]⟩:ByteArray),.bool false]) 3 32 du v38.a v38.len v38.cap t19.1.len xs39 h36 (fun s40 h41=>
 ∃a42,x0=some a42∧
 (Wr h41 (adr a42 0)∧
 At (hset h41 (adr a42 0) (.slice s40.a s40.len s40.cap)) (fun h43=>
 K () h43)))) (fun J30=>
 ∃a31,x0=some a31∧
 ∃v32,af h20 a31 4 (.bool v32)∧
 CondP (!v32) (
 HC PG ed [.slice t19.1.a t19.1.len t19.1.cap] [] (fun(e33:Unit) h34=>
 J30 () h34) h20) (
 J30 () h20)))) (⟨some (ag h11),1,1⟩,0) h17) h14))) h5))) h1)
noncomputable def vL:Ann:=.node .nil (.node .nil (.node .nil (.node .nil (.node (.node .nil (.loop [(5,.c .slice),(30,.c (.int .i64))] (.node .nil (.node .nil (.join [(5,.c .slice)] .nil .nil))))) (.join [] .nil .nil)))))
theorem vz(x0:Option Addr)(x1:(Option Addr)×ByteArray×Bool){K:cJ []→ae→Prop}{h0:ae}(h:pL x0 x1 K h0):HC PG me [.pointer x0,.agg #[.pointer x1.1,.string x1.2.1,.bool x1.2.2]] [] K h0:=HC.intro (an:=vL) (c:=Tryz.f274.body.getD .skip) Tryz.mixed Tryz.func274 rfl Tryz.call274 (ad rfl) (dF (by kernel_rfl) h)
def sG(x0:ByteArray×ByteArray×Bool)(x1:ByteArray)(K:(Bool)→ae→Prop)(h0:ae):Prop:=
 At (hnew h0 [.string x0.1,.string x0.2.1,.bool x0.2.2] mu) (fun h1=>
 ∃v2,af h1 (ag h0) 0 (.string v2)∧
 CondP (!(Op.bytesLess x1.toList v2.toList)) (
 ∃v3,af h1 (ag h0) 2 (.bool v3)∧
 CondP v3 (
 K true h1) (
 ∃v4,af h1 (ag h0) 1 (.string v4)∧
 K (Op.bytesLess x1.toList v4.toList) h1)) (
 K false h1))
noncomputable def zT:Ann:=.nil
theorem zM(x0:ByteArray×ByteArray×Bool)(x1:ByteArray){K:cJ [.c .bool]→ae→Prop}{h0:ae}(h:sG x0 x1 K h0):HC PG oO [.agg #[.string x0.1,.string x0.2.1,.bool x0.2.2],.string x1] [.c .bool] K h0:=HC.intro (an:=zT) (c:=Tryz.f275.body.getD .skip) Tryz.mixed Tryz.func275 rfl Tryz.call275 (ad rfl) (dF (by kernel_rfl) h)
def fW(x0:SliceV)(x1:Int)(x2:Int)(x3:Value)(K:(Unit)→ae→Prop)(h0:ae):Prop:=
 LoopP (fun I1 (t2:Int) h3=>
 CondP (decide (t2<x2)) (
 LoopP (fun I4 (t5:Int) h6=>
 Join (fun(t16:Bool) h17=>
 CondP t16 (
 (cQ (IntKind.wrap .i64 (t5-1)) x0.len∧∃a18,x0.a=some a18∧
 ∃v19,af h17 (adr a18 ((IntKind.wrap .i64 (t5-1)).toNat*2)) 0 (.string v19)∧
 ∃v20,af h17 (adr a18 ((IntKind.wrap .i64 (t5-1)).toNat*2)) 1 (.string v20)∧
 (cQ t5 x0.len∧∃a21,x0.a=some a21∧
 ∃v22,af h17 (adr a21 (t5.toNat*2)) 0 (.string v22)∧
 ∃v23,af h17 (adr a21 (t5.toNat*2)) 1 (.string v23)∧
 (cQ t5 x0.len∧∃a24,x0.a=some a24∧
 (fV h17 (some (adr a24 (t5.toNat*2))) 0 [.string v19,.string v20]∧
 At (bP h17 (adr a24 (t5.toNat*2)) 0 [.string v19,.string v20]) (fun h25=>
 (cQ (IntKind.wrap .i64 (t5-1)) x0.len∧∃a26,x0.a=some a26∧
 (fV h25 (some (adr a26 ((IntKind.wrap .i64 (t5-1)).toNat*2))) 0 [.string v22,.string v23]∧
 At (bP h25 (adr a26 ((IntKind.wrap .i64 (t5-1)).toNat*2)) 0 [.string v22,.string v23]) (fun h27=>
 I4 (IntKind.wrap .i64 (t5-1)) h27))))))))) (
 I1 (IntKind.wrap .i64 (t2+1)) h17)) (fun J7=>
 CondP (decide (t5>x1)) (
 (cQ t5 x0.len∧∃a8,x0.a=some a8∧
 ∃v9,af h6 (adr a8 (t5.toNat*2)) 0 (.string v9)∧
 ∃v10,af h6 (adr a8 (t5.toNat*2)) 1 (.string v10)∧
 (cQ (IntKind.wrap .i64 (t5-1)) x0.len∧∃a11,x0.a=some a11∧
 ∃v12,af h6 (adr a11 ((IntKind.wrap .i64 (t5-1)).toNat*2)) 0 (.string v12)∧
 ∃v13,af h6 (adr a11 ((IntKind.wrap .i64 (t5-1)).toNat*2)) 1 (.string v13)∧
 HV PG x3 [.agg #[.string v9,.string v10],.agg #[.string v12,.string v13]] [.c (.int .i64)] (fun(e14:Int) h15=>
 J7 (decide (e14<(0:Int))) h15) h6))) (
 J7 false h6))) t2 h3) (
 K () h3)) (IntKind.wrap .i64 (x1+1)) h0
noncomputable def km:Ann:=.node .nil (.loop [(8,.c (.int .i64))] (.node .nil (.node (.node .nil (.loop [(9,.c (.int .i64))] (.node (.join [(34,.c .bool)] .nil .nil) .nil))) .nil)))
theorem ki(x0:SliceV)(x1:Int)(x2:Int)(x3:Value){K:cJ []→ae→Prop}{h0:ae}(h:fW x0 x1 x2 x3 K h0):HC PG cY [.slice x0.a x0.len x0.cap,.int .i64 x1,.int .i64 x2,x3] [] K h0:=HC.intro (an:=km) (c:=Tryz.f277.body.getD .skip) Tryz.mixed Tryz.func277 rfl Tryz.call277 (ad rfl) (dF (by kernel_rfl) h)
def gT(x0:SliceV)(x1:Int)(x2:Int)(x3:Int)(x4:Value)(K:(Unit)→ae→Prop)(h0:ae):Prop:=
 CondP ((IntKind.wrap .i64 (x2-x1))==(1:Int)) (
 LoopP (fun I1 (t2:Int×Int) h3=>
 CondP (decide (t2.1<t2.2)) (
 ((0:Int)≤(1:Int)∧
 Bd (di (IntKind.wrap .u64 (IntKind.wrap .i64 (t2.1+t2.2))) (2^(min (1:Int).toNat (IntKind.bits .u64))):Int) (fun n4=>
 (cQ (IntKind.wrap .i64 n4) x0.len∧∃a5,x0.a=some a5∧
 ∃v6,af h3 (adr a5 ((IntKind.wrap .i64 n4).toNat*2)) 0 (.string v6)∧
 ∃v7,af h3 (adr a5 ((IntKind.wrap .i64 n4).toNat*2)) 1 (.string v7)∧
 (cQ x1 x0.len∧∃a8,x0.a=some a8∧
 ∃v9,af h3 (adr a8 (x1.toNat*2)) 0 (.string v9)∧
 ∃v10,af h3 (adr a8 (x1.toNat*2)) 1 (.string v10)∧
 HV PG x4 [.agg #[.string v6,.string v7],.agg #[.string v9,.string v10]] [.c (.int .i64)] (fun(e11:Int) h12=>
 CondP (decide (e11<(0:Int))) (
 I1 (IntKind.wrap .i64 ((IntKind.wrap .i64 n4)+1),t2.2) h12) (
 I1 (t2.1,IntKind.wrap .i64 n4) h12)) h3))))) (
 LoopP (fun I13 (t14:Int) h15=>
 CondP (decide (t14<(IntKind.wrap .i64 (t2.1-1)))) (
 (cQ (IntKind.wrap .i64 (t14+1)) x0.len∧∃a16,x0.a=some a16∧
 ∃v17,af h15 (adr a16 ((IntKind.wrap .i64 (t14+1)).toNat*2)) 0 (.string v17)∧
 ∃v18,af h15 (adr a16 ((IntKind.wrap .i64 (t14+1)).toNat*2)) 1 (.string v18)∧
 (cQ t14 x0.len∧∃a19,x0.a=some a19∧
 ∃v20,af h15 (adr a19 (t14.toNat*2)) 0 (.string v20)∧
 ∃v21,af h15 (adr a19 (t14.toNat*2)) 1 (.string v21)∧
 (cQ t14 x0.len∧∃a22,x0.a=some a22∧
 (fV h15 (some (adr a22 (t14.toNat*2))) 0 [.string v17,.string v18]∧
 At (bP h15 (adr a22 (t14.toNat*2)) 0 [.string v17,.string v18]) (fun h23=>
 (cQ (IntKind.wrap .i64 (t14+1)) x0.len∧∃a24,x0.a=some a24∧
 (fV h23 (some (adr a24 ((IntKind.wrap .i64 (t14+1)).toNat*2))) 0 [.string v20,.string v21]∧
 At (bP h23 (adr a24 ((IntKind.wrap .i64 (t14+1)).toNat*2)) 0 [.string v20,.string v21]) (fun h25=>
 I13 (IntKind.wrap .i64 (t14+1)) h25))))))))) (
 K () h15)) x1 h3)) (x2,x3) h0) (
 CondP ((IntKind.wrap .i64 (x3-x2))==(1:Int)) (
 LoopP (fun I26 (t27:Int×Int) h28=>
 CondP (decide (t27.1<t27.2)) (
 ((0:Int)≤(1:Int)∧
 Bd (di (IntKind.wrap .u64 (IntKind.wrap .i64 (t27.1+t27.2))) (2^(min (1:Int).toNat (IntKind.bits .u64))):Int) (fun n29=>
 (cQ x2 x0.len∧∃a30,x0.a=some a30∧
 ∃v31,af h28 (adr a30 (x2.toNat*2)) 0 (.string v31)∧
 ∃v32,af h28 (adr a30 (x2.toNat*2)) 1 (.string v32)∧
 (cQ (IntKind.wrap .i64 n29) x0.len∧∃a33,x0.a=some a33∧
 ∃v34,af h28 (adr a33 ((IntKind.wrap .i64 n29).toNat*2)) 0 (.string v34)∧
 ∃v35,af h28 (adr a33 ((IntKind.wrap .i64 n29).toNat*2)) 1 (.string v35)∧
 HV PG x4 [.agg #[.string v31,.string v32],.agg #[.string v34,.string v35]] [.c (.int .i64)] (fun(e36:Int) h37=>
 CondP (!(decide (e36<(0:Int)))) (
 I26 (IntKind.wrap .i64 ((IntKind.wrap .i64 n29)+1),t27.2) h37) (
 I26 (t27.1,IntKind.wrap .i64 n29) h37)) h28))))) (
 LoopP (fun I38 (t39:Int) h40=>
 CondP (decide (t39>t27.1)) (
 (cQ (IntKind.wrap .i64 (t39-1)) x0.len∧∃a41,x0.a=some a41∧
 ∃v42,af h40 (adr a41 ((IntKind.wrap .i64 (t39-1)).toNat*2)) 0 (.string v42)∧
 ∃v43,af h40 (adr a41 ((IntKind.wrap .i64 (t39-1)).toNat*2)) 1 (.string v43)∧
 (cQ t39 x0.len∧∃a44,x0.a=some a44∧
 ∃v45,af h40 (adr a44 (t39.toNat*2)) 0 (.string v45)∧
 ∃v46,af h40 (adr a44 (t39.toNat*2)) 1 (.string v46)∧
 (cQ t39 x0.len∧∃a47,x0.a=some a47∧
 (fV h40 (some (adr a47 (t39.toNat*2))) 0 [.string v42,.string v43]∧
 At (bP h40 (adr a47 (t39.toNat*2)) 0 [.string v42,.string v43]) (fun h48=>
 (cQ (IntKind.wrap .i64 (t39-1)) x0.len∧∃a49,x0.a=some a49∧
 (fV h48 (some (adr a49 ((IntKind.wrap .i64 (t39-1)).toNat*2))) 0 [.string v45,.string v46]∧
 At (bP h48 (adr a49 ((IntKind.wrap .i64 (t39-1)).toNat*2)) 0 [.string v45,.string v46]) (fun h50=>
 I38 (IntKind.wrap .i64 (t39-1)) h50))))))))) (
 K () h40)) x2 h28)) (x1,x2) h0) (
 ((0:Int)≤(1:Int)∧
 Bd (di (IntKind.wrap .u64 (IntKind.wrap .i64 (x1+x3))) (2^(min (1:Int).toNat (IntKind.bits .u64))):Int) (fun n51=>
 Join (fun(t54:Int×Int) h55=>
 Bd (IntKind.wrap .i64 ((IntKind.wrap .i64 ((IntKind.wrap .i64 n51)+x2))-1):Int) (fun n56=>
 LoopP (fun I57 (t58:Int×Int) h59=>
 CondP (decide (t58.1<t58.2)) (
 ((0:Int)≤(1:Int)∧
 Bd (di (IntKind.wrap .u64 (IntKind.wrap .i64 (t58.1+t58.2))) (2^(min (1:Int).toNat (IntKind.bits .u64))):Int) (fun n60=>
 (cQ (IntKind.wrap .i64 (n56-(IntKind.wrap .i64 n60))) x0.len∧∃a61,x0.a=some a61∧
 ∃v62,af h59 (adr a61 ((IntKind.wrap .i64 (n56-(IntKind.wrap .i64 n60))).toNat*2)) 0 (.string v62)∧
 ∃v63,af h59 (adr a61 ((IntKind.wrap .i64 (n56-(IntKind.wrap .i64 n60))).toNat*2)) 1 (.string v63)∧
 (cQ (IntKind.wrap .i64 n60) x0.len∧∃a64,x0.a=some a64∧
 ∃v65,af h59 (adr a64 ((IntKind.wrap .i64 n60).toNat*2)) 0 (.string v65)∧
 ∃v66,af h59 (adr a64 ((IntKind.wrap .i64 n60).toNat*2)) 1 (.string v66)∧
 HV PG x4 [.agg #[.string v62,.string v63],.agg #[.string v65,.string v66]] [.c (.int .i64)] (fun(e67:Int) h68=>
 CondP (!(decide (e67<(0:Int)))) (
 I57 (IntKind.wrap .i64 ((IntKind.wrap .i64 n60)+1),t58.2) h68) (
 I57 (t58.1,IntKind.wrap .i64 n60) h68)) h59))))) (
 Bd (IntKind.wrap .i64 ((IntKind.wrap .i64 ((IntKind.wrap .i64 n51)+x2))-t58.1):Int) (fun n69=>
 Join (fun(t76:Unit) h77=>
 Join (fun(t84:Unit) h85=>
 Join (fun(t87:Bool) h88=>
 CondP t87 (
 HC PG cr [.slice x0.a x0.len x0.cap,.int .i64 (IntKind.wrap .i64 n51),.int .i64 n69,.int .i64 x3,x4] [] (fun(e89:Unit) h90=>
 K () h90) h88) (
 K () h88)) (fun J86=>
 CondP (decide ((IntKind.wrap .i64 n51)<n69)) (
 J86 (decide (n69<x3)) h85) (
 J86 false h85))) (fun J78=>
 Join (fun(t80:Bool) h81=>
 CondP t80 (
 HC PG cr [.slice x0.a x0.len x0.cap,.int .i64 x1,.int .i64 t58.1,.int .i64 (IntKind.wrap .i64 n51),x4] [] (fun(e82:Unit) h83=>
 J78 () h83) h81) (
 J78 () h81)) (fun J79=>
 CondP (decide (x1<t58.1)) (
 J79 (decide (t58.1<(IntKind.wrap .i64 n51))) h77) (
 J79 false h77)))) (fun J70=>
 Join (fun(t72:Bool) h73=>
 CondP t72 (
 HC PG fo [.slice x0.a x0.len x0.cap,.int .i64 t58.1,.int .i64 x2,.int .i64 n69,x4] [] (fun(e74:Unit) h75=>
 J70 () h75) h73) (
 J70 () h73)) (fun J71=>
 CondP (decide (t58.1<x2)) (
 J71 (decide (x2<n69)) h59) (
 J71 false h59)))))) (t54.1,t54.2) h55)) (fun J52=>
 CondP (decide (x2>(IntKind.wrap .i64 n51))) (
 Bd (IntKind.wrap .i64 ((IntKind.wrap .i64 ((IntKind.wrap .i64 n51)+x2))-x3):Int) (fun n53=>
 J52 (n53,IntKind.wrap .i64 n51) h0)) (
 J52 (x1,x2) h0))))))
noncomputable def mr:Ann:=.node (.node .nil (.node (.node .nil (.node .nil (.node (.loop [(10,.c (.int .i64)),(11,.c (.int .i64))] .nil) (.node (.node .nil (.loop [(13,.c (.int .i64))] .nil)) .nil)))) .nil)) (.node (.node .nil (.node (.node .nil (.node .nil (.node (.loop [(14,.c (.int .i64)),(15,.c (.int .i64))] .nil) (.node (.node .nil (.loop [(17,.c (.int .i64))] .nil)) .nil)))) .nil)) (.node .nil (.node .nil (.node .nil (.join [(20,.c (.int .i64)),(21,.c (.int .i64))] .nil (.node .nil (.node (.loop [(20,.c (.int .i64)),(21,.c (.int .i64))] .nil) (.node .nil (.join [] (.join [(185,.c .bool)] .nil .nil) (.join [] (.join [(199,.c .bool)] .nil .nil) (.join [(213,.c .bool)] .nil .nil)))))))))))
theorem mp(x0:SliceV)(x1:Int)(x2:Int)(x3:Int)(x4:Value){K:cJ []→ae→Prop}{h0:ae}(h:gT x0 x1 x2 x3 x4 K h0):HC PG cr [.slice x0.a x0.len x0.cap,.int .i64 x1,.int .i64 x2,.int .i64 x3,x4] [] K h0:=HC.intro (an:=mr) (c:=Tryz.f278.body.getD .skip) Tryz.mixed Tryz.func278 rfl Tryz.call278 (ad rfl) (dF (by kernel_rfl) h)
def lX(x0:Int)(x1:Int)(K:(Int)→ae→Prop)(h0:ae):Prop:=
 Bd (IntKind.wrap .u64 (ap (IntKind.bits .u64) (IntKind.wrap .u64 x1)&&&ap (IntKind.bits .u64) 63).toNat:Int) (fun n1=>
 ((0:Int)≤n1∧
 Bd (IntKind.wrap .u64 (x0*2^(min (n1:Int).toNat (IntKind.bits .u64))):Int) (fun n2=>
 ((0:Int)≤(IntKind.wrap .u64 (64-n1))∧
 Bd (di x0 (2^(min (IntKind.wrap .u64 (64-n1):Int).toNat (IntKind.bits .u64))):Int) (fun n3=>
 Bd (IntKind.wrap .u64 (ap (IntKind.bits .u64) n2|||ap (IntKind.bits .u64) n3).toNat:Int) (fun n4=>
 K n4 h0))))))
noncomputable def qY:Ann:=.nil
theorem qU(x0:Int)(x1:Int){K:cJ [.c (.int .u64)]→ae→Prop}{h0:ae}(h:lX x0 x1 K h0):HC PG cP [.int .u64 x0,.int .i64 x1] [.c (.int .u64)] K h0:=HC.intro (an:=qY) (c:=Tryz.f279.body.getD .skip) Tryz.mixed Tryz.func279 rfl Tryz.call279 (ad rfl) (dF (by kernel_rfl) h)
def qA(x0:Option Addr)(x1:Option Addr)(K:(Bool)→ae→Prop)(h0:ae):Prop:=
 CondP (!(x0.isNone)) (
 HC PG fN [.pointer x1] [.c .bool] (fun(e1:Bool) h2=>
 CondP e1 (
 ∃a3,x0=some a3∧
 ∃v4,af h2 a3 5 (.pointer v4)∧
 (True∧(∀x y:Addr,v4=some x→x1=some y→ig h2 x∧ig h2 y)∧
 K (v4==x1) h2)) (
 K false h2)) h0) (
 K false h0)
noncomputable def xL:Ann:=.nil
theorem w9(x0:Option Addr)(x1:Option Addr){K:cJ [.c .bool]→ae→Prop}{h0:ae}(h:qA x0 x1 K h0):HC PG mV [.pointer x0,.pointer x1] [.c .bool] K h0:=HC.intro (an:=xL) (c:=Tryz.f280.body.getD .skip) Tryz.mixed Tryz.func280 rfl Tryz.call280 (ad rfl) (dF (by kernel_rfl) h)
def gi(x0:SliceV)(K:(SliceV)→ae→Prop)(h0:ae):Prop:=
 LoopP (fun I1 (t2:Int×Int) h3=>
 CondP (decide (t2.2<(x0.len:Int))) (
 Join (fun(t7:Int) h8=>
 I1 (t7,IntKind.wrap .i64 (t2.2+1)) h8) (fun J4=>
 (cQ t2.2 x0.len∧∃a5,x0.a=some a5∧
 ∃v6:SliceV,af h3 a5 (t2.2.toNat*1) (.slice v6.a v6.len v6.cap)∧
 CondP (decide ((IntKind.wrap .i64 (t2.1+(v6.len:Int)))<(0:Int))) (
 False) (
 J4 (IntKind.wrap .i64 (t2.1+(v6.len:Int))) h3)))) (
 HC PG eP [.slice none 0 0,.int .i64 t2.1] [.c .slice] (fun(e9:SliceV) h10=>
 LoopP (fun I11 (t12:SliceV×Int) h13=>
 CondP (decide (t12.2<(x0.len:Int))) (
 Join (fun(t20:SliceV) h21=>
 I11 (t20,IntKind.wrap .i64 (t12.2+1)) h21) (fun J14=>
 (cQ t12.2 x0.len∧∃a15,x0.a=some a15∧
 ∃v16:SliceV,af h13 a15 (t12.2.toNat*1) (.slice v16.a v16.len v16.cap)∧
 ∃xs17,SRow h13 v16.a (v16.len*2) xs17∧
 AppP (some [.string (⟨#[]⟩:ByteArray),.string (⟨#[]⟩:ByteArray)]) 2 32 aj t12.1.a t12.1.len t12.1.cap v16.len xs17 h13 (fun s18 h19=>
 J14 s18 h19)))) (
 K t12.1 h13)) (e9,0) h10) h3)) (0,0) h0
noncomputable def lq:Ann:=.node .nil (.node .nil (.node (.node .nil (.loop [(3,.c (.int .i64)),(11,.c (.int .i64))] (.node .nil (.node .nil (.join [(3,.c (.int .i64))] .nil .nil))))) (.node .nil (.node (.node .nil (.loop [(6,.c .slice),(27,.c (.int .i64))] (.node .nil (.node .nil (.join [(6,.c .slice)] .nil .nil))))) .nil))))
theorem li(x0:SliceV){K:cJ [.c .slice]→ae→Prop}{h0:ae}(h:gi x0 K h0):HC PG dj [.slice x0.a x0.len x0.cap] [.c .slice] K h0:=HC.intro (an:=lq) (c:=Tryz.f281.body.getD .skip) Tryz.mixed Tryz.func281 rfl Tryz.call281 (ad rfl) (dF (by kernel_rfl) h)
def ft(x0:SliceV)(x1:Int)(x2:Int)(x3:Value)(K:(Unit)→ae→Prop)(h0:ae):Prop:=
 LoopP (fun I1 (t2:Int) h3=>
 CondP (decide (t2<x2)) (
 LoopP (fun I4 (t5:Int) h6=>
 Join (fun(t18:Bool) h19=>
 CondP t18 (
 (cQ (IntKind.wrap .i64 (t5-1)) x0.len∧∃a20,x0.a=some a20∧
 ∃v21,af h19 (adr a20 ((IntKind.wrap .i64 (t5-1)).toNat*3)) 0 (.string v21)∧
 ∃v22,af h19 (adr a20 ((IntKind.wrap .i64 (t5-1)).toNat*3)) 1 (.string v22)∧
 ∃v23,af h19 (adr a20 ((IntKind.wrap .i64 (t5-1)).toNat*3)) 2 (.int .u64 v23)∧
 (cQ t5 x0.len∧∃a24,x0.a=some a24∧
 ∃v25,af h19 (adr a24 (t5.toNat*3)) 0 (.string v25)∧
 ∃v26,af h19 (adr a24 (t5.toNat*3)) 1 (.string v26)∧
 ∃v27,af h19 (adr a24 (t5.toNat*3)) 2 (.int .u64 v27)∧
 (cQ t5 x0.len∧∃a28,x0.a=some a28∧
 (fV h19 (some (adr a28 (t5.toNat*3))) 0 [.string v21,.string v22,.int .u64 v23]∧
 At (bP h19 (adr a28 (t5.toNat*3)) 0 [.string v21,.string v22,.int .u64 v23]) (fun h29=>
 (cQ (IntKind.wrap .i64 (t5-1)) x0.len∧∃a30,x0.a=some a30∧
 (fV h29 (some (adr a30 ((IntKind.wrap .i64 (t5-1)).toNat*3))) 0 [.string v25,.string v26,.int .u64 v27]∧
 At (bP h29 (adr a30 ((IntKind.wrap .i64 (t5-1)).toNat*3)) 0 [.string v25,.string v26,.int .u64 v27]) (fun h31=>
 I4 (IntKind.wrap .i64 (t5-1)) h31))))))))) (
 I1 (IntKind.wrap .i64 (t2+1)) h19)) (fun J7=>
 CondP (decide (t5>x1)) (
 (cQ t5 x0.len∧∃a8,x0.a=some a8∧
 ∃v9,af h6 (adr a8 (t5.toNat*3)) 0 (.string v9)∧
 ∃v10,af h6 (adr a8 (t5.toNat*3)) 1 (.string v10)∧
 ∃v11,af h6 (adr a8 (t5.toNat*3)) 2 (.int .u64 v11)∧
 (cQ (IntKind.wrap .i64 (t5-1)) x0.len∧∃a12,x0.a=some a12∧
 ∃v13,af h6 (adr a12 ((IntKind.wrap .i64 (t5-1)).toNat*3)) 0 (.string v13)∧
 ∃v14,af h6 (adr a12 ((IntKind.wrap .i64 (t5-1)).toNat*3)) 1 (.string v14)∧
 ∃v15,af h6 (adr a12 ((IntKind.wrap .i64 (t5-1)).toNat*3)) 2 (.int .u64 v15)∧
 HV PG x3 [.agg #[.string v9,.string v10,.int .u64 v11],.agg #[.string v13,.string v14,.int .u64 v15]] [.c (.int .i64)] (fun(e16:Int) h17=>
 J7 (decide (e16<(0:Int))) h17) h6))) (
 J7 false h6))) t2 h3) (
 K () h3)) (IntKind.wrap .i64 (x1+1)) h0
noncomputable def jw:Ann:=.node .nil (.loop [(8,.c (.int .i64))] (.node .nil (.node (.node .nil (.loop [(9,.c (.int .i64))] (.node (.join [(34,.c .bool)] .nil .nil) .nil))) .nil)))
theorem js(x0:SliceV)(x1:Int)(x2:Int)(x3:Value){K:cJ []→ae→Prop}{h0:ae}(h:ft x0 x1 x2 x3 K h0):HC PG cK [.slice x0.a x0.len x0.cap,.int .i64 x1,.int .i64 x2,x3] [] K h0:=HC.intro (an:=jw) (c:=Tryz.f282.body.getD .skip) Tryz.mixed Tryz.func282 rfl Tryz.call282 (ad rfl) (dF (by kernel_rfl) h)
def gf(x0:SliceV)(x1:Int)(x2:Int)(x3:Int)(x4:Value)(K:(Unit)→ae→Prop)(h0:ae):Prop:=
 CondP ((IntKind.wrap .i64 (x2-x1))==(1:Int)) (
 LoopP (fun I1 (t2:Int×Int) h3=>
 CondP (decide (t2.1<t2.2)) (
 ((0:Int)≤(1:Int)∧
 Bd (di (IntKind.wrap .u64 (IntKind.wrap .i64 (t2.1+t2.2))) (2^(min (1:Int).toNat (IntKind.bits .u64))):Int) (fun n4=>
 (cQ (IntKind.wrap .i64 n4) x0.len∧∃a5,x0.a=some a5∧
 ∃v6,af h3 (adr a5 ((IntKind.wrap .i64 n4).toNat*3)) 0 (.string v6)∧
 ∃v7,af h3 (adr a5 ((IntKind.wrap .i64 n4).toNat*3)) 1 (.string v7)∧
 ∃v8,af h3 (adr a5 ((IntKind.wrap .i64 n4).toNat*3)) 2 (.int .u64 v8)∧
 (cQ x1 x0.len∧∃a9,x0.a=some a9∧
 ∃v10,af h3 (adr a9 (x1.toNat*3)) 0 (.string v10)∧
 ∃v11,af h3 (adr a9 (x1.toNat*3)) 1 (.string v11)∧
 ∃v12,af h3 (adr a9 (x1.toNat*3)) 2 (.int .u64 v12)∧
 HV PG x4 [.agg #[.string v6,.string v7,.int .u64 v8],.agg #[.string v10,.string v11,.int .u64 v12]] [.c (.int .i64)] (fun(e13:Int) h14=>
 CondP (decide (e13<(0:Int))) (
 I1 (IntKind.wrap .i64 ((IntKind.wrap .i64 n4)+1),t2.2) h14) (
 I1 (t2.1,IntKind.wrap .i64 n4) h14)) h3))))) (
 LoopP (fun I15 (t16:Int) h17=>
 CondP (decide (t16<(IntKind.wrap .i64 (t2.1-1)))) (
 (cQ (IntKind.wrap .i64 (t16+1)) x0.len∧∃a18,x0.a=some a18∧
 ∃v19,af h17 (adr a18 ((IntKind.wrap .i64 (t16+1)).toNat*3)) 0 (.string v19)∧
 ∃v20,af h17 (adr a18 ((IntKind.wrap .i64 (t16+1)).toNat*3)) 1 (.string v20)∧
 ∃v21,af h17 (adr a18 ((IntKind.wrap .i64 (t16+1)).toNat*3)) 2 (.int .u64 v21)∧
 (cQ t16 x0.len∧∃a22,x0.a=some a22∧
 ∃v23,af h17 (adr a22 (t16.toNat*3)) 0 (.string v23)∧
 ∃v24,af h17 (adr a22 (t16.toNat*3)) 1 (.string v24)∧
 ∃v25,af h17 (adr a22 (t16.toNat*3)) 2 (.int .u64 v25)∧
 (cQ t16 x0.len∧∃a26,x0.a=some a26∧
 (fV h17 (some (adr a26 (t16.toNat*3))) 0 [.string v19,.string v20,.int .u64 v21]∧
 At (bP h17 (adr a26 (t16.toNat*3)) 0 [.string v19,.string v20,.int .u64 v21]) (fun h27=>
 (cQ (IntKind.wrap .i64 (t16+1)) x0.len∧∃a28,x0.a=some a28∧
 (fV h27 (some (adr a28 ((IntKind.wrap .i64 (t16+1)).toNat*3))) 0 [.string v23,.string v24,.int .u64 v25]∧
 At (bP h27 (adr a28 ((IntKind.wrap .i64 (t16+1)).toNat*3)) 0 [.string v23,.string v24,.int .u64 v25]) (fun h29=>
 I15 (IntKind.wrap .i64 (t16+1)) h29))))))))) (
 K () h17)) x1 h3)) (x2,x3) h0) (
 CondP ((IntKind.wrap .i64 (x3-x2))==(1:Int)) (
 LoopP (fun I30 (t31:Int×Int) h32=>
 CondP (decide (t31.1<t31.2)) (
 ((0:Int)≤(1:Int)∧
 Bd (di (IntKind.wrap .u64 (IntKind.wrap .i64 (t31.1+t31.2))) (2^(min (1:Int).toNat (IntKind.bits .u64))):Int) (fun n33=>
 (cQ x2 x0.len∧∃a34,x0.a=some a34∧
 ∃v35,af h32 (adr a34 (x2.toNat*3)) 0 (.string v35)∧
 ∃v36,af h32 (adr a34 (x2.toNat*3)) 1 (.string v36)∧
 ∃v37,af h32 (adr a34 (x2.toNat*3)) 2 (.int .u64 v37)∧
 (cQ (IntKind.wrap .i64 n33) x0.len∧∃a38,x0.a=some a38∧
 ∃v39,af h32 (adr a38 ((IntKind.wrap .i64 n33).toNat*3)) 0 (.string v39)∧
 ∃v40,af h32 (adr a38 ((IntKind.wrap .i64 n33).toNat*3)) 1 (.string v40)∧
 ∃v41,af h32 (adr a38 ((IntKind.wrap .i64 n33).toNat*3)) 2 (.int .u64 v41)∧
 HV PG x4 [.agg #[.string v35,.string v36,.int .u64 v37],.agg #[.string v39,.string v40,.int .u64 v41]] [.c (.int .i64)] (fun(e42:Int) h43=>
 CondP (!(decide (e42<(0:Int)))) (
 I30 (IntKind.wrap .i64 ((IntKind.wrap .i64 n33)+1),t31.2) h43) (
 I30 (t31.1,IntKind.wrap .i64 n33) h43)) h32))))) (
 LoopP (fun I44 (t45:Int) h46=>
 CondP (decide (t45>t31.1)) (
 (cQ (IntKind.wrap .i64 (t45-1)) x0.len∧∃a47,x0.a=some a47∧
 ∃v48,af h46 (adr a47 ((IntKind.wrap .i64 (t45-1)).toNat*3)) 0 (.string v48)∧
 ∃v49,af h46 (adr a47 ((IntKind.wrap .i64 (t45-1)).toNat*3)) 1 (.string v49)∧
 ∃v50,af h46 (adr a47 ((IntKind.wrap .i64 (t45-1)).toNat*3)) 2 (.int .u64 v50)∧
 (cQ t45 x0.len∧∃a51,x0.a=some a51∧
 ∃v52,af h46 (adr a51 (t45.toNat*3)) 0 (.string v52)∧
 ∃v53,af h46 (adr a51 (t45.toNat*3)) 1 (.string v53)∧
 ∃v54,af h46 (adr a51 (t45.toNat*3)) 2 (.int .u64 v54)∧
 (cQ t45 x0.len∧∃a55,x0.a=some a55∧
 (fV h46 (some (adr a55 (t45.toNat*3))) 0 [.string v48,.string v49,.int .u64 v50]∧
 At (bP h46 (adr a55 (t45.toNat*3)) 0 [.string v48,.string v49,.int .u64 v50]) (fun h56=>
 (cQ (IntKind.wrap .i64 (t45-1)) x0.len∧∃a57,x0.a=some a57∧
 (fV h56 (some (adr a57 ((IntKind.wrap .i64 (t45-1)).toNat*3))) 0 [.string v52,.string v53,.int .u64 v54]∧
 At (bP h56 (adr a57 ((IntKind.wrap .i64 (t45-1)).toNat*3)) 0 [.string v52,.string v53,.int .u64 v54]) (fun h58=>
 I44 (IntKind.wrap .i64 (t45-1)) h58))))))))) (
 K () h46)) x2 h32)) (x1,x2) h0) (
 ((0:Int)≤(1:Int)∧
 Bd (di (IntKind.wrap .u64 (IntKind.wrap .i64 (x1+x3))) (2^(min (1:Int).toNat (IntKind.bits .u64))):Int) (fun n59=>
 Join (fun(t62:Int×Int) h63=>
 Bd (IntKind.wrap .i64 ((IntKind.wrap .i64 ((IntKind.wrap .i64 n59)+x2))-1):Int) (fun n64=>
 LoopP (fun I65 (t66:Int×Int) h67=>
 CondP (decide (t66.1<t66.2)) (
 ((0:Int)≤(1:Int)∧
 Bd (di (IntKind.wrap .u64 (IntKind.wrap .i64 (t66.1+t66.2))) (2^(min (1:Int).toNat (IntKind.bits .u64))):Int) (fun n68=>
 (cQ (IntKind.wrap .i64 (n64-(IntKind.wrap .i64 n68))) x0.len∧∃a69,x0.a=some a69∧
 ∃v70,af h67 (adr a69 ((IntKind.wrap .i64 (n64-(IntKind.wrap .i64 n68))).toNat*3)) 0 (.string v70)∧
 ∃v71,af h67 (adr a69 ((IntKind.wrap .i64 (n64-(IntKind.wrap .i64 n68))).toNat*3)) 1 (.string v71)∧
 ∃v72,af h67 (adr a69 ((IntKind.wrap .i64 (n64-(IntKind.wrap .i64 n68))).toNat*3)) 2 (.int .u64 v72)∧
 (cQ (IntKind.wrap .i64 n68) x0.len∧∃a73,x0.a=some a73∧
 ∃v74,af h67 (adr a73 ((IntKind.wrap .i64 n68).toNat*3)) 0 (.string v74)∧
 ∃v75,af h67 (adr a73 ((IntKind.wrap .i64 n68).toNat*3)) 1 (.string v75)∧
 ∃v76,af h67 (adr a73 ((IntKind.wrap .i64 n68).toNat*3)) 2 (.int .u64 v76)∧
 HV PG x4 [.agg #[.string v70,.string v71,.int .u64 v72],.agg #[.string v74,.string v75,.int .u64 v76]] [.c (.int .i64)] (fun(e77:Int) h78=>
 CondP (!(decide (e77<(0:Int)))) (
 I65 (IntKind.wrap .i64 ((IntKind.wrap .i64 n68)+1),t66.2) h78) (
 I65 (t66.1,IntKind.wrap .i64 n68) h78)) h67))))) (
 Bd (IntKind.wrap .i64 ((IntKind.wrap .i64 ((IntKind.wrap .i64 n59)+x2))-t66.1):Int) (fun n79=>
 Join (fun(t86:Unit) h87=>
 Join (fun(t94:Unit) h95=>
 Join (fun(t97:Bool) h98=>
 CondP t97 (
 HC PG cd [.slice x0.a x0.len x0.cap,.int .i64 (IntKind.wrap .i64 n59),.int .i64 n79,.int .i64 x3,x4] [] (fun(e99:Unit) h100=>
 K () h100) h98) (
 K () h98)) (fun J96=>
 CondP (decide ((IntKind.wrap .i64 n59)<n79)) (
 J96 (decide (n79<x3)) h95) (
 J96 false h95))) (fun J88=>
 Join (fun(t90:Bool) h91=>
 CondP t90 (
 HC PG cd [.slice x0.a x0.len x0.cap,.int .i64 x1,.int .i64 t66.1,.int .i64 (IntKind.wrap .i64 n59),x4] [] (fun(e92:Unit) h93=>
 J88 () h93) h91) (
 J88 () h91)) (fun J89=>
 CondP (decide (x1<t66.1)) (
 J89 (decide (t66.1<(IntKind.wrap .i64 n59))) h87) (
 J89 false h87)))) (fun J80=>
 Join (fun(t82:Bool) h83=>
 CondP t82 (
 HC PG eN [.slice x0.a x0.len x0.cap,.int .i64 t66.1,.int .i64 x2,.int .i64 n79,x4] [] (fun(e84:Unit) h85=>
 J80 () h85) h83) (
 J80 () h83)) (fun J81=>
 CondP (decide (t66.1<x2)) (
 J81 (decide (x2<n79)) h67) (
 J81 false h67)))))) (t62.1,t62.2) h63)) (fun J60=>
 CondP (decide (x2>(IntKind.wrap .i64 n59))) (
 Bd (IntKind.wrap .i64 ((IntKind.wrap .i64 ((IntKind.wrap .i64 n59)+x2))-x3):Int) (fun n61=>
 J60 (n61,IntKind.wrap .i64 n59) h0)) (
 J60 (x1,x2) h0))))))
noncomputable def lj:Ann:=.node (.node .nil (.node (.node .nil (.node .nil (.node (.loop [(10,.c (.int .i64)),(11,.c (.int .i64))] .nil) (.node (.node .nil (.loop [(13,.c (.int .i64))] .nil)) .nil)))) .nil)) (.node (.node .nil (.node (.node .nil (.node .nil (.node (.loop [(14,.c (.int .i64)),(15,.c (.int .i64))] .nil) (.node (.node .nil (.loop [(17,.c (.int .i64))] .nil)) .nil)))) .nil)) (.node .nil (.node .nil (.node .nil (.join [(20,.c (.int .i64)),(21,.c (.int .i64))] .nil (.node .nil (.node (.loop [(20,.c (.int .i64)),(21,.c (.int .i64))] .nil) (.node .nil (.join [] (.join [(185,.c .bool)] .nil .nil) (.join [] (.join [(199,.c .bool)] .nil .nil) (.join [(213,.c .bool)] .nil .nil)))))))))))
theorem lf(x0:SliceV)(x1:Int)(x2:Int)(x3:Int)(x4:Value){K:cJ []→ae→Prop}{h0:ae}(h:gf x0 x1 x2 x3 x4 K h0):HC PG cd [.slice x0.a x0.len x0.cap,.int .i64 x1,.int .i64 x2,.int .i64 x3,x4] [] K h0:=HC.intro (an:=lj) (c:=Tryz.f283.body.getD .skip) Tryz.mixed Tryz.func283 rfl Tryz.call283 (ad rfl) (dF (by kernel_rfl) h)
def gh(x0:SliceV)(x1:Int)(x2:Int)(K:(SliceV)→ae→Prop)(h0:ae):Prop:=
 (((0:Int)≤(x0.len:Int)∧(x0.len:Int)≤((x0.cap:Nat):Int))∧
 (((0:Int)≤x2∧x2≤(((x0.len:Int).toNat:Nat):Int))∧
 (((0:Int)≤x1∧x1≤((x2.toNat:Nat):Int))∧
 CondP (x1==x2) (
 K x0 h0) (
 Join (fun(t5:SliceV) h6=>
 (((0:Int)≤(x0.len:Int)∧(x0.len:Int)≤((t5.cap:Nat):Int))∧
 (((0:Int)≤(t5.len:Int)∧(t5.len:Int)≤(((x0.len:Int).toNat:Nat):Int))∧
 Bd (aN t5.a ((t5.len:Int).toNat) t5.cap 2:Option Addr) (fun a7=>Bd (((x0.len:Int).toNat)-((t5.len:Int).toNat):Nat) (fun n8=>Bd (t5.cap-((t5.len:Int).toNat):Nat) (fun n9=>
 (fV h6 a7 0 (dd n8 [.string (⟨#[]⟩:ByteArray),.string (⟨#[]⟩:ByteArray)])∧
 At (fe h6 a7 0 (dd n8 [.string (⟨#[]⟩:ByteArray),.string (⟨#[]⟩:ByteArray)])) (fun h10=>
 K t5 h10)))))))) (fun J1=>
 (((0:Int)≤x1∧x1≤((x0.cap:Nat):Int))∧
 (((0:Int)≤x2∧x2≤((x0.len:Nat):Int))∧
 ∃xs2,SRow h0 (aN x0.a x2.toNat x0.cap 2) ((x0.len-x2.toNat)*2) xs2∧
 AppP (some [.string (⟨#[]⟩:ByteArray),.string (⟨#[]⟩:ByteArray)]) 2 32 aj (aN x0.a 0 x0.cap 2) (x1.toNat-0) (x0.cap-0) (x0.len-x2.toNat) xs2 h0 (fun s3 h4=>
 J1 s3 h4))))))))
noncomputable def lm:Ann:=.node .nil (.node .nil (.node .nil (.node .nil (.join [(0,.c .slice)] .nil .nil))))
theorem lh(x0:SliceV)(x1:Int)(x2:Int){K:cJ [.c .slice]→ae→Prop}{h0:ae}(h:gh x0 x1 x2 K h0):HC PG eA [.slice x0.a x0.len x0.cap,.int .i64 x1,.int .i64 x2] [.c .slice] K h0:=HC.intro (an:=lm) (c:=Tryz.f284.body.getD .skip) Tryz.mixed Tryz.func284 rfl Tryz.call284 (ad rfl) (dF (by kernel_rfl) h)
def fF(x0:SliceV)(x1:Int)(x2:Int)(K:(SliceV)→ae→Prop)(h0:ae):Prop:=
 (((0:Int)≤(x0.len:Int)∧(x0.len:Int)≤((x0.cap:Nat):Int))∧
 (((0:Int)≤x2∧x2≤(((x0.len:Int).toNat:Nat):Int))∧
 (((0:Int)≤x1∧x1≤((x2.toNat:Nat):Int))∧
 CondP (x1==x2) (
 K x0 h0) (
 Join (fun(t5:SliceV) h6=>
 (((0:Int)≤(x0.len:Int)∧(x0.len:Int)≤((t5.cap:Nat):Int))∧
 (((0:Int)≤(t5.len:Int)∧(t5.len:Int)≤(((x0.len:Int).toNat:Nat):Int))∧
 Bd (aN t5.a ((t5.len:Int).toNat) t5.cap 1:Option Addr) (fun a7=>Bd (((x0.len:Int).toNat)-((t5.len:Int).toNat):Nat) (fun n8=>Bd (t5.cap-((t5.len:Int).toNat):Nat) (fun n9=>
 (fV h6 a7 0 (dd n8 [.pointer none])∧
 At (fe h6 a7 0 (dd n8 [.pointer none])) (fun h10=>
 K t5 h10)))))))) (fun J1=>
 (((0:Int)≤x1∧x1≤((x0.cap:Nat):Int))∧
 (((0:Int)≤x2∧x2≤((x0.len:Nat):Int))∧
 ∃xs2,SRow h0 (aN x0.a x2.toNat x0.cap 1) ((x0.len-x2.toNat)*1) xs2∧
 AppP (some [.pointer none]) 1 8 bw (aN x0.a 0 x0.cap 1) (x1.toNat-0) (x0.cap-0) (x0.len-x2.toNat) xs2 h0 (fun s3 h4=>
 J1 s3 h4))))))))
noncomputable def jK:Ann:=.node .nil (.node .nil (.node .nil (.node .nil (.join [(0,.c .slice)] .nil .nil))))
theorem jI(x0:SliceV)(x1:Int)(x2:Int){K:cJ [.c .slice]→ae→Prop}{h0:ae}(h:fF x0 x1 x2 K h0):HC PG dS [.slice x0.a x0.len x0.cap,.int .i64 x1,.int .i64 x2] [.c .slice] K h0:=HC.intro (an:=jK) (c:=Tryz.f285.body.getD .skip) Tryz.mixed Tryz.func285 rfl Tryz.call285 (ad rfl) (dF (by kernel_rfl) h)
def oH(x0:Int)(x1:Int)(K:(Int)→ae→Prop)(h0:ae):Prop:=
 HC PG lP [.int .i64 x1] [.c .bool] (fun(e1:Bool) h2=>
 CondP (!e1) (
 K x0 h2) (
 ((0:Int)≤x1∧
 Bd (IntKind.wrap .u32 (ap (IntKind.bits .u32) x0&&& ~~~ap (IntKind.bits .u32) (IntKind.wrap .u32 (1*2^(min (x1:Int).toNat (IntKind.bits .u32))))).toNat:Int) (fun n3=>
 K n3 h2)))) h0
noncomputable def tP:Ann:=.nil
theorem tE(x0:Int)(x1:Int){K:cJ [.c (.int .u32)]→ae→Prop}{h0:ae}(h:oH x0 x1 K h0):HC PG iq [.int .u32 x0,.int .i64 x1] [.c (.int .u32)] K h0:=HC.intro (an:=tP) (c:=Tryz.f286.body.getD .skip) Tryz.mixed Tryz.func286 rfl Tryz.call286 (ad rfl) (dF (by kernel_rfl) h)
def jl(x0:ByteArray)(x1:ByteArray)(K:(Bool)→ae→Prop)(h0:ae):Prop:=
 CondP (decide ((x0.size:Int)≥(x1.size:Int))) (
 (((0:Int)≤(x1.size:Int)∧(x1.size:Int)≤((x0.size:Nat):Int))∧
 K ((x0.extract 0 ((x1.size:Int).toNat)).toList==x1.toList) h0)) (
 K false h0)
noncomputable def oI:Ann:=.nil
theorem oF(x0:ByteArray)(x1:ByteArray){K:cJ [.c .bool]→ae→Prop}{h0:ae}(h:jl x0 x1 K h0):HC PG ji [.string x0,.string x1] [.c .bool] K h0:=HC.intro (an:=oI) (c:=Tryz.f293.body.getD .skip) Tryz.mixed Tryz.func293 rfl Tryz.call293 (ad rfl) (dF (by kernel_rfl) h)
def mz(x0:Int)(K:(Int)→ae→Prop)(h0:ae):Prop:=
 ((0:Int)≤(24:Int)∧
 ∃b1,(0:Int)≤(di x0 (2^(min (24:Int).toNat (IntKind.bits .u32))))∧(⟨#[0,1,1,2,1,2,2,3,1,2,2,3,2,3,3,4,1,2,2,3,2,3,3,4,2,3,3,4,3,4,4,5,1,2,2,3,2,3,3,4,2,3,3,4,3,4,4,5,2,3,3,4,3,4,4,5,3,4,4,5,4,5,5,6,1,2,2,3,2,3,3,4,2,3,3,4,3,4,4,5,2,3,3,4,3,4,4,5,3,4,4,5,4,5,5,6,2,3,3,4,3,4,4,5,3,4,4,5,4,5,5,6,3,4,4,5,4,5,5,6,4,5,5,6,5,6,6,7,1,2,2,3,2,3,3,4,2,3,3,4,3,4,4,5,2,3,3,4,3,4,4,5,3,4,4,5,4,5,5,6,2,3,3,4,3,4,4,5,3,4,4,5,4,5,5,6,3,4,4,5,4,5,5,6,4,5,5,6,5,6,6,7,2,3,3,4,3,4,4,5,3,4,4,5,4,5,5,6,3,4,4,5,4,5,5,6,4,5,5,6,5,6,6,7,3,4,4,5,4,5,5,6,4,5,5,6,5,6,6,7,4,5,5,6,5,6,6,7,5,6,6,7,6,7,7,8]⟩:ByteArray)[(di x0 (2^(min (24:Int).toNat (IntKind.bits .u32)))).toNat]? =some b1∧
 ((0:Int)≤(16:Int)∧
 Bd (IntKind.wrap .u32 (ap (IntKind.bits .u32) (di x0 (2^(min (16:Int).toNat (IntKind.bits .u32))))&&&ap (IntKind.bits .u32) 255).toNat:Int) (fun n2=>
 ∃b3,(0:Int)≤n2∧(⟨#[0,1,1,2,1,2,2,3,1,2,2,3,2,3,3,4,1,2,2,3,2,3,3,4,2,3,3,4,3,4,4,5,1,2,2,3,2,3,3,4,2,3,3,4,3,4,4,5,2,3,3,4,3,4,4,5,3,4,4,5,4,5,5,6,1,2,2,3,2,3,3,4,2,3,3,4,3,4,4,5,2,3,3,4,3,4,4,5,3,4,4,5,4,5,5,6,2,3,3,4,3,4,4,5,3,4,4,5,4,5,5,6,3,4,4,5,4,5,5,6,4,5,5,6,5,6,6,7,1,2,2,3,2,3,3,4,2,3,3,4,3,4,4,5,2,3,3,4,3,4,4,5,3,4,4,5,4,5,5,6,2,3,3,4,3,4,4,5,3,4,4,5,4,5,5,6,3,4,4,5,4,5,5,6,4,5,5,6,5,6,6,7,2,3,3,4,3,4,4,5,3,4,4,5,4,5,5,6,3,4,4,5,4,5,5,6,4,5,5,6,5,6,6,7,3,4,4,5,4,5,5,6,4,5,5,6,5,6,6,7,4,5,5,6,5,6,6,7,5,6,6,7,6,7,7,8]⟩:ByteArray)[n2.toNat]? =some b3∧
 ((0:Int)≤(8:Int)∧
 Bd (IntKind.wrap .u32 (ap (IntKind.bits .u32) (di x0 (2^(min (8:Int).toNat (IntKind.bits .u32))))&&&ap (IntKind.bits .u32) 255).toNat:Int) (fun n4=>
 ∃b5,(0:Int)≤n4∧(⟨#[0,1,1,2,1,2,2,3,1,2,2,3,2,3,3,4,1,2,2,3,2,3,3,4,2,3,3,4,3,4,4,5,1,2,2,3,2,3,3,4,2,3,3,4,3,4,4,5,2,3,3,4,3,4,4,5,3,4,4,5,4,5,5,6,1,2,2,3,2,3,3,4,2,3,3,4,3,4,4,5,2,3,3,4,3,4,4,5,3,4,4,5,4,5,5,6,2,3,3,4,3,4,4,5,3,4,4,5,4,5,5,6,3,4,4,5,4,5,5,6,4,5,5,6,5,6,6,7,1,2,2,3,2,3,3,4,2,3,3,4,3,4,4,5,2,3,3,4,3,4,4,5,3,4,4,5,4,5,5,6,2,3,3,4,3,4,4,5,3,4,4,5,4,5,5,6,3,4,4,5,4,5,5,6,4,5,5,6,5,6,6,7,2,3,3,4,3,4,4,5,3,4,4,5,4,5,5,6,3,4,4,5,4,5,5,6,4,5,5,6,5,6,6,7,3,4,4,5,4,5,5,6,4,5,5,6,5,6,6,7,4,5,5,6,5,6,6,7,5,6,6,7,6,7,7,8]⟩:ByteArray)[n4.toNat]? =some b5∧
 Bd (IntKind.wrap .u8 ((IntKind.wrap .u8 ((b1.toNat:Int)+(b3.toNat:Int)))+(b5.toNat:Int)):Int) (fun n6=>
 Bd (IntKind.wrap .u32 (ap (IntKind.bits .u32) x0&&&ap (IntKind.bits .u32) 255).toNat:Int) (fun n7=>
 ∃b8,(0:Int)≤n7∧(⟨#[0,1,1,2,1,2,2,3,1,2,2,3,2,3,3,4,1,2,2,3,2,3,3,4,2,3,3,4,3,4,4,5,1,2,2,3,2,3,3,4,2,3,3,4,3,4,4,5,2,3,3,4,3,4,4,5,3,4,4,5,4,5,5,6,1,2,2,3,2,3,3,4,2,3,3,4,3,4,4,5,2,3,3,4,3,4,4,5,3,4,4,5,4,5,5,6,2,3,3,4,3,4,4,5,3,4,4,5,4,5,5,6,3,4,4,5,4,5,5,6,4,5,5,6,5,6,6,7,1,2,2,3,2,3,3,4,2,3,3,4,3,4,4,5,2,3,3,4,3,4,4,5,3,4,4,5,4,5,5,6,2,3,3,4,3,4,4,5,3,4,4,5,4,5,5,6,3,4,4,5,4,5,5,6,4,5,5,6,5,6,6,7,2,3,3,4,3,4,4,5,3,4,4,5,4,5,5,6,3,4,4,5,4,5,5,6,4,5,5,6,5,6,6,7,3,4,4,5,4,5,5,6,4,5,5,6,5,6,6,7,4,5,5,6,5,6,6,7,5,6,6,7,6,7,7,8]⟩:ByteArray)[n7.toNat]? =some b8∧
 K (IntKind.wrap .i64 (IntKind.wrap .u8 (n6+(b8.toNat:Int)))) h0)))))))
noncomputable def rK:Ann:=.nil
theorem rt(x0:Int){K:cJ [.c (.int .i64)]→ae→Prop}{h0:ae}(h:mz x0 K h0):HC PG iW [.int .u32 x0] [.c (.int .i64)] K h0:=HC.intro (an:=rK) (c:=Tryz.f294.body.getD .skip) Tryz.mixed Tryz.func294 rfl Tryz.call294 (ad rfl) (dF (by kernel_rfl) h)
def rz(x0:ByteArray×ByteArray×Bool)(x1:ByteArray)(K:(Bool)→ae→Prop)(h0:ae):Prop:=
 At (hnew h0 [.string x0.1,.string x0.2.1,.bool x0.2.2] mu) (fun h1=>
 Join (fun(t5:Bool) h6=>
 CondP t5 (
 K true h6) (
 ∃v7,af h6 (ag h0) 0 (.string v7)∧
 CondP (Op.bytesLess x1.toList v7.toList) (
 ∃v8,af h6 (ag h0) 0 (.string v8)∧
 HC PG nX [.string v8,.string x1] [.c .bool] (fun(e9:Bool) h10=>
 K (!e9) h10) h6) (
 K false h6))) (fun J2=>
 ∃v3,af h1 (ag h0) 2 (.bool v3)∧
 CondP (!v3) (
 ∃v4,af h1 (ag h0) 1 (.string v4)∧
 J2 (!(Op.bytesLess x1.toList v4.toList)) h1) (
 J2 false h1)))
noncomputable def yK:Ann:=.node .nil (.node (.join [(13,.c .bool)] .nil .nil) .nil)
theorem yx(x0:ByteArray×ByteArray×Bool)(x1:ByteArray){K:cJ [.c .bool]→ae→Prop}{h0:ae}(h:rz x0 x1 K h0):HC PG nE [.agg #[.string x0.1,.string x0.2.1,.bool x0.2.2],.string x1] [.c .bool] K h0:=HC.intro (an:=yK) (c:=Tryz.f296.body.getD .skip) Tryz.mixed Tryz.func296 rfl Tryz.call296 (ad rfl) (dF (by kernel_rfl) h)
def ga(x0:SliceV)(K:(Unit)→ae→Prop)(h0:ae):Prop:=
 LoopP (fun I1 (t2:Int×Int) h3=>
 CondP (decide (t2.1<t2.2)) (
 (cQ t2.2 x0.len∧∃a4,x0.a=some a4∧
 ∃v5,af h3 (adr a4 (t2.2.toNat*3)) 0 (.pointer v5)∧
 ∃v6,af h3 (adr a4 (t2.2.toNat*3)) 1 (.string v6)∧
 ∃v7,af h3 (adr a4 (t2.2.toNat*3)) 2 (.bool v7)∧
 (cQ t2.1 x0.len∧∃a8,x0.a=some a8∧
 ∃v9,af h3 (adr a8 (t2.1.toNat*3)) 0 (.pointer v9)∧
 ∃v10,af h3 (adr a8 (t2.1.toNat*3)) 1 (.string v10)∧
 ∃v11,af h3 (adr a8 (t2.1.toNat*3)) 2 (.bool v11)∧
 (cQ t2.1 x0.len∧∃a12,x0.a=some a12∧
 (fV h3 (some (adr a12 (t2.1.toNat*3))) 0 [.pointer v5,.string v6,.bool v7]∧
 At (bP h3 (adr a12 (t2.1.toNat*3)) 0 [.pointer v5,.string v6,.bool v7]) (fun h13=>
 (cQ t2.2 x0.len∧∃a14,x0.a=some a14∧
 (fV h13 (some (adr a14 (t2.2.toNat*3))) 0 [.pointer v9,.string v10,.bool v11]∧
 At (bP h13 (adr a14 (t2.2.toNat*3)) 0 [.pointer v9,.string v10,.bool v11]) (fun h15=>
 I1 (IntKind.wrap .i64 (t2.1+1),IntKind.wrap .i64 (t2.2-1)) h15))))))))) (
 K () h3)) (0,IntKind.wrap .i64 ((x0.len:Int)-1)) h0
noncomputable def kM:Ann:=.node .nil (.loop [(2,.c (.int .i64)),(3,.c (.int .i64))] .nil)
theorem kJ(x0:SliceV){K:cJ []→ae→Prop}{h0:ae}(h:ga x0 K h0):HC PG ed [.slice x0.a x0.len x0.cap] [] K h0:=HC.intro (an:=kM) (c:=Tryz.f297.body.getD .skip) Tryz.mixed Tryz.func297 rfl Tryz.call297 (ad rfl) (dF (by kernel_rfl) h)
def is(x0:SliceV)(x1:Int)(x2:Int)(x3:Int)(x4:Value)(K:(Unit)→ae→Prop)(h0:ae):Prop:=
 LoopP (fun I1 (t2:Int×Int) h3=>
 CondP (t2.1 !=t2.2) (
 CondP (decide (t2.1>t2.2)) (
 HC PG cO [.slice x0.a x0.len x0.cap,.int .i64 (IntKind.wrap .i64 (x2-t2.1)),.int .i64 x2,.int .i64 t2.2,x4] [] (fun(e4:Unit) h5=>
 I1 (IntKind.wrap .i64 (t2.1-t2.2),t2.2) h5) h3) (
 HC PG cO [.slice x0.a x0.len x0.cap,.int .i64 (IntKind.wrap .i64 (x2-t2.1)),.int .i64 (IntKind.wrap .i64 ((IntKind.wrap .i64 (x2+t2.2))-t2.1)),.int .i64 t2.1,x4] [] (fun(e6:Unit) h7=>
 I1 (t2.1,IntKind.wrap .i64 (t2.2-t2.1)) h7) h3)) (
 HC PG cO [.slice x0.a x0.len x0.cap,.int .i64 (IntKind.wrap .i64 (x2-t2.1)),.int .i64 x2,.int .i64 t2.1,x4] [] (fun(e8:Unit) h9=>
 K () h9) h3)) (IntKind.wrap .i64 (x2-x1),IntKind.wrap .i64 (x3-x2)) h0
noncomputable def m9:Ann:=.node .nil (.node .nil (.node (.loop [(10,.c (.int .i64)),(11,.c (.int .i64))] .nil) .nil))
theorem m5(x0:SliceV)(x1:Int)(x2:Int)(x3:Int)(x4:Value){K:cJ []→ae→Prop}{h0:ae}(h:is x0 x1 x2 x3 x4 K h0):HC PG fo [.slice x0.a x0.len x0.cap,.int .i64 x1,.int .i64 x2,.int .i64 x3,x4] [] K h0:=HC.intro (an:=m9) (c:=Tryz.f298.body.getD .skip) Tryz.mixed Tryz.func298 rfl Tryz.call298 (ad rfl) (dF (by kernel_rfl) h)
def gG(x0:SliceV)(x1:Int)(K:(SliceV)→ae→Prop)(h0:ae):Prop:=
 Join (fun(t2:Unit) h3=>
 Bd (IntKind.wrap .i64 (x1-(IntKind.wrap .i64 ((x0.cap:Int)-(x0.len:Int)))):Int) (fun n4=>
 CondP (decide (n4>(0:Int))) (
 (((0:Int)≤(x0.cap:Int)∧(x0.cap:Int)≤((x0.cap:Nat):Int))∧
 (((0:Int)≤n4∧n4*((32:Nat):Int)≤2^48∧n4≤9223372036854775807∧(((((x0.cap:Int).toNat)-0)+n4.toNat:Nat):Int)≤9223372036854775807)∧
 AppP (some [.string (⟨#[]⟩:ByteArray),.string (⟨#[]⟩:ByteArray)]) 2 32 aj (aN x0.a 0 x0.cap 2) (((x0.cap:Int).toNat)-0) (x0.cap-0) n4.toNat (dd n4.toNat [.string (⟨#[]⟩:ByteArray),.string (⟨#[]⟩:ByteArray)]) h3 (fun s5 h6=>
 (((0:Int)≤(x0.len:Int)∧(x0.len:Int)≤((s5.cap:Nat):Int))∧
 K ⟨aN s5.a 0 s5.cap 2,((x0.len:Int).toNat)-0,s5.cap-0⟩ h6))))) (
 K x0 h3))) (fun J1=>
 CondP (decide (x1<(0:Int))) (
 False) (
 J1 () h0))
noncomputable def l3:Ann:=.node .nil (.join [] .nil .nil)
theorem lW(x0:SliceV)(x1:Int){K:cJ [.c .slice]→ae→Prop}{h0:ae}(h:gG x0 x1 K h0):HC PG eP [.slice x0.a x0.len x0.cap,.int .i64 x1] [.c .slice] K h0:=HC.intro (an:=l3) (c:=Tryz.f299.body.getD .skip) Tryz.mixed Tryz.func299 rfl Tryz.call299 (ad rfl) (dF (by kernel_rfl) h)
def gF(x0:SliceV)(x1:Int)(x2:Int)(x3:Int)(x4:Value)(K:(Unit)→ae→Prop)(h0:ae):Prop:=
 LoopP (fun I1 (t2:Int×Int) h3=>
 CondP (t2.1 !=t2.2) (
 CondP (decide (t2.1>t2.2)) (
 HC PG cC [.slice x0.a x0.len x0.cap,.int .i64 (IntKind.wrap .i64 (x2-t2.1)),.int .i64 x2,.int .i64 t2.2,x4] [] (fun(e4:Unit) h5=>
 I1 (IntKind.wrap .i64 (t2.1-t2.2),t2.2) h5) h3) (
 HC PG cC [.slice x0.a x0.len x0.cap,.int .i64 (IntKind.wrap .i64 (x2-t2.1)),.int .i64 (IntKind.wrap .i64 ((IntKind.wrap .i64 (x2+t2.2))-t2.1)),.int .i64 t2.1,x4] [] (fun(e6:Unit) h7=>
 I1 (t2.1,IntKind.wrap .i64 (t2.2-t2.1)) h7) h3)) (
 HC PG cC [.slice x0.a x0.len x0.cap,.int .i64 (IntKind.wrap .i64 (x2-t2.1)),.int .i64 x2,.int .i64 t2.1,x4] [] (fun(e8:Unit) h9=>
 K () h9) h3)) (IntKind.wrap .i64 (x2-x1),IntKind.wrap .i64 (x3-x2)) h0
noncomputable def l0:Ann:=.node .nil (.node .nil (.node (.loop [(10,.c (.int .i64)),(11,.c (.int .i64))] .nil) .nil))
theorem lV(x0:SliceV)(x1:Int)(x2:Int)(x3:Int)(x4:Value){K:cJ []→ae→Prop}{h0:ae}(h:gF x0 x1 x2 x3 x4 K h0):HC PG eN [.slice x0.a x0.len x0.cap,.int .i64 x1,.int .i64 x2,.int .i64 x3,x4] [] K h0:=HC.intro (an:=l0) (c:=Tryz.f300.body.getD .skip) Tryz.mixed Tryz.func300 rfl Tryz.call300 (ad rfl) (dF (by kernel_rfl) h)
def gC(x0:SliceV)(x1:Int)(x2:Int)(x3:Int)(x4:Value)(K:(Unit)→ae→Prop)(h0:ae):Prop:=
 LoopP (fun I1 (t2:Int) h3=>
 CondP (decide (t2<x3)) (
 (cQ (IntKind.wrap .i64 (x2+t2)) x0.len∧∃a4,x0.a=some a4∧
 ∃v5,af h3 (adr a4 ((IntKind.wrap .i64 (x2+t2)).toNat*2)) 0 (.string v5)∧
 ∃v6,af h3 (adr a4 ((IntKind.wrap .i64 (x2+t2)).toNat*2)) 1 (.string v6)∧
 (cQ (IntKind.wrap .i64 (x1+t2)) x0.len∧∃a7,x0.a=some a7∧
 ∃v8,af h3 (adr a7 ((IntKind.wrap .i64 (x1+t2)).toNat*2)) 0 (.string v8)∧
 ∃v9,af h3 (adr a7 ((IntKind.wrap .i64 (x1+t2)).toNat*2)) 1 (.string v9)∧
 (cQ (IntKind.wrap .i64 (x1+t2)) x0.len∧∃a10,x0.a=some a10∧
 (fV h3 (some (adr a10 ((IntKind.wrap .i64 (x1+t2)).toNat*2))) 0 [.string v5,.string v6]∧
 At (bP h3 (adr a10 ((IntKind.wrap .i64 (x1+t2)).toNat*2)) 0 [.string v5,.string v6]) (fun h11=>
 (cQ (IntKind.wrap .i64 (x2+t2)) x0.len∧∃a12,x0.a=some a12∧
 (fV h11 (some (adr a12 ((IntKind.wrap .i64 (x2+t2)).toNat*2))) 0 [.string v8,.string v9]∧
 At (bP h11 (adr a12 ((IntKind.wrap .i64 (x2+t2)).toNat*2)) 0 [.string v8,.string v9]) (fun h13=>
 I1 (IntKind.wrap .i64 (t2+1)) h13))))))))) (
 K () h3)) 0 h0
noncomputable def lY:Ann:=.node .nil (.loop [(10,.c (.int .i64))] .nil)
theorem lT(x0:SliceV)(x1:Int)(x2:Int)(x3:Int)(x4:Value){K:cJ []→ae→Prop}{h0:ae}(h:gC x0 x1 x2 x3 x4 K h0):HC PG cO [.slice x0.a x0.len x0.cap,.int .i64 x1,.int .i64 x2,.int .i64 x3,x4] [] K h0:=HC.intro (an:=lY) (c:=Tryz.f304.body.getD .skip) Tryz.mixed Tryz.func304 rfl Tryz.call304 (ad rfl) (dF (by kernel_rfl) h)
def f9(x0:SliceV)(x1:Int)(x2:Int)(x3:Int)(x4:Value)(K:(Unit)→ae→Prop)(h0:ae):Prop:=
 LoopP (fun I1 (t2:Int) h3=>
 CondP (decide (t2<x3)) (
 (cQ (IntKind.wrap .i64 (x2+t2)) x0.len∧∃a4,x0.a=some a4∧
 ∃v5,af h3 (adr a4 ((IntKind.wrap .i64 (x2+t2)).toNat*3)) 0 (.string v5)∧
 ∃v6,af h3 (adr a4 ((IntKind.wrap .i64 (x2+t2)).toNat*3)) 1 (.string v6)∧
 ∃v7,af h3 (adr a4 ((IntKind.wrap .i64 (x2+t2)).toNat*3)) 2 (.int .u64 v7)∧
 (cQ (IntKind.wrap .i64 (x1+t2)) x0.len∧∃a8,x0.a=some a8∧
 ∃v9,af h3 (adr a8 ((IntKind.wrap .i64 (x1+t2)).toNat*3)) 0 (.string v9)∧
 ∃v10,af h3 (adr a8 ((IntKind.wrap .i64 (x1+t2)).toNat*3)) 1 (.string v10)∧
 ∃v11,af h3 (adr a8 ((IntKind.wrap .i64 (x1+t2)).toNat*3)) 2 (.int .u64 v11)∧
 (cQ (IntKind.wrap .i64 (x1+t2)) x0.len∧∃a12,x0.a=some a12∧
 (fV h3 (some (adr a12 ((IntKind.wrap .i64 (x1+t2)).toNat*3))) 0 [.string v5,.string v6,.int .u64 v7]∧
 At (bP h3 (adr a12 ((IntKind.wrap .i64 (x1+t2)).toNat*3)) 0 [.string v5,.string v6,.int .u64 v7]) (fun h13=>
 (cQ (IntKind.wrap .i64 (x2+t2)) x0.len∧∃a14,x0.a=some a14∧
 (fV h13 (some (adr a14 ((IntKind.wrap .i64 (x2+t2)).toNat*3))) 0 [.string v9,.string v10,.int .u64 v11]∧
 At (bP h13 (adr a14 ((IntKind.wrap .i64 (x2+t2)).toNat*3)) 0 [.string v9,.string v10,.int .u64 v11]) (fun h15=>
 I1 (IntKind.wrap .i64 (t2+1)) h15))))))))) (
 K () h3)) 0 h0
noncomputable def kL:Ann:=.node .nil (.loop [(10,.c (.int .i64))] .nil)
theorem kI(x0:SliceV)(x1:Int)(x2:Int)(x3:Int)(x4:Value){K:cJ []→ae→Prop}{h0:ae}(h:f9 x0 x1 x2 x3 x4 K h0):HC PG cC [.slice x0.a x0.len x0.cap,.int .i64 x1,.int .i64 x2,.int .i64 x3,x4] [] K h0:=HC.intro (an:=kL) (c:=Tryz.f305.body.getD .skip) Tryz.mixed Tryz.func305 rfl Tryz.call305 (ad rfl) (dF (by kernel_rfl) h)
end Go.Proofs
