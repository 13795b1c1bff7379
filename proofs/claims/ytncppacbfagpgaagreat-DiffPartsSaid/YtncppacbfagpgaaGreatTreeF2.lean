/- A part of the proof that the named laws of this program answer true, whatever the input. -/
import Derived.Test.YtncppacbfagpgaaGreatTreeF
set_option maxRecDepth 100000
set_option linter.unusedVariables false
open Array renaming size→px,setIfInBounds→oq
open BitVec renaming ofInt→aw
open Int renaming fdiv→db
open Nat renaming le_of_ble_eq_true→ad,min→dM
namespace Go.Proofs
open Go.Lift
def qa(x0:Option Addr)(K:(Int)→af→Prop)(h0:af):Prop:=
 ∃a1,x0=some a1∧
 ∃v2,aL h0 a1=some (.int .u64 v2)∧
 ∃a3,x0=some a3∧
 ∃v4,aL h0 a3=some (.int .u64 v4)∧
 ((0:Int)≤(13:Int)∧
 Bd (IntKind.wrap .u64 (v4*2^(min (13:Int).toNat (IntKind.bits .u64))):Int) (fun n5=>
 Bd (IntKind.wrap .u64 (aw (IntKind.bits .u64) v2^^^aw (IntKind.bits .u64) n5).toNat:Int) (fun n6=>
 ∃a7,x0=some a7∧
 (Wr h0 a7∧
 At (hset h0 a7 (.int .u64 n6)) (fun h8=>
 ∃a9,x0=some a9∧
 ∃v10,aL h8 a9=some (.int .u64 v10)∧
 ∃a11,x0=some a11∧
 ∃v12,aL h8 a11=some (.int .u64 v12)∧
 ((0:Int)≤(7:Int)∧
 Bd (IntKind.wrap .u64 (aw (IntKind.bits .u64) v10^^^aw (IntKind.bits .u64) (db v12 (2^(min (7:Int).toNat (IntKind.bits .u64))))).toNat:Int) (fun n13=>
 ∃a14,x0=some a14∧
 (Wr h8 a14∧
 At (hset h8 a14 (.int .u64 n13)) (fun h15=>
 ∃a16,x0=some a16∧
 ∃v17,aL h15 a16=some (.int .u64 v17)∧
 ∃a18,x0=some a18∧
 ∃v19,aL h15 a18=some (.int .u64 v19)∧
 ((0:Int)≤(17:Int)∧
 Bd (IntKind.wrap .u64 (v19*2^(min (17:Int).toNat (IntKind.bits .u64))):Int) (fun n20=>
 Bd (IntKind.wrap .u64 (aw (IntKind.bits .u64) v17^^^aw (IntKind.bits .u64) n20).toNat:Int) (fun n21=>
 ∃a22,x0=some a22∧
 (Wr h15 a22∧
 At (hset h15 a22 (.int .u64 n21)) (fun h23=>
 ∃a24,x0=some a24∧
 ∃v25,aL h23 a24=some (.int .u64 v25)∧
 K v25 h23))))))))))))))
noncomputable def wP:Ann:=.nil
theorem wL(x0:Option Addr){K:cD [.c (.int .u64)]→af→Prop}{h0:af}(h:qa x0 K h0):HC PG ll [.pointer x0] [.c (.int .u64)] K h0:=HC.intro (an:=wP) (c:=Tryz.f174.body.getD .skip) Tryz.mixed Tryz.func174 rfl Tryz.call174 (ad rfl) (cT (by kernel_rfl) h)
def gn(x0:SliceV)(x1:Int)(x2:Option Addr)(x3:Value)(K:(Int)→af→Prop)(h0:af):Prop:=
 HC PG eu [.slice x0.a x0.len x0.cap,.int .i64 (IntKind.wrap .i64 (x1-1)),.int .i64 x1,.int .i64 (IntKind.wrap .i64 (x1+1)),.pointer x2,x3] [.c (.int .i64)] (fun(e1:Int) h2=>
 K e1 h2) h0
noncomputable def lF:Ann:=.nil
theorem lz(x0:SliceV)(x1:Int)(x2:Option Addr)(x3:Value){K:cD [.c (.int .i64)]→af→Prop}{h0:af}(h:gn x0 x1 x2 x3 K h0):HC PG ct [.slice x0.a x0.len x0.cap,.int .i64 x1,.pointer x2,x3] [.c (.int .i64)] K h0:=HC.intro (an:=lF) (c:=Tryz.f175.body.getD .skip) Tryz.mixed Tryz.func175 rfl Tryz.call175 (ad rfl) (cT (by kernel_rfl) h)
def jy(x0:SliceV)(x1:Int)(x2:Int)(x3:Int)(x4:Option Addr)(x5:Value)(K:(Int)→af→Prop)(h0:af):Prop:=
 HC PG dh [.slice x0.a x0.len x0.cap,.int .i64 x1,.int .i64 x2,.pointer x4,x5] [.c (.int .i64),.c (.int .i64)] (fun(e1:Int×Int) h2=>
 HC PG dh [.slice x0.a x0.len x0.cap,.int .i64 e1.2,.int .i64 x3,.pointer x4,x5] [.c (.int .i64),.c (.int .i64)] (fun(e3:Int×Int) h4=>
 HC PG dh [.slice x0.a x0.len x0.cap,.int .i64 e1.1,.int .i64 e3.1,.pointer x4,x5] [.c (.int .i64),.c (.int .i64)] (fun(e5:Int×Int) h6=>
 K e5.2 h6) h4) h2) h0
noncomputable def pu:Ann:=.nil
theorem po(x0:SliceV)(x1:Int)(x2:Int)(x3:Int)(x4:Option Addr)(x5:Value){K:cD [.c (.int .i64)]→af→Prop}{h0:af}(h:jy x0 x1 x2 x3 x4 x5 K h0):HC PG eu [.slice x0.a x0.len x0.cap,.int .i64 x1,.int .i64 x2,.int .i64 x3,.pointer x4,x5] [.c (.int .i64)] K h0:=HC.intro (an:=pu) (c:=Tryz.f176.body.getD .skip) Tryz.mixed Tryz.func176 rfl Tryz.call176 (ad rfl) (cT (by kernel_rfl) h)
def BL(x0:SliceV)(x1:ByteArray)(K:(SliceV)→af→Prop)(h0:af):Prop:=
 (((0:Int)≤(x0.len:Int)∧(x0.len:Int)≤((x0.cap:Nat):Int))∧
 (((0:Int)≤(x0.len:Int)∧(x0.len:Int)≤(((x0.len:Int).toNat:Nat):Int))∧
 HC PG mZ [.slice (aM x0.a 0 ((x0.len:Int).toNat) 1) (((x0.len:Int).toNat)-0) (((x0.len:Int).toNat)-0),.int .u64 (IntKind.wrap .u64 (x1.size:Int)),.int .i64 2] [.c .slice] (fun(e1:SliceV) h2=>
 AppP (some [.int .u8 0]) 1 1 eZ e1.a e1.len e1.cap x1.size (ed x1) h2 (fun s3 h4=>
 K s3 h4)) h0))
noncomputable def KO:Ann:=.nil
theorem Kz(x0:SliceV)(x1:ByteArray){K:cD [.c .slice]→af→Prop}{h0:af}(h:BL x0 x1 K h0):HC PG nv [.slice x0.a x0.len x0.cap,.string x1] [.c .slice] K h0:=HC.intro (an:=KO) (c:=Tryz.f177.body.getD .skip) Tryz.mixed Tryz.func177 rfl Tryz.call177 (ad rfl) (cT (by kernel_rfl) h)
def zd(x0:SliceV)(x1:SliceV)(K:(SliceV)→af→Prop)(h0:af):Prop:=
 LoopP (fun I1 (t2:SliceV×Int) h3=>
 CondP (decide (t2.2<(x1.len:Int))) (
 (bS t2.2 x1.len∧∃a4,x1.a=some a4∧
 ∃v5,ae h3 (adr a4 (t2.2.toNat*2)) 0 (.string v5)∧
 ∃v6,ae h3 (adr a4 (t2.2.toNat*2)) 1 (.string v6)∧
 At (hnew h3 [.string (⟨#[]⟩:ByteArray),.string (⟨#[]⟩:ByteArray)] al) (fun h7=>
 (dq h7 (some (ag h3)) 0 [.string v5,.string v6]∧
 At (aX h7 (ag h3) 0 [.string v5,.string v6]) (fun h8=>
 ∃v9,ae h8 (ag h3) 0 (.string v9)∧
 ∃v10,ae h8 (ag h3) 1 (.string v10)∧
 HC PG nv [.slice t2.1.a t2.1.len t2.1.cap,.string v9] [.c .slice] (fun(e11:SliceV) h12=>
 (ae h12 (ag h3) 1 (.string v10)∧
 HC PG nv [.slice e11.a e11.len e11.cap,.string v10] [.c .slice] (fun(e13:SliceV) h14=>
 I1 (e13,IntKind.wrap .i64 (t2.2+1)) h14) h12)) h8))))) (
 K t2.1 h3)) (x0,0) h0
noncomputable def HW:Ann:=.node .nil (.node (.node .nil (.loop [(0,.c .slice),(9,.c (.int .i64))] .nil)) .nil)
theorem HD(x0:SliceV)(x1:SliceV){K:cD [.c .slice]→af→Prop}{h0:af}(h:zd x0 x1 K h0):HC PG q9 [.slice x0.a x0.len x0.cap,.slice x1.a x1.len x1.cap] [.c .slice] K h0:=HC.intro (an:=HW) (c:=Tryz.f178.body.getD .skip) Tryz.mixed Tryz.func178 rfl Tryz.call178 (ad rfl) (cT (by kernel_rfl) h)
def x9(x0:SliceV)(x1:Int)(x2:Int)(K:(SliceV)→af→Prop)(h0:af):Prop:=
 LoopP (fun I1 (t2:SliceV×Int) h3=>
 CondP (decide (t2.2<x2)) (
 Join (fun(t10:SliceV) h11=>
 I1 (t10,IntKind.wrap .i64 (t2.2+1)) h11) (fun J4=>
 ((0:Int)≤(IntKind.wrap .i64 (8*t2.2))∧
 Bd (db x1 (2^(min (IntKind.wrap .i64 (8*t2.2):Int).toNat (IntKind.bits .u64))):Int) (fun n5=>
 At (hnew h3 [.int .u8 (IntKind.wrap .u8 n5)] eZ) (fun h6=>
 ∃xs7,SRow h6 (some (ag h3)) (1*1) xs7∧
 AppP (some [.int .u8 0]) 1 1 eZ t2.1.a t2.1.len t2.1.cap 1 xs7 h6 (fun s8 h9=>
 J4 s8 h9)))))) (
 K t2.1 h3)) (x0,0) h0
noncomputable def M3:Ann:=.node .nil (.node (.node .nil (.loop [(0,.c .slice),(9,.c (.int .i64))] (.node .nil (.node .nil (.join [(0,.c .slice)] .nil .nil))))) .nil)
theorem Eh(x0:SliceV)(x1:Int)(x2:Int){K:cD [.c .slice]→af→Prop}{h0:af}(h:x9 x0 x1 x2 K h0):HC PG mZ [.slice x0.a x0.len x0.cap,.int .u64 x1,.int .i64 x2] [.c .slice] K h0:=HC.intro (an:=M3) (c:=Tryz.f179.body.getD .skip) Tryz.mixed Tryz.func179 rfl Tryz.call179 (ad rfl) (cT (by kernel_rfl) h)
def rV(x0:Option Addr)(K:(Int)→af→Prop)(h0:af):Prop:=
 CondP x0.isNone (
 K 0 h0) (
 ∃a1,x0=some a1∧
 ∃v2:SliceV,ae h0 (adr a1 0) 2 (.slice v2.a v2.len v2.cap)∧
 ∃a3,x0=some a3∧
 ∃v4:SliceV,ae h0 (adr a3 0) 3 (.slice v4.a v4.len v4.cap)∧
 K (IntKind.wrap .i64 ((v2.len:Int)+(v4.len:Int))) h0)
noncomputable def EV:Ann:=.nil
theorem w6(x0:Option Addr){K:cD [.c (.int .i64)]→af→Prop}{h0:af}(h:rV x0 K h0):HC PG lR [.pointer x0] [.c (.int .i64)] K h0:=HC.intro (an:=EV) (c:=Tryz.f180.body.getD .skip) Tryz.mixed Tryz.func180 rfl Tryz.call180 (ad rfl) (cT (by kernel_rfl) h)
def qP(x0:Option Addr)(K:(SliceV)→af→Prop)(h0:af):Prop:=
 CondP x0.isNone (
 K ⟨none,0,0⟩ h0) (
 ∃a1,x0=some a1∧
 ∃v2:SliceV,ae h0 (adr a1 0) 3 (.slice v2.a v2.len v2.cap)∧
 HC PG di [.slice v2.a v2.len v2.cap] [.c .slice] (fun(e3:SliceV) h4=>
 K e3 h4) h0)
noncomputable def Dz:Ann:=.nil
theorem vu(x0:Option Addr){K:cD [.c .slice]→af→Prop}{h0:af}(h:qP x0 K h0):HC PG nz [.pointer x0] [.c .slice] K h0:=HC.intro (an:=Dz) (c:=Tryz.f181.body.getD .skip) Tryz.mixed Tryz.func181 rfl Tryz.call181 (ad rfl) (cT (by kernel_rfl) h)
def vD(x0:ByteArray)(x1:ByteArray)(K:(Bool)→af→Prop)(h0:af):Prop:=
 HC PG kY [.string x0,.string x1] [.c .bool] (fun(e1:Bool) h2=>
 K e1 h2) h0
noncomputable def Du:Ann:=.nil
theorem Dh(x0:ByteArray)(x1:ByteArray){K:cD [.c .bool]→af→Prop}{h0:af}(h:vD x0 x1 K h0):HC PG vl [.string x0,.string x1] [.c .bool] K h0:=HC.intro (an:=Du) (c:=Tryz.f182.body.getD .skip) Tryz.mixed Tryz.func182 rfl Tryz.call182 (ad rfl) (cT (by kernel_rfl) h)
def vE(x0:Option Addr)(x1:Int)(K:(Unit)→af→Prop)(h0:af):Prop:=
 ∃a1,x0=some a1∧
 (bS (3:Int) 4∧
 ∃v2,ae h0 a1 ((3:Int).toNat*1) (.int .u64 v2)∧
 Bd (IntKind.wrap .u64 (aw (IntKind.bits .u64) v2^^^aw (IntKind.bits .u64) x1).toNat:Int) (fun n3=>
 ∃a4,x0=some a4∧
 (bS (3:Int) 4∧
 (Wr h0 (adr a4 ((3:Int).toNat*1))∧
 At (hset h0 (adr a4 ((3:Int).toNat*1)) (.int .u64 n3)) (fun h5=>
 HC PG jv [.pointer x0,.int .i64 2] [] (fun(e6:Unit) h7=>
 ∃a8,x0=some a8∧
 (bS 0 4∧
 ∃v9,ae h7 a8 ((0:Int).toNat*1) (.int .u64 v9)∧
 Bd (IntKind.wrap .u64 (aw (IntKind.bits .u64) v9^^^aw (IntKind.bits .u64) x1).toNat:Int) (fun n10=>
 ∃a11,x0=some a11∧
 (bS 0 4∧
 (Wr h7 (adr a11 ((0:Int).toNat*1))∧
 At (hset h7 (adr a11 ((0:Int).toNat*1)) (.int .u64 n10)) (fun h12=>
 K () h12)))))) h5)))))
noncomputable def Dv:Ann:=.nil
theorem Di(x0:Option Addr)(x1:Int){K:cD []→af→Prop}{h0:af}(h:vE x0 x1 K h0):HC PG nu [.pointer x0,.int .u64 x1] [] K h0:=HC.intro (an:=Dv) (c:=Tryz.f183.body.getD .skip) Tryz.mixed Tryz.func183 rfl Tryz.call183 (ad rfl) (cT (by kernel_rfl) h)
def GR(x0:ByteArray)(K:(Int)→af→Prop)(h0:af):Prop:=
 Join (fun(t41:Int) h42=>
 ∃b43,(0:Int)≤(0:Int)∧x0[(0:Int).toNat]? =some b43∧
 Bd (IntKind.wrap .u64 (aw (IntKind.bits .u64) t41|||aw (IntKind.bits .u64) (IntKind.wrap .u64 (b43.toNat:Int))).toNat:Int) (fun n44=>
 K n44 h42)) (fun J1=>
 Join (fun(t36:Int) h37=>
 ∃b38,(0:Int)≤(1:Int)∧x0[(1:Int).toNat]? =some b38∧
 ((0:Int)≤(8:Int)∧
 Bd (IntKind.wrap .u64 ((IntKind.wrap .u64 (b38.toNat:Int))*2^(min (8:Int).toNat (IntKind.bits .u64))):Int) (fun n39=>
 Bd (IntKind.wrap .u64 (aw (IntKind.bits .u64) t36|||aw (IntKind.bits .u64) n39).toNat:Int) (fun n40=>
 J1 n40 h37)))) (fun J2=>
 Join (fun(t31:Int) h32=>
 ∃b33,(0:Int)≤(2:Int)∧x0[(2:Int).toNat]? =some b33∧
 ((0:Int)≤(16:Int)∧
 Bd (IntKind.wrap .u64 ((IntKind.wrap .u64 (b33.toNat:Int))*2^(min (16:Int).toNat (IntKind.bits .u64))):Int) (fun n34=>
 Bd (IntKind.wrap .u64 (aw (IntKind.bits .u64) t31|||aw (IntKind.bits .u64) n34).toNat:Int) (fun n35=>
 J2 n35 h32)))) (fun J3=>
 Join (fun(t26:Int) h27=>
 ∃b28,(0:Int)≤(3:Int)∧x0[(3:Int).toNat]? =some b28∧
 ((0:Int)≤(24:Int)∧
 Bd (IntKind.wrap .u64 ((IntKind.wrap .u64 (b28.toNat:Int))*2^(min (24:Int).toNat (IntKind.bits .u64))):Int) (fun n29=>
 Bd (IntKind.wrap .u64 (aw (IntKind.bits .u64) t26|||aw (IntKind.bits .u64) n29).toNat:Int) (fun n30=>
 J3 n30 h27)))) (fun J4=>
 Join (fun(t21:Int) h22=>
 ∃b23,(0:Int)≤(4:Int)∧x0[(4:Int).toNat]? =some b23∧
 ((0:Int)≤(32:Int)∧
 Bd (IntKind.wrap .u64 ((IntKind.wrap .u64 (b23.toNat:Int))*2^(min (32:Int).toNat (IntKind.bits .u64))):Int) (fun n24=>
 Bd (IntKind.wrap .u64 (aw (IntKind.bits .u64) t21|||aw (IntKind.bits .u64) n24).toNat:Int) (fun n25=>
 J4 n25 h22)))) (fun J5=>
 Join (fun(t16:Int) h17=>
 ∃b18,(0:Int)≤(5:Int)∧x0[(5:Int).toNat]? =some b18∧
 ((0:Int)≤(40:Int)∧
 Bd (IntKind.wrap .u64 ((IntKind.wrap .u64 (b18.toNat:Int))*2^(min (40:Int).toNat (IntKind.bits .u64))):Int) (fun n19=>
 Bd (IntKind.wrap .u64 (aw (IntKind.bits .u64) t16|||aw (IntKind.bits .u64) n19).toNat:Int) (fun n20=>
 J5 n20 h17)))) (fun J6=>
 Join (fun(t11:Int) h12=>
 ∃b13,(0:Int)≤(6:Int)∧x0[(6:Int).toNat]? =some b13∧
 ((0:Int)≤(48:Int)∧
 Bd (IntKind.wrap .u64 ((IntKind.wrap .u64 (b13.toNat:Int))*2^(min (48:Int).toNat (IntKind.bits .u64))):Int) (fun n14=>
 Bd (IntKind.wrap .u64 (aw (IntKind.bits .u64) t11|||aw (IntKind.bits .u64) n14).toNat:Int) (fun n15=>
 J6 n15 h12)))) (fun J7=>
 CondP ((x0.size:Int)==(8:Int)) (
 ∃b8,(0:Int)≤(7:Int)∧x0[(7:Int).toNat]? =some b8∧
 ((0:Int)≤(56:Int)∧
 Bd (IntKind.wrap .u64 ((IntKind.wrap .u64 (b8.toNat:Int))*2^(min (56:Int).toNat (IntKind.bits .u64))):Int) (fun n9=>
 Bd (IntKind.wrap .u64 (aw (IntKind.bits .u64) 0|||aw (IntKind.bits .u64) n9).toNat:Int) (fun n10=>
 J7 n10 h0)))) (
 CondP ((x0.size:Int)==(7:Int)) (
 J7 0 h0) (
 CondP ((x0.size:Int)==(6:Int)) (
 J6 0 h0) (
 CondP ((x0.size:Int)==(5:Int)) (
 J5 0 h0) (
 CondP ((x0.size:Int)==(4:Int)) (
 J4 0 h0) (
 CondP ((x0.size:Int)==(3:Int)) (
 J3 0 h0) (
 CondP ((x0.size:Int)==(2:Int)) (
 J2 0 h0) (
 CondP ((x0.size:Int)==(1:Int)) (
 J1 0 h0) (
 K 0 h0)))))))))))))))
noncomputable def Ph:Ann:=.node .nil (.node .nil (.node (.node .nil (.join [(3,.c (.int .u64))] (.join [(3,.c (.int .u64))] (.join [(3,.c (.int .u64))] (.join [(3,.c (.int .u64))] (.join [(3,.c (.int .u64))] (.join [(3,.c (.int .u64))] (.join [(3,.c (.int .u64))] .nil .nil) .nil) .nil) .nil) .nil) .nil) .nil)) .nil))
theorem O2(x0:ByteArray){K:cD [.c (.int .u64)]→af→Prop}{h0:af}(h:GR x0 K h0):HC PG wy [.string x0] [.c (.int .u64)] K h0:=HC.intro (an:=Ph) (c:=Tryz.f184.body.getD .skip) Tryz.mixed Tryz.func184 rfl Tryz.call184 (ad rfl) (cT (by kernel_rfl) h)
def tA(x0:Option Addr)(x1:Int)(K:(Unit)→af→Prop)(h0:af):Prop:=
 LoopP (fun I1 (t2:Int) h3=>
 CondP (decide (t2<x1)) (
 ∃a4,x0=some a4∧
 (bS 0 4∧
 ∃v5,ae h3 a4 ((0:Int).toNat*1) (.int .u64 v5)∧
 ∃a6,x0=some a6∧
 (bS 1 4∧
 ∃v7,ae h3 a6 ((1:Int).toNat*1) (.int .u64 v7)∧
 ∃a8,x0=some a8∧
 (bS 0 4∧
 (Wr h3 (adr a8 ((0:Int).toNat*1))∧
 At (hset h3 (adr a8 ((0:Int).toNat*1)) (.int .u64 (IntKind.wrap .u64 (v5+v7)))) (fun h9=>
 ∃a10,x0=some a10∧
 (bS 1 4∧
 ∃v11,ae h9 a10 ((1:Int).toNat*1) (.int .u64 v11)∧
 ∃a12,x0=some a12∧
 (bS 0 4∧
 ∃v13,ae h9 a12 ((0:Int).toNat*1) (.int .u64 v13)∧
 ∃a14,x0=some a14∧
 HC PG c7 [.int .u64 v11,.int .i64 13] [.c (.int .u64)] (fun(e15:Int) h16=>
 (ae h16 a12 ((0:Int).toNat*1) (.int .u64 v13)∧
 Bd (IntKind.wrap .u64 (aw (IntKind.bits .u64) e15^^^aw (IntKind.bits .u64) v13).toNat:Int) (fun n17=>
 (bS 1 4∧
 (Wr h16 (adr a14 ((1:Int).toNat*1))∧
 At (hset h16 (adr a14 ((1:Int).toNat*1)) (.int .u64 n17)) (fun h18=>
 ∃a19,x0=some a19∧
 (bS 0 4∧
 ∃v20,ae h18 a19 ((0:Int).toNat*1) (.int .u64 v20)∧
 ∃a21,x0=some a21∧
 HC PG c7 [.int .u64 v20,.int .i64 32] [.c (.int .u64)] (fun(e22:Int) h23=>
 (bS 0 4∧
 (Wr h23 (adr a21 ((0:Int).toNat*1))∧
 At (hset h23 (adr a21 ((0:Int).toNat*1)) (.int .u64 e22)) (fun h24=>
 ∃a25,x0=some a25∧
 (bS (2:Int) 4∧
 ∃v26,ae h24 a25 ((2:Int).toNat*1) (.int .u64 v26)∧
 ∃a27,x0=some a27∧
 (bS (3:Int) 4∧
 ∃v28,ae h24 a27 ((3:Int).toNat*1) (.int .u64 v28)∧
 ∃a29,x0=some a29∧
 (bS (2:Int) 4∧
 (Wr h24 (adr a29 ((2:Int).toNat*1))∧
 At (hset h24 (adr a29 ((2:Int).toNat*1)) (.int .u64 (IntKind.wrap .u64 (v26+v28)))) (fun h30=>
 ∃a31,x0=some a31∧
 (bS (3:Int) 4∧
 ∃v32,ae h30 a31 ((3:Int).toNat*1) (.int .u64 v32)∧
 ∃a33,x0=some a33∧
 (bS (2:Int) 4∧
 ∃v34,ae h30 a33 ((2:Int).toNat*1) (.int .u64 v34)∧
 ∃a35,x0=some a35∧
 HC PG c7 [.int .u64 v32,.int .i64 16] [.c (.int .u64)] (fun(e36:Int) h37=>
 (ae h37 a33 ((2:Int).toNat*1) (.int .u64 v34)∧
 Bd (IntKind.wrap .u64 (aw (IntKind.bits .u64) e36^^^aw (IntKind.bits .u64) v34).toNat:Int) (fun n38=>
 (bS (3:Int) 4∧
 (Wr h37 (adr a35 ((3:Int).toNat*1))∧
 At (hset h37 (adr a35 ((3:Int).toNat*1)) (.int .u64 n38)) (fun h39=>
 ∃a40,x0=some a40∧
 (bS 0 4∧
 ∃v41,ae h39 a40 ((0:Int).toNat*1) (.int .u64 v41)∧
 ∃a42,x0=some a42∧
 (bS (3:Int) 4∧
 ∃v43,ae h39 a42 ((3:Int).toNat*1) (.int .u64 v43)∧
 ∃a44,x0=some a44∧
 (bS 0 4∧
 (Wr h39 (adr a44 ((0:Int).toNat*1))∧
 At (hset h39 (adr a44 ((0:Int).toNat*1)) (.int .u64 (IntKind.wrap .u64 (v41+v43)))) (fun h45=>
 ∃a46,x0=some a46∧
 (bS (3:Int) 4∧
 ∃v47,ae h45 a46 ((3:Int).toNat*1) (.int .u64 v47)∧
 ∃a48,x0=some a48∧
 (bS 0 4∧
 ∃v49,ae h45 a48 ((0:Int).toNat*1) (.int .u64 v49)∧
 ∃a50,x0=some a50∧
 HC PG c7 [.int .u64 v47,.int .i64 21] [.c (.int .u64)] (fun(e51:Int) h52=>
 (ae h52 a48 ((0:Int).toNat*1) (.int .u64 v49)∧
 Bd (IntKind.wrap .u64 (aw (IntKind.bits .u64) e51^^^aw (IntKind.bits .u64) v49).toNat:Int) (fun n53=>
 (bS (3:Int) 4∧
 (Wr h52 (adr a50 ((3:Int).toNat*1))∧
 At (hset h52 (adr a50 ((3:Int).toNat*1)) (.int .u64 n53)) (fun h54=>
 ∃a55,x0=some a55∧
 (bS (2:Int) 4∧
 ∃v56,ae h54 a55 ((2:Int).toNat*1) (.int .u64 v56)∧
 ∃a57,x0=some a57∧
 (bS 1 4∧
 ∃v58,ae h54 a57 ((1:Int).toNat*1) (.int .u64 v58)∧
 ∃a59,x0=some a59∧
 (bS (2:Int) 4∧
 (Wr h54 (adr a59 ((2:Int).toNat*1))∧
 At (hset h54 (adr a59 ((2:Int).toNat*1)) (.int .u64 (IntKind.wrap .u64 (v56+v58)))) (fun h60=>
 ∃a61,x0=some a61∧
 (bS 1 4∧
 ∃v62,ae h60 a61 ((1:Int).toNat*1) (.int .u64 v62)∧
 ∃a63,x0=some a63∧
 (bS (2:Int) 4∧
 ∃v64,ae h60 a63 ((2:Int).toNat*1) (.int .u64 v64)∧
 ∃a65,x0=some a65∧
 HC PG c7 [.int .u64 v62,.int .i64 17] [.c (.int .u64)] (fun(e66:Int) h67=>
 (ae h67 a63 ((2:Int).toNat*1) (.int .u64 v64)∧
 Bd (IntKind.wrap .u64 (aw (IntKind.bits .u64) e66^^^aw (IntKind.bits .u64) v64).toNat:Int) (fun n68=>
 (bS 1 4∧
 (Wr h67 (adr a65 ((1:Int).toNat*1))∧
 At (hset h67 (adr a65 ((1:Int).toNat*1)) (.int .u64 n68)) (fun h69=>
 ∃a70,x0=some a70∧
 (bS (2:Int) 4∧
 ∃v71,ae h69 a70 ((2:Int).toNat*1) (.int .u64 v71)∧
 ∃a72,x0=some a72∧
 HC PG c7 [.int .u64 v71,.int .i64 32] [.c (.int .u64)] (fun(e73:Int) h74=>
 (bS (2:Int) 4∧
 (Wr h74 (adr a72 ((2:Int).toNat*1))∧
 At (hset h74 (adr a72 ((2:Int).toNat*1)) (.int .u64 e73)) (fun h75=>
 I1 (IntKind.wrap .i64 (t2+1)) h75)))) h69))))))) h60))))))))))))) h45))))))))))))) h30))))))))))) h18))))))) h9)))))))) (
 K () h3)) 0 h0
noncomputable def Ao:Ann:=.node .nil (.loop [(5,.c (.int .i64))] .nil)
theorem Ad(x0:Option Addr)(x1:Int){K:cD []→af→Prop}{h0:af}(h:tA x0 x1 K h0):HC PG jv [.pointer x0,.int .i64 x1] [] K h0:=HC.intro (an:=Ao) (c:=Tryz.f185.body.getD .skip) Tryz.mixed Tryz.func185 rfl Tryz.call185 (ad rfl) (cT (by kernel_rfl) h)
def eW(x0:SliceV)(x1:ByteArray)(x2:Value)(K:(Int×Bool)→af→Prop)(h0:af):Prop:=
 LoopP (fun I1 (t2:Int×Int) h3=>
 CondP (decide (t2.1<t2.2)) (
 ((0:Int)≤(1:Int)∧
 Bd (db (IntKind.wrap .u64 (IntKind.wrap .i64 (t2.1+t2.2))) (2^(min (1:Int).toNat (IntKind.bits .u64))):Int) (fun n4=>
 (bS (IntKind.wrap .i64 n4) x0.len∧∃a5,x0.a=some a5∧
 ∃v6,ae h3 (adr a5 ((IntKind.wrap .i64 n4).toNat*2)) 0 (.string v6)∧
 ∃v7,ae h3 (adr a5 ((IntKind.wrap .i64 n4).toNat*2)) 1 (.string v7)∧
 HV PG x2 [.agg #[.string v6,.string v7],.string x1] [.c (.int .i64)] (fun(e8:Int) h9=>
 CondP (decide (e8<(0:Int))) (
 I1 (IntKind.wrap .i64 ((IntKind.wrap .i64 n4)+1),t2.2) h9) (
 I1 (t2.1,IntKind.wrap .i64 n4) h9)) h3)))) (
 CondP (decide (t2.1<(x0.len:Int))) (
 (bS t2.1 x0.len∧∃a10,x0.a=some a10∧
 ∃v11,ae h3 (adr a10 (t2.1.toNat*2)) 0 (.string v11)∧
 ∃v12,ae h3 (adr a10 (t2.1.toNat*2)) 1 (.string v12)∧
 HV PG x2 [.agg #[.string v11,.string v12],.string x1] [.c (.int .i64)] (fun(e13:Int) h14=>
 K (t2.1,e13==(0:Int)) h14) h3)) (
 K (t2.1,false) h3))) (0,(x0.len:Int)) h0
noncomputable def jq:Ann:=.node .nil (.node .nil (.node .nil (.node (.loop [(9,.c (.int .i64)),(10,.c (.int .i64))] .nil) .nil)))
theorem jo(x0:SliceV)(x1:ByteArray)(x2:Value){K:cD [.c (.int .i64),.c .bool]→af→Prop}{h0:af}(h:eW x0 x1 x2 K h0):HC PG eR [.slice x0.a x0.len x0.cap,.string x1,x2] [.c (.int .i64),.c .bool] K h0:=HC.intro (an:=jq) (c:=Tryz.f186.body.getD .skip) Tryz.mixed Tryz.func186 rfl Tryz.call186 (ad rfl) (cT (by kernel_rfl) h)
def g9(x0:SliceV)(x1:Value)(K:(SliceV)→af→Prop)(h0:af):Prop:=
 At (hnew h0 [.slice x0.a x0.len x0.cap] cj) (fun h1=>
 RangeP PG x1 [.agg [.str,.str]] h1 (fun rdy2 bz3 (x4:ByteArray×ByteArray) k5 h6=>
 At (hnew h6 [.string (⟨#[]⟩:ByteArray),.string (⟨#[]⟩:ByteArray)] al) (fun h10=>
 (dq h10 (some (ag h6)) 0 [.string x4.1,.string x4.2]∧
 At (aX h10 (ag h6) 0 [.string x4.1,.string x4.2]) (fun h11=>
 (h11[(px h1+1)]? =some rdy2∧At (oq h11 (px h1+1) bz3) (fun h8=>
 ∃v12:SliceV,aL h8 (ag h0)=some (.slice v12.a v12.len v12.cap)∧
 ∃v13,ae h8 (ag h6) 0 (.string v13)∧
 ∃v14,ae h8 (ag h6) 1 (.string v14)∧
 At (hnew h8 [.string v13,.string v14] al) (fun h15=>
 ∃xs16,SRow h15 (some (ag h8)) (1*2) xs16∧
 AppP (some [.string (⟨#[]⟩:ByteArray),.string (⟨#[]⟩:ByteArray)]) 2 32 al v12.a v12.len v12.cap 1 xs16 h15 (fun s17 h18=>
 (Wr h18 (ag h0)∧
 At (hset h18 (ag h0) (.slice s17.a s17.len s17.cap)) (fun h19=>
 k5 none h19)))))))))) (fun h20=>
 ∃v23:SliceV,aL h20 (ag h0)=some (.slice v23.a v23.len v23.cap)∧
 (h20[(px h1)]? =some (.deferred (some []))∧At (oq h20 (px h1) (.deferred none)) (fun h24=>
 K v23 h24))) (fun i9 h21=>
 bif Nat.beq i9 0 then(
 ∃v25:SliceV,aL h21 (ag h0)=some (.slice v25.a v25.len v25.cap)∧
 (h21[(px h1)]? =some (.deferred (some []))∧At (oq h21 (px h1) (.deferred none)) (fun h26=>
 K v25 h26)))else(
 False)) (fun h22=>
 (h22[(px h1)]? =some (.deferred (some []))∧At (oq h22 (px h1) (.deferred none)) (fun h27=>
 K ⟨none,0,0⟩ h27))))
noncomputable def mn:Ann:=.node .nil (.node (.node .nil (.rf [.agg [.str,.str]] .nil .nil)) .nil)
theorem me(x0:SliceV)(x1:Value){K:cD [.c .slice]→af→Prop}{h0:af}(h:g9 x0 x1 K h0):HC PG eN [.slice x0.a x0.len x0.cap,x1] [.c .slice] K h0:=HC.introM (an:=mn) (c:=Tryz.f187.body.getD .skip) Tryz.mixed Tryz.func187 rfl Tryz.call187 (ad rfl) (cT (by kernel_rfl) h)
def wM(x0:Value)(y0:Addr)(K:(Unit)→af→Prop)(h0:af):Prop:=
 ∃v1,aL h0 y0=some (.pointer v1)∧
 HC PG zO [.pointer v1] [.c .ptr] (fun(e2:Option Addr) h3=>
 LoopP (fun I4 (t5:Unit) h6=>
 HC PG pe [.pointer e2] [.agg [.str,.str],.c .bool] (fun(e7:(ByteArray×ByteArray)×Bool) h8=>
 At (hnew h8 [.string (⟨#[]⟩:ByteArray),.string (⟨#[]⟩:ByteArray)] al) (fun h9=>
 (dq h9 (some (ag h8)) 0 [.string e7.1.1,.string e7.1.2]∧
 At (aX h9 (ag h8) 0 [.string e7.1.1,.string e7.1.2]) (fun h10=>
 Join (fun(t16:Bool) h17=>
 CondP t16 (
 K () h17) (
 I4 () h17)) (fun J11=>
 CondP (!e7.2) (
 J11 true h10) (
 ∃v12,ae h10 (ag h8) 0 (.string v12)∧
 ∃v13,ae h10 (ag h8) 1 (.string v13)∧
 HV PG x0 [.agg #[.string v12,.string v13]] [.c .bool] (fun(e14:Bool) h15=>
 J11 (!e14) h15) h10)))))) h6) () h3) h0
noncomputable def BZ:Ann:=.node .nil (.loop [] (.node .nil (.join [(20,.c .bool)] .nil .nil)))
theorem UJ(x0:Value)(y0:Addr){K:cD []→af→Prop}{h0:af}(h:wM x0 y0 K h0):HC PG su [x0,.pointer (some y0)] [] K h0:=HC.intro (an:=BZ) (c:=Tryz.f191.body.getD .skip) Tryz.mixed Tryz.func191 rfl Tryz.call191 (ad rfl) (cT (by kernel_rfl) h)
theorem HQ(x0:Value)(y0:Addr){K:cD []→af→Prop}{h0:af}(h:wM x0 y0 K h0):HE PG su [x0,.pointer (some y0)] [] K h0:=HE.intro (an:=BZ) (c:=Tryz.f191.body.getD .skip) Tryz.mixed Tryz.func191 rfl Tryz.call191 (ad rfl) (cT (by kernel_rfl) h)
def GN(x0:Option Addr)(K:(Option Addr)→af→Prop)(h0:af):Prop:=
 HC PG vj [.pointer x0] [.agg [.slice,.slice]] (fun(e1:SliceV×SliceV) h2=>
 At (hnew h2 [.slice e1.1.a e1.1.len e1.1.cap,.slice e1.2.a e1.2.len e1.2.cap] dI) (fun h3=>
 At (hnew h3 [.slice (some (ag h2)) 1 1,.int .i64 0] yW) (fun h4=>
 K (some (ag h3)) h4))) h0
noncomputable def Pd:Ann:=.nil
theorem OY(x0:Option Addr){K:cD [.c .ptr]→af→Prop}{h0:af}(h:GN x0 K h0):HC PG zO [.pointer x0] [.c .ptr] K h0:=HC.intro (an:=Pd) (c:=Tryz.f192.body.getD .skip) Tryz.mixed Tryz.func192 rfl Tryz.call192 (ad rfl) (cT (by kernel_rfl) h)
def tq(x0:Option Addr)(K:((ByteArray×ByteArray)×Bool)→af→Prop)(h0:af):Prop:=
 At (hnew h0 [.string (⟨#[]⟩:ByteArray),.string (⟨#[]⟩:ByteArray)] al) (fun h1=>
 CondP x0.isNone (
 (dq h1 (some (ag h0)) 0 [.string (⟨#[]⟩:ByteArray),.string (⟨#[]⟩:ByteArray)]∧
 At (aX h1 (ag h0) 0 [.string (⟨#[]⟩:ByteArray),.string (⟨#[]⟩:ByteArray)]) (fun h2=>
 ∃v3,ae h2 (ag h0) 0 (.string v3)∧
 ∃v4,ae h2 (ag h0) 1 (.string v4)∧
 K ((v3,v4),false) h2))) (
 LoopP (fun I5 (t6:Unit) h7=>
 ∃a8,x0=some a8∧
 ∃v9:SliceV,ae h7 a8 0 (.slice v9.a v9.len v9.cap)∧
 CondP (decide ((v9.len:Int)>(0:Int))) (
 ∃a10,x0=some a10∧
 ∃v11:SliceV,ae h7 a10 0 (.slice v11.a v11.len v11.cap)∧
 ∃a12,x0=some a12∧
 ∃v13:SliceV,ae h7 a12 0 (.slice v13.a v13.len v13.cap)∧
 (bS (IntKind.wrap .i64 ((v13.len:Int)-1)) v11.len∧∃a14,v11.a=some a14∧
 ∃a15,some (adr a14 ((IntKind.wrap .i64 ((v13.len:Int)-1)).toNat*2))=some a15∧
 ∃v16:SliceV,ae h7 a15 0 (.slice v16.a v16.len v16.cap)∧
 CondP (decide ((v16.len:Int)>(0:Int))) (
 ∃a17,some (adr a14 ((IntKind.wrap .i64 ((v13.len:Int)-1)).toNat*2))=some a17∧
 ∃v18:SliceV,ae h7 a17 0 (.slice v18.a v18.len v18.cap)∧
 (bS 0 v18.len∧∃a19,v18.a=some a19∧
 ∃v20,ae h7 (adr a19 ((0:Int).toNat*2)) 0 (.string v20)∧
 ∃v21,ae h7 (adr a19 ((0:Int).toNat*2)) 1 (.string v21)∧
 At (hnew h7 [.string (⟨#[]⟩:ByteArray),.string (⟨#[]⟩:ByteArray)] al) (fun h22=>
 (dq h22 (some (ag h7)) 0 [.string v20,.string v21]∧
 At (aX h22 (ag h7) 0 [.string v20,.string v21]) (fun h23=>
 ∃a24,some (adr a14 ((IntKind.wrap .i64 ((v13.len:Int)-1)).toNat*2))=some a24∧
 ∃v25:SliceV,ae h23 a24 0 (.slice v25.a v25.len v25.cap)∧
 (((0:Int)≤(1:Int)∧(1:Int)≤((v25.len:Nat):Int))∧
 ∃a26,some (adr a14 ((IntKind.wrap .i64 ((v13.len:Int)-1)).toNat*2))=some a26∧
 (Wr h23 (adr a26 0)∧
 At (hset h23 (adr a26 0) (.slice (aM v25.a ((1:Int).toNat) v25.cap 2) (v25.len-((1:Int).toNat)) (v25.cap-((1:Int).toNat)))) (fun h27=>
 ∃a28,x0=some a28∧
 ∃v29:SliceV,ae h27 a28 0 (.slice v29.a v29.len v29.cap)∧
 ∃a30,x0=some a30∧
 (Wr h27 (adr a30 1)∧
 At (hset h27 (adr a30 1) (.int .i64 (v29.len:Int))) (fun h31=>
 ∃v32,ae h31 (ag h7) 0 (.string v32)∧
 ∃v33,ae h31 (ag h7) 1 (.string v33)∧
 (dq h31 (some (ag h0)) 0 [.string v32,.string v33]∧
 At (aX h31 (ag h0) 0 [.string v32,.string v33]) (fun h34=>
 ∃v35,ae h34 (ag h0) 0 (.string v35)∧
 ∃v36,ae h34 (ag h0) 1 (.string v36)∧
 K ((v35,v36),true) h34)))))))))))) (
 ∃a37,some (adr a14 ((IntKind.wrap .i64 ((v13.len:Int)-1)).toNat*2))=some a37∧
 ∃v38:SliceV,ae h7 a37 1 (.slice v38.a v38.len v38.cap)∧
 CondP (decide ((v38.len:Int)>(0:Int))) (
 ∃a39,some (adr a14 ((IntKind.wrap .i64 ((v13.len:Int)-1)).toNat*2))=some a39∧
 ∃v40:SliceV,ae h7 a39 1 (.slice v40.a v40.len v40.cap)∧
 (bS 0 v40.len∧∃a41,v40.a=some a41∧
 ∃v42,ae h7 a41 ((0:Int).toNat*1) (.pointer v42)∧
 ∃a43,some (adr a14 ((IntKind.wrap .i64 ((v13.len:Int)-1)).toNat*2))=some a43∧
 ∃v44:SliceV,ae h7 a43 1 (.slice v44.a v44.len v44.cap)∧
 (((0:Int)≤(1:Int)∧(1:Int)≤((v44.len:Nat):Int))∧
 ∃a45,some (adr a14 ((IntKind.wrap .i64 ((v13.len:Int)-1)).toNat*2))=some a45∧
 (Wr h7 (adr a45 1)∧
 At (hset h7 (adr a45 1) (.slice (aM v44.a ((1:Int).toNat) v44.cap 1) (v44.len-((1:Int).toNat)) (v44.cap-((1:Int).toNat)))) (fun h46=>
 ∃a47,x0=some a47∧
 ∃v48:SliceV,ae h46 a47 0 (.slice v48.a v48.len v48.cap)∧
 HC PG vj [.pointer v42] [.agg [.slice,.slice]] (fun(e49:SliceV×SliceV) h50=>
 (ae h50 a47 0 (.slice v48.a v48.len v48.cap)∧
 At (hnew h50 [.slice e49.1.a e49.1.len e49.1.cap,.slice e49.2.a e49.2.len e49.2.cap] dI) (fun h51=>
 (ae h51 a47 0 (.slice v48.a v48.len v48.cap)∧
 ∃xs52,SRow h51 (some (ag h50)) (1*2) xs52∧
 AppP (some [.slice none 0 0,.slice none 0 0]) 2 48 dI v48.a v48.len v48.cap 1 xs52 h51 (fun s53 h54=>
 ∃a55,x0=some a55∧
 (Wr h54 (adr a55 0)∧
 At (hset h54 (adr a55 0) (.slice s53.a s53.len s53.cap)) (fun h56=>
 I5 () h56))))))) h46))))) (
 ∃a57,x0=some a57∧
 ∃v58:SliceV,ae h7 a57 0 (.slice v58.a v58.len v58.cap)∧
 ∃a59,x0=some a59∧
 ∃v60:SliceV,ae h7 a59 0 (.slice v60.a v60.len v60.cap)∧
 (((0:Int)≤(IntKind.wrap .i64 ((v60.len:Int)-1))∧(IntKind.wrap .i64 ((v60.len:Int)-1))≤((v58.cap:Nat):Int))∧
 Bd (aM v58.a 0 v58.cap 2:Option Addr) (fun a61=>Bd (((IntKind.wrap .i64 ((v60.len:Int)-1)).toNat)-0:Nat) (fun n62=>Bd (v58.cap-0:Nat) (fun n63=>
 ∃a64,x0=some a64∧
 (Wr h7 (adr a64 0)∧
 At (hset h7 (adr a64 0) (.slice a61 n62 n63)) (fun h65=>
 I5 () h65)))))))))) (
 ∃a66,x0=some a66∧
 (Wr h7 (adr a66 1)∧
 At (hset h7 (adr a66 1) (.int .i64 0)) (fun h67=>
 (dq h67 (some (ag h0)) 0 [.string (⟨#[]⟩:ByteArray),.string (⟨#[]⟩:ByteArray)]∧
 At (aX h67 (ag h0) 0 [.string (⟨#[]⟩:ByteArray),.string (⟨#[]⟩:ByteArray)]) (fun h68=>
 ∃v69,ae h68 (ag h0) 0 (.string v69)∧
 ∃v70,ae h68 (ag h0) 1 (.string v70)∧
 K ((v69,v70),false) h68)))))) () h1))
noncomputable def Al:Ann:=.node .nil (.node .nil (.node (.loop [] .nil) .nil))
theorem Aa(x0:Option Addr){K:cD [.agg [.str,.str],.c .bool]→af→Prop}{h0:af}(h:tq x0 K h0):HC PG pe [.pointer x0] [.agg [.str,.str],.c .bool] K h0:=HC.intro (an:=Al) (c:=Tryz.f193.body.getD .skip) Tryz.mixed Tryz.func193 rfl Tryz.call193 (ad rfl) (cT (by kernel_rfl) h)
def jV(x0:SliceV)(x1:Int)(x2:Value)(K:(Unit)→af→Prop)(h0:af):Prop:=
 LoopP (fun I1 (t2:Int×Int) h3=>
 CondP (decide (t2.2≤x1)) (
 HC PG du [.slice x0.a x0.len x0.cap,.int .i64 t2.1,.int .i64 t2.2,x2] [] (fun(e4:Unit) h5=>
 I1 (t2.2,IntKind.wrap .i64 (t2.2+20)) h5) h3) (
 HC PG du [.slice x0.a x0.len x0.cap,.int .i64 t2.1,.int .i64 x1,x2] [] (fun(e6:Unit) h7=>
 LoopP (fun I8 (t9:Int) h10=>
 CondP (decide (t9<x1)) (
 LoopP (fun I11 (t12:Int×Int) h13=>
 CondP (decide (t12.2≤x1)) (
 HC PG cK [.slice x0.a x0.len x0.cap,.int .i64 t12.1,.int .i64 (IntKind.wrap .i64 (t12.1+t9)),.int .i64 t12.2,x2] [] (fun(e14:Unit) h15=>
 I11 (t12.2,IntKind.wrap .i64 (t12.2+(IntKind.wrap .i64 (2*t9)))) h15) h13) (
 Join (fun(t19:Unit) h20=>
 I8 (IntKind.wrap .i64 (t9*2)) h20) (fun J16=>
 CondP (decide ((IntKind.wrap .i64 (t12.1+t9))<x1)) (
 HC PG cK [.slice x0.a x0.len x0.cap,.int .i64 t12.1,.int .i64 (IntKind.wrap .i64 (t12.1+t9)),.int .i64 x1,x2] [] (fun(e17:Unit) h18=>
 J16 () h18) h13) (
 J16 () h13)))) (0,IntKind.wrap .i64 (2*t9)) h10) (
 K () h10)) 20 h7) h3)) (0,20) h0
noncomputable def qe:Ann:=.node .nil (.node .nil (.node (.loop [(7,.c (.int .i64)),(8,.c (.int .i64))] .nil) (.node .nil (.loop [(6,.c (.int .i64))] (.node .nil (.node .nil (.node (.loop [(7,.c (.int .i64)),(8,.c (.int .i64))] .nil) (.join [] .nil .nil))))))))
theorem p8(x0:SliceV)(x1:Int)(x2:Value){K:cD []→af→Prop}{h0:af}(h:jV x0 x1 x2 K h0):HC PG jK [.slice x0.a x0.len x0.cap,.int .i64 x1,x2] [] K h0:=HC.intro (an:=qe) (c:=Tryz.f194.body.getD .skip) Tryz.mixed Tryz.func194 rfl Tryz.call194 (ad rfl) (cT (by kernel_rfl) h)
def rU(x0:Option Addr)(x1:Option Addr)(K:(Option Addr)→af→Prop)(h0:af):Prop:=
 HC PG pX [.pointer x0,.pointer x1] [.c .bool] (fun(e1:Bool) h2=>
 CondP e1 (
 K x0 h2) (
 ∃a3,x0=some a3∧
 ∃v4,ae h2 a3 0 (.int .u32 v4)∧
 ∃v5,ae h2 a3 1 (.int .u32 v5)∧
 ∃v6:SliceV,ae h2 a3 2 (.slice v6.a v6.len v6.cap)∧
 ∃v7:SliceV,ae h2 a3 3 (.slice v7.a v7.len v7.cap)∧
 ∃v8,ae h2 a3 4 (.bool v8)∧
 ∃v9,ae h2 a3 5 (.pointer v9)∧
 At (hnew h2 [.int .u32 0,.int .u32 0,.slice none 0 0,.slice none 0 0,.bool false,.pointer none] bw) (fun h10=>
 (dq h10 (some (ag h2)) 0 [.int .u32 v4,.int .u32 v5,.slice v6.a v6.len v6.cap,.slice v7.a v7.len v7.cap,.bool v8,.pointer v9]∧
 At (aX h10 (ag h2) 0 [.int .u32 v4,.int .u32 v5,.slice v6.a v6.len v6.cap,.slice v7.a v7.len v7.cap,.bool v8,.pointer v9]) (fun h11=>
 ∃a12,x0=some a12∧
 ∃v13:SliceV,ae h11 (adr a12 0) 2 (.slice v13.a v13.len v13.cap)∧
 ∃a14,x0=some a14∧
 ∃v15:SliceV,ae h11 (adr a14 0) 3 (.slice v15.a v15.len v15.cap)∧
 HC PG cC [.slice v13.a v13.len v13.cap] [.c .slice] (fun(e16:SliceV) h17=>
 (ae h17 (adr a14 0) 3 (.slice v15.a v15.len v15.cap)∧
 HC PG di [.slice v15.a v15.len v15.cap] [.c .slice] (fun(e18:SliceV) h19=>
 (Wr h19 (adr (adr (ag h2) 0) 2)∧
 At (hset h19 (adr (adr (ag h2) 0) 2) (.slice e16.a e16.len e16.cap)) (fun h20=>
 (Wr h20 (adr (adr (ag h2) 0) 3)∧
 At (hset h20 (adr (adr (ag h2) 0) 3) (.slice e18.a e18.len e18.cap)) (fun h21=>
 (Wr h21 (adr (ag h2) 5)∧
 At (hset h21 (adr (ag h2) 5) (.pointer none)) (fun h22=>
 HC PG hJ [.pointer x1] [.c .bool] (fun(e23:Bool) h24=>
 CondP e23 (
 (Wr h24 (adr (ag h2) 5)∧
 At (hset h24 (adr (ag h2) 5) (.pointer x1)) (fun h25=>
 K (some (ag h2)) h25))) (
 K (some (ag h2)) h24)) h22))))))) h17)) h11))))) h0
noncomputable def ET:Ann:=.nil
theorem wZ(x0:Option Addr)(x1:Option Addr){K:cD [.c .ptr]→af→Prop}{h0:af}(h:rU x0 x1 K h0):HC PG gJ [.pointer x0,.pointer x1] [.c .ptr] K h0:=HC.intro (an:=ET) (c:=Tryz.f195.body.getD .skip) Tryz.mixed Tryz.func195 rfl Tryz.call195 (ad rfl) (cT (by kernel_rfl) h)
def GX(x0:SliceV)(x1:ByteArray×ByteArray)(K:(SliceV)→af→Prop)(h0:af):Prop:=
 At (hnew h0 [.string x1.1,.string x1.2] al) (fun h1=>
 ∃v2,ae h1 (ag h0) 0 (.string v2)∧
 HC PG ry [.slice x0.a x0.len x0.cap,.string v2] [.c (.int .i64),.c .bool] (fun(e3:Int×Bool) h4=>
 (((0:Int)≤e3.1∧e3.1≤((x0.len:Nat):Int))∧
 Join (fun(t9:SliceV) h10=>
 (((0:Int)≤e3.1∧e3.1≤((x0.cap:Nat):Int))∧
 ∃v11,ae h10 (ag h0) 0 (.string v11)∧
 ∃v12,ae h10 (ag h0) 1 (.string v12)∧
 At (hnew h10 [.string v11,.string v12] al) (fun h13=>
 At (hnew h13 [.slice (aM x0.a 0 x0.cap 2) (e3.1.toNat-0) (x0.cap-0),.slice (some (ag h10)) 1 1,.slice t9.a t9.len t9.cap] cj) (fun h14=>
 HC PG dF [.slice (some (ag h13)) 3 3] [.c .slice] (fun(e15:SliceV) h16=>
 K e15 h16) h14)))) (fun J5=>
 CondP e3.2 (
 (((0:Int)≤(IntKind.wrap .i64 (e3.1+1))∧(IntKind.wrap .i64 (e3.1+1))≤((x0.len:Nat):Int))∧
 Bd (aM x0.a ((IntKind.wrap .i64 (e3.1+1)).toNat) x0.cap 2:Option Addr) (fun a6=>Bd (x0.len-((IntKind.wrap .i64 (e3.1+1)).toNat):Nat) (fun n7=>Bd (x0.cap-((IntKind.wrap .i64 (e3.1+1)).toNat):Nat) (fun n8=>
 J5 ⟨a6,n7,n8⟩ h4))))) (
 J5 ⟨aM x0.a e3.1.toNat x0.cap 2,x0.len-e3.1.toNat,x0.cap-e3.1.toNat⟩ h4)))) h1)
noncomputable def Po:Ann:=.node .nil (.node .nil (.node .nil (.join [(7,.c .slice)] .nil .nil)))
theorem O8(x0:SliceV)(x1:ByteArray×ByteArray){K:cD [.c .slice]→af→Prop}{h0:af}(h:GX x0 x1 K h0):HC PG zT [.slice x0.a x0.len x0.cap,.agg #[.string x1.1,.string x1.2]] [.c .slice] K h0:=HC.intro (an:=Po) (c:=Tryz.f196.body.getD .skip) Tryz.mixed Tryz.func196 rfl Tryz.call196 (ad rfl) (cT (by kernel_rfl) h)
def ji(x0:SliceV)(x1:Int)(x2:Value)(K:(Unit)→af→Prop)(h0:af):Prop:=
 LoopP (fun I1 (t2:Int×Int) h3=>
 CondP (decide (t2.2≤x1)) (
 HC PG cU [.slice x0.a x0.len x0.cap,.int .i64 t2.1,.int .i64 t2.2,x2] [] (fun(e4:Unit) h5=>
 I1 (t2.2,IntKind.wrap .i64 (t2.2+20)) h5) h3) (
 HC PG cU [.slice x0.a x0.len x0.cap,.int .i64 t2.1,.int .i64 x1,x2] [] (fun(e6:Unit) h7=>
 LoopP (fun I8 (t9:Int) h10=>
 CondP (decide (t9<x1)) (
 LoopP (fun I11 (t12:Int×Int) h13=>
 CondP (decide (t12.2≤x1)) (
 HC PG cr [.slice x0.a x0.len x0.cap,.int .i64 t12.1,.int .i64 (IntKind.wrap .i64 (t12.1+t9)),.int .i64 t12.2,x2] [] (fun(e14:Unit) h15=>
 I11 (t12.2,IntKind.wrap .i64 (t12.2+(IntKind.wrap .i64 (2*t9)))) h15) h13) (
 Join (fun(t19:Unit) h20=>
 I8 (IntKind.wrap .i64 (t9*2)) h20) (fun J16=>
 CondP (decide ((IntKind.wrap .i64 (t12.1+t9))<x1)) (
 HC PG cr [.slice x0.a x0.len x0.cap,.int .i64 t12.1,.int .i64 (IntKind.wrap .i64 (t12.1+t9)),.int .i64 x1,x2] [] (fun(e17:Unit) h18=>
 J16 () h18) h13) (
 J16 () h13)))) (0,IntKind.wrap .i64 (2*t9)) h10) (
 K () h10)) 20 h7) h3)) (0,20) h0
noncomputable def oL:Ann:=.node .nil (.node .nil (.node (.loop [(7,.c (.int .i64)),(8,.c (.int .i64))] .nil) (.node .nil (.loop [(6,.c (.int .i64))] (.node .nil (.node .nil (.node (.loop [(7,.c (.int .i64)),(8,.c (.int .i64))] .nil) (.join [] .nil .nil))))))))
theorem oG(x0:SliceV)(x1:Int)(x2:Value){K:cD []→af→Prop}{h0:af}(h:ji x0 x1 x2 K h0):HC PG jf [.slice x0.a x0.len x0.cap,.int .i64 x1,x2] [] K h0:=HC.intro (an:=oL) (c:=Tryz.f197.body.getD .skip) Tryz.mixed Tryz.func197 rfl Tryz.call197 (ad rfl) (cT (by kernel_rfl) h)
def xf(x0:Int)(K:(Bool)→af→Prop)(h0:af):Prop:=
 K (x0 !=x0) h0
noncomputable def E0:Ann:=.nil
theorem EQ(x0:Int){K:cD [.c .bool]→af→Prop}{h0:af}(h:xf x0 K h0):HC PG oV [.int .i64 x0] [.c .bool] K h0:=HC.intro (an:=E0) (c:=Tryz.f198.body.getD .skip) Tryz.mixed Tryz.func198 rfl Tryz.call198 (ad rfl) (cT (by kernel_rfl) h)
def uv(x0:Option Addr)(x1:Int)(K:(Bool)→af→Prop)(h0:af):Prop:=
 CondP (!(x0.isNone)) (
 ∃a1,x0=some a1∧
 ∃v2,ae h0 a1 4 (.bool v2)∧
 CondP (!v2) (
 CondP (decide (x1≥(0:Int))) (
 K (decide (x1<(32:Int))) h0) (
 K false h0)) (
 K false h0)) (
 K false h0)
noncomputable def Cc:Ann:=.nil
theorem BB(x0:Option Addr)(x1:Int){K:cD [.c .bool]→af→Prop}{h0:af}(h:uv x0 x1 K h0):HC PG jP [.pointer x0,.int .i64 x1] [.c .bool] K h0:=HC.intro (an:=Cc) (c:=Tryz.f199.body.getD .skip) Tryz.mixed Tryz.func199 rfl Tryz.call199 (ad rfl) (cT (by kernel_rfl) h)
def uu(x0:Option Addr)(x1:Int)(K:(Unit)→af→Prop)(h0:af):Prop:=
 Join (fun(t16:Unit) h17=>
 Join (fun(t33:Unit) h34=>
 ∃a35,x0=some a35∧
 ∃v36,ae h34 a35 0 (.int .u32 v36)∧
 ∃a37,x0=some a37∧
 ∃v38,ae h34 a37 1 (.int .u32 v38)∧
 HC PG jT [.int .u32 v36,.int .i64 x1] [.c (.int .u32)] (fun(e39:Int) h40=>
 (ae h40 a37 1 (.int .u32 v38)∧
 HC PG jT [.int .u32 v38,.int .i64 x1] [.c (.int .u32)] (fun(e41:Int) h42=>
 ∃a43,x0=some a43∧
 (Wr h42 (adr a43 0)∧
 At (hset h42 (adr a43 0) (.int .u32 e39)) (fun h44=>
 ∃a45,x0=some a45∧
 (Wr h44 (adr a45 1)∧
 At (hset h44 (adr a45 1) (.int .u32 e41)) (fun h46=>
 K () h46))))) h40)) h34) (fun J18=>
 ∃a19,x0=some a19∧
 ∃v20,ae h17 a19 1 (.int .u32 v20)∧
 HC PG ga [.int .u32 v20,.int .i64 x1] [.c .bool] (fun(e21:Bool) h22=>
 CondP e21 (
 ∃a23,x0=some a23∧
 ∃v24,ae h22 a23 1 (.int .u32 v24)∧
 HC PG df [.int .u32 v24,.int .i64 x1] [.c (.int .i64)] (fun(e25:Int) h26=>
 ∃a27,x0=some a27∧
 ∃v28:SliceV,ae h26 a27 3 (.slice v28.a v28.len v28.cap)∧
 HC PG eE [.slice v28.a v28.len v28.cap,.int .i64 e25,.int .i64 (IntKind.wrap .i64 (e25+1))] [.c .slice] (fun(e29:SliceV) h30=>
 ∃a31,x0=some a31∧
 (Wr h30 (adr a31 3)∧
 At (hset h30 (adr a31 3) (.slice e29.a e29.len e29.cap)) (fun h32=>
 J18 () h32))) h26) h22) (
 J18 () h22)) h17)) (fun J1=>
 ∃a2,x0=some a2∧
 ∃v3,ae h0 a2 0 (.int .u32 v3)∧
 HC PG ga [.int .u32 v3,.int .i64 x1] [.c .bool] (fun(e4:Bool) h5=>
 CondP e4 (
 ∃a6,x0=some a6∧
 ∃v7,ae h5 a6 0 (.int .u32 v7)∧
 HC PG df [.int .u32 v7,.int .i64 x1] [.c (.int .i64)] (fun(e8:Int) h9=>
 ∃a10,x0=some a10∧
 ∃v11:SliceV,ae h9 a10 2 (.slice v11.a v11.len v11.cap)∧
 HC PG fi [.slice v11.a v11.len v11.cap,.int .i64 e8,.int .i64 (IntKind.wrap .i64 (e8+1))] [.c .slice] (fun(e12:SliceV) h13=>
 ∃a14,x0=some a14∧
 (Wr h13 (adr a14 2)∧
 At (hset h13 (adr a14 2) (.slice e12.a e12.len e12.cap)) (fun h15=>
 J1 () h15))) h9) h5) (
 J1 () h5)) h0)
noncomputable def Cb:Ann:=.join [] .nil (.join [] .nil .nil)
theorem BA(x0:Option Addr)(x1:Int){K:cD []→af→Prop}{h0:af}(h:uu x0 x1 K h0):HC PG jO [.pointer x0,.int .i64 x1] [] K h0:=HC.intro (an:=Cb) (c:=Tryz.f200.body.getD .skip) Tryz.mixed Tryz.func200 rfl Tryz.call200 (ad rfl) (cT (by kernel_rfl) h)
def iK(x0:SliceV)(x1:Int)(x2:SliceV)(K:(SliceV)→af→Prop)(h0:af):Prop:=
 (((0:Int)≤x1∧x1≤((x0.len:Nat):Int))∧
 CondP ((x2.len:Int)==(0:Int)) (
 K x0 h0) (
 CondP (x1==(x0.len:Int)) (
 ∃xs1,SRow h0 x2.a (x2.len*2) xs1∧
 AppP (some [.string (⟨#[]⟩:ByteArray),.string (⟨#[]⟩:ByteArray)]) 2 32 al x0.a x0.len x0.cap x2.len xs1 h0 (fun s2 h3=>
 K s2 h3)) (
 CondP (decide ((IntKind.wrap .i64 ((x0.len:Int)+(x2.len:Int)))>(x0.cap:Int))) (
 Join (fun(t8:SliceV) h9=>
 (((0:Int)≤x1∧x1≤((t8.len:Nat):Int))∧
 ∃xs10,SRow h9 x2.a (dM x2.len (t8.len-x1.toNat)*2) xs10∧dq h9 (aM t8.a x1.toNat t8.cap 2) 0 xs10∧ce xs10=true∧
 At (fY h9 (aM t8.a x1.toNat t8.cap 2) 0 xs10) (fun h11=>
 (((0:Int)≤(IntKind.wrap .i64 (x1+(x2.len:Int)))∧(IntKind.wrap .i64 (x1+(x2.len:Int)))≤((t8.len:Nat):Int))∧
 Bd (aM t8.a ((IntKind.wrap .i64 (x1+(x2.len:Int))).toNat) t8.cap 2:Option Addr) (fun a12=>Bd (t8.len-((IntKind.wrap .i64 (x1+(x2.len:Int))).toNat):Nat) (fun n13=>Bd (t8.cap-((IntKind.wrap .i64 (x1+(x2.len:Int))).toNat):Nat) (fun n14=>
 (((0:Int)≤x1∧x1≤((x0.len:Nat):Int))∧
 ∃xs15,SRow h11 (aM x0.a x1.toNat x0.cap 2) (dM (x0.len-x1.toNat) n13*2) xs15∧dq h11 a12 0 xs15∧ce xs15=true∧
 At (fY h11 a12 0 xs15) (fun h16=>
 K t8 h16))))))))) (fun J4=>
 (((0:Int)≤x1∧x1≤((x0.cap:Nat):Int))∧
 Bd (IntKind.wrap .i64 ((IntKind.wrap .i64 ((x0.len:Int)+(x2.len:Int)))-x1):Int) (fun n5=>
 (((0:Int)≤n5∧n5*((32:Nat):Int)≤2^48∧n5≤9223372036854775807∧(((x1.toNat-0)+n5.toNat:Nat):Int)≤9223372036854775807)∧
 AppP (some [.string (⟨#[]⟩:ByteArray),.string (⟨#[]⟩:ByteArray)]) 2 32 al (aM x0.a 0 x0.cap 2) (x1.toNat-0) (x0.cap-0) n5.toNat (dD n5.toNat [.string (⟨#[]⟩:ByteArray),.string (⟨#[]⟩:ByteArray)]) h0 (fun s6 h7=>
 J4 s6 h7)))))) (
 (((0:Int)≤(IntKind.wrap .i64 ((x0.len:Int)+(x2.len:Int)))∧(IntKind.wrap .i64 ((x0.len:Int)+(x2.len:Int)))≤((x0.cap:Nat):Int))∧
 Bd (aM x0.a 0 x0.cap 2:Option Addr) (fun a17=>Bd (((IntKind.wrap .i64 ((x0.len:Int)+(x2.len:Int))).toNat)-0:Nat) (fun n18=>Bd (x0.cap-0:Nat) (fun n19=>
 (((0:Int)≤(IntKind.wrap .i64 (x1+(x2.len:Int)))∧(IntKind.wrap .i64 (x1+(x2.len:Int)))≤((n18:Nat):Int))∧
 Bd (aM a17 ((IntKind.wrap .i64 (x1+(x2.len:Int))).toNat) n19 2:Option Addr) (fun a20=>Bd (n18-((IntKind.wrap .i64 (x1+(x2.len:Int))).toNat):Nat) (fun n21=>Bd (n19-((IntKind.wrap .i64 (x1+(x2.len:Int))).toNat):Nat) (fun n22=>
 HC PG ja [.slice x2.a x2.len x2.cap,.slice a20 n21 n22] [.c .bool] (fun(e23:Bool) h24=>
 CondP (!e23) (
 (((0:Int)≤(IntKind.wrap .i64 (x1+(x2.len:Int)))∧(IntKind.wrap .i64 (x1+(x2.len:Int)))≤((n18:Nat):Int))∧
 Bd (aM a17 ((IntKind.wrap .i64 (x1+(x2.len:Int))).toNat) n19 2:Option Addr) (fun a25=>Bd (n18-((IntKind.wrap .i64 (x1+(x2.len:Int))).toNat):Nat) (fun n26=>Bd (n19-((IntKind.wrap .i64 (x1+(x2.len:Int))).toNat):Nat) (fun n27=>
 (((0:Int)≤x1∧x1≤((n18:Nat):Int))∧
 ∃xs28,SRow h24 (aM a17 x1.toNat n19 2) (dM (n18-x1.toNat) n26*2) xs28∧dq h24 a25 0 xs28∧ce xs28=true∧
 At (fY h24 a25 0 xs28) (fun h29=>
 (((0:Int)≤x1∧x1≤((n18:Nat):Int))∧
 ∃xs30,SRow h29 x2.a (dM x2.len (n18-x1.toNat)*2) xs30∧dq h29 (aM a17 x1.toNat n19 2) 0 xs30∧ce xs30=true∧
 At (fY h29 (aM a17 x1.toNat n19 2) 0 xs30) (fun h31=>
 K ⟨a17,n18,n19⟩ h31))))))))) (
 (((0:Int)≤(x0.len:Int)∧(x0.len:Int)≤((n18:Nat):Int))∧
 ∃xs32,SRow h24 x2.a (dM x2.len (n18-((x0.len:Int).toNat))*2) xs32∧dq h24 (aM a17 ((x0.len:Int).toNat) n19 2) 0 xs32∧ce xs32=true∧
 At (fY h24 (aM a17 ((x0.len:Int).toNat) n19 2) 0 xs32) (fun h33=>
 (((0:Int)≤x1∧x1≤((n18:Nat):Int))∧
 HC PG qI [.slice (aM a17 x1.toNat n19 2) (n18-x1.toNat) (n19-x1.toNat),.int .i64 (x2.len:Int)] [] (fun(e34:Unit) h35=>
 K ⟨a17,n18,n19⟩ h35) h33))))) h0))))))))))))
noncomputable def nO:Ann:=.node .nil (.node .nil (.node .nil (.node .nil (.node .nil (.node .nil (.node (.node .nil (.node (.join [(9,.c .slice)] .nil .nil) .nil)) .nil))))))
theorem nJ(x0:SliceV)(x1:Int)(x2:SliceV){K:cD [.c .slice]→af→Prop}{h0:af}(h:iK x0 x1 x2 K h0):HC PG cP [.slice x0.a x0.len x0.cap,.int .i64 x1,.slice x2.a x2.len x2.cap] [.c .slice] K h0:=HC.intro (an:=nO) (c:=Tryz.f201.body.getD .skip) Tryz.mixed Tryz.func201 rfl Tryz.call201 (ad rfl) (cT (by kernel_rfl) h)
def uC(x0:Int)(x1:Int)(K:(Int)→af→Prop)(h0:af):Prop:=
 HC PG oA [.int .i64 x1] [.c .bool] (fun(e1:Bool) h2=>
 CondP (!e1) (
 K x0 h2) (
 ((0:Int)≤x1∧
 Bd (IntKind.wrap .u32 (aw (IntKind.bits .u32) x0|||aw (IntKind.bits .u32) (IntKind.wrap .u32 (1*2^(min (x1:Int).toNat (IntKind.bits .u32))))).toNat:Int) (fun n3=>
 K n3 h2)))) h0
noncomputable def Cl:Ann:=.nil
theorem BI(x0:Int)(x1:Int){K:cD [.c (.int .u32)]→af→Prop}{h0:af}(h:uC x0 x1 K h0):HC PG fF [.int .u32 x0,.int .i64 x1] [.c (.int .u32)] K h0:=HC.intro (an:=Cl) (c:=Tryz.f202.body.getD .skip) Tryz.mixed Tryz.func202 rfl Tryz.call202 (ad rfl) (cT (by kernel_rfl) h)
def gN(x0:SliceV)(x1:Int)(x2:SliceV)(K:(SliceV)→af→Prop)(h0:af):Prop:=
 (((0:Int)≤x1∧x1≤((x0.len:Nat):Int))∧
 CondP ((x2.len:Int)==(0:Int)) (
 K x0 h0) (
 CondP (x1==(x0.len:Int)) (
 ∃xs1,SRow h0 x2.a (x2.len*1) xs1∧
 AppP (some [.pointer none]) 1 8 bO x0.a x0.len x0.cap x2.len xs1 h0 (fun s2 h3=>
 K s2 h3)) (
 CondP (decide ((IntKind.wrap .i64 ((x0.len:Int)+(x2.len:Int)))>(x0.cap:Int))) (
 Join (fun(t8:SliceV) h9=>
 (((0:Int)≤x1∧x1≤((t8.len:Nat):Int))∧
 ∃xs10,SRow h9 x2.a (dM x2.len (t8.len-x1.toNat)*1) xs10∧dq h9 (aM t8.a x1.toNat t8.cap 1) 0 xs10∧ce xs10=true∧
 At (fY h9 (aM t8.a x1.toNat t8.cap 1) 0 xs10) (fun h11=>
 (((0:Int)≤(IntKind.wrap .i64 (x1+(x2.len:Int)))∧(IntKind.wrap .i64 (x1+(x2.len:Int)))≤((t8.len:Nat):Int))∧
 Bd (aM t8.a ((IntKind.wrap .i64 (x1+(x2.len:Int))).toNat) t8.cap 1:Option Addr) (fun a12=>Bd (t8.len-((IntKind.wrap .i64 (x1+(x2.len:Int))).toNat):Nat) (fun n13=>Bd (t8.cap-((IntKind.wrap .i64 (x1+(x2.len:Int))).toNat):Nat) (fun n14=>
 (((0:Int)≤x1∧x1≤((x0.len:Nat):Int))∧
 ∃xs15,SRow h11 (aM x0.a x1.toNat x0.cap 1) (dM (x0.len-x1.toNat) n13*1) xs15∧dq h11 a12 0 xs15∧ce xs15=true∧
 At (fY h11 a12 0 xs15) (fun h16=>
 K t8 h16))))))))) (fun J4=>
 (((0:Int)≤x1∧x1≤((x0.cap:Nat):Int))∧
 Bd (IntKind.wrap .i64 ((IntKind.wrap .i64 ((x0.len:Int)+(x2.len:Int)))-x1):Int) (fun n5=>
 (((0:Int)≤n5∧n5*((8:Nat):Int)≤2^48∧n5≤9223372036854775807∧(((x1.toNat-0)+n5.toNat:Nat):Int)≤9223372036854775807)∧
 AppP (some [.pointer none]) 1 8 bO (aM x0.a 0 x0.cap 1) (x1.toNat-0) (x0.cap-0) n5.toNat (dD n5.toNat [.pointer none]) h0 (fun s6 h7=>
 J4 s6 h7)))))) (
 (((0:Int)≤(IntKind.wrap .i64 ((x0.len:Int)+(x2.len:Int)))∧(IntKind.wrap .i64 ((x0.len:Int)+(x2.len:Int)))≤((x0.cap:Nat):Int))∧
 Bd (aM x0.a 0 x0.cap 1:Option Addr) (fun a17=>Bd (((IntKind.wrap .i64 ((x0.len:Int)+(x2.len:Int))).toNat)-0:Nat) (fun n18=>Bd (x0.cap-0:Nat) (fun n19=>
 (((0:Int)≤(IntKind.wrap .i64 (x1+(x2.len:Int)))∧(IntKind.wrap .i64 (x1+(x2.len:Int)))≤((n18:Nat):Int))∧
 Bd (aM a17 ((IntKind.wrap .i64 (x1+(x2.len:Int))).toNat) n19 1:Option Addr) (fun a20=>Bd (n18-((IntKind.wrap .i64 (x1+(x2.len:Int))).toNat):Nat) (fun n21=>Bd (n19-((IntKind.wrap .i64 (x1+(x2.len:Int))).toNat):Nat) (fun n22=>
 HC PG iy [.slice x2.a x2.len x2.cap,.slice a20 n21 n22] [.c .bool] (fun(e23:Bool) h24=>
 CondP (!e23) (
 (((0:Int)≤(IntKind.wrap .i64 (x1+(x2.len:Int)))∧(IntKind.wrap .i64 (x1+(x2.len:Int)))≤((n18:Nat):Int))∧
 Bd (aM a17 ((IntKind.wrap .i64 (x1+(x2.len:Int))).toNat) n19 1:Option Addr) (fun a25=>Bd (n18-((IntKind.wrap .i64 (x1+(x2.len:Int))).toNat):Nat) (fun n26=>Bd (n19-((IntKind.wrap .i64 (x1+(x2.len:Int))).toNat):Nat) (fun n27=>
 (((0:Int)≤x1∧x1≤((n18:Nat):Int))∧
 ∃xs28,SRow h24 (aM a17 x1.toNat n19 1) (dM (n18-x1.toNat) n26*1) xs28∧dq h24 a25 0 xs28∧ce xs28=true∧
 At (fY h24 a25 0 xs28) (fun h29=>
 (((0:Int)≤x1∧x1≤((n18:Nat):Int))∧
 ∃xs30,SRow h29 x2.a (dM x2.len (n18-x1.toNat)*1) xs30∧dq h29 (aM a17 x1.toNat n19 1) 0 xs30∧ce xs30=true∧
 At (fY h29 (aM a17 x1.toNat n19 1) 0 xs30) (fun h31=>
 K ⟨a17,n18,n19⟩ h31))))))))) (
 (((0:Int)≤(x0.len:Int)∧(x0.len:Int)≤((n18:Nat):Int))∧
 ∃xs32,SRow h24 x2.a (dM x2.len (n18-((x0.len:Int).toNat))*1) xs32∧dq h24 (aM a17 ((x0.len:Int).toNat) n19 1) 0 xs32∧ce xs32=true∧
 At (fY h24 (aM a17 ((x0.len:Int).toNat) n19 1) 0 xs32) (fun h33=>
 (((0:Int)≤x1∧x1≤((n18:Nat):Int))∧
 HC PG pT [.slice (aM a17 x1.toNat n19 1) (n18-x1.toNat) (n19-x1.toNat),.int .i64 (x2.len:Int)] [] (fun(e34:Unit) h35=>
 K ⟨a17,n18,n19⟩ h35) h33))))) h0))))))))))))
noncomputable def lZ:Ann:=.node .nil (.node .nil (.node .nil (.node .nil (.node .nil (.node .nil (.node (.node .nil (.node (.join [(9,.c .slice)] .nil .nil) .nil)) .nil))))))
theorem lV(x0:SliceV)(x1:Int)(x2:SliceV){K:cD [.c .slice]→af→Prop}{h0:af}(h:gN x0 x1 x2 K h0):HC PG cG [.slice x0.a x0.len x0.cap,.int .i64 x1,.slice x2.a x2.len x2.cap] [.c .slice] K h0:=HC.intro (an:=lZ) (c:=Tryz.f203.body.getD .skip) Tryz.mixed Tryz.func203 rfl Tryz.call203 (ad rfl) (cT (by kernel_rfl) h)
def tD(x0:Option Addr)(x1:Option Addr)(K:(Bool)→af→Prop)(h0:af):Prop:=
 CondP (!(x0.isNone)) (
 HC PG hJ [.pointer x1] [.c .bool] (fun(e1:Bool) h2=>
 CondP e1 (
 ∃a3,x0=some a3∧
 ∃v4,ae h2 a3 4 (.pointer v4)∧
 (True∧(∀x y:Addr,v4=some x→x1=some y→fL h2 x∧fL h2 y)∧
 K (v4==x1) h2)) (
 K false h2)) h0) (
 K false h0)
noncomputable def As:Ann:=.nil
theorem Ag(x0:Option Addr)(x1:Option Addr){K:cD [.c .bool]→af→Prop}{h0:af}(h:tD x0 x1 K h0):HC PG ph [.pointer x0,.pointer x1] [.c .bool] K h0:=HC.intro (an:=As) (c:=Tryz.f204.body.getD .skip) Tryz.mixed Tryz.func204 rfl Tryz.call204 (ad rfl) (cT (by kernel_rfl) h)
def tx(x0:Option Addr)(K:(Bool)→af→Prop)(h0:af):Prop:=
 CondP (!(x0.isNone)) (
 ∃a1,x0=some a1∧
 ∃v2,ae h0 a1 2 (.bool v2)∧
 K v2 h0) (
 K false h0)
noncomputable def An:Ann:=.nil
theorem Ac(x0:Option Addr){K:cD [.c .bool]→af→Prop}{h0:af}(h:tx x0 K h0):HC PG hJ [.pointer x0] [.c .bool] K h0:=HC.intro (an:=An) (c:=Tryz.f205.body.getD .skip) Tryz.mixed Tryz.func205 rfl Tryz.call205 (ad rfl) (cT (by kernel_rfl) h)
def tC(x0:Option Addr)(x1:ByteArray)(K:(Option Addr)→af→Prop)(h0:af):Prop:=
 ∃a1,x0=some a1∧
 (Wr h0 (adr a1 0)∧
 At (hset h0 (adr a1 0) (.string x1)) (fun h2=>
 K x0 h2))
noncomputable def Aq:Ann:=.nil
theorem Af(x0:Option Addr)(x1:ByteArray){K:cD [.c .ptr]→af→Prop}{h0:af}(h:tC x0 x1 K h0):HC PG ib [.pointer x0,.string x1] [.c .ptr] K h0:=HC.intro (an:=Aq) (c:=Tryz.f208.body.getD .skip) Tryz.mixed Tryz.func208 rfl Tryz.call208 (ad rfl) (cT (by kernel_rfl) h)
def Ep(x0:SliceV)(x1:ByteArray)(K:(SliceV)→af→Prop)(h0:af):Prop:=
 HC PG ry [.slice x0.a x0.len x0.cap,.string x1] [.c (.int .i64),.c .bool] (fun(e1:Int×Bool) h2=>
 CondP (!e1.2) (
 HC PG cC [.slice x0.a x0.len x0.cap] [.c .slice] (fun(e3:SliceV) h4=>
 K e3 h4) h2) (
 (((0:Int)≤e1.1∧e1.1≤((x0.cap:Nat):Int))∧
 (((0:Int)≤(IntKind.wrap .i64 (e1.1+1))∧(IntKind.wrap .i64 (e1.1+1))≤((x0.len:Nat):Int))∧
 Bd (aM x0.a ((IntKind.wrap .i64 (e1.1+1)).toNat) x0.cap 2:Option Addr) (fun a5=>Bd (x0.len-((IntKind.wrap .i64 (e1.1+1)).toNat):Nat) (fun n6=>Bd (x0.cap-((IntKind.wrap .i64 (e1.1+1)).toNat):Nat) (fun n7=>
 At (hnew h2 [.slice (aM x0.a 0 x0.cap 2) (e1.1.toNat-0) (x0.cap-0),.slice a5 n6 n7] cj) (fun h8=>
 HC PG dF [.slice (some (ag h2)) 2 2] [.c .slice] (fun(e9:SliceV) h10=>
 K e9 h10) h8)))))))) h0
noncomputable def M8:Ann:=.nil
theorem MP(x0:SliceV)(x1:ByteArray){K:cD [.c .slice]→af→Prop}{h0:af}(h:Ep x0 x1 K h0):HC PG xJ [.slice x0.a x0.len x0.cap,.string x1] [.c .slice] K h0:=HC.intro (an:=M8) (c:=Tryz.f209.body.getD .skip) Tryz.mixed Tryz.func209 rfl Tryz.call209 (ad rfl) (cT (by kernel_rfl) h)
def pH(x0:Int)(K:(Int)→af→Prop)(h0:af):Prop:=
 ((0:Int)≤(24:Int)∧
 ∃b1,(0:Int)≤(db x0 (2^(min (24:Int).toNat (IntKind.bits .u32))))∧(⟨#[0,1,1,2,1,2,2,3,1,2,2,3,2,3,3,4,1,2,2,3,2,3,3,4,2,3,3,4,3,4,4,5,1,2,2,3,2,3,3,4,2,3,3,4,3,4,4,5,2,3,3,4,3,4,4,5,3,4,4,5,4,5,5,6,1,2,2,3,2,3,3,4,2,3,3,4,3,4,4,5,2,3,3,4,3,4,4,5,3,4,4,5,4,5,5,6,2,3,3,4,3,4,4,5,3,4,4,5,4,5,5,6,3,4,4,5,4,5,5,6,4,5,5,6,5,6,6,7,1,2,2,3,2,3,3,4,2,3,3,4,3,4,4,5,2,3,3,4,3,4,4,5,3,4,4,5,4,5,5,6,2,3,3,4,3,4,4,5,3,4,4,5,4,5,5,6,3,4,4,5,4,5,5,6,4,5,5,6,5,6,6,7,2,3,3,4,3,4,4,5,3,4,4,5,4,5,5,6,3,4,4,5,4,5,5,6,4,5,5,6,5,6,6,7,3,4,4,5,4,5,5,6,4,5,5,6,5,6,6,7,4,5,5,6,5,6,6,7,5,6,6,7,6,7,7,8]⟩:ByteArray)[(db x0 (2^(min (24:Int).toNat (IntKind.bits .u32)))).toNat]? =some b1∧
 ((0:Int)≤(16:Int)∧
 Bd (IntKind.wrap .u32 (aw (IntKind.bits .u32) (db x0 (2^(min (16:Int).toNat (IntKind.bits .u32))))&&&aw (IntKind.bits .u32) 255).toNat:Int) (fun n2=>
 ∃b3,(0:Int)≤n2∧(⟨#[0,1,1,2,1,2,2,3,1,2,2,3,2,3,3,4,1,2,2,3,2,3,3,4,2,3,3,4,3,4,4,5,1,2,2,3,2,3,3,4,2,3,3,4,3,4,4,5,2,3,3,4,3,4,4,5,3,4,4,5,4,5,5,6,1,2,2,3,2,3,3,4,2,3,3,4,3,4,4,5,2,3,3,4,3,4,4,5,3,4,4,5,4,5,5,6,2,3,3,4,3,4,4,5,3,4,4,5,4,5,5,6,3,4,4,5,4,5,5,6,4,5,5,6,5,6,6,7,1,2,2,3,2,3,3,4,2,3,3,4,3,4,4,5,2,3,3,4,3,4,4,5,3,4,4,5,4,5,5,6,2,3,3,4,3,4,4,5,3,4,4,5,4,5,5,6,3,4,4,5,4,5,5,6,4,5,5,6,5,6,6,7,2,3,3,4,3,4,4,5,3,4,4,5,4,5,5,6,3,4,4,5,4,5,5,6,4,5,5,6,5,6,6,7,3,4,4,5,4,5,5,6,4,5,5,6,5,6,6,7,4,5,5,6,5,6,6,7,5,6,6,7,6,7,7,8]⟩:ByteArray)[n2.toNat]? =some b3∧
 ((0:Int)≤(8:Int)∧
 Bd (IntKind.wrap .u32 (aw (IntKind.bits .u32) (db x0 (2^(min (8:Int).toNat (IntKind.bits .u32))))&&&aw (IntKind.bits .u32) 255).toNat:Int) (fun n4=>
 ∃b5,(0:Int)≤n4∧(⟨#[0,1,1,2,1,2,2,3,1,2,2,3,2,3,3,4,1,2,2,3,2,3,3,4,2,3,3,4,3,4,4,5,1,2,2,3,2,3,3,4,2,3,3,4,3,4,4,5,2,3,3,4,3,4,4,5,3,4,4,5,4,5,5,6,1,2,2,3,2,3,3,4,2,3,3,4,3,4,4,5,2,3,3,4,3,4,4,5,3,4,4,5,4,5,5,6,2,3,3,4,3,4,4,5,3,4,4,5,4,5,5,6,3,4,4,5,4,5,5,6,4,5,5,6,5,6,6,7,1,2,2,3,2,3,3,4,2,3,3,4,3,4,4,5,2,3,3,4,3,4,4,5,3,4,4,5,4,5,5,6,2,3,3,4,3,4,4,5,3,4,4,5,4,5,5,6,3,4,4,5,4,5,5,6,4,5,5,6,5,6,6,7,2,3,3,4,3,4,4,5,3,4,4,5,4,5,5,6,3,4,4,5,4,5,5,6,4,5,5,6,5,6,6,7,3,4,4,5,4,5,5,6,4,5,5,6,5,6,6,7,4,5,5,6,5,6,6,7,5,6,6,7,6,7,7,8]⟩:ByteArray)[n4.toNat]? =some b5∧
 Bd (IntKind.wrap .u8 ((IntKind.wrap .u8 ((b1.toNat:Int)+(b3.toNat:Int)))+(b5.toNat:Int)):Int) (fun n6=>
 Bd (IntKind.wrap .u32 (aw (IntKind.bits .u32) x0&&&aw (IntKind.bits .u32) 255).toNat:Int) (fun n7=>
 ∃b8,(0:Int)≤n7∧(⟨#[0,1,1,2,1,2,2,3,1,2,2,3,2,3,3,4,1,2,2,3,2,3,3,4,2,3,3,4,3,4,4,5,1,2,2,3,2,3,3,4,2,3,3,4,3,4,4,5,2,3,3,4,3,4,4,5,3,4,4,5,4,5,5,6,1,2,2,3,2,3,3,4,2,3,3,4,3,4,4,5,2,3,3,4,3,4,4,5,3,4,4,5,4,5,5,6,2,3,3,4,3,4,4,5,3,4,4,5,4,5,5,6,3,4,4,5,4,5,5,6,4,5,5,6,5,6,6,7,1,2,2,3,2,3,3,4,2,3,3,4,3,4,4,5,2,3,3,4,3,4,4,5,3,4,4,5,4,5,5,6,2,3,3,4,3,4,4,5,3,4,4,5,4,5,5,6,3,4,4,5,4,5,5,6,4,5,5,6,5,6,6,7,2,3,3,4,3,4,4,5,3,4,4,5,4,5,5,6,3,4,4,5,4,5,5,6,4,5,5,6,5,6,6,7,3,4,4,5,4,5,5,6,4,5,5,6,5,6,6,7,4,5,5,6,5,6,6,7,5,6,6,7,6,7,7,8]⟩:ByteArray)[n7.toNat]? =some b8∧
 K (IntKind.wrap .i64 (IntKind.wrap .u8 (n6+(b8.toNat:Int)))) h0)))))))
noncomputable def vO:Ann:=.nil
theorem vx(x0:Int){K:cD [.c (.int .i64)]→af→Prop}{h0:af}(h:pH x0 K h0):HC PG kK [.int .u32 x0] [.c (.int .i64)] K h0:=HC.intro (an:=vO) (c:=Tryz.f210.body.getD .skip) Tryz.mixed Tryz.func210 rfl Tryz.call210 (ad rfl) (cT (by kernel_rfl) h)
def jx(x0:SliceV)(x1:Int)(x2:Int)(x3:Option Addr)(x4:Value)(K:(Int×Int)→af→Prop)(h0:af):Prop:=
 (bS x2 x0.len∧∃a1,x0.a=some a1∧
 ∃v2,ae h0 (adr a1 (x2.toNat*5)) 0 (.string v2)∧
 ∃v3,ae h0 (adr a1 (x2.toNat*5)) 1 (.string v3)∧
 ∃v4,ae h0 (adr a1 (x2.toNat*5)) 2 (.string v4)∧
 ∃v5,ae h0 (adr a1 (x2.toNat*5)) 3 (.bool v5)∧
 ∃v6,ae h0 (adr a1 (x2.toNat*5)) 4 (.bool v6)∧
 (bS x1 x0.len∧∃a7,x0.a=some a7∧
 ∃v8,ae h0 (adr a7 (x1.toNat*5)) 0 (.string v8)∧
 ∃v9,ae h0 (adr a7 (x1.toNat*5)) 1 (.string v9)∧
 ∃v10,ae h0 (adr a7 (x1.toNat*5)) 2 (.string v10)∧
 ∃v11,ae h0 (adr a7 (x1.toNat*5)) 3 (.bool v11)∧
 ∃v12,ae h0 (adr a7 (x1.toNat*5)) 4 (.bool v12)∧
 HV PG x4 [.agg #[.string v2,.string v3,.string v4,.bool v5,.bool v6],.agg #[.string v8,.string v9,.string v10,.bool v11,.bool v12]] [.c (.int .i64)] (fun(e13:Int) h14=>
 CondP (decide (e13<(0:Int))) (
 ∃a15,x3=some a15∧
 ∃v16,aL h14 a15=some (.int .i64 v16)∧
 ∃a17,x3=some a17∧
 (Wr h14 a17∧
 At (hset h14 a17 (.int .i64 (IntKind.wrap .i64 (v16+1)))) (fun h18=>
 K (x2,x1) h18))) (
 K (x1,x2) h14)) h0))
noncomputable def pt:Ann:=.nil
theorem pn(x0:SliceV)(x1:Int)(x2:Int)(x3:Option Addr)(x4:Value){K:cD [.c (.int .i64),.c (.int .i64)]→af→Prop}{h0:af}(h:jx x0 x1 x2 x3 x4 K h0):HC PG dh [.slice x0.a x0.len x0.cap,.int .i64 x1,.int .i64 x2,.pointer x3,x4] [.c (.int .i64),.c (.int .i64)] K h0:=HC.intro (an:=pt) (c:=Tryz.f211.body.getD .skip) Tryz.mixed Tryz.func211 rfl Tryz.call211 (ad rfl) (cT (by kernel_rfl) h)
def g8(x0:SliceV)(K:(SliceV)→af→Prop)(h0:af):Prop:=
 CondP x0.a.isNone (
 K ⟨none,0,0⟩ h0) (
 At (hnew h0 [] bO) (fun h1=>
 ∃xs2,SRow h1 x0.a (x0.len*1) xs2∧
 AppP (some [.pointer none]) 1 8 bO (some (ag h0)) 0 0 x0.len xs2 h1 (fun s3 h4=>
 K s3 h4)))
noncomputable def ml:Ann:=.nil
theorem md(x0:SliceV){K:cD [.c .slice]→af→Prop}{h0:af}(h:g8 x0 K h0):HC PG di [.slice x0.a x0.len x0.cap] [.c .slice] K h0:=HC.intro (an:=ml) (c:=Tryz.f212.body.getD .skip) Tryz.mixed Tryz.func212 rfl Tryz.call212 (ad rfl) (cT (by kernel_rfl) h)
def kZ(x0:ByteArray)(x1:ByteArray)(K:(Bool)→af→Prop)(h0:af):Prop:=
 CondP (decide ((x0.size:Int)≥(x1.size:Int))) (
 (((0:Int)≤(x1.size:Int)∧(x1.size:Int)≤((x0.size:Nat):Int))∧
 K ((x0.extract 0 ((x1.size:Int).toNat)).toList==x1.toList) h0)) (
 K false h0)
noncomputable def rI:Ann:=.nil
theorem rF(x0:ByteArray)(x1:ByteArray){K:cD [.c .bool]→af→Prop}{h0:af}(h:kZ x0 x1 K h0):HC PG kY [.string x0,.string x1] [.c .bool] K h0:=HC.intro (an:=rI) (c:=Tryz.f213.body.getD .skip) Tryz.mixed Tryz.func213 rfl Tryz.call213 (ad rfl) (cT (by kernel_rfl) h)
def oJ(x0:Int)(x1:Int)(K:(Int)→af→Prop)(h0:af):Prop:=
 Bd (IntKind.wrap .u64 (aw (IntKind.bits .u64) (IntKind.wrap .u64 x1)&&&aw (IntKind.bits .u64) 63).toNat:Int) (fun n1=>
 ((0:Int)≤n1∧
 Bd (IntKind.wrap .u64 (x0*2^(min (n1:Int).toNat (IntKind.bits .u64))):Int) (fun n2=>
 ((0:Int)≤(IntKind.wrap .u64 (64-n1))∧
 Bd (db x0 (2^(min (IntKind.wrap .u64 (64-n1):Int).toNat (IntKind.bits .u64))):Int) (fun n3=>
 Bd (IntKind.wrap .u64 (aw (IntKind.bits .u64) n2|||aw (IntKind.bits .u64) n3).toNat:Int) (fun n4=>
 K n4 h0))))))
noncomputable def uV:Ann:=.nil
theorem uT(x0:Int)(x1:Int){K:cD [.c (.int .u64)]→af→Prop}{h0:af}(h:oJ x0 x1 K h0):HC PG c7 [.int .u64 x0,.int .i64 x1] [.c (.int .u64)] K h0:=HC.intro (an:=uV) (c:=Tryz.f214.body.getD .skip) Tryz.mixed Tryz.func214 rfl Tryz.call214 (ad rfl) (cT (by kernel_rfl) h)
def Dr(x0:Option Addr)(K:(SliceV×SliceV)→af→Prop)(h0:af):Prop:=
 At (hnew h0 [.slice none 0 0,.slice none 0 0] dI) (fun h1=>
 HC PG eO [.pointer x0] [.c .slice] (fun(e2:SliceV) h3=>
 HC PG nz [.pointer x0] [.c .slice] (fun(e4:SliceV) h5=>
 (dq h5 (some (ag h0)) 0 [.slice e2.a e2.len e2.cap,.slice e4.a e4.len e4.cap]∧
 At (aX h5 (ag h0) 0 [.slice e2.a e2.len e2.cap,.slice e4.a e4.len e4.cap]) (fun h6=>
 ∃v7:SliceV,ae h6 (ag h0) 0 (.slice v7.a v7.len v7.cap)∧
 ∃v8:SliceV,ae h6 (ag h0) 1 (.slice v8.a v8.len v8.cap)∧
 K (v7,v8) h6))) h3) h1)
noncomputable def Rx:Ann:=.nil
theorem Jo(x0:Option Addr){K:cD [.agg [.slice,.slice]]→af→Prop}{h0:af}(h:Dr x0 K h0):HC PG vj [.pointer x0] [.agg [.slice,.slice]] K h0:=HC.intro (an:=Rx) (c:=Tryz.f217.body.getD .skip) Tryz.mixed Tryz.func217 rfl Tryz.call217 (ad rfl) (cT (by kernel_rfl) h)
def iq(x0:SliceV)(x1:Int)(x2:Int)(x3:Value)(K:(Unit)→af→Prop)(h0:af):Prop:=
 LoopP (fun I1 (t2:Int) h3=>
 CondP (decide (t2<x2)) (
 LoopP (fun I4 (t5:Int) h6=>
 Join (fun(t16:Bool) h17=>
 CondP t16 (
 (bS (IntKind.wrap .i64 (t5-1)) x0.len∧∃a18,x0.a=some a18∧
 ∃v19,ae h17 (adr a18 ((IntKind.wrap .i64 (t5-1)).toNat*2)) 0 (.string v19)∧
 ∃v20,ae h17 (adr a18 ((IntKind.wrap .i64 (t5-1)).toNat*2)) 1 (.string v20)∧
 (bS t5 x0.len∧∃a21,x0.a=some a21∧
 ∃v22,ae h17 (adr a21 (t5.toNat*2)) 0 (.string v22)∧
 ∃v23,ae h17 (adr a21 (t5.toNat*2)) 1 (.string v23)∧
 (bS t5 x0.len∧∃a24,x0.a=some a24∧
 (dq h17 (some (adr a24 (t5.toNat*2))) 0 [.string v19,.string v20]∧
 At (aX h17 (adr a24 (t5.toNat*2)) 0 [.string v19,.string v20]) (fun h25=>
 (bS (IntKind.wrap .i64 (t5-1)) x0.len∧∃a26,x0.a=some a26∧
 (dq h25 (some (adr a26 ((IntKind.wrap .i64 (t5-1)).toNat*2))) 0 [.string v22,.string v23]∧
 At (aX h25 (adr a26 ((IntKind.wrap .i64 (t5-1)).toNat*2)) 0 [.string v22,.string v23]) (fun h27=>
 I4 (IntKind.wrap .i64 (t5-1)) h27))))))))) (
 I1 (IntKind.wrap .i64 (t2+1)) h17)) (fun J7=>
 CondP (decide (t5>x1)) (
 (bS t5 x0.len∧∃a8,x0.a=some a8∧
 ∃v9,ae h6 (adr a8 (t5.toNat*2)) 0 (.string v9)∧
 ∃v10,ae h6 (adr a8 (t5.toNat*2)) 1 (.string v10)∧
 (bS (IntKind.wrap .i64 (t5-1)) x0.len∧∃a11,x0.a=some a11∧
 ∃v12,ae h6 (adr a11 ((IntKind.wrap .i64 (t5-1)).toNat*2)) 0 (.string v12)∧
 ∃v13,ae h6 (adr a11 ((IntKind.wrap .i64 (t5-1)).toNat*2)) 1 (.string v13)∧
 HV PG x3 [.agg #[.string v9,.string v10],.agg #[.string v12,.string v13]] [.c (.int .i64)] (fun(e14:Int) h15=>
 J7 (decide (e14<(0:Int))) h15) h6))) (
 J7 false h6))) t2 h3) (
 K () h3)) (IntKind.wrap .i64 (x1+1)) h0
noncomputable def mH:Ann:=.node .nil (.loop [(8,.c (.int .i64))] (.node .nil (.node (.node .nil (.loop [(9,.c (.int .i64))] (.node (.join [(34,.c .bool)] .nil .nil) .nil))) .nil)))
theorem mF(x0:SliceV)(x1:Int)(x2:Int)(x3:Value){K:cD []→af→Prop}{h0:af}(h:iq x0 x1 x2 x3 K h0):HC PG du [.slice x0.a x0.len x0.cap,.int .i64 x1,.int .i64 x2,x3] [] K h0:=HC.intro (an:=mH) (c:=Tryz.f218.body.getD .skip) Tryz.mixed Tryz.func218 rfl Tryz.call218 (ad rfl) (cT (by kernel_rfl) h)
def jw(x0:SliceV)(x1:Int)(x2:Int)(x3:Int)(x4:Value)(K:(Unit)→af→Prop)(h0:af):Prop:=
 CondP ((IntKind.wrap .i64 (x2-x1))==(1:Int)) (
 LoopP (fun I1 (t2:Int×Int) h3=>
 CondP (decide (t2.1<t2.2)) (
 ((0:Int)≤(1:Int)∧
 Bd (db (IntKind.wrap .u64 (IntKind.wrap .i64 (t2.1+t2.2))) (2^(min (1:Int).toNat (IntKind.bits .u64))):Int) (fun n4=>
 (bS (IntKind.wrap .i64 n4) x0.len∧∃a5,x0.a=some a5∧
 ∃v6,ae h3 (adr a5 ((IntKind.wrap .i64 n4).toNat*2)) 0 (.string v6)∧
 ∃v7,ae h3 (adr a5 ((IntKind.wrap .i64 n4).toNat*2)) 1 (.string v7)∧
 (bS x1 x0.len∧∃a8,x0.a=some a8∧
 ∃v9,ae h3 (adr a8 (x1.toNat*2)) 0 (.string v9)∧
 ∃v10,ae h3 (adr a8 (x1.toNat*2)) 1 (.string v10)∧
 HV PG x4 [.agg #[.string v6,.string v7],.agg #[.string v9,.string v10]] [.c (.int .i64)] (fun(e11:Int) h12=>
 CondP (decide (e11<(0:Int))) (
 I1 (IntKind.wrap .i64 ((IntKind.wrap .i64 n4)+1),t2.2) h12) (
 I1 (t2.1,IntKind.wrap .i64 n4) h12)) h3))))) (
 LoopP (fun I13 (t14:Int) h15=>
 CondP (decide (t14<(IntKind.wrap .i64 (t2.1-1)))) (
 (bS (IntKind.wrap .i64 (t14+1)) x0.len∧∃a16,x0.a=some a16∧
 ∃v17,ae h15 (adr a16 ((IntKind.wrap .i64 (t14+1)).toNat*2)) 0 (.string v17)∧
 ∃v18,ae h15 (adr a16 ((IntKind.wrap .i64 (t14+1)).toNat*2)) 1 (.string v18)∧
 (bS t14 x0.len∧∃a19,x0.a=some a19∧
 ∃v20,ae h15 (adr a19 (t14.toNat*2)) 0 (.string v20)∧
 ∃v21,ae h15 (adr a19 (t14.toNat*2)) 1 (.string v21)∧
 (bS t14 x0.len∧∃a22,x0.a=some a22∧
 (dq h15 (some (adr a22 (t14.toNat*2))) 0 [.string v17,.string v18]∧
 At (aX h15 (adr a22 (t14.toNat*2)) 0 [.string v17,.string v18]) (fun h23=>
 (bS (IntKind.wrap .i64 (t14+1)) x0.len∧∃a24,x0.a=some a24∧
 (dq h23 (some (adr a24 ((IntKind.wrap .i64 (t14+1)).toNat*2))) 0 [.string v20,.string v21]∧
 At (aX h23 (adr a24 ((IntKind.wrap .i64 (t14+1)).toNat*2)) 0 [.string v20,.string v21]) (fun h25=>
 I13 (IntKind.wrap .i64 (t14+1)) h25))))))))) (
 K () h15)) x1 h3)) (x2,x3) h0) (
 CondP ((IntKind.wrap .i64 (x3-x2))==(1:Int)) (
 LoopP (fun I26 (t27:Int×Int) h28=>
 CondP (decide (t27.1<t27.2)) (
 ((0:Int)≤(1:Int)∧
 Bd (db (IntKind.wrap .u64 (IntKind.wrap .i64 (t27.1+t27.2))) (2^(min (1:Int).toNat (IntKind.bits .u64))):Int) (fun n29=>
 (bS x2 x0.len∧∃a30,x0.a=some a30∧
 ∃v31,ae h28 (adr a30 (x2.toNat*2)) 0 (.string v31)∧
 ∃v32,ae h28 (adr a30 (x2.toNat*2)) 1 (.string v32)∧
 (bS (IntKind.wrap .i64 n29) x0.len∧∃a33,x0.a=some a33∧
 ∃v34,ae h28 (adr a33 ((IntKind.wrap .i64 n29).toNat*2)) 0 (.string v34)∧
 ∃v35,ae h28 (adr a33 ((IntKind.wrap .i64 n29).toNat*2)) 1 (.string v35)∧
 HV PG x4 [.agg #[.string v31,.string v32],.agg #[.string v34,.string v35]] [.c (.int .i64)] (fun(e36:Int) h37=>
 CondP (!(decide (e36<(0:Int)))) (
 I26 (IntKind.wrap .i64 ((IntKind.wrap .i64 n29)+1),t27.2) h37) (
 I26 (t27.1,IntKind.wrap .i64 n29) h37)) h28))))) (
 LoopP (fun I38 (t39:Int) h40=>
 CondP (decide (t39>t27.1)) (
 (bS (IntKind.wrap .i64 (t39-1)) x0.len∧∃a41,x0.a=some a41∧
 ∃v42,ae h40 (adr a41 ((IntKind.wrap .i64 (t39-1)).toNat*2)) 0 (.string v42)∧
 ∃v43,ae h40 (adr a41 ((IntKind.wrap .i64 (t39-1)).toNat*2)) 1 (.string v43)∧
 (bS t39 x0.len∧∃a44,x0.a=some a44∧
 ∃v45,ae h40 (adr a44 (t39.toNat*2)) 0 (.string v45)∧
 ∃v46,ae h40 (adr a44 (t39.toNat*2)) 1 (.string v46)∧
 (bS t39 x0.len∧∃a47,x0.a=some a47∧
 (dq h40 (some (adr a47 (t39.toNat*2))) 0 [.string v42,.string v43]∧
 At (aX h40 (adr a47 (t39.toNat*2)) 0 [.string v42,.string v43]) (fun h48=>
 (bS (IntKind.wrap .i64 (t39-1)) x0.len∧∃a49,x0.a=some a49∧
 (dq h48 (some (adr a49 ((IntKind.wrap .i64 (t39-1)).toNat*2))) 0 [.string v45,.string v46]∧
 At (aX h48 (adr a49 ((IntKind.wrap .i64 (t39-1)).toNat*2)) 0 [.string v45,.string v46]) (fun h50=>
 I38 (IntKind.wrap .i64 (t39-1)) h50))))))))) (
 K () h40)) x2 h28)) (x1,x2) h0) (
 ((0:Int)≤(1:Int)∧
 Bd (db (IntKind.wrap .u64 (IntKind.wrap .i64 (x1+x3))) (2^(min (1:Int).toNat (IntKind.bits .u64))):Int) (fun n51=>
 Join (fun(t54:Int×Int) h55=>
 Bd (IntKind.wrap .i64 ((IntKind.wrap .i64 ((IntKind.wrap .i64 n51)+x2))-1):Int) (fun n56=>
 LoopP (fun I57 (t58:Int×Int) h59=>
 CondP (decide (t58.1<t58.2)) (
 ((0:Int)≤(1:Int)∧
 Bd (db (IntKind.wrap .u64 (IntKind.wrap .i64 (t58.1+t58.2))) (2^(min (1:Int).toNat (IntKind.bits .u64))):Int) (fun n60=>
 (bS (IntKind.wrap .i64 (n56-(IntKind.wrap .i64 n60))) x0.len∧∃a61,x0.a=some a61∧
 ∃v62,ae h59 (adr a61 ((IntKind.wrap .i64 (n56-(IntKind.wrap .i64 n60))).toNat*2)) 0 (.string v62)∧
 ∃v63,ae h59 (adr a61 ((IntKind.wrap .i64 (n56-(IntKind.wrap .i64 n60))).toNat*2)) 1 (.string v63)∧
 (bS (IntKind.wrap .i64 n60) x0.len∧∃a64,x0.a=some a64∧
 ∃v65,ae h59 (adr a64 ((IntKind.wrap .i64 n60).toNat*2)) 0 (.string v65)∧
 ∃v66,ae h59 (adr a64 ((IntKind.wrap .i64 n60).toNat*2)) 1 (.string v66)∧
 HV PG x4 [.agg #[.string v62,.string v63],.agg #[.string v65,.string v66]] [.c (.int .i64)] (fun(e67:Int) h68=>
 CondP (!(decide (e67<(0:Int)))) (
 I57 (IntKind.wrap .i64 ((IntKind.wrap .i64 n60)+1),t58.2) h68) (
 I57 (t58.1,IntKind.wrap .i64 n60) h68)) h59))))) (
 Bd (IntKind.wrap .i64 ((IntKind.wrap .i64 ((IntKind.wrap .i64 n51)+x2))-t58.1):Int) (fun n69=>
 Join (fun(t76:Unit) h77=>
 Join (fun(t84:Unit) h85=>
 Join (fun(t87:Bool) h88=>
 CondP t87 (
 HC PG cK [.slice x0.a x0.len x0.cap,.int .i64 (IntKind.wrap .i64 n51),.int .i64 n69,.int .i64 x3,x4] [] (fun(e89:Unit) h90=>
 K () h90) h88) (
 K () h88)) (fun J86=>
 CondP (decide ((IntKind.wrap .i64 n51)<n69)) (
 J86 (decide (n69<x3)) h85) (
 J86 false h85))) (fun J78=>
 Join (fun(t80:Bool) h81=>
 CondP t80 (
 HC PG cK [.slice x0.a x0.len x0.cap,.int .i64 x1,.int .i64 t58.1,.int .i64 (IntKind.wrap .i64 n51),x4] [] (fun(e82:Unit) h83=>
 J78 () h83) h81) (
 J78 () h81)) (fun J79=>
 CondP (decide (x1<t58.1)) (
 J79 (decide (t58.1<(IntKind.wrap .i64 n51))) h77) (
 J79 false h77)))) (fun J70=>
 Join (fun(t72:Bool) h73=>
 CondP t72 (
 HC PG gk [.slice x0.a x0.len x0.cap,.int .i64 t58.1,.int .i64 x2,.int .i64 n69,x4] [] (fun(e74:Unit) h75=>
 J70 () h75) h73) (
 J70 () h73)) (fun J71=>
 CondP (decide (t58.1<x2)) (
 J71 (decide (x2<n69)) h59) (
 J71 false h59)))))) (t54.1,t54.2) h55)) (fun J52=>
 CondP (decide (x2>(IntKind.wrap .i64 n51))) (
 Bd (IntKind.wrap .i64 ((IntKind.wrap .i64 ((IntKind.wrap .i64 n51)+x2))-x3):Int) (fun n53=>
 J52 (n53,IntKind.wrap .i64 n51) h0)) (
 J52 (x1,x2) h0))))))
noncomputable def pr:Ann:=.node (.node .nil (.node (.node .nil (.node .nil (.node (.loop [(10,.c (.int .i64)),(11,.c (.int .i64))] .nil) (.node (.node .nil (.loop [(13,.c (.int .i64))] .nil)) .nil)))) .nil)) (.node (.node .nil (.node (.node .nil (.node .nil (.node (.loop [(14,.c (.int .i64)),(15,.c (.int .i64))] .nil) (.node (.node .nil (.loop [(17,.c (.int .i64))] .nil)) .nil)))) .nil)) (.node .nil (.node .nil (.node .nil (.join [(20,.c (.int .i64)),(21,.c (.int .i64))] .nil (.node .nil (.node (.loop [(20,.c (.int .i64)),(21,.c (.int .i64))] .nil) (.node .nil (.join [] (.join [(185,.c .bool)] .nil .nil) (.join [] (.join [(199,.c .bool)] .nil .nil) (.join [(213,.c .bool)] .nil .nil)))))))))))
theorem pm(x0:SliceV)(x1:Int)(x2:Int)(x3:Int)(x4:Value){K:cD []→af→Prop}{h0:af}(h:jw x0 x1 x2 x3 x4 K h0):HC PG cK [.slice x0.a x0.len x0.cap,.int .i64 x1,.int .i64 x2,.int .i64 x3,x4] [] K h0:=HC.intro (an:=pr) (c:=Tryz.f219.body.getD .skip) Tryz.mixed Tryz.func219 rfl Tryz.call219 (ad rfl) (cT (by kernel_rfl) h)
def uw(x0:Option Addr)(x1:Option Addr)(K:(Bool)→af→Prop)(h0:af):Prop:=
 CondP (!(x0.isNone)) (
 HC PG hJ [.pointer x1] [.c .bool] (fun(e1:Bool) h2=>
 CondP e1 (
 ∃a3,x0=some a3∧
 ∃v4,ae h2 a3 5 (.pointer v4)∧
 (True∧(∀x y:Addr,v4=some x→x1=some y→fL h2 x∧fL h2 y)∧
 K (v4==x1) h2)) (
 K false h2)) h0) (
 K false h0)
noncomputable def Ce:Ann:=.nil
theorem BC(x0:Option Addr)(x1:Option Addr){K:cD [.c .bool]→af→Prop}{h0:af}(h:uw x0 x1 K h0):HC PG pX [.pointer x0,.pointer x1] [.c .bool] K h0:=HC.intro (an:=Ce) (c:=Tryz.f220.body.getD .skip) Tryz.mixed Tryz.func220 rfl Tryz.call220 (ad rfl) (cT (by kernel_rfl) h)
def iP(x0:SliceV)(K:(SliceV)→af→Prop)(h0:af):Prop:=
 LoopP (fun I1 (t2:Int×Int) h3=>
 CondP (decide (t2.2<(x0.len:Int))) (
 Join (fun(t7:Int) h8=>
 I1 (t7,IntKind.wrap .i64 (t2.2+1)) h8) (fun J4=>
 (bS t2.2 x0.len∧∃a5,x0.a=some a5∧
 ∃v6:SliceV,ae h3 a5 (t2.2.toNat*1) (.slice v6.a v6.len v6.cap)∧
 CondP (decide ((IntKind.wrap .i64 (t2.1+(v6.len:Int)))<(0:Int))) (
 False) (
 J4 (IntKind.wrap .i64 (t2.1+(v6.len:Int))) h3)))) (
 HC PG fN [.slice none 0 0,.int .i64 t2.1] [.c .slice] (fun(e9:SliceV) h10=>
 LoopP (fun I11 (t12:SliceV×Int) h13=>
 CondP (decide (t12.2<(x0.len:Int))) (
 Join (fun(t20:SliceV) h21=>
 I11 (t20,IntKind.wrap .i64 (t12.2+1)) h21) (fun J14=>
 (bS t12.2 x0.len∧∃a15,x0.a=some a15∧
 ∃v16:SliceV,ae h13 a15 (t12.2.toNat*1) (.slice v16.a v16.len v16.cap)∧
 ∃xs17,SRow h13 v16.a (v16.len*2) xs17∧
 AppP (some [.string (⟨#[]⟩:ByteArray),.string (⟨#[]⟩:ByteArray)]) 2 32 al t12.1.a t12.1.len t12.1.cap v16.len xs17 h13 (fun s18 h19=>
 J14 s18 h19)))) (
 K t12.1 h13)) (e9,0) h10) h3)) (0,0) h0
noncomputable def nR:Ann:=.node .nil (.node .nil (.node (.node .nil (.loop [(3,.c (.int .i64)),(11,.c (.int .i64))] (.node .nil (.node .nil (.join [(3,.c (.int .i64))] .nil .nil))))) (.node .nil (.node (.node .nil (.loop [(6,.c .slice),(27,.c (.int .i64))] (.node .nil (.node .nil (.join [(6,.c .slice)] .nil .nil))))) .nil))))
theorem nL(x0:SliceV){K:cD [.c .slice]→af→Prop}{h0:af}(h:iP x0 K h0):HC PG dF [.slice x0.a x0.len x0.cap] [.c .slice] K h0:=HC.intro (an:=nR) (c:=Tryz.f221.body.getD .skip) Tryz.mixed Tryz.func221 rfl Tryz.call221 (ad rfl) (cT (by kernel_rfl) h)
def gp(x0:SliceV)(x1:Int)(x2:Int)(x3:Value)(K:(Unit)→af→Prop)(h0:af):Prop:=
 LoopP (fun I1 (t2:Int) h3=>
 CondP (decide (t2<x2)) (
 LoopP (fun I4 (t5:Int) h6=>
 Join (fun(t18:Bool) h19=>
 CondP t18 (
 (bS (IntKind.wrap .i64 (t5-1)) x0.len∧∃a20,x0.a=some a20∧
 ∃v21,ae h19 (adr a20 ((IntKind.wrap .i64 (t5-1)).toNat*3)) 0 (.string v21)∧
 ∃v22,ae h19 (adr a20 ((IntKind.wrap .i64 (t5-1)).toNat*3)) 1 (.string v22)∧
 ∃v23,ae h19 (adr a20 ((IntKind.wrap .i64 (t5-1)).toNat*3)) 2 (.int .u64 v23)∧
 (bS t5 x0.len∧∃a24,x0.a=some a24∧
 ∃v25,ae h19 (adr a24 (t5.toNat*3)) 0 (.string v25)∧
 ∃v26,ae h19 (adr a24 (t5.toNat*3)) 1 (.string v26)∧
 ∃v27,ae h19 (adr a24 (t5.toNat*3)) 2 (.int .u64 v27)∧
 (bS t5 x0.len∧∃a28,x0.a=some a28∧
 (dq h19 (some (adr a28 (t5.toNat*3))) 0 [.string v21,.string v22,.int .u64 v23]∧
 At (aX h19 (adr a28 (t5.toNat*3)) 0 [.string v21,.string v22,.int .u64 v23]) (fun h29=>
 (bS (IntKind.wrap .i64 (t5-1)) x0.len∧∃a30,x0.a=some a30∧
 (dq h29 (some (adr a30 ((IntKind.wrap .i64 (t5-1)).toNat*3))) 0 [.string v25,.string v26,.int .u64 v27]∧
 At (aX h29 (adr a30 ((IntKind.wrap .i64 (t5-1)).toNat*3)) 0 [.string v25,.string v26,.int .u64 v27]) (fun h31=>
 I4 (IntKind.wrap .i64 (t5-1)) h31))))))))) (
 I1 (IntKind.wrap .i64 (t2+1)) h19)) (fun J7=>
 CondP (decide (t5>x1)) (
 (bS t5 x0.len∧∃a8,x0.a=some a8∧
 ∃v9,ae h6 (adr a8 (t5.toNat*3)) 0 (.string v9)∧
 ∃v10,ae h6 (adr a8 (t5.toNat*3)) 1 (.string v10)∧
 ∃v11,ae h6 (adr a8 (t5.toNat*3)) 2 (.int .u64 v11)∧
 (bS (IntKind.wrap .i64 (t5-1)) x0.len∧∃a12,x0.a=some a12∧
 ∃v13,ae h6 (adr a12 ((IntKind.wrap .i64 (t5-1)).toNat*3)) 0 (.string v13)∧
 ∃v14,ae h6 (adr a12 ((IntKind.wrap .i64 (t5-1)).toNat*3)) 1 (.string v14)∧
 ∃v15,ae h6 (adr a12 ((IntKind.wrap .i64 (t5-1)).toNat*3)) 2 (.int .u64 v15)∧
 HV PG x3 [.agg #[.string v9,.string v10,.int .u64 v11],.agg #[.string v13,.string v14,.int .u64 v15]] [.c (.int .i64)] (fun(e16:Int) h17=>
 J7 (decide (e16<(0:Int))) h17) h6))) (
 J7 false h6))) t2 h3) (
 K () h3)) (IntKind.wrap .i64 (x1+1)) h0
noncomputable def lG:Ann:=.node .nil (.loop [(8,.c (.int .i64))] (.node .nil (.node (.node .nil (.loop [(9,.c (.int .i64))] (.node (.join [(34,.c .bool)] .nil .nil) .nil))) .nil)))
theorem lA(x0:SliceV)(x1:Int)(x2:Int)(x3:Value){K:cD []→af→Prop}{h0:af}(h:gp x0 x1 x2 x3 K h0):HC PG cU [.slice x0.a x0.len x0.cap,.int .i64 x1,.int .i64 x2,x3] [] K h0:=HC.intro (an:=lG) (c:=Tryz.f222.body.getD .skip) Tryz.mixed Tryz.func222 rfl Tryz.call222 (ad rfl) (cT (by kernel_rfl) h)
def iI(x0:SliceV)(x1:Int)(x2:Int)(x3:Int)(x4:Value)(K:(Unit)→af→Prop)(h0:af):Prop:=
 CondP ((IntKind.wrap .i64 (x2-x1))==(1:Int)) (
 LoopP (fun I1 (t2:Int×Int) h3=>
 CondP (decide (t2.1<t2.2)) (
 ((0:Int)≤(1:Int)∧
 Bd (db (IntKind.wrap .u64 (IntKind.wrap .i64 (t2.1+t2.2))) (2^(min (1:Int).toNat (IntKind.bits .u64))):Int) (fun n4=>
 (bS (IntKind.wrap .i64 n4) x0.len∧∃a5,x0.a=some a5∧
 ∃v6,ae h3 (adr a5 ((IntKind.wrap .i64 n4).toNat*3)) 0 (.string v6)∧
 ∃v7,ae h3 (adr a5 ((IntKind.wrap .i64 n4).toNat*3)) 1 (.string v7)∧
 ∃v8,ae h3 (adr a5 ((IntKind.wrap .i64 n4).toNat*3)) 2 (.int .u64 v8)∧
 (bS x1 x0.len∧∃a9,x0.a=some a9∧
 ∃v10,ae h3 (adr a9 (x1.toNat*3)) 0 (.string v10)∧
 ∃v11,ae h3 (adr a9 (x1.toNat*3)) 1 (.string v11)∧
 ∃v12,ae h3 (adr a9 (x1.toNat*3)) 2 (.int .u64 v12)∧
 HV PG x4 [.agg #[.string v6,.string v7,.int .u64 v8],.agg #[.string v10,.string v11,.int .u64 v12]] [.c (.int .i64)] (fun(e13:Int) h14=>
 CondP (decide (e13<(0:Int))) (
 I1 (IntKind.wrap .i64 ((IntKind.wrap .i64 n4)+1),t2.2) h14) (
 I1 (t2.1,IntKind.wrap .i64 n4) h14)) h3))))) (
 LoopP (fun I15 (t16:Int) h17=>
 CondP (decide (t16<(IntKind.wrap .i64 (t2.1-1)))) (
 (bS (IntKind.wrap .i64 (t16+1)) x0.len∧∃a18,x0.a=some a18∧
 ∃v19,ae h17 (adr a18 ((IntKind.wrap .i64 (t16+1)).toNat*3)) 0 (.string v19)∧
 ∃v20,ae h17 (adr a18 ((IntKind.wrap .i64 (t16+1)).toNat*3)) 1 (.string v20)∧
 ∃v21,ae h17 (adr a18 ((IntKind.wrap .i64 (t16+1)).toNat*3)) 2 (.int .u64 v21)∧
 (bS t16 x0.len∧∃a22,x0.a=some a22∧
 ∃v23,ae h17 (adr a22 (t16.toNat*3)) 0 (.string v23)∧
 ∃v24,ae h17 (adr a22 (t16.toNat*3)) 1 (.string v24)∧
 ∃v25,ae h17 (adr a22 (t16.toNat*3)) 2 (.int .u64 v25)∧
 (bS t16 x0.len∧∃a26,x0.a=some a26∧
 (dq h17 (some (adr a26 (t16.toNat*3))) 0 [.string v19,.string v20,.int .u64 v21]∧
 At (aX h17 (adr a26 (t16.toNat*3)) 0 [.string v19,.string v20,.int .u64 v21]) (fun h27=>
 (bS (IntKind.wrap .i64 (t16+1)) x0.len∧∃a28,x0.a=some a28∧
 (dq h27 (some (adr a28 ((IntKind.wrap .i64 (t16+1)).toNat*3))) 0 [.string v23,.string v24,.int .u64 v25]∧
 At (aX h27 (adr a28 ((IntKind.wrap .i64 (t16+1)).toNat*3)) 0 [.string v23,.string v24,.int .u64 v25]) (fun h29=>
 I15 (IntKind.wrap .i64 (t16+1)) h29))))))))) (
 K () h17)) x1 h3)) (x2,x3) h0) (
 CondP ((IntKind.wrap .i64 (x3-x2))==(1:Int)) (
 LoopP (fun I30 (t31:Int×Int) h32=>
 CondP (decide (t31.1<t31.2)) (
 ((0:Int)≤(1:Int)∧
 Bd (db (IntKind.wrap .u64 (IntKind.wrap .i64 (t31.1+t31.2))) (2^(min (1:Int).toNat (IntKind.bits .u64))):Int) (fun n33=>
 (bS x2 x0.len∧∃a34,x0.a=some a34∧
 ∃v35,ae h32 (adr a34 (x2.toNat*3)) 0 (.string v35)∧
 ∃v36,ae h32 (adr a34 (x2.toNat*3)) 1 (.string v36)∧
 ∃v37,ae h32 (adr a34 (x2.toNat*3)) 2 (.int .u64 v37)∧
 (bS (IntKind.wrap .i64 n33) x0.len∧∃a38,x0.a=some a38∧
 ∃v39,ae h32 (adr a38 ((IntKind.wrap .i64 n33).toNat*3)) 0 (.string v39)∧
 ∃v40,ae h32 (adr a38 ((IntKind.wrap .i64 n33).toNat*3)) 1 (.string v40)∧
 ∃v41,ae h32 (adr a38 ((IntKind.wrap .i64 n33).toNat*3)) 2 (.int .u64 v41)∧
 HV PG x4 [.agg #[.string v35,.string v36,.int .u64 v37],.agg #[.string v39,.string v40,.int .u64 v41]] [.c (.int .i64)] (fun(e42:Int) h43=>
 CondP (!(decide (e42<(0:Int)))) (
 I30 (IntKind.wrap .i64 ((IntKind.wrap .i64 n33)+1),t31.2) h43) (
 I30 (t31.1,IntKind.wrap .i64 n33) h43)) h32))))) (
 LoopP (fun I44 (t45:Int) h46=>
 CondP (decide (t45>t31.1)) (
 (bS (IntKind.wrap .i64 (t45-1)) x0.len∧∃a47,x0.a=some a47∧
 ∃v48,ae h46 (adr a47 ((IntKind.wrap .i64 (t45-1)).toNat*3)) 0 (.string v48)∧
 ∃v49,ae h46 (adr a47 ((IntKind.wrap .i64 (t45-1)).toNat*3)) 1 (.string v49)∧
 ∃v50,ae h46 (adr a47 ((IntKind.wrap .i64 (t45-1)).toNat*3)) 2 (.int .u64 v50)∧
 (bS t45 x0.len∧∃a51,x0.a=some a51∧
 ∃v52,ae h46 (adr a51 (t45.toNat*3)) 0 (.string v52)∧
 ∃v53,ae h46 (adr a51 (t45.toNat*3)) 1 (.string v53)∧
 ∃v54,ae h46 (adr a51 (t45.toNat*3)) 2 (.int .u64 v54)∧
 (bS t45 x0.len∧∃a55,x0.a=some a55∧
 (dq h46 (some (adr a55 (t45.toNat*3))) 0 [.string v48,.string v49,.int .u64 v50]∧
 At (aX h46 (adr a55 (t45.toNat*3)) 0 [.string v48,.string v49,.int .u64 v50]) (fun h56=>
 (bS (IntKind.wrap .i64 (t45-1)) x0.len∧∃a57,x0.a=some a57∧
 (dq h56 (some (adr a57 ((IntKind.wrap .i64 (t45-1)).toNat*3))) 0 [.string v52,.string v53,.int .u64 v54]∧
 At (aX h56 (adr a57 ((IntKind.wrap .i64 (t45-1)).toNat*3)) 0 [.string v52,.string v53,.int .u64 v54]) (fun h58=>
 I44 (IntKind.wrap .i64 (t45-1)) h58))))))))) (
 K () h46)) x2 h32)) (x1,x2) h0) (
 ((0:Int)≤(1:Int)∧
 Bd (db (IntKind.wrap .u64 (IntKind.wrap .i64 (x1+x3))) (2^(min (1:Int).toNat (IntKind.bits .u64))):Int) (fun n59=>
 Join (fun(t62:Int×Int) h63=>
 Bd (IntKind.wrap .i64 ((IntKind.wrap .i64 ((IntKind.wrap .i64 n59)+x2))-1):Int) (fun n64=>
 LoopP (fun I65 (t66:Int×Int) h67=>
 CondP (decide (t66.1<t66.2)) (
 ((0:Int)≤(1:Int)∧
 Bd (db (IntKind.wrap .u64 (IntKind.wrap .i64 (t66.1+t66.2))) (2^(min (1:Int).toNat (IntKind.bits .u64))):Int) (fun n68=>
 (bS (IntKind.wrap .i64 (n64-(IntKind.wrap .i64 n68))) x0.len∧∃a69,x0.a=some a69∧
 ∃v70,ae h67 (adr a69 ((IntKind.wrap .i64 (n64-(IntKind.wrap .i64 n68))).toNat*3)) 0 (.string v70)∧
 ∃v71,ae h67 (adr a69 ((IntKind.wrap .i64 (n64-(IntKind.wrap .i64 n68))).toNat*3)) 1 (.string v71)∧
 ∃v72,ae h67 (adr a69 ((IntKind.wrap .i64 (n64-(IntKind.wrap .i64 n68))).toNat*3)) 2 (.int .u64 v72)∧
 (bS (IntKind.wrap .i64 n68) x0.len∧∃a73,x0.a=some a73∧
 ∃v74,ae h67 (adr a73 ((IntKind.wrap .i64 n68).toNat*3)) 0 (.string v74)∧
 ∃v75,ae h67 (adr a73 ((IntKind.wrap .i64 n68).toNat*3)) 1 (.string v75)∧
 ∃v76,ae h67 (adr a73 ((IntKind.wrap .i64 n68).toNat*3)) 2 (.int .u64 v76)∧
 HV PG x4 [.agg #[.string v70,.string v71,.int .u64 v72],.agg #[.string v74,.string v75,.int .u64 v76]] [.c (.int .i64)] (fun(e77:Int) h78=>
 CondP (!(decide (e77<(0:Int)))) (
 I65 (IntKind.wrap .i64 ((IntKind.wrap .i64 n68)+1),t66.2) h78) (
 I65 (t66.1,IntKind.wrap .i64 n68) h78)) h67))))) (
 Bd (IntKind.wrap .i64 ((IntKind.wrap .i64 ((IntKind.wrap .i64 n59)+x2))-t66.1):Int) (fun n79=>
 Join (fun(t86:Unit) h87=>
 Join (fun(t94:Unit) h95=>
 Join (fun(t97:Bool) h98=>
 CondP t97 (
 HC PG cr [.slice x0.a x0.len x0.cap,.int .i64 (IntKind.wrap .i64 n59),.int .i64 n79,.int .i64 x3,x4] [] (fun(e99:Unit) h100=>
 K () h100) h98) (
 K () h98)) (fun J96=>
 CondP (decide ((IntKind.wrap .i64 n59)<n79)) (
 J96 (decide (n79<x3)) h95) (
 J96 false h95))) (fun J88=>
 Join (fun(t90:Bool) h91=>
 CondP t90 (
 HC PG cr [.slice x0.a x0.len x0.cap,.int .i64 x1,.int .i64 t66.1,.int .i64 (IntKind.wrap .i64 n59),x4] [] (fun(e92:Unit) h93=>
 J88 () h93) h91) (
 J88 () h91)) (fun J89=>
 CondP (decide (x1<t66.1)) (
 J89 (decide (t66.1<(IntKind.wrap .i64 n59))) h87) (
 J89 false h87)))) (fun J80=>
 Join (fun(t82:Bool) h83=>
 CondP t82 (
 HC PG fM [.slice x0.a x0.len x0.cap,.int .i64 t66.1,.int .i64 x2,.int .i64 n79,x4] [] (fun(e84:Unit) h85=>
 J80 () h85) h83) (
 J80 () h83)) (fun J81=>
 CondP (decide (t66.1<x2)) (
 J81 (decide (x2<n79)) h67) (
 J81 false h67)))))) (t62.1,t62.2) h63)) (fun J60=>
 CondP (decide (x2>(IntKind.wrap .i64 n59))) (
 Bd (IntKind.wrap .i64 ((IntKind.wrap .i64 ((IntKind.wrap .i64 n59)+x2))-x3):Int) (fun n61=>
 J60 (n61,IntKind.wrap .i64 n59) h0)) (
 J60 (x1,x2) h0))))))
noncomputable def nM:Ann:=.node (.node .nil (.node (.node .nil (.node .nil (.node (.loop [(10,.c (.int .i64)),(11,.c (.int .i64))] .nil) (.node (.node .nil (.loop [(13,.c (.int .i64))] .nil)) .nil)))) .nil)) (.node (.node .nil (.node (.node .nil (.node .nil (.node (.loop [(14,.c (.int .i64)),(15,.c (.int .i64))] .nil) (.node (.node .nil (.loop [(17,.c (.int .i64))] .nil)) .nil)))) .nil)) (.node .nil (.node .nil (.node .nil (.join [(20,.c (.int .i64)),(21,.c (.int .i64))] .nil (.node .nil (.node (.loop [(20,.c (.int .i64)),(21,.c (.int .i64))] .nil) (.node .nil (.join [] (.join [(185,.c .bool)] .nil .nil) (.join [] (.join [(199,.c .bool)] .nil .nil) (.join [(213,.c .bool)] .nil .nil)))))))))))
theorem nH(x0:SliceV)(x1:Int)(x2:Int)(x3:Int)(x4:Value){K:cD []→af→Prop}{h0:af}(h:iI x0 x1 x2 x3 x4 K h0):HC PG cr [.slice x0.a x0.len x0.cap,.int .i64 x1,.int .i64 x2,.int .i64 x3,x4] [] K h0:=HC.intro (an:=nM) (c:=Tryz.f223.body.getD .skip) Tryz.mixed Tryz.func223 rfl Tryz.call223 (ad rfl) (cT (by kernel_rfl) h)
def iM(x0:SliceV)(x1:Int)(x2:Int)(K:(SliceV)→af→Prop)(h0:af):Prop:=
 (((0:Int)≤(x0.len:Int)∧(x0.len:Int)≤((x0.cap:Nat):Int))∧
 (((0:Int)≤x2∧x2≤(((x0.len:Int).toNat:Nat):Int))∧
 (((0:Int)≤x1∧x1≤((x2.toNat:Nat):Int))∧
 CondP (x1==x2) (
 K x0 h0) (
 Join (fun(t5:SliceV) h6=>
 (((0:Int)≤(x0.len:Int)∧(x0.len:Int)≤((t5.cap:Nat):Int))∧
 (((0:Int)≤(t5.len:Int)∧(t5.len:Int)≤(((x0.len:Int).toNat:Nat):Int))∧
 Bd (aM t5.a ((t5.len:Int).toNat) t5.cap 2:Option Addr) (fun a7=>Bd (((x0.len:Int).toNat)-((t5.len:Int).toNat):Nat) (fun n8=>Bd (t5.cap-((t5.len:Int).toNat):Nat) (fun n9=>
 (dq h6 a7 0 (dD n8 [.string (⟨#[]⟩:ByteArray),.string (⟨#[]⟩:ByteArray)])∧
 At (fY h6 a7 0 (dD n8 [.string (⟨#[]⟩:ByteArray),.string (⟨#[]⟩:ByteArray)])) (fun h10=>
 K t5 h10)))))))) (fun J1=>
 (((0:Int)≤x1∧x1≤((x0.cap:Nat):Int))∧
 (((0:Int)≤x2∧x2≤((x0.len:Nat):Int))∧
 ∃xs2,SRow h0 (aM x0.a x2.toNat x0.cap 2) ((x0.len-x2.toNat)*2) xs2∧
 AppP (some [.string (⟨#[]⟩:ByteArray),.string (⟨#[]⟩:ByteArray)]) 2 32 al (aM x0.a 0 x0.cap 2) (x1.toNat-0) (x0.cap-0) (x0.len-x2.toNat) xs2 h0 (fun s3 h4=>
 J1 s3 h4))))))))
noncomputable def nQ:Ann:=.node .nil (.node .nil (.node .nil (.node .nil (.join [(0,.c .slice)] .nil .nil))))
theorem nK(x0:SliceV)(x1:Int)(x2:Int){K:cD [.c .slice]→af→Prop}{h0:af}(h:iM x0 x1 x2 K h0):HC PG fi [.slice x0.a x0.len x0.cap,.int .i64 x1,.int .i64 x2] [.c .slice] K h0:=HC.intro (an:=nQ) (c:=Tryz.f224.body.getD .skip) Tryz.mixed Tryz.func224 rfl Tryz.call224 (ad rfl) (cT (by kernel_rfl) h)
def gO(x0:SliceV)(x1:Int)(x2:Int)(K:(SliceV)→af→Prop)(h0:af):Prop:=
 (((0:Int)≤(x0.len:Int)∧(x0.len:Int)≤((x0.cap:Nat):Int))∧
 (((0:Int)≤x2∧x2≤(((x0.len:Int).toNat:Nat):Int))∧
 (((0:Int)≤x1∧x1≤((x2.toNat:Nat):Int))∧
 CondP (x1==x2) (
 K x0 h0) (
 Join (fun(t5:SliceV) h6=>
 (((0:Int)≤(x0.len:Int)∧(x0.len:Int)≤((t5.cap:Nat):Int))∧
 (((0:Int)≤(t5.len:Int)∧(t5.len:Int)≤(((x0.len:Int).toNat:Nat):Int))∧
 Bd (aM t5.a ((t5.len:Int).toNat) t5.cap 1:Option Addr) (fun a7=>Bd (((x0.len:Int).toNat)-((t5.len:Int).toNat):Nat) (fun n8=>Bd (t5.cap-((t5.len:Int).toNat):Nat) (fun n9=>
 (dq h6 a7 0 (dD n8 [.pointer none])∧
 At (fY h6 a7 0 (dD n8 [.pointer none])) (fun h10=>
 K t5 h10)))))))) (fun J1=>
 (((0:Int)≤x1∧x1≤((x0.cap:Nat):Int))∧
 (((0:Int)≤x2∧x2≤((x0.len:Nat):Int))∧
 ∃xs2,SRow h0 (aM x0.a x2.toNat x0.cap 1) ((x0.len-x2.toNat)*1) xs2∧
 AppP (some [.pointer none]) 1 8 bO (aM x0.a 0 x0.cap 1) (x1.toNat-0) (x0.cap-0) (x0.len-x2.toNat) xs2 h0 (fun s3 h4=>
 J1 s3 h4))))))))
noncomputable def l0:Ann:=.node .nil (.node .nil (.node .nil (.node .nil (.join [(0,.c .slice)] .nil .nil))))
theorem lW(x0:SliceV)(x1:Int)(x2:Int){K:cD [.c .slice]→af→Prop}{h0:af}(h:gO x0 x1 x2 K h0):HC PG eE [.slice x0.a x0.len x0.cap,.int .i64 x1,.int .i64 x2] [.c .slice] K h0:=HC.intro (an:=l0) (c:=Tryz.f225.body.getD .skip) Tryz.mixed Tryz.func225 rfl Tryz.call225 (ad rfl) (cT (by kernel_rfl) h)
def rH(x0:Int)(x1:Int)(K:(Int)→af→Prop)(h0:af):Prop:=
 HC PG oA [.int .i64 x1] [.c .bool] (fun(e1:Bool) h2=>
 CondP (!e1) (
 K x0 h2) (
 ((0:Int)≤x1∧
 Bd (IntKind.wrap .u32 (aw (IntKind.bits .u32) x0&&& ~~~aw (IntKind.bits .u32) (IntKind.wrap .u32 (1*2^(min (x1:Int).toNat (IntKind.bits .u32))))).toNat:Int) (fun n3=>
 K n3 h2)))) h0
noncomputable def yj:Ann:=.nil
theorem xY(x0:Int)(x1:Int){K:cD [.c (.int .u32)]→af→Prop}{h0:af}(h:rH x0 x1 K h0):HC PG jT [.int .u32 x0,.int .i64 x1] [.c (.int .u32)] K h0:=HC.intro (an:=yj) (c:=Tryz.f226.body.getD .skip) Tryz.mixed Tryz.func226 rfl Tryz.call226 (ad rfl) (cT (by kernel_rfl) h)
def jW(x0:SliceV)(x1:Int)(x2:Int)(x3:Int)(x4:Value)(K:(Unit)→af→Prop)(h0:af):Prop:=
 LoopP (fun I1 (t2:Int×Int) h3=>
 CondP (t2.1 !=t2.2) (
 CondP (decide (t2.1>t2.2)) (
 HC PG cY [.slice x0.a x0.len x0.cap,.int .i64 (IntKind.wrap .i64 (x2-t2.1)),.int .i64 x2,.int .i64 t2.2,x4] [] (fun(e4:Unit) h5=>
 I1 (IntKind.wrap .i64 (t2.1-t2.2),t2.2) h5) h3) (
 HC PG cY [.slice x0.a x0.len x0.cap,.int .i64 (IntKind.wrap .i64 (x2-t2.1)),.int .i64 (IntKind.wrap .i64 ((IntKind.wrap .i64 (x2+t2.2))-t2.1)),.int .i64 t2.1,x4] [] (fun(e6:Unit) h7=>
 I1 (t2.1,IntKind.wrap .i64 (t2.2-t2.1)) h7) h3)) (
 HC PG cY [.slice x0.a x0.len x0.cap,.int .i64 (IntKind.wrap .i64 (x2-t2.1)),.int .i64 x2,.int .i64 t2.1,x4] [] (fun(e8:Unit) h9=>
 K () h9) h3)) (IntKind.wrap .i64 (x2-x1),IntKind.wrap .i64 (x3-x2)) h0
noncomputable def qf:Ann:=.node .nil (.node .nil (.node (.loop [(10,.c (.int .i64)),(11,.c (.int .i64))] .nil) .nil))
theorem p9(x0:SliceV)(x1:Int)(x2:Int)(x3:Int)(x4:Value){K:cD []→af→Prop}{h0:af}(h:jW x0 x1 x2 x3 x4 K h0):HC PG gk [.slice x0.a x0.len x0.cap,.int .i64 x1,.int .i64 x2,.int .i64 x3,x4] [] K h0:=HC.intro (an:=qf) (c:=Tryz.f234.body.getD .skip) Tryz.mixed Tryz.func234 rfl Tryz.call234 (ad rfl) (cT (by kernel_rfl) h)
def jk(x0:SliceV)(x1:Int)(K:(SliceV)→af→Prop)(h0:af):Prop:=
 Join (fun(t2:Unit) h3=>
 Bd (IntKind.wrap .i64 (x1-(IntKind.wrap .i64 ((x0.cap:Int)-(x0.len:Int)))):Int) (fun n4=>
 CondP (decide (n4>(0:Int))) (
 (((0:Int)≤(x0.cap:Int)∧(x0.cap:Int)≤((x0.cap:Nat):Int))∧
 (((0:Int)≤n4∧n4*((32:Nat):Int)≤2^48∧n4≤9223372036854775807∧(((((x0.cap:Int).toNat)-0)+n4.toNat:Nat):Int)≤9223372036854775807)∧
 AppP (some [.string (⟨#[]⟩:ByteArray),.string (⟨#[]⟩:ByteArray)]) 2 32 al (aM x0.a 0 x0.cap 2) (((x0.cap:Int).toNat)-0) (x0.cap-0) n4.toNat (dD n4.toNat [.string (⟨#[]⟩:ByteArray),.string (⟨#[]⟩:ByteArray)]) h3 (fun s5 h6=>
 (((0:Int)≤(x0.len:Int)∧(x0.len:Int)≤((s5.cap:Nat):Int))∧
 K ⟨aM s5.a 0 s5.cap 2,((x0.len:Int).toNat)-0,s5.cap-0⟩ h6))))) (
 K x0 h3))) (fun J1=>
 CondP (decide (x1<(0:Int))) (
 False) (
 J1 () h0))
noncomputable def oO:Ann:=.node .nil (.join [] .nil .nil)
theorem oI(x0:SliceV)(x1:Int){K:cD [.c .slice]→af→Prop}{h0:af}(h:jk x0 x1 K h0):HC PG fN [.slice x0.a x0.len x0.cap,.int .i64 x1] [.c .slice] K h0:=HC.intro (an:=oO) (c:=Tryz.f235.body.getD .skip) Tryz.mixed Tryz.func235 rfl Tryz.call235 (ad rfl) (cT (by kernel_rfl) h)
def jj(x0:SliceV)(x1:Int)(x2:Int)(x3:Int)(x4:Value)(K:(Unit)→af→Prop)(h0:af):Prop:=
 LoopP (fun I1 (t2:Int×Int) h3=>
 CondP (t2.1 !=t2.2) (
 CondP (decide (t2.1>t2.2)) (
 HC PG cN [.slice x0.a x0.len x0.cap,.int .i64 (IntKind.wrap .i64 (x2-t2.1)),.int .i64 x2,.int .i64 t2.2,x4] [] (fun(e4:Unit) h5=>
 I1 (IntKind.wrap .i64 (t2.1-t2.2),t2.2) h5) h3) (
 HC PG cN [.slice x0.a x0.len x0.cap,.int .i64 (IntKind.wrap .i64 (x2-t2.1)),.int .i64 (IntKind.wrap .i64 ((IntKind.wrap .i64 (x2+t2.2))-t2.1)),.int .i64 t2.1,x4] [] (fun(e6:Unit) h7=>
 I1 (t2.1,IntKind.wrap .i64 (t2.2-t2.1)) h7) h3)) (
 HC PG cN [.slice x0.a x0.len x0.cap,.int .i64 (IntKind.wrap .i64 (x2-t2.1)),.int .i64 x2,.int .i64 t2.1,x4] [] (fun(e8:Unit) h9=>
 K () h9) h3)) (IntKind.wrap .i64 (x2-x1),IntKind.wrap .i64 (x3-x2)) h0
noncomputable def oM:Ann:=.node .nil (.node .nil (.node (.loop [(10,.c (.int .i64)),(11,.c (.int .i64))] .nil) .nil))
theorem oH(x0:SliceV)(x1:Int)(x2:Int)(x3:Int)(x4:Value){K:cD []→af→Prop}{h0:af}(h:jj x0 x1 x2 x3 x4 K h0):HC PG fM [.slice x0.a x0.len x0.cap,.int .i64 x1,.int .i64 x2,.int .i64 x3,x4] [] K h0:=HC.intro (an:=oM) (c:=Tryz.f236.body.getD .skip) Tryz.mixed Tryz.func236 rfl Tryz.call236 (ad rfl) (cT (by kernel_rfl) h)
def jh(x0:SliceV)(x1:Int)(x2:Int)(x3:Int)(x4:Value)(K:(Unit)→af→Prop)(h0:af):Prop:=
 LoopP (fun I1 (t2:Int) h3=>
 CondP (decide (t2<x3)) (
 (bS (IntKind.wrap .i64 (x2+t2)) x0.len∧∃a4,x0.a=some a4∧
 ∃v5,ae h3 (adr a4 ((IntKind.wrap .i64 (x2+t2)).toNat*2)) 0 (.string v5)∧
 ∃v6,ae h3 (adr a4 ((IntKind.wrap .i64 (x2+t2)).toNat*2)) 1 (.string v6)∧
 (bS (IntKind.wrap .i64 (x1+t2)) x0.len∧∃a7,x0.a=some a7∧
 ∃v8,ae h3 (adr a7 ((IntKind.wrap .i64 (x1+t2)).toNat*2)) 0 (.string v8)∧
 ∃v9,ae h3 (adr a7 ((IntKind.wrap .i64 (x1+t2)).toNat*2)) 1 (.string v9)∧
 (bS (IntKind.wrap .i64 (x1+t2)) x0.len∧∃a10,x0.a=some a10∧
 (dq h3 (some (adr a10 ((IntKind.wrap .i64 (x1+t2)).toNat*2))) 0 [.string v5,.string v6]∧
 At (aX h3 (adr a10 ((IntKind.wrap .i64 (x1+t2)).toNat*2)) 0 [.string v5,.string v6]) (fun h11=>
 (bS (IntKind.wrap .i64 (x2+t2)) x0.len∧∃a12,x0.a=some a12∧
 (dq h11 (some (adr a12 ((IntKind.wrap .i64 (x2+t2)).toNat*2))) 0 [.string v8,.string v9]∧
 At (aX h11 (adr a12 ((IntKind.wrap .i64 (x2+t2)).toNat*2)) 0 [.string v8,.string v9]) (fun h13=>
 I1 (IntKind.wrap .i64 (t2+1)) h13))))))))) (
 K () h3)) 0 h0
noncomputable def oK:Ann:=.node .nil (.loop [(10,.c (.int .i64))] .nil)
theorem oF(x0:SliceV)(x1:Int)(x2:Int)(x3:Int)(x4:Value){K:cD []→af→Prop}{h0:af}(h:jh x0 x1 x2 x3 x4 K h0):HC PG cY [.slice x0.a x0.len x0.cap,.int .i64 x1,.int .i64 x2,.int .i64 x3,x4] [] K h0:=HC.intro (an:=oK) (c:=Tryz.f240.body.getD .skip) Tryz.mixed Tryz.func240 rfl Tryz.call240 (ad rfl) (cT (by kernel_rfl) h)
def iz(x0:SliceV)(x1:Int)(x2:Int)(x3:Int)(x4:Value)(K:(Unit)→af→Prop)(h0:af):Prop:=
 LoopP (fun I1 (t2:Int) h3=>
 CondP (decide (t2<x3)) (
 (bS (IntKind.wrap .i64 (x2+t2)) x0.len∧∃a4,x0.a=some a4∧
 ∃v5,ae h3 (adr a4 ((IntKind.wrap .i64 (x2+t2)).toNat*3)) 0 (.string v5)∧
 ∃v6,ae h3 (adr a4 ((IntKind.wrap .i64 (x2+t2)).toNat*3)) 1 (.string v6)∧
 ∃v7,ae h3 (adr a4 ((IntKind.wrap .i64 (x2+t2)).toNat*3)) 2 (.int .u64 v7)∧
 (bS (IntKind.wrap .i64 (x1+t2)) x0.len∧∃a8,x0.a=some a8∧
 ∃v9,ae h3 (adr a8 ((IntKind.wrap .i64 (x1+t2)).toNat*3)) 0 (.string v9)∧
 ∃v10,ae h3 (adr a8 ((IntKind.wrap .i64 (x1+t2)).toNat*3)) 1 (.string v10)∧
 ∃v11,ae h3 (adr a8 ((IntKind.wrap .i64 (x1+t2)).toNat*3)) 2 (.int .u64 v11)∧
 (bS (IntKind.wrap .i64 (x1+t2)) x0.len∧∃a12,x0.a=some a12∧
 (dq h3 (some (adr a12 ((IntKind.wrap .i64 (x1+t2)).toNat*3))) 0 [.string v5,.string v6,.int .u64 v7]∧
 At (aX h3 (adr a12 ((IntKind.wrap .i64 (x1+t2)).toNat*3)) 0 [.string v5,.string v6,.int .u64 v7]) (fun h13=>
 (bS (IntKind.wrap .i64 (x2+t2)) x0.len∧∃a14,x0.a=some a14∧
 (dq h13 (some (adr a14 ((IntKind.wrap .i64 (x2+t2)).toNat*3))) 0 [.string v9,.string v10,.int .u64 v11]∧
 At (aX h13 (adr a14 ((IntKind.wrap .i64 (x2+t2)).toNat*3)) 0 [.string v9,.string v10,.int .u64 v11]) (fun h15=>
 I1 (IntKind.wrap .i64 (t2+1)) h15))))))))) (
 K () h3)) 0 h0
noncomputable def na:Ann:=.node .nil (.loop [(10,.c (.int .i64))] .nil)
theorem m8(x0:SliceV)(x1:Int)(x2:Int)(x3:Int)(x4:Value){K:cD []→af→Prop}{h0:af}(h:iz x0 x1 x2 x3 x4 K h0):HC PG cN [.slice x0.a x0.len x0.cap,.int .i64 x1,.int .i64 x2,.int .i64 x3,x4] [] K h0:=HC.intro (an:=na) (c:=Tryz.f241.body.getD .skip) Tryz.mixed Tryz.func241 rfl Tryz.call241 (ad rfl) (cT (by kernel_rfl) h)
end Go.Proofs
