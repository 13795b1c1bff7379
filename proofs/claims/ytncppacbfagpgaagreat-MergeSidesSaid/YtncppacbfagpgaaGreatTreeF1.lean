/- A part of the proof that the named laws of this program answer true, whatever the input. -/
import Derived.Test.YtncppacbfagpgaaGreatTreeF
set_option maxRecDepth 100000
set_option linter.unusedVariables false
open BitVec renaming ofInt→ar
open Int renaming tmod→jz,tdiv→np,fdiv→dM
namespace Go.Proofs
open Go.Lift
def uC(x0:T6)(K:(Option Addr)→ad→Prop)(h0:ad):Prop:=
 At (hnew h0 (mK x0) aH) (fun h1=>
 Join (fun(t5:Bool) h6=>
 CondP t5 (
 HC PG oF [] [.c .ptr] (fun(e7:Option Addr) h8=>
 K e7 h8) h6) (
 ∃v9,au h6 h0 4 v9∧
 K v9 h6)) (fun J2=>
 ∃v3,aM h1 h0 0 v3∧
 CondP (v3==(0:Int)) (
 ∃v4,au h1 h0 4 v4∧
 J2 v4.isNone h1) (
 J2 false h1)))
noncomputable def BI:Ann:=.node .nil (.node (.join [(10,.c .bool)] .nil .nil) .nil)
theorem Bb(x0:T6){K:cN [.c .ptr]→ad→Prop}{h0:ad}(h:uC x0 K h0):HC PG jO [Gs x0] [.c .ptr] K h0:=dB BI Tryz.func38 Tryz.call38 rfl rfl (by kernel_rfl) h
def eg(x0:SliceV)(x1:Value)(K:(Unit)→ad→Prop)(h0:ad):Prop:=
 HC PG oX [.int .u64 (IntKind.wrap .u64 (x0.len:Int))] bT (fun(e1:Int) h2=>
 HC PG dh [.slice x0.a x0.len x0.cap,.int .i64 0,.int .i64 (x0.len:Int),.int .i64 e1,x1] [] (fun(e3:Unit) h4=>
 K () h4) h2) h0
theorem gr(x0:SliceV)(x1:Value){K:cN []→ad→Prop}{h0:ad}(h:eg x0 x1 K h0):HC PG cz [.slice x0.a x0.len x0.cap,x1] [] K h0:=dB .nil Tryz.func39 Tryz.call39 rfl rfl (by kernel_rfl) h
def DT(x0:ByteArray×ByteArray×ByteArray×Bool×Bool)(x1:ByteArray×ByteArray×ByteArray×Bool×Bool)(K:(Int)→ad→Prop)(h0:ad):Prop:=
 At (hnew h0 (UB x0) bQ) (fun h1=>
 At (hnew h1 (UB x1) bQ) (fun h2=>
 ∃v3,av h2 h0 0 v3∧
 ∃v4,av h2 h1 0 v4∧
 HC PG mw (jG v3 v4) bT (fun(e5:Int) h6=>
 K e5 h6) h2))
theorem LN(x0:ByteArray×ByteArray×ByteArray×Bool×Bool)(x1:ByteArray×ByteArray×ByteArray×Bool×Bool){K:cN bT→ad→Prop}{h0:ad}(h:DT x0 x1 K h0):HC PG nh [Vo x0,Vo x1] bT K h0:=dB .nil Tryz.func40 Tryz.call40 rfl rfl (by kernel_rfl) h
def uO(x0:ByteArray)(x1:ByteArray)(K:(Int)→ad→Prop)(h0:ad):Prop:=
 HC PG oY [.string x0] [.c .bool] (fun(e1:Bool) h2=>
 HC PG oY [.string x1] [.c .bool] (fun(e3:Bool) h4=>
 CondP e1 (
 CondP e3 (
 K 0 h4) (
 K (-1) h4)) (
 CondP e3 (
 K 1 h4) (
 CondP (Op.bytesLess x0.toList x1.toList) (
 K (-1) h4) (
 CondP (!(Op.bytesLess x0.toList x1.toList||x0.toList==x1.toList)) (
 K 1 h4) (
 K 0 h4))))) h2) h0
theorem Bp(x0:ByteArray)(x1:ByteArray){K:cN bT→ad→Prop}{h0:ad}(h:uO x0 x1 K h0):HC PG mw (jG x0 x1) bT K h0:=dB .nil Tryz.func41 Tryz.call41 rfl rfl (by kernel_rfl) h
def H9(x0:SliceV)(x1:ByteArray×ByteArray)(K:(SliceV)→ad→Prop)(h0:ad):Prop:=
 At (hnew h0 (vo x1) dV) (fun h1=>
 ∃v2,av h1 h0 0 v2∧
 HC PG wL (qQ x0 v2) [.c .slice] (fun(e3:SliceV) h4=>
 LoopP (fun I5 (t6:SliceV×Bool×Int) h7=>
 CondP (decide (t6.2.2<(e3.len:Int))) (
 Join (fun(t36:SliceV×Bool) h37=>
 I5 (t36.1,t36.2,IntKind.wrap .i64 (t6.2.2+1)) h37) (fun J8=>
 (bZ t6.2.2 e3.len∧∃a9,e3.a=some a9∧
 ∃v10,ay h7 (adr a9 (t6.2.2.toNat*2)) 0 v10∧
 ∃v11,ay h7 (adr a9 (t6.2.2.toNat*2)) 1 v11∧
 nv h7 oT dV (jG v10 v11) (fun h13=>
 Join (fun(t28:SliceV×Bool) h29=>
 ∃v30,av h29 h7 0 v30∧
 ∃v31,av h29 h7 1 v31∧
 At (hnew h29 (jG v30 v31) dV) (fun h32=>
 ∃xs33,SRow h32 (some (aj h29)) (1*2) xs33∧
 AppP (some oT) 2 32 dV t28.1.a t28.1.len t28.1.cap 1 xs33 h32 (fun s34 h35=>
 J8 (s34,t28.2) h35))) (fun J14=>
 Join (fun(t20:Bool) h21=>
 CondP t20 (
 ∃v22,av h21 h0 0 v22∧
 ∃v23,av h21 h0 1 v23∧
 At (hnew h21 (jG v22 v23) dV) (fun h24=>
 ∃xs25,SRow h24 (some (aj h21)) (1*2) xs25∧
 AppP (some oT) 2 32 dV t6.1.a t6.1.len t6.1.cap 1 xs25 h24 (fun s26 h27=>
 J14 (s26,true) h27))) (
 J14 (t6.1,t6.2.1) h21)) (fun J15=>
 CondP (!t6.2.1) (
 ∃v16,av h13 h0 0 v16∧
 ∃v17,av h13 h7 0 v17∧
 HC PG wK (jG v16 v17) [.c .bool] (fun(e18:Bool) h19=>
 J15 e18 h19) h13) (
 J15 false h13))))))) (
 CondP (!t6.2.1) (
 ∃v38,av h7 h0 0 v38∧
 ∃v39,av h7 h0 1 v39∧
 At (hnew h7 (jG v38 v39) dV) (fun h40=>
 ∃xs41,SRow h40 (some (aj h7)) (1*2) xs41∧
 AppP (some oT) 2 32 dV t6.1.a t6.1.len t6.1.cap 1 xs41 h40 (fun s42 h43=>
 K s42 h43))) (
 K t6.1 h7))) (⟨none,0,0⟩,false,0) h4) h1)
noncomputable def Qo:Ann:=.node .nil (.node .nil (.node .nil (.node (.node .nil (.loop [(5,.c .slice),(6,.c .bool),(14,.c (.int .i64))] (.node .nil (.node .nil (.join [(5,.c .slice),(6,.c .bool)] (.node .nil (.join [(5,.c .slice),(6,.c .bool)] (.join [(26,.c .bool)] .nil .nil) .nil)) .nil))))) .nil)))
theorem Qi(x0:SliceV)(x1:ByteArray×ByteArray){K:cN [.c .slice]→ad→Prop}{h0:ad}(h:H9 x0 x1 K h0):HC PG Cn [.slice x0.a x0.len x0.cap,OD x1] [.c .slice] K h0:=dB Qo Tryz.func46 Tryz.call46 rfl rfl (by kernel_rfl) h
def zh(x0:SliceV)(x1:SliceV)(K:(Bool)→ad→Prop)(h0:ad):Prop:=
 ∃s1,SRow h0 x0.a x0.len (eo s1)∧
 ∃s2,SRow h0 x1.a x1.len (eo s2)∧
 K (s1.toList==s2.toList) h0
theorem GU(x0:SliceV)(x1:SliceV){K:cN [.c .bool]→ad→Prop}{h0:ad}(h:zh x0 x1 K h0):HC PG u4 (QF x0 x1) [.c .bool] K h0:=dB .nil Tryz.func51 Tryz.call51 rfl rfl (by kernel_rfl) h
def uz(x0:T6)(K:(SliceV)→ad→Prop)(h0:ad):Prop:=
 At (hnew h0 (mK x0) aH) (fun h1=>
 ∃v2,aM h1 h0 0 v2∧
 CondP (v2==(1:Int)) (
 At (hnew h1 [.int .u8 1] fh) (fun h3=>
 ∃v4,au h3 h0 5 v4∧
 HC PG uY [.pointer v4] [.c .slice] (fun(e5:SliceV) h6=>
 ∃xs7,SRow h6 e5.a (e5.len*1) xs7∧
 AppP (some [.int .u8 0]) 1 1 fh (some (aj h1)) 1 1 e5.len xs7 h6 (fun s8 h9=>
 K s8 h9)) h3)) (
 At (hnew h1 [.int .u8 0] fh) (fun h10=>
 ∃v11,aM h10 h0 0 v11∧
 ∃v12,ae h10 h0 1 v12∧
 ∃v13,ae h10 h0 2 v13∧
 ∃v14,ae h10 h0 3 v14∧
 ∃v15,au h10 h0 4 v15∧
 ∃v16,au h10 h0 5 v16∧
 HC PG jO [kU v11 v12 v13 v14 v15 v16] [.c .ptr] (fun(e17:Option Addr) h18=>
 HC PG zK [.pointer e17] [.c .slice] (fun(e19:SliceV) h20=>
 ∃xs21,SRow h20 e19.a (e19.len*1) xs21∧
 AppP (some [.int .u8 0]) 1 1 fh (some (aj h1)) 1 1 e19.len xs21 h20 (fun s22 h23=>
 K s22 h23)) h18) h10)))
theorem A8(x0:T6){K:cN [.c .slice]→ad→Prop}{h0:ad}(h:uz x0 K h0):HC PG mp [Gs x0] [.c .slice] K h0:=dB .nil Tryz.func52 Tryz.call52 rfl rfl (by kernel_rfl) h
def DI(x0:Option Addr)(x1:ByteArray)(K:(ByteArray×Bool)→ad→Prop)(h0:ad):Prop:=
 HC PG qf [.pointer x0] [.c .ptr] (fun(e1:Option Addr) h2=>
 LoopP (fun I3 (t4:ByteArray×(Option Addr)) h5=>
 CondP (!(t4.1.toList==(⟨#[]⟩:ByteArray).toList)) (
 ∃b6,(0:Int)≤(0:Int)∧t4.1[(0:Int).toNat]? =some b6∧
 HC PG jQ (ED t4.2 (b6.toNat:Int)) iV (fun(e7:Int×Bool) h8=>
 CondP (!e7.2) (
 K ((⟨#[]⟩:ByteArray),false) h8) (
 ∃a9,t4.2=some a9∧
 ∃v10:SliceV,bW h8 a9 3 v10∧
 (bZ e7.1 v10.len∧∃a11,v10.a=some a11∧
 ∃v12,aL h8 a11 (e7.1.toNat*1) (.pointer v12)∧
 ∃a13,v12=some a13∧
 ∃v14,ay h8 a13 0 v14∧
 HC PG wG (jG t4.1 v14) lj (fun(e15:ByteArray×Bool) h16=>
 CondP (!e15.2) (
 K ((⟨#[]⟩:ByteArray),false) h16) (
 I3 (e15.1,v12) h16)) h8))) h5) (
 HC PG ik [.pointer t4.2] lj (fun(e17:ByteArray×Bool) h18=>
 K (e17.1,e17.2) h18) h5)) (x1,e1) h2) h0
noncomputable def LU:Ann:=.node .nil (.node .nil (.node (.loop [(1,.c .str),(6,.c .ptr)] .nil) .nil))
theorem LD(x0:Option Addr)(x1:ByteArray){K:cN lj→ad→Prop}{h0:ad}(h:DI x0 x1 K h0):HC PG xT (xx x0 x1) lj K h0:=dB LU Tryz.func53 Tryz.call53 rfl rfl (by kernel_rfl) h
def DW(x0:Int×Int×Int)(x1:Option Addr)(x2:ByteArray)(K:(ByteArray×Bool)→ad→Prop)(h0:ad):Prop:=
 At (hnew h0 (Dl x0) cy) (fun h1=>
 ∃v2,ae h1 h0 0 v2∧
 ∃v3,ae h1 h0 1 v3∧
 ∃v4,ae h1 h0 2 v4∧
 HC PG fG [zl v2 v3 v4,.string x2] gv (fun(e5:Int) h6=>
 HC PG lu [.pointer x1] [.c .ptr] (fun(e7:Option Addr) h8=>
 LoopP (fun I9 (t10:(Option Addr)×Int) h11=>
 HC PG dF [.pointer t10.1] [.c .bool] (fun(e12:Bool) h13=>
 CondP e12 (
 HC PG rh (xx t10.1 x2) lj (fun(e14:ByteArray×Bool) h15=>
 K (e14.1,e14.2) h15) h13) (
 HC PG lr (tc e5 t10.2) bT (fun(e16:Int) h17=>
 HC PG jl (kY t10.1 e16) qa (fun(e18:(ByteArray×ByteArray)×Bool) h19=>
 nv h19 oT af (vo e18.1) (fun h21=>
 CondP e18.2 (
 ∃v22,av h21 h19 0 v22∧
 CondP (!(v22.toList==x2.toList)) (
 K ((⟨#[]⟩:ByteArray),false) h21) (
 ∃v23,av h21 h19 1 v23∧
 K (v23,true) h21)) (
 HC PG gT (kY t10.1 e16) gf (fun(e24:(Option Addr)×Bool) h25=>
 CondP (!e24.2) (
 K ((⟨#[]⟩:ByteArray),false) h25) (
 I9 (e24.1,IntKind.wrap .i64 (t10.2+1)) h25)) h21))) h17) h13)) h11) (e7,0) h8) h6) h1)
noncomputable def LZ:Ann:=.node .nil (.node .nil (.node .nil (.loop [(9,.c .ptr),(10,.c (.int .i64))] .nil)))
theorem LP(x0:Int×Int×Int)(x1:Option Addr)(x2:ByteArray){K:cN lj→ad→Prop}{h0:ad}(h:DW x0 x1 x2 K h0):HC PG xZ [MQ x0,.pointer x1,.string x2] lj K h0:=dB LZ Tryz.func54 Tryz.call54 rfl rfl (by kernel_rfl) h
def uB(x0:T6)(K:(SliceV)→ad→Prop)(h0:ad):Prop:=
 At (hnew h0 (mK x0) aH) (fun h1=>
 ∃v2,aM h1 h0 0 v2∧
 CondP (v2==(1:Int)) (
 ∃v3,au h1 h0 5 v3∧
 HC PG Nm [] T7 (fun(e4:ByteArray×ByteArray×Bool) h5=>
 (au h5 h0 5 v3∧
 HC PG Jb [.pointer v3,Vn e4] [.c .slice] (fun(e6:SliceV) h7=>
 K e6 h7) h5)) h1) (
 ∃v8,au h1 h0 4 v8∧
 HC PG rA [.pointer v8] [.c .slice] (fun(e9:SliceV) h10=>
 K e9 h10) h1))
theorem Ba(x0:T6){K:cN [.c .slice]→ad→Prop}{h0:ad}(h:uB x0 K h0):HC PG qb [Gs x0] [.c .slice] K h0:=dB .nil Tryz.func55 Tryz.call55 rfl rfl (by kernel_rfl) h
def DQ(x0:Int)(x1:Int×Int×Int)(K:((T6)×(T5))→ad→Prop)(h0:ad):Prop:=
 At (hnew h0 (Dl x1) cy) (fun h1=>
 At (hnew h1 qK aH) (fun h2=>
 At (hnew h2 N7 fz) (fun h3=>
 ((2:Int)≠0∧
 ∃v4,ae h3 h0 0 v4∧
 ∃v5,ae h3 h0 1 v5∧
 ∃v6,ae h3 h0 2 v6∧
 HC PG wH [.int .i64 (IntKind.wrap .i64 (jz x0 2)),zl v4 v5 v6] tw (fun(e7:(T6)×Int) h8=>
 nv h8 qK aH (mK e7.1) (fun h10=>
 ((2:Int)≠0∧
 ∃v11,ae h10 h0 0 v11∧
 ∃v12,ae h10 h0 1 v12∧
 ∃v13,ae h10 h0 2 v13∧
 HC PG Cp [zl v11 v12 v13] KY (fun(e14:Int×Int×Int) h15=>
 HC PG Cm [.int .i64 (IntKind.wrap .i64 (jz x0 2)),MQ e14] xK (fun(e16:(T5)×Int) h17=>
 nv h17 N7 fz (Ky e16.1) (fun h19=>
 ∃v20,aM h19 h8 0 v20∧
 ∃v21,ae h19 h8 1 v21∧
 ∃v22,ae h19 h8 2 v22∧
 ∃v23,ae h19 h8 3 v23∧
 ∃v24,au h19 h8 4 v24∧
 ∃v25,au h19 h8 5 v25∧
 ∃v26,aM h19 h17 0 v26∧
 ∃v27,ae h19 h17 1 v27∧
 ∃v28,ae h19 h17 2 v28∧
 ∃v29,ae h19 h17 3 v29∧
 ∃v30:SliceV,c7 h19 h17 4 v30∧
 (cU h19 h1 (uc v20 v21 v22 v23 v24 v25) (fun h31=>
 ((aM h31 h17 0 v26∧ae h31 h17 1 v27∧ae h31 h17 2 v28∧ae h31 h17 3 v29∧c7 h31 h17 4 v30)∧
 (cU h31 h2 (QE v26 v27 v28 v29 v30) (fun h32=>
 ∃v33,aM h32 h1 0 v33∧
 ∃v34,ae h32 h1 1 v34∧
 ∃v35,ae h32 h1 2 v35∧
 ∃v36,ae h32 h1 3 v36∧
 ∃v37,au h32 h1 4 v37∧
 ∃v38,au h32 h1 5 v38∧
 ∃v39,aM h32 h2 0 v39∧
 ∃v40,ae h32 h2 1 v40∧
 ∃v41,ae h32 h2 2 v41∧
 ∃v42,ae h32 h2 3 v42∧
 ∃v43:SliceV,c7 h32 h2 4 v43∧
 K ((v33,v34,v35,v36,v37,v38),(v39,v40,v41,v42,v43)) h32))))))) h15) h10))) h3))))
theorem LK(x0:Int)(x1:Int×Int×Int){K:cN Fm→ad→Prop}{h0:ad}(h:DQ x0 x1 K h0):HC PG xW [.int .u8 x0,MQ x1] Fm K h0:=dB .nil Tryz.func56 Tryz.call56 rfl rfl (by kernel_rfl) h
def DP(x0:T6)(x1:T5)(x2:SliceV)(x3:SliceV)(K:((T6)×(T5))→ad→Prop)(h0:ad):Prop:=
 At (hnew h0 (mK x0) aH) (fun h1=>
 At (hnew h1 (Ky x1) fz) (fun h2=>
 At (hnew h2 qK aH) (fun h3=>
 At (hnew h3 N7 fz) (fun h4=>
 LoopP (fun I5 (t6:Int) h7=>
 CondP (decide (t6<(x2.len:Int))) (
 Join (fun(t43:Unit) h44=>
 I5 (IntKind.wrap .i64 (t6+1)) h44) (fun J8=>
 (bZ t6 x2.len∧∃a9,x2.a=some a9∧
 ∃v10,ay h7 (adr a9 (t6.toNat*2)) 0 v10∧
 ∃v11,ay h7 (adr a9 (t6.toNat*2)) 1 v11∧
 nv h7 oT af (jG v10 v11) (fun h13=>
 CondP (decide (t6<(20:Int))) (
 ∃v14,av h13 h7 0 v14∧
 ∃v15,av h13 h7 0 v15∧
 (((0:Int)≤(if 30<(v15.size:Int)then 30 else(v15.size:Int))∧(if 30<(v15.size:Int)then 30 else(v15.size:Int))≤((v14.size:Nat):Int))∧
 Bd (v14.extract 0 ((if 30<(v15.size:Int)then 30 else(v15.size:Int)).toNat):ByteArray) (fun s16=>
 ∃v17,av h13 h7 1 v17∧
 ∃v18,av h13 h7 1 v18∧
 (((0:Int)≤(if 30<(v18.size:Int)then 30 else(v18.size:Int))∧(if 30<(v18.size:Int)then 30 else(v18.size:Int))≤((v17.size:Nat):Int))∧
 Bd (v17.extract 0 ((if 30<(v18.size:Int)then 30 else(v18.size:Int)).toNat):ByteArray) (fun s19=>
 (dN h13 (adr (aj h7) 0) (.string s16) (fun h20=>
 (dN h20 (adr (aj h7) 1) (.string s19) (fun h21=>
 ∃v22,aM h21 h0 0 v22∧
 ∃v23,ae h21 h0 1 v23∧
 ∃v24,ae h21 h0 2 v24∧
 ∃v25,ae h21 h0 3 v25∧
 ∃v26,au h21 h0 4 v26∧
 ∃v27,au h21 h0 5 v27∧
 ∃v28,av h21 h7 0 v28∧
 ∃v29,av h21 h7 1 v29∧
 HC PG nA [kU v22 v23 v24 v25 v26 v27,.pointer none,qM v28 v29] tw (fun(e30:(T6)×Int) h31=>
 (cU h31 h0 (mK e30.1) (fun h32=>
 ∃v33,aM h32 h1 0 v33∧
 ∃v34,ae h32 h1 1 v34∧
 ∃v35,ae h32 h1 2 v35∧
 ∃v36,ae h32 h1 3 v36∧
 ∃v37:SliceV,c7 h32 h1 4 v37∧
 ∃v38,av h32 h7 0 v38∧
 ∃v39,av h32 h7 1 v39∧
 HC PG zM [SK v33 v34 v35 v36 v37,qM v38 v39] xK (fun(e40:(T5)×Int) h41=>
 (cU h41 h1 (Ky e40.1) (fun h42=>
 J8 () h42))) h32))) h21))))))))) (
 J8 () h13))))) (
 LoopP (fun I45 (t46:Int) h47=>
 CondP (decide (t46<(x3.len:Int))) (
 Join (fun(t69:Unit) h70=>
 I45 (IntKind.wrap .i64 (t46+1)) h70) (fun J48=>
 (bZ t46 x3.len∧∃a49,x3.a=some a49∧
 ∃v50,aL h47 a49 (t46.toNat*1) (.string v50)∧
 CondP (decide (t46<(15:Int))) (
 (((0:Int)≤(if 30<(v50.size:Int)then 30 else(v50.size:Int))∧(if 30<(v50.size:Int)then 30 else(v50.size:Int))≤((v50.size:Nat):Int))∧
 Bd (v50.extract 0 ((if 30<(v50.size:Int)then 30 else(v50.size:Int)).toNat):ByteArray) (fun s51=>
 ∃v52,aM h47 h0 0 v52∧
 ∃v53,ae h47 h0 1 v53∧
 ∃v54,ae h47 h0 2 v54∧
 ∃v55,ae h47 h0 3 v55∧
 ∃v56,au h47 h0 4 v56∧
 ∃v57,au h47 h0 5 v57∧
 HC PG km [kU v52 v53 v54 v55 v56 v57,.pointer none,.string s51] tw (fun(e58:(T6)×Int) h59=>
 (cU h59 h0 (mK e58.1) (fun h60=>
 ∃v61,aM h60 h1 0 v61∧
 ∃v62,ae h60 h1 1 v62∧
 ∃v63,ae h60 h1 2 v63∧
 ∃v64,ae h60 h1 3 v64∧
 ∃v65:SliceV,c7 h60 h1 4 v65∧
 HC PG uZ [SK v61 v62 v63 v64 v65,.string s51] xK (fun(e66:(T5)×Int) h67=>
 (cU h67 h1 (Ky e66.1) (fun h68=>
 J48 () h68))) h60))) h47))) (
 J48 () h47)))) (
 ∃v71,aM h47 h0 0 v71∧
 ∃v72,ae h47 h0 1 v72∧
 ∃v73,ae h47 h0 2 v73∧
 ∃v74,ae h47 h0 3 v74∧
 ∃v75,au h47 h0 4 v75∧
 ∃v76,au h47 h0 5 v76∧
 ∃v77,aM h47 h1 0 v77∧
 ∃v78,ae h47 h1 1 v78∧
 ∃v79,ae h47 h1 2 v79∧
 ∃v80,ae h47 h1 3 v80∧
 ∃v81:SliceV,c7 h47 h1 4 v81∧
 (cU h47 h2 (uc v71 v72 v73 v74 v75 v76) (fun h82=>
 ((aM h82 h1 0 v77∧ae h82 h1 1 v78∧ae h82 h1 2 v79∧ae h82 h1 3 v80∧c7 h82 h1 4 v81)∧
 (cU h82 h3 (QE v77 v78 v79 v80 v81) (fun h83=>
 ∃v84,aM h83 h2 0 v84∧
 ∃v85,ae h83 h2 1 v85∧
 ∃v86,ae h83 h2 2 v86∧
 ∃v87,ae h83 h2 3 v87∧
 ∃v88,au h83 h2 4 v88∧
 ∃v89,au h83 h2 5 v89∧
 ∃v90,aM h83 h3 0 v90∧
 ∃v91,ae h83 h3 1 v91∧
 ∃v92,ae h83 h3 2 v92∧
 ∃v93,ae h83 h3 3 v93∧
 ∃v94:SliceV,c7 h83 h3 4 v94∧
 K ((v84,v85,v86,v87,v88,v89),(v90,v91,v92,v93,v94)) h83))))))) 0 h7)) 0 h4))))
noncomputable def LW:Ann:=.node .nil (.node (.node .nil (.loop [(16,.c (.int .i64))] (.node .nil (.node .nil (.join [] .nil .nil))))) (.node (.node .nil (.loop [(54,.c (.int .i64))] (.node .nil (.node .nil (.join [] .nil .nil))))) .nil))
theorem LJ(x0:T6)(x1:T5)(x2:SliceV)(x3:SliceV){K:cN Fm→ad→Prop}{h0:ad}(h:DP x0 x1 x2 x3 K h0):HC PG ng [Gs x0,V7 x1,.slice x2.a x2.len x2.cap,.slice x3.a x3.len x3.cap] Fm K h0:=dB LW Tryz.func57 Tryz.call57 rfl rfl (by kernel_rfl) h
def BD(x0:Int)(K:(ByteArray)→ad→Prop)(h0:ad):Prop:=
 CondP (x0==(0:Int)) (
 K (⟨#[102,97,105,108]⟩:ByteArray) h0) (
 CondP (x0==(1:Int)) (
 K (⟨#[111,117,114,115]⟩:ByteArray) h0) (
 CondP (x0==(2:Int)) (
 K (⟨#[116,104,101,105,114,115]⟩:ByteArray) h0) (
 CondP (x0==(3:Int)) (
 K (⟨#[107,101,101,112]⟩:ByteArray) h0) (
 K (⟨#[]⟩:ByteArray) h0))))
theorem Jy(x0:Int){K:cN [.c .str]→ad→Prop}{h0:ad}(h:BD x0 K h0):HC PG wN [.int .i64 x0] [.c .str] K h0:=dB .nil Tryz.func58 Tryz.call58 rfl rfl (by kernel_rfl) h
def BC(x0:ByteArray×Bool)(x1:ByteArray×Bool)(x2:ByteArray×Bool)(x3:Int)(K:((ByteArray×Bool)×Bool)→ad→Prop)(h0:ad):Prop:=
 At (hnew h0 (E7 x0) kZ) (fun h1=>
 At (hnew h1 (E7 x1) kZ) (fun h2=>
 At (hnew h2 (E7 x2) kZ) (fun h3=>
 At (hnew h3 Pc kZ) (fun h4=>
 Join (fun(t14:Bool) h15=>
 CondP t14 (
 ∃v16,av h15 h1 0 v16∧
 ∃v17,fi h15 h1 1 v17∧
 (cU h15 h3 (Ph v16 v17) (fun h18=>
 ∃v19,av h18 h3 0 v19∧
 ∃v20,fi h18 h3 1 v20∧
 K ((v19,v20),true) h18))) (
 ∃v21,av h15 h1 0 v21∧
 ∃v22,fi h15 h1 1 v22∧
 ∃v23,av h15 h0 0 v23∧
 ∃v24,fi h15 h0 1 v24∧
 CondP ((v21.toList==v23.toList)&&((v22==v24)&&true)) (
 ∃v25,av h15 h2 0 v25∧
 ∃v26,fi h15 h2 1 v26∧
 (cU h15 h3 (Ph v25 v26) (fun h27=>
 ∃v28,av h27 h3 0 v28∧
 ∃v29,fi h27 h3 1 v29∧
 K ((v28,v29),true) h27))) (
 CondP (x3==(1:Int)) (
 ∃v30,av h15 h1 0 v30∧
 ∃v31,fi h15 h1 1 v31∧
 (cU h15 h3 (Ph v30 v31) (fun h32=>
 ∃v33,av h32 h3 0 v33∧
 ∃v34,fi h32 h3 1 v34∧
 K ((v33,v34),false) h32))) (
 CondP (x3==(2:Int)) (
 ∃v35,av h15 h2 0 v35∧
 ∃v36,fi h15 h2 1 v36∧
 (cU h15 h3 (Ph v35 v36) (fun h37=>
 ∃v38,av h37 h3 0 v38∧
 ∃v39,fi h37 h3 1 v39∧
 K ((v38,v39),false) h37))) (
 ∃v40,av h15 h0 0 v40∧
 ∃v41,fi h15 h0 1 v41∧
 (cU h15 h3 (Ph v40 v41) (fun h42=>
 ∃v43,av h42 h3 0 v43∧
 ∃v44,fi h42 h3 1 v44∧
 K ((v43,v44),false) h42))))))) (fun J5=>
 ∃v6,av h4 h1 0 v6∧
 ∃v7,fi h4 h1 1 v7∧
 ∃v8,av h4 h2 0 v8∧
 ∃v9,fi h4 h2 1 v9∧
 CondP ((v6.toList==v8.toList)&&((v7==v9)&&true)) (
 J5 ((v6.toList==v8.toList)&&((v7==v9)&&true)) h4) (
 ∃v10,av h4 h2 0 v10∧
 ∃v11,fi h4 h2 1 v11∧
 ∃v12,av h4 h0 0 v12∧
 ∃v13,fi h4 h0 1 v13∧
 J5 ((v10.toList==v12.toList)&&((v11==v13)&&true)) h4))))))
noncomputable def JC:Ann:=.node .nil (.node (.join [(10,.c .bool)] .nil .nil) .nil)
theorem Jx(x0:ByteArray×Bool)(x1:ByteArray×Bool)(x2:ByteArray×Bool)(x3:Int){K:cN Tw→ad→Prop}{h0:ad}(h:BC x0 x1 x2 x3 K h0):HC PG wM [Td x0,Td x1,Td x2,.int .i64 x3] Tw K h0:=dB JC Tryz.func59 Tryz.call59 rfl rfl (by kernel_rfl) h
def yi(x0:T6)(x1:ByteArray)(x2:ByteArray×Bool)(K:(T6)→ad→Prop)(h0:ad):Prop:=
 At (hnew h0 (mK x0) aH) (fun h1=>
 At (hnew h1 (E7 x2) kZ) (fun h2=>
 At (hnew h2 qK aH) (fun h3=>
 Join (fun(t25:Unit) h26=>
 ∃v27,aM h26 h0 0 v27∧
 ∃v28,ae h26 h0 1 v28∧
 ∃v29,ae h26 h0 2 v29∧
 ∃v30,ae h26 h0 3 v30∧
 ∃v31,au h26 h0 4 v31∧
 ∃v32,au h26 h0 5 v32∧
 (cU h26 h2 (uc v27 v28 v29 v30 v31 v32) (fun h33=>
 ∃v34,aM h33 h2 0 v34∧
 ∃v35,ae h33 h2 1 v35∧
 ∃v36,ae h33 h2 2 v36∧
 ∃v37,ae h33 h2 3 v37∧
 ∃v38,au h33 h2 4 v38∧
 ∃v39,au h33 h2 5 v39∧
 K (v34,v35,v36,v37,v38,v39) h33))) (fun J4=>
 ∃v5,fi h3 h1 1 v5∧
 CondP v5 (
 ∃v6,aM h3 h0 0 v6∧
 ∃v7,ae h3 h0 1 v7∧
 ∃v8,ae h3 h0 2 v8∧
 ∃v9,ae h3 h0 3 v9∧
 ∃v10,au h3 h0 4 v10∧
 ∃v11,au h3 h0 5 v11∧
 ∃v12,av h3 h1 0 v12∧
 HC PG nA [kU v6 v7 v8 v9 v10 v11,.pointer none,qM x1 v12] tw (fun(e13:(T6)×Int) h14=>
 (cU h14 h0 (mK e13.1) (fun h15=>
 J4 () h15))) h3) (
 ∃v16,aM h3 h0 0 v16∧
 ∃v17,ae h3 h0 1 v17∧
 ∃v18,ae h3 h0 2 v18∧
 ∃v19,ae h3 h0 3 v19∧
 ∃v20,au h3 h0 4 v20∧
 ∃v21,au h3 h0 5 v21∧
 HC PG km [kU v16 v17 v18 v19 v20 v21,.pointer none,.string x1] tw (fun(e22:(T6)×Int) h23=>
 (cU h23 h0 (mK e22.1) (fun h24=>
 J4 () h24))) h3)))))
noncomputable def LV:Ann:=.node .nil (.join [] .nil .nil)
theorem DD(x0:T6)(x1:ByteArray)(x2:ByteArray×Bool){K:cN AL→ad→Prop}{h0:ad}(h:yi x0 x1 x2 K h0):HC PG um [Gs x0,.string x1,Td x2] AL K h0:=dB LV Tryz.func60 Tryz.call60 rfl rfl (by kernel_rfl) h
def BA(x0:ByteArray)(x1:ByteArray)(K:(Int)→ad→Prop)(h0:ad):Prop:=
 CondP (decide ((x0.size:Int)>(256:Int))) (
 K 2 h0) (
 CondP (decide ((x1.size:Int)>(4096:Int))) (
 K 3 h0) (
 K 0 h0))
theorem Jv(x0:ByteArray)(x1:ByteArray){K:cN bT→ad→Prop}{h0:ad}(h:BA x0 x1 K h0):HC PG qi (jG x0 x1) bT K h0:=dB .nil Tryz.func61 Tryz.call61 rfl rfl (by kernel_rfl) h
def ye(x0:Option Addr)(K:(T6)→ad→Prop)(h0:ad):Prop:=
 At (hnew h0 qK aH) (fun h1=>
 Join (fun(t5:Option Addr) h6=>
 (cU h6 h0 (uc 1 0 0 0 none t5) (fun h7=>
 ∃v8,aM h7 h0 0 v8∧
 ∃v9,ae h7 h0 1 v9∧
 ∃v10,ae h7 h0 2 v10∧
 ∃v11,ae h7 h0 3 v11∧
 ∃v12,au h7 h0 4 v12∧
 ∃v13,au h7 h0 5 v13∧
 K (v8,v9,v10,v11,v12,v13) h7))) (fun J2=>
 CondP x0.isNone (
 HC PG rC [] [.c .ptr] (fun(e3:Option Addr) h4=>
 J2 e3 h4) h1) (
 J2 x0 h1)))
noncomputable def Gh:Ann:=.node .nil (.join [(0,.c .ptr)] .nil .nil)
theorem FU(x0:Option Addr){K:cN AL→ad→Prop}{h0:ad}(h:ye x0 K h0):HC PG qc [.pointer x0] AL K h0:=dB Gh Tryz.func62 Tryz.call62 rfl rfl (by kernel_rfl) h
def yf(x0:Int×Int×Int)(x1:Option Addr)(K:(T6)→ad→Prop)(h0:ad):Prop:=
 At (hnew h0 (Dl x0) cy) (fun h1=>
 At (hnew h1 qK aH) (fun h2=>
 Join (fun(t6:Option Addr) h7=>
 ∃v8,ae h7 h0 0 v8∧
 ∃v9,ae h7 h0 1 v9∧
 ∃v10,ae h7 h0 2 v10∧
 (cU h7 h1 (uc 0 v8 v9 v10 t6 none) (fun h11=>
 ∃v12,aM h11 h1 0 v12∧
 ∃v13,ae h11 h1 1 v13∧
 ∃v14,ae h11 h1 2 v14∧
 ∃v15,ae h11 h1 3 v15∧
 ∃v16,au h11 h1 4 v16∧
 ∃v17,au h11 h1 5 v17∧
 K (v12,v13,v14,v15,v16,v17) h11))) (fun J3=>
 CondP x1.isNone (
 HC PG oF [] [.c .ptr] (fun(e4:Option Addr) h5=>
 J3 e4 h5) h2) (
 J3 x1 h2))))
noncomputable def Gi:Ann:=.node .nil (.join [(1,.c .ptr)] .nil .nil)
theorem FV(x0:Int×Int×Int)(x1:Option Addr){K:cN AL→ad→Prop}{h0:ad}(h:yf x0 x1 K h0):HC PG qd [MQ x0,.pointer x1] AL K h0:=dB Gi Tryz.func64 Tryz.call64 rfl rfl (by kernel_rfl) h
def zi(x0:Int×Int×Int)(x1:SliceV)(K:(Option Addr)→ad→Prop)(h0:ad):Prop:=
 At (hnew h0 (Dl x0) cy) (fun h1=>
 HC PG oD [.slice x1.a x1.len x1.cap] [.c .slice] (fun(e2:SliceV) h3=>
 LoopP (fun I4 (t5:SliceV×Int) h6=>
 CondP (decide (t5.2<(e2.len:Int))) (
 Join (fun(t25:SliceV) h26=>
 I4 (t25,IntKind.wrap .i64 (t5.2+1)) h26) (fun J7=>
 (bZ t5.2 e2.len∧∃a8,e2.a=some a8∧
 ∃v9,ay h6 (adr a8 (t5.2.toNat*2)) 0 v9∧
 ∃v10,ay h6 (adr a8 (t5.2.toNat*2)) 1 v10∧
 nv h6 oT af (jG v9 v10) (fun h12=>
 ∃v13,av h12 h6 0 v13∧
 ∃v14,av h12 h6 1 v14∧
 ∃v15,ae h12 h0 0 v15∧
 ∃v16,ae h12 h0 1 v16∧
 ∃v17,ae h12 h0 2 v17∧
 ∃v18,av h12 h6 0 v18∧
 HC PG fG [zl v15 v16 v17,.string v18] gv (fun(e19:Int) h20=>
 ((av h20 h6 0 v13∧av h20 h6 1 v14)∧
 At (hnew h20 (JQ v13 v14 e19) bN) (fun h21=>
 ∃xs22,SRow h21 (some (aj h20)) (1*3) xs22∧
 AppP (some L7) 3 40 bN t5.1.a t5.1.len t5.1.cap 1 xs22 h21 (fun s23 h24=>
 J7 s23 h24)))) h12)))) (
 HC PG qm (SI t5.1 0) [.c .ptr] (fun(e27:Option Addr) h28=>
 K e27 h28) h6)) (⟨none,0,0⟩,0) h3) h1)
noncomputable def G5:Ann:=.node .nil (.node .nil (.node (.node .nil (.loop [(5,.c .slice),(11,.c (.int .i64))] (.node .nil (.node .nil (.join [(5,.c .slice)] (.node .nil (.draw (JI 0 5 (.all (.lastT 5 (.take 6 (.all (.lastT 7 (.all (.lastT 8 (.take 9 (.done)))))))))))) .nil))))) .nil))
theorem GV(x0:Int×Int×Int)(x1:SliceV){K:cN [.c .ptr]→ad→Prop}{h0:ad}(h:zi x0 x1 K h0):HC PG u5 [MQ x0,.slice x1.a x1.len x1.cap] [.c .ptr] K h0:=dB G5 Tryz.func65 Tryz.call65 rfl rfl (by kernel_rfl) h
def DH(x0:Option Addr)(x1:Option Addr)(x2:ByteArray×ByteArray)(K:((Option Addr)×Bool)→ad→Prop)(h0:ad):Prop:=
 At (hnew h0 (vo x2) af) (fun h1=>
 ∃v2,av h1 h0 0 v2∧
 ∃v3,av h1 h0 1 v3∧
 HC PG qf [.pointer x1] [.c .ptr] (fun(e4:Option Addr) h5=>
 (av h5 h0 1 v3∧
 (av h5 h0 0 v2∧
 HC PG nF (QG e4 x0 v2 v3) uj (fun(e6:(Option Addr)×Bool×Bool) h7=>
 K (e6.1,e6.2.1) h7) h5))) h1)
theorem LC(x0:Option Addr)(x1:Option Addr)(x2:ByteArray×ByteArray){K:cN gf→ad→Prop}{h0:ad}(h:DH x0 x1 x2 K h0):HC PG xS [.pointer x0,.pointer x1,OD x2] gf K h0:=dB .nil Tryz.func66 Tryz.call66 rfl rfl (by kernel_rfl) h
def DU(x0:Int×Int×Int)(x1:Option Addr)(x2:Option Addr)(x3:ByteArray×ByteArray)(K:((Option Addr)×Bool)→ad→Prop)(h0:ad):Prop:=
 At (hnew h0 (Dl x0) cy) (fun h1=>
 At (hnew h1 (vo x3) af) (fun h2=>
 ∃v3,ae h2 h0 0 v3∧
 ∃v4,ae h2 h0 1 v4∧
 ∃v5,ae h2 h0 2 v5∧
 ∃v6,av h2 h1 0 v6∧
 ∃v7,ae h2 h0 0 v7∧
 ∃v8,ae h2 h0 1 v8∧
 ∃v9,ae h2 h0 2 v9∧
 ∃v10,av h2 h1 0 v10∧
 ((HC PG fG [zl v7 v8 v9,.string v10] gv (fun(e11:Int) h12=>
 (av h12 h1 0 v6∧
 ((ae h12 h0 0 v3∧ae h12 h0 1 v4∧ae h12 h0 2 v5)∧
 At (hnew h12 Ue cK) (fun h13=>
 (av h13 h1 0 v6∧
 ((ae h13 h0 0 v3∧ae h13 h0 1 v4∧ae h13 h0 2 v5)∧
 (cU h13 h12 (Ul v3 v4 v5 x1 v6 e11) (fun h14=>
 ∃v15,ae h14 h12 0 v15∧
 ∃v16,ae h14 h12 1 v16∧
 ∃v17,ae h14 h12 2 v17∧
 ∃v18,au h14 h12 3 v18∧
 ∃v19,av h14 h12 4 v19∧
 ∃v20,ae h14 h12 5 v20∧
 ∃v21,av h14 h1 0 v21∧
 ∃v22,av h14 h1 1 v22∧
 HC PG lu [.pointer x2] [.c .ptr] (fun(e23:Option Addr) h24=>
 ((av h24 h1 0 v21∧av h24 h1 1 v22)∧
 ((ae h24 h12 0 v15∧ae h24 h12 1 v16∧ae h24 h12 2 v17∧au h24 h12 3 v18∧av h24 h12 4 v19∧ae h24 h12 5 v20)∧
 HC PG jm [zk v15 v16 v17 v18 v19 v20,.pointer e23,qM v21 v22,.int .i64 0] uj (fun(e25:(Option Addr)×Bool×Bool) h26=>
 K (e25.1,e25.2.1) h26) h24))) h14)))))))) h2)∧
 At (hnew h2 Ue cK) (fun h27=>
 (av h27 h1 0 v10∧
 ((ae h27 h0 0 v7∧ae h27 h0 1 v8∧ae h27 h0 2 v9)∧
 (av h27 h1 0 v6∧
 ((ae h27 h0 0 v3∧ae h27 h0 1 v4∧ae h27 h0 2 v5)∧
 HC PG fG [zl v7 v8 v9,.string v10] gv (fun(e28:Int) h29=>
 (av h29 h1 0 v6∧
 ((ae h29 h0 0 v3∧ae h29 h0 1 v4∧ae h29 h0 2 v5)∧
 (cU h29 h2 (Ul v3 v4 v5 x1 v6 e28) (fun h30=>
 ∃v31,ae h30 h2 0 v31∧
 ∃v32,ae h30 h2 1 v32∧
 ∃v33,ae h30 h2 2 v33∧
 ∃v34,au h30 h2 3 v34∧
 ∃v35,av h30 h2 4 v35∧
 ∃v36,ae h30 h2 5 v36∧
 ∃v37,av h30 h1 0 v37∧
 ∃v38,av h30 h1 1 v38∧
 HC PG lu [.pointer x2] [.c .ptr] (fun(e39:Option Addr) h40=>
 ((av h40 h1 0 v37∧av h40 h1 1 v38)∧
 ((ae h40 h2 0 v31∧ae h40 h2 1 v32∧ae h40 h2 2 v33∧au h40 h2 3 v34∧av h40 h2 4 v35∧ae h40 h2 5 v36)∧
 HC PG jm [zk v31 v32 v33 v34 v35 v36,.pointer e39,qM v37 v38,.int .i64 0] uj (fun(e41:(Option Addr)×Bool×Bool) h42=>
 K (e41.1,e41.2.1) h42) h40))) h30))))) h27))))))))
noncomputable def LY:Ann:=.node .nil (.node (.draw (JI 0 7 (.all (.pick 7 (.take 8 (.all (.lastT 9 (.all (.lastT 10 (.done)))))) (.last 9 (.all (.lastT 7 (.take 8 (.all (.lastT 10 (.done))))))))))) (.node (.draw (VR [0,1,3] (.all (.lastT 2 (.all (.lastT 4 (JI 5 7 (.done)))))))) .nil))
theorem LO(x0:Int×Int×Int)(x1:Option Addr)(x2:Option Addr)(x3:ByteArray×ByteArray){K:cN gf→ad→Prop}{h0:ad}(h:DU x0 x1 x2 x3 K h0):HC PG xY [MQ x0,.pointer x1,.pointer x2,OD x3] gf K h0:=dB LY Tryz.func67 Tryz.call67 rfl rfl (by kernel_rfl) h
def DJ(x0:ByteArray)(x1:ByteArray)(K:(Int)→ad→Prop)(h0:ad):Prop:=
 CondP (decide ((x0.size:Int)>(256:Int))) (
 K 2 h0) (
 CondP (decide ((x1.size:Int)>(4096:Int))) (
 K 3 h0) (
 K 0 h0))
theorem LF(x0:ByteArray)(x1:ByteArray){K:cN bT→ad→Prop}{h0:ad}(h:DJ x0 x1 K h0):HC PG xU (jG x0 x1) bT K h0:=dB .nil Tryz.func68 Tryz.call68 rfl rfl (by kernel_rfl) h
def Bx(x0:Option Addr)(x1:Option Addr)(x2:ByteArray)(K:((Option Addr)×Bool)→ad→Prop)(h0:ad):Prop:=
 HC PG qf [.pointer x1] [.c .ptr] (fun(e1:Option Addr) h2=>
 HC PG mr (DX e1 x0 x2) gf (fun(e3:(Option Addr)×Bool) h4=>
 K (e3.1,e3.2) h4) h2) h0
theorem Jt(x0:Option Addr)(x1:Option Addr)(x2:ByteArray){K:cN gf→ad→Prop}{h0:ad}(h:Bx x0 x1 x2 K h0):HC PG wJ (DX x0 x1 x2) gf K h0:=dB .nil Tryz.func69 Tryz.call69 rfl rfl (by kernel_rfl) h
def BF(x0:Int×Int×Int)(x1:Option Addr)(x2:Option Addr)(x3:ByteArray)(K:((Option Addr)×Bool)→ad→Prop)(h0:ad):Prop:=
 At (hnew h0 (Dl x0) cy) (fun h1=>
 HC PG lu [.pointer x2] [.c .ptr] (fun(e2:Option Addr) h3=>
 ∃v4,ae h3 h0 0 v4∧
 ∃v5,ae h3 h0 1 v5∧
 ∃v6,ae h3 h0 2 v6∧
 ∃v7,ae h3 h0 0 v7∧
 ∃v8,ae h3 h0 1 v8∧
 ∃v9,ae h3 h0 2 v9∧
 HC PG fG [zl v7 v8 v9,.string x3] gv (fun(e10:Int) h11=>
 ((ae h11 h0 0 v4∧ae h11 h0 1 v5∧ae h11 h0 2 v6)∧
 HC PG my [zk v4 v5 v6 x1 x3 e10,.pointer e2,.int .i64 0] gf (fun(e12:(Option Addr)×Bool) h13=>
 K (e12.1,e12.2) h13) h11)) h3) h1)
noncomputable def JD:Ann:=.node .nil (.node .nil (.node (.draw (VR [0,1,2,3,4,7] (.all (.lastT 5 (.take 6 (.all (.lastT 8 (JI 9 4 (.done))))))))) .nil))
theorem JA(x0:Int×Int×Int)(x1:Option Addr)(x2:Option Addr)(x3:ByteArray){K:cN gf→ad→Prop}{h0:ad}(h:BF x0 x1 x2 x3 K h0):HC PG wP [MQ x0,.pointer x1,.pointer x2,.string x3] gf K h0:=dB JD Tryz.func70 Tryz.call70 rfl rfl (by kernel_rfl) h
def Ia(x0:SliceV)(x1:ByteArray)(K:(ByteArray×Bool)→ad→Prop)(h0:ad):Prop:=
 HC PG zN (qQ x0 x1) iV (fun(e1:Int×Bool) h2=>
 CondP (!e1.2) (
 K ((⟨#[]⟩:ByteArray),false) h2) (
 (bZ e1.1 x0.len∧∃a3,x0.a=some a3∧
 ∃v4,ay h2 (adr a3 (e1.1.toNat*2)) 1 v4∧
 K (v4,true) h2))) h0
theorem Qj(x0:SliceV)(x1:ByteArray){K:cN lj→ad→Prop}{h0:ad}(h:Ia x0 x1 K h0):HC PG Co (qQ x0 x1) lj K h0:=dB .nil Tryz.func71 Tryz.call71 rfl rfl (by kernel_rfl) h
def Ga(x0:SliceV)(x1:ByteArray)(K:(SliceV)→ad→Prop)(h0:ad):Prop:=
 LoopP (fun I1 (t2:SliceV×Int) h3=>
 CondP (decide (t2.2<(x0.len:Int))) (
 Join (fun(t17:SliceV) h18=>
 I1 (t17,IntKind.wrap .i64 (t2.2+1)) h18) (fun J4=>
 (bZ t2.2 x0.len∧∃a5,x0.a=some a5∧
 ∃v6,ay h3 (adr a5 (t2.2.toNat*2)) 0 v6∧
 ∃v7,ay h3 (adr a5 (t2.2.toNat*2)) 1 v7∧
 nv h3 oT dV (jG v6 v7) (fun h9=>
 ∃v10,av h9 h3 0 v10∧
 CondP (!(v10.toList==x1.toList)) (
 ∃v11,av h9 h3 0 v11∧
 ∃v12,av h9 h3 1 v12∧
 At (hnew h9 (jG v11 v12) dV) (fun h13=>
 ∃xs14,SRow h13 (some (aj h9)) (1*2) xs14∧
 AppP (some oT) 2 32 dV t2.1.a t2.1.len t2.1.cap 1 xs14 h13 (fun s15 h16=>
 J4 s15 h16))) (
 J4 t2.1 h9))))) (
 K t2.1 h3)) (⟨none,0,0⟩,0) h0
noncomputable def N2:Ann:=.node .nil (.node .nil (.node (.node .nil (.loop [(5,.c .slice),(10,.c (.int .i64))] (.node .nil (.node .nil (.join [(5,.c .slice)] .nil .nil))))) .nil))
theorem NR(x0:SliceV)(x1:ByteArray){K:cN [.c .slice]→ad→Prop}{h0:ad}(h:Ga x0 x1 K h0):HC PG wL (qQ x0 x1) [.c .slice] K h0:=dB N2 Tryz.func72 Tryz.call72 rfl rfl (by kernel_rfl) h
def tV(x0:Option Addr)(K:(ByteArray)→ad→Prop)(h0:ad):Prop:=
 CondP x0.isNone (
 K (⟨#[]⟩:ByteArray) h0) (
 ∃a1,x0=some a1∧
 ∃v2,ay h0 a1 0 v2∧
 K v2 h0)
theorem Ab(x0:Option Addr){K:cN [.c .str]→ad→Prop}{h0:ad}(h:tV x0 K h0):HC PG dK [.pointer x0] [.c .str] K h0:=dB .nil Tryz.func73 Tryz.call73 rfl rfl (by kernel_rfl) h
def vX(x0:Option Addr)(x1:SliceV)(x2:SliceV)(K:(Unit)→ad→Prop)(h0:ad):Prop:=
 LoopP (fun I1 (t2:SliceV×SliceV) h3=>
 Join (fun(t5:Bool) h6=>
 CondP t5 (
 Join (fun(t12:Bool) h13=>
 CondP t12 (
 Join (fun(t27:Unit) h28=>
 (((0:Int)≤(1:Int)∧(1:Int)≤((t2.1.len:Nat):Int))∧
 Bd (aU t2.1.a ((1:Int).toNat) t2.1.cap 2:Option Addr) (fun a29=>Bd (t2.1.len-((1:Int).toNat):Nat) (fun n30=>Bd (t2.1.cap-((1:Int).toNat):Nat) (fun n31=>
 I1 (⟨a29,n30,n31⟩,t2.2) h28))))) (fun J14=>
 ∃a15,x0=some a15∧
 ∃v16:SliceV,bW h13 a15 3 v16∧
 (bZ 0 t2.1.len∧∃a17,t2.1.a=some a17∧
 ∃v18,ay h13 (adr a17 ((0:Int).toNat*2)) 0 v18∧
 (bZ 0 t2.1.len∧∃a19,t2.1.a=some a19∧
 ∃v20,ay h13 (adr a19 ((0:Int).toNat*2)) 1 v20∧
 At (hnew h13 (jC v18 v20 (⟨#[]⟩:ByteArray) true false) bQ) (fun h21=>
 (bW h21 a15 3 v16∧
 ∃xs22,SRow h21 (some (aj h13)) (1*5) xs22∧
 AppP (some Pd) 5 56 bQ v16.a v16.len v16.cap 1 xs22 h21 (fun s23 h24=>
 ∃a25,x0=some a25∧
 (dN h24 (adr a25 3) (.slice s23.a s23.len s23.cap) (fun h26=>
 J14 () h26))))))))) (
 Join (fun(t37:Bool) h38=>
 CondP t37 (
 Join (fun(t52:Unit) h53=>
 (((0:Int)≤(1:Int)∧(1:Int)≤((t2.2.len:Nat):Int))∧
 Bd (aU t2.2.a ((1:Int).toNat) t2.2.cap 2:Option Addr) (fun a54=>Bd (t2.2.len-((1:Int).toNat):Nat) (fun n55=>Bd (t2.2.cap-((1:Int).toNat):Nat) (fun n56=>
 I1 (t2.1,⟨a54,n55,n56⟩) h53))))) (fun J39=>
 ∃a40,x0=some a40∧
 ∃v41:SliceV,bW h38 a40 3 v41∧
 (bZ 0 t2.2.len∧∃a42,t2.2.a=some a42∧
 ∃v43,ay h38 (adr a42 ((0:Int).toNat*2)) 0 v43∧
 (bZ 0 t2.2.len∧∃a44,t2.2.a=some a44∧
 ∃v45,ay h38 (adr a44 ((0:Int).toNat*2)) 1 v45∧
 At (hnew h38 (jC v43 (⟨#[]⟩:ByteArray) v45 false true) bQ) (fun h46=>
 (bW h46 a40 3 v41∧
 ∃xs47,SRow h46 (some (aj h38)) (1*5) xs47∧
 AppP (some Pd) 5 56 bQ v41.a v41.len v41.cap 1 xs47 h46 (fun s48 h49=>
 ∃a50,x0=some a50∧
 (dN h49 (adr a50 3) (.slice s48.a s48.len s48.cap) (fun h51=>
 J39 () h51))))))))) (
 Join (fun(t76:Unit) h77=>
 (((0:Int)≤(1:Int)∧(1:Int)≤((t2.1.len:Nat):Int))∧
 Bd (aU t2.1.a ((1:Int).toNat) t2.1.cap 2:Option Addr) (fun a78=>Bd (t2.1.len-((1:Int).toNat):Nat) (fun n79=>Bd (t2.1.cap-((1:Int).toNat):Nat) (fun n80=>
 (((0:Int)≤(1:Int)∧(1:Int)≤((t2.2.len:Nat):Int))∧
 Bd (aU t2.2.a ((1:Int).toNat) t2.2.cap 2:Option Addr) (fun a81=>Bd (t2.2.len-((1:Int).toNat):Nat) (fun n82=>Bd (t2.2.cap-((1:Int).toNat):Nat) (fun n83=>
 I1 (⟨a78,n79,n80⟩,⟨a81,n82,n83⟩) h77))))))))) (fun J57=>
 (bZ 0 t2.1.len∧∃a58,t2.1.a=some a58∧
 ∃v59,ay h38 (adr a58 ((0:Int).toNat*2)) 1 v59∧
 (bZ 0 t2.2.len∧∃a60,t2.2.a=some a60∧
 ∃v61,ay h38 (adr a60 ((0:Int).toNat*2)) 1 v61∧
 CondP (!(v59.toList==v61.toList)) (
 ∃a62,x0=some a62∧
 ∃v63:SliceV,bW h38 a62 3 v63∧
 (bZ 0 t2.1.len∧∃a64,t2.1.a=some a64∧
 ∃v65,ay h38 (adr a64 ((0:Int).toNat*2)) 0 v65∧
 (bZ 0 t2.1.len∧∃a66,t2.1.a=some a66∧
 ∃v67,ay h38 (adr a66 ((0:Int).toNat*2)) 1 v67∧
 (bZ 0 t2.2.len∧∃a68,t2.2.a=some a68∧
 ∃v69,ay h38 (adr a68 ((0:Int).toNat*2)) 1 v69∧
 At (hnew h38 (jC v65 v67 v69 true true) bQ) (fun h70=>
 (bW h70 a62 3 v63∧
 ∃xs71,SRow h70 (some (aj h38)) (1*5) xs71∧
 AppP (some Pd) 5 56 bQ v63.a v63.len v63.cap 1 xs71 h70 (fun s72 h73=>
 ∃a74,x0=some a74∧
 (dN h73 (adr a74 3) (.slice s72.a s72.len s72.cap) (fun h75=>
 J57 () h75))))))))) (
 J57 () h38)))))) (fun J32=>
 CondP ((t2.1.len:Int)==(0:Int)) (
 J32 true h13) (
 (bZ 0 t2.2.len∧∃a33,t2.2.a=some a33∧
 ∃v34,ay h13 (adr a33 ((0:Int).toNat*2)) 0 v34∧
 (bZ 0 t2.1.len∧∃a35,t2.1.a=some a35∧
 ∃v36,ay h13 (adr a35 ((0:Int).toNat*2)) 0 v36∧
 J32 (Op.bytesLess v34.toList v36.toList) h13)))))) (fun J7=>
 CondP ((t2.2.len:Int)==(0:Int)) (
 J7 true h6) (
 CondP (decide ((t2.1.len:Int)>(0:Int))) (
 (bZ 0 t2.1.len∧∃a8,t2.1.a=some a8∧
 ∃v9,ay h6 (adr a8 ((0:Int).toNat*2)) 0 v9∧
 (bZ 0 t2.2.len∧∃a10,t2.2.a=some a10∧
 ∃v11,ay h6 (adr a10 ((0:Int).toNat*2)) 0 v11∧
 J7 (Op.bytesLess v9.toList v11.toList) h6))) (
 J7 false h6)))) (
 K () h6)) (fun J4=>
 CondP (decide ((t2.1.len:Int)>(0:Int))) (
 J4 true h3) (
 J4 (decide ((t2.2.len:Int)>(0:Int))) h3))) (x1,x2) h0
noncomputable def CU:Ann:=.loop [(1,.c .slice),(2,.c .slice)] (.node (.join [(13,.c .bool)] .nil .nil) (.join [(49,.c .bool)] (.draw (JI 0 4 (.split 53 (JI 4 16 (.done)) (JI 4 4 (.split 57 (JI 8 12 (.done)) (JI 8 12 (.done))))))) (.node (.join [] (.draw (JI 0 14 (.all (.lastT 14 (.all (.lastT 15 (.take 16 (.take 17 (.all (.lastT 18 (.done))))))))))) .nil) (.join [(89,.c .bool)] (.draw (JI 0 4 (.split 93 (JI 4 11 (.done)) (JI 4 11 (.done))))) (.node (.join [] (.draw (JI 0 14 (.all (.lastT 14 (.all (.lastT 15 (.take 16 (.take 17 (.all (.lastT 18 (.done))))))))))) .nil) (.join [] (.node (.draw (JI 0 9 (.done))) (.node (.draw (JI 0 18 (.all (.lastT 18 (.all (.lastT 19 (.take 20 (.take 21 (.all (.lastT 22 (.done))))))))))) .nil)) (.draw (JI 0 6 (.done)))))))))
theorem CN(x0:Option Addr)(x1:SliceV)(x2:SliceV){K:cN []→ad→Prop}{h0:ad}(h:vX x0 x1 x2 K h0):HC PG im (Ik x0 x1 x2) [] K h0:=dB CU Tryz.func74 Tryz.call74 rfl rfl (by kernel_rfl) h
def yj(x0:Option Addr)(x1:ByteArray)(K:(SliceV)→ad→Prop)(h0:ad):Prop:=
 CondP x0.isNone (
 K ⟨none,0,0⟩ h0) (
 HC PG dK [.pointer x0] [.c .str] (fun(e1:ByteArray) h2=>
 (((x1.size+e1.size:Nat):Int)≤9223372036854775807∧
 Join (fun(t10:SliceV) h11=>
 HC PG jR [.pointer x0] [.c .slice] (fun(e12:SliceV) h13=>
 LoopP (fun I14 (t15:SliceV×Int) h16=>
 CondP (decide (t15.2<(e12.len:Int))) (
 Join (fun(t25:SliceV) h26=>
 I14 (t25,IntKind.wrap .i64 (t15.2+1)) h26) (fun J17=>
 (bZ t15.2 e12.len∧∃a18,e12.a=some a18∧
 ∃v19,aL h16 a18 (t15.2.toNat*1) (.pointer v19)∧
 HC PG jV (xx v19 (x1++e1)) [.c .slice] (fun(e20:SliceV) h21=>
 ∃xs22,SRow h21 e20.a (e20.len*2) xs22∧
 AppP (some oT) 2 32 af t15.1.a t15.1.len t15.1.cap e20.len xs22 h21 (fun s23 h24=>
 J17 s23 h24)) h16))) (
 K t15.1 h16)) (t10,0) h13) h11) (fun J3=>
 HC PG ik [.pointer x0] lj (fun(e4:ByteArray×Bool) h5=>
 CondP e4.2 (
 At (hnew h5 (jG (x1++e1) e4.1) af) (fun h6=>
 ∃xs7,SRow h6 (some (aj h5)) (1*2) xs7∧
 AppP (some oT) 2 32 af none 0 0 1 xs7 h6 (fun s8 h9=>
 J3 s8 h9))) (
 J3 ⟨none,0,0⟩ h5)) h2))) h0)
noncomputable def LX:Ann:=.node .nil (.node .nil (.node .nil (.node .nil (.join [(6,.c .slice)] .nil (.node (.node .nil (.loop [(6,.c .slice),(32,.c (.int .i64))] (.node .nil (.node .nil (.join [(6,.c .slice)] .nil .nil))))) .nil)))))
theorem DE(x0:Option Addr)(x1:ByteArray){K:cN [.c .slice]→ad→Prop}{h0:ad}(h:yj x0 x1 K h0):HC PG jV (xx x0 x1) [.c .slice] K h0:=dB LX Tryz.func75 Tryz.call75 rfl rfl (by kernel_rfl) h
def Ge(x0:Option Addr)(x1:ByteArray)(K:(SliceV)→ad→Prop)(h0:ad):Prop:=
 HC PG ik [.pointer x0] lj (fun(e1:ByteArray×Bool) h2=>
 CondP (!e1.2) (
 K ⟨none,0,0⟩ h2) (
 At (hnew h2 (jG x1 e1.1) af) (fun h3=>
 K ⟨some (aj h2),1,1⟩ h3))) h0
theorem NV(x0:Option Addr)(x1:ByteArray){K:cN [.c .slice]→ad→Prop}{h0:ad}(h:Ge x0 x1 K h0):HC PG wO (xx x0 x1) [.c .slice] K h0:=dB .nil Tryz.func76 Tryz.call76 rfl rfl (by kernel_rfl) h
def uH(x0:Option Addr)(K:(SliceV)→ad→Prop)(h0:ad):Prop:=
 CondP x0.isNone (
 K ⟨none,0,0⟩ h0) (
 ∃a1,x0=some a1∧
 ∃v2:SliceV,bW h0 a1 3 v2∧
 HC PG dd [.slice v2.a v2.len v2.cap] [.c .slice] (fun(e3:SliceV) h4=>
 K e3 h4) h0)
theorem Bh(x0:Option Addr){K:cN [.c .slice]→ad→Prop}{h0:ad}(h:uH x0 K h0):HC PG jR [.pointer x0] [.c .slice] K h0:=dB .nil Tryz.func77 Tryz.call77 rfl rfl (by kernel_rfl) h
def rY(x0:Option Addr)(K:(Bool)→ad→Prop)(h0:ad):Prop:=
 CondP (!(x0.isNone)) (
 ∃a1,x0=some a1∧
 ∃v2,be h0 a1 4 v2∧
 K v2 h0) (
 K false h0)
theorem yc(x0:Option Addr){K:cN [.c .bool]→ad→Prop}{h0:ad}(h:rY x0 K h0):HC PG dF [.pointer x0] [.c .bool] K h0:=dB .nil Tryz.func78 Tryz.call78 rfl rfl (by kernel_rfl) h
def qs(x0:Option Addr)(K:(SliceV)→ad→Prop)(h0:ad):Prop:=
 CondP x0.isNone (
 K ⟨none,0,0⟩ h0) (
 ∃a1,x0=some a1∧
 ∃v2:SliceV,bW h0 (adr a1 0) 2 v2∧
 HC PG cC [.slice v2.a v2.len v2.cap] [.c .slice] (fun(e3:SliceV) h4=>
 K e3 h4) h0)
theorem uw(x0:Option Addr){K:cN [.c .slice]→ad→Prop}{h0:ad}(h:qs x0 K h0):HC PG eN [.pointer x0] [.c .slice] K h0:=dB .nil Tryz.func79 Tryz.call79 rfl rfl (by kernel_rfl) h
def xm(x0:Option Addr)(x1:Int)(K:((Option Addr)×Bool)→ad→Prop)(h0:ad):Prop:=
 HC PG jU [.pointer x0] kI (fun(e1:Int) h2=>
 HC PG gi (pe e1 x1) [.c .bool] (fun(e3:Bool) h4=>
 CondP (!e3) (
 K (none,false) h4) (
 ∃a5,x0=some a5∧
 ∃v6:SliceV,bW h4 (adr a5 0) 3 v6∧
 ∃a7,x0=some a7∧
 ∃v8,iI h4 (adr a7 0) 1 v8∧
 HC PG dt (pe v8 x1) bT (fun(e9:Int) h10=>
 (bW h10 (adr a5 0) 3 v6∧
 (bZ e9 v6.len∧∃a11,v6.a=some a11∧
 ∃v12,aL h10 a11 (e9.toNat*1) (.pointer v12)∧
 K (v12,true) h10))) h4)) h2) h0
theorem D9(x0:Option Addr)(x1:Int){K:cN gf→ad→Prop}{h0:ad}(h:xm x0 x1 K h0):HC PG gT (kY x0 x1) gf K h0:=dB .nil Tryz.func80 Tryz.call80 rfl rfl (by kernel_rfl) h
def DS(x0:Option Addr)(x1:Int)(K:(SliceV)→ad→Prop)(h0:ad):Prop:=
 HC PG jl (kY x0 x1) qa (fun(e1:(ByteArray×ByteArray)×Bool) h2=>
 nv h2 oT af (vo e1.1) (fun h4=>
 CondP e1.2 (
 ∃v5,av h4 h2 0 v5∧
 ∃v6,av h4 h2 1 v6∧
 At (hnew h4 (jG v5 v6) af) (fun h7=>
 K ⟨some (aj h4),1,1⟩ h7)) (
 HC PG gT (kY x0 x1) gf (fun(e8:(Option Addr)×Bool) h9=>
 HC PG rA [.pointer e8.1] [.c .slice] (fun(e10:SliceV) h11=>
 K e10 h11) h9) h4))) h0
theorem LM(x0:Option Addr)(x1:Int){K:cN [.c .slice]→ad→Prop}{h0:ad}(h:DS x0 x1 K h0):HC PG un (kY x0 x1) [.c .slice] K h0:=dB .nil Tryz.func81 Tryz.call81 rfl rfl (by kernel_rfl) h
def vg(K:(Option Addr)→ad→Prop)(h0:ad):Prop:=
 HC PG nI [] [.c .ptr] (fun(e1:Option Addr) h2=>
 K e1 h2) h0
theorem yY{K:cN [.c .ptr]→ad→Prop}{h0:ad}(h:vg K h0):HC PG oF [] [.c .ptr] K h0:=dB .nil Tryz.func82 Tryz.call82 rfl rfl (by kernel_rfl) h
def fS(x0:SliceV)(x1:Int)(x2:Int)(x3:Int)(x4:Value)(K:(Unit)→ad→Prop)(h0:ad):Prop:=
 LoopP (fun I1 (t2:Int×Int×Int×Bool×Bool) h3=>
 CondP (decide ((IntKind.wrap .i64 (t2.2.1-t2.1))≤(12:Int))) (
 HC PG dq [.slice x0.a x0.len x0.cap,.int .i64 t2.1,.int .i64 t2.2.1,x4] [] (fun(e4:Unit) h5=>
 K () h5) h3) (
 CondP (t2.2.2.1==(0:Int)) (
 HC PG fC [.slice x0.a x0.len x0.cap,.int .i64 t2.1,.int .i64 t2.2.1,x4] [] (fun(e6:Unit) h7=>
 K () h7) h3) (
 Join (fun(t11:Int) h12=>
 HC PG eP [.slice x0.a x0.len x0.cap,.int .i64 t2.1,.int .i64 t2.2.1,x4] xJ (fun(e13:Int×Int) h14=>
 Join (fun(t19:Int×Int) h20=>
 Join (fun(t27:Unit) h28=>
 Join (fun(t44:Bool) h45=>
 CondP t44 (
 HC PG eu [.slice x0.a x0.len x0.cap,.int .i64 t2.1,.int .i64 t2.2.1,.int .i64 t19.1,x4] bT (fun(e46:Int) h47=>
 I1 (e46,t2.2.1,t11,t2.2.2.2.1,t2.2.2.2.2) h47) h45) (
 HC PG fj [.slice x0.a x0.len x0.cap,.int .i64 t2.1,.int .i64 t2.2.1,.int .i64 t19.1,x4] iV (fun(e48:Int×Bool) h49=>
 ((8:Int)≠0∧
 CondP (decide ((IntKind.wrap .i64 (e48.1-t2.1))<(IntKind.wrap .i64 (t2.2.1-e48.1)))) (
 HC PG dh [.slice x0.a x0.len x0.cap,.int .i64 t2.1,.int .i64 e48.1,.int .i64 t11,x4] [] (fun(e50:Unit) h51=>
 I1 (IntKind.wrap .i64 (e48.1+1),t2.2.1,t11,decide ((IntKind.wrap .i64 (e48.1-t2.1))≥(IntKind.wrap .i64 (np (IntKind.wrap .i64 (t2.2.1-t2.1)) 8))),e48.2) h51) h49) (
 HC PG dh [.slice x0.a x0.len x0.cap,.int .i64 (IntKind.wrap .i64 (e48.1+1)),.int .i64 t2.2.1,.int .i64 t11,x4] [] (fun(e52:Unit) h53=>
 I1 (t2.1,e48.1,t11,decide ((IntKind.wrap .i64 (t2.2.1-e48.1))≥(IntKind.wrap .i64 (np (IntKind.wrap .i64 (t2.2.1-t2.1)) 8))),e48.2) h53) h49))) h45)) (fun J29=>
 CondP (decide (t2.1>(0:Int))) (
 (bZ (IntKind.wrap .i64 (t2.1-1)) x0.len∧∃a30,x0.a=some a30∧
 ∃v31,aL h28 (adr a30 ((IntKind.wrap .i64 (t2.1-1)).toNat*5)) 0 (.string v31)∧
 ∃v32,aL h28 (adr a30 ((IntKind.wrap .i64 (t2.1-1)).toNat*5)) 1 (.string v32)∧
 ∃v33,aL h28 (adr a30 ((IntKind.wrap .i64 (t2.1-1)).toNat*5)) 2 (.string v33)∧
 ∃v34,aL h28 (adr a30 ((IntKind.wrap .i64 (t2.1-1)).toNat*5)) 3 (.bool v34)∧
 ∃v35,aL h28 (adr a30 ((IntKind.wrap .i64 (t2.1-1)).toNat*5)) 4 (.bool v35)∧
 (bZ t19.1 x0.len∧∃a36,x0.a=some a36∧
 ∃v37,ay h28 (adr a36 (t19.1.toNat*5)) 0 v37∧
 ∃v38,ay h28 (adr a36 (t19.1.toNat*5)) 1 v38∧
 ∃v39,ay h28 (adr a36 (t19.1.toNat*5)) 2 v39∧
 ∃v40,be h28 (adr a36 (t19.1.toNat*5)) 3 v40∧
 ∃v41,be h28 (adr a36 (t19.1.toNat*5)) 4 v41∧
 HV PG x4 [l6 v31 v32 v33 v34 v35,l6 v37 v38 v39 v40 v41] bT (fun(e42:Int) h43=>
 J29 (!(decide (e42<(0:Int)))) h43) h28))) (
 J29 false h28))) (fun J21=>
 Join (fun(t23:Bool) h24=>
 CondP t23 (
 HC PG dC [.slice x0.a x0.len x0.cap,.int .i64 t2.1,.int .i64 t2.2.1,x4] [.c .bool] (fun(e25:Bool) h26=>
 CondP e25 (
 K () h26) (
 J21 () h26)) h24) (
 J21 () h24)) (fun J22=>
 CondP t2.2.2.2.1 (
 CondP t2.2.2.2.2 (
 J22 (t19.2==(1:Int)) h20) (
 J22 false h20)) (
 J22 false h20)))) (fun J15=>
 CondP (e13.2==(2:Int)) (
 HC PG eJ [.slice x0.a x0.len x0.cap,.int .i64 t2.1,.int .i64 t2.2.1,x4] [] (fun(e16:Unit) h17=>
 Bd (IntKind.wrap .i64 ((IntKind.wrap .i64 (t2.2.1-1))-(IntKind.wrap .i64 (e13.1-t2.1))):Int) (fun n18=>
 J15 (n18,1) h17)) h14) (
 J15 (e13.1,e13.2) h14))) h12) (fun J8=>
 CondP (!t2.2.2.2.1) (
 HC PG eE [.slice x0.a x0.len x0.cap,.int .i64 t2.1,.int .i64 t2.2.1,x4] [] (fun(e9:Unit) h10=>
 J8 (IntKind.wrap .i64 (t2.2.2.1-1)) h10) h3) (
 J8 t2.2.2.1 h3))))) (x1,x2,x3,true,true) h0
noncomputable def oO:Ann:=.node .nil (.node .nil (.loop [(1,.c (.int .i64)),(2,.c (.int .i64)),(3,.c (.int .i64)),(10,.c .bool),(11,.c .bool)] (.node .nil (.node .nil (.node .nil (.join [(3,.c (.int .i64))] .nil (.node .nil (.join [(13,.c (.int .i64)),(14,.c (.int .i64))] .nil (.join [] (.join [(75,.c .bool)] .nil .nil) (.node (.join [(97,.c .bool)] .nil .nil) .nil))))))))))
theorem jg(x0:SliceV)(x1:Int)(x2:Int)(x3:Int)(x4:Value){K:cN []→ad→Prop}{h0:ad}(h:fS x0 x1 x2 x3 x4 K h0):HC PG dh [.slice x0.a x0.len x0.cap,.int .i64 x1,.int .i64 x2,.int .i64 x3,x4] [] K h0:=dB oO Tryz.func83 Tryz.call83 rfl rfl (by kernel_rfl) h
def xn(x0:Int)(K:(Int)→ad→Prop)(h0:ad):Prop:=
 HC PG qk [.int .u64 x0] bT (fun(e3:Int) h4=>
 K e3 h4) h0
theorem Ea(x0:Int){K:cN bT→ad→Prop}{h0:ad}(h:xn x0 K h0):HC PG oX [.int .u64 x0] bT K h0:=dB .nil Tryz.func84 Tryz.call84 rfl rfl (by kernel_rfl) h
def xo(x0:ByteArray)(K:(Bool)→ad→Prop)(h0:ad):Prop:=
 K (!(x0.toList==x0.toList)) h0
theorem Eb(x0:ByteArray){K:cN [.c .bool]→ad→Prop}{h0:ad}(h:xo x0 K h0):HC PG oY [.string x0] [.c .bool] K h0:=dB .nil Tryz.func85 Tryz.call85 rfl rfl (by kernel_rfl) h
def F8(x0:ByteArray)(x1:ByteArray)(K:(Bool)→ad→Prop)(h0:ad):Prop:=
 LoopP (fun I1 (t2:Int) h3=>
 Join (fun(t5:Bool) h6=>
 CondP t5 (
 ∃b7,(0:Int)≤t2∧x0[t2.toNat]? =some b7∧
 ∃b8,(0:Int)≤t2∧x1[t2.toNat]? =some b8∧
 CondP ((b7.toNat:Int) !=(b8.toNat:Int)) (
 ∃b9,(0:Int)≤t2∧x0[t2.toNat]? =some b9∧
 ∃b10,(0:Int)≤t2∧x1[t2.toNat]? =some b10∧
 K (decide ((b9.toNat:Int)<(b10.toNat:Int))) h6) (
 I1 (IntKind.wrap .i64 (t2+1)) h6)) (
 K (decide ((x0.size:Int)<(x1.size:Int))) h6)) (fun J4=>
 CondP (decide (t2<(x0.size:Int))) (
 J4 (decide (t2<(x1.size:Int))) h3) (
 J4 false h3))) 0 h0
noncomputable def N0:Ann:=.node .nil (.node (.node .nil (.loop [(5,.c (.int .i64))] (.node (.join [(15,.c .bool)] .nil .nil) .nil))) .nil)
theorem NP(x0:ByteArray)(x1:ByteArray){K:cN [.c .bool]→ad→Prop}{h0:ad}(h:F8 x0 x1 K h0):HC PG wK (jG x0 x1) [.c .bool] K h0:=dB N0 Tryz.func87 Tryz.call87 rfl rfl (by kernel_rfl) h
def y7(x0:Option Addr)(K:(SliceV)→ad→Prop)(h0:ad):Prop:=
 CondP x0.isNone (
 K ⟨none,0,0⟩ h0) (
 HC PG kq [.pointer x0,.slice none 0 0] [.c .slice] (fun(e1:SliceV) h2=>
 K e1 h2) h0)
theorem GN(x0:Option Addr){K:cN [.c .slice]→ad→Prop}{h0:ad}(h:y7 x0 K h0):HC PG uY [.pointer x0] [.c .slice] K h0:=dB .nil Tryz.func89 Tryz.call89 rfl rfl (by kernel_rfl) h
def F6(x0:Option Addr)(K:(SliceV)→ad→Prop)(h0:ad):Prop:=
 CondP x0.isNone (
 K ⟨none,0,0⟩ h0) (
 HC PG ul [.slice none 0 0,.pointer x0,.int .i64 0] [.c .slice] (fun(e1:SliceV) h2=>
 K e1 h2) h0)
theorem NN(x0:Option Addr){K:cN [.c .slice]→ad→Prop}{h0:ad}(h:F6 x0 K h0):HC PG zK [.pointer x0] [.c .slice] K h0:=dB .nil Tryz.func90 Tryz.call90 rfl rfl (by kernel_rfl) h
def Bw(x0:Option Addr)(K:(Option Addr)→ad→Prop)(h0:ad):Prop:=
 CondP x0.isNone (
 HC PG rC [] [.c .ptr] (fun(e1:Option Addr) h2=>
 K e1 h2) h0) (
 K x0 h0)
theorem Js(x0:Option Addr){K:cN [.c .ptr]→ad→Prop}{h0:ad}(h:Bw x0 K h0):HC PG qf [.pointer x0] [.c .ptr] K h0:=dB .nil Tryz.func91 Tryz.call91 rfl rfl (by kernel_rfl) h
def uF(x0:Option Addr)(x1:Int)(K:(Int×Bool)→ad→Prop)(h0:ad):Prop:=
 ∃a1,x0=some a1∧
 ∃v2:SliceV,bW h0 a1 3 v2∧
 HC PG dW [.slice v2.a v2.len v2.cap,.int .u8 x1,.func (.func oe) #[] #[]] iV (fun(e3:Int×Bool) h4=>
 K (e3.1,e3.2) h4) h0
theorem Bf(x0:Option Addr)(x1:Int){K:cN iV→ad→Prop}{h0:ad}(h:uF x0 x1 K h0):HC PG jQ (ED x0 x1) iV K h0:=dB .nil Tryz.func92 Tryz.call92 rfl rfl (by kernel_rfl) h
def F3(x0:ByteArray)(x1:ByteArray)(K:(ByteArray×Bool)→ad→Prop)(h0:ad):Prop:=
 HC PG uW (jG x0 x1) [.c .bool] (fun(e1:Bool) h2=>
 CondP (!e1) (
 K ((⟨#[]⟩:ByteArray),false) h2) (
 (((0:Int)≤(x1.size:Int)∧(x1.size:Int)≤((x0.size:Nat):Int))∧
 K (x0.extract ((x1.size:Int).toNat) x0.size,true) h2))) h0
theorem NK(x0:ByteArray)(x1:ByteArray){K:cN lj→ad→Prop}{h0:ad}(h:F3 x0 x1 K h0):HC PG wG (jG x0 x1) lj K h0:=dB .nil Tryz.func93 Tryz.call93 rfl rfl (by kernel_rfl) h
def py(x0:Option Addr)(K:(ByteArray×Bool)→ad→Prop)(h0:ad):Prop:=
 CondP x0.isNone (
 K ((⟨#[]⟩:ByteArray),false) h0) (
 ∃a1,x0=some a1∧
 ∃v2,ay h0 a1 2 v2∧
 ∃a3,x0=some a3∧
 ∃v4,be h0 a3 1 v4∧
 K (v2,v4) h0)
theorem tN(x0:Option Addr){K:cN lj→ad→Prop}{h0:ad}(h:py x0 K h0):HC PG ik [.pointer x0] lj K h0:=dB .nil Tryz.func94 Tryz.call94 rfl rfl (by kernel_rfl) h
def uD(x0:Int×Int×Int)(x1:ByteArray)(K:(Int)→ad→Prop)(h0:ad):Prop:=
 At (hnew h0 (Dl x0) cy) (fun h1=>
 ∃v2,aG h1 (adr (aj h0) 0) 0 v2∧
 ∃v3,aG h1 (adr (aj h0) 0) 1 v3∧
 ∃v4,ae h1 h0 2 v4∧
 HC PG Cl [Vc v2 v3,.string x1] gv (fun(e5:Int) h6=>
 (ae h6 h0 2 v4∧
 Bd (IntKind.wrap .u64 (ar (IntKind.bits .u64) e5&&&ar (IntKind.bits .u64) v4).toNat:Int) (fun n7=>
 K n7 h6))) h1)
theorem Bc(x0:Int×Int×Int)(x1:ByteArray){K:cN gv→ad→Prop}{h0:ad}(h:uD x0 x1 K h0):HC PG fG [MQ x0,.string x1] gv K h0:=dB .nil Tryz.func95 Tryz.call95 rfl rfl (by kernel_rfl) h
def BE(x0:Option Addr)(K:(Option Addr)→ad→Prop)(h0:ad):Prop:=
 CondP x0.isNone (
 HC PG oF [] [.c .ptr] (fun(e1:Option Addr) h2=>
 K e1 h2) h0) (
 K x0 h0)
theorem Jz(x0:Option Addr){K:cN [.c .ptr]→ad→Prop}{h0:ad}(h:BE x0 K h0):HC PG lu [.pointer x0] [.c .ptr] K h0:=dB .nil Tryz.func96 Tryz.call96 rfl rfl (by kernel_rfl) h
def Gg(x0:Option Addr)(x1:ByteArray)(K:(ByteArray×Bool)→ad→Prop)(h0:ad):Prop:=
 HC PG eN [.pointer x0] [.c .slice] (fun(e1:SliceV) h2=>
 HC PG rR (qQ e1 x1) iV (fun(e3:Int×Bool) h4=>
 CondP (!e3.2) (
 K ((⟨#[]⟩:ByteArray),false) h4) (
 (bZ e3.1 e1.len∧∃a5,e1.a=some a5∧
 ∃v6,ay h4 (adr a5 (e3.1.toNat*2)) 1 v6∧
 K (v6,true) h4))) h2) h0
theorem NX(x0:Option Addr)(x1:ByteArray){K:cN lj→ad→Prop}{h0:ad}(h:Gg x0 x1 K h0):HC PG rh (xx x0 x1) lj K h0:=dB .nil Tryz.func97 Tryz.call97 rfl rfl (by kernel_rfl) h
def Gf(x0:Int)(x1:Int)(K:(Int)→ad→Prop)(h0:ad):Prop:=
 Join (fun(t2:Bool) h3=>
 CondP t2 (
 K 0 h3) (
 ((0:Int)≤(IntKind.wrap .i64 (5*x1))∧
 Bd (dM x0 (2^(min (IntKind.wrap .i64 (5*x1):Int).toNat (IntKind.bits .u64))):Int) (fun n4=>
 Bd (IntKind.wrap .u64 (ar (IntKind.bits .u64) n4&&&ar (IntKind.bits .u64) 31).toNat:Int) (fun n5=>
 K (IntKind.wrap .i64 n5) h3))))) (fun J1=>
 CondP (decide (x1<(0:Int))) (
 J1 true h0) (
 J1 (decide (x1≥(13:Int))) h0))
noncomputable def N5:Ann:=.node .nil (.node (.join [(10,.c .bool)] .nil .nil) .nil)
theorem NW(x0:Int)(x1:Int){K:cN bT→ad→Prop}{h0:ad}(h:Gf x0 x1 K h0):HC PG lr (tc x0 x1) bT K h0:=dB N5 Tryz.func98 Tryz.call98 rfl rfl (by kernel_rfl) h
def vT(x0:Option Addr)(x1:Int)(K:((ByteArray×ByteArray)×Bool)→ad→Prop)(h0:ad):Prop:=
 At (hnew h0 oT af) (fun h1=>
 HC PG nH [.pointer x0] kI (fun(e2:Int) h3=>
 HC PG gi (pe e2 x1) [.c .bool] (fun(e4:Bool) h5=>
 CondP (!e4) (
 (cU h5 h0 oT (fun h6=>
 ∃v7,av h6 h0 0 v7∧
 ∃v8,av h6 h0 1 v8∧
 K ((v7,v8),false) h6))) (
 ∃a9,x0=some a9∧
 ∃v10:SliceV,bW h5 (adr a9 0) 2 v10∧
 ∃a11,x0=some a11∧
 ∃v12,iI h5 (adr a11 0) 0 v12∧
 HC PG dt (pe v12 x1) bT (fun(e13:Int) h14=>
 (bW h14 (adr a9 0) 2 v10∧
 (bZ e13 v10.len∧∃a15,v10.a=some a15∧
 ∃v16,ay h14 (adr a15 (e13.toNat*2)) 0 v16∧
 ∃v17,ay h14 (adr a15 (e13.toNat*2)) 1 v17∧
 (cU h14 h0 (jG v16 v17) (fun h18=>
 ∃v19,av h18 h0 0 v19∧
 ∃v20,av h18 h0 1 v20∧
 K ((v19,v20),true) h18))))) h5)) h3) h1)
theorem CI(x0:Option Addr)(x1:Int){K:cN qa→ad→Prop}{h0:ad}(h:vT x0 x1 K h0):HC PG jl (kY x0 x1) qa K h0:=dB .nil Tryz.func99 Tryz.call99 rfl rfl (by kernel_rfl) h
def yZ(x0:Option Addr)(K:(SliceV)→ad→Prop)(h0:ad):Prop:=
 HC PG zJ [.pointer x0] [.c .raw] (fun(e1:Value) h2=>
 HC PG js [e1] [.c .slice] (fun(e3:SliceV) h4=>
 HC PG oD [.slice e3.a e3.len e3.cap] [.c .slice] (fun(e5:SliceV) h6=>
 K e5 h6) h4) h2) h0
theorem GI(x0:Option Addr){K:cN [.c .slice]→ad→Prop}{h0:ad}(h:yZ x0 K h0):HC PG rA [.pointer x0] [.c .slice] K h0:=dB .nil Tryz.func102 Tryz.call102 rfl rfl (by kernel_rfl) h
def Ib(x0:Int×Int×Int)(K:(Int×Int×Int)→ad→Prop)(h0:ad):Prop:=
 At (hnew h0 (Dl x0) cy) (fun h1=>
 At (hnew h1 VI Ap) (fun h2=>
 ∃v3,aG h2 (adr (aj h0) 0) 0 v3∧
 ∃v4,aG h2 (adr (aj h0) 0) 1 v4∧
 ∃v5,ae h2 h0 2 v5∧
 (cU h2 h1 (VL v3 v4 v5) (fun h6=>
 ∃v7,ae h6 h1 0 v7∧
 ∃v8,ae h6 h1 1 v8∧
 ∃v9,ae h6 h1 2 v9∧
 K (v7,v8,v9) h6))))
theorem Qk(x0:Int×Int×Int){K:cN KY→ad→Prop}{h0:ad}(h:Ib x0 K h0):HC PG Cp [MQ x0] KY K h0:=dB .nil Tryz.func103 Tryz.call103 rfl rfl (by kernel_rfl) h
def y8(K:(Option Addr)→ad→Prop)(h0:ad):Prop:=
 At (hnew h0 JK bX) (fun h1=>
 K (some (aj h0)) h1)
theorem GO{K:cN [.c .ptr]→ad→Prop}{h0:ad}(h:y8 K h0):HC PG rC [] [.c .ptr] K h0:=dB .nil Tryz.func104 Tryz.call104 rfl rfl (by kernel_rfl) h
def za(x0:SliceV)(K:(SliceV)→ad→Prop)(h0:ad):Prop:=
 HC PG cC [.slice x0.a x0.len x0.cap] [.c .slice] (fun(e1:SliceV) h2=>
 HC PG cT [.slice e1.a e1.len e1.cap,.func (.func ss) #[] #[]] [] (fun(e3:Unit) h4=>
 LoopP (fun I5 (t6:Int×Int) h7=>
 CondP (decide (t6.2<(e1.len:Int))) (
 Join (fun(t24:Int) h25=>
 I5 (t24,IntKind.wrap .i64 (t6.2+1)) h25) (fun J8=>
 (bZ t6.2 e1.len∧∃a9,e1.a=some a9∧
 ∃v10,ay h7 (adr a9 (t6.2.toNat*2)) 0 v10∧
 ∃v11,ay h7 (adr a9 (t6.2.toNat*2)) 1 v11∧
 nv h7 oT af (jG v10 v11) (fun h13=>
 Join (fun(t18:Bool) h19=>
 CondP t18 (
 J8 t6.1 h19) (
 ∃v20,av h19 h7 0 v20∧
 ∃v21,av h19 h7 1 v21∧
 (bZ t6.1 e1.len∧∃a22,e1.a=some a22∧
 (ft h19 (adr a22 (t6.1.toNat*2)) (jG v20 v21) (fun h23=>
 J8 (IntKind.wrap .i64 (t6.1+1)) h23))))) (fun J14=>
 CondP (decide ((IntKind.wrap .i64 (t6.2+1))<(e1.len:Int))) (
 (bZ (IntKind.wrap .i64 (t6.2+1)) e1.len∧∃a15,e1.a=some a15∧
 ∃v16,aL h13 (adr a15 ((IntKind.wrap .i64 (t6.2+1)).toNat*2)) 0 (.string v16)∧
 ∃v17,av h13 h7 0 v17∧
 J14 (v16.toList==v17.toList) h13)) (
 J14 false h13)))))) (
 (((0:Int)≤t6.1∧t6.1≤((e1.cap:Nat):Int))∧
 K ⟨aU e1.a 0 e1.cap 2,t6.1.toNat-0,e1.cap-0⟩ h7))) (0,0) h4) h2) h0
noncomputable def G3:Ann:=.node .nil (.node .nil (.node .nil (.node .nil (.node (.node .nil (.loop [(4,.c (.int .i64)),(13,.c (.int .i64))] (.node .nil (.node .nil (.join [(4,.c (.int .i64))] (.node .nil (.node (.join [(33,.c .bool)] .nil .nil) .nil)) .nil))))) .nil))))
theorem GQ(x0:SliceV){K:cN [.c .slice]→ad→Prop}{h0:ad}(h:za x0 K h0):HC PG oD [.slice x0.a x0.len x0.cap] [.c .slice] K h0:=dB G3 Tryz.func105 Tryz.call105 rfl rfl (by kernel_rfl) h
def wY(x0:SliceV)(x1:Int)(K:(Option Addr)→ad→Prop)(h0:ad):Prop:=
 At (hnew h0 [.int .i64 x1] sG) (fun h1=>
 ∃v2,aP h1 (aj h0)=some (.int .i64 v2)∧
 CondP (v2==(13:Int)) (
 HC PG rD [] [.c .ptr] (fun(e3:Option Addr) h4=>
 LoopP (fun I5 (t6:(Option Addr)×Int) h7=>
 CondP (decide (t6.2<(x0.len:Int))) (
 (bZ t6.2 x0.len∧∃a8,x0.a=some a8∧
 ∃v9,ay h7 (adr a8 (t6.2.toNat*3)) 0 v9∧
 ∃v10,ay h7 (adr a8 (t6.2.toNat*3)) 1 v10∧
 ∃v11,aG h7 (adr a8 (t6.2.toNat*3)) 2 v11∧
 nv h7 L7 bN (JQ v9 v10 v11) (fun h13=>
 ∃v14,ay h13 (adr (aj h7) 0) 0 v14∧
 ∃v15,ay h13 (adr (aj h7) 0) 1 v15∧
 HC PG iU [.pointer t6.1,.pointer none,qM v14 v15] [.c .ptr] (fun(e16:Option Addr) h17=>
 I5 (e16,IntKind.wrap .i64 (t6.2+1)) h17) h13))) (
 K t6.1 h7)) (e3,0) h4) h1) (
 At (hnew h1 [Value.nilFunc] pH) (fun h18=>
 (Wr h18 (aj h1)∧
 At (hset h18 (aj h1) (.func (.func tD) #[] #[.pointer (some (aj h0))])) (fun h19=>
 HC PG eA [.slice x0.a x0.len x0.cap] [.c .slice] (fun(e20:SliceV) h21=>
 HC PG dk [.slice e20.a e20.len e20.cap,.func (.func tC) #[] #[.pointer (some (aj h1))]] [] (fun(e22:Unit) h23=>
 HC PG nI [] [.c .ptr] (fun(e24:Option Addr) h25=>
 LoopP (fun I26 (t27:SliceV×(Option Addr)) h28=>
 CondP (decide ((t27.1.len:Int)>(0:Int))) (
 ∃v29,aP h28 (aj h1)=some (v29)∧
 (bZ 0 t27.1.len∧∃a30,t27.1.a=some a30∧
 ∃v31,ay h28 (adr a30 ((0:Int).toNat*3)) 0 v31∧
 ∃v32,ay h28 (adr a30 ((0:Int).toNat*3)) 1 v32∧
 ∃v33,aG h28 (adr a30 ((0:Int).toNat*3)) 2 v33∧
 ((HV PG v29 [Ak v31 v32 v33] bT (fun(e34:Int) h35=>
 At (hnew h35 [.int .i64 0] sG) (fun h36=>
 (Wr h36 (aj h35)∧
 At (hset h36 (aj h35) (.int .i64 e34)) (fun h37=>
 HC PG cR [.slice t27.1.a t27.1.len t27.1.cap,.func (.func tB) #[] #[.pointer (some (aj h1)),.pointer (some (aj h35))]] bT (fun(e38:Int) h39=>
 Join (fun(t41:Int) h42=>
 Join (fun(t56:Option Addr) h57=>
 (((0:Int)≤t41∧t41≤((t27.1.len:Nat):Int))∧
 I26 (⟨aU t27.1.a t41.toNat t27.1.cap 3,t27.1.len-t41.toNat,t27.1.cap-t41.toNat⟩,t56) h57)) (fun J43=>
 CondP (t41==(1:Int)) (
 ∃v44,aP h42 (aj h35)=some (.int .i64 v44)∧
 (bZ 0 t27.1.len∧∃a45,t27.1.a=some a45∧
 ∃v46,aL h42 (adr (adr a45 ((0:Int).toNat*3)) 0) 0 (.string v46)∧
 ∃v47,aL h42 (adr (adr a45 ((0:Int).toNat*3)) 0) 1 (.string v47)∧
 HC PG dS [.pointer t27.2,.pointer none,.int .i64 v44,qM v46 v47] [.c .ptr] (fun(e48:Option Addr) h49=>
 J43 e48 h49) h42)) (
 ∃v50,aP h42 (aj h35)=some (.int .i64 v50)∧
 (((0:Int)≤t41∧t41≤((t27.1.cap:Nat):Int))∧
 ∃v51,aP h42 (aj h0)=some (.int .i64 v51)∧
 HC PG qm [.slice (aU t27.1.a 0 t27.1.cap 3) (t41.toNat-0) (t27.1.cap-0),.int .i64 (IntKind.wrap .i64 (v51+1))] [.c .ptr] (fun(e52:Option Addr) h53=>
 (aP h53 (aj h0)=some (.int .i64 v51)∧
 (aP h53 (aj h35)=some (.int .i64 v50)∧
 HC PG fa (zj t27.2 none v50 e52) [.c .ptr] (fun(e54:Option Addr) h55=>
 (aP h55 (aj h0)=some (.int .i64 v51)∧
 J43 e54 h55)) h53))) h42)))) (fun J40=>
 CondP (decide (e38<(0:Int))) (
 J40 (t27.1.len:Int) h39) (
 J40 e38 h39))) h37)))) h28)∧
 At (hnew h28 [.int .i64 0] sG) (fun h58=>
 ((ay h58 (adr a30 ((0:Int).toNat*3)) 0 v31∧ay h58 (adr a30 ((0:Int).toNat*3)) 1 v32∧aG h58 (adr a30 ((0:Int).toNat*3)) 2 v33)∧
 (aP h58 (aj h1)=some (v29)∧
 HV PG v29 [Ak v31 v32 v33] bT (fun(e59:Int) h60=>
 (Wr h60 (aj h28)∧
 At (hset h60 (aj h28) (.int .i64 e59)) (fun h61=>
 HC PG cR [.slice t27.1.a t27.1.len t27.1.cap,.func (.func tB) #[] #[.pointer (some (aj h1)),.pointer (some (aj h28))]] bT (fun(e62:Int) h63=>
 Join (fun(t65:Int) h66=>
 Join (fun(t80:Option Addr) h81=>
 (((0:Int)≤t65∧t65≤((t27.1.len:Nat):Int))∧
 I26 (⟨aU t27.1.a t65.toNat t27.1.cap 3,t27.1.len-t65.toNat,t27.1.cap-t65.toNat⟩,t80) h81)) (fun J67=>
 CondP (t65==(1:Int)) (
 ∃v68,aP h66 (aj h28)=some (.int .i64 v68)∧
 (bZ 0 t27.1.len∧∃a69,t27.1.a=some a69∧
 ∃v70,aL h66 (adr (adr a69 ((0:Int).toNat*3)) 0) 0 (.string v70)∧
 ∃v71,aL h66 (adr (adr a69 ((0:Int).toNat*3)) 0) 1 (.string v71)∧
 HC PG dS [.pointer t27.2,.pointer none,.int .i64 v68,qM v70 v71] [.c .ptr] (fun(e72:Option Addr) h73=>
 J67 e72 h73) h66)) (
 ∃v74,aP h66 (aj h28)=some (.int .i64 v74)∧
 (((0:Int)≤t65∧t65≤((t27.1.cap:Nat):Int))∧
 ∃v75,aP h66 (aj h0)=some (.int .i64 v75)∧
 HC PG qm [.slice (aU t27.1.a 0 t27.1.cap 3) (t65.toNat-0) (t27.1.cap-0),.int .i64 (IntKind.wrap .i64 (v75+1))] [.c .ptr] (fun(e76:Option Addr) h77=>
 (aP h77 (aj h0)=some (.int .i64 v75)∧
 (aP h77 (aj h28)=some (.int .i64 v74)∧
 HC PG fa (zj t27.2 none v74 e76) [.c .ptr] (fun(e78:Option Addr) h79=>
 (aP h79 (aj h0)=some (.int .i64 v75)∧
 J67 e78 h79)) h77))) h66)))) (fun J64=>
 CondP (decide (e62<(0:Int))) (
 J64 (t27.1.len:Int) h63) (
 J64 e62 h63))) h61))) h58)))))) (
 K t27.2 h28)) (e20,e24) h25) h23) h21) h19)))))
noncomputable def JE:Ann:=.node .nil (.node (.node .nil (.node (.node .nil (.node (.node .nil (.loop [(5,.c .ptr),(17,.c (.int .i64))] .nil)) .nil)) .nil)) (.node .nil (.node .nil (.node .nil (.node .nil (.node (.loop [(0,.c .slice),(9,.c .ptr)] (.node .nil (.node .nil (.node .nil (.join [(11,.c (.int .i64))] .nil (.join [(9,.c .ptr)] .nil .nil)))))) .nil))))))
theorem Bu(x0:SliceV)(x1:Int){K:cN [.c .ptr]→ad→Prop}{h0:ad}(h:wY x0 x1 K h0):HC PG qm (SI x0 x1) [.c .ptr] K h0:=dB JE Tryz.func108 Tryz.call108 rfl rfl (by kernel_rfl) h
def vR(x0:Option Addr)(x1:Option Addr)(x2:ByteArray)(x3:ByteArray)(K:((Option Addr)×Bool×Bool)→ad→Prop)(h0:ad):Prop:=
 CondP (x2.toList==(⟨#[]⟩:ByteArray).toList) (
 Join (fun(t6:Bool) h7=>
 CondP t6 (
 K (x0,false,false) h7) (
 ∃a8,x0=some a8∧
 ∃v9,be h7 a8 1 v9∧
 HC PG dX (mN x0 x1) [.c .ptr] (fun(e10:Option Addr) h11=>
 (be h11 a8 1 v9∧
 HC PG ko (xx e10 x3) [.c .ptr] (fun(e12:Option Addr) h13=>
 (be h13 a8 1 v9∧
 K (e12, !v9,true) h13)) h11)) h7)) (fun J1=>
 ∃a2,x0=some a2∧
 ∃v3,be h0 a2 1 v3∧
 CondP v3 (
 ∃a4,x0=some a4∧
 ∃v5,ay h0 a4 2 v5∧
 J1 (v5.toList==x3.toList) h0) (
 J1 false h0))) (
 ∃b14,(0:Int)≤(0:Int)∧x2[(0:Int).toNat]? =some b14∧
 HC PG jQ (ED x0 (b14.toNat:Int)) iV (fun(e15:Int×Bool) h16=>
 CondP (!e15.2) (
 HC PG dX (mN x0 x1) [.c .ptr] (fun(e17:Option Addr) h18=>
 ∃a19,e17=some a19∧
 ∃v20:SliceV,bW h18 a19 3 v20∧
 HC PG uX (Uj x1 x2 x3) [.c .ptr] (fun(e21:Option Addr) h22=>
 (bW h22 a19 3 v20∧
 At (hnew h22 [.pointer e21] bK) (fun h23=>
 (bW h23 a19 3 v20∧
 HC PG ee [.slice v20.a v20.len v20.cap,.int .i64 e15.1,.slice (some (aj h22)) 1 1] [.c .slice] (fun(e24:SliceV) h25=>
 ∃a26,e17=some a26∧
 (dN h25 (adr a26 3) (.slice e24.a e24.len e24.cap) (fun h27=>
 K (e17,true,true) h27))) h23)))) h18) h16) (
 ∃a28,x0=some a28∧
 ∃v29:SliceV,bW h16 a28 3 v29∧
 (bZ e15.1 v29.len∧∃a30,v29.a=some a30∧
 ∃v31,aL h16 a30 (e15.1.toNat*1) (.pointer v31)∧
 ∃a32,v31=some a32∧
 ∃v33,ay h16 a32 0 v33∧
 HC PG uV (jG x2 v33) bT (fun(e34:Int) h35=>
 Join (fun(t41:Option Addr) h42=>
 (((0:Int)≤e34∧e34≤((x2.size:Nat):Int))∧
 HC PG nF (QG t41 x1 (x2.extract e34.toNat x2.size) x3) uj (fun(e43:(Option Addr)×Bool×Bool) h44=>
 CondP (!e43.2.2) (
 K (x0,false,false) h44) (
 HC PG dX (mN x0 x1) [.c .ptr] (fun(e45:Option Addr) h46=>
 ∃a47,e45=some a47∧
 ∃v48:SliceV,bW h46 a47 3 v48∧
 (bZ e15.1 v48.len∧∃a49,v48.a=some a49∧
 (dN h46 (adr a49 (e15.1.toNat*1)) (.pointer e43.1) (fun h50=>
 K (e45,e43.2.1,true) h50)))) h44)) h42)) (fun J36=>
 ∃a37,v31=some a37∧
 ∃v38,ay h35 a37 0 v38∧
 CondP (decide (e34<(v38.size:Int))) (
 HC PG po (Ij v31 x1 e34) [.c .ptr] (fun(e39:Option Addr) h40=>
 J36 e39 h40) h35) (
 J36 v31 h35))) h16))) h0)
noncomputable def CQ:Ann:=.node .nil (.node (.node .nil (.node (.node (.join [(33,.c .bool)] .nil .nil) .nil) .nil)) (.node .nil (.node .nil (.node .nil (.node .nil (.join [(14,.c .ptr)] .nil .nil))))))
theorem CG(x0:Option Addr)(x1:Option Addr)(x2:ByteArray)(x3:ByteArray){K:cN uj→ad→Prop}{h0:ad}(h:vR x0 x1 x2 x3 K h0):HC PG nF (QG x0 x1 x2 x3) uj K h0:=dB CQ Tryz.func109 Tryz.call109 rfl rfl (by kernel_rfl) h
def rp(x0:Int×Int×Int×(Option Addr)×ByteArray×Int)(x1:Option Addr)(x2:ByteArray×ByteArray)(x3:Int)(K:((Option Addr)×Bool×Bool)→ad→Prop)(h0:ad):Prop:=
 At (hnew h0 (IL x0) cK) (fun h1=>
 At (hnew h1 (vo x2) af) (fun h2=>
 HC PG dF [.pointer x1] [.c .bool] (fun(e3:Bool) h4=>
 CondP e3 (
 ∃v5,av h4 h1 0 v5∧
 HC PG rh (xx x1 v5) lj (fun(e6:ByteArray×Bool) h7=>
 Join (fun(t10:Bool) h11=>
 CondP t10 (
 K (x1,false,false) h11) (
 ∃v12,au h11 h0 3 v12∧
 ∃v13,av h11 h1 0 v13∧
 ∃v14,av h11 h1 1 v14∧
 HC PG iU [.pointer x1,.pointer v12,qM v13 v14] [.c .ptr] (fun(e15:Option Addr) h16=>
 K (e15, !e6.2,true) h16) h11)) (fun J8=>
 CondP e6.2 (
 ∃v9,av h7 h1 1 v9∧
 J8 (e6.1.toList==v9.toList) h7) (
 J8 false h7))) h4) (
 ∃v17,ae h4 h0 5 v17∧
 HC PG lr (tc v17 x3) bT (fun(e18:Int) h19=>
 HC PG jl (kY x1 e18) qa (fun(e20:(ByteArray×ByteArray)×Bool) h21=>
 nv h21 oT af (vo e20.1) (fun h23=>
 CondP e20.2 (
 ∃v24,av h23 h21 0 v24∧
 ∃v25,av h23 h21 1 v25∧
 ∃v26,av h23 h1 0 v26∧
 ∃v27,av h23 h1 1 v27∧
 CondP ((v24.toList==v26.toList)&&((v25.toList==v27.toList)&&true)) (
 K (x1,false,false) h23) (
 ∃v28,av h23 h21 0 v28∧
 ∃v29,av h23 h1 0 v29∧
 CondP (v28.toList==v29.toList) (
 ∃v30,au h23 h0 3 v30∧
 ∃v31,av h23 h1 0 v31∧
 ∃v32,av h23 h1 1 v32∧
 HC PG dS [.pointer x1,.pointer v30,.int .i64 e18,qM v31 v32] [.c .ptr] (fun(e33:Option Addr) h34=>
 K (e33,false,true) h34) h23) (
 ∃v35,au h23 h0 3 v35∧
 ∃v36,ae h23 h0 0 v36∧
 ∃v37,ae h23 h0 1 v37∧
 ∃v38,ae h23 h0 2 v38∧
 ∃v39,au h23 h0 3 v39∧
 ∃v40,av h23 h0 4 v40∧
 ∃v41,ae h23 h0 5 v41∧
 ∃v42,av h23 h21 0 v42∧
 ∃v43,av h23 h21 1 v43∧
 ∃v44,av h23 h1 0 v44∧
 ∃v45,av h23 h1 1 v45∧
 HC PG mz [zk v36 v37 v38 v39 v40 v41,qM v42 v43,qM v44 v45,.int .i64 (IntKind.wrap .i64 (x3+1))] [.c .ptr] (fun(e46:Option Addr) h47=>
 (au h47 h0 3 v35∧
 HC PG fa (zj x1 v35 e18 e46) [.c .ptr] (fun(e48:Option Addr) h49=>
 K (e48,true,true) h49) h47)) h23))) (
 HC PG gT (kY x1 e18) gf (fun(e50:(Option Addr)×Bool) h51=>
 CondP (!e50.2) (
 ∃v52,au h51 h0 3 v52∧
 ∃v53,av h51 h1 0 v53∧
 ∃v54,av h51 h1 1 v54∧
 HC PG dS [.pointer x1,.pointer v52,.int .i64 e18,qM v53 v54] [.c .ptr] (fun(e55:Option Addr) h56=>
 K (e55,true,true) h56) h51) (
 ∃v57,ae h51 h0 0 v57∧
 ∃v58,ae h51 h0 1 v58∧
 ∃v59,ae h51 h0 2 v59∧
 ∃v60,au h51 h0 3 v60∧
 ∃v61,av h51 h0 4 v61∧
 ∃v62,ae h51 h0 5 v62∧
 ∃v63,av h51 h1 0 v63∧
 ∃v64,av h51 h1 1 v64∧
 HC PG jm [zk v57 v58 v59 v60 v61 v62,.pointer e50.1,qM v63 v64,.int .i64 (IntKind.wrap .i64 (x3+1))] uj (fun(e65:(Option Addr)×Bool×Bool) h66=>
 CondP (!e65.2.2) (
 K (x1,false,false) h66) (
 ∃v67,au h66 h0 3 v67∧
 HC PG fa (zj x1 v67 e18 e65.1) [.c .ptr] (fun(e68:Option Addr) h69=>
 K (e68,e65.2.1,true) h69) h66)) h51)) h23))) h19) h4)) h2))
noncomputable def CV:Ann:=.node .nil (.node (.node .nil (.node (.node .nil (.node (.join [(36,.c .bool)] .nil .nil) .nil)) .nil)) .nil)
theorem vM(x0:Int×Int×Int×(Option Addr)×ByteArray×Int)(x1:Option Addr)(x2:ByteArray×ByteArray)(x3:Int){K:cN uj→ad→Prop}{h0:ad}(h:rp x0 x1 x2 x3 K h0):HC PG jm [UC x0,.pointer x1,OD x2,.int .i64 x3] uj K h0:=dB CV Tryz.func110 Tryz.call110 rfl rfl (by kernel_rfl) h
def uG(x0:Option Addr)(x1:Option Addr)(x2:ByteArray)(K:((Option Addr)×Bool)→ad→Prop)(h0:ad):Prop:=
 CondP (x2.toList==(⟨#[]⟩:ByteArray).toList) (
 ∃a1,x0=some a1∧
 ∃v2,be h0 a1 1 v2∧
 CondP (!v2) (
 K (x0,false) h0) (
 HC PG dX (mN x0 x1) [.c .ptr] (fun(e3:Option Addr) h4=>
 ∃a5,e3=some a5∧
 (dN h4 (adr a5 1) (.bool false) (fun h6=>
 ∃a7,e3=some a7∧
 (dN h6 (adr a7 2) (.string (⟨#[]⟩:ByteArray)) (fun h8=>
 K (e3,true) h8))))) h0)) (
 ∃b9,(0:Int)≤(0:Int)∧x2[(0:Int).toNat]? =some b9∧
 HC PG jQ (ED x0 (b9.toNat:Int)) iV (fun(e10:Int×Bool) h11=>
 CondP (!e10.2) (
 K (x0,false) h11) (
 ∃a12,x0=some a12∧
 ∃v13:SliceV,bW h11 a12 3 v13∧
 (bZ e10.1 v13.len∧∃a14,v13.a=some a14∧
 ∃v15,aL h11 a14 (e10.1.toNat*1) (.pointer v15)∧
 ∃a16,v15=some a16∧
 ∃v17,ay h11 a16 0 v17∧
 HC PG wG (jG x2 v17) lj (fun(e18:ByteArray×Bool) h19=>
 CondP (!e18.2) (
 K (x0,false) h19) (
 ∃a20,x0=some a20∧
 ∃v21:SliceV,bW h19 a20 3 v21∧
 (bZ e10.1 v21.len∧∃a22,v21.a=some a22∧
 ∃v23,aL h19 a22 (e10.1.toNat*1) (.pointer v23)∧
 HC PG mr (DX v23 x1 e18.1) gf (fun(e24:(Option Addr)×Bool) h25=>
 CondP (!e24.2) (
 K (x0,false) h25) (
 HC PG dX (mN x0 x1) [.c .ptr] (fun(e26:Option Addr) h27=>
 HC PG qg (mN e24.1 x1) [.c .ptr] (fun(e28:Option Addr) h29=>
 CondP e28.isNone (
 ∃a30,e26=some a30∧
 ∃v31:SliceV,bW h29 a30 3 v31∧
 HC PG ef (JP v31 e10.1 (IntKind.wrap .i64 (e10.1+1))) [.c .slice] (fun(e32:SliceV) h33=>
 ∃a34,e26=some a34∧
 (dN h33 (adr a34 3) (.slice e32.a e32.len e32.cap) (fun h35=>
 K (e26,true) h35))) h29) (
 ∃a36,e26=some a36∧
 ∃v37:SliceV,bW h29 a36 3 v37∧
 (bZ e10.1 v37.len∧∃a38,v37.a=some a38∧
 (dN h29 (adr a38 (e10.1.toNat*1)) (.pointer e28) (fun h39=>
 K (e26,true) h39))))) h27) h25)) h19))) h11))) h0)
theorem Bg(x0:Option Addr)(x1:Option Addr)(x2:ByteArray){K:cN gf→ad→Prop}{h0:ad}(h:uG x0 x1 x2 K h0):HC PG mr (DX x0 x1 x2) gf K h0:=dB .nil Tryz.func111 Tryz.call111 rfl rfl (by kernel_rfl) h
def qt(x0:Int×Int×Int×(Option Addr)×ByteArray×Int)(x1:Option Addr)(x2:Int)(K:((Option Addr)×Bool)→ad→Prop)(h0:ad):Prop:=
 At (hnew h0 (IL x0) cK) (fun h1=>
 HC PG dF [.pointer x1] [.c .bool] (fun(e2:Bool) h3=>
 CondP e2 (
 ∃v4,av h3 h0 4 v4∧
 HC PG rh (xx x1 v4) lj (fun(e5:ByteArray×Bool) h6=>
 CondP (!e5.2) (
 K (x1,false) h6) (
 ∃v7,au h6 h0 3 v7∧
 ∃v8,av h6 h0 4 v8∧
 HC PG rg (DX x1 v7 v8) [.c .ptr] (fun(e9:Option Addr) h10=>
 K (e9,true) h10) h6)) h3) (
 ∃v11,ae h3 h0 5 v11∧
 HC PG lr (tc v11 x2) bT (fun(e12:Int) h13=>
 HC PG jl (kY x1 e12) qa (fun(e14:(ByteArray×ByteArray)×Bool) h15=>
 nv h15 oT af (vo e14.1) (fun h17=>
 CondP e14.2 (
 ∃v18,av h17 h15 0 v18∧
 ∃v19,av h17 h0 4 v19∧
 CondP (!(v18.toList==v19.toList)) (
 K (x1,false) h17) (
 ∃v20,au h17 h0 3 v20∧
 HC PG mu (Ij x1 v20 e12) [.c .ptr] (fun(e21:Option Addr) h22=>
 K (e21,true) h22) h17)) (
 HC PG gT (kY x1 e12) gf (fun(e23:(Option Addr)×Bool) h24=>
 CondP (!e23.2) (
 K (x1,false) h24) (
 ∃v25,ae h24 h0 0 v25∧
 ∃v26,ae h24 h0 1 v26∧
 ∃v27,ae h24 h0 2 v27∧
 ∃v28,au h24 h0 3 v28∧
 ∃v29,av h24 h0 4 v29∧
 ∃v30,ae h24 h0 5 v30∧
 HC PG my [zk v25 v26 v27 v28 v29 v30,.pointer e23.1,.int .i64 (IntKind.wrap .i64 (x2+1))] gf (fun(e31:(Option Addr)×Bool) h32=>
 CondP (!e31.2) (
 K (x1,false) h32) (
 HC PG u3 [.pointer e31.1] qa (fun(e33:(ByteArray×ByteArray)×Bool) h34=>
 nv h34 oT af (vo e33.1) (fun h36=>
 CondP e33.2 (
 ∃v37,au h36 h0 3 v37∧
 ∃v38,av h36 h34 0 v38∧
 ∃v39,av h36 h34 1 v39∧
 HC PG dS [.pointer x1,.pointer v37,.int .i64 e12,qM v38 v39] [.c .ptr] (fun(e40:Option Addr) h41=>
 K (e40,true) h41) h36) (
 ∃v42,au h36 h0 3 v42∧
 HC PG fa (zj x1 v42 e12 e31.1) [.c .ptr] (fun(e43:Option Addr) h44=>
 K (e43,true) h44) h36))) h32)) h24)) h17))) h13) h3)) h1)
theorem ux(x0:Int×Int×Int×(Option Addr)×ByteArray×Int)(x1:Option Addr)(x2:Int){K:cN gf→ad→Prop}{h0:ad}(h:qt x0 x1 x2 K h0):HC PG my [UC x0,.pointer x1,.int .i64 x2] gf K h0:=dB .nil Tryz.func112 Tryz.call112 rfl rfl (by kernel_rfl) h
def F9(x0:SliceV)(x1:ByteArray)(K:(Int×Bool)→ad→Prop)(h0:ad):Prop:=
 LoopP (fun I1 (t2:Int) h3=>
 Join (fun(t9:Bool) h10=>
 CondP t9 (
 I1 (IntKind.wrap .i64 (t2+1)) h10) (
 CondP (decide (t2<(x0.len:Int))) (
 (bZ t2 x0.len∧∃a11,x0.a=some a11∧
 ∃v12,ay h10 (adr a11 (t2.toNat*2)) 0 v12∧
 K (t2,v12.toList==x1.toList) h10)) (
 K (t2,false) h10))) (fun J4=>
 CondP (decide (t2<(x0.len:Int))) (
 (bZ t2 x0.len∧∃a5,x0.a=some a5∧
 ∃v6,ay h3 (adr a5 (t2.toNat*2)) 0 v6∧
 HC PG wK (jG v6 x1) [.c .bool] (fun(e7:Bool) h8=>
 J4 e7 h8) h3)) (
 J4 false h3))) 0 h0
noncomputable def N1:Ann:=.node .nil (.node .nil (.node (.loop [(6,.c (.int .i64))] (.node (.join [(19,.c .bool)] .nil .nil) .nil)) .nil))
theorem NQ(x0:SliceV)(x1:ByteArray){K:cN iV→ad→Prop}{h0:ad}(h:F9 x0 x1 K h0):HC PG zN (qQ x0 x1) iV K h0:=dB N1 Tryz.func113 Tryz.call113 rfl rfl (by kernel_rfl) h
def gF(x0:SliceV)(K:(SliceV)→ad→Prop)(h0:ad):Prop:=
 CondP x0.a.isNone (
 K ⟨none,0,0⟩ h0) (
 At (hnew h0 [] bK) (fun h1=>
 ∃xs2,SRow h1 x0.a (x0.len*1) xs2∧
 AppP (some [.pointer none]) 1 8 bK (some (aj h0)) 0 0 x0.len xs2 h1 (fun s3 h4=>
 K s3 h4)))
theorem lD(x0:SliceV){K:cN [.c .slice]→ad→Prop}{h0:ad}(h:gF x0 K h0):HC PG dd [.slice x0.a x0.len x0.cap] [.c .slice] K h0:=dB .nil Tryz.func114 Tryz.call114 rfl rfl (by kernel_rfl) h
def iZ(x0:SliceV)(K:(SliceV)→ad→Prop)(h0:ad):Prop:=
 CondP x0.a.isNone (
 K ⟨none,0,0⟩ h0) (
 At (hnew h0 [] af) (fun h1=>
 ∃xs2,SRow h1 x0.a (x0.len*2) xs2∧
 AppP (some oT) 2 32 af (some (aj h0)) 0 0 x0.len xs2 h1 (fun s3 h4=>
 K s3 h4)))
theorem om(x0:SliceV){K:cN [.c .slice]→ad→Prop}{h0:ad}(h:iZ x0 K h0):HC PG cC [.slice x0.a x0.len x0.cap] [.c .slice] K h0:=dB .nil Tryz.func115 Tryz.call115 rfl rfl (by kernel_rfl) h
def uL(x0:Option Addr)(K:(Int)→ad→Prop)(h0:ad):Prop:=
 CondP x0.isNone (
 K 0 h0) (
 ∃a1,x0=some a1∧
 ∃v2,iI h0 (adr a1 0) 1 v2∧
 K v2 h0)
theorem Bl(x0:Option Addr){K:cN kI→ad→Prop}{h0:ad}(h:uL x0 K h0):HC PG jU [.pointer x0] kI K h0:=dB .nil Tryz.func116 Tryz.call116 rfl rfl (by kernel_rfl) h
def vY(x0:Int)(x1:Int)(K:(Bool)→ad→Prop)(h0:ad):Prop:=
 HC PG oE [.int .i64 x1] [.c .bool] (fun(e1:Bool) h2=>
 CondP e1 (
 ((0:Int)≤x1∧
 Bd (IntKind.wrap .u32 (ar (IntKind.bits .u32) (dM x0 (2^(min (x1:Int).toNat (IntKind.bits .u32))))&&&ar (IntKind.bits .u32) 1).toNat:Int) (fun n3=>
 K (n3==(1:Int)) h2))) (
 K false h2)) h0
theorem CO(x0:Int)(x1:Int){K:cN [.c .bool]→ad→Prop}{h0:ad}(h:vY x0 x1 K h0):HC PG gi (pe x0 x1) [.c .bool] K h0:=dB .nil Tryz.func117 Tryz.call117 rfl rfl (by kernel_rfl) h
def uR(x0:Int)(x1:Int)(K:(Int)→ad→Prop)(h0:ad):Prop:=
 CondP (decide (x1≤(0:Int))) (
 K 0 h0) (
 CondP (decide (x1≥(32:Int))) (
 HC PG pr [.int .u32 x0] bT (fun(e1:Int) h2=>
 K e1 h2) h0) (
 ((0:Int)≤x1∧
 Bd (IntKind.wrap .u32 ((IntKind.wrap .u32 (1*2^(min (x1:Int).toNat (IntKind.bits .u32))))-1):Int) (fun n3=>
 Bd (IntKind.wrap .u32 (ar (IntKind.bits .u32) x0&&&ar (IntKind.bits .u32) n3).toNat:Int) (fun n4=>
 HC PG pr [.int .u32 n4] bT (fun(e5:Int) h6=>
 K e5 h6) h0)))))
theorem Bt(x0:Int)(x1:Int){K:cN bT→ad→Prop}{h0:ad}(h:uR x0 x1 K h0):HC PG dt (pe x0 x1) bT K h0:=dB .nil Tryz.func118 Tryz.call118 rfl rfl (by kernel_rfl) h
def BB(K:(Option Addr)→ad→Prop)(h0:ad):Prop:=
 At (hnew h0 Qw bw) (fun h1=>
 K (some (aj h0)) h1)
theorem Jw{K:cN [.c .ptr]→ad→Prop}{h0:ad}(h:BB K h0):HC PG nI [] [.c .ptr] K h0:=dB .nil Tryz.func119 Tryz.call119 rfl rfl (by kernel_rfl) h
def eH(x0:SliceV)(x1:Int)(x2:Int)(x3:Value)(K:(Unit)→ad→Prop)(h0:ad):Prop:=
 LoopP (fun I1 (t2:Int) h3=>
 CondP (decide (t2<x2)) (
 LoopP (fun I4 (t5:Int) h6=>
 Join (fun(t22:Bool) h23=>
 CondP t22 (
 (bZ (IntKind.wrap .i64 (t5-1)) x0.len∧∃a24,x0.a=some a24∧
 ∃v25,aL h23 (adr a24 ((IntKind.wrap .i64 (t5-1)).toNat*5)) 0 (.string v25)∧
 ∃v26,aL h23 (adr a24 ((IntKind.wrap .i64 (t5-1)).toNat*5)) 1 (.string v26)∧
 ∃v27,aL h23 (adr a24 ((IntKind.wrap .i64 (t5-1)).toNat*5)) 2 (.string v27)∧
 ∃v28,aL h23 (adr a24 ((IntKind.wrap .i64 (t5-1)).toNat*5)) 3 (.bool v28)∧
 ∃v29,aL h23 (adr a24 ((IntKind.wrap .i64 (t5-1)).toNat*5)) 4 (.bool v29)∧
 (bZ t5 x0.len∧∃a30,x0.a=some a30∧
 ∃v31,ay h23 (adr a30 (t5.toNat*5)) 0 v31∧
 ∃v32,ay h23 (adr a30 (t5.toNat*5)) 1 v32∧
 ∃v33,ay h23 (adr a30 (t5.toNat*5)) 2 v33∧
 ∃v34,be h23 (adr a30 (t5.toNat*5)) 3 v34∧
 ∃v35,be h23 (adr a30 (t5.toNat*5)) 4 v35∧
 (bZ t5 x0.len∧∃a36,x0.a=some a36∧
 (ft h23 (adr a36 (t5.toNat*5)) (jC v25 v26 v27 v28 v29) (fun h37=>
 (bZ (IntKind.wrap .i64 (t5-1)) x0.len∧∃a38,x0.a=some a38∧
 (ft h37 (adr a38 ((IntKind.wrap .i64 (t5-1)).toNat*5)) (jC v31 v32 v33 v34 v35) (fun h39=>
 I4 (IntKind.wrap .i64 (t5-1)) h39))))))))) (
 I1 (IntKind.wrap .i64 (t2+1)) h23)) (fun J7=>
 CondP (decide (t5>x1)) (
 (bZ t5 x0.len∧∃a8,x0.a=some a8∧
 ∃v9,ay h6 (adr a8 (t5.toNat*5)) 0 v9∧
 ∃v10,ay h6 (adr a8 (t5.toNat*5)) 1 v10∧
 ∃v11,ay h6 (adr a8 (t5.toNat*5)) 2 v11∧
 ∃v12,be h6 (adr a8 (t5.toNat*5)) 3 v12∧
 ∃v13,be h6 (adr a8 (t5.toNat*5)) 4 v13∧
 (bZ (IntKind.wrap .i64 (t5-1)) x0.len∧∃a14,x0.a=some a14∧
 ∃v15,aL h6 (adr a14 ((IntKind.wrap .i64 (t5-1)).toNat*5)) 0 (.string v15)∧
 ∃v16,aL h6 (adr a14 ((IntKind.wrap .i64 (t5-1)).toNat*5)) 1 (.string v16)∧
 ∃v17,aL h6 (adr a14 ((IntKind.wrap .i64 (t5-1)).toNat*5)) 2 (.string v17)∧
 ∃v18,aL h6 (adr a14 ((IntKind.wrap .i64 (t5-1)).toNat*5)) 3 (.bool v18)∧
 ∃v19,aL h6 (adr a14 ((IntKind.wrap .i64 (t5-1)).toNat*5)) 4 (.bool v19)∧
 HV PG x3 [l6 v9 v10 v11 v12 v13,l6 v15 v16 v17 v18 v19] bT (fun(e20:Int) h21=>
 J7 (decide (e20<(0:Int))) h21) h6))) (
 J7 false h6))) t2 h3) (
 K () h3)) (IntKind.wrap .i64 (x1+1)) h0
noncomputable def lU:Ann:=.node .nil (.loop [(8,.c (.int .i64))] (.node .nil (.node (.node .nil (.loop [(9,.c (.int .i64))] (.node (.join [(34,.c .bool)] .nil .nil) .nil))) .nil)))
theorem gU(x0:SliceV)(x1:Int)(x2:Int)(x3:Value){K:cN []→ad→Prop}{h0:ad}(h:eH x0 x1 x2 x3 K h0):HC PG dq [.slice x0.a x0.len x0.cap,.int .i64 x1,.int .i64 x2,x3] [] K h0:=dB lU Tryz.func120 Tryz.call120 rfl rfl (by kernel_rfl) h
def iY(x0:SliceV)(x1:Int)(x2:Int)(x3:Value)(K:(Unit)→ad→Prop)(h0:ad):Prop:=
 ((2:Int)≠0∧
 Bd (IntKind.wrap .i64 (np (IntKind.wrap .i64 ((IntKind.wrap .i64 (x2-x1))-1)) 2):Int) (fun n1=>
 LoopP (fun I2 (t3:Int) h4=>
 CondP (decide (t3≥(0:Int))) (
 HC PG dR [.slice x0.a x0.len x0.cap,.int .i64 t3,.int .i64 (IntKind.wrap .i64 (x2-x1)),.int .i64 x1,x3] [] (fun(e5:Unit) h6=>
 I2 (IntKind.wrap .i64 (t3-1)) h6) h4) (
 LoopP (fun I7 (t8:Int) h9=>
 CondP (decide (t8≥(0:Int))) (
 (bZ (IntKind.wrap .i64 (x1+t8)) x0.len∧∃a10,x0.a=some a10∧
 ∃v11,aL h9 (adr a10 ((IntKind.wrap .i64 (x1+t8)).toNat*5)) 0 (.string v11)∧
 ∃v12,aL h9 (adr a10 ((IntKind.wrap .i64 (x1+t8)).toNat*5)) 1 (.string v12)∧
 ∃v13,aL h9 (adr a10 ((IntKind.wrap .i64 (x1+t8)).toNat*5)) 2 (.string v13)∧
 ∃v14,aL h9 (adr a10 ((IntKind.wrap .i64 (x1+t8)).toNat*5)) 3 (.bool v14)∧
 ∃v15,aL h9 (adr a10 ((IntKind.wrap .i64 (x1+t8)).toNat*5)) 4 (.bool v15)∧
 (bZ x1 x0.len∧∃a16,x0.a=some a16∧
 ∃v17,ay h9 (adr a16 (x1.toNat*5)) 0 v17∧
 ∃v18,ay h9 (adr a16 (x1.toNat*5)) 1 v18∧
 ∃v19,ay h9 (adr a16 (x1.toNat*5)) 2 v19∧
 ∃v20,be h9 (adr a16 (x1.toNat*5)) 3 v20∧
 ∃v21,be h9 (adr a16 (x1.toNat*5)) 4 v21∧
 (bZ x1 x0.len∧∃a22,x0.a=some a22∧
 (ft h9 (adr a22 (x1.toNat*5)) (jC v11 v12 v13 v14 v15) (fun h23=>
 (bZ (IntKind.wrap .i64 (x1+t8)) x0.len∧∃a24,x0.a=some a24∧
 (ft h23 (adr a24 ((IntKind.wrap .i64 (x1+t8)).toNat*5)) (jC v17 v18 v19 v20 v21) (fun h25=>
 HC PG dR [.slice x0.a x0.len x0.cap,.int .i64 0,.int .i64 t8,.int .i64 x1,x3] [] (fun(e26:Unit) h27=>
 I7 (IntKind.wrap .i64 (t8-1)) h27) h25))))))))) (
 K () h9)) (IntKind.wrap .i64 ((IntKind.wrap .i64 (x2-x1))-1)) h4)) n1 h0))
noncomputable def oq:Ann:=.node .nil (.node .nil (.node .nil (.node (.node .nil (.loop [(11,.c (.int .i64))] .nil)) (.node .nil (.loop [(12,.c (.int .i64))] .nil)))))
theorem ol(x0:SliceV)(x1:Int)(x2:Int)(x3:Value){K:cN []→ad→Prop}{h0:ad}(h:iY x0 x1 x2 x3 K h0):HC PG fC [.slice x0.a x0.len x0.cap,.int .i64 x1,.int .i64 x2,x3] [] K h0:=dB oq Tryz.func121 Tryz.call121 rfl rfl (by kernel_rfl) h
def gV(x0:SliceV)(x1:Int)(x2:Int)(x3:Value)(K:(Unit)→ad→Prop)(h0:ad):Prop:=
 CondP (decide ((IntKind.wrap .i64 (x2-x1))≥(8:Int))) (
 At (hnew h0 [.int .u64 0] iG) (fun h1=>
 (Wr h1 (aj h0)∧
 At (hset h1 (aj h0) (.int .u64 (IntKind.wrap .u64 (IntKind.wrap .i64 (x2-x1))))) (fun h2=>
 HC PG kJ [.int .i64 (IntKind.wrap .i64 (x2-x1))] gv (fun(e3:Int) h4=>
 ((4:Int)≠0∧
 Bd (IntKind.wrap .i64 ((IntKind.wrap .i64 (np (IntKind.wrap .i64 (x2-x1)) 4))*2):Int) (fun n5=>
 LoopP (fun I6 (t7:Int) h8=>
 ((4:Int)≠0∧
 Bd (IntKind.wrap .i64 ((IntKind.wrap .i64 (np (IntKind.wrap .i64 (x2-x1)) 4))*2):Int) (fun n9=>
 CondP (decide (t7≤(IntKind.wrap .i64 ((IntKind.wrap .i64 (x1+n9))+1)))) (
 HC PG lq [.pointer (some (aj h0))] gv (fun(e10:Int) h11=>
 Bd (IntKind.wrap .u64 (ar (IntKind.bits .u64) e10&&&ar (IntKind.bits .u64) (IntKind.wrap .u64 (e3-1))).toNat:Int) (fun n12=>
 Join (fun(t15:Int) h16=>
 (bZ (IntKind.wrap .i64 (x1+t15)) x0.len∧∃a17,x0.a=some a17∧
 ∃v18,aL h16 (adr a17 ((IntKind.wrap .i64 (x1+t15)).toNat*5)) 0 (.string v18)∧
 ∃v19,aL h16 (adr a17 ((IntKind.wrap .i64 (x1+t15)).toNat*5)) 1 (.string v19)∧
 ∃v20,aL h16 (adr a17 ((IntKind.wrap .i64 (x1+t15)).toNat*5)) 2 (.string v20)∧
 ∃v21,aL h16 (adr a17 ((IntKind.wrap .i64 (x1+t15)).toNat*5)) 3 (.bool v21)∧
 ∃v22,aL h16 (adr a17 ((IntKind.wrap .i64 (x1+t15)).toNat*5)) 4 (.bool v22)∧
 (bZ t7 x0.len∧∃a23,x0.a=some a23∧
 ∃v24,ay h16 (adr a23 (t7.toNat*5)) 0 v24∧
 ∃v25,ay h16 (adr a23 (t7.toNat*5)) 1 v25∧
 ∃v26,ay h16 (adr a23 (t7.toNat*5)) 2 v26∧
 ∃v27,be h16 (adr a23 (t7.toNat*5)) 3 v27∧
 ∃v28,be h16 (adr a23 (t7.toNat*5)) 4 v28∧
 (bZ t7 x0.len∧∃a29,x0.a=some a29∧
 (ft h16 (adr a29 (t7.toNat*5)) (jC v18 v19 v20 v21 v22) (fun h30=>
 (bZ (IntKind.wrap .i64 (x1+t15)) x0.len∧∃a31,x0.a=some a31∧
 (ft h30 (adr a31 ((IntKind.wrap .i64 (x1+t15)).toNat*5)) (jC v24 v25 v26 v27 v28) (fun h32=>
 I6 (IntKind.wrap .i64 (t7+1)) h32))))))))) (fun J13=>
 CondP (decide ((IntKind.wrap .i64 n12)≥(IntKind.wrap .i64 (x2-x1)))) (
 Bd (IntKind.wrap .i64 ((IntKind.wrap .i64 n12)-(IntKind.wrap .i64 (x2-x1))):Int) (fun n14=>
 J13 n14 h11)) (
 J13 (IntKind.wrap .i64 n12) h11)))) h8) (
 K () h8)))) (IntKind.wrap .i64 ((IntKind.wrap .i64 (x1+n5))-1)) h4))) h2)))) (
 K () h0)
noncomputable def lV:Ann:=.node .nil (.node .nil (.node (.node .nil (.node .nil (.node .nil (.loop [(11,.c (.int .i64))] (.node .nil (.node (.node .nil (.join [(12,.c (.int .i64))] .nil .nil)) .nil)))))) .nil))
theorem lQ(x0:SliceV)(x1:Int)(x2:Int)(x3:Value){K:cN []→ad→Prop}{h0:ad}(h:gV x0 x1 x2 x3 K h0):HC PG eE [.slice x0.a x0.len x0.cap,.int .i64 x1,.int .i64 x2,x3] [] K h0:=dB lV Tryz.func122 Tryz.call122 rfl rfl (by kernel_rfl) h
def iw(x0:SliceV)(x1:Int)(x2:Int)(x3:Value)(K:(Int×Int)→ad→Prop)(h0:ad):Prop:=
 At (hnew h0 [.int .i64 0] sG) (fun h1=>
 ((4:Int)≠0∧
 Bd (IntKind.wrap .i64 ((IntKind.wrap .i64 (np (IntKind.wrap .i64 (x2-x1)) 4))*1):Int) (fun n2=>
 ((4:Int)≠0∧
 Bd (IntKind.wrap .i64 ((IntKind.wrap .i64 (np (IntKind.wrap .i64 (x2-x1)) 4))*2):Int) (fun n3=>
 ((4:Int)≠0∧
 Bd (IntKind.wrap .i64 ((IntKind.wrap .i64 (np (IntKind.wrap .i64 (x2-x1)) 4))*3):Int) (fun n4=>
 Join (fun(t17:Int) h18=>
 ∃v19,aP h18 (aj h0)=some (.int .i64 v19)∧
 CondP (v19==(0:Int)) (
 K (t17,1) h18) (
 CondP (v19==(12:Int)) (
 K (t17,2) h18) (
 K (t17,0) h18))) (fun J5=>
 CondP (decide ((IntKind.wrap .i64 (x2-x1))≥(8:Int))) (
 Join (fun(t13:Int×Int×Int) h14=>
 HC PG ey [.slice x0.a x0.len x0.cap,.int .i64 t13.1,.int .i64 t13.2.1,.int .i64 t13.2.2,.pointer (some (aj h0)),x3] bT (fun(e15:Int) h16=>
 J5 e15 h16) h14) (fun J6=>
 CondP (decide ((IntKind.wrap .i64 (x2-x1))≥(50:Int))) (
 HC PG cA [.slice x0.a x0.len x0.cap,.int .i64 (IntKind.wrap .i64 (x1+n2)),.pointer (some (aj h0)),x3] bT (fun(e7:Int) h8=>
 HC PG cA [.slice x0.a x0.len x0.cap,.int .i64 (IntKind.wrap .i64 (x1+n3)),.pointer (some (aj h0)),x3] bT (fun(e9:Int) h10=>
 HC PG cA [.slice x0.a x0.len x0.cap,.int .i64 (IntKind.wrap .i64 (x1+n4)),.pointer (some (aj h0)),x3] bT (fun(e11:Int) h12=>
 J6 (e7,e9,e11) h12) h10) h8) h1) (
 J6 (IntKind.wrap .i64 (x1+n2),IntKind.wrap .i64 (x1+n3),IntKind.wrap .i64 (x1+n4)) h1))) (
 J5 (IntKind.wrap .i64 (x1+n3)) h1)))))))))
noncomputable def mJ:Ann:=.node .nil (.node .nil (.node .nil (.node .nil (.node .nil (.node .nil (.join [(13,.c (.int .i64))] (.node .nil (.node (.join [(12,.c (.int .i64)),(13,.c (.int .i64)),(14,.c (.int .i64))] .nil .nil) .nil)) .nil))))))
theorem mH(x0:SliceV)(x1:Int)(x2:Int)(x3:Value){K:cN xJ→ad→Prop}{h0:ad}(h:iw x0 x1 x2 x3 K h0):HC PG eP [.slice x0.a x0.len x0.cap,.int .i64 x1,.int .i64 x2,x3] xJ K h0:=dB mJ Tryz.func123 Tryz.call123 rfl rfl (by kernel_rfl) h
def hH(x0:SliceV)(x1:Int)(x2:Int)(x3:Value)(K:(Unit)→ad→Prop)(h0:ad):Prop:=
 LoopP (fun I1 (t2:Int×Int) h3=>
 CondP (decide (t2.1<t2.2)) (
 (bZ t2.2 x0.len∧∃a4,x0.a=some a4∧
 ∃v5,ay h3 (adr a4 (t2.2.toNat*5)) 0 v5∧
 ∃v6,ay h3 (adr a4 (t2.2.toNat*5)) 1 v6∧
 ∃v7,ay h3 (adr a4 (t2.2.toNat*5)) 2 v7∧
 ∃v8,be h3 (adr a4 (t2.2.toNat*5)) 3 v8∧
 ∃v9,be h3 (adr a4 (t2.2.toNat*5)) 4 v9∧
 (bZ t2.1 x0.len∧∃a10,x0.a=some a10∧
 ∃v11,ay h3 (adr a10 (t2.1.toNat*5)) 0 v11∧
 ∃v12,ay h3 (adr a10 (t2.1.toNat*5)) 1 v12∧
 ∃v13,ay h3 (adr a10 (t2.1.toNat*5)) 2 v13∧
 ∃v14,be h3 (adr a10 (t2.1.toNat*5)) 3 v14∧
 ∃v15,be h3 (adr a10 (t2.1.toNat*5)) 4 v15∧
 (bZ t2.1 x0.len∧∃a16,x0.a=some a16∧
 (ft h3 (adr a16 (t2.1.toNat*5)) (jC v5 v6 v7 v8 v9) (fun h17=>
 (bZ t2.2 x0.len∧∃a18,x0.a=some a18∧
 (ft h17 (adr a18 (t2.2.toNat*5)) (jC v11 v12 v13 v14 v15) (fun h19=>
 I1 (IntKind.wrap .i64 (t2.1+1),IntKind.wrap .i64 (t2.2-1)) h19))))))))) (
 K () h3)) (x1,IntKind.wrap .i64 (x2-1)) h0
noncomputable def me:Ann:=.node .nil (.node .nil (.loop [(8,.c (.int .i64)),(9,.c (.int .i64))] .nil))
theorem ma(x0:SliceV)(x1:Int)(x2:Int)(x3:Value){K:cN []→ad→Prop}{h0:ad}(h:hH x0 x1 x2 x3 K h0):HC PG eJ [.slice x0.a x0.len x0.cap,.int .i64 x1,.int .i64 x2,x3] [] K h0:=dB me Tryz.func124 Tryz.call124 rfl rfl (by kernel_rfl) h
def fx(x0:SliceV)(x1:Int)(x2:Int)(x3:Value)(K:(Bool)→ad→Prop)(h0:ad):Prop:=
 LoopP (fun I1 (t2:Int×Int) h3=>
 CondP (decide (t2.2<(5:Int))) (
 Join (fun(t110:Int) h111=>
 I1 (t110,IntKind.wrap .i64 (t2.2+1)) h111) (fun J4=>
 LoopP (fun I5 (t6:Int) h7=>
 Join (fun(t23:Bool) h24=>
 CondP t23 (
 I5 (IntKind.wrap .i64 (t6+1)) h24) (
 CondP (t6==x2) (
 K true h24) (
 CondP (decide ((IntKind.wrap .i64 (x2-x1))<(50:Int))) (
 K false h24) (
 (bZ (IntKind.wrap .i64 (t6-1)) x0.len∧∃a25,x0.a=some a25∧
 ∃v26,aL h24 (adr a25 ((IntKind.wrap .i64 (t6-1)).toNat*5)) 0 (.string v26)∧
 ∃v27,aL h24 (adr a25 ((IntKind.wrap .i64 (t6-1)).toNat*5)) 1 (.string v27)∧
 ∃v28,aL h24 (adr a25 ((IntKind.wrap .i64 (t6-1)).toNat*5)) 2 (.string v28)∧
 ∃v29,aL h24 (adr a25 ((IntKind.wrap .i64 (t6-1)).toNat*5)) 3 (.bool v29)∧
 ∃v30,aL h24 (adr a25 ((IntKind.wrap .i64 (t6-1)).toNat*5)) 4 (.bool v30)∧
 (bZ t6 x0.len∧∃a31,x0.a=some a31∧
 ∃v32,ay h24 (adr a31 (t6.toNat*5)) 0 v32∧
 ∃v33,ay h24 (adr a31 (t6.toNat*5)) 1 v33∧
 ∃v34,ay h24 (adr a31 (t6.toNat*5)) 2 v34∧
 ∃v35,be h24 (adr a31 (t6.toNat*5)) 3 v35∧
 ∃v36,be h24 (adr a31 (t6.toNat*5)) 4 v36∧
 (bZ t6 x0.len∧∃a37,x0.a=some a37∧
 (ft h24 (adr a37 (t6.toNat*5)) (jC v26 v27 v28 v29 v30) (fun h38=>
 (bZ (IntKind.wrap .i64 (t6-1)) x0.len∧∃a39,x0.a=some a39∧
 (ft h38 (adr a39 ((IntKind.wrap .i64 (t6-1)).toNat*5)) (jC v32 v33 v34 v35 v36) (fun h40=>
 Join (fun(t75:Unit) h76=>
 CondP (decide ((IntKind.wrap .i64 (x2-t6))≥(2:Int))) (
 LoopP (fun I77 (t78:Int) h79=>
 CondP (decide (t78<x2)) (
 (bZ t78 x0.len∧∃a80,x0.a=some a80∧
 ∃v81,ay h79 (adr a80 (t78.toNat*5)) 0 v81∧
 ∃v82,ay h79 (adr a80 (t78.toNat*5)) 1 v82∧
 ∃v83,ay h79 (adr a80 (t78.toNat*5)) 2 v83∧
 ∃v84,be h79 (adr a80 (t78.toNat*5)) 3 v84∧
 ∃v85,be h79 (adr a80 (t78.toNat*5)) 4 v85∧
 (bZ (IntKind.wrap .i64 (t78-1)) x0.len∧∃a86,x0.a=some a86∧
 ∃v87,aL h79 (adr a86 ((IntKind.wrap .i64 (t78-1)).toNat*5)) 0 (.string v87)∧
 ∃v88,aL h79 (adr a86 ((IntKind.wrap .i64 (t78-1)).toNat*5)) 1 (.string v88)∧
 ∃v89,aL h79 (adr a86 ((IntKind.wrap .i64 (t78-1)).toNat*5)) 2 (.string v89)∧
 ∃v90,aL h79 (adr a86 ((IntKind.wrap .i64 (t78-1)).toNat*5)) 3 (.bool v90)∧
 ∃v91,aL h79 (adr a86 ((IntKind.wrap .i64 (t78-1)).toNat*5)) 4 (.bool v91)∧
 HV PG x3 [l6 v81 v82 v83 v84 v85,l6 v87 v88 v89 v90 v91] bT (fun(e92:Int) h93=>
 CondP (!(decide (e92<(0:Int)))) (
 J4 t6 h93) (
 (bZ (IntKind.wrap .i64 (t78-1)) x0.len∧∃a94,x0.a=some a94∧
 ∃v95,aL h93 (adr a94 ((IntKind.wrap .i64 (t78-1)).toNat*5)) 0 (.string v95)∧
 ∃v96,aL h93 (adr a94 ((IntKind.wrap .i64 (t78-1)).toNat*5)) 1 (.string v96)∧
 ∃v97,aL h93 (adr a94 ((IntKind.wrap .i64 (t78-1)).toNat*5)) 2 (.string v97)∧
 ∃v98,aL h93 (adr a94 ((IntKind.wrap .i64 (t78-1)).toNat*5)) 3 (.bool v98)∧
 ∃v99,aL h93 (adr a94 ((IntKind.wrap .i64 (t78-1)).toNat*5)) 4 (.bool v99)∧
 (bZ t78 x0.len∧∃a100,x0.a=some a100∧
 ∃v101,ay h93 (adr a100 (t78.toNat*5)) 0 v101∧
 ∃v102,ay h93 (adr a100 (t78.toNat*5)) 1 v102∧
 ∃v103,ay h93 (adr a100 (t78.toNat*5)) 2 v103∧
 ∃v104,be h93 (adr a100 (t78.toNat*5)) 3 v104∧
 ∃v105,be h93 (adr a100 (t78.toNat*5)) 4 v105∧
 (bZ t78 x0.len∧∃a106,x0.a=some a106∧
 (ft h93 (adr a106 (t78.toNat*5)) (jC v95 v96 v97 v98 v99) (fun h107=>
 (bZ (IntKind.wrap .i64 (t78-1)) x0.len∧∃a108,x0.a=some a108∧
 (ft h107 (adr a108 ((IntKind.wrap .i64 (t78-1)).toNat*5)) (jC v101 v102 v103 v104 v105) (fun h109=>
 I77 (IntKind.wrap .i64 (t78+1)) h109)))))))))) h79))) (
 J4 t6 h79)) (IntKind.wrap .i64 (t6+1)) h76) (
 J4 t6 h76)) (fun J41=>
 CondP (decide ((IntKind.wrap .i64 (t6-x1))≥(2:Int))) (
 LoopP (fun I42 (t43:Int) h44=>
 CondP (decide (t43≥(1:Int))) (
 (bZ t43 x0.len∧∃a45,x0.a=some a45∧
 ∃v46,ay h44 (adr a45 (t43.toNat*5)) 0 v46∧
 ∃v47,ay h44 (adr a45 (t43.toNat*5)) 1 v47∧
 ∃v48,ay h44 (adr a45 (t43.toNat*5)) 2 v48∧
 ∃v49,be h44 (adr a45 (t43.toNat*5)) 3 v49∧
 ∃v50,be h44 (adr a45 (t43.toNat*5)) 4 v50∧
 (bZ (IntKind.wrap .i64 (t43-1)) x0.len∧∃a51,x0.a=some a51∧
 ∃v52,aL h44 (adr a51 ((IntKind.wrap .i64 (t43-1)).toNat*5)) 0 (.string v52)∧
 ∃v53,aL h44 (adr a51 ((IntKind.wrap .i64 (t43-1)).toNat*5)) 1 (.string v53)∧
 ∃v54,aL h44 (adr a51 ((IntKind.wrap .i64 (t43-1)).toNat*5)) 2 (.string v54)∧
 ∃v55,aL h44 (adr a51 ((IntKind.wrap .i64 (t43-1)).toNat*5)) 3 (.bool v55)∧
 ∃v56,aL h44 (adr a51 ((IntKind.wrap .i64 (t43-1)).toNat*5)) 4 (.bool v56)∧
 HV PG x3 [l6 v46 v47 v48 v49 v50,l6 v52 v53 v54 v55 v56] bT (fun(e57:Int) h58=>
 CondP (!(decide (e57<(0:Int)))) (
 J41 () h58) (
 (bZ (IntKind.wrap .i64 (t43-1)) x0.len∧∃a59,x0.a=some a59∧
 ∃v60,aL h58 (adr a59 ((IntKind.wrap .i64 (t43-1)).toNat*5)) 0 (.string v60)∧
 ∃v61,aL h58 (adr a59 ((IntKind.wrap .i64 (t43-1)).toNat*5)) 1 (.string v61)∧
 ∃v62,aL h58 (adr a59 ((IntKind.wrap .i64 (t43-1)).toNat*5)) 2 (.string v62)∧
 ∃v63,aL h58 (adr a59 ((IntKind.wrap .i64 (t43-1)).toNat*5)) 3 (.bool v63)∧
 ∃v64,aL h58 (adr a59 ((IntKind.wrap .i64 (t43-1)).toNat*5)) 4 (.bool v64)∧
 (bZ t43 x0.len∧∃a65,x0.a=some a65∧
 ∃v66,ay h58 (adr a65 (t43.toNat*5)) 0 v66∧
 ∃v67,ay h58 (adr a65 (t43.toNat*5)) 1 v67∧
 ∃v68,ay h58 (adr a65 (t43.toNat*5)) 2 v68∧
 ∃v69,be h58 (adr a65 (t43.toNat*5)) 3 v69∧
 ∃v70,be h58 (adr a65 (t43.toNat*5)) 4 v70∧
 (bZ t43 x0.len∧∃a71,x0.a=some a71∧
 (ft h58 (adr a71 (t43.toNat*5)) (jC v60 v61 v62 v63 v64) (fun h72=>
 (bZ (IntKind.wrap .i64 (t43-1)) x0.len∧∃a73,x0.a=some a73∧
 (ft h72 (adr a73 ((IntKind.wrap .i64 (t43-1)).toNat*5)) (jC v66 v67 v68 v69 v70) (fun h74=>
 I42 (IntKind.wrap .i64 (t43-1)) h74)))))))))) h44))) (
 J41 () h44)) (IntKind.wrap .i64 (t6-1)) h40) (
 J41 () h40)))))))))))))) (fun J8=>
 CondP (decide (t6<x2)) (
 (bZ t6 x0.len∧∃a9,x0.a=some a9∧
 ∃v10,ay h7 (adr a9 (t6.toNat*5)) 0 v10∧
 ∃v11,ay h7 (adr a9 (t6.toNat*5)) 1 v11∧
 ∃v12,ay h7 (adr a9 (t6.toNat*5)) 2 v12∧
 ∃v13,be h7 (adr a9 (t6.toNat*5)) 3 v13∧
 ∃v14,be h7 (adr a9 (t6.toNat*5)) 4 v14∧
 (bZ (IntKind.wrap .i64 (t6-1)) x0.len∧∃a15,x0.a=some a15∧
 ∃v16,aL h7 (adr a15 ((IntKind.wrap .i64 (t6-1)).toNat*5)) 0 (.string v16)∧
 ∃v17,aL h7 (adr a15 ((IntKind.wrap .i64 (t6-1)).toNat*5)) 1 (.string v17)∧
 ∃v18,aL h7 (adr a15 ((IntKind.wrap .i64 (t6-1)).toNat*5)) 2 (.string v18)∧
 ∃v19,aL h7 (adr a15 ((IntKind.wrap .i64 (t6-1)).toNat*5)) 3 (.bool v19)∧
 ∃v20,aL h7 (adr a15 ((IntKind.wrap .i64 (t6-1)).toNat*5)) 4 (.bool v20)∧
 HV PG x3 [l6 v10 v11 v12 v13 v14,l6 v16 v17 v18 v19 v20] bT (fun(e21:Int) h22=>
 J8 (!(decide (e21<(0:Int)))) h22) h7))) (
 J8 false h7))) t2.1 h3)) (
 K false h3)) (IntKind.wrap .i64 (x1+1),0) h0
noncomputable def jE:Ann:=.node .nil (.node .nil (.node (.node .nil (.loop [(9,.c (.int .i64)),(10,.c (.int .i64))] (.node .nil (.join [(9,.c (.int .i64))] (.node (.loop [(9,.c (.int .i64))] (.node (.join [(36,.c .bool)] .nil .nil) .nil)) (.node .nil (.node .nil (.node .nil (.join [] (.node .nil (.node (.node .nil (.loop [(11,.c (.int .i64))] .nil)) .nil)) (.node .nil (.node (.node .nil (.loop [(12,.c (.int .i64))] .nil)) .nil))))))) .nil)))) .nil))
theorem jD(x0:SliceV)(x1:Int)(x2:Int)(x3:Value){K:cN [.c .bool]→ad→Prop}{h0:ad}(h:fx x0 x1 x2 x3 K h0):HC PG dC [.slice x0.a x0.len x0.cap,.int .i64 x1,.int .i64 x2,x3] [.c .bool] K h0:=dB jE Tryz.func125 Tryz.call125 rfl rfl (by kernel_rfl) h
def gB(x0:SliceV)(x1:Int)(x2:Int)(x3:Int)(x4:Value)(K:(Int)→ad→Prop)(h0:ad):Prop:=
 (bZ x3 x0.len∧∃a1,x0.a=some a1∧
 ∃v2,ay h0 (adr a1 (x3.toNat*5)) 0 v2∧
 ∃v3,ay h0 (adr a1 (x3.toNat*5)) 1 v3∧
 ∃v4,ay h0 (adr a1 (x3.toNat*5)) 2 v4∧
 ∃v5,be h0 (adr a1 (x3.toNat*5)) 3 v5∧
 ∃v6,be h0 (adr a1 (x3.toNat*5)) 4 v6∧
 (bZ x1 x0.len∧∃a7,x0.a=some a7∧
 ∃v8,ay h0 (adr a7 (x1.toNat*5)) 0 v8∧
 ∃v9,ay h0 (adr a7 (x1.toNat*5)) 1 v9∧
 ∃v10,ay h0 (adr a7 (x1.toNat*5)) 2 v10∧
 ∃v11,be h0 (adr a7 (x1.toNat*5)) 3 v11∧
 ∃v12,be h0 (adr a7 (x1.toNat*5)) 4 v12∧
 (bZ x1 x0.len∧∃a13,x0.a=some a13∧
 (ft h0 (adr a13 (x1.toNat*5)) (jC v2 v3 v4 v5 v6) (fun h14=>
 (bZ x3 x0.len∧∃a15,x0.a=some a15∧
 (ft h14 (adr a15 (x3.toNat*5)) (jC v8 v9 v10 v11 v12) (fun h16=>
 LoopP (fun I17 (t18:Int×Int) h19=>
 LoopP (fun I20 (t21:Int) h22=>
 Join (fun(t38:Bool) h39=>
 CondP t38 (
 I20 (IntKind.wrap .i64 (t21+1)) h39) (
 LoopP (fun I40 (t41:Int) h42=>
 Join (fun(t58:Bool) h59=>
 CondP t58 (
 I40 (IntKind.wrap .i64 (t41-1)) h59) (
 CondP (decide (t21>t41)) (
 K t21 h59) (
 (bZ t41 x0.len∧∃a60,x0.a=some a60∧
 ∃v61,ay h59 (adr a60 (t41.toNat*5)) 0 v61∧
 ∃v62,ay h59 (adr a60 (t41.toNat*5)) 1 v62∧
 ∃v63,ay h59 (adr a60 (t41.toNat*5)) 2 v63∧
 ∃v64,be h59 (adr a60 (t41.toNat*5)) 3 v64∧
 ∃v65,be h59 (adr a60 (t41.toNat*5)) 4 v65∧
 (bZ t21 x0.len∧∃a66,x0.a=some a66∧
 ∃v67,ay h59 (adr a66 (t21.toNat*5)) 0 v67∧
 ∃v68,ay h59 (adr a66 (t21.toNat*5)) 1 v68∧
 ∃v69,ay h59 (adr a66 (t21.toNat*5)) 2 v69∧
 ∃v70,be h59 (adr a66 (t21.toNat*5)) 3 v70∧
 ∃v71,be h59 (adr a66 (t21.toNat*5)) 4 v71∧
 (bZ t21 x0.len∧∃a72,x0.a=some a72∧
 (ft h59 (adr a72 (t21.toNat*5)) (jC v61 v62 v63 v64 v65) (fun h73=>
 (bZ t41 x0.len∧∃a74,x0.a=some a74∧
 (ft h73 (adr a74 (t41.toNat*5)) (jC v67 v68 v69 v70 v71) (fun h75=>
 I17 (IntKind.wrap .i64 (t21+1),IntKind.wrap .i64 (t41-1)) h75))))))))))) (fun J43=>
 CondP (decide (t21≤t41)) (
 (bZ x1 x0.len∧∃a44,x0.a=some a44∧
 ∃v45,ay h42 (adr a44 (x1.toNat*5)) 0 v45∧
 ∃v46,ay h42 (adr a44 (x1.toNat*5)) 1 v46∧
 ∃v47,ay h42 (adr a44 (x1.toNat*5)) 2 v47∧
 ∃v48,be h42 (adr a44 (x1.toNat*5)) 3 v48∧
 ∃v49,be h42 (adr a44 (x1.toNat*5)) 4 v49∧
 (bZ t41 x0.len∧∃a50,x0.a=some a50∧
 ∃v51,ay h42 (adr a50 (t41.toNat*5)) 0 v51∧
 ∃v52,ay h42 (adr a50 (t41.toNat*5)) 1 v52∧
 ∃v53,ay h42 (adr a50 (t41.toNat*5)) 2 v53∧
 ∃v54,be h42 (adr a50 (t41.toNat*5)) 3 v54∧
 ∃v55,be h42 (adr a50 (t41.toNat*5)) 4 v55∧
 HV PG x4 [l6 v45 v46 v47 v48 v49,l6 v51 v52 v53 v54 v55] bT (fun(e56:Int) h57=>
 J43 (decide (e56<(0:Int))) h57) h42))) (
 J43 false h42))) t18.2 h39)) (fun J23=>
 CondP (decide (t21≤t18.2)) (
 (bZ x1 x0.len∧∃a24,x0.a=some a24∧
 ∃v25,ay h22 (adr a24 (x1.toNat*5)) 0 v25∧
 ∃v26,ay h22 (adr a24 (x1.toNat*5)) 1 v26∧
 ∃v27,ay h22 (adr a24 (x1.toNat*5)) 2 v27∧
 ∃v28,be h22 (adr a24 (x1.toNat*5)) 3 v28∧
 ∃v29,be h22 (adr a24 (x1.toNat*5)) 4 v29∧
 (bZ t21 x0.len∧∃a30,x0.a=some a30∧
 ∃v31,ay h22 (adr a30 (t21.toNat*5)) 0 v31∧
 ∃v32,ay h22 (adr a30 (t21.toNat*5)) 1 v32∧
 ∃v33,ay h22 (adr a30 (t21.toNat*5)) 2 v33∧
 ∃v34,be h22 (adr a30 (t21.toNat*5)) 3 v34∧
 ∃v35,be h22 (adr a30 (t21.toNat*5)) 4 v35∧
 HV PG x4 [l6 v25 v26 v27 v28 v29,l6 v31 v32 v33 v34 v35] bT (fun(e36:Int) h37=>
 J23 (!(decide (e36<(0:Int)))) h37) h22))) (
 J23 false h22))) t18.1 h19) (IntKind.wrap .i64 (x1+1),IntKind.wrap .i64 (x2-1)) h16))))))))
noncomputable def lF:Ann:=.node .nil (.node .nil (.node .nil (.node (.loop [(11,.c (.int .i64)),(12,.c (.int .i64))] (.node (.loop [(11,.c (.int .i64))] (.node (.join [(47,.c .bool)] .nil .nil) .nil)) (.node (.loop [(12,.c (.int .i64))] (.node (.join [(65,.c .bool)] .nil .nil) .nil)) .nil))) .nil)))
theorem ly(x0:SliceV)(x1:Int)(x2:Int)(x3:Int)(x4:Value){K:cN bT→ad→Prop}{h0:ad}(h:gB x0 x1 x2 x3 x4 K h0):HC PG eu [.slice x0.a x0.len x0.cap,.int .i64 x1,.int .i64 x2,.int .i64 x3,x4] bT K h0:=dB lF Tryz.func126 Tryz.call126 rfl rfl (by kernel_rfl) h
def iM(x0:SliceV)(x1:Int)(x2:Int)(x3:Int)(x4:Value)(K:(Int×Bool)→ad→Prop)(h0:ad):Prop:=
 (bZ x3 x0.len∧∃a1,x0.a=some a1∧
 ∃v2,ay h0 (adr a1 (x3.toNat*5)) 0 v2∧
 ∃v3,ay h0 (adr a1 (x3.toNat*5)) 1 v3∧
 ∃v4,ay h0 (adr a1 (x3.toNat*5)) 2 v4∧
 ∃v5,be h0 (adr a1 (x3.toNat*5)) 3 v5∧
 ∃v6,be h0 (adr a1 (x3.toNat*5)) 4 v6∧
 (bZ x1 x0.len∧∃a7,x0.a=some a7∧
 ∃v8,ay h0 (adr a7 (x1.toNat*5)) 0 v8∧
 ∃v9,ay h0 (adr a7 (x1.toNat*5)) 1 v9∧
 ∃v10,ay h0 (adr a7 (x1.toNat*5)) 2 v10∧
 ∃v11,be h0 (adr a7 (x1.toNat*5)) 3 v11∧
 ∃v12,be h0 (adr a7 (x1.toNat*5)) 4 v12∧
 (bZ x1 x0.len∧∃a13,x0.a=some a13∧
 (ft h0 (adr a13 (x1.toNat*5)) (jC v2 v3 v4 v5 v6) (fun h14=>
 (bZ x3 x0.len∧∃a15,x0.a=some a15∧
 (ft h14 (adr a15 (x3.toNat*5)) (jC v8 v9 v10 v11 v12) (fun h16=>
 LoopP (fun I17 (t18:Int) h19=>
 Join (fun(t35:Bool) h36=>
 CondP t35 (
 I17 (IntKind.wrap .i64 (t18+1)) h36) (
 LoopP (fun I37 (t38:Int) h39=>
 Join (fun(t55:Bool) h56=>
 CondP t55 (
 I37 (IntKind.wrap .i64 (t38-1)) h56) (
 CondP (decide (t18>t38)) (
 (bZ x1 x0.len∧∃a57,x0.a=some a57∧
 ∃v58,ay h56 (adr a57 (x1.toNat*5)) 0 v58∧
 ∃v59,ay h56 (adr a57 (x1.toNat*5)) 1 v59∧
 ∃v60,ay h56 (adr a57 (x1.toNat*5)) 2 v60∧
 ∃v61,be h56 (adr a57 (x1.toNat*5)) 3 v61∧
 ∃v62,be h56 (adr a57 (x1.toNat*5)) 4 v62∧
 (bZ t38 x0.len∧∃a63,x0.a=some a63∧
 ∃v64,ay h56 (adr a63 (t38.toNat*5)) 0 v64∧
 ∃v65,ay h56 (adr a63 (t38.toNat*5)) 1 v65∧
 ∃v66,ay h56 (adr a63 (t38.toNat*5)) 2 v66∧
 ∃v67,be h56 (adr a63 (t38.toNat*5)) 3 v67∧
 ∃v68,be h56 (adr a63 (t38.toNat*5)) 4 v68∧
 (bZ t38 x0.len∧∃a69,x0.a=some a69∧
 (ft h56 (adr a69 (t38.toNat*5)) (jC v58 v59 v60 v61 v62) (fun h70=>
 (bZ x1 x0.len∧∃a71,x0.a=some a71∧
 (ft h70 (adr a71 (x1.toNat*5)) (jC v64 v65 v66 v67 v68) (fun h72=>
 K (t38,true) h72))))))))) (
 (bZ t38 x0.len∧∃a73,x0.a=some a73∧
 ∃v74,ay h56 (adr a73 (t38.toNat*5)) 0 v74∧
 ∃v75,ay h56 (adr a73 (t38.toNat*5)) 1 v75∧
 ∃v76,ay h56 (adr a73 (t38.toNat*5)) 2 v76∧
 ∃v77,be h56 (adr a73 (t38.toNat*5)) 3 v77∧
 ∃v78,be h56 (adr a73 (t38.toNat*5)) 4 v78∧
 (bZ t18 x0.len∧∃a79,x0.a=some a79∧
 ∃v80,ay h56 (adr a79 (t18.toNat*5)) 0 v80∧
 ∃v81,ay h56 (adr a79 (t18.toNat*5)) 1 v81∧
 ∃v82,ay h56 (adr a79 (t18.toNat*5)) 2 v82∧
 ∃v83,be h56 (adr a79 (t18.toNat*5)) 3 v83∧
 ∃v84,be h56 (adr a79 (t18.toNat*5)) 4 v84∧
 (bZ t18 x0.len∧∃a85,x0.a=some a85∧
 (ft h56 (adr a85 (t18.toNat*5)) (jC v74 v75 v76 v77 v78) (fun h86=>
 (bZ t38 x0.len∧∃a87,x0.a=some a87∧
 (ft h86 (adr a87 (t38.toNat*5)) (jC v80 v81 v82 v83 v84) (fun h88=>
 LoopP (fun I89 (t90:Int×Int) h91=>
 LoopP (fun I92 (t93:Int) h94=>
 Join (fun(t110:Bool) h111=>
 CondP t110 (
 I92 (IntKind.wrap .i64 (t93+1)) h111) (
 LoopP (fun I112 (t113:Int) h114=>
 Join (fun(t130:Bool) h131=>
 CondP t130 (
 I112 (IntKind.wrap .i64 (t113-1)) h131) (
 CondP (decide (t93>t113)) (
 (bZ x1 x0.len∧∃a132,x0.a=some a132∧
 ∃v133,ay h131 (adr a132 (x1.toNat*5)) 0 v133∧
 ∃v134,ay h131 (adr a132 (x1.toNat*5)) 1 v134∧
 ∃v135,ay h131 (adr a132 (x1.toNat*5)) 2 v135∧
 ∃v136,be h131 (adr a132 (x1.toNat*5)) 3 v136∧
 ∃v137,be h131 (adr a132 (x1.toNat*5)) 4 v137∧
 (bZ t113 x0.len∧∃a138,x0.a=some a138∧
 ∃v139,ay h131 (adr a138 (t113.toNat*5)) 0 v139∧
 ∃v140,ay h131 (adr a138 (t113.toNat*5)) 1 v140∧
 ∃v141,ay h131 (adr a138 (t113.toNat*5)) 2 v141∧
 ∃v142,be h131 (adr a138 (t113.toNat*5)) 3 v142∧
 ∃v143,be h131 (adr a138 (t113.toNat*5)) 4 v143∧
 (bZ t113 x0.len∧∃a144,x0.a=some a144∧
 (ft h131 (adr a144 (t113.toNat*5)) (jC v133 v134 v135 v136 v137) (fun h145=>
 (bZ x1 x0.len∧∃a146,x0.a=some a146∧
 (ft h145 (adr a146 (x1.toNat*5)) (jC v139 v140 v141 v142 v143) (fun h147=>
 K (t113,false) h147))))))))) (
 (bZ t113 x0.len∧∃a148,x0.a=some a148∧
 ∃v149,ay h131 (adr a148 (t113.toNat*5)) 0 v149∧
 ∃v150,ay h131 (adr a148 (t113.toNat*5)) 1 v150∧
 ∃v151,ay h131 (adr a148 (t113.toNat*5)) 2 v151∧
 ∃v152,be h131 (adr a148 (t113.toNat*5)) 3 v152∧
 ∃v153,be h131 (adr a148 (t113.toNat*5)) 4 v153∧
 (bZ t93 x0.len∧∃a154,x0.a=some a154∧
 ∃v155,ay h131 (adr a154 (t93.toNat*5)) 0 v155∧
 ∃v156,ay h131 (adr a154 (t93.toNat*5)) 1 v156∧
 ∃v157,ay h131 (adr a154 (t93.toNat*5)) 2 v157∧
 ∃v158,be h131 (adr a154 (t93.toNat*5)) 3 v158∧
 ∃v159,be h131 (adr a154 (t93.toNat*5)) 4 v159∧
 (bZ t93 x0.len∧∃a160,x0.a=some a160∧
 (ft h131 (adr a160 (t93.toNat*5)) (jC v149 v150 v151 v152 v153) (fun h161=>
 (bZ t113 x0.len∧∃a162,x0.a=some a162∧
 (ft h161 (adr a162 (t113.toNat*5)) (jC v155 v156 v157 v158 v159) (fun h163=>
 I89 (IntKind.wrap .i64 (t93+1),IntKind.wrap .i64 (t113-1)) h163))))))))))) (fun J115=>
 CondP (decide (t93≤t113)) (
 (bZ t113 x0.len∧∃a116,x0.a=some a116∧
 ∃v117,ay h114 (adr a116 (t113.toNat*5)) 0 v117∧
 ∃v118,ay h114 (adr a116 (t113.toNat*5)) 1 v118∧
 ∃v119,ay h114 (adr a116 (t113.toNat*5)) 2 v119∧
 ∃v120,be h114 (adr a116 (t113.toNat*5)) 3 v120∧
 ∃v121,be h114 (adr a116 (t113.toNat*5)) 4 v121∧
 (bZ x1 x0.len∧∃a122,x0.a=some a122∧
 ∃v123,ay h114 (adr a122 (x1.toNat*5)) 0 v123∧
 ∃v124,ay h114 (adr a122 (x1.toNat*5)) 1 v124∧
 ∃v125,ay h114 (adr a122 (x1.toNat*5)) 2 v125∧
 ∃v126,be h114 (adr a122 (x1.toNat*5)) 3 v126∧
 ∃v127,be h114 (adr a122 (x1.toNat*5)) 4 v127∧
 HV PG x4 [l6 v117 v118 v119 v120 v121,l6 v123 v124 v125 v126 v127] bT (fun(e128:Int) h129=>
 J115 (!(decide (e128<(0:Int)))) h129) h114))) (
 J115 false h114))) t90.2 h111)) (fun J95=>
 CondP (decide (t93≤t90.2)) (
 (bZ t93 x0.len∧∃a96,x0.a=some a96∧
 ∃v97,ay h94 (adr a96 (t93.toNat*5)) 0 v97∧
 ∃v98,ay h94 (adr a96 (t93.toNat*5)) 1 v98∧
 ∃v99,ay h94 (adr a96 (t93.toNat*5)) 2 v99∧
 ∃v100,be h94 (adr a96 (t93.toNat*5)) 3 v100∧
 ∃v101,be h94 (adr a96 (t93.toNat*5)) 4 v101∧
 (bZ x1 x0.len∧∃a102,x0.a=some a102∧
 ∃v103,ay h94 (adr a102 (x1.toNat*5)) 0 v103∧
 ∃v104,ay h94 (adr a102 (x1.toNat*5)) 1 v104∧
 ∃v105,ay h94 (adr a102 (x1.toNat*5)) 2 v105∧
 ∃v106,be h94 (adr a102 (x1.toNat*5)) 3 v106∧
 ∃v107,be h94 (adr a102 (x1.toNat*5)) 4 v107∧
 HV PG x4 [l6 v97 v98 v99 v100 v101,l6 v103 v104 v105 v106 v107] bT (fun(e108:Int) h109=>
 J95 (decide (e108<(0:Int))) h109) h94))) (
 J95 false h94))) t90.1 h91) (IntKind.wrap .i64 (t18+1),IntKind.wrap .i64 (t38-1)) h88))))))))))) (fun J40=>
 CondP (decide (t18≤t38)) (
 (bZ t38 x0.len∧∃a41,x0.a=some a41∧
 ∃v42,ay h39 (adr a41 (t38.toNat*5)) 0 v42∧
 ∃v43,ay h39 (adr a41 (t38.toNat*5)) 1 v43∧
 ∃v44,ay h39 (adr a41 (t38.toNat*5)) 2 v44∧
 ∃v45,be h39 (adr a41 (t38.toNat*5)) 3 v45∧
 ∃v46,be h39 (adr a41 (t38.toNat*5)) 4 v46∧
 (bZ x1 x0.len∧∃a47,x0.a=some a47∧
 ∃v48,ay h39 (adr a47 (x1.toNat*5)) 0 v48∧
 ∃v49,ay h39 (adr a47 (x1.toNat*5)) 1 v49∧
 ∃v50,ay h39 (adr a47 (x1.toNat*5)) 2 v50∧
 ∃v51,be h39 (adr a47 (x1.toNat*5)) 3 v51∧
 ∃v52,be h39 (adr a47 (x1.toNat*5)) 4 v52∧
 HV PG x4 [l6 v42 v43 v44 v45 v46,l6 v48 v49 v50 v51 v52] bT (fun(e53:Int) h54=>
 J40 (!(decide (e53<(0:Int)))) h54) h39))) (
 J40 false h39))) (IntKind.wrap .i64 (x2-1)) h36)) (fun J20=>
 CondP (decide (t18≤(IntKind.wrap .i64 (x2-1)))) (
 (bZ t18 x0.len∧∃a21,x0.a=some a21∧
 ∃v22,ay h19 (adr a21 (t18.toNat*5)) 0 v22∧
 ∃v23,ay h19 (adr a21 (t18.toNat*5)) 1 v23∧
 ∃v24,ay h19 (adr a21 (t18.toNat*5)) 2 v24∧
 ∃v25,be h19 (adr a21 (t18.toNat*5)) 3 v25∧
 ∃v26,be h19 (adr a21 (t18.toNat*5)) 4 v26∧
 (bZ x1 x0.len∧∃a27,x0.a=some a27∧
 ∃v28,ay h19 (adr a27 (x1.toNat*5)) 0 v28∧
 ∃v29,ay h19 (adr a27 (x1.toNat*5)) 1 v29∧
 ∃v30,ay h19 (adr a27 (x1.toNat*5)) 2 v30∧
 ∃v31,be h19 (adr a27 (x1.toNat*5)) 3 v31∧
 ∃v32,be h19 (adr a27 (x1.toNat*5)) 4 v32∧
 HV PG x4 [l6 v22 v23 v24 v25 v26,l6 v28 v29 v30 v31 v32] bT (fun(e33:Int) h34=>
 J20 (decide (e33<(0:Int))) h34) h19))) (
 J20 false h19))) (IntKind.wrap .i64 (x1+1)) h16))))))))
noncomputable def nR:Ann:=.node .nil (.node .nil (.node .nil (.node (.loop [(12,.c (.int .i64))] (.node (.join [(47,.c .bool)] .nil .nil) .nil)) (.node (.loop [(13,.c (.int .i64))] (.node (.join [(66,.c .bool)] .nil .nil) .nil)) (.node .nil (.node .nil (.node .nil (.node .nil (.node (.loop [(12,.c (.int .i64)),(13,.c (.int .i64))] (.node (.loop [(12,.c (.int .i64))] (.node (.join [(120,.c .bool)] .nil .nil) .nil)) (.node (.loop [(13,.c (.int .i64))] (.node (.join [(139,.c .bool)] .nil .nil) .nil)) .nil))) .nil)))))))))
theorem nM(x0:SliceV)(x1:Int)(x2:Int)(x3:Int)(x4:Value){K:cN iV→ad→Prop}{h0:ad}(h:iM x0 x1 x2 x3 x4 K h0):HC PG fj [.slice x0.a x0.len x0.cap,.int .i64 x1,.int .i64 x2,.int .i64 x3,x4] iV K h0:=dB nR Tryz.func127 Tryz.call127 rfl rfl (by kernel_rfl) h
def uN(x0:Int)(K:(Int)→ad→Prop)(h0:ad):Prop:=
 Join (fun(t2:Int×Int) h3=>
 Join (fun(t5:Int×Int) h6=>
 Join (fun(t8:Int×Int) h9=>
 ∃b10,(0:Int)≤(IntKind.wrap .u8 t8.1)∧(⟨#[0,1,2,2,3,3,3,3,4,4,4,4,4,4,4,4,5,5,5,5,5,5,5,5,5,5,5,5,5,5,5,5,6,6,6,6,6,6,6,6,6,6,6,6,6,6,6,6,6,6,6,6,6,6,6,6,6,6,6,6,6,6,6,6,7,7,7,7,7,7,7,7,7,7,7,7,7,7,7,7,7,7,7,7,7,7,7,7,7,7,7,7,7,7,7,7,7,7,7,7,7,7,7,7,7,7,7,7,7,7,7,7,7,7,7,7,7,7,7,7,7,7,7,7,7,7,7,7,8,8,8,8,8,8,8,8,8,8,8,8,8,8,8,8,8,8,8,8,8,8,8,8,8,8,8,8,8,8,8,8,8,8,8,8,8,8,8,8,8,8,8,8,8,8,8,8,8,8,8,8,8,8,8,8,8,8,8,8,8,8,8,8,8,8,8,8,8,8,8,8,8,8,8,8,8,8,8,8,8,8,8,8,8,8,8,8,8,8,8,8,8,8,8,8,8,8,8,8,8,8,8,8,8,8,8,8,8,8,8,8,8,8,8,8,8,8,8,8,8,8,8,8,8,8,8,8]⟩:ByteArray)[(IntKind.wrap .u8 t8.1).toNat]? =some b10∧
 K (IntKind.wrap .i64 (t8.2+(IntKind.wrap .i64 (b10.toNat:Int)))) h9) (fun J7=>
 CondP (decide (t5.1≥(256:Int))) (
 ((0:Int)≤(8:Int)∧
 J7 (dM t5.1 (2^(min (8:Int).toNat (IntKind.bits .u64))),IntKind.wrap .i64 (t5.2+8)) h6)) (
 J7 (t5.1,t5.2) h6))) (fun J4=>
 CondP (decide (t2.1≥(65536:Int))) (
 ((0:Int)≤(16:Int)∧
 J4 (dM t2.1 (2^(min (16:Int).toNat (IntKind.bits .u64))),IntKind.wrap .i64 (t2.2+16)) h3)) (
 J4 (t2.1,t2.2) h3))) (fun J1=>
 CondP (decide (x0≥(4294967296:Int))) (
 ((0:Int)≤(32:Int)∧
 J1 (dM x0 (2^(min (32:Int).toNat (IntKind.bits .u64))),32) h0)) (
 J1 (x0,0) h0))
noncomputable def BL:Ann:=.node .nil (.join [(0,.c (.int .u64)),(2,.c (.int .i64))] .nil (.join [(0,.c (.int .u64)),(2,.c (.int .i64))] .nil (.join [(0,.c (.int .u64)),(2,.c (.int .i64))] .nil .nil)))
theorem Bo(x0:Int){K:cN bT→ad→Prop}{h0:ad}(h:uN x0 K h0):HC PG qk [.int .u64 x0] bT K h0:=dB BL Tryz.func129 Tryz.call129 rfl rfl (by kernel_rfl) h
def sK(x0:Option Addr)(x1:SliceV)(K:(SliceV)→ad→Prop)(h0:ad):Prop:=
 ∃a1,x0=some a1∧
 ∃v2,ay h0 a1 0 v2∧
 HC PG nD (qQ x1 v2) [.c .slice] (fun(e3:SliceV) h4=>
 Join (fun(t20:SliceV) h21=>
 Join (fun(t32:SliceV) h33=>
 ∃a34,x0=some a34∧
 ∃v35:SliceV,bW h33 a34 3 v35∧
 LoopP (fun I36 (t37:SliceV×Int) h38=>
 CondP (decide (t37.2<(v35.len:Int))) (
 (bZ t37.2 v35.len∧∃a39,v35.a=some a39∧
 ∃v40,aL h38 a39 (t37.2.toNat*1) (.pointer v40)∧
 HC PG kq (Uk v40 t37.1) [.c .slice] (fun(e41:SliceV) h42=>
 I36 (e41,IntKind.wrap .i64 (t37.2+1)) h42) h38)) (
 K t37.1 h38)) (t32,0) h33) (fun J22=>
 ∃a23,x0=some a23∧
 ∃v24:SliceV,bW h21 a23 3 v24∧
 ∃a25,x0=some a25∧
 ∃v26:SliceV,bW h21 a25 3 v26∧
 ((0:Int)≤(8:Int)∧
 Bd (dM (v26.len:Int) (2^(min (8:Int).toNat (IntKind.bits .i64))):Int) (fun n27=>
 At (hnew h21 (Va (IntKind.wrap .u8 (v24.len:Int)) (IntKind.wrap .u8 n27)) fh) (fun h28=>
 (bW h28 a25 3 v26∧
 (bW h28 a23 3 v24∧
 ∃xs29,SRow h28 (some (aj h21)) (2*1) xs29∧
 AppP (some [.int .u8 0]) 1 1 fh t20.a t20.len t20.cap 2 xs29 h28 (fun s30 h31=>
 (bW h31 a25 3 v26∧
 (bW h31 a23 3 v24∧
 J22 s30 h31)))))))))) (fun J5=>
 ∃a6,x0=some a6∧
 ∃v7,be h4 a6 1 v7∧
 CondP v7 (
 ∃a8,x0=some a8∧
 ∃v9,ay h4 a8 2 v9∧
 At (hnew h4 [.int .u8 1] fh) (fun h10=>
 (ay h10 a8 2 v9∧
 ∃xs11,SRow h10 (some (aj h4)) (1*1) xs11∧
 AppP (some [.int .u8 0]) 1 1 fh e3.a e3.len e3.cap 1 xs11 h10 (fun s12 h13=>
 (ay h13 a8 2 v9∧
 HC PG nD (qQ s12 v9) [.c .slice] (fun(e14:SliceV) h15=>
 J5 e14 h15) h13))))) (
 At (hnew h4 [.int .u8 0] fh) (fun h16=>
 ∃xs17,SRow h16 (some (aj h4)) (1*1) xs17∧
 AppP (some [.int .u8 0]) 1 1 fh e3.a e3.len e3.cap 1 xs17 h16 (fun s18 h19=>
 J5 s18 h19))))) h0
noncomputable def yM:Ann:=.node .nil (.node .nil (.join [(1,.c .slice)] .nil (.join [(1,.c .slice)] .nil (.node (.node .nil (.loop [(1,.c .slice),(49,.c (.int .i64))] .nil)) .nil))))
theorem yI(x0:Option Addr)(x1:SliceV){K:cN [.c .slice]→ad→Prop}{h0:ad}(h:sK x0 x1 K h0):HC PG kq (Uk x0 x1) [.c .slice] K h0:=dB yM Tryz.func130 Tryz.call130 rfl rfl (by kernel_rfl) h
end Go.Proofs
