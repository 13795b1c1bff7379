/- A part of the proof that the named laws of this program answer true, whatever the input. -/
import Derived.Test.YtncppacbfagpgaaGreatDoorTreeF
set_option maxRecDepth 100000
set_option linter.unusedVariables false
open Array renaming size→bT,setIfInBounds→bO
open BitVec renaming ofInt→aj
open Int renaming fdiv→ee
open Nat renaming beq→bJ,min→dW
namespace Go.Proofs
open Go.Lift
def CF(x0:SliceV)(x1:SliceV)(x2:Int)(K:(Option Addr)→ad→Prop)(h0:ad):Prop:=
 CondP (x2==(13:Int)) (
 At (hnew h0 ((.bool true)::(.slice x0.a x0.len x0.cap)::(.int .i64 0)::(.int .i64 0)::(.int .i64 0)::(.int .i64 0)::(.int .i64 0)::(.int .i64 0)::(.int .i64 0)::(.int .i64 0)::(.int .i64 0)::(.int .i64 0)::(.int .i64 0)::(.int .i64 0)::(.int .i64 0)::(.int .i64 0)::(.int .i64 0)::(.int .i64 0)::(.int .i64 0)::(.int .i64 0)::(.int .i64 0)::(.int .i64 0)::(.int .i64 0)::(.int .i64 0)::(.int .i64 0)::(.int .i64 0)::(.int .i64 0)::(.int .i64 0)::(.int .i64 0)::(.int .i64 0)::(.int .i64 0)::(.int .i64 0)::(.int .i64 0)::(.int .i64 0)::(.string (⟨#[]⟩:ByteArray))::(.string (⟨#[]⟩:ByteArray))::(.string (⟨#[]⟩:ByteArray))::(.string (⟨#[]⟩:ByteArray))::(.string (⟨#[]⟩:ByteArray))::(.string (⟨#[]⟩:ByteArray))::(.string (⟨#[]⟩:ByteArray))::(.string (⟨#[]⟩:ByteArray))::(.string (⟨#[]⟩:ByteArray))::(.string (⟨#[]⟩:ByteArray))::(.string (⟨#[]⟩:ByteArray))::(.string (⟨#[]⟩:ByteArray))::(.string (⟨#[]⟩:ByteArray))::(.string (⟨#[]⟩:ByteArray))::(.string (⟨#[]⟩:ByteArray))::(.string (⟨#[]⟩:ByteArray))::(.string (⟨#[]⟩:ByteArray))::(.string (⟨#[]⟩:ByteArray))::(.string (⟨#[]⟩:ByteArray))::(.string (⟨#[]⟩:ByteArray))::(.string (⟨#[]⟩:ByteArray))::(.string (⟨#[]⟩:ByteArray))::(.string (⟨#[]⟩:ByteArray))::(.string (⟨#[]⟩:ByteArray))::(.string (⟨#[]⟩:ByteArray))::(.string (⟨#[]⟩:ByteArray))::(.string (⟨#[]⟩:ByteArray))::(.string (⟨#[]⟩:ByteArray))::(.string (⟨#[]⟩:ByteArray))::(.string (⟨#[]⟩:ByteArray))::(.string (⟨#[]⟩:ByteArray))::(.string (⟨#[]⟩:ByteArray))::(.string (⟨#[]⟩:ByteArray))::(.string (⟨#[]⟩:ByteArray))::(.string (⟨#[]⟩:ByteArray))::(.string (⟨#[]⟩:ByteArray))::(.string (⟨#[]⟩:ByteArray))::(.string (⟨#[]⟩:ByteArray))::(.string (⟨#[]⟩:ByteArray))::(.string (⟨#[]⟩:ByteArray))::(.string (⟨#[]⟩:ByteArray))::(.string (⟨#[]⟩:ByteArray))::(.string (⟨#[]⟩:ByteArray))::(.string (⟨#[]⟩:ByteArray))::(.string (⟨#[]⟩:ByteArray))::(.string (⟨#[]⟩:ByteArray))::(.string (⟨#[]⟩:ByteArray))::(.string (⟨#[]⟩:ByteArray))::(.string (⟨#[]⟩:ByteArray))::(.string (⟨#[]⟩:ByteArray))::(.string (⟨#[]⟩:ByteArray))::(.string (⟨#[]⟩:ByteArray))::(.string (⟨#[]⟩:ByteArray))::(.string (⟨#[]⟩:ByteArray))::(.string (⟨#[]⟩:ByteArray))::(.string (⟨#[]⟩:ByteArray))::(.string (⟨#[]⟩:ByteArray))::(.string (⟨#[]⟩:ByteArray))::(.string (⟨#[]⟩:ByteArray))::(.string (⟨#[]⟩:ByteArray))::(.string (⟨#[]⟩:ByteArray))::(.string (⟨#[]⟩:ByteArray))::(.string (⟨#[]⟩:ByteArray))::(.string (⟨#[]⟩:ByteArray))::(.pointer none)::(.pointer none)::(.pointer none)::(.pointer none)::(.pointer none)::(.pointer none)::(.pointer none)::(.pointer none)::(.pointer none)::(.pointer none)::(.pointer none)::(.pointer none)::(.pointer none)::(.pointer none)::(.pointer none)::(.pointer none)::(.pointer none)::(.pointer none)::(.pointer none)::(.pointer none)::(.pointer none)::(.pointer none)::(.pointer none)::(.pointer none)::(.pointer none)::(.pointer none)::(.pointer none)::(.pointer none)::(.pointer none)::(.pointer none)::(.pointer none)::(.pointer none):: []) gT) (fun h1=>
 K (some (az h0)) h1)) (
 At (hnew h0 ((.bool false)::(.slice none 0 0)::(.int .i64 0)::(.int .i64 0)::(.int .i64 0)::(.int .i64 0)::(.int .i64 0)::(.int .i64 0)::(.int .i64 0)::(.int .i64 0)::(.int .i64 0)::(.int .i64 0)::(.int .i64 0)::(.int .i64 0)::(.int .i64 0)::(.int .i64 0)::(.int .i64 0)::(.int .i64 0)::(.int .i64 0)::(.int .i64 0)::(.int .i64 0)::(.int .i64 0)::(.int .i64 0)::(.int .i64 0)::(.int .i64 0)::(.int .i64 0)::(.int .i64 0)::(.int .i64 0)::(.int .i64 0)::(.int .i64 0)::(.int .i64 0)::(.int .i64 0)::(.int .i64 0)::(.int .i64 0)::(.string (⟨#[]⟩:ByteArray))::(.string (⟨#[]⟩:ByteArray))::(.string (⟨#[]⟩:ByteArray))::(.string (⟨#[]⟩:ByteArray))::(.string (⟨#[]⟩:ByteArray))::(.string (⟨#[]⟩:ByteArray))::(.string (⟨#[]⟩:ByteArray))::(.string (⟨#[]⟩:ByteArray))::(.string (⟨#[]⟩:ByteArray))::(.string (⟨#[]⟩:ByteArray))::(.string (⟨#[]⟩:ByteArray))::(.string (⟨#[]⟩:ByteArray))::(.string (⟨#[]⟩:ByteArray))::(.string (⟨#[]⟩:ByteArray))::(.string (⟨#[]⟩:ByteArray))::(.string (⟨#[]⟩:ByteArray))::(.string (⟨#[]⟩:ByteArray))::(.string (⟨#[]⟩:ByteArray))::(.string (⟨#[]⟩:ByteArray))::(.string (⟨#[]⟩:ByteArray))::(.string (⟨#[]⟩:ByteArray))::(.string (⟨#[]⟩:ByteArray))::(.string (⟨#[]⟩:ByteArray))::(.string (⟨#[]⟩:ByteArray))::(.string (⟨#[]⟩:ByteArray))::(.string (⟨#[]⟩:ByteArray))::(.string (⟨#[]⟩:ByteArray))::(.string (⟨#[]⟩:ByteArray))::(.string (⟨#[]⟩:ByteArray))::(.string (⟨#[]⟩:ByteArray))::(.string (⟨#[]⟩:ByteArray))::(.string (⟨#[]⟩:ByteArray))::(.string (⟨#[]⟩:ByteArray))::(.string (⟨#[]⟩:ByteArray))::(.string (⟨#[]⟩:ByteArray))::(.string (⟨#[]⟩:ByteArray))::(.string (⟨#[]⟩:ByteArray))::(.string (⟨#[]⟩:ByteArray))::(.string (⟨#[]⟩:ByteArray))::(.string (⟨#[]⟩:ByteArray))::(.string (⟨#[]⟩:ByteArray))::(.string (⟨#[]⟩:ByteArray))::(.string (⟨#[]⟩:ByteArray))::(.string (⟨#[]⟩:ByteArray))::(.string (⟨#[]⟩:ByteArray))::(.string (⟨#[]⟩:ByteArray))::(.string (⟨#[]⟩:ByteArray))::(.string (⟨#[]⟩:ByteArray))::(.string (⟨#[]⟩:ByteArray))::(.string (⟨#[]⟩:ByteArray))::(.string (⟨#[]⟩:ByteArray))::(.string (⟨#[]⟩:ByteArray))::(.string (⟨#[]⟩:ByteArray))::(.string (⟨#[]⟩:ByteArray))::(.string (⟨#[]⟩:ByteArray))::(.string (⟨#[]⟩:ByteArray))::(.string (⟨#[]⟩:ByteArray))::(.string (⟨#[]⟩:ByteArray))::(.string (⟨#[]⟩:ByteArray))::(.string (⟨#[]⟩:ByteArray))::(.string (⟨#[]⟩:ByteArray))::(.string (⟨#[]⟩:ByteArray))::(.string (⟨#[]⟩:ByteArray))::(.string (⟨#[]⟩:ByteArray))::(.pointer none)::(.pointer none)::(.pointer none)::(.pointer none)::(.pointer none)::(.pointer none)::(.pointer none)::(.pointer none)::(.pointer none)::(.pointer none)::(.pointer none)::(.pointer none)::(.pointer none)::(.pointer none)::(.pointer none)::(.pointer none)::(.pointer none)::(.pointer none)::(.pointer none)::(.pointer none)::(.pointer none)::(.pointer none)::(.pointer none)::(.pointer none)::(.pointer none)::(.pointer none)::(.pointer none)::(.pointer none)::(.pointer none)::(.pointer none)::(.pointer none)::(.pointer none):: []) gT) (fun h2=>
 LoopP (fun I3 (t4:Int) h5=>
 CondP (decide (t4<(32:Int))) (
 Join (fun(t65:Unit) h66=>
 I3 (IntKind.wrap .i64 (t4+1)) h66) (fun J6=>
 LoopP (fun I7 (t8:SliceV×SliceV×Int) h9=>
 CondP (decide (t8.2.2<(x0.len:Int))) (
 Join (fun(t47:SliceV×SliceV) h48=>
 I7 (t47.1,t47.2,IntKind.wrap .i64 (t8.2.2+1)) h48) (fun J10=>
 (dd t8.2.2 x0.len∧∃a11,x0.a=some a11∧
 ∃v12,bC h9 (adr a11 (t8.2.2.toNat*2)) 0 v12∧
 ∃v13,bC h9 (adr a11 (t8.2.2.toNat*2)) 1 v13∧
 nv h9 kU bS (jx v12 v13) (fun h15=>
 (dd t8.2.2 x1.len∧∃a16,x1.a=some a16∧
 ∃v17,cf h15 a16 (t8.2.2.toNat*1) (.int .u64 v17)∧
 HC PG xS (nn v17 x2) cy (fun(e18:Int) h19=>
 CondP (e18==t4) (
 ∃v20,av h19 h9 0 v20∧
 ∃v21,av h19 h9 1 v21∧
 (dd t8.2.2 x1.len∧∃a22,x1.a=some a22∧
 ∃v23,cf h19 a22 (t8.2.2.toNat*1) (.int .u64 v23)∧
 ((At (hnew h19 (jx v20 v21) bS) (fun h24=>
 (cf h24 a22 (t8.2.2.toNat*1) (.int .u64 v23)∧
 ((∃xs25,SRow h24 (some (az h19)) (1*2) xs25∧
 AppP (some kU) 2 32 bS t8.1.a t8.1.len t8.1.cap 1 xs25 h24 (fun s26 h27=>
 (cf h27 a22 (t8.2.2.toNat*1) (.int .u64 v23)∧
 At (hnew h27 [.int .u64 v23] nq) (fun h28=>
 ∃xs29,SRow h28 (some (az h27)) (1*1) xs29∧
 AppP (some [.int .u64 0]) 1 8 nq t8.2.1.a t8.2.1.len t8.2.1.cap 1 xs29 h28 (fun s30 h31=>
 J10 (s26,s30) h31)))))∧
 At (hnew h24 [.int .u64 v23] nq) (fun h32=>
 ∃xs33,SRow h32 (some (az h19)) (1*2) xs33∧
 AppP (some kU) 2 32 bS t8.1.a t8.1.len t8.1.cap 1 xs33 h32 (fun s34 h35=>
 ∃xs36,SRow h35 (some (az h24)) (1*1) xs36∧
 AppP (some [.int .u64 0]) 1 8 nq t8.2.1.a t8.2.1.len t8.2.1.cap 1 xs36 h35 (fun s37 h38=>
 J10 (s34,s37) h38)))))))∧
 At (hnew h19 [.int .u64 v23] nq) (fun h39=>
 ((av h39 h9 0 v20∧av h39 h9 1 v21)∧
 At (hnew h39 (jx v20 v21) bS) (fun h40=>
 ∃xs41,SRow h40 (some (az h39)) (1*2) xs41∧
 AppP (some kU) 2 32 bS t8.1.a t8.1.len t8.1.cap 1 xs41 h40 (fun s42 h43=>
 ∃xs44,SRow h43 (some (az h19)) (1*1) xs44∧
 AppP (some [.int .u64 0]) 1 8 nq t8.2.1.a t8.2.1.len t8.2.1.cap 1 xs44 h43 (fun s45 h46=>
 J10 (s42,s45) h46)))))))) (
 J10 (t8.1,t8.2.1) h19)) h15))))) (
 Join (fun(t57:Unit) h58=>
 CondP (decide ((t8.1.len:Int)>(1:Int))) (
 ∃a59,some (az h0)=some a59∧
 ∃a60,some (az h0)=some a60∧
 HC PG xR (Lf t8.1 t8.2.1 (IntKind.wrap .i64 (x2+1))) [.c .ptr] (fun(e61:Option Addr) h62=>
 (dd t4 32∧
 (dL h62 (adr (adr a59 2) (t4.toNat*1)) (.int .i64 2) (fun h63=>
 (dd t4 32∧
 (dL h63 (adr (adr a60 98) (t4.toNat*1)) (.pointer e61) (fun h64=>
 J6 () h64))))))) h58) (
 J6 () h58)) (fun J49=>
 CondP ((t8.1.len:Int)==(1:Int)) (
 (dd 0 t8.1.len∧∃a50,t8.1.a=some a50∧
 ∃v51,bC h9 (adr a50 ((0:Int).toNat*2)) 0 v51∧
 ∃v52,bC h9 (adr a50 ((0:Int).toNat*2)) 1 v52∧
 ∃a53,some (az h0)=some a53∧
 (dd t4 32∧
 ∃a54,some (az h0)=some a54∧
 (dL h9 (adr (adr a53 2) (t4.toNat*1)) (.int .i64 1) (fun h55=>
 (dd t4 32∧
 (rt h55 (adr (adr a54 34) (t4.toNat*2)) (jx v51 v52) (fun h56=>
 J49 () h56)))))))) (
 J49 () h9)))) (⟨none,0,0⟩,⟨none,0,0⟩,0) h5)) (
 K (some (az h0)) h5)) 0 h2))
noncomputable def Ob:Ann:=.node .nil (.node .nil (.node .nil (.node (.node .nil (.loop [(8,.c (.int .i64))] (.node .nil (.join [] (.node .nil (.node .nil (.node (.node .nil (.loop [(9,.c .slice),(10,.c .slice),(26,.c (.int .i64))] (.node .nil (.node .nil (.join [(9,.c .slice),(10,.c .slice)] .nil .nil))))) (.join [] .nil .nil)))) .nil)))) .nil)))
theorem Hq(x0:SliceV)(x1:SliceV)(x2:Int){K:cW [.c .ptr]→ad→Prop}{h0:ad}(h:CF x0 x1 x2 K h0):HC PG xR (Lf x0 x1 x2) [.c .ptr] K h0:=ed Ob Tryz.func140 Tryz.call140 rfl rfl (by kernel_rfl) h
def qx(x0:Option Addr)(K:(Bool)→ad→Prop)(h0:ad):Prop:=
 ∃a1,x0=some a1∧
 ∃v2:SliceV,bG h0 a1 3 v2∧
 LoopP (fun I3 (t4:Int) h5=>
 CondP (decide (t4<(v2.len:Int))) (
 (dd t4 v2.len∧∃a6,v2.a=some a6∧
 ∃v7,cf h5 a6 (t4.toNat*1) (.pointer v7)∧
 Join (fun(t21:Bool) h22=>
 CondP t21 (
 K false h22) (
 I3 (IntKind.wrap .i64 (t4+1)) h22)) (fun J8=>
 ∃a9,v7=some a9∧
 ∃v10,bC h5 a9 0 v10∧
 CondP (v10.toList==(⟨#[]⟩:ByteArray).toList) (
 J8 true h5) (
 CondP (decide (t4>(0:Int))) (
 ∃a11,x0=some a11∧
 ∃v12:SliceV,bG h5 a11 3 v12∧
 (dd (IntKind.wrap .i64 (t4-1)) v12.len∧∃a13,v12.a=some a13∧
 ∃v14,cf h5 a13 ((IntKind.wrap .i64 (t4-1)).toNat*1) (.pointer v14)∧
 ∃a15,v14=some a15∧
 ∃v16,bC h5 a15 0 v16∧
 ∃b17,(0:Int)≤(0:Int)∧v16[(0:Int).toNat]? =some b17∧
 ∃a18,v7=some a18∧
 ∃v19,bC h5 a18 0 v19∧
 ∃b20,(0:Int)≤(0:Int)∧v19[(0:Int).toNat]? =some b20∧
 J8 (decide ((b17.toNat:Int)≥(b20.toNat:Int))) h5)) (
 J8 false h5))))) (
 K true h5)) 0 h0
noncomputable def xn:Ann:=.node .nil (.node (.node .nil (.loop [(10,.c (.int .i64))] (.node .nil (.node .nil (.node (.node .nil (.join [(43,.c .bool)] .nil .nil)) .nil))))) .nil)
theorem w8(x0:Option Addr){K:cW [.c .bool]→ad→Prop}{h0:ad}(h:qx x0 K h0):HC PG jU [.pointer x0] [.c .bool] K h0:=ed xn Tryz.func141 Tryz.call141 rfl rfl (by kernel_rfl) h
def eY(x0:SliceV)(x1:Value)(K:(Bool)→ad→Prop)(h0:ad):Prop:=
 HC PG ft [.slice x0.a x0.len x0.cap,x1] cy (fun(e1:Int) h2=>
 K (decide (e1≥(0:Int))) h2) h0
theorem iJ(x0:SliceV)(x1:Value){K:cW [.c .bool]→ad→Prop}{h0:ad}(h:eY x0 x1 K h0):HC PG cI [.slice x0.a x0.len x0.cap,x1] [.c .bool] K h0:=ed .nil Tryz.func142 Tryz.call142 rfl rfl (by kernel_rfl) h
def tS(x0:Option Addr)(K:(Bool)→ad→Prop)(h0:ad):Prop:=
 HC PG js [.pointer x0] [.c .bool] (fun(e1:Bool) h2=>
 K (!e1) h2) h0
theorem Ax(x0:Option Addr){K:cW [.c .bool]→ad→Prop}{h0:ad}(h:tS x0 K h0):HC PG tM [.pointer x0] [.c .bool] K h0:=ed .nil Tryz.func143 Tryz.call143 rfl rfl (by kernel_rfl) h
def pT(x0:Option Addr)(K:(Bool)→ad→Prop)(h0:ad):Prop:=
 Join (fun(t8:Bool) h9=>
 CondP t8 (
 K false h9) (
 ∃a10,x0=some a10∧
 ∃v11:SliceV,bG h9 a10 3 v11∧
 HC PG cI [.slice v11.a v11.len v11.cap,.func (.func om) #[] #[]] [.c .bool] (fun(e12:Bool) h13=>
 K (!e12) h13) h9)) (fun J1=>
 HC PG jU [.pointer x0] [.c .bool] (fun(e2:Bool) h3=>
 CondP (!e2) (
 J1 true h3) (
 ∃a4,x0=some a4∧
 ∃v5,ge h3 a4 1 v5∧
 CondP (!v5) (
 ∃a6,x0=some a6∧
 ∃v7:SliceV,bG h3 a6 3 v7∧
 J1 (decide ((v7.len:Int)<(2:Int))) h3) (
 J1 false h3))) h0)
noncomputable def vD:Ann:=.node .nil (.node (.join [(20,.c .bool)] .nil .nil) .nil)
theorem vz(x0:Option Addr){K:cW [.c .bool]→ad→Prop}{h0:ad}(h:pT x0 K h0):HC PG js [.pointer x0] [.c .bool] K h0:=ed vD Tryz.func144 Tryz.call144 rfl rfl (by kernel_rfl) h
def rM(x0:Int×Int×Int)(x1:Option Addr)(x2:SliceV)(K:(Int×Bool)→ad→Prop)(h0:ad):Prop:=
 At (hnew h0 (yE x0) cC) (fun h1=>
 At (hnew h1 [.pointer x1] bK) (fun h2=>
 At (hnew h2 [.slice x2.a x2.len x2.cap] Kh) (fun h3=>
 At (hnew h3 [.int .i64 0] ol) (fun h4=>
 At (hnew h4 [.bool false] rx) (fun h5=>
 ∃v6,aN h5 (az h1)=some (.pointer v6)∧
 HC PG fg [.pointer v6] [.c .slice] (fun(e7:SliceV) h8=>
 ∃v9,aN h8 (az h1)=some (.pointer v9)∧
 HC PG fH [.pointer v9] [.c .bool] (fun(e10:Bool) h11=>
 CondP e10 (
 Join (fun(t16:Bool) h17=>
 CondP t16 (
 (Wr h17 (az h3)∧
 At (hset h17 (az h3) (.int .i64 0)) (fun h18=>
 (Wr h18 (az h4)∧
 At (hset h18 (az h4) (.bool false)) (fun h19=>
 ∃v20,aN h19 (az h3)=some (.int .i64 v20)∧
 ∃v21,aN h19 (az h4)=some (.bool v21)∧
 K (v20,v21) h19))))) (
 LoopP (fun I22 (t23:Int) h24=>
 CondP (decide (t23<(e7.len:Int))) (
 (dd t23 e7.len∧∃a25,e7.a=some a25∧
 ∃v26,bC h24 (adr a25 (t23.toNat*2)) 0 v26∧
 ∃v27,bC h24 (adr a25 (t23.toNat*2)) 1 v27∧
 nv h24 kU ag (jx v26 v27) (fun h29=>
 ∃v30,ae h29 h0 0 v30∧
 ∃v31,ae h29 h0 1 v31∧
 ∃v32,ae h29 h0 2 v32∧
 ∃v33,av h29 h24 0 v33∧
 ∃v34:SliceV,aN h29 (az h2)=some (.slice v34.a v34.len v34.cap)∧
 HC PG ff [pW v30 v31 v32,.string v33] ii (fun(e35:Int) h36=>
 (aN h36 (az h2)=some (.slice v34.a v34.len v34.cap)∧
 HC PG mr (Lc e35 v34) [.c .bool] (fun(e37:Bool) h38=>
 CondP (!e37) (
 (Wr h38 (az h3)∧
 At (hset h38 (az h3) (.int .i64 0)) (fun h39=>
 (Wr h39 (az h4)∧
 At (hset h39 (az h4) (.bool false)) (fun h40=>
 ∃v41,aN h40 (az h3)=some (.int .i64 v41)∧
 ∃v42,aN h40 (az h4)=some (.bool v42)∧
 K (v41,v42) h40))))) (
 I22 (IntKind.wrap .i64 (t23+1)) h38)) h36)) h29))) (
 (Wr h24 (az h3)∧
 At (hset h24 (az h3) (.int .i64 (e7.len:Int))) (fun h43=>
 (Wr h43 (az h4)∧
 At (hset h43 (az h4) (.bool true)) (fun h44=>
 ∃v45,aN h44 (az h3)=some (.int .i64 v45)∧
 ∃v46,aN h44 (az h4)=some (.bool v46)∧
 K (v45,v46) h44)))))) 0 h17)) (fun J12=>
 ∃v13:SliceV,aN h11 (az h2)=some (.slice v13.a v13.len v13.cap)∧
 CondP ((v13.len:Int) !=(13:Int)) (
 J12 true h11) (
 HC PG th [.slice e7.a e7.len e7.cap] [.c .bool] (fun(e14:Bool) h15=>
 J12 (!e14) h15) h11))) (
 ∃v47:SliceV,aN h11 (az h2)=some (.slice v47.a v47.len v47.cap)∧
 CondP (decide ((v47.len:Int)≥(13:Int))) (
 (Wr h11 (az h3)∧
 At (hset h11 (az h3) (.int .i64 0)) (fun h48=>
 (Wr h48 (az h4)∧
 At (hset h48 (az h4) (.bool false)) (fun h49=>
 ∃v50,aN h49 (az h3)=some (.int .i64 v50)∧
 ∃v51,aN h49 (az h4)=some (.bool v51)∧
 K (v50,v51) h49))))) (
 At (hnew h11 [.int .i64 0] ol) (fun h52=>
 (Wr h52 (az h11)∧
 At (hset h52 (az h11) (.int .i64 (e7.len:Int))) (fun h53=>
 ∃v54:SliceV,aN h53 (az h2)=some (.slice v54.a v54.len v54.cap)∧
 ∃v55:SliceV,aN h53 (az h2)=some (.slice v55.a v55.len v55.cap)∧
 ∃v56:SliceV,aN h53 (az h2)=some (.slice v56.a v56.len v56.cap)∧
 (((0:Int)≤(v56.len:Int)∧(v56.len:Int)≤((v54.cap:Nat):Int))∧
 (((0:Int)≤(v55.len:Int)∧(v55.len:Int)≤(((v56.len:Int).toNat:Nat):Int))∧
 (Wr h53 (az h2)∧
 At (hset h53 (az h2) (.slice (aY v54.a 0 ((v56.len:Int).toNat) 1) (((v55.len:Int).toNat)-0) (((v56.len:Int).toNat)-0))) (fun h57=>
 ∃v58,aN h57 (az h1)=some (.pointer v58)∧
 HC PG jC [.pointer v58] iK (fun(e59:Int) h60=>
 HC PG lQ [.int .u32 e59] [.c .raw] (fun(e61:Value) h62=>
 RangeP PG e61 cy h62 (fun rdy63 bz64 (x65:Int) k66 h67=>
 (h67[(bT h62+1)]? =some rdy63∧At (bO h67 (bT h62+1) bz64) (fun h69=>
 ∃v71,aN h69 (az h1)=some (.pointer v71)∧
 HC PG lP (xo v71 x65) pO (fun(e72:(ByteArray×ByteArray)×Bool) h73=>
 nv h73 kU ag (sP e72.1) (fun h75=>
 Join (fun(t98:Bool) h99=>
 CondP t98 (
 (Wr h99 (az h3)∧
 At (hset h99 (az h3) (.int .i64 0)) (fun h100=>
 (Wr h100 (az h4)∧
 At (hset h100 (az h4) (.bool false)) (fun h101=>
 k66 (some .ret) h101))))) (
 k66 none h99)) (fun J76=>
 ∃v77,ae h75 h0 0 v77∧
 ∃v78,ae h75 h0 1 v78∧
 ∃v79,ae h75 h0 2 v79∧
 ∃v80,av h75 h73 0 v80∧
 ∃v81:SliceV,aN h75 (az h2)=some (.slice v81.a v81.len v81.cap)∧
 ((HC PG ff [pW v77 v78 v79,.string v80] ii (fun(e82:Int) h83=>
 (aN h83 (az h2)=some (.slice v81.a v81.len v81.cap)∧
 At (hnew h83 [.int .i64 x65] ol) (fun h84=>
 (aN h84 (az h2)=some (.slice v81.a v81.len v81.cap)∧
 ∃xs85,SRow h84 (some (az h83)) (1*1) xs85∧
 AppP (some [.int .i64 0]) 1 8 ol v81.a v81.len v81.cap 1 xs85 h84 (fun s86 h87=>
 HC PG mr (Lc e82 s86) [.c .bool] (fun(e88:Bool) h89=>
 J76 (!e88) h89) h87))))) h75)∧
 At (hnew h75 [.int .i64 x65] ol) (fun h90=>
 (aN h90 (az h2)=some (.slice v81.a v81.len v81.cap)∧
 (av h90 h73 0 v80∧
 ((ae h90 h0 0 v77∧ae h90 h0 1 v78∧ae h90 h0 2 v79)∧
 HC PG ff [pW v77 v78 v79,.string v80] ii (fun(e91:Int) h92=>
 (aN h92 (az h2)=some (.slice v81.a v81.len v81.cap)∧
 ∃xs93,SRow h92 (some (az h75)) (1*1) xs93∧
 AppP (some [.int .i64 0]) 1 8 ol v81.a v81.len v81.cap 1 xs93 h92 (fun s94 h95=>
 HC PG mr (Lc e91 s94) [.c .bool] (fun(e96:Bool) h97=>
 J76 (!e96) h97) h95))) h90)))))))) h69))) (fun h102=>
 ∃v105,aN h102 (az h1)=some (.pointer v105)∧
 HC PG gM [.pointer v105] iK (fun(e106:Int) h107=>
 HC PG lQ [.int .u32 e106] [.c .raw] (fun(e108:Value) h109=>
 RangeP PG e108 cy h109 (fun rdy110 bz111 (x112:Int) k113 h114=>
 (h114[(bT h109+1)]? =some rdy110∧At (bO h114 (bT h109+1) bz111) (fun h116=>
 ∃v118,aN h116 (az h1)=some (.pointer v118)∧
 HC PG j5 (xo v118 x112) uw (fun(e119:(Option Addr)×Bool) h120=>
 Join (fun(t132:Int×Bool) h133=>
 Join (fun(t135:Bool) h136=>
 CondP t135 (
 (Wr h136 (az h3)∧
 At (hset h136 (az h3) (.int .i64 0)) (fun h137=>
 (Wr h137 (az h4)∧
 At (hset h137 (az h4) (.bool false)) (fun h138=>
 k113 (some .ret) h138))))) (
 ∃v139,aN h136 (az h11)=some (.int .i64 v139)∧
 (Wr h136 (az h11)∧
 At (hset h136 (az h11) (.int .i64 (IntKind.wrap .i64 (v139+t132.1)))) (fun h140=>
 k113 none h140)))) (fun J134=>
 CondP (!t132.2) (
 J134 true h133) (
 J134 (decide (t132.1<(2:Int))) h133))) (fun J121=>
 ∃v122,ae h120 h0 0 v122∧
 ∃v123,ae h120 h0 1 v123∧
 ∃v124,ae h120 h0 2 v124∧
 ∃v125:SliceV,aN h120 (az h2)=some (.slice v125.a v125.len v125.cap)∧
 At (hnew h120 [.int .i64 x112] ol) (fun h126=>
 (aN h126 (az h2)=some (.slice v125.a v125.len v125.cap)∧
 ((ae h126 h0 0 v122∧ae h126 h0 1 v123∧ae h126 h0 2 v124)∧
 ∃xs127,SRow h126 (some (az h120)) (1*1) xs127∧
 AppP (some [.int .i64 0]) 1 8 ol v125.a v125.len v125.cap 1 xs127 h126 (fun s128 h129=>
 ((ae h129 h0 0 v122∧ae h129 h0 1 v123∧ae h129 h0 2 v124)∧
 HC PG mu [pW v122 v123 v124,.pointer e119.1,.slice s128.a s128.len s128.cap] jz (fun(e130:Int×Bool) h131=>
 J121 (e130.1,e130.2) h131) h129))))))) h116))) (fun h141=>
 ∃v144,aN h141 (az h11)=some (.int .i64 v144)∧
 (Wr h141 (az h3)∧
 At (hset h141 (az h3) (.int .i64 v144)) (fun h145=>
 (Wr h145 (az h4)∧
 At (hset h145 (az h4) (.bool true)) (fun h146=>
 (h146[(bT h109)]? =some (.deferred (some []))∧At (bO h146 (bT h109) (.deferred none)) (fun h147=>
 (h147[(bT h62)]? =some (.deferred (some []))∧At (bO h147 (bT h62) (.deferred none)) (fun h148=>
 ∃v149,aN h148 (az h3)=some (.int .i64 v149)∧
 ∃v150,aN h148 (az h4)=some (.bool v150)∧
 K (v149,v150) h148))))))))) (fun i117 h142=>
 bif bJ i117 4 then(
 ∃v151,aN h142 (az h11)=some (.int .i64 v151)∧
 (Wr h142 (az h3)∧
 At (hset h142 (az h3) (.int .i64 v151)) (fun h152=>
 (Wr h152 (az h4)∧
 At (hset h152 (az h4) (.bool true)) (fun h153=>
 (h153[(bT h109)]? =some (.deferred (some []))∧At (bO h153 (bT h109) (.deferred none)) (fun h154=>
 (h154[(bT h62)]? =some (.deferred (some []))∧At (bO h154 (bT h62) (.deferred none)) (fun h155=>
 ∃v156,aN h155 (az h3)=some (.int .i64 v156)∧
 ∃v157,aN h155 (az h4)=some (.bool v157)∧
 K (v156,v157) h155)))))))))else(
 False)) (fun h143=>
 (h143[(bT h109)]? =some (.deferred (some []))∧At (bO h143 (bT h109) (.deferred none)) (fun h158=>
 (h158[(bT h62)]? =some (.deferred (some []))∧At (bO h158 (bT h62) (.deferred none)) (fun h159=>
 ∃v160,aN h159 (az h3)=some (.int .i64 v160)∧
 ∃v161,aN h159 (az h4)=some (.bool v161)∧
 K (v160,v161) h159)))))) h107) h102) (fun i70 h103=>
 bif bJ i70 2 then(
 ∃v162,aN h103 (az h1)=some (.pointer v162)∧
 HC PG gM [.pointer v162] iK (fun(e163:Int) h164=>
 HC PG lQ [.int .u32 e163] [.c .raw] (fun(e165:Value) h166=>
 RangeP PG e165 cy h166 (fun rdy167 bz168 (x169:Int) k170 h171=>
 (h171[(bT h166+1)]? =some rdy167∧At (bO h171 (bT h166+1) bz168) (fun h173=>
 ∃v175,aN h173 (az h1)=some (.pointer v175)∧
 HC PG j5 (xo v175 x169) uw (fun(e176:(Option Addr)×Bool) h177=>
 Join (fun(t189:Int×Bool) h190=>
 Join (fun(t192:Bool) h193=>
 CondP t192 (
 (Wr h193 (az h3)∧
 At (hset h193 (az h3) (.int .i64 0)) (fun h194=>
 (Wr h194 (az h4)∧
 At (hset h194 (az h4) (.bool false)) (fun h195=>
 k170 (some .ret) h195))))) (
 ∃v196,aN h193 (az h11)=some (.int .i64 v196)∧
 (Wr h193 (az h11)∧
 At (hset h193 (az h11) (.int .i64 (IntKind.wrap .i64 (v196+t189.1)))) (fun h197=>
 k170 none h197)))) (fun J191=>
 CondP (!t189.2) (
 J191 true h190) (
 J191 (decide (t189.1<(2:Int))) h190))) (fun J178=>
 ∃v179,ae h177 h0 0 v179∧
 ∃v180,ae h177 h0 1 v180∧
 ∃v181,ae h177 h0 2 v181∧
 ∃v182:SliceV,aN h177 (az h2)=some (.slice v182.a v182.len v182.cap)∧
 At (hnew h177 [.int .i64 x169] ol) (fun h183=>
 (aN h183 (az h2)=some (.slice v182.a v182.len v182.cap)∧
 ((ae h183 h0 0 v179∧ae h183 h0 1 v180∧ae h183 h0 2 v181)∧
 ∃xs184,SRow h183 (some (az h177)) (1*1) xs184∧
 AppP (some [.int .i64 0]) 1 8 ol v182.a v182.len v182.cap 1 xs184 h183 (fun s185 h186=>
 ((ae h186 h0 0 v179∧ae h186 h0 1 v180∧ae h186 h0 2 v181)∧
 HC PG mu [pW v179 v180 v181,.pointer e176.1,.slice s185.a s185.len s185.cap] jz (fun(e187:Int×Bool) h188=>
 J178 (e187.1,e187.2) h188) h186))))))) h173))) (fun h198=>
 ∃v201,aN h198 (az h11)=some (.int .i64 v201)∧
 (Wr h198 (az h3)∧
 At (hset h198 (az h3) (.int .i64 v201)) (fun h202=>
 (Wr h202 (az h4)∧
 At (hset h202 (az h4) (.bool true)) (fun h203=>
 (h203[(bT h166)]? =some (.deferred (some []))∧At (bO h203 (bT h166) (.deferred none)) (fun h204=>
 (h204[(bT h62)]? =some (.deferred (some []))∧At (bO h204 (bT h62) (.deferred none)) (fun h205=>
 ∃v206,aN h205 (az h3)=some (.int .i64 v206)∧
 ∃v207,aN h205 (az h4)=some (.bool v207)∧
 K (v206,v207) h205))))))))) (fun i174 h199=>
 bif bJ i174 4 then(
 ∃v208,aN h199 (az h11)=some (.int .i64 v208)∧
 (Wr h199 (az h3)∧
 At (hset h199 (az h3) (.int .i64 v208)) (fun h209=>
 (Wr h209 (az h4)∧
 At (hset h209 (az h4) (.bool true)) (fun h210=>
 (h210[(bT h166)]? =some (.deferred (some []))∧At (bO h210 (bT h166) (.deferred none)) (fun h211=>
 (h211[(bT h62)]? =some (.deferred (some []))∧At (bO h211 (bT h62) (.deferred none)) (fun h212=>
 ∃v213,aN h212 (az h3)=some (.int .i64 v213)∧
 ∃v214,aN h212 (az h4)=some (.bool v214)∧
 K (v213,v214) h212)))))))))else(
 False)) (fun h200=>
 (h200[(bT h166)]? =some (.deferred (some []))∧At (bO h200 (bT h166) (.deferred none)) (fun h215=>
 (h215[(bT h62)]? =some (.deferred (some []))∧At (bO h215 (bT h62) (.deferred none)) (fun h216=>
 ∃v217,aN h216 (az h3)=some (.int .i64 v217)∧
 ∃v218,aN h216 (az h4)=some (.bool v218)∧
 K (v217,v218) h216)))))) h164) h103)else(
 False)) (fun h104=>
 (h104[(bT h62)]? =some (.deferred (some []))∧At (bO h104 (bT h62) (.deferred none)) (fun h219=>
 ∃v220,aN h219 (az h3)=some (.int .i64 v220)∧
 ∃v221,aN h219 (az h4)=some (.bool v221)∧
 K (v220,v221) h219)))) h60) h57)))))))))) h8) h5)))))
noncomputable def Dw:Ann:=.node .nil (.node .nil (.node (.node .nil (.node (.node (.join [(31,.c .bool)] .nil .nil) (.node (.node .nil (.loop [(34,.c (.int .i64))] .nil)) .nil)) .nil)) (.node .nil (.node .nil (.node .nil (.node (.node .nil (.rf [.c (.int .i64)] .nil (.node .nil (.join [(78,.c .bool)] .nil .nil)))) (.node (.node .nil (.rf [.c (.int .i64)] .nil (.node .nil (.join [(18,.c (.int .i64)),(19,.c .bool)] .nil (.node (.join [(104,.c .bool)] .nil .nil) .nil))))) .nil)))))))
theorem vT(x0:Int×Int×Int)(x1:Option Addr)(x2:SliceV){K:cW jz→ad→Prop}{h0:ad}(h:rM x0 x1 x2 K h0):HC PG mu [HJ x0,.pointer x1,.slice x2.a x2.len x2.cap] jz K h0:=Rd Dw Tryz.func145 Tryz.call145 rfl rfl (by kernel_rfl) h
def yy(K:(Option Addr)→ad→Prop)(h0:ad):Prop:=
 At (hnew h0 Mv bE) (fun h1=>
 K (some (az h0)) h1)
theorem FR{K:cW [.c .ptr]→ad→Prop}{h0:ad}(h:yy K h0):HC PG nG [] [.c .ptr] K h0:=ed .nil Tryz.func146 Tryz.call146 rfl rfl (by kernel_rfl) h
def yp(x0:Option Addr)(K:(Option Addr)→ad→Prop)(h0:ad):Prop:=
 CondP x0.isNone (
 HC PG oX [] [.c .ptr] (fun(e1:Option Addr) h2=>
 K e1 h2) h0) (
 K x0 h0)
theorem FJ(x0:Option Addr){K:cW [.c .ptr]→ad→Prop}{h0:ad}(h:yp x0 K h0):HC PG tc [.pointer x0] [.c .ptr] K h0:=ed .nil Tryz.func147 Tryz.call147 rfl rfl (by kernel_rfl) h
def sA(x0:Option Addr)(x1:Option Addr)(x2:ByteArray)(x3:ByteArray)(K:((Option Addr)×Bool×Bool)→ad→Prop)(h0:ad):Prop:=
 CondP (x2.toList==(⟨#[]⟩:ByteArray).toList) (
 Join (fun(t6:Bool) h7=>
 CondP t6 (
 K (x0,false,false) h7) (
 ∃a8,x0=some a8∧
 ∃v9,ge h7 a8 1 v9∧
 HC PG fG (pV x0 x1) [.c .ptr] (fun(e10:Option Addr) h11=>
 (ge h11 a8 1 v9∧
 HC PG jp (xu e10 x3) [.c .ptr] (fun(e12:Option Addr) h13=>
 (ge h13 a8 1 v9∧
 K (e12, !v9,true) h13)) h11)) h7)) (fun J1=>
 ∃a2,x0=some a2∧
 ∃v3,ge h0 a2 1 v3∧
 CondP v3 (
 ∃a4,x0=some a4∧
 ∃v5,bC h0 a4 2 v5∧
 J1 (v5.toList==x3.toList) h0) (
 J1 false h0))) (
 ∃b14,(0:Int)≤(0:Int)∧x2[(0:Int).toNat]? =some b14∧
 HC PG nC (HS x0 (b14.toNat:Int)) jz (fun(e15:Int×Bool) h16=>
 CondP (!e15.2) (
 HC PG fG (pV x0 x1) [.c .ptr] (fun(e17:Option Addr) h18=>
 ∃a19,e17=some a19∧
 ∃v20:SliceV,bG h18 a19 3 v20∧
 HC PG rD (PS x1 x2 x3) [.c .ptr] (fun(e21:Option Addr) h22=>
 (bG h22 a19 3 v20∧
 At (hnew h22 [.pointer e21] bQ) (fun h23=>
 (bG h23 a19 3 v20∧
 HC PG d9 [.slice v20.a v20.len v20.cap,.int .i64 e15.1,.slice (some (az h22)) 1 1] [.c .slice] (fun(e24:SliceV) h25=>
 ∃a26,e17=some a26∧
 (dL h25 (adr a26 3) (.slice e24.a e24.len e24.cap) (fun h27=>
 K (e17,true,true) h27))) h23)))) h18) h16) (
 ∃a28,x0=some a28∧
 ∃v29:SliceV,bG h16 a28 3 v29∧
 (dd e15.1 v29.len∧∃a30,v29.a=some a30∧
 ∃v31,cf h16 a30 (e15.1.toNat*1) (.pointer v31)∧
 ∃a32,v31=some a32∧
 ∃v33,bC h16 a32 0 v33∧
 HC PG rC (jx x2 v33) cy (fun(e34:Int) h35=>
 Join (fun(t41:Option Addr) h42=>
 (((0:Int)≤e34∧e34≤((x2.size:Nat):Int))∧
 HC PG lO (MG t41 x1 (x2.extract e34.toNat x2.size) x3) qP (fun(e43:(Option Addr)×Bool×Bool) h44=>
 CondP (!e43.2.2) (
 K (x0,false,false) h44) (
 HC PG fG (pV x0 x1) [.c .ptr] (fun(e45:Option Addr) h46=>
 ∃a47,e45=some a47∧
 ∃v48:SliceV,bG h46 a47 3 v48∧
 (dd e15.1 v48.len∧∃a49,v48.a=some a49∧
 (dL h46 (adr a49 (e15.1.toNat*1)) (.pointer e43.1) (fun h50=>
 K (e45,e43.2.1,true) h50)))) h44)) h42)) (fun J36=>
 ∃a37,v31=some a37∧
 ∃v38,bC h35 a37 0 v38∧
 CondP (decide (e34<(v38.size:Int))) (
 HC PG mW (MF v31 x1 e34) [.c .ptr] (fun(e39:Option Addr) h40=>
 J36 e39 h40) h35) (
 J36 v31 h35))) h16))) h0)
noncomputable def zy:Ann:=.node .nil (.node (.node .nil (.node (.node (.join [(33,.c .bool)] .nil .nil) .nil) .nil)) (.node .nil (.node .nil (.node .nil (.node .nil (.join [(14,.c .ptr)] .nil .nil))))))
theorem zo(x0:Option Addr)(x1:Option Addr)(x2:ByteArray)(x3:ByteArray){K:cW qP→ad→Prop}{h0:ad}(h:sA x0 x1 x2 x3 K h0):HC PG lO (MG x0 x1 x2 x3) qP K h0:=ed zy Tryz.func148 Tryz.call148 rfl rfl (by kernel_rfl) h
def oI(x0:Int×Int×Int×(Option Addr)×ByteArray×Int)(x1:Option Addr)(x2:ByteArray×ByteArray)(x3:Int)(K:((Option Addr)×Bool×Bool)→ad→Prop)(h0:ad):Prop:=
 At (hnew h0 (LK x0) cO) (fun h1=>
 At (hnew h1 (sP x2) ag) (fun h2=>
 HC PG fH [.pointer x1] [.c .bool] (fun(e3:Bool) h4=>
 CondP e3 (
 ∃v5,av h4 h1 0 v5∧
 HC PG tu (xu x1 v5) BR (fun(e6:ByteArray×Bool) h7=>
 Join (fun(t10:Bool) h11=>
 CondP t10 (
 K (x1,false,false) h11) (
 ∃v12,au h11 h0 3 v12∧
 ∃v13,av h11 h1 0 v13∧
 ∃v14,av h11 h1 1 v14∧
 HC PG iU [.pointer x1,.pointer v12,o9 v13 v14] [.c .ptr] (fun(e15:Option Addr) h16=>
 K (e15, !e6.2,true) h16) h11)) (fun J8=>
 CondP e6.2 (
 ∃v9,av h7 h1 1 v9∧
 J8 (e6.1.toList==v9.toList) h7) (
 J8 false h7))) h4) (
 ∃v17,ae h4 h0 5 v17∧
 HC PG mZ (nn v17 x3) cy (fun(e18:Int) h19=>
 HC PG lP (xo x1 e18) pO (fun(e20:(ByteArray×ByteArray)×Bool) h21=>
 nv h21 kU ag (sP e20.1) (fun h23=>
 CondP e20.2 (
 ∃v24,av h23 h21 0 v24∧
 ∃v25,av h23 h21 1 v25∧
 ∃v26,av h23 h1 0 v26∧
 ∃v27,av h23 h1 1 v27∧
 CondP ((v24.toList==v26.toList)&&((v25.toList==v27.toList)&&true)) (
 K (x1,false,false) h23) (
 ∃v28,av h23 h21 0 v28∧
 ∃v29,av h23 h1 0 v29∧
 CondP (v28.toList==v29.toList) (
 ∃v30,au h23 h0 3 v30∧
 ∃v31,av h23 h1 0 v31∧
 ∃v32,av h23 h1 1 v32∧
 HC PG fY [.pointer x1,.pointer v30,.int .i64 e18,o9 v31 v32] [.c .ptr] (fun(e33:Option Addr) h34=>
 K (e33,false,true) h34) h23) (
 ∃v35,au h23 h0 3 v35∧
 ∃v36,ae h23 h0 0 v36∧
 ∃v37,ae h23 h0 1 v37∧
 ∃v38,ae h23 h0 2 v38∧
 ∃v39,au h23 h0 3 v39∧
 ∃v40,av h23 h0 4 v40∧
 ∃v41,ae h23 h0 5 v41∧
 ∃v42,av h23 h21 0 v42∧
 ∃v43,av h23 h21 1 v43∧
 ∃v44,av h23 h1 0 v44∧
 ∃v45,av h23 h1 1 v45∧
 HC PG kK [CX v36 v37 v38 v39 v40 v41,o9 v42 v43,o9 v44 v45,.int .i64 (IntKind.wrap .i64 (x3+1))] [.c .ptr] (fun(e46:Option Addr) h47=>
 (au h47 h0 3 v35∧
 HC PG iu (F7 x1 v35 e18 e46) [.c .ptr] (fun(e48:Option Addr) h49=>
 K (e48,true,true) h49) h47)) h23))) (
 HC PG j5 (xo x1 e18) uw (fun(e50:(Option Addr)×Bool) h51=>
 CondP (!e50.2) (
 ∃v52,au h51 h0 3 v52∧
 ∃v53,av h51 h1 0 v53∧
 ∃v54,av h51 h1 1 v54∧
 HC PG fY [.pointer x1,.pointer v52,.int .i64 e18,o9 v53 v54] [.c .ptr] (fun(e55:Option Addr) h56=>
 K (e55,true,true) h56) h51) (
 ∃v57,ae h51 h0 0 v57∧
 ∃v58,ae h51 h0 1 v58∧
 ∃v59,ae h51 h0 2 v59∧
 ∃v60,au h51 h0 3 v60∧
 ∃v61,av h51 h0 4 v61∧
 ∃v62,ae h51 h0 5 v62∧
 ∃v63,av h51 h1 0 v63∧
 ∃v64,av h51 h1 1 v64∧
 HC PG ik [CX v57 v58 v59 v60 v61 v62,.pointer e50.1,o9 v63 v64,.int .i64 (IntKind.wrap .i64 (x3+1))] qP (fun(e65:(Option Addr)×Bool×Bool) h66=>
 CondP (!e65.2.2) (
 K (x1,false,false) h66) (
 ∃v67,au h66 h0 3 v67∧
 HC PG iu (F7 x1 v67 e18 e65.1) [.c .ptr] (fun(e68:Option Addr) h69=>
 K (e68,e65.2.1,true) h69) h66)) h51)) h23))) h19) h4)) h2))
noncomputable def zA:Ann:=.node .nil (.node (.node .nil (.node (.node .nil (.node (.join [(36,.c .bool)] .nil .nil) .nil)) .nil)) .nil)
theorem si(x0:Int×Int×Int×(Option Addr)×ByteArray×Int)(x1:Option Addr)(x2:ByteArray×ByteArray)(x3:Int){K:cW qP→ad→Prop}{h0:ad}(h:oI x0 x1 x2 x3 K h0):HC PG ik [QY x0,.pointer x1,Kt x2,.int .i64 x3] qP K h0:=ed zA Tryz.func149 Tryz.call149 rfl rfl (by kernel_rfl) h
def yz(x0:Option Addr)(K:(Option Addr)→ad→Prop)(h0:ad):Prop:=
 CondP x0.isNone (
 HC PG my [] [.c .ptr] (fun(e1:Option Addr) h2=>
 K e1 h2) h0) (
 K x0 h0)
theorem FS(x0:Option Addr){K:cW [.c .ptr]→ad→Prop}{h0:ad}(h:yz x0 K h0):HC PG nI [.pointer x0] [.c .ptr] K h0:=ed .nil Tryz.func150 Tryz.call150 rfl rfl (by kernel_rfl) h
def rd(x0:Option Addr)(x1:Int)(K:(Int×Bool)→ad→Prop)(h0:ad):Prop:=
 ∃a1,x0=some a1∧
 ∃v2:SliceV,bG h0 a1 3 v2∧
 HC PG d6 [.slice v2.a v2.len v2.cap,.int .u8 x1,.func (.func md) #[] #[]] jz (fun(e3:Int×Bool) h4=>
 K (e3.1,e3.2) h4) h0
theorem ye(x0:Option Addr)(x1:Int){K:cW jz→ad→Prop}{h0:ad}(h:rd x0 x1 K h0):HC PG nC (HS x0 x1) jz K h0:=ed .nil Tryz.func153 Tryz.call153 rfl rfl (by kernel_rfl) h
def po(x0:Option Addr)(K:(Bool)→ad→Prop)(h0:ad):Prop:=
 CondP (!(x0.isNone)) (
 ∃a1,x0=some a1∧
 ∃v2,ge h0 a1 4 v2∧
 K v2 h0) (
 K false h0)
theorem uQ(x0:Option Addr){K:cW [.c .bool]→ad→Prop}{h0:ad}(h:po x0 K h0):HC PG fH [.pointer x0] [.c .bool] K h0:=ed .nil Tryz.func155 Tryz.call155 rfl rfl (by kernel_rfl) h
def CQ(x0:Option Addr)(x1:ByteArray)(K:(ByteArray×Bool)→ad→Prop)(h0:ad):Prop:=
 HC PG fg [.pointer x0] [.c .slice] (fun(e1:SliceV) h2=>
 HC PG qU (wi e1 x1) jz (fun(e3:Int×Bool) h4=>
 CondP (!e3.2) (
 K ((⟨#[]⟩:ByteArray),false) h4) (
 (dd e3.1 e1.len∧∃a5,e1.a=some a5∧
 ∃v6,bC h4 (adr a5 (e3.1.toNat*2)) 1 v6∧
 K (v6,true) h4))) h2) h0
theorem JP(x0:Option Addr)(x1:ByteArray){K:cW BR→ad→Prop}{h0:ad}(h:CQ x0 x1 K h0):HC PG tu (xu x0 x1) BR K h0:=ed .nil Tryz.func156 Tryz.call156 rfl rfl (by kernel_rfl) h
def CP(x0:Int)(x1:Int)(K:(Int)→ad→Prop)(h0:ad):Prop:=
 Join (fun(t2:Bool) h3=>
 CondP t2 (
 K 0 h3) (
 ((0:Int)≤(IntKind.wrap .i64 (5*x1))∧
 Bd (ee x0 (2^(min (IntKind.wrap .i64 (5*x1):Int).toNat (IntKind.bits .u64))):Int) (fun n4=>
 Bd (IntKind.wrap .u64 (aj (IntKind.bits .u64) n4&&&aj (IntKind.bits .u64) 31).toNat:Int) (fun n5=>
 K (IntKind.wrap .i64 n5) h3))))) (fun J1=>
 CondP (decide (x1<(0:Int))) (
 J1 true h0) (
 J1 (decide (x1≥(13:Int))) h0))
noncomputable def JZ:Ann:=.node .nil (.node (.join [(10,.c .bool)] .nil .nil) .nil)
theorem JO(x0:Int)(x1:Int){K:cW cy→ad→Prop}{h0:ad}(h:CP x0 x1 K h0):HC PG mZ (nn x0 x1) cy K h0:=ed JZ Tryz.func157 Tryz.call157 rfl rfl (by kernel_rfl) h
def sC(x0:Option Addr)(x1:Int)(K:((ByteArray×ByteArray)×Bool)→ad→Prop)(h0:ad):Prop:=
 At (hnew h0 kU ag) (fun h1=>
 HC PG jC [.pointer x0] iK (fun(e2:Int) h3=>
 HC PG fI (mN e2 x1) [.c .bool] (fun(e4:Bool) h5=>
 CondP (!e4) (
 (cJ h5 h0 kU (fun h6=>
 ∃v7,av h6 h0 0 v7∧
 ∃v8,av h6 h0 1 v8∧
 K ((v7,v8),false) h6))) (
 ∃a9,x0=some a9∧
 ∃v10:SliceV,bG h5 (adr a9 0) 2 v10∧
 ∃a11,x0=some a11∧
 ∃v12,gL h5 (adr a11 0) 0 v12∧
 HC PG dA (mN v12 x1) cy (fun(e13:Int) h14=>
 (bG h14 (adr a9 0) 2 v10∧
 (dd e13 v10.len∧∃a15,v10.a=some a15∧
 ∃v16,bC h14 (adr a15 (e13.toNat*2)) 0 v16∧
 ∃v17,bC h14 (adr a15 (e13.toNat*2)) 1 v17∧
 (cJ h14 h0 (jx v16 v17) (fun h18=>
 ∃v19,av h18 h0 0 v19∧
 ∃v20,av h18 h0 1 v20∧
 K ((v19,v20),true) h18))))) h5)) h3) h1)
theorem zr(x0:Option Addr)(x1:Int){K:cW pO→ad→Prop}{h0:ad}(h:sC x0 x1 K h0):HC PG lP (xo x0 x1) pO K h0:=ed .nil Tryz.func158 Tryz.call158 rfl rfl (by kernel_rfl) h
def tW(x0:Option Addr)(x1:Int)(K:((Option Addr)×Bool)→ad→Prop)(h0:ad):Prop:=
 HC PG gM [.pointer x0] iK (fun(e1:Int) h2=>
 HC PG fI (mN e1 x1) [.c .bool] (fun(e3:Bool) h4=>
 CondP (!e3) (
 K (none,false) h4) (
 ∃a5,x0=some a5∧
 ∃v6:SliceV,bG h4 (adr a5 0) 3 v6∧
 ∃a7,x0=some a7∧
 ∃v8,gL h4 (adr a7 0) 1 v8∧
 HC PG dA (mN v8 x1) cy (fun(e9:Int) h10=>
 (bG h10 (adr a5 0) 3 v6∧
 (dd e9 v6.len∧∃a11,v6.a=some a11∧
 ∃v12,cf h10 a11 (e9.toNat*1) (.pointer v12)∧
 K (v12,true) h10))) h4)) h2) h0
theorem AB(x0:Option Addr)(x1:Int){K:cW uw→ad→Prop}{h0:ad}(h:tW x0 x1 K h0):HC PG j5 (xo x0 x1) uw K h0:=ed .nil Tryz.func159 Tryz.call159 rfl rfl (by kernel_rfl) h
def qB(x0:Option Addr)(K:(ByteArray)→ad→Prop)(h0:ad):Prop:=
 CondP x0.isNone (
 K (⟨#[]⟩:ByteArray) h0) (
 ∃a1,x0=some a1∧
 ∃v2,bC h0 a1 0 v2∧
 K v2 h0)
theorem xd(x0:Option Addr){K:cW [.c .str]→ad→Prop}{h0:ad}(h:qB x0 K h0):HC PG jW [.pointer x0] [.c .str] K h0:=ed .nil Tryz.func161 Tryz.call161 rfl rfl (by kernel_rfl) h
def tY(x0:ByteArray)(K:(Bool)→ad→Prop)(h0:ad):Prop:=
 K (!(x0.toList==x0.toList)) h0
theorem AD(x0:ByteArray){K:cW [.c .bool]→ad→Prop}{h0:ad}(h:tY x0 K h0):HC PG mJ [.string x0] [.c .bool] K h0:=ed .nil Tryz.func168 Tryz.call168 rfl rfl (by kernel_rfl) h
def lA(x0:Value)(K:(SliceV)→ad→Prop)(h0:ad):Prop:=
 HC PG eD [.slice none 0 0,x0] [.c .slice] (fun(e1:SliceV) h2=>
 K e1 h2) h0
theorem qn(x0:Value){K:cW [.c .slice]→ad→Prop}{h0:ad}(h:lA x0 K h0):HC PG fT [x0] [.c .slice] K h0:=ed .nil Tryz.func169 Tryz.call169 rfl rfl (by kernel_rfl) h
def Ac(x0:Option Addr)(x1:ByteArray×ByteArray×Bool)(x2:Bool)(K:(Value)→ad→Prop)(h0:ad):Prop:=
 At (hnew h0 [.pointer x0] bQ) (fun h1=>
 At (hnew h1 (Oj x1) na) (fun h2=>
 At (hnew h2 [.bool x2] rx) (fun h3=>
 K (.func (.func oV) #[] #[.pointer (some (az h0)),.pointer (some (az h1)),.pointer (some (az h2))]) h3)))
theorem Hj(x0:Option Addr)(x1:ByteArray×ByteArray×Bool)(x2:Bool){K:cW [.c .raw]→ad→Prop}{h0:ad}(h:Ac x0 x1 x2 K h0):HC PG uD [.pointer x0,OT x1,.bool x2] [.c .raw] K h0:=ed .nil Tryz.func170 Tryz.call170 rfl rfl (by kernel_rfl) h
def Cu(x0:Option Addr)(K:(Value)→ad→Prop)(h0:ad):Prop:=
 At (hnew h0 [.pointer x0] bK) (fun h1=>
 K (.func (.func p6) #[] #[.pointer (some (az h0))]) h1)
theorem Jv(x0:Option Addr){K:cW [.c .raw]→ad→Prop}{h0:ad}(h:Cu x0 K h0):HC PG wH [.pointer x0] [.c .raw] K h0:=ed .nil Tryz.func171 Tryz.call171 rfl rfl (by kernel_rfl) h
def g7(x0:SliceV)(K:(SliceV)→ad→Prop)(h0:ad):Prop:=
 CondP x0.a.isNone (
 K ⟨none,0,0⟩ h0) (
 At (hnew h0 [] ag) (fun h1=>
 ∃xs2,SRow h1 x0.a (x0.len*2) xs2∧
 AppP (some kU) 2 32 ag (some (az h0)) 0 0 x0.len xs2 h1 (fun s3 h4=>
 K s3 h4)))
theorem me(x0:SliceV){K:cW [.c .slice]→ad→Prop}{h0:ad}(h:g7 x0 K h0):HC PG cZ [.slice x0.a x0.len x0.cap] [.c .slice] K h0:=ed .nil Tryz.func172 Tryz.call172 rfl rfl (by kernel_rfl) h
def fB(x0:SliceV)(x1:Value)(K:(Unit)→ad→Prop)(h0:ad):Prop:=
 HC PG i6 [.slice x0.a x0.len x0.cap,.int .i64 (x0.len:Int),x1] [] (fun(e1:Unit) h2=>
 K () h2) h0
theorem jo(x0:SliceV)(x1:Value){K:cW []→ad→Prop}{h0:ad}(h:fB x0 x1 K h0):HC PG cP [.slice x0.a x0.len x0.cap,x1] [] K h0:=ed .nil Tryz.func173 Tryz.call173 rfl rfl (by kernel_rfl) h
def tT(x0:ByteArray×ByteArray)(x1:ByteArray×ByteArray)(K:(Int)→ad→Prop)(h0:ad):Prop:=
 At (hnew h0 (sP x0) ag) (fun h1=>
 At (hnew h1 (sP x1) ag) (fun h2=>
 ∃v3,av h2 h0 0 v3∧
 ∃v4,av h2 h0 1 v4∧
 ∃v5,av h2 h1 0 v5∧
 HC PG nD [o9 v3 v4,.string v5] cy (fun(e6:Int) h7=>
 K e6 h7) h2))
theorem Ay(x0:ByteArray×ByteArray)(x1:ByteArray×ByteArray){K:cW cy→ad→Prop}{h0:ad}(h:tT x0 x1 K h0):HC PG pC [Kt x0,Kt x1] cy K h0:=ed .nil Tryz.func174 Tryz.call174 rfl rfl (by kernel_rfl) h
def yv(x0:ByteArray×ByteArray)(x1:ByteArray)(K:(Int)→ad→Prop)(h0:ad):Prop:=
 At (hnew h0 (sP x0) ag) (fun h1=>
 ∃v2,av h1 h0 0 v2∧
 HC PG nH (jx v2 x1) cy (fun(e3:Int) h4=>
 K e3 h4) h1)
theorem FO(x0:ByteArray×ByteArray)(x1:ByteArray){K:cW cy→ad→Prop}{h0:ad}(h:yv x0 x1 K h0):HC PG nD [Kt x0,.string x1] cy K h0:=ed .nil Tryz.func175 Tryz.call175 rfl rfl (by kernel_rfl) h
def Er(x0:Int×Int)(x1:ByteArray)(K:(Int)→ad→Prop)(h0:ad):Prop:=
 At (hnew h0 (QW x0) kq) (fun h1=>
 ∃v2,ae h1 h0 0 v2∧
 Bd (IntKind.wrap .u64 (aj (IntKind.bits .u64) v2^^^aj (IntKind.bits .u64) 8317987319222330741).toNat:Int) (fun n3=>
 ∃v4,ae h1 h0 1 v4∧
 Bd (IntKind.wrap .u64 (aj (IntKind.bits .u64) v4^^^aj (IntKind.bits .u64) 7237128888997146477).toNat:Int) (fun n5=>
 ∃v6,ae h1 h0 0 v6∧
 Bd (IntKind.wrap .u64 (aj (IntKind.bits .u64) v6^^^aj (IntKind.bits .u64) 7816392313619706465).toNat:Int) (fun n7=>
 ∃v8,ae h1 h0 1 v8∧
 Bd (IntKind.wrap .u64 (aj (IntKind.bits .u64) v8^^^aj (IntKind.bits .u64) 8387220255154660723).toNat:Int) (fun n9=>
 nv h1 K8 iX (Lb n3 n5 n7 n9) (fun h11=>
 LoopP (fun I12 (t13:ByteArray) h14=>
 CondP (decide ((t13.size:Int)≥(8:Int))) (
 (((0:Int)≤(8:Int)∧(8:Int)≤((t13.size:Nat):Int))∧
 HC PG sZ [.string (t13.extract 0 ((8:Int).toNat))] ii (fun(e15:Int) h16=>
 HC PG lM (Oq (some (az h1)) e15) [] (fun(e17:Unit) h18=>
 (((0:Int)≤(8:Int)∧(8:Int)≤((t13.size:Nat):Int))∧
 I12 (t13.extract ((8:Int).toNat) t13.size) h18)) h16) h14)) (
 HC PG sZ [.string t13] ii (fun(e19:Int) h20=>
 ((0:Int)≤(56:Int)∧
 Bd (IntKind.wrap .u64 ((IntKind.wrap .u64 (x1.size:Int))*2^(min (56:Int).toNat (IntKind.bits .u64))):Int) (fun n21=>
 Bd (IntKind.wrap .u64 (aj (IntKind.bits .u64) e19|||aj (IntKind.bits .u64) n21).toNat:Int) (fun n22=>
 HC PG lM (Oq (some (az h1)) n22) [] (fun(e23:Unit) h24=>
 (dd (2:Int) 4∧
 ∃v25,cf h24 (az h1) ((2:Int).toNat*1) (.int .u64 v25)∧
 Bd (IntKind.wrap .u64 (aj (IntKind.bits .u64) v25^^^aj (IntKind.bits .u64) 255).toNat:Int) (fun n26=>
 (dd (2:Int) 4∧
 (dL h24 (adr (az h1) ((2:Int).toNat*1)) (.int .u64 n26) (fun h27=>
 HC PG ir (xo (some (az h1)) 4) [] (fun(e28:Unit) h29=>
 (dd 0 4∧
 ∃v30,cf h29 (az h1) ((0:Int).toNat*1) (.int .u64 v30)∧
 (dd 1 4∧
 ∃v31,cf h29 (az h1) ((1:Int).toNat*1) (.int .u64 v31)∧
 Bd (IntKind.wrap .u64 (aj (IntKind.bits .u64) v30^^^aj (IntKind.bits .u64) v31).toNat:Int) (fun n32=>
 (dd (2:Int) 4∧
 ∃v33,cf h29 (az h1) ((2:Int).toNat*1) (.int .u64 v33)∧
 Bd (IntKind.wrap .u64 (aj (IntKind.bits .u64) n32^^^aj (IntKind.bits .u64) v33).toNat:Int) (fun n34=>
 (dd (3:Int) 4∧
 ∃v35,cf h29 (az h1) ((3:Int).toNat*1) (.int .u64 v35)∧
 Bd (IntKind.wrap .u64 (aj (IntKind.bits .u64) n34^^^aj (IntKind.bits .u64) v35).toNat:Int) (fun n36=>
 K n36 h29)))))))) h27)))))) h20)))) h14)) x1 h11))))))
noncomputable def Mh:Ann:=.node .nil (.node .nil (.node .nil (.node (.loop [(1,.c .str)] .nil) .nil)))
theorem L9(x0:Int×Int)(x1:ByteArray){K:cW ii→ad→Prop}{h0:ad}(h:Er x0 x1 K h0):HC PG y5 [RD x0,.string x1] ii K h0:=ed Mh Tryz.func179 Tryz.call179 rfl rfl (by kernel_rfl) h
def wf(K:(Option Addr)→ad→Prop)(h0:ad):Prop:=
 At (hnew h0 [.int .u32 0,.int .u32 0,.slice none 0 0,.slice none 0 0,.bool true,.pointer none] bE) (fun h1=>
 K (some (az h0)) h1)
theorem Dp{K:cW [.c .ptr]→ad→Prop}{h0:ad}(h:wf K h0):HC PG rG [] [.c .ptr] K h0:=ed .nil Tryz.func180 Tryz.call180 rfl rfl (by kernel_rfl) h
def tU(x0:Option Addr)(x1:Option Addr)(x2:ByteArray×ByteArray)(K:(Option Addr)→ad→Prop)(h0:ad):Prop:=
 At (hnew h0 (sP x2) ag) (fun h1=>
 HC PG fH [.pointer x0] [.c .bool] (fun(e2:Bool) h3=>
 CondP (!e2) (
 K x0 h3) (
 HC PG iT (pV x0 x1) [.c .ptr] (fun(e4:Option Addr) h5=>
 ∃a6,e4=some a6∧
 ∃v7:SliceV,bG h5 (adr a6 0) 2 v7∧
 ∃v8,av h5 h0 0 v8∧
 ∃v9,av h5 h0 1 v9∧
 HC PG wP [.slice v7.a v7.len v7.cap,o9 v8 v9] [.c .slice] (fun(e10:SliceV) h11=>
 ∃a12,e4=some a12∧
 (dL h11 (adr (adr a12 0) 2) (.slice e10.a e10.len e10.cap) (fun h13=>
 K e4 h13))) h5) h3)) h1)
theorem Az(x0:Option Addr)(x1:Option Addr)(x2:ByteArray×ByteArray){K:cW [.c .ptr]→ad→Prop}{h0:ad}(h:tU x0 x1 x2 K h0):HC PG iU [.pointer x0,.pointer x1,Kt x2] [.c .ptr] K h0:=ed .nil Tryz.func181 Tryz.call181 rfl rfl (by kernel_rfl) h
def pU(x0:Option Addr)(x1:Option Addr)(x2:Int)(x3:ByteArray×ByteArray)(K:(Option Addr)→ad→Prop)(h0:ad):Prop:=
 At (hnew h0 (sP x3) ag) (fun h1=>
 HC PG kJ (xo x0 x2) [.c .bool] (fun(e2:Bool) h3=>
 CondP (!e2) (
 K x0 h3) (
 HC PG iT (pV x0 x1) [.c .ptr] (fun(e4:Option Addr) h5=>
 ∃a6,e4=some a6∧
 ∃v7,gL h5 (adr a6 0) 0 v7∧
 HC PG fI (mN v7 x2) [.c .bool] (fun(e8:Bool) h9=>
 CondP e8 (
 ∃a10,e4=some a10∧
 ∃v11:SliceV,bG h9 (adr a10 0) 2 v11∧
 ∃a12,e4=some a12∧
 ∃v13,gL h9 (adr a12 0) 0 v13∧
 ∃v14,av h9 h0 0 v14∧
 ∃v15,av h9 h0 1 v15∧
 HC PG dA (mN v13 x2) cy (fun(e16:Int) h17=>
 ((av h17 h0 0 v14∧av h17 h0 1 v15)∧
 (bG h17 (adr a10 0) 2 v11∧
 (dd e16 v11.len∧∃a18,v11.a=some a18∧
 (rt h17 (adr a18 (e16.toNat*2)) (jx v14 v15) (fun h19=>
 K e4 h19)))))) h9) (
 ∃a20,e4=some a20∧
 HC PG kI (xo (some (adr a20 0)) x2) [] (fun(e21:Unit) h22=>
 ∃a23,e4=some a23∧
 ∃v24:SliceV,bG h22 (adr a23 0) 2 v24∧
 ∃a25,e4=some a25∧
 ∃v26,gL h22 (adr a25 0) 0 v26∧
 ∃v27,av h22 h0 0 v27∧
 ∃v28,av h22 h0 1 v28∧
 ((HC PG dA (mN v26 x2) cy (fun(e29:Int) h30=>
 ((av h30 h0 0 v27∧av h30 h0 1 v28)∧
 (bG h30 (adr a23 0) 2 v24∧
 At (hnew h30 (jx v27 v28) ag) (fun h31=>
 (bG h31 (adr a23 0) 2 v24∧
 HC PG cS [.slice v24.a v24.len v24.cap,.int .i64 e29,.slice (some (az h30)) 1 1] [.c .slice] (fun(e32:SliceV) h33=>
 ∃a34,e4=some a34∧
 (dL h33 (adr (adr a34 0) 2) (.slice e32.a e32.len e32.cap) (fun h35=>
 ∃a36,e4=some a36∧
 ∃v37,gL h35 (adr a36 0) 0 v37∧
 HC PG fh (mN v37 x2) iK (fun(e38:Int) h39=>
 ∃a40,e4=some a40∧
 (dL h39 (adr (adr a40 0) 0) (.int .u32 e38) (fun h41=>
 K e4 h41))) h35))) h31))))) h22)∧
 At (hnew h22 (jx v27 v28) ag) (fun h42=>
 (gL h42 (adr a25 0) 0 v26∧
 (bG h42 (adr a23 0) 2 v24∧
 HC PG dA (mN v26 x2) cy (fun(e43:Int) h44=>
 (bG h44 (adr a23 0) 2 v24∧
 HC PG cS [.slice v24.a v24.len v24.cap,.int .i64 e43,.slice (some (az h22)) 1 1] [.c .slice] (fun(e45:SliceV) h46=>
 ∃a47,e4=some a47∧
 (dL h46 (adr (adr a47 0) 2) (.slice e45.a e45.len e45.cap) (fun h48=>
 ∃a49,e4=some a49∧
 ∃v50,gL h48 (adr a49 0) 0 v50∧
 HC PG fh (mN v50 x2) iK (fun(e51:Int) h52=>
 ∃a53,e4=some a53∧
 (dL h52 (adr (adr a53 0) 0) (.int .u32 e51) (fun h54=>
 K e4 h54))) h48))) h44)) h42))))) h9)) h5) h3)) h1)
theorem vA(x0:Option Addr)(x1:Option Addr)(x2:Int)(x3:ByteArray×ByteArray){K:cW [.c .ptr]→ad→Prop}{h0:ad}(h:pU x0 x1 x2 x3 K h0):HC PG fY [.pointer x0,.pointer x1,.int .i64 x2,Kt x3] [.c .ptr] K h0:=ed .nil Tryz.func189 Tryz.call189 rfl rfl (by kernel_rfl) h
def qC(x0:Option Addr)(x1:Option Addr)(x2:Int)(x3:Option Addr)(K:(Option Addr)→ad→Prop)(h0:ad):Prop:=
 CondP x3.isNone (
 HC PG xT (MF x0 x1 x2) [.c .ptr] (fun(e1:Option Addr) h2=>
 K e1 h2) h0) (
 HC PG kJ (xo x0 x2) [.c .bool] (fun(e3:Bool) h4=>
 CondP (!e3) (
 K x0 h4) (
 HC PG iT (pV x0 x1) [.c .ptr] (fun(e5:Option Addr) h6=>
 ∃a7,e5=some a7∧
 ∃v8,gL h6 (adr a7 0) 1 v8∧
 HC PG fI (mN v8 x2) [.c .bool] (fun(e9:Bool) h10=>
 CondP e9 (
 ∃a11,e5=some a11∧
 ∃v12:SliceV,bG h10 (adr a11 0) 3 v12∧
 ∃a13,e5=some a13∧
 ∃v14,gL h10 (adr a13 0) 1 v14∧
 HC PG dA (mN v14 x2) cy (fun(e15:Int) h16=>
 (bG h16 (adr a11 0) 3 v12∧
 (dd e15 v12.len∧∃a17,v12.a=some a17∧
 (dL h16 (adr a17 (e15.toNat*1)) (.pointer x3) (fun h18=>
 K e5 h18))))) h10) (
 ∃a19,e5=some a19∧
 HC PG kI (xo (some (adr a19 0)) x2) [] (fun(e20:Unit) h21=>
 ∃a22,e5=some a22∧
 ∃v23:SliceV,bG h21 (adr a22 0) 3 v23∧
 ∃a24,e5=some a24∧
 ∃v25,gL h21 (adr a24 0) 1 v25∧
 ((HC PG dA (mN v25 x2) cy (fun(e26:Int) h27=>
 (bG h27 (adr a22 0) 3 v23∧
 At (hnew h27 [.pointer x3] bK) (fun h28=>
 (bG h28 (adr a22 0) 3 v23∧
 HC PG cK [.slice v23.a v23.len v23.cap,.int .i64 e26,.slice (some (az h27)) 1 1] [.c .slice] (fun(e29:SliceV) h30=>
 ∃a31,e5=some a31∧
 (dL h30 (adr (adr a31 0) 3) (.slice e29.a e29.len e29.cap) (fun h32=>
 ∃a33,e5=some a33∧
 ∃v34,gL h32 (adr a33 0) 1 v34∧
 HC PG fh (mN v34 x2) iK (fun(e35:Int) h36=>
 ∃a37,e5=some a37∧
 (dL h36 (adr (adr a37 0) 1) (.int .u32 e35) (fun h38=>
 K e5 h38))) h32))) h28)))) h21)∧
 At (hnew h21 [.pointer x3] bK) (fun h39=>
 (gL h39 (adr a24 0) 1 v25∧
 (bG h39 (adr a22 0) 3 v23∧
 HC PG dA (mN v25 x2) cy (fun(e40:Int) h41=>
 (bG h41 (adr a22 0) 3 v23∧
 HC PG cK [.slice v23.a v23.len v23.cap,.int .i64 e40,.slice (some (az h21)) 1 1] [.c .slice] (fun(e42:SliceV) h43=>
 ∃a44,e5=some a44∧
 (dL h43 (adr (adr a44 0) 3) (.slice e42.a e42.len e42.cap) (fun h45=>
 ∃a46,e5=some a46∧
 ∃v47,gL h45 (adr a46 0) 1 v47∧
 HC PG fh (mN v47 x2) iK (fun(e48:Int) h49=>
 ∃a50,e5=some a50∧
 (dL h49 (adr (adr a50 0) 1) (.int .u32 e48) (fun h51=>
 K e5 h51))) h45))) h41)) h39))))) h10)) h6) h4)) h0)
theorem xe(x0:Option Addr)(x1:Option Addr)(x2:Int)(x3:Option Addr){K:cW [.c .ptr]→ad→Prop}{h0:ad}(h:qC x0 x1 x2 x3 K h0):HC PG iu (F7 x0 x1 x2 x3) [.c .ptr] K h0:=ed .nil Tryz.func190 Tryz.call190 rfl rfl (by kernel_rfl) h
def fU(x0:SliceV)(K:(SliceV)→ad→Prop)(h0:ad):Prop:=
 CondP x0.a.isNone (
 K ⟨none,0,0⟩ h0) (
 At (hnew h0 [] bQ) (fun h1=>
 ∃xs2,SRow h1 x0.a (x0.len*1) xs2∧
 AppP (some [.pointer none]) 1 8 bQ (some (az h0)) 0 0 x0.len xs2 h1 (fun s3 h4=>
 K s3 h4)))
theorem jY(x0:SliceV){K:cW [.c .slice]→ad→Prop}{h0:ad}(h:fU x0 K h0):HC PG de [.slice x0.a x0.len x0.cap] [.c .slice] K h0:=ed .nil Tryz.func191 Tryz.call191 rfl rfl (by kernel_rfl) h
def gg(x0:SliceV)(K:(SliceV)→ad→Prop)(h0:ad):Prop:=
 CondP x0.a.isNone (
 K ⟨none,0,0⟩ h0) (
 At (hnew h0 [] bK) (fun h1=>
 ∃xs2,SRow h1 x0.a (x0.len*1) xs2∧
 AppP (some [.pointer none]) 1 8 bK (some (az h0)) 0 0 x0.len xs2 h1 (fun s3 h4=>
 K s3 h4)))
theorem ku(x0:SliceV){K:cW [.c .slice]→ad→Prop}{h0:ad}(h:gg x0 K h0):HC PG dH [.slice x0.a x0.len x0.cap] [.c .slice] K h0:=ed .nil Tryz.func192 Tryz.call192 rfl rfl (by kernel_rfl) h
def yo(x0:SliceV)(x1:ByteArray)(K:(SliceV)→ad→Prop)(h0:ad):Prop:=
 (((0:Int)≤(x0.len:Int)∧(x0.len:Int)≤((x0.cap:Nat):Int))∧
 (((0:Int)≤(x0.len:Int)∧(x0.len:Int)≤(((x0.len:Int).toNat:Nat):Int))∧
 HC PG lw [.slice (aY x0.a 0 ((x0.len:Int).toNat) 1) (((x0.len:Int).toNat)-0) (((x0.len:Int).toNat)-0),.int .u64 (IntKind.wrap .u64 (x1.size:Int)),.int .i64 2] [.c .slice] (fun(e1:SliceV) h2=>
 AppP (some [.int .u8 0]) 1 1 cD e1.a e1.len e1.cap x1.size (dR x1) h2 (fun s3 h4=>
 K s3 h4)) h0))
theorem FI(x0:SliceV)(x1:ByteArray){K:cW [.c .slice]→ad→Prop}{h0:ad}(h:yo x0 x1 K h0):HC PG lN (wi x0 x1) [.c .slice] K h0:=ed .nil Tryz.func193 Tryz.call193 rfl rfl (by kernel_rfl) h
def vY(x0:SliceV)(x1:SliceV)(K:(SliceV)→ad→Prop)(h0:ad):Prop:=
 LoopP (fun I1 (t2:SliceV×Int) h3=>
 CondP (decide (t2.2<(x1.len:Int))) (
 (dd t2.2 x1.len∧∃a4,x1.a=some a4∧
 ∃v5,bC h3 (adr a4 (t2.2.toNat*2)) 0 v5∧
 ∃v6,bC h3 (adr a4 (t2.2.toNat*2)) 1 v6∧
 nv h3 kU ag (jx v5 v6) (fun h8=>
 ∃v9,av h8 h3 0 v9∧
 ∃v10,av h8 h3 1 v10∧
 HC PG lN (wi t2.1 v9) [.c .slice] (fun(e11:SliceV) h12=>
 (av h12 h3 1 v10∧
 HC PG lN (wi e11 v10) [.c .slice] (fun(e13:SliceV) h14=>
 I1 (e13,IntKind.wrap .i64 (t2.2+1)) h14) h12)) h8))) (
 K t2.1 h3)) (x0,0) h0
noncomputable def Du:Ann:=.node .nil (.node (.node .nil (.loop [(0,.c .slice),(9,.c (.int .i64))] .nil)) .nil)
theorem Dh(x0:SliceV)(x1:SliceV){K:cW [.c .slice]→ad→Prop}{h0:ad}(h:vY x0 x1 K h0):HC PG oW (MD x0 x1) [.c .slice] K h0:=ed Du Tryz.func194 Tryz.call194 rfl rfl (by kernel_rfl) h
def uU(x0:SliceV)(x1:Int)(x2:Int)(K:(SliceV)→ad→Prop)(h0:ad):Prop:=
 LoopP (fun I1 (t2:SliceV×Int) h3=>
 CondP (decide (t2.2<x2)) (
 Join (fun(t10:SliceV) h11=>
 I1 (t10,IntKind.wrap .i64 (t2.2+1)) h11) (fun J4=>
 ((0:Int)≤(IntKind.wrap .i64 (8*t2.2))∧
 Bd (ee x1 (2^(min (IntKind.wrap .i64 (8*t2.2):Int).toNat (IntKind.bits .u64))):Int) (fun n5=>
 At (hnew h3 [.int .u8 (IntKind.wrap .u8 n5)] cD) (fun h6=>
 ∃xs7,SRow h6 (some (az h3)) (1*1) xs7∧
 AppP (some [.int .u8 0]) 1 1 cD t2.1.a t2.1.len t2.1.cap 1 xs7 h6 (fun s8 h9=>
 J4 s8 h9)))))) (
 K t2.1 h3)) (x0,0) h0
noncomputable def HB:Ann:=.node .nil (.node (.node .nil (.loop [(0,.c .slice),(9,.c (.int .i64))] (.node .nil (.node .nil (.join [(0,.c .slice)] .nil .nil))))) .nil)
theorem Ab(x0:SliceV)(x1:Int)(x2:Int){K:cW [.c .slice]→ad→Prop}{h0:ad}(h:uU x0 x1 x2 K h0):HC PG lw (Ld x0 x1 x2) [.c .slice] K h0:=ed HB Tryz.func195 Tryz.call195 rfl rfl (by kernel_rfl) h
def tV(x0:Option Addr)(K:(Int)→ad→Prop)(h0:ad):Prop:=
 CondP x0.isNone (
 K 0 h0) (
 ∃a1,x0=some a1∧
 ∃v2:SliceV,bG h0 (adr a1 0) 2 v2∧
 ∃a3,x0=some a3∧
 ∃v4:SliceV,bG h0 (adr a3 0) 3 v4∧
 K (IntKind.wrap .i64 ((v2.len:Int)+(v4.len:Int))) h0)
theorem AA(x0:Option Addr){K:cW cy→ad→Prop}{h0:ad}(h:tV x0 K h0):HC PG pD [.pointer x0] cy K h0:=ed .nil Tryz.func196 Tryz.call196 rfl rfl (by kernel_rfl) h
def sE(x0:Option Addr)(K:(Int)→ad→Prop)(h0:ad):Prop:=
 CondP x0.isNone (
 K 0 h0) (
 ∃a1,x0=some a1∧
 ∃v2,gL h0 (adr a1 0) 0 v2∧
 K v2 h0)
theorem zt(x0:Option Addr){K:cW iK→ad→Prop}{h0:ad}(h:sE x0 K h0):HC PG jC [.pointer x0] iK K h0:=ed .nil Tryz.func197 Tryz.call197 rfl rfl (by kernel_rfl) h
def rj(x0:Option Addr)(K:(Int)→ad→Prop)(h0:ad):Prop:=
 CondP x0.isNone (
 K 0 h0) (
 ∃a1,x0=some a1∧
 ∃v2,gL h0 (adr a1 0) 1 v2∧
 K v2 h0)
theorem yj(x0:Option Addr){K:cW iK→ad→Prop}{h0:ad}(h:rj x0 K h0):HC PG gM [.pointer x0] iK K h0:=ed .nil Tryz.func198 Tryz.call198 rfl rfl (by kernel_rfl) h
def yr(x0:SliceV)(K:(Option Addr)→ad→Prop)(h0:ad):Prop:=
 (dd 0 x0.len∧∃a1,x0.a=some a1∧
 ∃v2,bC h0 (adr a1 ((0:Int).toNat*2)) 0 v2∧
 LoopP (fun I3 (t4:Int×Int) h5=>
 CondP (decide (t4.2<(x0.len:Int))) (
 Join (fun(t17:Int) h18=>
 I3 (t17,IntKind.wrap .i64 (t4.2+1)) h18) (fun J6=>
 (dd t4.2 x0.len∧∃a7,x0.a=some a7∧
 ∃v8,bC h5 (adr a7 (t4.2.toNat*2)) 0 v8∧
 ∃v9,bC h5 (adr a7 (t4.2.toNat*2)) 1 v9∧
 nv h5 kU bS (jx v8 v9) (fun h11=>
 (dd 0 x0.len∧∃a12,x0.a=some a12∧
 ∃v13,bC h11 (adr a12 ((0:Int).toNat*2)) 0 v13∧
 ∃v14,av h11 h5 0 v14∧
 HC PG tf (jx v13 v14) cy (fun(e15:Int) h16=>
 CondP (decide (e15<t4.1)) (
 J6 e15 h16) (
 J6 t4.1 h16)) h11))))) (
 (dd 0 x0.len∧∃a19,x0.a=some a19∧
 ∃v20,bC h5 (adr a19 ((0:Int).toNat*2)) 0 v20∧
 (((0:Int)≤t4.1∧t4.1≤((v20.size:Nat):Int))∧
 At (hnew h5 [.string (v20.extract 0 t4.1.toNat),.bool false,.string (⟨#[]⟩:ByteArray),.slice none 0 0] mO) (fun h21=>
 LoopP (fun I22 (t23:SliceV×Int) h24=>
 CondP (decide (t23.2<(x0.len:Int))) (
 Join (fun(t43:SliceV) h44=>
 I22 (t43,IntKind.wrap .i64 (t23.2+1)) h44) (fun J25=>
 (dd t23.2 x0.len∧∃a26,x0.a=some a26∧
 ∃v27,bC h24 (adr a26 (t23.2.toNat*2)) 0 v27∧
 ∃v28,bC h24 (adr a26 (t23.2.toNat*2)) 1 v28∧
 nv h24 kU bS (jx v27 v28) (fun h30=>
 ∃v31,av h30 h24 0 v31∧
 CondP ((v31.size:Int)==t4.1) (
 ∃v32,av h30 h24 1 v32∧
 ∃a33,some (az h5)=some a33∧
 (dL h30 (adr a33 1) (.bool true) (fun h34=>
 (av h34 h24 1 v32∧
 ∃a35,some (az h5)=some a35∧
 (dL h34 (adr a35 2) (.string v32) (fun h36=>
 J25 t23.1 h36)))))) (
 ∃v37,av h30 h24 0 v37∧
 (((0:Int)≤t4.1∧t4.1≤((v37.size:Nat):Int))∧
 ∃v38,av h30 h24 1 v38∧
 At (hnew h30 (jx (v37.extract t4.1.toNat v37.size) v38) bS) (fun h39=>
 (av h39 h24 1 v38∧
 (av h39 h24 0 v37∧
 ∃xs40,SRow h39 (some (az h30)) (1*2) xs40∧
 AppP (some kU) 2 32 bS t23.1.a t23.1.len t23.1.cap 1 xs40 h39 (fun s41 h42=>
 (av h42 h24 1 v38∧
 (av h42 h24 0 v37∧
 J25 s41 h42)))))))))))) (
 HC PG p7 [.slice t23.1.a t23.1.len t23.1.cap] [.c .slice] (fun(e45:SliceV) h46=>
 ∃a47,some (az h5)=some a47∧
 (dL h46 (adr a47 3) (.slice e45.a e45.len e45.cap) (fun h48=>
 K (some (az h5)) h48))) h24)) (⟨none,0,0⟩,0) h21))))) ((v2.size:Int),0) h0)
noncomputable def FV:Ann:=.node .nil (.node .nil (.node (.node .nil (.loop [(3,.c (.int .i64)),(18,.c (.int .i64))] (.node .nil (.node .nil (.join [(3,.c (.int .i64))] .nil .nil))))) (.node .nil (.node .nil (.node (.node .nil (.loop [(8,.c .slice),(44,.c (.int .i64))] (.node .nil (.node .nil (.join [(8,.c .slice)] .nil .nil))))) .nil)))))
theorem FL(x0:SliceV){K:cW [.c .ptr]→ad→Prop}{h0:ad}(h:yr x0 K h0):HC PG te [.slice x0.a x0.len x0.cap] [.c .ptr] K h0:=ed FV Tryz.func199 Tryz.call199 rfl rfl (by kernel_rfl) h
def Ev(x0:Int)(x1:Int)(x2:ByteArray)(K:(Int)→ad→Prop)(h0:ad):Prop:=
 Bd (IntKind.wrap .u64 (aj (IntKind.bits .u64) x0^^^aj (IntKind.bits .u64) 8317987319222330741).toNat:Int) (fun n1=>
 Bd (IntKind.wrap .u64 (aj (IntKind.bits .u64) x1^^^aj (IntKind.bits .u64) 7237128888997146477).toNat:Int) (fun n2=>
 Bd (IntKind.wrap .u64 (aj (IntKind.bits .u64) x0^^^aj (IntKind.bits .u64) 7816392313619706465).toNat:Int) (fun n3=>
 Bd (IntKind.wrap .u64 (aj (IntKind.bits .u64) x1^^^aj (IntKind.bits .u64) 8387220255154660723).toNat:Int) (fun n4=>
 nv h0 K8 sJ (Lb n1 n2 n3 n4) (fun h6=>
 LoopP (fun I7 (t8:Int) h9=>
 CondP (decide (t8≤(x2.size:Int))) (
 LoopP (fun I10 (t11:Int×Int) h12=>
 CondP (decide (t11.2≥(0:Int))) (
 Join (fun(t16:Int) h17=>
 I10 (t16,IntKind.wrap .i64 (t11.2-1)) h17) (fun J13=>
 CondP (decide ((IntKind.wrap .i64 (t8+t11.2))<(x2.size:Int))) (
 ∃b14,(0:Int)≤(IntKind.wrap .i64 (t8+t11.2))∧x2[(IntKind.wrap .i64 (t8+t11.2)).toNat]? =some b14∧
 Bd (IntKind.wrap .u64 ((IntKind.wrap .u64 (t11.1*256))+(IntKind.wrap .u64 (b14.toNat:Int))):Int) (fun n15=>
 J13 n15 h12)) (
 J13 (IntKind.wrap .u64 (t11.1*256)) h12))) (
 Join (fun(t20:Int) h21=>
 (dd (3:Int) 4∧
 ∃v22,cf h21 (az h0) ((3:Int).toNat*1) (.int .u64 v22)∧
 Bd (IntKind.wrap .u64 (aj (IntKind.bits .u64) v22^^^aj (IntKind.bits .u64) t20).toNat:Int) (fun n23=>
 (dd (3:Int) 4∧
 (dL h21 (adr (az h0) ((3:Int).toNat*1)) (.int .u64 n23) (fun h24=>
 ∃v25,ae h24 h0 0 v25∧
 ∃v26,ae h24 h0 1 v26∧
 ∃v27,ae h24 h0 2 v27∧
 ∃v28,ae h24 h0 3 v28∧
 HC PG jN [PW v25 v26 v27 v28] xM (fun(e29:Int×Int×Int×Int) h30=>
 HC PG jN [LL e29] xM (fun(e31:Int×Int×Int×Int) h32=>
 (cJ h32 h0 (Ng e31) (fun h33=>
 (dd 0 4∧
 ∃v34,cf h33 (az h0) ((0:Int).toNat*1) (.int .u64 v34)∧
 Bd (IntKind.wrap .u64 (aj (IntKind.bits .u64) v34^^^aj (IntKind.bits .u64) t20).toNat:Int) (fun n35=>
 (dd 0 4∧
 (dL h33 (adr (az h0) ((0:Int).toNat*1)) (.int .u64 n35) (fun h36=>
 I7 (IntKind.wrap .i64 (t8+8)) h36)))))))) h30) h24)))))) (fun J18=>
 CondP (decide ((IntKind.wrap .i64 (t8+8))>(x2.size:Int))) (
 ((256:Int)≠0∧
 Bd (IntKind.wrap .u64 ((IntKind.wrap .u64 (Int.tmod (x2.size:Int) 256))*72057594037927936):Int) (fun n19=>
 J18 (IntKind.wrap .u64 (t11.1+n19)) h12))) (
 J18 t11.1 h12)))) (0,7) h9) (
 (dd (2:Int) 4∧
 ∃v37,cf h9 (az h0) ((2:Int).toNat*1) (.int .u64 v37)∧
 Bd (IntKind.wrap .u64 (aj (IntKind.bits .u64) v37^^^aj (IntKind.bits .u64) 255).toNat:Int) (fun n38=>
 (dd (2:Int) 4∧
 (dL h9 (adr (az h0) ((2:Int).toNat*1)) (.int .u64 n38) (fun h39=>
 ∃v40,ae h39 h0 0 v40∧
 ∃v41,ae h39 h0 1 v41∧
 ∃v42,ae h39 h0 2 v42∧
 ∃v43,ae h39 h0 3 v43∧
 HC PG jN [PW v40 v41 v42 v43] xM (fun(e44:Int×Int×Int×Int) h45=>
 HC PG jN [LL e44] xM (fun(e46:Int×Int×Int×Int) h47=>
 HC PG jN [LL e46] xM (fun(e48:Int×Int×Int×Int) h49=>
 HC PG jN [LL e48] xM (fun(e50:Int×Int×Int×Int) h51=>
 (cJ h51 h0 (Ng e50) (fun h52=>
 (dd 0 4∧
 ∃v53,cf h52 (az h0) ((0:Int).toNat*1) (.int .u64 v53)∧
 (dd 1 4∧
 ∃v54,cf h52 (az h0) ((1:Int).toNat*1) (.int .u64 v54)∧
 Bd (IntKind.wrap .u64 (aj (IntKind.bits .u64) v53^^^aj (IntKind.bits .u64) v54).toNat:Int) (fun n55=>
 (dd (2:Int) 4∧
 ∃v56,cf h52 (az h0) ((2:Int).toNat*1) (.int .u64 v56)∧
 Bd (IntKind.wrap .u64 (aj (IntKind.bits .u64) n55^^^aj (IntKind.bits .u64) v56).toNat:Int) (fun n57=>
 (dd (3:Int) 4∧
 ∃v58,cf h52 (az h0) ((3:Int).toNat*1) (.int .u64 v58)∧
 Bd (IntKind.wrap .u64 (aj (IntKind.bits .u64) n57^^^aj (IntKind.bits .u64) v58).toNat:Int) (fun n59=>
 K n59 h52)))))))))) h49) h47) h45) h39))))))) 0 h6)))))
noncomputable def Mj:Ann:=.node .nil (.node .nil (.node (.node .nil (.loop [(8,.c (.int .i64))] (.node .nil (.node (.node .nil (.node (.node .nil (.loop [(9,.c (.int .u64)),(10,.c (.int .i64))] (.node .nil (.join [(9,.c (.int .u64))] .nil .nil)))) (.join [(9,.c (.int .u64))] .nil .nil))) .nil)))) .nil))
theorem Me(x0:Int)(x1:Int)(x2:ByteArray){K:cW ii→ad→Prop}{h0:ad}(h:Ev x0 x1 x2 K h0):HC PG y8 (PU x0 x1 x2) ii K h0:=ed Mj Tryz.func200 Tryz.call200 rfl rfl (by kernel_rfl) h
def Hz(x0:Int)(x1:Int)(K:(Int)→ad→Prop)(h0:ad):Prop:=
 Join (fun(t2:Bool) h3=>
 CondP t2 (
 K 0 h3) (
 LoopP (fun I4 (t5:Int×Int) h6=>
 CondP (decide (t5.2<x1)) (
 ((32:Int)≠0∧
 I4 (IntKind.wrap .u64 (Int.tdiv t5.1 32),IntKind.wrap .i64 (t5.2+1)) h6)) (
 ((32:Int)≠0∧
 K (IntKind.wrap .i64 (Int.tmod t5.1 32)) h6))) (x0,0) h3)) (fun J1=>
 CondP (decide (x1<(0:Int))) (
 J1 true h0) (
 J1 (decide (x1>(12:Int))) h0))
noncomputable def Od:Ann:=.node .nil (.node (.join [(11,.c .bool)] .nil .nil) (.node (.node .nil (.loop [(0,.c (.int .u64)),(5,.c (.int .i64))] .nil)) .nil))
theorem N7(x0:Int)(x1:Int){K:cW cy→ad→Prop}{h0:ad}(h:Hz x0 x1 K h0):HC PG xS (nn x0 x1) cy K h0:=ed Od Tryz.func201 Tryz.call201 rfl rfl (by kernel_rfl) h
def fx(x0:SliceV)(x1:Value)(K:(Int)→ad→Prop)(h0:ad):Prop:=
 LoopP (fun I1 (t2:Int) h3=>
 CondP (decide (t2<(x0.len:Int))) (
 (dd t2 x0.len∧∃a4,x0.a=some a4∧
 ∃v5,cf h3 a4 (t2.toNat*1) (.pointer v5)∧
 HV PG x1 [.pointer v5] [.c .bool] (fun(e6:Bool) h7=>
 CondP e6 (
 K t2 h7) (
 I1 (IntKind.wrap .i64 (t2+1)) h7)) h3)) (
 K (-1) h3)) 0 h0
noncomputable def ji:Ann:=.node .nil (.node (.node .nil (.loop [(8,.c (.int .i64))] .nil)) .nil)
theorem jh(x0:SliceV)(x1:Value){K:cW cy→ad→Prop}{h0:ad}(h:fx x0 x1 K h0):HC PG ft [.slice x0.a x0.len x0.cap,x1] cy K h0:=ed ji Tryz.func202 Tryz.call202 rfl rfl (by kernel_rfl) h
def oo(x0:Option Addr)(K:(Bool)→ad→Prop)(h0:ad):Prop:=
 HC PG js [.pointer x0] [.c .bool] (fun(e1:Bool) h2=>
 K (!e1) h2) h0
theorem ud(x0:Option Addr){K:cW [.c .bool]→ad→Prop}{h0:ad}(h:oo x0 K h0):HC PG om [.pointer x0] [.c .bool] K h0:=ed .nil Tryz.func203 Tryz.call203 rfl rfl (by kernel_rfl) h
def yw(x0:SliceV)(K:(Bool)→ad→Prop)(h0:ad):Prop:=
 LoopP (fun I1 (t2:Int) h3=>
 CondP (decide (t2<(x0.len:Int))) (
 (dd (IntKind.wrap .i64 (t2-1)) x0.len∧∃a4,x0.a=some a4∧
 ∃v5,cf h3 (adr a4 ((IntKind.wrap .i64 (t2-1)).toNat*2)) 0 (.string v5)∧
 (dd t2 x0.len∧∃a6,x0.a=some a6∧
 ∃v7,bC h3 (adr a6 (t2.toNat*2)) 0 v7∧
 CondP (!(Op.bytesLess v5.toList v7.toList)) (
 K false h3) (
 I1 (IntKind.wrap .i64 (t2+1)) h3)))) (
 K true h3)) 1 h0
noncomputable def FY:Ann:=.node .nil (.node (.node .nil (.loop [(3,.c (.int .i64))] .nil)) .nil)
theorem FP(x0:SliceV){K:cW [.c .bool]→ad→Prop}{h0:ad}(h:yw x0 K h0):HC PG th [.slice x0.a x0.len x0.cap] [.c .bool] K h0:=ed FY Tryz.func204 Tryz.call204 rfl rfl (by kernel_rfl) h
def vZ(x0:Int)(x1:SliceV)(K:(Bool)→ad→Prop)(h0:ad):Prop:=
 LoopP (fun I1 (t2:Int) h3=>
 CondP (decide (t2<(x1.len:Int))) (
 (dd t2 x1.len∧∃a4,x1.a=some a4∧
 ∃v5,cf h3 a4 (t2.toNat*1) (.int .i64 v5)∧
 HC PG mZ (nn x0 t2) cy (fun(e6:Int) h7=>
 CondP (e6 !=v5) (
 K false h7) (
 I1 (IntKind.wrap .i64 (t2+1)) h7)) h3)) (
 K true h3)) 0 h0
noncomputable def Dv:Ann:=.node .nil (.node (.node .nil (.loop [(9,.c (.int .i64))] .nil)) .nil)
theorem Di(x0:Int)(x1:SliceV){K:cW [.c .bool]→ad→Prop}{h0:ad}(h:vZ x0 x1 K h0):HC PG mr (Lc x0 x1) [.c .bool] K h0:=ed Dv Tryz.func205 Tryz.call205 rfl rfl (by kernel_rfl) h
def zw(x0:Int)(K:(Value)→ad→Prop)(h0:ad):Prop:=
 At (hnew h0 [.int .u32 x0] sI) (fun h1=>
 K (.func (.func ix) #[] #[.pointer (some (az h0))]) h1)
theorem se(x0:Int){K:cW [.c .raw]→ad→Prop}{h0:ad}(h:zw x0 K h0):HC PG lQ [.int .u32 x0] [.c .raw] K h0:=ed .nil Tryz.func206 Tryz.call206 rfl rfl (by kernel_rfl) h
def sB(x0:Option Addr)(x1:Option Addr)(K:(Option Addr)→ad→Prop)(h0:ad):Prop:=
 HC PG mX (pV x0 x1) [.c .bool] (fun(e1:Bool) h2=>
 CondP e1 (
 K x0 h2) (
 ∃a3,x0=some a3∧
 ∃v4,bC h2 a3 0 v4∧
 ∃v5,ge h2 a3 1 v5∧
 ∃v6,bC h2 a3 2 v6∧
 ∃v7:SliceV,bG h2 a3 3 v7∧
 ∃v8,tK h2 a3 4 v8∧
 nv h2 F1 bU (QK v4 v5 v6 v7 v8) (fun h10=>
 ∃a11,x0=some a11∧
 ∃v12:SliceV,bG h10 a11 3 v12∧
 HC PG de [.slice v12.a v12.len v12.cap] [.c .slice] (fun(e13:SliceV) h14=>
 (dL h14 (adr (az h2) 3) (.slice e13.a e13.len e13.cap) (fun h15=>
 (dL h15 (adr (az h2) 4) (.pointer none) (fun h16=>
 HC PG gl [.pointer x1] [.c .bool] (fun(e17:Bool) h18=>
 CondP e17 (
 (dL h18 (adr (az h2) 4) (.pointer x1) (fun h19=>
 K (some (az h2)) h19))) (
 K (some (az h2)) h18)) h16))))) h10))) h0
theorem zq(x0:Option Addr)(x1:Option Addr){K:cW [.c .ptr]→ad→Prop}{h0:ad}(h:sB x0 x1 K h0):HC PG fG (pV x0 x1) [.c .ptr] K h0:=ed .nil Tryz.func207 Tryz.call207 rfl rfl (by kernel_rfl) h
def pQ(x0:Option Addr)(x1:ByteArray)(K:(Option Addr)→ad→Prop)(h0:ad):Prop:=
 ∃a1,x0=some a1∧
 (dL h0 (adr a1 1) (.bool true) (fun h2=>
 ∃a3,x0=some a3∧
 (dL h2 (adr a3 2) (.string x1) (fun h4=>
 K x0 h4))))
theorem vv(x0:Option Addr)(x1:ByteArray){K:cW [.c .ptr]→ad→Prop}{h0:ad}(h:pQ x0 x1 K h0):HC PG jp (xu x0 x1) [.c .ptr] K h0:=ed .nil Tryz.func208 Tryz.call208 rfl rfl (by kernel_rfl) h
def fQ(x0:SliceV)(x1:Int)(x2:SliceV)(K:(SliceV)→ad→Prop)(h0:ad):Prop:=
 (((0:Int)≤x1∧x1≤((x0.len:Nat):Int))∧
 CondP ((x2.len:Int)==(0:Int)) (
 K x0 h0) (
 CondP (x1==(x0.len:Int)) (
 ∃xs1,SRow h0 x2.a (x2.len*1) xs1∧
 AppP (some [.pointer none]) 1 8 bQ x0.a x0.len x0.cap x2.len xs1 h0 (fun s2 h3=>
 K s2 h3)) (
 CondP (decide ((IntKind.wrap .i64 ((x0.len:Int)+(x2.len:Int)))>(x0.cap:Int))) (
 Join (fun(t8:SliceV) h9=>
 (((0:Int)≤x1∧x1≤((t8.len:Nat):Int))∧
 ∃xs10,SRow h9 x2.a (dW x2.len (t8.len-x1.toNat)*1) xs10∧uc h9 (aY t8.a x1.toNat t8.cap 1) 0 xs10∧cj xs10=true∧
 At (fP h9 (aY t8.a x1.toNat t8.cap 1) 0 xs10) (fun h11=>
 (((0:Int)≤(IntKind.wrap .i64 (x1+(x2.len:Int)))∧(IntKind.wrap .i64 (x1+(x2.len:Int)))≤((t8.len:Nat):Int))∧
 Bd (aY t8.a ((IntKind.wrap .i64 (x1+(x2.len:Int))).toNat) t8.cap 1:Option Addr) (fun a12=>Bd (t8.len-((IntKind.wrap .i64 (x1+(x2.len:Int))).toNat):Nat) (fun n13=>Bd (t8.cap-((IntKind.wrap .i64 (x1+(x2.len:Int))).toNat):Nat) (fun n14=>
 (((0:Int)≤x1∧x1≤((x0.len:Nat):Int))∧
 ∃xs15,SRow h11 (aY x0.a x1.toNat x0.cap 1) (dW (x0.len-x1.toNat) n13*1) xs15∧uc h11 a12 0 xs15∧cj xs15=true∧
 At (fP h11 a12 0 xs15) (fun h16=>
 K t8 h16))))))))) (fun J4=>
 (((0:Int)≤x1∧x1≤((x0.cap:Nat):Int))∧
 Bd (IntKind.wrap .i64 ((IntKind.wrap .i64 ((x0.len:Int)+(x2.len:Int)))-x1):Int) (fun n5=>
 (((0:Int)≤n5∧n5*((8:Nat):Int)≤2^48∧n5≤9223372036854775807∧(((x1.toNat-0)+n5.toNat:Nat):Int)≤9223372036854775807)∧
 AppP (some [.pointer none]) 1 8 bQ (aY x0.a 0 x0.cap 1) (x1.toNat-0) (x0.cap-0) n5.toNat (dU n5.toNat [.pointer none]) h0 (fun s6 h7=>
 J4 s6 h7)))))) (
 (((0:Int)≤(IntKind.wrap .i64 ((x0.len:Int)+(x2.len:Int)))∧(IntKind.wrap .i64 ((x0.len:Int)+(x2.len:Int)))≤((x0.cap:Nat):Int))∧
 Bd (aY x0.a 0 x0.cap 1:Option Addr) (fun a17=>Bd (((IntKind.wrap .i64 ((x0.len:Int)+(x2.len:Int))).toNat)-0:Nat) (fun n18=>Bd (x0.cap-0:Nat) (fun n19=>
 (((0:Int)≤(IntKind.wrap .i64 (x1+(x2.len:Int)))∧(IntKind.wrap .i64 (x1+(x2.len:Int)))≤((n18:Nat):Int))∧
 Bd (aY a17 ((IntKind.wrap .i64 (x1+(x2.len:Int))).toNat) n19 1:Option Addr) (fun a20=>Bd (n18-((IntKind.wrap .i64 (x1+(x2.len:Int))).toNat):Nat) (fun n21=>Bd (n19-((IntKind.wrap .i64 (x1+(x2.len:Int))).toNat):Nat) (fun n22=>
 HC PG gm [.slice x2.a x2.len x2.cap,.slice a20 n21 n22] [.c .bool] (fun(e23:Bool) h24=>
 CondP (!e23) (
 (((0:Int)≤(IntKind.wrap .i64 (x1+(x2.len:Int)))∧(IntKind.wrap .i64 (x1+(x2.len:Int)))≤((n18:Nat):Int))∧
 Bd (aY a17 ((IntKind.wrap .i64 (x1+(x2.len:Int))).toNat) n19 1:Option Addr) (fun a25=>Bd (n18-((IntKind.wrap .i64 (x1+(x2.len:Int))).toNat):Nat) (fun n26=>Bd (n19-((IntKind.wrap .i64 (x1+(x2.len:Int))).toNat):Nat) (fun n27=>
 (((0:Int)≤x1∧x1≤((n18:Nat):Int))∧
 ∃xs28,SRow h24 (aY a17 x1.toNat n19 1) (dW (n18-x1.toNat) n26*1) xs28∧uc h24 a25 0 xs28∧cj xs28=true∧
 At (fP h24 a25 0 xs28) (fun h29=>
 (((0:Int)≤x1∧x1≤((n18:Nat):Int))∧
 ∃xs30,SRow h29 x2.a (dW x2.len (n18-x1.toNat)*1) xs30∧uc h29 (aY a17 x1.toNat n19 1) 0 xs30∧cj xs30=true∧
 At (fP h29 (aY a17 x1.toNat n19 1) 0 xs30) (fun h31=>
 K ⟨a17,n18,n19⟩ h31))))))))) (
 (((0:Int)≤(x0.len:Int)∧(x0.len:Int)≤((n18:Nat):Int))∧
 ∃xs32,SRow h24 x2.a (dW x2.len (n18-((x0.len:Int).toNat))*1) xs32∧uc h24 (aY a17 ((x0.len:Int).toNat) n19 1) 0 xs32∧cj xs32=true∧
 At (fP h24 (aY a17 ((x0.len:Int).toNat) n19 1) 0 xs32) (fun h33=>
 (((0:Int)≤x1∧x1≤((n18:Nat):Int))∧
 HC PG np [.slice (aY a17 x1.toNat n19 1) (n18-x1.toNat) (n19-x1.toNat),.int .i64 (x2.len:Int)] [] (fun(e34:Unit) h35=>
 K ⟨a17,n18,n19⟩ h35) h33))))) h0))))))))))))
noncomputable def jI:Ann:=.node .nil (.node .nil (.node .nil (.node .nil (.node .nil (.node .nil (.node (.node .nil (.node (.join [(9,.c .slice)] .nil .nil) .nil)) .nil))))))
theorem jH(x0:SliceV)(x1:Int)(x2:SliceV){K:cW [.c .slice]→ad→Prop}{h0:ad}(h:fQ x0 x1 x2 K h0):HC PG d9 (PR x0 x1 x2) [.c .slice] K h0:=ed jI Tryz.func209 Tryz.call209 rfl rfl (by kernel_rfl) h
def wa(x0:Option Addr)(x1:ByteArray)(x2:ByteArray)(K:(Option Addr)→ad→Prop)(h0:ad):Prop:=
 At (hnew h0 F1 bU) (fun h1=>
 HC PG fG (pV (some (az h0)) x0) [.c .ptr] (fun(e2:Option Addr) h3=>
 HC PG is (xu e2 x1) [.c .ptr] (fun(e4:Option Addr) h5=>
 HC PG jp (xu e4 x2) [.c .ptr] (fun(e6:Option Addr) h7=>
 K e6 h7) h5) h3) h1)
theorem Dj(x0:Option Addr)(x1:ByteArray)(x2:ByteArray){K:cW [.c .ptr]→ad→Prop}{h0:ad}(h:wa x0 x1 x2 K h0):HC PG rD (PS x0 x1 x2) [.c .ptr] K h0:=ed .nil Tryz.func210 Tryz.call210 rfl rfl (by kernel_rfl) h
def vX(x0:ByteArray)(x1:ByteArray)(K:(Int)→ad→Prop)(h0:ad):Prop:=
 Bd (if(x1.size:Int)<(x0.size:Int)then(x1.size:Int)else(x0.size:Int):Int) (fun n1=>
 LoopP (fun I2 (t3:Int) h4=>
 CondP (decide (t3<n1)) (
 ∃b5,(0:Int)≤t3∧x0[t3.toNat]? =some b5∧
 ∃b6,(0:Int)≤t3∧x1[t3.toNat]? =some b6∧
 CondP ((b5.toNat:Int) !=(b6.toNat:Int)) (
 K t3 h4) (
 I2 (IntKind.wrap .i64 (t3+1)) h4)) (
 K n1 h4)) 0 h0)
noncomputable def Dt:Ann:=.node .nil (.node .nil (.node (.node .nil (.loop [(13,.c (.int .i64))] .nil)) .nil))
theorem Dg(x0:ByteArray)(x1:ByteArray){K:cW cy→ad→Prop}{h0:ad}(h:vX x0 x1 K h0):HC PG rC (jx x0 x1) cy K h0:=ed Dt Tryz.func211 Tryz.call211 rfl rfl (by kernel_rfl) h
def qw(x0:Option Addr)(x1:Option Addr)(x2:Int)(K:(Option Addr)→ad→Prop)(h0:ad):Prop:=
 ∃a1,x0=some a1∧
 ∃v2,bC h0 a1 0 v2∧
 (((0:Int)≤x2∧x2≤((v2.size:Nat):Int))∧
 At (hnew h0 F1 bU) (fun h3=>
 (bC h3 a1 0 v2∧
 HC PG fG (pV (some (az h0)) x1) [.c .ptr] (fun(e4:Option Addr) h5=>
 (bC h5 a1 0 v2∧
 HC PG is (xu e4 (v2.extract 0 x2.toNat)) [.c .ptr] (fun(e6:Option Addr) h7=>
 HC PG fG (pV x0 x1) [.c .ptr] (fun(e8:Option Addr) h9=>
 ∃a10,e8=some a10∧
 ∃v11,bC h9 a10 0 v11∧
 (((0:Int)≤x2∧x2≤((v11.size:Nat):Int))∧
 HC PG is (xu e8 (v11.extract x2.toNat v11.size)) [.c .ptr] (fun(e12:Option Addr) h13=>
 At (hnew h13 [.pointer e12] bQ) (fun h14=>
 ∃a15,e6=some a15∧
 (dL h14 (adr a15 3) (.slice (some (az h13)) 1 1) (fun h16=>
 K e6 h16)))) h9)) h7) h5)) h3)))
noncomputable def xm:Ann:=.node .nil (.node (.draw (dTk [0,2,4,5,6,7,8,9] (.all (.lastT 1 (.all (.lastT 3 (.all (.lastT 10 (.take 11 (.done)))))))))) .nil)
theorem w7(x0:Option Addr)(x1:Option Addr)(x2:Int){K:cW [.c .ptr]→ad→Prop}{h0:ad}(h:qw x0 x1 x2 K h0):HC PG mW (MF x0 x1 x2) [.c .ptr] K h0:=ed xm Tryz.func212 Tryz.call212 rfl rfl (by kernel_rfl) h
def nS(x0:Int×Int×Int×(Option Addr)×ByteArray×Int)(x1:ByteArray×ByteArray)(x2:ByteArray×ByteArray)(x3:Int)(K:(Option Addr)→ad→Prop)(h0:ad):Prop:=
 At (hnew h0 (LK x0) cO) (fun h1=>
 At (hnew h1 (sP x1) ag) (fun h2=>
 At (hnew h2 (sP x2) ag) (fun h3=>
 CondP (x3==(13:Int)) (
 ∃v4,au h3 h0 3 v4∧
 ∃v5,av h3 h1 0 v5∧
 ∃v6,av h3 h1 1 v6∧
 ∃v7,au h3 h0 3 v7∧
 ∃v8,av h3 h2 0 v8∧
 ∃v9,av h3 h2 1 v9∧
 HC PG rG [] [.c .ptr] (fun(e10:Option Addr) h11=>
 ((av h11 h2 0 v8∧av h11 h2 1 v9)∧
 (au h11 h0 3 v7∧
 ((av h11 h1 0 v5∧av h11 h1 1 v6)∧
 (au h11 h0 3 v4∧
 HC PG iU [.pointer e10,.pointer v4,o9 v5 v6] [.c .ptr] (fun(e12:Option Addr) h13=>
 ((av h13 h2 0 v8∧av h13 h2 1 v9)∧
 (au h13 h0 3 v7∧
 HC PG iU [.pointer e12,.pointer v7,o9 v8 v9] [.c .ptr] (fun(e14:Option Addr) h15=>
 K e14 h15) h13))) h11))))) h3) (
 ∃v16,dQ h3 (adr (az h0) 0) 0 v16∧
 ∃v17,dQ h3 (adr (az h0) 0) 1 v17∧
 ∃v18,dQ h3 (adr (az h0) 0) 2 v18∧
 ∃v19,av h3 h1 0 v19∧
 ∃v20,ae h3 h0 5 v20∧
 HC PG ff [pW v16 v17 v18,.string v19] ii (fun(e21:Int) h22=>
 (ae h22 h0 5 v20∧
 HC PG mZ (nn e21 x3) cy (fun(e23:Int) h24=>
 (ae h24 h0 5 v20∧
 HC PG mZ (nn v20 x3) cy (fun(e25:Int) h26=>
 CondP (e23==e25) (
 ∃v27,au h26 h0 3 v27∧
 ∃v28,ae h26 h0 0 v28∧
 ∃v29,ae h26 h0 1 v29∧
 ∃v30,ae h26 h0 2 v30∧
 ∃v31,au h26 h0 3 v31∧
 ∃v32,av h26 h0 4 v32∧
 ∃v33,ae h26 h0 5 v33∧
 ∃v34,av h26 h1 0 v34∧
 ∃v35,av h26 h1 1 v35∧
 ∃v36,av h26 h2 0 v36∧
 ∃v37,av h26 h2 1 v37∧
 HC PG nG [] [.c .ptr] (fun(e38:Option Addr) h39=>
 ((av h39 h2 0 v36∧av h39 h2 1 v37)∧
 ((av h39 h1 0 v34∧av h39 h1 1 v35)∧
 ((ae h39 h0 0 v28∧ae h39 h0 1 v29∧ae h39 h0 2 v30∧au h39 h0 3 v31∧av h39 h0 4 v32∧ae h39 h0 5 v33)∧
 (au h39 h0 3 v27∧
 HC PG kK [CX v28 v29 v30 v31 v32 v33,o9 v34 v35,o9 v36 v37,.int .i64 (IntKind.wrap .i64 (x3+1))] [.c .ptr] (fun(e40:Option Addr) h41=>
 (au h41 h0 3 v27∧
 HC PG iu (F7 e38 v27 e23 e40) [.c .ptr] (fun(e42:Option Addr) h43=>
 K e42 h43) h41)) h39))))) h26) (
 ∃v44,au h26 h0 3 v44∧
 ∃v45,av h26 h1 0 v45∧
 ∃v46,av h26 h1 1 v46∧
 ∃v47,au h26 h0 3 v47∧
 ∃v48,av h26 h2 0 v48∧
 ∃v49,av h26 h2 1 v49∧
 HC PG nG [] [.c .ptr] (fun(e50:Option Addr) h51=>
 ((av h51 h2 0 v48∧av h51 h2 1 v49)∧
 (au h51 h0 3 v47∧
 ((av h51 h1 0 v45∧av h51 h1 1 v46)∧
 (au h51 h0 3 v44∧
 HC PG fY [.pointer e50,.pointer v44,.int .i64 e23,o9 v45 v46] [.c .ptr] (fun(e52:Option Addr) h53=>
 ((av h53 h2 0 v48∧av h53 h2 1 v49)∧
 (au h53 h0 3 v47∧
 HC PG fY [.pointer e52,.pointer v47,.int .i64 e25,o9 v48 v49] [.c .ptr] (fun(e54:Option Addr) h55=>
 K e54 h55) h53))) h51))))) h26)) h24)) h22)) h3))))
theorem ra(x0:Int×Int×Int×(Option Addr)×ByteArray×Int)(x1:ByteArray×ByteArray)(x2:ByteArray×ByteArray)(x3:Int){K:cW [.c .ptr]→ad→Prop}{h0:ad}(h:nS x0 x1 x2 x3 K h0):HC PG kK [QY x0,Kt x1,Kt x2,.int .i64 x3] [.c .ptr] K h0:=ed .nil Tryz.func213 Tryz.call213 rfl rfl (by kernel_rfl) h
def d7(x0:SliceV)(x1:Int)(x2:Value)(K:(Int×Bool)→ad→Prop)(h0:ad):Prop:=
 LoopP (fun I1 (t2:Int×Int) h3=>
 CondP (decide (t2.1<t2.2)) (
 ((0:Int)≤(1:Int)∧
 Bd (ee (IntKind.wrap .u64 (IntKind.wrap .i64 (t2.1+t2.2))) (2^(min (1:Int).toNat (IntKind.bits .u64))):Int) (fun n4=>
 (dd (IntKind.wrap .i64 n4) x0.len∧∃a5,x0.a=some a5∧
 ∃v6,cf h3 a5 ((IntKind.wrap .i64 n4).toNat*1) (.pointer v6)∧
 HV PG x2 (HS v6 x1) cy (fun(e7:Int) h8=>
 CondP (decide (e7<(0:Int))) (
 I1 (IntKind.wrap .i64 ((IntKind.wrap .i64 n4)+1),t2.2) h8) (
 I1 (t2.1,IntKind.wrap .i64 n4) h8)) h3)))) (
 CondP (decide (t2.1<(x0.len:Int))) (
 (dd t2.1 x0.len∧∃a9,x0.a=some a9∧
 ∃v10,cf h3 a9 (t2.1.toNat*1) (.pointer v10)∧
 HV PG x2 (HS v10 x1) cy (fun(e11:Int) h12=>
 K (t2.1,e11==(0:Int)) h12) h3)) (
 K (t2.1,false) h3))) (0,(x0.len:Int)) h0
noncomputable def gp:Ann:=.node .nil (.node .nil (.node .nil (.node (.loop [(9,.c (.int .i64)),(10,.c (.int .i64))] .nil) .nil)))
theorem gn(x0:SliceV)(x1:Int)(x2:Value){K:cW jz→ad→Prop}{h0:ad}(h:d7 x0 x1 x2 K h0):HC PG d6 [.slice x0.a x0.len x0.cap,.int .u8 x1,x2] jz K h0:=ed gp Tryz.func219 Tryz.call219 rfl rfl (by kernel_rfl) h
def pS(x0:Option Addr)(x1:Int)(K:(Int)→ad→Prop)(h0:ad):Prop:=
 ∃a1,x0=some a1∧
 ∃v2,bC h0 a1 0 v2∧
 ∃b3,(0:Int)≤(0:Int)∧v2[(0:Int).toNat]? =some b3∧
 Bd (IntKind.wrap .i64 ((IntKind.wrap .i64 (b3.toNat:Int))-(IntKind.wrap .i64 x1)):Int) (fun n4=>
 K n4 h0)
theorem vy(x0:Option Addr)(x1:Int){K:cW cy→ad→Prop}{h0:ad}(h:pS x0 x1 K h0):HC PG md (HS x0 x1) cy K h0:=ed .nil Tryz.func220 Tryz.call220 rfl rfl (by kernel_rfl) h
def Ak(x0:SliceV)(x1:ByteArray)(K:(Int×Bool)→ad→Prop)(h0:ad):Prop:=
 HC PG eJ [.slice x0.a x0.len x0.cap,.string x1,.func (.func nD) #[] #[]] jz (fun(e1:Int×Bool) h2=>
 K (e1.1,e1.2) h2) h0
theorem Hu(x0:SliceV)(x1:ByteArray){K:cW jz→ad→Prop}{h0:ad}(h:Ak x0 x1 K h0):HC PG qU (wi x0 x1) jz K h0:=ed .nil Tryz.func222 Tryz.call222 rfl rfl (by kernel_rfl) h
def sF(x0:Int)(x1:Int)(K:(Bool)→ad→Prop)(h0:ad):Prop:=
 HC PG mw [.int .i64 x1] [.c .bool] (fun(e1:Bool) h2=>
 CondP e1 (
 ((0:Int)≤x1∧
 Bd (IntKind.wrap .u32 (aj (IntKind.bits .u32) (ee x0 (2^(min (x1:Int).toNat (IntKind.bits .u32))))&&&aj (IntKind.bits .u32) 1).toNat:Int) (fun n3=>
 K (n3==(1:Int)) h2))) (
 K false h2)) h0
theorem zu(x0:Int)(x1:Int){K:cW [.c .bool]→ad→Prop}{h0:ad}(h:sF x0 x1 K h0):HC PG fI (mN x0 x1) [.c .bool] K h0:=ed .nil Tryz.func223 Tryz.call223 rfl rfl (by kernel_rfl) h
def rm(x0:Int)(x1:Int)(K:(Int)→ad→Prop)(h0:ad):Prop:=
 CondP (decide (x1≤(0:Int))) (
 K 0 h0) (
 CondP (decide (x1≥(32:Int))) (
 HC PG mY [.int .u32 x0] cy (fun(e1:Int) h2=>
 K e1 h2) h0) (
 ((0:Int)≤x1∧
 Bd (IntKind.wrap .u32 ((IntKind.wrap .u32 (1*2^(min (x1:Int).toNat (IntKind.bits .u32))))-1):Int) (fun n3=>
 Bd (IntKind.wrap .u32 (aj (IntKind.bits .u32) x0&&&aj (IntKind.bits .u32) n3).toNat:Int) (fun n4=>
 HC PG mY [.int .u32 n4] cy (fun(e5:Int) h6=>
 K e5 h6) h0)))))
theorem ym(x0:Int)(x1:Int){K:cW cy→ad→Prop}{h0:ad}(h:rm x0 x1 K h0):HC PG dA (mN x0 x1) cy K h0:=ed .nil Tryz.func224 Tryz.call224 rfl rfl (by kernel_rfl) h
def gh(x0:SliceV)(x1:Value)(K:(SliceV)→ad→Prop)(h0:ad):Prop:=
 At (hnew h0 [.slice x0.a x0.len x0.cap] cL) (fun h1=>
 RangeP PG x1 PJ h1 (fun rdy2 bz3 (x4:ByteArray×ByteArray) k5 h6=>
 nv h6 kU ag (sP x4) (fun h11=>
 (h11[(bT h1+1)]? =some rdy2∧At (bO h11 (bT h1+1) bz3) (fun h8=>
 ∃v12:SliceV,aN h8 (az h0)=some (.slice v12.a v12.len v12.cap)∧
 ∃v13,av h8 h6 0 v13∧
 ∃v14,av h8 h6 1 v14∧
 At (hnew h8 (jx v13 v14) ag) (fun h15=>
 ∃xs16,SRow h15 (some (az h8)) (1*2) xs16∧
 AppP (some kU) 2 32 ag v12.a v12.len v12.cap 1 xs16 h15 (fun s17 h18=>
 (Wr h18 (az h0)∧
 At (hset h18 (az h0) (.slice s17.a s17.len s17.cap)) (fun h19=>
 k5 none h19)))))))) (fun h20=>
 ∃v23:SliceV,aN h20 (az h0)=some (.slice v23.a v23.len v23.cap)∧
 (h20[(bT h1)]? =some (.deferred (some []))∧At (bO h20 (bT h1) (.deferred none)) (fun h24=>
 K v23 h24))) (fun i9 h21=>
 bif bJ i9 0 then(
 ∃v25:SliceV,aN h21 (az h0)=some (.slice v25.a v25.len v25.cap)∧
 (h21[(bT h1)]? =some (.deferred (some []))∧At (bO h21 (bT h1) (.deferred none)) (fun h26=>
 K v25 h26)))else(
 False)) (fun h22=>
 (h22[(bT h1)]? =some (.deferred (some []))∧At (bO h22 (bT h1) (.deferred none)) (fun h27=>
 K ⟨none,0,0⟩ h27))))
noncomputable def kB:Ann:=.node .nil (.node (.node .nil (.rf [.agg [.str,.str]] .nil .nil)) .nil)
theorem kA(x0:SliceV)(x1:Value){K:cW [.c .slice]→ad→Prop}{h0:ad}(h:gh x0 x1 K h0):HC PG eD [.slice x0.a x0.len x0.cap,x1] [.c .slice] K h0:=Rd kB Tryz.func235 Tryz.call235 rfl rfl (by kernel_rfl) h
def rL(x0:Value)(y0:Addr)(y1:Addr)(y2:Addr)(K:(Unit)→ad→Prop)(h0:ad):Prop:=
 ∃v1,aN h0 y0=some (.pointer v1)∧
 ∃v2,bC h0 y1 0 v2∧
 ∃v3,bC h0 y1 1 v3∧
 ∃v4,ge h0 y1 2 v4∧
 ∃v5,aN h0 y2=some (.bool v5)∧
 HC PG wI [.pointer v1,Px v2 v3 v4,.bool v5] [.c .ptr] (fun(e6:Option Addr) h7=>
 LoopP (fun I8 (t9:Unit) h10=>
 HC PG mV [.pointer e6] pO (fun(e11:(ByteArray×ByteArray)×Bool) h12=>
 nv h12 kU ag (sP e11.1) (fun h14=>
 Join (fun(t20:Bool) h21=>
 CondP t20 (
 K () h21) (
 I8 () h21)) (fun J15=>
 CondP (!e11.2) (
 J15 true h14) (
 ∃v16,av h14 h12 0 v16∧
 ∃v17,av h14 h12 1 v17∧
 HV PG x0 [o9 v16 v17] [.c .bool] (fun(e18:Bool) h19=>
 J15 (!e18) h19) h14)))) h10) () h7) h0
noncomputable def wh:Ann:=.node .nil (.loop [] (.node .nil (.join [(24,.c .bool)] .nil .nil)))
theorem Om(x0:Value)(y0:Addr)(y1:Addr)(y2:Addr){K:cW []→ad→Prop}{h0:ad}(h:rL x0 y0 y1 y2 K h0):HC PG oV [x0,.pointer (some y0),.pointer (some y1),.pointer (some y2)] [] K h0:=ed wh Tryz.func236 Tryz.call236 rfl rfl (by kernel_rfl) h
theorem Cs(x0:Value)(y0:Addr)(y1:Addr)(y2:Addr){K:cW []→ad→Prop}{h0:ad}(h:rL x0 y0 y1 y2 K h0):HE PG oV [x0,.pointer (some y0),.pointer (some y1),.pointer (some y2)] [] K h0:=RQ wh Tryz.func236 Tryz.call236 rfl rfl (by kernel_rfl) h
def Cw(x0:Option Addr)(x1:ByteArray×ByteArray×Bool)(x2:Bool)(K:(Option Addr)→ad→Prop)(h0:ad):Prop:=
 At (hnew h0 (Oj x1) na) (fun h1=>
 ∃v2,av h1 h0 0 v2∧
 ∃v3,av h1 h0 1 v3∧
 ∃v4,oz h1 h0 2 v4∧
 At (hnew h1 [.slice none 0 0,.string v2,.string v3,.bool v4,.bool x2] vM) (fun h5=>
 CondP (!(x0.isNone)) (
 ∃a6,some (az h1)=some a6∧
 ∃v7:SliceV,bG h5 a6 0 v7∧
 At (hnew h5 (CW x0 (⟨#[]⟩:ByteArray) false) dS) (fun h8=>
 ∃xs9,SRow h8 (some (az h5)) (1*3) xs9∧
 AppP (some HL) 3 32 dS v7.a v7.len v7.cap 1 xs9 h8 (fun s10 h11=>
 ∃a12,some (az h1)=some a12∧
 (dL h11 (adr a12 0) (.slice s10.a s10.len s10.cap) (fun h13=>
 K (some (az h1)) h13))))) (
 K (some (az h1)) h5)))
theorem Jx(x0:Option Addr)(x1:ByteArray×ByteArray×Bool)(x2:Bool){K:cW [.c .ptr]→ad→Prop}{h0:ad}(h:Cw x0 x1 x2 K h0):HC PG wI [.pointer x0,OT x1,.bool x2] [.c .ptr] K h0:=ed .nil Tryz.func237 Tryz.call237 rfl rfl (by kernel_rfl) h
def qu(x0:Option Addr)(K:((ByteArray×ByteArray)×Bool)→ad→Prop)(h0:ad):Prop:=
 At (hnew h0 kU ag) (fun h1=>
 CondP x0.isNone (
 (cJ h1 h0 kU (fun h2=>
 ∃v3,av h2 h0 0 v3∧
 ∃v4,av h2 h0 1 v4∧
 K ((v3,v4),false) h2))) (
 LoopP (fun I5 (t6:Unit) h7=>
 ∃a8,x0=some a8∧
 ∃v9:SliceV,bG h7 a8 0 v9∧
 CondP (decide ((v9.len:Int)>(0:Int))) (
 ∃a10,x0=some a10∧
 ∃v11:SliceV,bG h7 a10 0 v11∧
 ∃a12,x0=some a12∧
 ∃v13:SliceV,bG h7 a12 0 v13∧
 (dd (IntKind.wrap .i64 ((v13.len:Int)-1)) v11.len∧∃a14,v11.a=some a14∧
 ∃v15,cf h7 (adr a14 ((IntKind.wrap .i64 ((v13.len:Int)-1)).toNat*3)) 0 (.pointer v15)∧
 ∃v16,cf h7 (adr a14 ((IntKind.wrap .i64 ((v13.len:Int)-1)).toNat*3)) 1 (.string v16)∧
 ∃v17,cf h7 (adr a14 ((IntKind.wrap .i64 ((v13.len:Int)-1)).toNat*3)) 2 (.bool v17)∧
 At (hnew h7 HL dS) (fun h18=>
 ((cf h18 (adr a14 ((IntKind.wrap .i64 ((v13.len:Int)-1)).toNat*3)) 0 (.pointer v15)∧cf h18 (adr a14 ((IntKind.wrap .i64 ((v13.len:Int)-1)).toNat*3)) 1 (.string v16)∧cf h18 (adr a14 ((IntKind.wrap .i64 ((v13.len:Int)-1)).toNat*3)) 2 (.bool v17))∧
 (bG h18 a12 0 v13∧
 (bG h18 a10 0 v11∧
 (cJ h18 h7 (CW v15 v16 v17) (fun h19=>
 ∃a20,x0=some a20∧
 ∃v21:SliceV,bG h19 a20 0 v21∧
 ∃a22,x0=some a22∧
 ∃v23:SliceV,bG h19 a22 0 v23∧
 (((0:Int)≤(IntKind.wrap .i64 ((v23.len:Int)-1))∧(IntKind.wrap .i64 ((v23.len:Int)-1))≤((v21.cap:Nat):Int))∧
 Bd (aY v21.a 0 v21.cap 3:Option Addr) (fun a24=>Bd (((IntKind.wrap .i64 ((v23.len:Int)-1)).toNat)-0:Nat) (fun n25=>Bd (v21.cap-0:Nat) (fun n26=>
 ∃a27,x0=some a27∧
 (dL h19 (adr a27 0) (.slice a24 n25 n26) (fun h28=>
 ∃v29,oz h28 h7 2 v29∧
 CondP (!v29) (
 ∃v30,au h28 h7 0 v30∧
 ∃v31,av h28 h7 1 v31∧
 ∃v32,oz h28 h7 2 v32∧
 HC PG mU [.pointer x0,QL v30 v31 v32] [] (fun(e33:Unit) h34=>
 I5 () h34) h28) (
 ∃v35,av h28 h7 1 v35∧
 ∃v36,au h28 h7 0 v36∧
 HC PG jW [.pointer v36] [.c .str] (fun(e37:ByteArray) h38=>
 (av h38 h7 1 v35∧
 (((v35.size+e37.size:Nat):Int)≤9223372036854775807∧
 ∃v39,au h38 h7 0 v39∧
 HC PG jV [.pointer v39] BR (fun(e40:ByteArray×Bool) h41=>
 Join (fun(t49:Bool) h50=>
 CondP t49 (
 (cJ h50 h0 (jx (v35++e37) e40.1) (fun h51=>
 ∃v52,av h51 h0 0 v52∧
 ∃v53,av h51 h0 1 v53∧
 K ((v52,v53),true) h51))) (
 I5 () h50)) (fun J42=>
 CondP e40.2 (
 ∃a43,x0=some a43∧
 ∃v44,bC h41 (adr a43 1) 0 v44∧
 ∃v45,bC h41 (adr a43 1) 1 v45∧
 ∃v46,ge h41 (adr a43 1) 2 v46∧
 HC PG pB [Px v44 v45 v46,.string (v35++e37)] [.c .bool] (fun(e47:Bool) h48=>
 J42 e47 h48) h41) (
 J42 false h41))) h38))) h28))))))))))))))) (
 (cJ h7 h0 kU (fun h54=>
 ∃v55,av h54 h0 0 v55∧
 ∃v56,av h54 h0 1 v56∧
 K ((v55,v56),false) h54)))) () h1))
noncomputable def xj:Ann:=.node .nil (.node .nil (.node (.loop [] (.node .nil (.node .nil (.node .nil (.node .nil (.node .nil (.node .nil (.join [(69,.c .bool)] .nil .nil)))))))) .nil))
theorem wZ(x0:Option Addr){K:cW pO→ad→Prop}{h0:ad}(h:qu x0 K h0):HC PG mV [.pointer x0] pO K h0:=ed xj Tryz.func238 Tryz.call238 rfl rfl (by kernel_rfl) h
def tF(x0:Value)(y0:Addr)(K:(Unit)→ad→Prop)(h0:ad):Prop:=
 ∃v1,aN h0 y0=some (.pointer v1)∧
 HC PG wG [.pointer v1] [.c .ptr] (fun(e2:Option Addr) h3=>
 LoopP (fun I4 (t5:Unit) h6=>
 HC PG mQ [.pointer e2] pO (fun(e7:(ByteArray×ByteArray)×Bool) h8=>
 nv h8 kU ag (sP e7.1) (fun h10=>
 Join (fun(t16:Bool) h17=>
 CondP t16 (
 K () h17) (
 I4 () h17)) (fun J11=>
 CondP (!e7.2) (
 J11 true h10) (
 ∃v12,av h10 h8 0 v12∧
 ∃v13,av h10 h8 1 v13∧
 HV PG x0 [o9 v12 v13] [.c .bool] (fun(e14:Bool) h15=>
 J11 (!e14) h15) h10)))) h6) () h3) h0
noncomputable def yA:Ann:=.node .nil (.loop [] (.node .nil (.join [(20,.c .bool)] .nil .nil)))
theorem Ps(x0:Value)(y0:Addr){K:cW []→ad→Prop}{h0:ad}(h:tF x0 y0 K h0):HC PG p6 [x0,.pointer (some y0)] [] K h0:=ed yA Tryz.func239 Tryz.call239 rfl rfl (by kernel_rfl) h
theorem Dr(x0:Value)(y0:Addr){K:cW []→ad→Prop}{h0:ad}(h:tF x0 y0 K h0):HE PG p6 [x0,.pointer (some y0)] [] K h0:=RQ yA Tryz.func239 Tryz.call239 rfl rfl (by kernel_rfl) h
def Ct(x0:Option Addr)(K:(Option Addr)→ad→Prop)(h0:ad):Prop:=
 HC PG rZ [.pointer x0] D6 (fun(e1:SliceV×SliceV) h2=>
 At (hnew h2 (Ro e1) dV) (fun h3=>
 At (hnew h3 [.slice (some (az h2)) 1 1,.int .i64 0] vL) (fun h4=>
 K (some (az h3)) h4))) h0
theorem Ju(x0:Option Addr){K:cW [.c .ptr]→ad→Prop}{h0:ad}(h:Ct x0 K h0):HC PG wG [.pointer x0] [.c .ptr] K h0:=ed .nil Tryz.func240 Tryz.call240 rfl rfl (by kernel_rfl) h
def qo(x0:Option Addr)(K:((ByteArray×ByteArray)×Bool)→ad→Prop)(h0:ad):Prop:=
 At (hnew h0 kU ag) (fun h1=>
 CondP x0.isNone (
 (cJ h1 h0 kU (fun h2=>
 ∃v3,av h2 h0 0 v3∧
 ∃v4,av h2 h0 1 v4∧
 K ((v3,v4),false) h2))) (
 LoopP (fun I5 (t6:Unit) h7=>
 ∃a8,x0=some a8∧
 ∃v9:SliceV,bG h7 a8 0 v9∧
 CondP (decide ((v9.len:Int)>(0:Int))) (
 ∃a10,x0=some a10∧
 ∃v11:SliceV,bG h7 a10 0 v11∧
 ∃a12,x0=some a12∧
 ∃v13:SliceV,bG h7 a12 0 v13∧
 (dd (IntKind.wrap .i64 ((v13.len:Int)-1)) v11.len∧∃a14,v11.a=some a14∧
 ∃a15,some (adr a14 ((IntKind.wrap .i64 ((v13.len:Int)-1)).toNat*2))=some a15∧
 ∃v16:SliceV,bG h7 a15 0 v16∧
 CondP (decide ((v16.len:Int)>(0:Int))) (
 ∃a17,some (adr a14 ((IntKind.wrap .i64 ((v13.len:Int)-1)).toNat*2))=some a17∧
 ∃v18:SliceV,bG h7 a17 0 v18∧
 (dd 0 v18.len∧∃a19,v18.a=some a19∧
 ∃v20,bC h7 (adr a19 ((0:Int).toNat*2)) 0 v20∧
 ∃v21,bC h7 (adr a19 ((0:Int).toNat*2)) 1 v21∧
 nv h7 kU ag (jx v20 v21) (fun h23=>
 ∃a24,some (adr a14 ((IntKind.wrap .i64 ((v13.len:Int)-1)).toNat*2))=some a24∧
 ∃v25:SliceV,bG h23 a24 0 v25∧
 (((0:Int)≤(1:Int)∧(1:Int)≤((v25.len:Nat):Int))∧
 ∃a26,some (adr a14 ((IntKind.wrap .i64 ((v13.len:Int)-1)).toNat*2))=some a26∧
 (dL h23 (adr a26 0) (.slice (aY v25.a ((1:Int).toNat) v25.cap 2) (v25.len-((1:Int).toNat)) (v25.cap-((1:Int).toNat))) (fun h27=>
 ∃a28,x0=some a28∧
 ∃v29:SliceV,bG h27 a28 0 v29∧
 ∃a30,x0=some a30∧
 (dL h27 (adr a30 1) (.int .i64 (v29.len:Int)) (fun h31=>
 ∃v32,av h31 h7 0 v32∧
 ∃v33,av h31 h7 1 v33∧
 (cJ h31 h0 (jx v32 v33) (fun h34=>
 ∃v35,av h34 h0 0 v35∧
 ∃v36,av h34 h0 1 v36∧
 K ((v35,v36),true) h34)))))))))) (
 ∃a37,some (adr a14 ((IntKind.wrap .i64 ((v13.len:Int)-1)).toNat*2))=some a37∧
 ∃v38:SliceV,bG h7 a37 1 v38∧
 CondP (decide ((v38.len:Int)>(0:Int))) (
 ∃a39,some (adr a14 ((IntKind.wrap .i64 ((v13.len:Int)-1)).toNat*2))=some a39∧
 ∃v40:SliceV,bG h7 a39 1 v40∧
 (dd 0 v40.len∧∃a41,v40.a=some a41∧
 ∃v42,cf h7 a41 ((0:Int).toNat*1) (.pointer v42)∧
 ∃a43,some (adr a14 ((IntKind.wrap .i64 ((v13.len:Int)-1)).toNat*2))=some a43∧
 ∃v44:SliceV,bG h7 a43 1 v44∧
 (((0:Int)≤(1:Int)∧(1:Int)≤((v44.len:Nat):Int))∧
 ∃a45,some (adr a14 ((IntKind.wrap .i64 ((v13.len:Int)-1)).toNat*2))=some a45∧
 (dL h7 (adr a45 1) (.slice (aY v44.a ((1:Int).toNat) v44.cap 1) (v44.len-((1:Int).toNat)) (v44.cap-((1:Int).toNat))) (fun h46=>
 ∃a47,x0=some a47∧
 ∃v48:SliceV,bG h46 a47 0 v48∧
 HC PG rZ [.pointer v42] D6 (fun(e49:SliceV×SliceV) h50=>
 (bG h50 a47 0 v48∧
 At (hnew h50 (Ro e49) dV) (fun h51=>
 (bG h51 a47 0 v48∧
 ∃xs52,SRow h51 (some (az h50)) (1*2) xs52∧
 AppP (some QF) 2 48 dV v48.a v48.len v48.cap 1 xs52 h51 (fun s53 h54=>
 ∃a55,x0=some a55∧
 (dL h54 (adr a55 0) (.slice s53.a s53.len s53.cap) (fun h56=>
 I5 () h56))))))) h46))))) (
 ∃a57,x0=some a57∧
 ∃v58:SliceV,bG h7 a57 0 v58∧
 ∃a59,x0=some a59∧
 ∃v60:SliceV,bG h7 a59 0 v60∧
 (((0:Int)≤(IntKind.wrap .i64 ((v60.len:Int)-1))∧(IntKind.wrap .i64 ((v60.len:Int)-1))≤((v58.cap:Nat):Int))∧
 Bd (aY v58.a 0 v58.cap 2:Option Addr) (fun a61=>Bd (((IntKind.wrap .i64 ((v60.len:Int)-1)).toNat)-0:Nat) (fun n62=>Bd (v58.cap-0:Nat) (fun n63=>
 ∃a64,x0=some a64∧
 (dL h7 (adr a64 0) (.slice a61 n62 n63) (fun h65=>
 I5 () h65)))))))))) (
 ∃a66,x0=some a66∧
 (dL h7 (adr a66 1) (.int .i64 0) (fun h67=>
 (cJ h67 h0 kU (fun h68=>
 ∃v69,av h68 h0 0 v69∧
 ∃v70,av h68 h0 1 v70∧
 K ((v69,v70),false) h68)))))) () h1))
noncomputable def xh:Ann:=.node .nil (.node .nil (.node (.loop [] .nil) .nil))
theorem wV(x0:Option Addr){K:cW pO→ad→Prop}{h0:ad}(h:qo x0 K h0):HC PG mQ [.pointer x0] pO K h0:=ed xh Tryz.func241 Tryz.call241 rfl rfl (by kernel_rfl) h
def ja(x0:SliceV)(x1:Int)(x2:Value)(K:(Unit)→ad→Prop)(h0:ad):Prop:=
 LoopP (fun I1 (t2:Int×Int) h3=>
 CondP (decide (t2.2≤x1)) (
 HC PG dJ [.slice x0.a x0.len x0.cap,.int .i64 t2.1,.int .i64 t2.2,x2] [] (fun(e4:Unit) h5=>
 I1 (t2.2,IntKind.wrap .i64 (t2.2+20)) h5) h3) (
 HC PG dJ [.slice x0.a x0.len x0.cap,.int .i64 t2.1,.int .i64 x1,x2] [] (fun(e6:Unit) h7=>
 LoopP (fun I8 (t9:Int) h10=>
 CondP (decide (t9<x1)) (
 LoopP (fun I11 (t12:Int×Int) h13=>
 CondP (decide (t12.2≤x1)) (
 HC PG cN [.slice x0.a x0.len x0.cap,.int .i64 t12.1,.int .i64 (IntKind.wrap .i64 (t12.1+t9)),.int .i64 t12.2,x2] [] (fun(e14:Unit) h15=>
 I11 (t12.2,IntKind.wrap .i64 (t12.2+(IntKind.wrap .i64 (2*t9)))) h15) h13) (
 Join (fun(t19:Unit) h20=>
 I8 (IntKind.wrap .i64 (t9*2)) h20) (fun J16=>
 CondP (decide ((IntKind.wrap .i64 (t12.1+t9))<x1)) (
 HC PG cN [.slice x0.a x0.len x0.cap,.int .i64 t12.1,.int .i64 (IntKind.wrap .i64 (t12.1+t9)),.int .i64 x1,x2] [] (fun(e17:Unit) h18=>
 J16 () h18) h13) (
 J16 () h13)))) (0,IntKind.wrap .i64 (2*t9)) h10) (
 K () h10)) 20 h7) h3)) (0,20) h0
noncomputable def nT:Ann:=.node .nil (.node .nil (.node (.loop [(7,.c (.int .i64)),(8,.c (.int .i64))] .nil) (.node .nil (.loop [(6,.c (.int .i64))] (.node .nil (.node .nil (.node (.loop [(7,.c (.int .i64)),(8,.c (.int .i64))] .nil) (.join [] .nil .nil))))))))
theorem nN(x0:SliceV)(x1:Int)(x2:Value){K:cW []→ad→Prop}{h0:ad}(h:ja x0 x1 x2 K h0):HC PG i6 [.slice x0.a x0.len x0.cap,.int .i64 x1,x2] [] K h0:=ed nT Tryz.func242 Tryz.call242 rfl rfl (by kernel_rfl) h
def sy(x0:Option Addr)(x1:Int)(K:(Unit)→ad→Prop)(h0:ad):Prop:=
 ∃a1,x0=some a1∧
 (dd (3:Int) 4∧
 ∃v2,cf h0 a1 ((3:Int).toNat*1) (.int .u64 v2)∧
 Bd (IntKind.wrap .u64 (aj (IntKind.bits .u64) v2^^^aj (IntKind.bits .u64) x1).toNat:Int) (fun n3=>
 ∃a4,x0=some a4∧
 (dd (3:Int) 4∧
 (dL h0 (adr a4 ((3:Int).toNat*1)) (.int .u64 n3) (fun h5=>
 HC PG ir (xo x0 2) [] (fun(e6:Unit) h7=>
 ∃a8,x0=some a8∧
 (dd 0 4∧
 ∃v9,cf h7 a8 ((0:Int).toNat*1) (.int .u64 v9)∧
 Bd (IntKind.wrap .u64 (aj (IntKind.bits .u64) v9^^^aj (IntKind.bits .u64) x1).toNat:Int) (fun n10=>
 ∃a11,x0=some a11∧
 (dd 0 4∧
 (dL h7 (adr a11 ((0:Int).toNat*1)) (.int .u64 n10) (fun h12=>
 K () h12)))))) h5)))))
theorem zn(x0:Option Addr)(x1:Int){K:cW []→ad→Prop}{h0:ad}(h:sy x0 x1 K h0):HC PG lM (Oq x0 x1) [] K h0:=ed .nil Tryz.func243 Tryz.call243 rfl rfl (by kernel_rfl) h
def Cy(x0:ByteArray)(K:(Int)→ad→Prop)(h0:ad):Prop:=
 Join (fun(t41:Int) h42=>
 ∃b43,(0:Int)≤(0:Int)∧x0[(0:Int).toNat]? =some b43∧
 Bd (IntKind.wrap .u64 (aj (IntKind.bits .u64) t41|||aj (IntKind.bits .u64) (IntKind.wrap .u64 (b43.toNat:Int))).toNat:Int) (fun n44=>
 K n44 h42)) (fun J1=>
 Join (fun(t36:Int) h37=>
 ∃b38,(0:Int)≤(1:Int)∧x0[(1:Int).toNat]? =some b38∧
 ((0:Int)≤(8:Int)∧
 Bd (IntKind.wrap .u64 ((IntKind.wrap .u64 (b38.toNat:Int))*2^(min (8:Int).toNat (IntKind.bits .u64))):Int) (fun n39=>
 Bd (IntKind.wrap .u64 (aj (IntKind.bits .u64) t36|||aj (IntKind.bits .u64) n39).toNat:Int) (fun n40=>
 J1 n40 h37)))) (fun J2=>
 Join (fun(t31:Int) h32=>
 ∃b33,(0:Int)≤(2:Int)∧x0[(2:Int).toNat]? =some b33∧
 ((0:Int)≤(16:Int)∧
 Bd (IntKind.wrap .u64 ((IntKind.wrap .u64 (b33.toNat:Int))*2^(min (16:Int).toNat (IntKind.bits .u64))):Int) (fun n34=>
 Bd (IntKind.wrap .u64 (aj (IntKind.bits .u64) t31|||aj (IntKind.bits .u64) n34).toNat:Int) (fun n35=>
 J2 n35 h32)))) (fun J3=>
 Join (fun(t26:Int) h27=>
 ∃b28,(0:Int)≤(3:Int)∧x0[(3:Int).toNat]? =some b28∧
 ((0:Int)≤(24:Int)∧
 Bd (IntKind.wrap .u64 ((IntKind.wrap .u64 (b28.toNat:Int))*2^(min (24:Int).toNat (IntKind.bits .u64))):Int) (fun n29=>
 Bd (IntKind.wrap .u64 (aj (IntKind.bits .u64) t26|||aj (IntKind.bits .u64) n29).toNat:Int) (fun n30=>
 J3 n30 h27)))) (fun J4=>
 Join (fun(t21:Int) h22=>
 ∃b23,(0:Int)≤(4:Int)∧x0[(4:Int).toNat]? =some b23∧
 ((0:Int)≤(32:Int)∧
 Bd (IntKind.wrap .u64 ((IntKind.wrap .u64 (b23.toNat:Int))*2^(min (32:Int).toNat (IntKind.bits .u64))):Int) (fun n24=>
 Bd (IntKind.wrap .u64 (aj (IntKind.bits .u64) t21|||aj (IntKind.bits .u64) n24).toNat:Int) (fun n25=>
 J4 n25 h22)))) (fun J5=>
 Join (fun(t16:Int) h17=>
 ∃b18,(0:Int)≤(5:Int)∧x0[(5:Int).toNat]? =some b18∧
 ((0:Int)≤(40:Int)∧
 Bd (IntKind.wrap .u64 ((IntKind.wrap .u64 (b18.toNat:Int))*2^(min (40:Int).toNat (IntKind.bits .u64))):Int) (fun n19=>
 Bd (IntKind.wrap .u64 (aj (IntKind.bits .u64) t16|||aj (IntKind.bits .u64) n19).toNat:Int) (fun n20=>
 J5 n20 h17)))) (fun J6=>
 Join (fun(t11:Int) h12=>
 ∃b13,(0:Int)≤(6:Int)∧x0[(6:Int).toNat]? =some b13∧
 ((0:Int)≤(48:Int)∧
 Bd (IntKind.wrap .u64 ((IntKind.wrap .u64 (b13.toNat:Int))*2^(min (48:Int).toNat (IntKind.bits .u64))):Int) (fun n14=>
 Bd (IntKind.wrap .u64 (aj (IntKind.bits .u64) t11|||aj (IntKind.bits .u64) n14).toNat:Int) (fun n15=>
 J6 n15 h12)))) (fun J7=>
 CondP ((x0.size:Int)==(8:Int)) (
 ∃b8,(0:Int)≤(7:Int)∧x0[(7:Int).toNat]? =some b8∧
 ((0:Int)≤(56:Int)∧
 Bd (IntKind.wrap .u64 ((IntKind.wrap .u64 (b8.toNat:Int))*2^(min (56:Int).toNat (IntKind.bits .u64))):Int) (fun n9=>
 Bd (IntKind.wrap .u64 (aj (IntKind.bits .u64) 0|||aj (IntKind.bits .u64) n9).toNat:Int) (fun n10=>
 J7 n10 h0)))) (
 CondP ((x0.size:Int)==(7:Int)) (
 J7 0 h0) (
 CondP ((x0.size:Int)==(6:Int)) (
 J6 0 h0) (
 CondP ((x0.size:Int)==(5:Int)) (
 J5 0 h0) (
 CondP ((x0.size:Int)==(4:Int)) (
 J4 0 h0) (
 CondP ((x0.size:Int)==(3:Int)) (
 J3 0 h0) (
 CondP ((x0.size:Int)==(2:Int)) (
 J2 0 h0) (
 CondP ((x0.size:Int)==(1:Int)) (
 J1 0 h0) (
 K 0 h0)))))))))))))))
noncomputable def JR:Ann:=.node .nil (.node .nil (.node (.node .nil (.join [(3,.c (.int .u64))] (.join [(3,.c (.int .u64))] (.join [(3,.c (.int .u64))] (.join [(3,.c (.int .u64))] (.join [(3,.c (.int .u64))] (.join [(3,.c (.int .u64))] (.join [(3,.c (.int .u64))] .nil .nil) .nil) .nil) .nil) .nil) .nil) .nil)) .nil))
theorem Jz(x0:ByteArray){K:cW ii→ad→Prop}{h0:ad}(h:Cy x0 K h0):HC PG sZ [.string x0] ii K h0:=ed JR Tryz.func244 Tryz.call244 rfl rfl (by kernel_rfl) h
def qv(x0:Option Addr)(x1:Int)(K:(Unit)→ad→Prop)(h0:ad):Prop:=
 LoopP (fun I1 (t2:Int) h3=>
 CondP (decide (t2<x1)) (
 ∃a4,x0=some a4∧
 (dd 0 4∧
 ∃v5,cf h3 a4 ((0:Int).toNat*1) (.int .u64 v5)∧
 ∃a6,x0=some a6∧
 (dd 1 4∧
 ∃v7,cf h3 a6 ((1:Int).toNat*1) (.int .u64 v7)∧
 ∃a8,x0=some a8∧
 (dd 0 4∧
 (dL h3 (adr a8 ((0:Int).toNat*1)) (.int .u64 (IntKind.wrap .u64 (v5+v7))) (fun h9=>
 ∃a10,x0=some a10∧
 (dd 1 4∧
 ∃v11,cf h9 a10 ((1:Int).toNat*1) (.int .u64 v11)∧
 ∃a12,x0=some a12∧
 (dd 0 4∧
 ∃v13,cf h9 a12 ((0:Int).toNat*1) (.int .u64 v13)∧
 ∃a14,x0=some a14∧
 HC PG dq (nn v11 13) ii (fun(e15:Int) h16=>
 (cf h16 a12 ((0:Int).toNat*1) (.int .u64 v13)∧
 Bd (IntKind.wrap .u64 (aj (IntKind.bits .u64) e15^^^aj (IntKind.bits .u64) v13).toNat:Int) (fun n17=>
 (dd 1 4∧
 (dL h16 (adr a14 ((1:Int).toNat*1)) (.int .u64 n17) (fun h18=>
 ∃a19,x0=some a19∧
 (dd 0 4∧
 ∃v20,cf h18 a19 ((0:Int).toNat*1) (.int .u64 v20)∧
 ∃a21,x0=some a21∧
 HC PG dq (nn v20 32) ii (fun(e22:Int) h23=>
 (dd 0 4∧
 (dL h23 (adr a21 ((0:Int).toNat*1)) (.int .u64 e22) (fun h24=>
 ∃a25,x0=some a25∧
 (dd (2:Int) 4∧
 ∃v26,cf h24 a25 ((2:Int).toNat*1) (.int .u64 v26)∧
 ∃a27,x0=some a27∧
 (dd (3:Int) 4∧
 ∃v28,cf h24 a27 ((3:Int).toNat*1) (.int .u64 v28)∧
 ∃a29,x0=some a29∧
 (dd (2:Int) 4∧
 (dL h24 (adr a29 ((2:Int).toNat*1)) (.int .u64 (IntKind.wrap .u64 (v26+v28))) (fun h30=>
 ∃a31,x0=some a31∧
 (dd (3:Int) 4∧
 ∃v32,cf h30 a31 ((3:Int).toNat*1) (.int .u64 v32)∧
 ∃a33,x0=some a33∧
 (dd (2:Int) 4∧
 ∃v34,cf h30 a33 ((2:Int).toNat*1) (.int .u64 v34)∧
 ∃a35,x0=some a35∧
 HC PG dq (nn v32 16) ii (fun(e36:Int) h37=>
 (cf h37 a33 ((2:Int).toNat*1) (.int .u64 v34)∧
 Bd (IntKind.wrap .u64 (aj (IntKind.bits .u64) e36^^^aj (IntKind.bits .u64) v34).toNat:Int) (fun n38=>
 (dd (3:Int) 4∧
 (dL h37 (adr a35 ((3:Int).toNat*1)) (.int .u64 n38) (fun h39=>
 ∃a40,x0=some a40∧
 (dd 0 4∧
 ∃v41,cf h39 a40 ((0:Int).toNat*1) (.int .u64 v41)∧
 ∃a42,x0=some a42∧
 (dd (3:Int) 4∧
 ∃v43,cf h39 a42 ((3:Int).toNat*1) (.int .u64 v43)∧
 ∃a44,x0=some a44∧
 (dd 0 4∧
 (dL h39 (adr a44 ((0:Int).toNat*1)) (.int .u64 (IntKind.wrap .u64 (v41+v43))) (fun h45=>
 ∃a46,x0=some a46∧
 (dd (3:Int) 4∧
 ∃v47,cf h45 a46 ((3:Int).toNat*1) (.int .u64 v47)∧
 ∃a48,x0=some a48∧
 (dd 0 4∧
 ∃v49,cf h45 a48 ((0:Int).toNat*1) (.int .u64 v49)∧
 ∃a50,x0=some a50∧
 HC PG dq (nn v47 21) ii (fun(e51:Int) h52=>
 (cf h52 a48 ((0:Int).toNat*1) (.int .u64 v49)∧
 Bd (IntKind.wrap .u64 (aj (IntKind.bits .u64) e51^^^aj (IntKind.bits .u64) v49).toNat:Int) (fun n53=>
 (dd (3:Int) 4∧
 (dL h52 (adr a50 ((3:Int).toNat*1)) (.int .u64 n53) (fun h54=>
 ∃a55,x0=some a55∧
 (dd (2:Int) 4∧
 ∃v56,cf h54 a55 ((2:Int).toNat*1) (.int .u64 v56)∧
 ∃a57,x0=some a57∧
 (dd 1 4∧
 ∃v58,cf h54 a57 ((1:Int).toNat*1) (.int .u64 v58)∧
 ∃a59,x0=some a59∧
 (dd (2:Int) 4∧
 (dL h54 (adr a59 ((2:Int).toNat*1)) (.int .u64 (IntKind.wrap .u64 (v56+v58))) (fun h60=>
 ∃a61,x0=some a61∧
 (dd 1 4∧
 ∃v62,cf h60 a61 ((1:Int).toNat*1) (.int .u64 v62)∧
 ∃a63,x0=some a63∧
 (dd (2:Int) 4∧
 ∃v64,cf h60 a63 ((2:Int).toNat*1) (.int .u64 v64)∧
 ∃a65,x0=some a65∧
 HC PG dq (nn v62 17) ii (fun(e66:Int) h67=>
 (cf h67 a63 ((2:Int).toNat*1) (.int .u64 v64)∧
 Bd (IntKind.wrap .u64 (aj (IntKind.bits .u64) e66^^^aj (IntKind.bits .u64) v64).toNat:Int) (fun n68=>
 (dd 1 4∧
 (dL h67 (adr a65 ((1:Int).toNat*1)) (.int .u64 n68) (fun h69=>
 ∃a70,x0=some a70∧
 (dd (2:Int) 4∧
 ∃v71,cf h69 a70 ((2:Int).toNat*1) (.int .u64 v71)∧
 ∃a72,x0=some a72∧
 HC PG dq (nn v71 32) ii (fun(e73:Int) h74=>
 (dd (2:Int) 4∧
 (dL h74 (adr a72 ((2:Int).toNat*1)) (.int .u64 e73) (fun h75=>
 I1 (IntKind.wrap .i64 (t2+1)) h75)))) h69))))))) h60))))))))))))) h45))))))))))))) h30))))))))))) h18))))))) h9)))))))) (
 K () h3)) 0 h0
noncomputable def xk:Ann:=.node .nil (.loop [(5,.c (.int .i64))] .nil)
theorem w6(x0:Option Addr)(x1:Int){K:cW []→ad→Prop}{h0:ad}(h:qv x0 x1 K h0):HC PG ir (xo x0 x1) [] K h0:=ed xk Tryz.func245 Tryz.call245 rfl rfl (by kernel_rfl) h
def pH(x0:Option Addr)(x1:Option Addr)(K:(Option Addr)→ad→Prop)(h0:ad):Prop:=
 HC PG nF (pV x0 x1) [.c .bool] (fun(e1:Bool) h2=>
 CondP e1 (
 K x0 h2) (
 ∃a3,x0=some a3∧
 ∃v4,gL h2 a3 0 v4∧
 ∃v5,gL h2 a3 1 v5∧
 ∃v6:SliceV,bG h2 a3 2 v6∧
 ∃v7:SliceV,bG h2 a3 3 v7∧
 ∃v8,ge h2 a3 4 v8∧
 ∃v9,tK h2 a3 5 v9∧
 nv h2 Mv bE (PT v4 v5 v6 v7 v8 v9) (fun h11=>
 ∃a12,x0=some a12∧
 ∃v13:SliceV,bG h11 (adr a12 0) 2 v13∧
 ∃a14,x0=some a14∧
 ∃v15:SliceV,bG h11 (adr a14 0) 3 v15∧
 HC PG cZ [.slice v13.a v13.len v13.cap] [.c .slice] (fun(e16:SliceV) h17=>
 (bG h17 (adr a14 0) 3 v15∧
 HC PG dH [.slice v15.a v15.len v15.cap] [.c .slice] (fun(e18:SliceV) h19=>
 (dL h19 (adr (adr (az h2) 0) 2) (.slice e16.a e16.len e16.cap) (fun h20=>
 (dL h20 (adr (adr (az h2) 0) 3) (.slice e18.a e18.len e18.cap) (fun h21=>
 (dL h21 (adr (az h2) 5) (.pointer none) (fun h22=>
 HC PG gl [.pointer x1] [.c .bool] (fun(e23:Bool) h24=>
 CondP e23 (
 (dL h24 (adr (az h2) 5) (.pointer x1) (fun h25=>
 K (some (az h2)) h25))) (
 K (some (az h2)) h24)) h22))))))) h17)) h11))) h0
theorem tQ(x0:Option Addr)(x1:Option Addr){K:cW [.c .ptr]→ad→Prop}{h0:ad}(h:pH x0 x1 K h0):HC PG iT (pV x0 x1) [.c .ptr] K h0:=ed .nil Tryz.func246 Tryz.call246 rfl rfl (by kernel_rfl) h
def CL(x0:SliceV)(x1:ByteArray×ByteArray)(K:(SliceV)→ad→Prop)(h0:ad):Prop:=
 At (hnew h0 (sP x1) ag) (fun h1=>
 ∃v2,av h1 h0 0 v2∧
 HC PG qU (wi x0 v2) jz (fun(e3:Int×Bool) h4=>
 (((0:Int)≤e3.1∧e3.1≤((x0.len:Nat):Int))∧
 Join (fun(t9:SliceV) h10=>
 (((0:Int)≤e3.1∧e3.1≤((x0.cap:Nat):Int))∧
 ∃v11,av h10 h0 0 v11∧
 ∃v12,av h10 h0 1 v12∧
 At (hnew h10 (jx v11 v12) ag) (fun h13=>
 At (hnew h13 [.slice (aY x0.a 0 x0.cap 2) (e3.1.toNat-0) (x0.cap-0),.slice (some (az h10)) 1 1,.slice t9.a t9.len t9.cap] cL) (fun h14=>
 HC PG fa [.slice (some (az h13)) 3 3] [.c .slice] (fun(e15:SliceV) h16=>
 K e15 h16) h14)))) (fun J5=>
 CondP e3.2 (
 (((0:Int)≤(IntKind.wrap .i64 (e3.1+1))∧(IntKind.wrap .i64 (e3.1+1))≤((x0.len:Nat):Int))∧
 Bd (aY x0.a ((IntKind.wrap .i64 (e3.1+1)).toNat) x0.cap 2:Option Addr) (fun a6=>Bd (x0.len-((IntKind.wrap .i64 (e3.1+1)).toNat):Nat) (fun n7=>Bd (x0.cap-((IntKind.wrap .i64 (e3.1+1)).toNat):Nat) (fun n8=>
 J5 ⟨a6,n7,n8⟩ h4))))) (
 J5 ⟨aY x0.a e3.1.toNat x0.cap 2,x0.len-e3.1.toNat,x0.cap-e3.1.toNat⟩ h4)))) h1)
noncomputable def JW:Ann:=.node .nil (.node .nil (.node .nil (.join [(7,.c .slice)] .nil .nil)))
theorem JJ(x0:SliceV)(x1:ByteArray×ByteArray){K:cW [.c .slice]→ad→Prop}{h0:ad}(h:CL x0 x1 K h0):HC PG wP [.slice x0.a x0.len x0.cap,Kt x1] [.c .slice] K h0:=ed JW Tryz.func247 Tryz.call247 rfl rfl (by kernel_rfl) h
def rh(x0:Option Addr)(x1:Int)(K:(Bool)→ad→Prop)(h0:ad):Prop:=
 CondP (!(x0.isNone)) (
 ∃a1,x0=some a1∧
 ∃v2,ge h0 a1 4 v2∧
 CondP (!v2) (
 CondP (decide (x1≥(0:Int))) (
 K (decide (x1<(32:Int))) h0) (
 K false h0)) (
 K false h0)) (
 K false h0)
theorem yh(x0:Option Addr)(x1:Int){K:cW [.c .bool]→ad→Prop}{h0:ad}(h:rh x0 x1 K h0):HC PG kJ (xo x0 x1) [.c .bool] K h0:=ed .nil Tryz.func250 Tryz.call250 rfl rfl (by kernel_rfl) h
def rg(x0:Option Addr)(x1:Int)(K:(Unit)→ad→Prop)(h0:ad):Prop:=
 Join (fun(t16:Unit) h17=>
 Join (fun(t33:Unit) h34=>
 ∃a35,x0=some a35∧
 ∃v36,gL h34 a35 0 v36∧
 ∃a37,x0=some a37∧
 ∃v38,gL h34 a37 1 v38∧
 HC PG i7 (mN v36 x1) iK (fun(e39:Int) h40=>
 (gL h40 a37 1 v38∧
 HC PG i7 (mN v38 x1) iK (fun(e41:Int) h42=>
 ∃a43,x0=some a43∧
 (dL h42 (adr a43 0) (.int .u32 e39) (fun h44=>
 ∃a45,x0=some a45∧
 (dL h44 (adr a45 1) (.int .u32 e41) (fun h46=>
 K () h46))))) h40)) h34) (fun J18=>
 ∃a19,x0=some a19∧
 ∃v20,gL h17 a19 1 v20∧
 HC PG fI (mN v20 x1) [.c .bool] (fun(e21:Bool) h22=>
 CondP e21 (
 ∃a23,x0=some a23∧
 ∃v24,gL h22 a23 1 v24∧
 HC PG dA (mN v24 x1) cy (fun(e25:Int) h26=>
 ∃a27,x0=some a27∧
 ∃v28:SliceV,bG h26 a27 3 v28∧
 HC PG eo (ME v28 e25 (IntKind.wrap .i64 (e25+1))) [.c .slice] (fun(e29:SliceV) h30=>
 ∃a31,x0=some a31∧
 (dL h30 (adr a31 3) (.slice e29.a e29.len e29.cap) (fun h32=>
 J18 () h32))) h26) h22) (
 J18 () h22)) h17)) (fun J1=>
 ∃a2,x0=some a2∧
 ∃v3,gL h0 a2 0 v3∧
 HC PG fI (mN v3 x1) [.c .bool] (fun(e4:Bool) h5=>
 CondP e4 (
 ∃a6,x0=some a6∧
 ∃v7,gL h5 a6 0 v7∧
 HC PG dA (mN v7 x1) cy (fun(e8:Int) h9=>
 ∃a10,x0=some a10∧
 ∃v11:SliceV,bG h9 a10 2 v11∧
 HC PG eZ (ME v11 e8 (IntKind.wrap .i64 (e8+1))) [.c .slice] (fun(e12:SliceV) h13=>
 ∃a14,x0=some a14∧
 (dL h13 (adr a14 2) (.slice e12.a e12.len e12.cap) (fun h15=>
 J1 () h15))) h9) h5) (
 J1 () h5)) h0)
noncomputable def yC:Ann:=.join [] .nil (.join [] .nil .nil)
theorem yg(x0:Option Addr)(x1:Int){K:cW []→ad→Prop}{h0:ad}(h:rg x0 x1 K h0):HC PG kI (xo x0 x1) [] K h0:=ed yC Tryz.func251 Tryz.call251 rfl rfl (by kernel_rfl) h
def gN(x0:SliceV)(x1:Int)(x2:SliceV)(K:(SliceV)→ad→Prop)(h0:ad):Prop:=
 (((0:Int)≤x1∧x1≤((x0.len:Nat):Int))∧
 CondP ((x2.len:Int)==(0:Int)) (
 K x0 h0) (
 CondP (x1==(x0.len:Int)) (
 ∃xs1,SRow h0 x2.a (x2.len*2) xs1∧
 AppP (some kU) 2 32 ag x0.a x0.len x0.cap x2.len xs1 h0 (fun s2 h3=>
 K s2 h3)) (
 CondP (decide ((IntKind.wrap .i64 ((x0.len:Int)+(x2.len:Int)))>(x0.cap:Int))) (
 Join (fun(t8:SliceV) h9=>
 (((0:Int)≤x1∧x1≤((t8.len:Nat):Int))∧
 ∃xs10,SRow h9 x2.a (dW x2.len (t8.len-x1.toNat)*2) xs10∧uc h9 (aY t8.a x1.toNat t8.cap 2) 0 xs10∧cj xs10=true∧
 At (fP h9 (aY t8.a x1.toNat t8.cap 2) 0 xs10) (fun h11=>
 (((0:Int)≤(IntKind.wrap .i64 (x1+(x2.len:Int)))∧(IntKind.wrap .i64 (x1+(x2.len:Int)))≤((t8.len:Nat):Int))∧
 Bd (aY t8.a ((IntKind.wrap .i64 (x1+(x2.len:Int))).toNat) t8.cap 2:Option Addr) (fun a12=>Bd (t8.len-((IntKind.wrap .i64 (x1+(x2.len:Int))).toNat):Nat) (fun n13=>Bd (t8.cap-((IntKind.wrap .i64 (x1+(x2.len:Int))).toNat):Nat) (fun n14=>
 (((0:Int)≤x1∧x1≤((x0.len:Nat):Int))∧
 ∃xs15,SRow h11 (aY x0.a x1.toNat x0.cap 2) (dW (x0.len-x1.toNat) n13*2) xs15∧uc h11 a12 0 xs15∧cj xs15=true∧
 At (fP h11 a12 0 xs15) (fun h16=>
 K t8 h16))))))))) (fun J4=>
 (((0:Int)≤x1∧x1≤((x0.cap:Nat):Int))∧
 Bd (IntKind.wrap .i64 ((IntKind.wrap .i64 ((x0.len:Int)+(x2.len:Int)))-x1):Int) (fun n5=>
 (((0:Int)≤n5∧n5*((32:Nat):Int)≤2^48∧n5≤9223372036854775807∧(((x1.toNat-0)+n5.toNat:Nat):Int)≤9223372036854775807)∧
 AppP (some kU) 2 32 ag (aY x0.a 0 x0.cap 2) (x1.toNat-0) (x0.cap-0) n5.toNat (dU n5.toNat kU) h0 (fun s6 h7=>
 J4 s6 h7)))))) (
 (((0:Int)≤(IntKind.wrap .i64 ((x0.len:Int)+(x2.len:Int)))∧(IntKind.wrap .i64 ((x0.len:Int)+(x2.len:Int)))≤((x0.cap:Nat):Int))∧
 Bd (aY x0.a 0 x0.cap 2:Option Addr) (fun a17=>Bd (((IntKind.wrap .i64 ((x0.len:Int)+(x2.len:Int))).toNat)-0:Nat) (fun n18=>Bd (x0.cap-0:Nat) (fun n19=>
 (((0:Int)≤(IntKind.wrap .i64 (x1+(x2.len:Int)))∧(IntKind.wrap .i64 (x1+(x2.len:Int)))≤((n18:Nat):Int))∧
 Bd (aY a17 ((IntKind.wrap .i64 (x1+(x2.len:Int))).toNat) n19 2:Option Addr) (fun a20=>Bd (n18-((IntKind.wrap .i64 (x1+(x2.len:Int))).toNat):Nat) (fun n21=>Bd (n19-((IntKind.wrap .i64 (x1+(x2.len:Int))).toNat):Nat) (fun n22=>
 HC PG g9 [.slice x2.a x2.len x2.cap,.slice a20 n21 n22] [.c .bool] (fun(e23:Bool) h24=>
 CondP (!e23) (
 (((0:Int)≤(IntKind.wrap .i64 (x1+(x2.len:Int)))∧(IntKind.wrap .i64 (x1+(x2.len:Int)))≤((n18:Nat):Int))∧
 Bd (aY a17 ((IntKind.wrap .i64 (x1+(x2.len:Int))).toNat) n19 2:Option Addr) (fun a25=>Bd (n18-((IntKind.wrap .i64 (x1+(x2.len:Int))).toNat):Nat) (fun n26=>Bd (n19-((IntKind.wrap .i64 (x1+(x2.len:Int))).toNat):Nat) (fun n27=>
 (((0:Int)≤x1∧x1≤((n18:Nat):Int))∧
 ∃xs28,SRow h24 (aY a17 x1.toNat n19 2) (dW (n18-x1.toNat) n26*2) xs28∧uc h24 a25 0 xs28∧cj xs28=true∧
 At (fP h24 a25 0 xs28) (fun h29=>
 (((0:Int)≤x1∧x1≤((n18:Nat):Int))∧
 ∃xs30,SRow h29 x2.a (dW x2.len (n18-x1.toNat)*2) xs30∧uc h29 (aY a17 x1.toNat n19 2) 0 xs30∧cj xs30=true∧
 At (fP h29 (aY a17 x1.toNat n19 2) 0 xs30) (fun h31=>
 K ⟨a17,n18,n19⟩ h31))))))))) (
 (((0:Int)≤(x0.len:Int)∧(x0.len:Int)≤((n18:Nat):Int))∧
 ∃xs32,SRow h24 x2.a (dW x2.len (n18-((x0.len:Int).toNat))*2) xs32∧uc h24 (aY a17 ((x0.len:Int).toNat) n19 2) 0 xs32∧cj xs32=true∧
 At (fP h24 (aY a17 ((x0.len:Int).toNat) n19 2) 0 xs32) (fun h33=>
 (((0:Int)≤x1∧x1≤((n18:Nat):Int))∧
 HC PG oD [.slice (aY a17 x1.toNat n19 2) (n18-x1.toNat) (n19-x1.toNat),.int .i64 (x2.len:Int)] [] (fun(e34:Unit) h35=>
 K ⟨a17,n18,n19⟩ h35) h33))))) h0))))))))))))
noncomputable def l0:Ann:=.node .nil (.node .nil (.node .nil (.node .nil (.node .nil (.node .nil (.node (.node .nil (.node (.join [(9,.c .slice)] .nil .nil) .nil)) .nil))))))
theorem lW(x0:SliceV)(x1:Int)(x2:SliceV){K:cW [.c .slice]→ad→Prop}{h0:ad}(h:gN x0 x1 x2 K h0):HC PG cS (PR x0 x1 x2) [.c .slice] K h0:=ed l0 Tryz.func252 Tryz.call252 rfl rfl (by kernel_rfl) h
def rl(x0:Int)(x1:Int)(K:(Int)→ad→Prop)(h0:ad):Prop:=
 HC PG mw [.int .i64 x1] [.c .bool] (fun(e1:Bool) h2=>
 CondP (!e1) (
 K x0 h2) (
 ((0:Int)≤x1∧
 Bd (IntKind.wrap .u32 (aj (IntKind.bits .u32) x0|||aj (IntKind.bits .u32) (IntKind.wrap .u32 (1*2^(min (x1:Int).toNat (IntKind.bits .u32))))).toNat:Int) (fun n3=>
 K n3 h2)))) h0
theorem yl(x0:Int)(x1:Int){K:cW iK→ad→Prop}{h0:ad}(h:rl x0 x1 K h0):HC PG fh (mN x0 x1) iK K h0:=ed .nil Tryz.func253 Tryz.call253 rfl rfl (by kernel_rfl) h
def f6(x0:SliceV)(x1:Int)(x2:SliceV)(K:(SliceV)→ad→Prop)(h0:ad):Prop:=
 (((0:Int)≤x1∧x1≤((x0.len:Nat):Int))∧
 CondP ((x2.len:Int)==(0:Int)) (
 K x0 h0) (
 CondP (x1==(x0.len:Int)) (
 ∃xs1,SRow h0 x2.a (x2.len*1) xs1∧
 AppP (some [.pointer none]) 1 8 bK x0.a x0.len x0.cap x2.len xs1 h0 (fun s2 h3=>
 K s2 h3)) (
 CondP (decide ((IntKind.wrap .i64 ((x0.len:Int)+(x2.len:Int)))>(x0.cap:Int))) (
 Join (fun(t8:SliceV) h9=>
 (((0:Int)≤x1∧x1≤((t8.len:Nat):Int))∧
 ∃xs10,SRow h9 x2.a (dW x2.len (t8.len-x1.toNat)*1) xs10∧uc h9 (aY t8.a x1.toNat t8.cap 1) 0 xs10∧cj xs10=true∧
 At (fP h9 (aY t8.a x1.toNat t8.cap 1) 0 xs10) (fun h11=>
 (((0:Int)≤(IntKind.wrap .i64 (x1+(x2.len:Int)))∧(IntKind.wrap .i64 (x1+(x2.len:Int)))≤((t8.len:Nat):Int))∧
 Bd (aY t8.a ((IntKind.wrap .i64 (x1+(x2.len:Int))).toNat) t8.cap 1:Option Addr) (fun a12=>Bd (t8.len-((IntKind.wrap .i64 (x1+(x2.len:Int))).toNat):Nat) (fun n13=>Bd (t8.cap-((IntKind.wrap .i64 (x1+(x2.len:Int))).toNat):Nat) (fun n14=>
 (((0:Int)≤x1∧x1≤((x0.len:Nat):Int))∧
 ∃xs15,SRow h11 (aY x0.a x1.toNat x0.cap 1) (dW (x0.len-x1.toNat) n13*1) xs15∧uc h11 a12 0 xs15∧cj xs15=true∧
 At (fP h11 a12 0 xs15) (fun h16=>
 K t8 h16))))))))) (fun J4=>
 (((0:Int)≤x1∧x1≤((x0.cap:Nat):Int))∧
 Bd (IntKind.wrap .i64 ((IntKind.wrap .i64 ((x0.len:Int)+(x2.len:Int)))-x1):Int) (fun n5=>
 (((0:Int)≤n5∧n5*((8:Nat):Int)≤2^48∧n5≤9223372036854775807∧(((x1.toNat-0)+n5.toNat:Nat):Int)≤9223372036854775807)∧
 AppP (some [.pointer none]) 1 8 bK (aY x0.a 0 x0.cap 1) (x1.toNat-0) (x0.cap-0) n5.toNat (dU n5.toNat [.pointer none]) h0 (fun s6 h7=>
 J4 s6 h7)))))) (
 (((0:Int)≤(IntKind.wrap .i64 ((x0.len:Int)+(x2.len:Int)))∧(IntKind.wrap .i64 ((x0.len:Int)+(x2.len:Int)))≤((x0.cap:Nat):Int))∧
 Bd (aY x0.a 0 x0.cap 1:Option Addr) (fun a17=>Bd (((IntKind.wrap .i64 ((x0.len:Int)+(x2.len:Int))).toNat)-0:Nat) (fun n18=>Bd (x0.cap-0:Nat) (fun n19=>
 (((0:Int)≤(IntKind.wrap .i64 (x1+(x2.len:Int)))∧(IntKind.wrap .i64 (x1+(x2.len:Int)))≤((n18:Nat):Int))∧
 Bd (aY a17 ((IntKind.wrap .i64 (x1+(x2.len:Int))).toNat) n19 1:Option Addr) (fun a20=>Bd (n18-((IntKind.wrap .i64 (x1+(x2.len:Int))).toNat):Nat) (fun n21=>Bd (n19-((IntKind.wrap .i64 (x1+(x2.len:Int))).toNat):Nat) (fun n22=>
 HC PG gF [.slice x2.a x2.len x2.cap,.slice a20 n21 n22] [.c .bool] (fun(e23:Bool) h24=>
 CondP (!e23) (
 (((0:Int)≤(IntKind.wrap .i64 (x1+(x2.len:Int)))∧(IntKind.wrap .i64 (x1+(x2.len:Int)))≤((n18:Nat):Int))∧
 Bd (aY a17 ((IntKind.wrap .i64 (x1+(x2.len:Int))).toNat) n19 1:Option Addr) (fun a25=>Bd (n18-((IntKind.wrap .i64 (x1+(x2.len:Int))).toNat):Nat) (fun n26=>Bd (n19-((IntKind.wrap .i64 (x1+(x2.len:Int))).toNat):Nat) (fun n27=>
 (((0:Int)≤x1∧x1≤((n18:Nat):Int))∧
 ∃xs28,SRow h24 (aY a17 x1.toNat n19 1) (dW (n18-x1.toNat) n26*1) xs28∧uc h24 a25 0 xs28∧cj xs28=true∧
 At (fP h24 a25 0 xs28) (fun h29=>
 (((0:Int)≤x1∧x1≤((n18:Nat):Int))∧
 ∃xs30,SRow h29 x2.a (dW x2.len (n18-x1.toNat)*1) xs30∧uc h29 (aY a17 x1.toNat n19 1) 0 xs30∧cj xs30=true∧
 At (fP h29 (aY a17 x1.toNat n19 1) 0 xs30) (fun h31=>
 K ⟨a17,n18,n19⟩ h31))))))))) (
 (((0:Int)≤(x0.len:Int)∧(x0.len:Int)≤((n18:Nat):Int))∧
 ∃xs32,SRow h24 x2.a (dW x2.len (n18-((x0.len:Int).toNat))*1) xs32∧uc h24 (aY a17 ((x0.len:Int).toNat) n19 1) 0 xs32∧cj xs32=true∧
 At (fP h24 (aY a17 ((x0.len:Int).toNat) n19 1) 0 xs32) (fun h33=>
 (((0:Int)≤x1∧x1≤((n18:Nat):Int))∧
 HC PG nB [.slice (aY a17 x1.toNat n19 1) (n18-x1.toNat) (n19-x1.toNat),.int .i64 (x2.len:Int)] [] (fun(e34:Unit) h35=>
 K ⟨a17,n18,n19⟩ h35) h33))))) h0))))))))))))
noncomputable def kg:Ann:=.node .nil (.node .nil (.node .nil (.node .nil (.node .nil (.node .nil (.node (.node .nil (.node (.join [(9,.c .slice)] .nil .nil) .nil)) .nil))))))
theorem j7(x0:SliceV)(x1:Int)(x2:SliceV){K:cW [.c .slice]→ad→Prop}{h0:ad}(h:f6 x0 x1 x2 K h0):HC PG cK (PR x0 x1 x2) [.c .slice] K h0:=ed kg Tryz.func254 Tryz.call254 rfl rfl (by kernel_rfl) h
def yu(x0:ByteArray)(x1:ByteArray)(K:(Int)→ad→Prop)(h0:ad):Prop:=
 LoopP (fun I1 (t2:Int) h3=>
 Join (fun(t7:Bool) h8=>
 CondP t7 (
 I1 (IntKind.wrap .i64 (t2+1)) h8) (
 K t2 h8)) (fun J4=>
 CondP (decide (t2<(x0.size:Int))) (
 CondP (decide (t2<(x1.size:Int))) (
 ∃b5,(0:Int)≤t2∧x0[t2.toNat]? =some b5∧
 ∃b6,(0:Int)≤t2∧x1[t2.toNat]? =some b6∧
 J4 ((b5.toNat:Int)==(b6.toNat:Int)) h3) (
 J4 false h3)) (
 J4 false h3))) 0 h0
noncomputable def FX:Ann:=.node .nil (.node .nil (.node (.loop [(5,.c (.int .i64))] (.node (.join [(24,.c .bool)] .nil .nil) .nil)) .nil))
theorem FM(x0:ByteArray)(x1:ByteArray){K:cW cy→ad→Prop}{h0:ad}(h:yu x0 x1 K h0):HC PG tf (jx x0 x1) cy K h0:=ed FX Tryz.func255 Tryz.call255 rfl rfl (by kernel_rfl) h
def Aj(x0:Int×Int×Int×Int)(K:(Int×Int×Int×Int)→ad→Prop)(h0:ad):Prop:=
 At (hnew h0 (Ng x0) sJ) (fun h1=>
 At (hnew h1 K8 sJ) (fun h2=>
 (dd 0 4∧
 ∃v3,cf h2 (az h0) ((0:Int).toNat*1) (.int .u64 v3)∧
 (dd 1 4∧
 ∃v4,cf h2 (az h0) ((1:Int).toNat*1) (.int .u64 v4)∧
 (dd (2:Int) 4∧
 ∃v5,cf h2 (az h0) ((2:Int).toNat*1) (.int .u64 v5)∧
 (dd (3:Int) 4∧
 ∃v6,cf h2 (az h0) ((3:Int).toNat*1) (.int .u64 v6)∧
 HC PG lx (nn v4 13) ii (fun(e7:Int) h8=>
 Bd (IntKind.wrap .u64 (aj (IntKind.bits .u64) e7^^^aj (IntKind.bits .u64) (IntKind.wrap .u64 (v3+v4))).toNat:Int) (fun n9=>
 HC PG lx (nn (IntKind.wrap .u64 (v3+v4)) 32) ii (fun(e10:Int) h11=>
 HC PG lx (nn v6 16) ii (fun(e12:Int) h13=>
 Bd (IntKind.wrap .u64 (aj (IntKind.bits .u64) e12^^^aj (IntKind.bits .u64) (IntKind.wrap .u64 (v5+v6))).toNat:Int) (fun n14=>
 HC PG lx (nn n14 21) ii (fun(e15:Int) h16=>
 Bd (IntKind.wrap .u64 (aj (IntKind.bits .u64) e15^^^aj (IntKind.bits .u64) (IntKind.wrap .u64 (e10+n14))).toNat:Int) (fun n17=>
 HC PG lx (nn n9 17) ii (fun(e18:Int) h19=>
 Bd (IntKind.wrap .u64 (aj (IntKind.bits .u64) e18^^^aj (IntKind.bits .u64) (IntKind.wrap .u64 ((IntKind.wrap .u64 (v5+v6))+n9))).toNat:Int) (fun n20=>
 HC PG lx (nn (IntKind.wrap .u64 ((IntKind.wrap .u64 (v5+v6))+n9)) 32) ii (fun(e21:Int) h22=>
 (cJ h22 h1 (Lb (IntKind.wrap .u64 (e10+n14)) n20 e21 n17) (fun h23=>
 ∃v24,ae h23 h1 0 v24∧
 ∃v25,ae h23 h1 1 v25∧
 ∃v26,ae h23 h1 2 v26∧
 ∃v27,ae h23 h1 3 v27∧
 K (v24,v25,v26,v27) h23))) h19)) h16)) h13)) h11) h8)) h2))))))
theorem Ht(x0:Int×Int×Int×Int){K:cW xM→ad→Prop}{h0:ad}(h:Aj x0 K h0):HC PG jN [LL x0] xM K h0:=ed .nil Tryz.func256 Tryz.call256 rfl rfl (by kernel_rfl) h
def m4(x0:Value)(y0:Addr)(K:(Unit)→ad→Prop)(h0:ad):Prop:=
 LoopP (fun I1 (t2:Unit) h3=>
 ∃v4,aN h3 y0=some (.int .u32 v4)∧
 CondP (v4 !=(0:Int)) (
 ∃v5,aN h3 y0=some (.int .u32 v5)∧
 HC PG hE [.int .u32 v5] cy (fun(e6:Int) h7=>
 HV PG x0 [.int .i64 e6] [.c .bool] (fun(e8:Bool) h9=>
 CondP (!e8) (
 K () h9) (
 ∃v10,aN h9 y0=some (.int .u32 v10)∧
 ∃v11,aN h9 y0=some (.int .u32 v11)∧
 Bd (IntKind.wrap .u32 (aj (IntKind.bits .u32) v10&&&aj (IntKind.bits .u32) (IntKind.wrap .u32 (v11-1))).toNat:Int) (fun n12=>
 (Wr h9 y0∧
 At (hset h9 y0 (.int .u32 n12)) (fun h13=>
 I1 () h13))))) h7) h3) (
 K () h3)) () h0
noncomputable def qE:Ann:=.loop [] .nil
theorem JN(x0:Value)(y0:Addr){K:cW []→ad→Prop}{h0:ad}(h:m4 x0 y0 K h0):HC PG ix [x0,.pointer (some y0)] [] K h0:=ed qE Tryz.func257 Tryz.call257 rfl rfl (by kernel_rfl) h
theorem vB(x0:Value)(y0:Addr){K:cW []→ad→Prop}{h0:ad}(h:m4 x0 y0 K h0):HE PG ix [x0,.pointer (some y0)] [] K h0:=RQ qE Tryz.func257 Tryz.call257 rfl rfl (by kernel_rfl) h
def kQ(x0:Int)(K:(Int)→ad→Prop)(h0:ad):Prop:=
 CondP (x0==(0:Int)) (
 K 32 h0) (
 Bd (IntKind.wrap .u32 (aj (IntKind.bits .u32) x0&&&aj (IntKind.bits .u32) (IntKind.wrap .u32 (0-x0))).toNat:Int) (fun n1=>
 ((0:Int)≤(27:Int)∧
 Bd (ee (IntKind.wrap .u32 (n1*125613361)) (2^(min (27:Int).toNat (IntKind.bits .u32))):Int) (fun n2=>
 (dd n2 32∧
 ∃v3,cf h0 (⟨0,0,none⟩) (n2.toNat*1) (.int .u8 v3)∧
 K (IntKind.wrap .i64 v3) h0)))))
theorem p9(x0:Int){K:cW cy→ad→Prop}{h0:ad}(h:kQ x0 K h0):HC PG hE [.int .u32 x0] cy K h0:=ed .nil Tryz.func258 Tryz.call258 rfl rfl (by kernel_rfl) h
def qA(x0:Option Addr)(x1:Option Addr)(K:(Bool)→ad→Prop)(h0:ad):Prop:=
 CondP (!(x0.isNone)) (
 HC PG gl [.pointer x1] [.c .bool] (fun(e1:Bool) h2=>
 CondP e1 (
 ∃a3,x0=some a3∧
 ∃v4,tK h2 a3 4 v4∧
 (True∧(∀x y:Addr,v4=some x→x1=some y→gA h2 x∧gA h2 y)∧
 K (v4==x1) h2)) (
 K false h2)) h0) (
 K false h0)
theorem xb(x0:Option Addr)(x1:Option Addr){K:cW [.c .bool]→ad→Prop}{h0:ad}(h:qA x0 x1 K h0):HC PG mX (pV x0 x1) [.c .bool] K h0:=ed .nil Tryz.func259 Tryz.call259 rfl rfl (by kernel_rfl) h
def qs(x0:Option Addr)(K:(Bool)→ad→Prop)(h0:ad):Prop:=
 CondP (!(x0.isNone)) (
 ∃a1,x0=some a1∧
 ∃v2,ge h0 a1 2 v2∧
 K v2 h0) (
 K false h0)
theorem wX(x0:Option Addr){K:cW [.c .bool]→ad→Prop}{h0:ad}(h:qs x0 K h0):HC PG gl [.pointer x0] [.c .bool] K h0:=ed .nil Tryz.func260 Tryz.call260 rfl rfl (by kernel_rfl) h
def qy(x0:Option Addr)(x1:ByteArray)(K:(Option Addr)→ad→Prop)(h0:ad):Prop:=
 ∃a1,x0=some a1∧
 (dL h0 (adr a1 0) (.string x1) (fun h2=>
 K x0 h2))
theorem w9(x0:Option Addr)(x1:ByteArray){K:cW [.c .ptr]→ad→Prop}{h0:ad}(h:qy x0 x1 K h0):HC PG is (xu x0 x1) [.c .ptr] K h0:=ed .nil Tryz.func263 Tryz.call263 rfl rfl (by kernel_rfl) h
def eK(x0:SliceV)(x1:ByteArray)(x2:Value)(K:(Int×Bool)→ad→Prop)(h0:ad):Prop:=
 LoopP (fun I1 (t2:Int×Int) h3=>
 CondP (decide (t2.1<t2.2)) (
 ((0:Int)≤(1:Int)∧
 Bd (ee (IntKind.wrap .u64 (IntKind.wrap .i64 (t2.1+t2.2))) (2^(min (1:Int).toNat (IntKind.bits .u64))):Int) (fun n4=>
 (dd (IntKind.wrap .i64 n4) x0.len∧∃a5,x0.a=some a5∧
 ∃v6,bC h3 (adr a5 ((IntKind.wrap .i64 n4).toNat*2)) 0 v6∧
 ∃v7,bC h3 (adr a5 ((IntKind.wrap .i64 n4).toNat*2)) 1 v7∧
 HV PG x2 [o9 v6 v7,.string x1] cy (fun(e8:Int) h9=>
 CondP (decide (e8<(0:Int))) (
 I1 (IntKind.wrap .i64 ((IntKind.wrap .i64 n4)+1),t2.2) h9) (
 I1 (t2.1,IntKind.wrap .i64 n4) h9)) h3)))) (
 CondP (decide (t2.1<(x0.len:Int))) (
 (dd t2.1 x0.len∧∃a10,x0.a=some a10∧
 ∃v11,bC h3 (adr a10 (t2.1.toNat*2)) 0 v11∧
 ∃v12,bC h3 (adr a10 (t2.1.toNat*2)) 1 v12∧
 HV PG x2 [o9 v11 v12,.string x1] cy (fun(e13:Int) h14=>
 K (t2.1,e13==(0:Int)) h14) h3)) (
 K (t2.1,false) h3))) (0,(x0.len:Int)) h0
noncomputable def im:Ann:=.node .nil (.node .nil (.node .nil (.node (.loop [(9,.c (.int .i64)),(10,.c (.int .i64))] .nil) .nil)))
theorem il(x0:SliceV)(x1:ByteArray)(x2:Value){K:cW jz→ad→Prop}{h0:ad}(h:eK x0 x1 x2 K h0):HC PG eJ [.slice x0.a x0.len x0.cap,.string x1,x2] jz K h0:=ed im Tryz.func266 Tryz.call266 rfl rfl (by kernel_rfl) h
def wg(x0:Int)(K:(Bool)→ad→Prop)(h0:ad):Prop:=
 CondP (decide (x0≥(0:Int))) (
 K (decide (x0<(32:Int))) h0) (
 K false h0)
theorem Dq(x0:Int){K:cW [.c .bool]→ad→Prop}{h0:ad}(h:wg x0 K h0):HC PG mw [.int .i64 x0] [.c .bool] K h0:=ed .nil Tryz.func267 Tryz.call267 rfl rfl (by kernel_rfl) h
def qD(x0:Int)(K:(Int)→ad→Prop)(h0:ad):Prop:=
 HC PG jD [.int .u32 x0] cy (fun(e1:Int) h2=>
 K e1 h2) h0
theorem xf(x0:Int){K:cW cy→ad→Prop}{h0:ad}(h:qD x0 K h0):HC PG mY [.int .u32 x0] cy K h0:=ed .nil Tryz.func268 Tryz.call268 rfl rfl (by kernel_rfl) h
def qt(x0:Option Addr)(x1:(Option Addr)×ByteArray×Bool)(K:(Unit)→ad→Prop)(h0:ad):Prop:=
 At (hnew h0 (QV x1) dS) (fun h1=>
 ∃v2,av h1 h0 1 v2∧
 ∃v3,au h1 h0 0 v3∧
 HC PG jW [.pointer v3] [.c .str] (fun(e4:ByteArray) h5=>
 (av h5 h0 1 v2∧
 (((v2.size+e4.size:Nat):Int)≤9223372036854775807∧
 ∃a6,x0=some a6∧
 ∃v7,bC h5 (adr a6 1) 0 v7∧
 ∃v8,bC h5 (adr a6 1) 1 v8∧
 ∃v9,ge h5 (adr a6 1) 2 v9∧
 HC PG oC [Px v7 v8 v9,.string (v2++e4)] [.c .bool] (fun(e10:Bool) h11=>
 CondP e10 (
 K () h11) (
 ∃v12,au h11 h0 0 v12∧
 ∃v13,av h11 h0 1 v13∧
 At (hnew h11 (CW v12 v13 true) dS) (fun h14=>
 ∃v15,au h14 h0 0 v15∧
 HC PG kH [.pointer v15] [.c .slice] (fun(e16:SliceV) h17=>
 LoopP (fun I18 (t19:SliceV×Int) h20=>
 CondP (decide (t19.2<(e16.len:Int))) (
 Join (fun(t28:SliceV) h29=>
 I18 (t28,IntKind.wrap .i64 (t19.2+1)) h29) (fun J21=>
 (dd t19.2 e16.len∧∃a22,e16.a=some a22∧
 ∃v23,cf h20 a22 (t19.2.toNat*1) (.pointer v23)∧
 At (hnew h20 (CW v23 (v2++e4) false) dS) (fun h24=>
 ∃xs25,SRow h24 (some (az h20)) (1*3) xs25∧
 AppP (some HL) 3 32 dS t19.1.a t19.1.len t19.1.cap 1 xs25 h24 (fun s26 h27=>
 J21 s26 h27))))) (
 Join (fun(t35:Unit) h36=>
 ∃a37,x0=some a37∧
 ∃v38:SliceV,bG h36 a37 0 v38∧
 ∃xs39,SRow h36 t19.1.a (t19.1.len*3) xs39∧
 AppP (some HL) 3 32 dS v38.a v38.len v38.cap t19.1.len xs39 h36 (fun s40 h41=>
 ∃a42,x0=some a42∧
 (dL h41 (adr a42 0) (.slice s40.a s40.len s40.cap) (fun h43=>
 K () h43)))) (fun J30=>
 ∃a31,x0=some a31∧
 ∃v32,ge h20 a31 4 v32∧
 CondP (!v32) (
 HC PG eR [.slice t19.1.a t19.1.len t19.1.cap] [] (fun(e33:Unit) h34=>
 J30 () h34) h20) (
 J30 () h20)))) (⟨some (az h11),1,1⟩,0) h17) h14))) h5))) h1)
noncomputable def xi:Ann:=.node .nil (.node .nil (.node .nil (.node .nil (.node (.node .nil (.loop [(5,.c .slice),(30,.c (.int .i64))] (.node .nil (.node .nil (.join [(5,.c .slice)] .nil .nil))))) (.join [] .nil .nil)))))
theorem wY(x0:Option Addr)(x1:(Option Addr)×ByteArray×Bool){K:cW []→ad→Prop}{h0:ad}(h:qt x0 x1 K h0):HC PG mU [.pointer x0,RB x1] [] K h0:=ed xi Tryz.func274 Tryz.call274 rfl rfl (by kernel_rfl) h
end Go.Proofs
