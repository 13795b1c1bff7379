/- A part of the proof that the named laws of this program answer true, whatever the input. -/
import Derived.Test.YtncppacbfagpgaaGreatDoorTreeF
set_option maxRecDepth 100000
set_option linter.unusedVariables false
open Array renaming size→ci,setIfInBounds→bZ
open BitVec renaming ofInt→ao
open Int renaming fdiv→dY
open Nat renaming min→eB
namespace Go.Proofs
open Go.Lift
def zI(x0:Option Addr)(x1:ByteArray)(x2:ByteArray)(K:(Option Addr)→ae→Prop)(h0:ae):Prop:=
 At (hnew h0 LN cj) (fun h1=>
 HC PG gr (sr (some (aE h0)) x0) [.c .ptr] (fun(e2:Option Addr) h3=>
 HC PG jV (A0 e2 x1) [.c .ptr] (fun(e4:Option Addr) h5=>
 HC PG kU (A0 e4 x2) [.c .ptr] (fun(e6:Option Addr) h7=>
 K e6 h7) h5) h3) h1)
theorem Ip(x0:Option Addr)(x1:ByteArray)(x2:ByteArray){K:cQ [.c .ptr]→ae→Prop}{h0:ae}(h:zI x0 x1 x2 K h0):HC PG vd (Xn x0 x1 x2) [.c .ptr] K h0:=dL .nil Tryz.func210 Tryz.call210 rfl rfl (by kernel_rfl) h
def zD(x0:ByteArray)(x1:ByteArray)(K:(Int)→ae→Prop)(h0:ae):Prop:=
 Bd (if(x1.size:Int)<(x0.size:Int)then(x1.size:Int)else(x0.size:Int):Int) (fun n1=>
 LoopP (fun I2 (t3:Int) h4=>
 CondP (decide (t3<n1)) (
 ∃b5,(0:Int)≤t3∧x0[t3.toNat]? =some b5∧
 ∃b6,(0:Int)≤t3∧x1[t3.toNat]? =some b6∧
 CondP ((b5.toNat:Int) !=(b6.toNat:Int)) (
 K t3 h4) (
 I2 (IntKind.wrap .i64 (t3+1)) h4)) (
 K n1 h4)) 0 h0)
noncomputable def IB:Ann:=.node .nil (.node .nil (.node (.node .nil (.loop [(13,.c (.int .i64))] .nil)) .nil))
theorem Ii(x0:ByteArray)(x1:ByteArray){K:cQ cr→ae→Prop}{h0:ae}(h:zD x0 x1 K h0):HC PG uZ (ij x0 x1) cr K h0:=dL IB Tryz.func211 Tryz.call211 rfl rfl (by kernel_rfl) h
def tM(x0:Option Addr)(x1:Option Addr)(x2:Int)(K:(Option Addr)→ae→Prop)(h0:ae):Prop:=
 ∃a1,x0=some a1∧
 ∃v2,aO h0 a1 0 v2∧
 (((0:Int)≤x2∧x2≤((v2.size:Nat):Int))∧
 At (hnew h0 LN cj) (fun h3=>
 (aO h3 a1 0 v2∧
 HC PG gr (sr (some (aE h0)) x1) [.c .ptr] (fun(e4:Option Addr) h5=>
 (aO h5 a1 0 v2∧
 HC PG jV (A0 e4 (v2.extract 0 x2.toNat)) [.c .ptr] (fun(e6:Option Addr) h7=>
 HC PG gr (sr x0 x1) [.c .ptr] (fun(e8:Option Addr) h9=>
 ∃a10,e8=some a10∧
 ∃v11,aO h9 a10 0 v11∧
 (((0:Int)≤x2∧x2≤((v11.size:Nat):Int))∧
 HC PG jV (A0 e8 (v11.extract x2.toNat v11.size)) [.c .ptr] (fun(e12:Option Addr) h13=>
 At (hnew h13 [.pointer e12] cf) (fun h14=>
 ∃a15,e6=some a15∧
 (dS h14 (adr a15 3) (.slice (some (aE h13)) 1 1) (fun h16=>
 K e6 h16)))) h9)) h7) h5)) h3)))
noncomputable def AY:Ann:=.node .nil (.node (.draw (Zv [0,2,4,5,6,7,8,9] (.all (.lastT 1 (.all (.lastT 3 (.all (.lastT 10 (.take 11 (.done)))))))))) .nil)
theorem AN(x0:Option Addr)(x1:Option Addr)(x2:Int){K:cQ [.c .ptr]→ae→Prop}{h0:ae}(h:tM x0 x1 x2 K h0):HC PG oY (Tp x0 x1 x2) [.c .ptr] K h0:=dL AY Tryz.func212 Tryz.call212 rfl rfl (by kernel_rfl) h
def p5(x0:Int×Int×Int×(Option Addr)×ByteArray×Int)(x1:ByteArray×ByteArray)(x2:ByteArray×ByteArray)(x3:Int)(K:(Option Addr)→ae→Prop)(h0:ae):Prop:=
 At (hnew h0 (R9 x0) df) (fun h1=>
 At (hnew h1 (wq x1) al) (fun h2=>
 At (hnew h2 (wq x2) al) (fun h3=>
 CondP (x3==(13:Int)) (
 ∃v4,aH h3 h0 3 v4∧
 ∃v5,aw h3 h1 0 v5∧
 ∃v6,aw h3 h1 1 v6∧
 ∃v7,aH h3 h0 3 v7∧
 ∃v8,aw h3 h2 0 v8∧
 ∃v9,aw h3 h2 1 v9∧
 HC PG qW [] [.c .ptr] (fun(e10:Option Addr) h11=>
 ((aw h11 h2 0 v8∧aw h11 h2 1 v9)∧
 (aH h11 h0 3 v7∧
 ((aw h11 h1 0 v5∧aw h11 h1 1 v6)∧
 (aH h11 h0 3 v4∧
 HC PG jf [.pointer e10,.pointer v4,qn v5 v6] [.c .ptr] (fun(e12:Option Addr) h13=>
 ((aw h13 h2 0 v8∧aw h13 h2 1 v9)∧
 (aH h13 h0 3 v7∧
 HC PG jf [.pointer e12,.pointer v7,qn v8 v9] [.c .ptr] (fun(e14:Option Addr) h15=>
 K e14 h15) h13))) h11))))) h3) (
 ∃v16,cM h3 (adr (aE h0) 0) 0 v16∧
 ∃v17,cM h3 (adr (aE h0) 0) 1 v17∧
 ∃v18,cM h3 (adr (aE h0) 0) 2 v18∧
 ∃v19,aw h3 h1 0 v19∧
 ∃v20,af h3 h0 5 v20∧
 HC PG eN [vr v16 v17 v18,.string v19] eW (fun(e21:Int) h22=>
 (af h22 h0 5 v20∧
 HC PG lO (nf e21 x3) cr (fun(e23:Int) h24=>
 (af h24 h0 5 v20∧
 HC PG lO (nf v20 x3) cr (fun(e25:Int) h26=>
 CondP (e23==e25) (
 ∃v27,aH h26 h0 3 v27∧
 ∃v28,af h26 h0 0 v28∧
 ∃v29,af h26 h0 1 v29∧
 ∃v30,af h26 h0 2 v30∧
 ∃v31,aH h26 h0 3 v31∧
 ∃v32,aw h26 h0 4 v32∧
 ∃v33,af h26 h0 5 v33∧
 ∃v34,aw h26 h1 0 v34∧
 ∃v35,aw h26 h1 1 v35∧
 ∃v36,aw h26 h2 0 v36∧
 ∃v37,aw h26 h2 1 v37∧
 HC PG nz [] [.c .ptr] (fun(e38:Option Addr) h39=>
 ((aw h39 h2 0 v36∧aw h39 h2 1 v37)∧
 ((aw h39 h1 0 v34∧aw h39 h1 1 v35)∧
 ((af h39 h0 0 v28∧af h39 h0 1 v29∧af h39 h0 2 v30∧aH h39 h0 3 v31∧aw h39 h0 4 v32∧af h39 h0 5 v33)∧
 (aH h39 h0 3 v27∧
 HC PG mD [HK v28 v29 v30 v31 v32 v33,qn v34 v35,qn v36 v37,.int .i64 (IntKind.wrap .i64 (x3+1))] [.c .ptr] (fun(e40:Option Addr) h41=>
 (aH h41 h0 3 v27∧
 HC PG gm (EN e38 v27 e23 e40) [.c .ptr] (fun(e42:Option Addr) h43=>
 K e42 h43) h41)) h39))))) h26) (
 ∃v44,aH h26 h0 3 v44∧
 ∃v45,aw h26 h1 0 v45∧
 ∃v46,aw h26 h1 1 v46∧
 ∃v47,aH h26 h0 3 v47∧
 ∃v48,aw h26 h2 0 v48∧
 ∃v49,aw h26 h2 1 v49∧
 HC PG nz [] [.c .ptr] (fun(e50:Option Addr) h51=>
 ((aw h51 h2 0 v48∧aw h51 h2 1 v49)∧
 (aH h51 h0 3 v47∧
 ((aw h51 h1 0 v45∧aw h51 h1 1 v46)∧
 (aH h51 h0 3 v44∧
 HC PG ff [.pointer e50,.pointer v44,.int .i64 e23,qn v45 v46] [.c .ptr] (fun(e52:Option Addr) h53=>
 ((aw h53 h2 0 v48∧aw h53 h2 1 v49)∧
 (aH h53 h0 3 v47∧
 HC PG ff [.pointer e52,.pointer v47,.int .i64 e25,qn v48 v49] [.c .ptr] (fun(e54:Option Addr) h55=>
 K e54 h55) h53))) h51))))) h26)) h24)) h22)) h3))))
theorem uA(x0:Int×Int×Int×(Option Addr)×ByteArray×Int)(x1:ByteArray×ByteArray)(x2:ByteArray×ByteArray)(x3:Int){K:cQ [.c .ptr]→ae→Prop}{h0:ae}(h:p5 x0 x1 x2 x3 K h0):HC PG mD [YH x0,QJ x1,QJ x2,.int .i64 x3] [.c .ptr] K h0:=dL .nil Tryz.func213 Tryz.call213 rfl rfl (by kernel_rfl) h
def eI(x0:SliceV)(x1:Int)(x2:Value)(K:(Int×Bool)→ae→Prop)(h0:ae):Prop:=
 LoopP (fun I1 (t2:Int×Int) h3=>
 CondP (decide (t2.1<t2.2)) (
 ((0:Int)≤(1:Int)∧
 Bd (dY (IntKind.wrap .u64 (IntKind.wrap .i64 (t2.1+t2.2))) (2^(min (1:Int).toNat (IntKind.bits .u64))):Int) (fun n4=>
 (cB (IntKind.wrap .i64 n4) x0.len∧∃a5,x0.a=some a5∧
 ∃v6,bM h3 a5 ((IntKind.wrap .i64 n4).toNat*1) (.pointer v6)∧
 HV PG x2 (Kk v6 x1) cr (fun(e7:Int) h8=>
 CondP (decide (e7<(0:Int))) (
 I1 (IntKind.wrap .i64 ((IntKind.wrap .i64 n4)+1),t2.2) h8) (
 I1 (t2.1,IntKind.wrap .i64 n4) h8)) h3)))) (
 CondP (decide (t2.1<(x0.len:Int))) (
 (cB t2.1 x0.len∧∃a9,x0.a=some a9∧
 ∃v10,bM h3 a9 (t2.1.toNat*1) (.pointer v10)∧
 HV PG x2 (Kk v10 x1) cr (fun(e11:Int) h12=>
 K (t2.1,e11==(0:Int)) h12) h3)) (
 K (t2.1,false) h3))) (0,(x0.len:Int)) h0
noncomputable def is:Ann:=.node .nil (.node .nil (.node .nil (.node (.loop [(9,.c (.int .i64)),(10,.c (.int .i64))] .nil) .nil)))
theorem ir(x0:SliceV)(x1:Int)(x2:Value){K:cQ nm→ae→Prop}{h0:ae}(h:eI x0 x1 x2 K h0):HC PG eF [.slice x0.a x0.len x0.cap,.int .u8 x1,x2] nm K h0:=dL is Tryz.func219 Tryz.call219 rfl rfl (by kernel_rfl) h
def si(x0:Option Addr)(x1:Int)(K:(Int)→ae→Prop)(h0:ae):Prop:=
 ∃a1,x0=some a1∧
 ∃v2,aO h0 a1 0 v2∧
 ∃b3,(0:Int)≤(0:Int)∧v2[(0:Int).toNat]? =some b3∧
 Bd (IntKind.wrap .i64 ((IntKind.wrap .i64 (b3.toNat:Int))-(IntKind.wrap .i64 x1)):Int) (fun n4=>
 K n4 h0)
theorem y8(x0:Option Addr)(x1:Int){K:cQ cr→ae→Prop}{h0:ae}(h:si x0 x1 K h0):HC PG nY (Kk x0 x1) cr K h0:=dL .nil Tryz.func220 Tryz.call220 rfl rfl (by kernel_rfl) h
def zE(x0:ByteArray)(x1:ByteArray)(K:(Bool)→ae→Prop)(h0:ae):Prop:=
 HC PG vH (ij x0 x1) [.c .bool] (fun(e1:Bool) h2=>
 K e1 h2) h0
theorem Ij(x0:ByteArray)(x1:ByteArray){K:cQ [.c .bool]→ae→Prop}{h0:ae}(h:zE x0 x1 K h0):HC PG u0 (ij x0 x1) [.c .bool] K h0:=dL .nil Tryz.func221 Tryz.call221 rfl rfl (by kernel_rfl) h
def ED(x0:SliceV)(x1:ByteArray)(K:(Int×Bool)→ae→Prop)(h0:ae):Prop:=
 HC PG fq [.slice x0.a x0.len x0.cap,.string x1,.func (.func pP) #[] #[]] nm (fun(e1:Int×Bool) h2=>
 K (e1.1,e1.2) h2) h0
theorem Nt(x0:SliceV)(x1:ByteArray){K:cQ nm→ae→Prop}{h0:ae}(h:ED x0 x1 K h0):HC PG un (HJ x0 x1) nm K h0:=dL .nil Tryz.func222 Tryz.call222 rfl rfl (by kernel_rfl) h
def wm(x0:Int)(x1:Int)(K:(Bool)→ae→Prop)(h0:ae):Prop:=
 HC PG oy [.int .i64 x1] [.c .bool] (fun(e1:Bool) h2=>
 CondP e1 (
 ((0:Int)≤x1∧
 Bd (IntKind.wrap .u32 (ao (IntKind.bits .u32) (dY x0 (2^(min (x1:Int).toNat (IntKind.bits .u32))))&&&ao (IntKind.bits .u32) 1).toNat:Int) (fun n3=>
 K (n3==(1:Int)) h2))) (
 K false h2)) h0
theorem DP(x0:Int)(x1:Int){K:cQ [.c .bool]→ae→Prop}{h0:ae}(h:wm x0 x1 K h0):HC PG gt (oS x0 x1) [.c .bool] K h0:=dL .nil Tryz.func223 Tryz.call223 rfl rfl (by kernel_rfl) h
def uR(x0:Int)(x1:Int)(K:(Int)→ae→Prop)(h0:ae):Prop:=
 CondP (decide (x1≤(0:Int))) (
 K 0 h0) (
 CondP (decide (x1≥(32:Int))) (
 HC PG o8 [.int .u32 x0] cr (fun(e1:Int) h2=>
 K e1 h2) h0) (
 ((0:Int)≤x1∧
 Bd (IntKind.wrap .u32 ((IntKind.wrap .u32 (1*2^(min (x1:Int).toNat (IntKind.bits .u32))))-1):Int) (fun n3=>
 Bd (IntKind.wrap .u32 (ao (IntKind.bits .u32) x0&&&ao (IntKind.bits .u32) n3).toNat:Int) (fun n4=>
 HC PG o8 [.int .u32 n4] cr (fun(e5:Int) h6=>
 K e5 h6) h0)))))
theorem Cr(x0:Int)(x1:Int){K:cQ cr→ae→Prop}{h0:ae}(h:uR x0 x1 K h0):HC PG dQ (oS x0 x1) cr K h0:=dL .nil Tryz.func224 Tryz.call224 rfl rfl (by kernel_rfl) h
def g5(x0:SliceV)(x1:Int)(x2:Int)(x3:Value)(K:(Unit)→ae→Prop)(h0:ae):Prop:=
 LoopP (fun I1 (t2:Int) h3=>
 CondP (decide (t2<x2)) (
 LoopP (fun I4 (t5:Int) h6=>
 Join (fun(t22:Bool) h23=>
 CondP t22 (
 (cB (IntKind.wrap .i64 (t5-1)) x0.len∧∃a24,x0.a=some a24∧
 ∃v25,bM h23 (adr a24 ((IntKind.wrap .i64 (t5-1)).toNat*5)) 0 (.string v25)∧
 ∃v26,bM h23 (adr a24 ((IntKind.wrap .i64 (t5-1)).toNat*5)) 1 (.string v26)∧
 ∃v27,bM h23 (adr a24 ((IntKind.wrap .i64 (t5-1)).toNat*5)) 2 (.string v27)∧
 ∃v28,bM h23 (adr a24 ((IntKind.wrap .i64 (t5-1)).toNat*5)) 3 (.bool v28)∧
 ∃v29,bM h23 (adr a24 ((IntKind.wrap .i64 (t5-1)).toNat*5)) 4 (.bool v29)∧
 (cB t5 x0.len∧∃a30,x0.a=some a30∧
 ∃v31,aO h23 (adr a30 (t5.toNat*5)) 0 v31∧
 ∃v32,aO h23 (adr a30 (t5.toNat*5)) 1 v32∧
 ∃v33,aO h23 (adr a30 (t5.toNat*5)) 2 v33∧
 ∃v34,cP h23 (adr a30 (t5.toNat*5)) 3 v34∧
 ∃v35,cP h23 (adr a30 (t5.toNat*5)) 4 v35∧
 (cB t5 x0.len∧∃a36,x0.a=some a36∧
 (ml h23 (adr a36 (t5.toNat*5)) (vq v25 v26 v27 v28 v29) (fun h37=>
 (cB (IntKind.wrap .i64 (t5-1)) x0.len∧∃a38,x0.a=some a38∧
 (ml h37 (adr a38 ((IntKind.wrap .i64 (t5-1)).toNat*5)) (vq v31 v32 v33 v34 v35) (fun h39=>
 I4 (IntKind.wrap .i64 (t5-1)) h39))))))))) (
 I1 (IntKind.wrap .i64 (t2+1)) h23)) (fun J7=>
 CondP (decide (t5>x1)) (
 (cB t5 x0.len∧∃a8,x0.a=some a8∧
 ∃v9,aO h6 (adr a8 (t5.toNat*5)) 0 v9∧
 ∃v10,aO h6 (adr a8 (t5.toNat*5)) 1 v10∧
 ∃v11,aO h6 (adr a8 (t5.toNat*5)) 2 v11∧
 ∃v12,cP h6 (adr a8 (t5.toNat*5)) 3 v12∧
 ∃v13,cP h6 (adr a8 (t5.toNat*5)) 4 v13∧
 (cB (IntKind.wrap .i64 (t5-1)) x0.len∧∃a14,x0.a=some a14∧
 ∃v15,bM h6 (adr a14 ((IntKind.wrap .i64 (t5-1)).toNat*5)) 0 (.string v15)∧
 ∃v16,bM h6 (adr a14 ((IntKind.wrap .i64 (t5-1)).toNat*5)) 1 (.string v16)∧
 ∃v17,bM h6 (adr a14 ((IntKind.wrap .i64 (t5-1)).toNat*5)) 2 (.string v17)∧
 ∃v18,bM h6 (adr a14 ((IntKind.wrap .i64 (t5-1)).toNat*5)) 3 (.bool v18)∧
 ∃v19,bM h6 (adr a14 ((IntKind.wrap .i64 (t5-1)).toNat*5)) 4 (.bool v19)∧
 HV PG x3 [xw v9 v10 v11 v12 v13,xw v15 v16 v17 v18 v19] cr (fun(e20:Int) h21=>
 J7 (decide (e20<(0:Int))) h21) h6))) (
 J7 false h6))) t2 h3) (
 K () h3)) (IntKind.wrap .i64 (x1+1)) h0
noncomputable def l9:Ann:=.node .nil (.loop [(8,.c (.int .i64))] (.node .nil (.node (.node .nil (.loop [(9,.c (.int .i64))] (.node (.join [(34,.c .bool)] .nil .nil) .nil))) .nil)))
theorem l6(x0:SliceV)(x1:Int)(x2:Int)(x3:Value){K:cQ []→ae→Prop}{h0:ae}(h:g5 x0 x1 x2 x3 K h0):HC PG eX [.slice x0.a x0.len x0.cap,.int .i64 x1,.int .i64 x2,x3] [] K h0:=dL l9 Tryz.func225 Tryz.call225 rfl rfl (by kernel_rfl) h
def fP(x0:SliceV)(x1:Int)(x2:Int)(x3:Value)(K:(Bool)→ae→Prop)(h0:ae):Prop:=
 LoopP (fun I1 (t2:Int×Int) h3=>
 CondP (decide (t2.2<(5:Int))) (
 Join (fun(t110:Int) h111=>
 I1 (t110,IntKind.wrap .i64 (t2.2+1)) h111) (fun J4=>
 LoopP (fun I5 (t6:Int) h7=>
 Join (fun(t23:Bool) h24=>
 CondP t23 (
 I5 (IntKind.wrap .i64 (t6+1)) h24) (
 CondP (t6==x2) (
 K true h24) (
 CondP (decide ((IntKind.wrap .i64 (x2-x1))<(50:Int))) (
 K false h24) (
 (cB (IntKind.wrap .i64 (t6-1)) x0.len∧∃a25,x0.a=some a25∧
 ∃v26,bM h24 (adr a25 ((IntKind.wrap .i64 (t6-1)).toNat*5)) 0 (.string v26)∧
 ∃v27,bM h24 (adr a25 ((IntKind.wrap .i64 (t6-1)).toNat*5)) 1 (.string v27)∧
 ∃v28,bM h24 (adr a25 ((IntKind.wrap .i64 (t6-1)).toNat*5)) 2 (.string v28)∧
 ∃v29,bM h24 (adr a25 ((IntKind.wrap .i64 (t6-1)).toNat*5)) 3 (.bool v29)∧
 ∃v30,bM h24 (adr a25 ((IntKind.wrap .i64 (t6-1)).toNat*5)) 4 (.bool v30)∧
 (cB t6 x0.len∧∃a31,x0.a=some a31∧
 ∃v32,aO h24 (adr a31 (t6.toNat*5)) 0 v32∧
 ∃v33,aO h24 (adr a31 (t6.toNat*5)) 1 v33∧
 ∃v34,aO h24 (adr a31 (t6.toNat*5)) 2 v34∧
 ∃v35,cP h24 (adr a31 (t6.toNat*5)) 3 v35∧
 ∃v36,cP h24 (adr a31 (t6.toNat*5)) 4 v36∧
 (cB t6 x0.len∧∃a37,x0.a=some a37∧
 (ml h24 (adr a37 (t6.toNat*5)) (vq v26 v27 v28 v29 v30) (fun h38=>
 (cB (IntKind.wrap .i64 (t6-1)) x0.len∧∃a39,x0.a=some a39∧
 (ml h38 (adr a39 ((IntKind.wrap .i64 (t6-1)).toNat*5)) (vq v32 v33 v34 v35 v36) (fun h40=>
 Join (fun(t75:Unit) h76=>
 CondP (decide ((IntKind.wrap .i64 (x2-t6))≥(2:Int))) (
 LoopP (fun I77 (t78:Int) h79=>
 CondP (decide (t78<x2)) (
 (cB t78 x0.len∧∃a80,x0.a=some a80∧
 ∃v81,aO h79 (adr a80 (t78.toNat*5)) 0 v81∧
 ∃v82,aO h79 (adr a80 (t78.toNat*5)) 1 v82∧
 ∃v83,aO h79 (adr a80 (t78.toNat*5)) 2 v83∧
 ∃v84,cP h79 (adr a80 (t78.toNat*5)) 3 v84∧
 ∃v85,cP h79 (adr a80 (t78.toNat*5)) 4 v85∧
 (cB (IntKind.wrap .i64 (t78-1)) x0.len∧∃a86,x0.a=some a86∧
 ∃v87,bM h79 (adr a86 ((IntKind.wrap .i64 (t78-1)).toNat*5)) 0 (.string v87)∧
 ∃v88,bM h79 (adr a86 ((IntKind.wrap .i64 (t78-1)).toNat*5)) 1 (.string v88)∧
 ∃v89,bM h79 (adr a86 ((IntKind.wrap .i64 (t78-1)).toNat*5)) 2 (.string v89)∧
 ∃v90,bM h79 (adr a86 ((IntKind.wrap .i64 (t78-1)).toNat*5)) 3 (.bool v90)∧
 ∃v91,bM h79 (adr a86 ((IntKind.wrap .i64 (t78-1)).toNat*5)) 4 (.bool v91)∧
 HV PG x3 [xw v81 v82 v83 v84 v85,xw v87 v88 v89 v90 v91] cr (fun(e92:Int) h93=>
 CondP (!(decide (e92<(0:Int)))) (
 J4 t6 h93) (
 (cB (IntKind.wrap .i64 (t78-1)) x0.len∧∃a94,x0.a=some a94∧
 ∃v95,bM h93 (adr a94 ((IntKind.wrap .i64 (t78-1)).toNat*5)) 0 (.string v95)∧
 ∃v96,bM h93 (adr a94 ((IntKind.wrap .i64 (t78-1)).toNat*5)) 1 (.string v96)∧
 ∃v97,bM h93 (adr a94 ((IntKind.wrap .i64 (t78-1)).toNat*5)) 2 (.string v97)∧
 ∃v98,bM h93 (adr a94 ((IntKind.wrap .i64 (t78-1)).toNat*5)) 3 (.bool v98)∧
 ∃v99,bM h93 (adr a94 ((IntKind.wrap .i64 (t78-1)).toNat*5)) 4 (.bool v99)∧
 (cB t78 x0.len∧∃a100,x0.a=some a100∧
 ∃v101,aO h93 (adr a100 (t78.toNat*5)) 0 v101∧
 ∃v102,aO h93 (adr a100 (t78.toNat*5)) 1 v102∧
 ∃v103,aO h93 (adr a100 (t78.toNat*5)) 2 v103∧
 ∃v104,cP h93 (adr a100 (t78.toNat*5)) 3 v104∧
 ∃v105,cP h93 (adr a100 (t78.toNat*5)) 4 v105∧
 (cB t78 x0.len∧∃a106,x0.a=some a106∧
 (ml h93 (adr a106 (t78.toNat*5)) (vq v95 v96 v97 v98 v99) (fun h107=>
 (cB (IntKind.wrap .i64 (t78-1)) x0.len∧∃a108,x0.a=some a108∧
 (ml h107 (adr a108 ((IntKind.wrap .i64 (t78-1)).toNat*5)) (vq v101 v102 v103 v104 v105) (fun h109=>
 I77 (IntKind.wrap .i64 (t78+1)) h109)))))))))) h79))) (
 J4 t6 h79)) (IntKind.wrap .i64 (t6+1)) h76) (
 J4 t6 h76)) (fun J41=>
 CondP (decide ((IntKind.wrap .i64 (t6-x1))≥(2:Int))) (
 LoopP (fun I42 (t43:Int) h44=>
 CondP (decide (t43≥(1:Int))) (
 (cB t43 x0.len∧∃a45,x0.a=some a45∧
 ∃v46,aO h44 (adr a45 (t43.toNat*5)) 0 v46∧
 ∃v47,aO h44 (adr a45 (t43.toNat*5)) 1 v47∧
 ∃v48,aO h44 (adr a45 (t43.toNat*5)) 2 v48∧
 ∃v49,cP h44 (adr a45 (t43.toNat*5)) 3 v49∧
 ∃v50,cP h44 (adr a45 (t43.toNat*5)) 4 v50∧
 (cB (IntKind.wrap .i64 (t43-1)) x0.len∧∃a51,x0.a=some a51∧
 ∃v52,bM h44 (adr a51 ((IntKind.wrap .i64 (t43-1)).toNat*5)) 0 (.string v52)∧
 ∃v53,bM h44 (adr a51 ((IntKind.wrap .i64 (t43-1)).toNat*5)) 1 (.string v53)∧
 ∃v54,bM h44 (adr a51 ((IntKind.wrap .i64 (t43-1)).toNat*5)) 2 (.string v54)∧
 ∃v55,bM h44 (adr a51 ((IntKind.wrap .i64 (t43-1)).toNat*5)) 3 (.bool v55)∧
 ∃v56,bM h44 (adr a51 ((IntKind.wrap .i64 (t43-1)).toNat*5)) 4 (.bool v56)∧
 HV PG x3 [xw v46 v47 v48 v49 v50,xw v52 v53 v54 v55 v56] cr (fun(e57:Int) h58=>
 CondP (!(decide (e57<(0:Int)))) (
 J41 () h58) (
 (cB (IntKind.wrap .i64 (t43-1)) x0.len∧∃a59,x0.a=some a59∧
 ∃v60,bM h58 (adr a59 ((IntKind.wrap .i64 (t43-1)).toNat*5)) 0 (.string v60)∧
 ∃v61,bM h58 (adr a59 ((IntKind.wrap .i64 (t43-1)).toNat*5)) 1 (.string v61)∧
 ∃v62,bM h58 (adr a59 ((IntKind.wrap .i64 (t43-1)).toNat*5)) 2 (.string v62)∧
 ∃v63,bM h58 (adr a59 ((IntKind.wrap .i64 (t43-1)).toNat*5)) 3 (.bool v63)∧
 ∃v64,bM h58 (adr a59 ((IntKind.wrap .i64 (t43-1)).toNat*5)) 4 (.bool v64)∧
 (cB t43 x0.len∧∃a65,x0.a=some a65∧
 ∃v66,aO h58 (adr a65 (t43.toNat*5)) 0 v66∧
 ∃v67,aO h58 (adr a65 (t43.toNat*5)) 1 v67∧
 ∃v68,aO h58 (adr a65 (t43.toNat*5)) 2 v68∧
 ∃v69,cP h58 (adr a65 (t43.toNat*5)) 3 v69∧
 ∃v70,cP h58 (adr a65 (t43.toNat*5)) 4 v70∧
 (cB t43 x0.len∧∃a71,x0.a=some a71∧
 (ml h58 (adr a71 (t43.toNat*5)) (vq v60 v61 v62 v63 v64) (fun h72=>
 (cB (IntKind.wrap .i64 (t43-1)) x0.len∧∃a73,x0.a=some a73∧
 (ml h72 (adr a73 ((IntKind.wrap .i64 (t43-1)).toNat*5)) (vq v66 v67 v68 v69 v70) (fun h74=>
 I42 (IntKind.wrap .i64 (t43-1)) h74)))))))))) h44))) (
 J41 () h44)) (IntKind.wrap .i64 (t6-1)) h40) (
 J41 () h40)))))))))))))) (fun J8=>
 CondP (decide (t6<x2)) (
 (cB t6 x0.len∧∃a9,x0.a=some a9∧
 ∃v10,aO h7 (adr a9 (t6.toNat*5)) 0 v10∧
 ∃v11,aO h7 (adr a9 (t6.toNat*5)) 1 v11∧
 ∃v12,aO h7 (adr a9 (t6.toNat*5)) 2 v12∧
 ∃v13,cP h7 (adr a9 (t6.toNat*5)) 3 v13∧
 ∃v14,cP h7 (adr a9 (t6.toNat*5)) 4 v14∧
 (cB (IntKind.wrap .i64 (t6-1)) x0.len∧∃a15,x0.a=some a15∧
 ∃v16,bM h7 (adr a15 ((IntKind.wrap .i64 (t6-1)).toNat*5)) 0 (.string v16)∧
 ∃v17,bM h7 (adr a15 ((IntKind.wrap .i64 (t6-1)).toNat*5)) 1 (.string v17)∧
 ∃v18,bM h7 (adr a15 ((IntKind.wrap .i64 (t6-1)).toNat*5)) 2 (.string v18)∧
 ∃v19,bM h7 (adr a15 ((IntKind.wrap .i64 (t6-1)).toNat*5)) 3 (.bool v19)∧
 ∃v20,bM h7 (adr a15 ((IntKind.wrap .i64 (t6-1)).toNat*5)) 4 (.bool v20)∧
 HV PG x3 [xw v10 v11 v12 v13 v14,xw v16 v17 v18 v19 v20] cr (fun(e21:Int) h22=>
 J8 (!(decide (e21<(0:Int)))) h22) h7))) (
 J8 false h7))) t2.1 h3)) (
 K false h3)) (IntKind.wrap .i64 (x1+1),0) h0
noncomputable def kg:Ann:=.node .nil (.node .nil (.node (.node .nil (.loop [(9,.c (.int .i64)),(10,.c (.int .i64))] (.node .nil (.join [(9,.c (.int .i64))] (.node (.loop [(9,.c (.int .i64))] (.node (.join [(36,.c .bool)] .nil .nil) .nil)) (.node .nil (.node .nil (.node .nil (.join [] (.node .nil (.node (.node .nil (.loop [(11,.c (.int .i64))] .nil)) .nil)) (.node .nil (.node (.node .nil (.loop [(12,.c (.int .i64))] .nil)) .nil))))))) .nil)))) .nil))
theorem j8(x0:SliceV)(x1:Int)(x2:Int)(x3:Value){K:cQ [.c .bool]→ae→Prop}{h0:ae}(h:fP x0 x1 x2 x3 K h0):HC PG d8 [.slice x0.a x0.len x0.cap,.int .i64 x1,.int .i64 x2,x3] [.c .bool] K h0:=dL kg Tryz.func230 Tryz.call230 rfl rfl (by kernel_rfl) h
def uN(x0:Int)(K:(Int)→ae→Prop)(h0:ae):Prop:=
 Join (fun(t2:Int×Int) h3=>
 Join (fun(t5:Int×Int) h6=>
 Join (fun(t8:Int×Int) h9=>
 ∃b10,(0:Int)≤(IntKind.wrap .u8 t8.1)∧(⟨#[0,1,2,2,3,3,3,3,4,4,4,4,4,4,4,4,5,5,5,5,5,5,5,5,5,5,5,5,5,5,5,5,6,6,6,6,6,6,6,6,6,6,6,6,6,6,6,6,6,6,6,6,6,6,6,6,6,6,6,6,6,6,6,6,7,7,7,7,7,7,7,7,7,7,7,7,7,7,7,7,7,7,7,7,7,7,7,7,7,7,7,7,7,7,7,7,7,7,7,7,7,7,7,7,7,7,7,7,7,7,7,7,7,7,7,7,7,7,7,7,7,7,7,7,7,7,7,7,8,8,8,8,8,8,8,8,8,8,8,8,8,8,8,8,8,8,8,8,8,8,8,8,8,8,8,8,8,8,8,8,8,8,8,8,8,8,8,8,8,8,8,8,8,8,8,8,8,8,8,8,8,8,8,8,8,8,8,8,8,8,8,8,8,8,8,8,8,8,8,8,8,8,8,8,8,8,8,8,8,8,8,8,8,8,8,8,8,8,8,8,8,8,8,8,8,8,8,8,8,8,8,8,8,8,8,8,8,8,8,8,8,8,8,8,8,8,8,8,8,8,8,8,8,8,8,8]⟩:ByteArray)[(IntKind.wrap .u8 t8.1).toNat]? =some b10∧
 K (IntKind.wrap .i64 (t8.2+(IntKind.wrap .i64 (b10.toNat:Int)))) h9) (fun J7=>
 CondP (decide (t5.1≥(256:Int))) (
 ((0:Int)≤(8:Int)∧
 J7 (dY t5.1 (2^(min (8:Int).toNat (IntKind.bits .u64))),IntKind.wrap .i64 (t5.2+8)) h6)) (
 J7 (t5.1,t5.2) h6))) (fun J4=>
 CondP (decide (t2.1≥(65536:Int))) (
 ((0:Int)≤(16:Int)∧
 J4 (dY t2.1 (2^(min (16:Int).toNat (IntKind.bits .u64))),IntKind.wrap .i64 (t2.2+16)) h3)) (
 J4 (t2.1,t2.2) h3))) (fun J1=>
 CondP (decide (x0≥(4294967296:Int))) (
 ((0:Int)≤(32:Int)∧
 J1 (dY x0 (2^(min (32:Int).toNat (IntKind.bits .u64))),32) h0)) (
 J1 (x0,0) h0))
noncomputable def CJ:Ann:=.node .nil (.join [(0,.c (.int .u64)),(2,.c (.int .i64))] .nil (.join [(0,.c (.int .u64)),(2,.c (.int .i64))] .nil (.join [(0,.c (.int .u64)),(2,.c (.int .i64))] .nil .nil)))
theorem Cn(x0:Int){K:cQ cr→ae→Prop}{h0:ae}(h:uN x0 K h0):HC PG pR [.int .u64 x0] cr K h0:=dL CJ Tryz.func234 Tryz.call234 rfl rfl (by kernel_rfl) h
def ie(x0:SliceV)(x1:Value)(K:(SliceV)→ae→Prop)(h0:ae):Prop:=
 At (hnew h0 [.slice x0.a x0.len x0.cap] cZ) (fun h1=>
 RangeP PG x1 W9 h1 (fun rdy2 bz3 (x4:ByteArray×ByteArray) k5 h6=>
 nv h6 kZ al (wq x4) (fun h11=>
 (h11[(ci h1+1)]? =some rdy2∧At (bZ h11 (ci h1+1) bz3) (fun h8=>
 ∃v12:SliceV,aP h8 (aE h0)=some (.slice v12.a v12.len v12.cap)∧
 ∃v13,aw h8 h6 0 v13∧
 ∃v14,aw h8 h6 1 v14∧
 At (hnew h8 (ij v13 v14) al) (fun h15=>
 ∃xs16,SRow h15 (some (aE h8)) (1*2) xs16∧
 AppP (some kZ) 2 32 al v12.a v12.len v12.cap 1 xs16 h15 (fun s17 h18=>
 (Wr h18 (aE h0)∧
 At (hset h18 (aE h0) (.slice s17.a s17.len s17.cap)) (fun h19=>
 k5 none h19)))))))) (fun h20=>
 ∃v23:SliceV,aP h20 (aE h0)=some (.slice v23.a v23.len v23.cap)∧
 (h20[(ci h1)]? =some (.deferred (some []))∧At (bZ h20 (ci h1) (.deferred none)) (fun h24=>
 K v23 h24))) (fun i9 h21=>
 bif Nat.beq i9 0 then(
 ∃v25:SliceV,aP h21 (aE h0)=some (.slice v25.a v25.len v25.cap)∧
 (h21[(ci h1)]? =some (.deferred (some []))∧At (bZ h21 (ci h1) (.deferred none)) (fun h26=>
 K v25 h26)))else(
 False)) (fun h22=>
 (h22[(ci h1)]? =some (.deferred (some []))∧At (bZ h22 (ci h1) (.deferred none)) (fun h27=>
 K ⟨none,0,0⟩ h27))))
noncomputable def mr:Ann:=.node .nil (.node (.node .nil (.rf [.agg [.str,.str]] .nil .nil)) .nil)
theorem mq(x0:SliceV)(x1:Value){K:cQ [.c .slice]→ae→Prop}{h0:ae}(h:ie x0 x1 K h0):HC PG fh [.slice x0.a x0.len x0.cap,x1] [.c .slice] K h0:=Y5 mr Tryz.func235 Tryz.call235 rfl rfl (by kernel_rfl) h
def wZ(x0:Value)(y0:Addr)(K:(Unit)→ae→Prop)(h0:ae):Prop:=
 ∃v1,aP h0 y0=some (.pointer v1)∧
 HC PG Aq [.pointer v1] [.c .ptr] (fun(e2:Option Addr) h3=>
 LoopP (fun I4 (t5:Unit) h6=>
 HC PG oW [.pointer e2] rZ (fun(e7:(ByteArray×ByteArray)×Bool) h8=>
 nv h8 kZ al (wq e7.1) (fun h10=>
 Join (fun(t16:Bool) h17=>
 CondP t16 (
 K () h17) (
 I4 () h17)) (fun J11=>
 CondP (!e7.2) (
 J11 true h10) (
 ∃v12,aw h10 h8 0 v12∧
 ∃v13,aw h10 h8 1 v13∧
 HV PG x0 [qn v12 v13] [.c .bool] (fun(e14:Bool) h15=>
 J11 (!e14) h15) h10)))) h6) () h3) h0
noncomputable def CG:Ann:=.node .nil (.loop [] (.node .nil (.join [(20,.c .bool)] .nil .nil)))
theorem WQ(x0:Value)(y0:Addr){K:cQ []→ae→Prop}{h0:ae}(h:wZ x0 y0 K h0):HC PG sC [x0,.pointer (some y0)] [] K h0:=dL CG Tryz.func239 Tryz.call239 rfl rfl (by kernel_rfl) h
theorem Iz(x0:Value)(y0:Addr){K:cQ []→ae→Prop}{h0:ae}(h:wZ x0 y0 K h0):HE PG sC [x0,.pointer (some y0)] [] K h0:=HEI CG Tryz.func239 Tryz.call239 rfl rfl (by kernel_rfl) h
def Hb(x0:Option Addr)(K:(Option Addr)→ae→Prop)(h0:ae):Prop:=
 HC PG vG [.pointer x0] Jy (fun(e1:SliceV×SliceV) h2=>
 At (hnew h2 (Zd e1) eA) (fun h3=>
 At (hnew h3 [.slice (some (aE h2)) 1 1,.int .i64 0] zo) (fun h4=>
 K (some (aE h3)) h4))) h0
theorem Pz(x0:Option Addr){K:cQ [.c .ptr]→ae→Prop}{h0:ae}(h:Hb x0 K h0):HC PG Aq [.pointer x0] [.c .ptr] K h0:=dL .nil Tryz.func240 Tryz.call240 rfl rfl (by kernel_rfl) h
def tH(x0:Option Addr)(K:((ByteArray×ByteArray)×Bool)→ae→Prop)(h0:ae):Prop:=
 At (hnew h0 kZ al) (fun h1=>
 CondP x0.isNone (
 (di h1 h0 kZ (fun h2=>
 ∃v3,aw h2 h0 0 v3∧
 ∃v4,aw h2 h0 1 v4∧
 K ((v3,v4),false) h2))) (
 LoopP (fun I5 (t6:Unit) h7=>
 ∃a8,x0=some a8∧
 ∃v9:SliceV,bR h7 a8 0 v9∧
 CondP (decide ((v9.len:Int)>(0:Int))) (
 ∃a10,x0=some a10∧
 ∃v11:SliceV,bR h7 a10 0 v11∧
 ∃a12,x0=some a12∧
 ∃v13:SliceV,bR h7 a12 0 v13∧
 (cB (IntKind.wrap .i64 ((v13.len:Int)-1)) v11.len∧∃a14,v11.a=some a14∧
 ∃a15,some (adr a14 ((IntKind.wrap .i64 ((v13.len:Int)-1)).toNat*2))=some a15∧
 ∃v16:SliceV,bR h7 a15 0 v16∧
 CondP (decide ((v16.len:Int)>(0:Int))) (
 ∃a17,some (adr a14 ((IntKind.wrap .i64 ((v13.len:Int)-1)).toNat*2))=some a17∧
 ∃v18:SliceV,bR h7 a17 0 v18∧
 (cB 0 v18.len∧∃a19,v18.a=some a19∧
 ∃v20,aO h7 (adr a19 ((0:Int).toNat*2)) 0 v20∧
 ∃v21,aO h7 (adr a19 ((0:Int).toNat*2)) 1 v21∧
 nv h7 kZ al (ij v20 v21) (fun h23=>
 ∃a24,some (adr a14 ((IntKind.wrap .i64 ((v13.len:Int)-1)).toNat*2))=some a24∧
 ∃v25:SliceV,bR h23 a24 0 v25∧
 (((0:Int)≤(1:Int)∧(1:Int)≤((v25.len:Nat):Int))∧
 ∃a26,some (adr a14 ((IntKind.wrap .i64 ((v13.len:Int)-1)).toNat*2))=some a26∧
 (dS h23 (adr a26 0) (.slice (bj v25.a ((1:Int).toNat) v25.cap 2) (v25.len-((1:Int).toNat)) (v25.cap-((1:Int).toNat))) (fun h27=>
 ∃a28,x0=some a28∧
 ∃v29:SliceV,bR h27 a28 0 v29∧
 ∃a30,x0=some a30∧
 (dS h27 (adr a30 1) (.int .i64 (v29.len:Int)) (fun h31=>
 ∃v32,aw h31 h7 0 v32∧
 ∃v33,aw h31 h7 1 v33∧
 (di h31 h0 (ij v32 v33) (fun h34=>
 ∃v35,aw h34 h0 0 v35∧
 ∃v36,aw h34 h0 1 v36∧
 K ((v35,v36),true) h34)))))))))) (
 ∃a37,some (adr a14 ((IntKind.wrap .i64 ((v13.len:Int)-1)).toNat*2))=some a37∧
 ∃v38:SliceV,bR h7 a37 1 v38∧
 CondP (decide ((v38.len:Int)>(0:Int))) (
 ∃a39,some (adr a14 ((IntKind.wrap .i64 ((v13.len:Int)-1)).toNat*2))=some a39∧
 ∃v40:SliceV,bR h7 a39 1 v40∧
 (cB 0 v40.len∧∃a41,v40.a=some a41∧
 ∃v42,bM h7 a41 ((0:Int).toNat*1) (.pointer v42)∧
 ∃a43,some (adr a14 ((IntKind.wrap .i64 ((v13.len:Int)-1)).toNat*2))=some a43∧
 ∃v44:SliceV,bR h7 a43 1 v44∧
 (((0:Int)≤(1:Int)∧(1:Int)≤((v44.len:Nat):Int))∧
 ∃a45,some (adr a14 ((IntKind.wrap .i64 ((v13.len:Int)-1)).toNat*2))=some a45∧
 (dS h7 (adr a45 1) (.slice (bj v44.a ((1:Int).toNat) v44.cap 1) (v44.len-((1:Int).toNat)) (v44.cap-((1:Int).toNat))) (fun h46=>
 ∃a47,x0=some a47∧
 ∃v48:SliceV,bR h46 a47 0 v48∧
 HC PG vG [.pointer v42] Jy (fun(e49:SliceV×SliceV) h50=>
 (bR h50 a47 0 v48∧
 At (hnew h50 (Zd e49) eA) (fun h51=>
 (bR h51 a47 0 v48∧
 ∃xs52,SRow h51 (some (aE h50)) (1*2) xs52∧
 AppP (some Yh) 2 48 eA v48.a v48.len v48.cap 1 xs52 h51 (fun s53 h54=>
 ∃a55,x0=some a55∧
 (dS h54 (adr a55 0) (.slice s53.a s53.len s53.cap) (fun h56=>
 I5 () h56))))))) h46))))) (
 ∃a57,x0=some a57∧
 ∃v58:SliceV,bR h7 a57 0 v58∧
 ∃a59,x0=some a59∧
 ∃v60:SliceV,bR h7 a59 0 v60∧
 (((0:Int)≤(IntKind.wrap .i64 ((v60.len:Int)-1))∧(IntKind.wrap .i64 ((v60.len:Int)-1))≤((v58.cap:Nat):Int))∧
 Bd (bj v58.a 0 v58.cap 2:Option Addr) (fun a61=>Bd (((IntKind.wrap .i64 ((v60.len:Int)-1)).toNat)-0:Nat) (fun n62=>Bd (v58.cap-0:Nat) (fun n63=>
 ∃a64,x0=some a64∧
 (dS h7 (adr a64 0) (.slice a61 n62 n63) (fun h65=>
 I5 () h65)))))))))) (
 ∃a66,x0=some a66∧
 (dS h7 (adr a66 1) (.int .i64 0) (fun h67=>
 (di h67 h0 kZ (fun h68=>
 ∃v69,aw h68 h0 0 v69∧
 ∃v70,aw h68 h0 1 v70∧
 K ((v69,v70),false) h68)))))) () h1))
noncomputable def AW:Ann:=.node .nil (.node .nil (.node (.loop [] .nil) .nil))
theorem AJ(x0:Option Addr){K:cQ rZ→ae→Prop}{h0:ae}(h:tH x0 K h0):HC PG oW [.pointer x0] rZ K h0:=dL AW Tryz.func241 Tryz.call241 rfl rfl (by kernel_rfl) h
def gL(x0:SliceV)(x1:Int)(x2:Value)(K:(Unit)→ae→Prop)(h0:ae):Prop:=
 LoopP (fun I1 (t2:Int×Int) h3=>
 CondP (decide (t2.2≤x1)) (
 HC PG dZ [.slice x0.a x0.len x0.cap,.int .i64 t2.1,.int .i64 t2.2,x2] [] (fun(e4:Unit) h5=>
 I1 (t2.2,IntKind.wrap .i64 (t2.2+20)) h5) h3) (
 HC PG dZ [.slice x0.a x0.len x0.cap,.int .i64 t2.1,.int .i64 x1,x2] [] (fun(e6:Unit) h7=>
 LoopP (fun I8 (t9:Int) h10=>
 CondP (decide (t9<x1)) (
 LoopP (fun I11 (t12:Int×Int) h13=>
 CondP (decide (t12.2≤x1)) (
 HC PG dd [.slice x0.a x0.len x0.cap,.int .i64 t12.1,.int .i64 (IntKind.wrap .i64 (t12.1+t9)),.int .i64 t12.2,x2] [] (fun(e14:Unit) h15=>
 I11 (t12.2,IntKind.wrap .i64 (t12.2+(IntKind.wrap .i64 (2*t9)))) h15) h13) (
 Join (fun(t19:Unit) h20=>
 I8 (IntKind.wrap .i64 (t9*2)) h20) (fun J16=>
 CondP (decide ((IntKind.wrap .i64 (t12.1+t9))<x1)) (
 HC PG dd [.slice x0.a x0.len x0.cap,.int .i64 t12.1,.int .i64 (IntKind.wrap .i64 (t12.1+t9)),.int .i64 x1,x2] [] (fun(e17:Unit) h18=>
 J16 () h18) h13) (
 J16 () h13)))) (0,IntKind.wrap .i64 (2*t9)) h10) (
 K () h10)) 20 h7) h3)) (0,20) h0
noncomputable def p6:Ann:=.node .nil (.node .nil (.node (.loop [(7,.c (.int .i64)),(8,.c (.int .i64))] .nil) (.node .nil (.loop [(6,.c (.int .i64))] (.node .nil (.node .nil (.node (.loop [(7,.c (.int .i64)),(8,.c (.int .i64))] .nil) (.join [] .nil .nil))))))))
theorem kD(x0:SliceV)(x1:Int)(x2:Value){K:cQ []→ae→Prop}{h0:ae}(h:gL x0 x1 x2 K h0):HC PG kz [.slice x0.a x0.len x0.cap,.int .i64 x1,x2] [] K h0:=dL p6 Tryz.func242 Tryz.call242 rfl rfl (by kernel_rfl) h
def vY(x0:Option Addr)(x1:Int)(K:(Unit)→ae→Prop)(h0:ae):Prop:=
 ∃a1,x0=some a1∧
 (cB (3:Int) 4∧
 ∃v2,bM h0 a1 ((3:Int).toNat*1) (.int .u64 v2)∧
 Bd (IntKind.wrap .u64 (ao (IntKind.bits .u64) v2^^^ao (IntKind.bits .u64) x1).toNat:Int) (fun n3=>
 ∃a4,x0=some a4∧
 (cB (3:Int) 4∧
 (dS h0 (adr a4 ((3:Int).toNat*1)) (.int .u64 n3) (fun h5=>
 HC PG jU (uV x0 2) [] (fun(e6:Unit) h7=>
 ∃a8,x0=some a8∧
 (cB 0 4∧
 ∃v9,bM h7 a8 ((0:Int).toNat*1) (.int .u64 v9)∧
 Bd (IntKind.wrap .u64 (ao (IntKind.bits .u64) v9^^^ao (IntKind.bits .u64) x1).toNat:Int) (fun n10=>
 ∃a11,x0=some a11∧
 (cB 0 4∧
 (dS h7 (adr a11 ((0:Int).toNat*1)) (.int .u64 n10) (fun h12=>
 K () h12)))))) h5)))))
theorem DG(x0:Option Addr)(x1:Int){K:cQ []→ae→Prop}{h0:ae}(h:vY x0 x1 K h0):HC PG nr (VA x0 x1) [] K h0:=dL .nil Tryz.func243 Tryz.call243 rfl rfl (by kernel_rfl) h
def Hf(x0:ByteArray)(K:(Int)→ae→Prop)(h0:ae):Prop:=
 Join (fun(t41:Int) h42=>
 ∃b43,(0:Int)≤(0:Int)∧x0[(0:Int).toNat]? =some b43∧
 Bd (IntKind.wrap .u64 (ao (IntKind.bits .u64) t41|||ao (IntKind.bits .u64) (IntKind.wrap .u64 (b43.toNat:Int))).toNat:Int) (fun n44=>
 K n44 h42)) (fun J1=>
 Join (fun(t36:Int) h37=>
 ∃b38,(0:Int)≤(1:Int)∧x0[(1:Int).toNat]? =some b38∧
 ((0:Int)≤(8:Int)∧
 Bd (IntKind.wrap .u64 ((IntKind.wrap .u64 (b38.toNat:Int))*2^(min (8:Int).toNat (IntKind.bits .u64))):Int) (fun n39=>
 Bd (IntKind.wrap .u64 (ao (IntKind.bits .u64) t36|||ao (IntKind.bits .u64) n39).toNat:Int) (fun n40=>
 J1 n40 h37)))) (fun J2=>
 Join (fun(t31:Int) h32=>
 ∃b33,(0:Int)≤(2:Int)∧x0[(2:Int).toNat]? =some b33∧
 ((0:Int)≤(16:Int)∧
 Bd (IntKind.wrap .u64 ((IntKind.wrap .u64 (b33.toNat:Int))*2^(min (16:Int).toNat (IntKind.bits .u64))):Int) (fun n34=>
 Bd (IntKind.wrap .u64 (ao (IntKind.bits .u64) t31|||ao (IntKind.bits .u64) n34).toNat:Int) (fun n35=>
 J2 n35 h32)))) (fun J3=>
 Join (fun(t26:Int) h27=>
 ∃b28,(0:Int)≤(3:Int)∧x0[(3:Int).toNat]? =some b28∧
 ((0:Int)≤(24:Int)∧
 Bd (IntKind.wrap .u64 ((IntKind.wrap .u64 (b28.toNat:Int))*2^(min (24:Int).toNat (IntKind.bits .u64))):Int) (fun n29=>
 Bd (IntKind.wrap .u64 (ao (IntKind.bits .u64) t26|||ao (IntKind.bits .u64) n29).toNat:Int) (fun n30=>
 J3 n30 h27)))) (fun J4=>
 Join (fun(t21:Int) h22=>
 ∃b23,(0:Int)≤(4:Int)∧x0[(4:Int).toNat]? =some b23∧
 ((0:Int)≤(32:Int)∧
 Bd (IntKind.wrap .u64 ((IntKind.wrap .u64 (b23.toNat:Int))*2^(min (32:Int).toNat (IntKind.bits .u64))):Int) (fun n24=>
 Bd (IntKind.wrap .u64 (ao (IntKind.bits .u64) t21|||ao (IntKind.bits .u64) n24).toNat:Int) (fun n25=>
 J4 n25 h22)))) (fun J5=>
 Join (fun(t16:Int) h17=>
 ∃b18,(0:Int)≤(5:Int)∧x0[(5:Int).toNat]? =some b18∧
 ((0:Int)≤(40:Int)∧
 Bd (IntKind.wrap .u64 ((IntKind.wrap .u64 (b18.toNat:Int))*2^(min (40:Int).toNat (IntKind.bits .u64))):Int) (fun n19=>
 Bd (IntKind.wrap .u64 (ao (IntKind.bits .u64) t16|||ao (IntKind.bits .u64) n19).toNat:Int) (fun n20=>
 J5 n20 h17)))) (fun J6=>
 Join (fun(t11:Int) h12=>
 ∃b13,(0:Int)≤(6:Int)∧x0[(6:Int).toNat]? =some b13∧
 ((0:Int)≤(48:Int)∧
 Bd (IntKind.wrap .u64 ((IntKind.wrap .u64 (b13.toNat:Int))*2^(min (48:Int).toNat (IntKind.bits .u64))):Int) (fun n14=>
 Bd (IntKind.wrap .u64 (ao (IntKind.bits .u64) t11|||ao (IntKind.bits .u64) n14).toNat:Int) (fun n15=>
 J6 n15 h12)))) (fun J7=>
 CondP ((x0.size:Int)==(8:Int)) (
 ∃b8,(0:Int)≤(7:Int)∧x0[(7:Int).toNat]? =some b8∧
 ((0:Int)≤(56:Int)∧
 Bd (IntKind.wrap .u64 ((IntKind.wrap .u64 (b8.toNat:Int))*2^(min (56:Int).toNat (IntKind.bits .u64))):Int) (fun n9=>
 Bd (IntKind.wrap .u64 (ao (IntKind.bits .u64) 0|||ao (IntKind.bits .u64) n9).toNat:Int) (fun n10=>
 J7 n10 h0)))) (
 CondP ((x0.size:Int)==(7:Int)) (
 J7 0 h0) (
 CondP ((x0.size:Int)==(6:Int)) (
 J6 0 h0) (
 CondP ((x0.size:Int)==(5:Int)) (
 J5 0 h0) (
 CondP ((x0.size:Int)==(4:Int)) (
 J4 0 h0) (
 CondP ((x0.size:Int)==(3:Int)) (
 J3 0 h0) (
 CondP ((x0.size:Int)==(2:Int)) (
 J2 0 h0) (
 CondP ((x0.size:Int)==(1:Int)) (
 J1 0 h0) (
 K 0 h0)))))))))))))))
noncomputable def PZ:Ann:=.node .nil (.node .nil (.node (.node .nil (.join [(3,.c (.int .u64))] (.join [(3,.c (.int .u64))] (.join [(3,.c (.int .u64))] (.join [(3,.c (.int .u64))] (.join [(3,.c (.int .u64))] (.join [(3,.c (.int .u64))] (.join [(3,.c (.int .u64))] .nil .nil) .nil) .nil) .nil) .nil) .nil) .nil)) .nil))
theorem PD(x0:ByteArray){K:cQ eW→ae→Prop}{h0:ae}(h:Hf x0 K h0):HC PG wJ [.string x0] eW K h0:=dL PZ Tryz.func244 Tryz.call244 rfl rfl (by kernel_rfl) h
def tK(x0:Option Addr)(x1:Int)(K:(Unit)→ae→Prop)(h0:ae):Prop:=
 LoopP (fun I1 (t2:Int) h3=>
 CondP (decide (t2<x1)) (
 ∃a4,x0=some a4∧
 (cB 0 4∧
 ∃v5,bM h3 a4 ((0:Int).toNat*1) (.int .u64 v5)∧
 ∃a6,x0=some a6∧
 (cB 1 4∧
 ∃v7,bM h3 a6 ((1:Int).toNat*1) (.int .u64 v7)∧
 ∃a8,x0=some a8∧
 (cB 0 4∧
 (dS h3 (adr a8 ((0:Int).toNat*1)) (.int .u64 (IntKind.wrap .u64 (v5+v7))) (fun h9=>
 ∃a10,x0=some a10∧
 (cB 1 4∧
 ∃v11,bM h9 a10 ((1:Int).toNat*1) (.int .u64 v11)∧
 ∃a12,x0=some a12∧
 (cB 0 4∧
 ∃v13,bM h9 a12 ((0:Int).toNat*1) (.int .u64 v13)∧
 ∃a14,x0=some a14∧
 HC PG dK (nf v11 13) eW (fun(e15:Int) h16=>
 (bM h16 a12 ((0:Int).toNat*1) (.int .u64 v13)∧
 Bd (IntKind.wrap .u64 (ao (IntKind.bits .u64) e15^^^ao (IntKind.bits .u64) v13).toNat:Int) (fun n17=>
 (cB 1 4∧
 (dS h16 (adr a14 ((1:Int).toNat*1)) (.int .u64 n17) (fun h18=>
 ∃a19,x0=some a19∧
 (cB 0 4∧
 ∃v20,bM h18 a19 ((0:Int).toNat*1) (.int .u64 v20)∧
 ∃a21,x0=some a21∧
 HC PG dK (nf v20 32) eW (fun(e22:Int) h23=>
 (cB 0 4∧
 (dS h23 (adr a21 ((0:Int).toNat*1)) (.int .u64 e22) (fun h24=>
 ∃a25,x0=some a25∧
 (cB (2:Int) 4∧
 ∃v26,bM h24 a25 ((2:Int).toNat*1) (.int .u64 v26)∧
 ∃a27,x0=some a27∧
 (cB (3:Int) 4∧
 ∃v28,bM h24 a27 ((3:Int).toNat*1) (.int .u64 v28)∧
 ∃a29,x0=some a29∧
 (cB (2:Int) 4∧
 (dS h24 (adr a29 ((2:Int).toNat*1)) (.int .u64 (IntKind.wrap .u64 (v26+v28))) (fun h30=>
 ∃a31,x0=some a31∧
 (cB (3:Int) 4∧
 ∃v32,bM h30 a31 ((3:Int).toNat*1) (.int .u64 v32)∧
 ∃a33,x0=some a33∧
 (cB (2:Int) 4∧
 ∃v34,bM h30 a33 ((2:Int).toNat*1) (.int .u64 v34)∧
 ∃a35,x0=some a35∧
 HC PG dK (nf v32 16) eW (fun(e36:Int) h37=>
 (bM h37 a33 ((2:Int).toNat*1) (.int .u64 v34)∧
 Bd (IntKind.wrap .u64 (ao (IntKind.bits .u64) e36^^^ao (IntKind.bits .u64) v34).toNat:Int) (fun n38=>
 (cB (3:Int) 4∧
 (dS h37 (adr a35 ((3:Int).toNat*1)) (.int .u64 n38) (fun h39=>
 ∃a40,x0=some a40∧
 (cB 0 4∧
 ∃v41,bM h39 a40 ((0:Int).toNat*1) (.int .u64 v41)∧
 ∃a42,x0=some a42∧
 (cB (3:Int) 4∧
 ∃v43,bM h39 a42 ((3:Int).toNat*1) (.int .u64 v43)∧
 ∃a44,x0=some a44∧
 (cB 0 4∧
 (dS h39 (adr a44 ((0:Int).toNat*1)) (.int .u64 (IntKind.wrap .u64 (v41+v43))) (fun h45=>
 ∃a46,x0=some a46∧
 (cB (3:Int) 4∧
 ∃v47,bM h45 a46 ((3:Int).toNat*1) (.int .u64 v47)∧
 ∃a48,x0=some a48∧
 (cB 0 4∧
 ∃v49,bM h45 a48 ((0:Int).toNat*1) (.int .u64 v49)∧
 ∃a50,x0=some a50∧
 HC PG dK (nf v47 21) eW (fun(e51:Int) h52=>
 (bM h52 a48 ((0:Int).toNat*1) (.int .u64 v49)∧
 Bd (IntKind.wrap .u64 (ao (IntKind.bits .u64) e51^^^ao (IntKind.bits .u64) v49).toNat:Int) (fun n53=>
 (cB (3:Int) 4∧
 (dS h52 (adr a50 ((3:Int).toNat*1)) (.int .u64 n53) (fun h54=>
 ∃a55,x0=some a55∧
 (cB (2:Int) 4∧
 ∃v56,bM h54 a55 ((2:Int).toNat*1) (.int .u64 v56)∧
 ∃a57,x0=some a57∧
 (cB 1 4∧
 ∃v58,bM h54 a57 ((1:Int).toNat*1) (.int .u64 v58)∧
 ∃a59,x0=some a59∧
 (cB (2:Int) 4∧
 (dS h54 (adr a59 ((2:Int).toNat*1)) (.int .u64 (IntKind.wrap .u64 (v56+v58))) (fun h60=>
 ∃a61,x0=some a61∧
 (cB 1 4∧
 ∃v62,bM h60 a61 ((1:Int).toNat*1) (.int .u64 v62)∧
 ∃a63,x0=some a63∧
 (cB (2:Int) 4∧
 ∃v64,bM h60 a63 ((2:Int).toNat*1) (.int .u64 v64)∧
 ∃a65,x0=some a65∧
 HC PG dK (nf v62 17) eW (fun(e66:Int) h67=>
 (bM h67 a63 ((2:Int).toNat*1) (.int .u64 v64)∧
 Bd (IntKind.wrap .u64 (ao (IntKind.bits .u64) e66^^^ao (IntKind.bits .u64) v64).toNat:Int) (fun n68=>
 (cB 1 4∧
 (dS h67 (adr a65 ((1:Int).toNat*1)) (.int .u64 n68) (fun h69=>
 ∃a70,x0=some a70∧
 (cB (2:Int) 4∧
 ∃v71,bM h69 a70 ((2:Int).toNat*1) (.int .u64 v71)∧
 ∃a72,x0=some a72∧
 HC PG dK (nf v71 32) eW (fun(e73:Int) h74=>
 (cB (2:Int) 4∧
 (dS h74 (adr a72 ((2:Int).toNat*1)) (.int .u64 e73) (fun h75=>
 I1 (IntKind.wrap .i64 (t2+1)) h75)))) h69))))))) h60))))))))))))) h45))))))))))))) h30))))))))))) h18))))))) h9)))))))) (
 K () h3)) 0 h0
noncomputable def AX:Ann:=.node .nil (.loop [(5,.c (.int .i64))] .nil)
theorem AM(x0:Option Addr)(x1:Int){K:cQ []→ae→Prop}{h0:ae}(h:tK x0 x1 K h0):HC PG jU (uV x0 x1) [] K h0:=dL AX Tryz.func245 Tryz.call245 rfl rfl (by kernel_rfl) h
def rQ(x0:Option Addr)(x1:Option Addr)(K:(Option Addr)→ae→Prop)(h0:ae):Prop:=
 HC PG pQ (sr x0 x1) [.c .bool] (fun(e1:Bool) h2=>
 CondP e1 (
 K x0 h2) (
 ∃a3,x0=some a3∧
 ∃v4,iK h2 a3 0 v4∧
 ∃v5,iK h2 a3 1 v5∧
 ∃v6:SliceV,bR h2 a3 2 v6∧
 ∃v7:SliceV,bR h2 a3 3 v7∧
 ∃v8,cP h2 a3 4 v8∧
 ∃v9,rX h2 a3 5 v9∧
 nv h2 Th bQ (Xo v4 v5 v6 v7 v8 v9) (fun h11=>
 ∃a12,x0=some a12∧
 ∃v13:SliceV,bR h11 (adr a12 0) 2 v13∧
 ∃a14,x0=some a14∧
 ∃v15:SliceV,bR h11 (adr a14 0) 3 v15∧
 HC PG dB [.slice v13.a v13.len v13.cap] [.c .slice] (fun(e16:SliceV) h17=>
 (bR h17 (adr a14 0) 3 v15∧
 HC PG dT [.slice v15.a v15.len v15.cap] [.c .slice] (fun(e18:SliceV) h19=>
 (dS h19 (adr (adr (aE h2) 0) 2) (.slice e16.a e16.len e16.cap) (fun h20=>
 (dS h20 (adr (adr (aE h2) 0) 3) (.slice e18.a e18.len e18.cap) (fun h21=>
 (dS h21 (adr (aE h2) 5) (.pointer none) (fun h22=>
 HC PG ik [.pointer x1] [.c .bool] (fun(e23:Bool) h24=>
 CondP e23 (
 (dS h24 (adr (aE h2) 5) (.pointer x1) (fun h25=>
 K (some (aE h2)) h25))) (
 K (some (aE h2)) h24)) h22))))))) h17)) h11))) h0
theorem xg(x0:Option Addr)(x1:Option Addr){K:cQ [.c .ptr]→ae→Prop}{h0:ae}(h:rQ x0 x1 K h0):HC PG km (sr x0 x1) [.c .ptr] K h0:=dL .nil Tryz.func246 Tryz.call246 rfl rfl (by kernel_rfl) h
def Hw(x0:SliceV)(x1:ByteArray×ByteArray)(K:(SliceV)→ae→Prop)(h0:ae):Prop:=
 At (hnew h0 (wq x1) al) (fun h1=>
 ∃v2,aw h1 h0 0 v2∧
 HC PG un (HJ x0 v2) nm (fun(e3:Int×Bool) h4=>
 (((0:Int)≤e3.1∧e3.1≤((x0.len:Nat):Int))∧
 Join (fun(t9:SliceV) h10=>
 (((0:Int)≤e3.1∧e3.1≤((x0.cap:Nat):Int))∧
 ∃v11,aw h10 h0 0 v11∧
 ∃v12,aw h10 h0 1 v12∧
 At (hnew h10 (ij v11 v12) al) (fun h13=>
 At (hnew h13 [.slice (bj x0.a 0 x0.cap 2) (e3.1.toNat-0) (x0.cap-0),.slice (some (aE h10)) 1 1,.slice t9.a t9.len t9.cap] cZ) (fun h14=>
 HC PG fI [.slice (some (aE h13)) 3 3] [.c .slice] (fun(e15:SliceV) h16=>
 K e15 h16) h14)))) (fun J5=>
 CondP e3.2 (
 (((0:Int)≤(IntKind.wrap .i64 (e3.1+1))∧(IntKind.wrap .i64 (e3.1+1))≤((x0.len:Nat):Int))∧
 Bd (bj x0.a ((IntKind.wrap .i64 (e3.1+1)).toNat) x0.cap 2:Option Addr) (fun a6=>Bd (x0.len-((IntKind.wrap .i64 (e3.1+1)).toNat):Nat) (fun n7=>Bd (x0.cap-((IntKind.wrap .i64 (e3.1+1)).toNat):Nat) (fun n8=>
 J5 ⟨a6,n7,n8⟩ h4))))) (
 J5 ⟨bj x0.a e3.1.toNat x0.cap 2,x0.len-e3.1.toNat,x0.cap-e3.1.toNat⟩ h4)))) h1)
noncomputable def P8:Ann:=.node .nil (.node .nil (.node .nil (.join [(7,.c .slice)] .nil .nil)))
theorem PR(x0:SliceV)(x1:ByteArray×ByteArray){K:cQ [.c .slice]→ae→Prop}{h0:ae}(h:Hw x0 x1 K h0):HC PG AB [.slice x0.a x0.len x0.cap,QJ x1] [.c .slice] K h0:=dL P8 Tryz.func247 Tryz.call247 rfl rfl (by kernel_rfl) h
def jD(x0:SliceV)(x1:Int)(x2:Value)(K:(Unit)→ae→Prop)(h0:ae):Prop:=
 LoopP (fun I1 (t2:Int×Int) h3=>
 CondP (decide (t2.2≤x1)) (
 HC PG dD [.slice x0.a x0.len x0.cap,.int .i64 t2.1,.int .i64 t2.2,x2] [] (fun(e4:Unit) h5=>
 I1 (t2.2,IntKind.wrap .i64 (t2.2+20)) h5) h3) (
 HC PG dD [.slice x0.a x0.len x0.cap,.int .i64 t2.1,.int .i64 x1,x2] [] (fun(e6:Unit) h7=>
 LoopP (fun I8 (t9:Int) h10=>
 CondP (decide (t9<x1)) (
 LoopP (fun I11 (t12:Int×Int) h13=>
 CondP (decide (t12.2≤x1)) (
 HC PG iR [.slice x0.a x0.len x0.cap,.int .i64 t12.1,.int .i64 (IntKind.wrap .i64 (t12.1+t9)),.int .i64 t12.2,x2] [] (fun(e14:Unit) h15=>
 I11 (t12.2,IntKind.wrap .i64 (t12.2+(IntKind.wrap .i64 (2*t9)))) h15) h13) (
 Join (fun(t19:Unit) h20=>
 I8 (IntKind.wrap .i64 (t9*2)) h20) (fun J16=>
 CondP (decide ((IntKind.wrap .i64 (t12.1+t9))<x1)) (
 HC PG iR [.slice x0.a x0.len x0.cap,.int .i64 t12.1,.int .i64 (IntKind.wrap .i64 (t12.1+t9)),.int .i64 x1,x2] [] (fun(e17:Unit) h18=>
 J16 () h18) h13) (
 J16 () h13)))) (0,IntKind.wrap .i64 (2*t9)) h10) (
 K () h10)) 20 h7) h3)) (0,20) h0
noncomputable def oI:Ann:=.node .nil (.node .nil (.node (.loop [(7,.c (.int .i64)),(8,.c (.int .i64))] .nil) (.node .nil (.loop [(6,.c (.int .i64))] (.node .nil (.node .nil (.node (.loop [(7,.c (.int .i64)),(8,.c (.int .i64))] .nil) (.join [] .nil .nil))))))))
theorem oD(x0:SliceV)(x1:Int)(x2:Value){K:cQ []→ae→Prop}{h0:ae}(h:jD x0 x1 x2 K h0):HC PG jB [.slice x0.a x0.len x0.cap,.int .i64 x1,x2] [] K h0:=dL oI Tryz.func248 Tryz.call248 rfl rfl (by kernel_rfl) h
def xr(x0:Int)(K:(Bool)→ae→Prop)(h0:ae):Prop:=
 K (x0 !=x0) h0
theorem E5(x0:Int){K:cQ [.c .bool]→ae→Prop}{h0:ae}(h:xr x0 K h0):HC PG oP [.int .i64 x0] [.c .bool] K h0:=dL .nil Tryz.func249 Tryz.call249 rfl rfl (by kernel_rfl) h
def uK(x0:Option Addr)(x1:Int)(K:(Bool)→ae→Prop)(h0:ae):Prop:=
 CondP (!(x0.isNone)) (
 ∃a1,x0=some a1∧
 ∃v2,cP h0 a1 4 v2∧
 CondP (!v2) (
 CondP (decide (x1≥(0:Int))) (
 K (decide (x1<(32:Int))) h0) (
 K false h0)) (
 K false h0)) (
 K false h0)
theorem Ck(x0:Option Addr)(x1:Int){K:cQ [.c .bool]→ae→Prop}{h0:ae}(h:uK x0 x1 K h0):HC PG mB (uV x0 x1) [.c .bool] K h0:=dL .nil Tryz.func250 Tryz.call250 rfl rfl (by kernel_rfl) h
def uJ(x0:Option Addr)(x1:Int)(K:(Unit)→ae→Prop)(h0:ae):Prop:=
 Join (fun(t16:Unit) h17=>
 Join (fun(t33:Unit) h34=>
 ∃a35,x0=some a35∧
 ∃v36,iK h34 a35 0 v36∧
 ∃a37,x0=some a37∧
 ∃v38,iK h34 a37 1 v38∧
 HC PG kC (oS v36 x1) j7 (fun(e39:Int) h40=>
 (iK h40 a37 1 v38∧
 HC PG kC (oS v38 x1) j7 (fun(e41:Int) h42=>
 ∃a43,x0=some a43∧
 (dS h42 (adr a43 0) (.int .u32 e39) (fun h44=>
 ∃a45,x0=some a45∧
 (dS h44 (adr a45 1) (.int .u32 e41) (fun h46=>
 K () h46))))) h40)) h34) (fun J18=>
 ∃a19,x0=some a19∧
 ∃v20,iK h17 a19 1 v20∧
 HC PG gt (oS v20 x1) [.c .bool] (fun(e21:Bool) h22=>
 CondP e21 (
 ∃a23,x0=some a23∧
 ∃v24,iK h22 a23 1 v24∧
 HC PG dQ (oS v24 x1) cr (fun(e25:Int) h26=>
 ∃a27,x0=some a27∧
 ∃v28:SliceV,bR h26 a27 3 v28∧
 HC PG eY (To v28 e25 (IntKind.wrap .i64 (e25+1))) [.c .slice] (fun(e29:SliceV) h30=>
 ∃a31,x0=some a31∧
 (dS h30 (adr a31 3) (.slice e29.a e29.len e29.cap) (fun h32=>
 J18 () h32))) h26) h22) (
 J18 () h22)) h17)) (fun J1=>
 ∃a2,x0=some a2∧
 ∃v3,iK h0 a2 0 v3∧
 HC PG gt (oS v3 x1) [.c .bool] (fun(e4:Bool) h5=>
 CondP e4 (
 ∃a6,x0=some a6∧
 ∃v7,iK h5 a6 0 v7∧
 HC PG dQ (oS v7 x1) cr (fun(e8:Int) h9=>
 ∃a10,x0=some a10∧
 ∃v11:SliceV,bR h9 a10 2 v11∧
 HC PG fH (To v11 e8 (IntKind.wrap .i64 (e8+1))) [.c .slice] (fun(e12:SliceV) h13=>
 ∃a14,x0=some a14∧
 (dS h13 (adr a14 2) (.slice e12.a e12.len e12.cap) (fun h15=>
 J1 () h15))) h9) h5) (
 J1 () h5)) h0)
noncomputable def CI:Ann:=.join [] .nil (.join [] .nil .nil)
theorem Cj(x0:Option Addr)(x1:Int){K:cQ []→ae→Prop}{h0:ae}(h:uJ x0 x1 K h0):HC PG mA (uV x0 x1) [] K h0:=dL CI Tryz.func251 Tryz.call251 rfl rfl (by kernel_rfl) h
def iT(x0:SliceV)(x1:Int)(x2:SliceV)(K:(SliceV)→ae→Prop)(h0:ae):Prop:=
 (((0:Int)≤x1∧x1≤((x0.len:Nat):Int))∧
 CondP ((x2.len:Int)==(0:Int)) (
 K x0 h0) (
 CondP (x1==(x0.len:Int)) (
 ∃xs1,SRow h0 x2.a (x2.len*2) xs1∧
 AppP (some kZ) 2 32 al x0.a x0.len x0.cap x2.len xs1 h0 (fun s2 h3=>
 K s2 h3)) (
 CondP (decide ((IntKind.wrap .i64 ((x0.len:Int)+(x2.len:Int)))>(x0.cap:Int))) (
 Join (fun(t8:SliceV) h9=>
 (((0:Int)≤x1∧x1≤((t8.len:Nat):Int))∧
 ∃xs10,SRow h9 x2.a (eB x2.len (t8.len-x1.toNat)*2) xs10∧r9 h9 (bj t8.a x1.toNat t8.cap 2) 0 xs10∧cE xs10=true∧
 At (gF h9 (bj t8.a x1.toNat t8.cap 2) 0 xs10) (fun h11=>
 (((0:Int)≤(IntKind.wrap .i64 (x1+(x2.len:Int)))∧(IntKind.wrap .i64 (x1+(x2.len:Int)))≤((t8.len:Nat):Int))∧
 Bd (bj t8.a ((IntKind.wrap .i64 (x1+(x2.len:Int))).toNat) t8.cap 2:Option Addr) (fun a12=>Bd (t8.len-((IntKind.wrap .i64 (x1+(x2.len:Int))).toNat):Nat) (fun n13=>Bd (t8.cap-((IntKind.wrap .i64 (x1+(x2.len:Int))).toNat):Nat) (fun n14=>
 (((0:Int)≤x1∧x1≤((x0.len:Nat):Int))∧
 ∃xs15,SRow h11 (bj x0.a x1.toNat x0.cap 2) (eB (x0.len-x1.toNat) n13*2) xs15∧r9 h11 a12 0 xs15∧cE xs15=true∧
 At (gF h11 a12 0 xs15) (fun h16=>
 K t8 h16))))))))) (fun J4=>
 (((0:Int)≤x1∧x1≤((x0.cap:Nat):Int))∧
 Bd (IntKind.wrap .i64 ((IntKind.wrap .i64 ((x0.len:Int)+(x2.len:Int)))-x1):Int) (fun n5=>
 (((0:Int)≤n5∧n5*((32:Nat):Int)≤2^48∧n5≤9223372036854775807∧(((x1.toNat-0)+n5.toNat:Nat):Int)≤9223372036854775807)∧
 AppP (some kZ) 2 32 al (bj x0.a 0 x0.cap 2) (x1.toNat-0) (x0.cap-0) n5.toNat (eD n5.toNat kZ) h0 (fun s6 h7=>
 J4 s6 h7)))))) (
 (((0:Int)≤(IntKind.wrap .i64 ((x0.len:Int)+(x2.len:Int)))∧(IntKind.wrap .i64 ((x0.len:Int)+(x2.len:Int)))≤((x0.cap:Nat):Int))∧
 Bd (bj x0.a 0 x0.cap 2:Option Addr) (fun a17=>Bd (((IntKind.wrap .i64 ((x0.len:Int)+(x2.len:Int))).toNat)-0:Nat) (fun n18=>Bd (x0.cap-0:Nat) (fun n19=>
 (((0:Int)≤(IntKind.wrap .i64 (x1+(x2.len:Int)))∧(IntKind.wrap .i64 (x1+(x2.len:Int)))≤((n18:Nat):Int))∧
 Bd (bj a17 ((IntKind.wrap .i64 (x1+(x2.len:Int))).toNat) n19 2:Option Addr) (fun a20=>Bd (n18-((IntKind.wrap .i64 (x1+(x2.len:Int))).toNat):Nat) (fun n21=>Bd (n19-((IntKind.wrap .i64 (x1+(x2.len:Int))).toNat):Nat) (fun n22=>
 HC PG jw [.slice x2.a x2.len x2.cap,.slice a20 n21 n22] [.c .bool] (fun(e23:Bool) h24=>
 CondP (!e23) (
 (((0:Int)≤(IntKind.wrap .i64 (x1+(x2.len:Int)))∧(IntKind.wrap .i64 (x1+(x2.len:Int)))≤((n18:Nat):Int))∧
 Bd (bj a17 ((IntKind.wrap .i64 (x1+(x2.len:Int))).toNat) n19 2:Option Addr) (fun a25=>Bd (n18-((IntKind.wrap .i64 (x1+(x2.len:Int))).toNat):Nat) (fun n26=>Bd (n19-((IntKind.wrap .i64 (x1+(x2.len:Int))).toNat):Nat) (fun n27=>
 (((0:Int)≤x1∧x1≤((n18:Nat):Int))∧
 ∃xs28,SRow h24 (bj a17 x1.toNat n19 2) (eB (n18-x1.toNat) n26*2) xs28∧r9 h24 a25 0 xs28∧cE xs28=true∧
 At (gF h24 a25 0 xs28) (fun h29=>
 (((0:Int)≤x1∧x1≤((n18:Nat):Int))∧
 ∃xs30,SRow h29 x2.a (eB x2.len (n18-x1.toNat)*2) xs30∧r9 h29 (bj a17 x1.toNat n19 2) 0 xs30∧cE xs30=true∧
 At (gF h29 (bj a17 x1.toNat n19 2) 0 xs30) (fun h31=>
 K ⟨a17,n18,n19⟩ h31))))))))) (
 (((0:Int)≤(x0.len:Int)∧(x0.len:Int)≤((n18:Nat):Int))∧
 ∃xs32,SRow h24 x2.a (eB x2.len (n18-((x0.len:Int).toNat))*2) xs32∧r9 h24 (bj a17 ((x0.len:Int).toNat) n19 2) 0 xs32∧cE xs32=true∧
 At (gF h24 (bj a17 ((x0.len:Int).toNat) n19 2) 0 xs32) (fun h33=>
 (((0:Int)≤x1∧x1≤((n18:Nat):Int))∧
 HC PG qD [.slice (bj a17 x1.toNat n19 2) (n18-x1.toNat) (n19-x1.toNat),.int .i64 (x2.len:Int)] [] (fun(e34:Unit) h35=>
 K ⟨a17,n18,n19⟩ h35) h33))))) h0))))))))))))
noncomputable def nK:Ann:=.node .nil (.node .nil (.node .nil (.node .nil (.node .nil (.node .nil (.node (.node .nil (.node (.join [(9,.c .slice)] .nil .nil) .nil)) .nil))))))
theorem nH(x0:SliceV)(x1:Int)(x2:SliceV){K:cQ [.c .slice]→ae→Prop}{h0:ae}(h:iT x0 x1 x2 K h0):HC PG du (Xl x0 x1 x2) [.c .slice] K h0:=dL nK Tryz.func252 Tryz.call252 rfl rfl (by kernel_rfl) h
def uQ(x0:Int)(x1:Int)(K:(Int)→ae→Prop)(h0:ae):Prop:=
 HC PG oy [.int .i64 x1] [.c .bool] (fun(e1:Bool) h2=>
 CondP (!e1) (
 K x0 h2) (
 ((0:Int)≤x1∧
 Bd (IntKind.wrap .u32 (ao (IntKind.bits .u32) x0|||ao (IntKind.bits .u32) (IntKind.wrap .u32 (1*2^(min (x1:Int).toNat (IntKind.bits .u32))))).toNat:Int) (fun n3=>
 K n3 h2)))) h0
theorem Cq(x0:Int)(x1:Int){K:cQ j7→ae→Prop}{h0:ae}(h:uQ x0 x1 K h0):HC PG fV (oS x0 x1) j7 K h0:=dL .nil Tryz.func253 Tryz.call253 rfl rfl (by kernel_rfl) h
def g6(x0:SliceV)(x1:Int)(x2:SliceV)(K:(SliceV)→ae→Prop)(h0:ae):Prop:=
 (((0:Int)≤x1∧x1≤((x0.len:Nat):Int))∧
 CondP ((x2.len:Int)==(0:Int)) (
 K x0 h0) (
 CondP (x1==(x0.len:Int)) (
 ∃xs1,SRow h0 x2.a (x2.len*1) xs1∧
 AppP (some [.pointer none]) 1 8 bV x0.a x0.len x0.cap x2.len xs1 h0 (fun s2 h3=>
 K s2 h3)) (
 CondP (decide ((IntKind.wrap .i64 ((x0.len:Int)+(x2.len:Int)))>(x0.cap:Int))) (
 Join (fun(t8:SliceV) h9=>
 (((0:Int)≤x1∧x1≤((t8.len:Nat):Int))∧
 ∃xs10,SRow h9 x2.a (eB x2.len (t8.len-x1.toNat)*1) xs10∧r9 h9 (bj t8.a x1.toNat t8.cap 1) 0 xs10∧cE xs10=true∧
 At (gF h9 (bj t8.a x1.toNat t8.cap 1) 0 xs10) (fun h11=>
 (((0:Int)≤(IntKind.wrap .i64 (x1+(x2.len:Int)))∧(IntKind.wrap .i64 (x1+(x2.len:Int)))≤((t8.len:Nat):Int))∧
 Bd (bj t8.a ((IntKind.wrap .i64 (x1+(x2.len:Int))).toNat) t8.cap 1:Option Addr) (fun a12=>Bd (t8.len-((IntKind.wrap .i64 (x1+(x2.len:Int))).toNat):Nat) (fun n13=>Bd (t8.cap-((IntKind.wrap .i64 (x1+(x2.len:Int))).toNat):Nat) (fun n14=>
 (((0:Int)≤x1∧x1≤((x0.len:Nat):Int))∧
 ∃xs15,SRow h11 (bj x0.a x1.toNat x0.cap 1) (eB (x0.len-x1.toNat) n13*1) xs15∧r9 h11 a12 0 xs15∧cE xs15=true∧
 At (gF h11 a12 0 xs15) (fun h16=>
 K t8 h16))))))))) (fun J4=>
 (((0:Int)≤x1∧x1≤((x0.cap:Nat):Int))∧
 Bd (IntKind.wrap .i64 ((IntKind.wrap .i64 ((x0.len:Int)+(x2.len:Int)))-x1):Int) (fun n5=>
 (((0:Int)≤n5∧n5*((8:Nat):Int)≤2^48∧n5≤9223372036854775807∧(((x1.toNat-0)+n5.toNat:Nat):Int)≤9223372036854775807)∧
 AppP (some [.pointer none]) 1 8 bV (bj x0.a 0 x0.cap 1) (x1.toNat-0) (x0.cap-0) n5.toNat (eD n5.toNat [.pointer none]) h0 (fun s6 h7=>
 J4 s6 h7)))))) (
 (((0:Int)≤(IntKind.wrap .i64 ((x0.len:Int)+(x2.len:Int)))∧(IntKind.wrap .i64 ((x0.len:Int)+(x2.len:Int)))≤((x0.cap:Nat):Int))∧
 Bd (bj x0.a 0 x0.cap 1:Option Addr) (fun a17=>Bd (((IntKind.wrap .i64 ((x0.len:Int)+(x2.len:Int))).toNat)-0:Nat) (fun n18=>Bd (x0.cap-0:Nat) (fun n19=>
 (((0:Int)≤(IntKind.wrap .i64 (x1+(x2.len:Int)))∧(IntKind.wrap .i64 (x1+(x2.len:Int)))≤((n18:Nat):Int))∧
 Bd (bj a17 ((IntKind.wrap .i64 (x1+(x2.len:Int))).toNat) n19 1:Option Addr) (fun a20=>Bd (n18-((IntKind.wrap .i64 (x1+(x2.len:Int))).toNat):Nat) (fun n21=>Bd (n19-((IntKind.wrap .i64 (x1+(x2.len:Int))).toNat):Nat) (fun n22=>
 HC PG iC [.slice x2.a x2.len x2.cap,.slice a20 n21 n22] [.c .bool] (fun(e23:Bool) h24=>
 CondP (!e23) (
 (((0:Int)≤(IntKind.wrap .i64 (x1+(x2.len:Int)))∧(IntKind.wrap .i64 (x1+(x2.len:Int)))≤((n18:Nat):Int))∧
 Bd (bj a17 ((IntKind.wrap .i64 (x1+(x2.len:Int))).toNat) n19 1:Option Addr) (fun a25=>Bd (n18-((IntKind.wrap .i64 (x1+(x2.len:Int))).toNat):Nat) (fun n26=>Bd (n19-((IntKind.wrap .i64 (x1+(x2.len:Int))).toNat):Nat) (fun n27=>
 (((0:Int)≤x1∧x1≤((n18:Nat):Int))∧
 ∃xs28,SRow h24 (bj a17 x1.toNat n19 1) (eB (n18-x1.toNat) n26*1) xs28∧r9 h24 a25 0 xs28∧cE xs28=true∧
 At (gF h24 a25 0 xs28) (fun h29=>
 (((0:Int)≤x1∧x1≤((n18:Nat):Int))∧
 ∃xs30,SRow h29 x2.a (eB x2.len (n18-x1.toNat)*1) xs30∧r9 h29 (bj a17 x1.toNat n19 1) 0 xs30∧cE xs30=true∧
 At (gF h29 (bj a17 x1.toNat n19 1) 0 xs30) (fun h31=>
 K ⟨a17,n18,n19⟩ h31))))))))) (
 (((0:Int)≤(x0.len:Int)∧(x0.len:Int)≤((n18:Nat):Int))∧
 ∃xs32,SRow h24 x2.a (eB x2.len (n18-((x0.len:Int).toNat))*1) xs32∧r9 h24 (bj a17 ((x0.len:Int).toNat) n19 1) 0 xs32∧cE xs32=true∧
 At (gF h24 (bj a17 ((x0.len:Int).toNat) n19 1) 0 xs32) (fun h33=>
 (((0:Int)≤x1∧x1≤((n18:Nat):Int))∧
 HC PG pO [.slice (bj a17 x1.toNat n19 1) (n18-x1.toNat) (n19-x1.toNat),.int .i64 (x2.len:Int)] [] (fun(e34:Unit) h35=>
 K ⟨a17,n18,n19⟩ h35) h33))))) h0))))))))))))
noncomputable def ma:Ann:=.node .nil (.node .nil (.node .nil (.node .nil (.node .nil (.node .nil (.node (.node .nil (.node (.join [(9,.c .slice)] .nil .nil) .nil)) .nil))))))
theorem l7(x0:SliceV)(x1:Int)(x2:SliceV){K:cQ [.c .slice]→ae→Prop}{h0:ae}(h:g6 x0 x1 x2 K h0):HC PG cX (Xl x0 x1 x2) [.c .slice] K h0:=dL ma Tryz.func254 Tryz.call254 rfl rfl (by kernel_rfl) h
def Cx(x0:ByteArray)(x1:ByteArray)(K:(Int)→ae→Prop)(h0:ae):Prop:=
 LoopP (fun I1 (t2:Int) h3=>
 Join (fun(t7:Bool) h8=>
 CondP t7 (
 I1 (IntKind.wrap .i64 (t2+1)) h8) (
 K t2 h8)) (fun J4=>
 CondP (decide (t2<(x0.size:Int))) (
 CondP (decide (t2<(x1.size:Int))) (
 ∃b5,(0:Int)≤t2∧x0[t2.toNat]? =some b5∧
 ∃b6,(0:Int)≤t2∧x1[t2.toNat]? =some b6∧
 J4 ((b5.toNat:Int)==(b6.toNat:Int)) h3) (
 J4 false h3)) (
 J4 false h3))) 0 h0
noncomputable def LF:Ann:=.node .nil (.node .nil (.node (.loop [(5,.c (.int .i64))] (.node (.join [(24,.c .bool)] .nil .nil) .nil)) .nil))
theorem Lt(x0:ByteArray)(x1:ByteArray){K:cQ cr→ae→Prop}{h0:ae}(h:Cx x0 x1 K h0):HC PG wM (ij x0 x1) cr K h0:=dL LF Tryz.func255 Tryz.call255 rfl rfl (by kernel_rfl) h
def EC(x0:Int×Int×Int×Int)(K:(Int×Int×Int×Int)→ae→Prop)(h0:ae):Prop:=
 At (hnew h0 (T9 x0) ww) (fun h1=>
 At (hnew h1 Rm ww) (fun h2=>
 (cB 0 4∧
 ∃v3,bM h2 (aE h0) ((0:Int).toNat*1) (.int .u64 v3)∧
 (cB 1 4∧
 ∃v4,bM h2 (aE h0) ((1:Int).toNat*1) (.int .u64 v4)∧
 (cB (2:Int) 4∧
 ∃v5,bM h2 (aE h0) ((2:Int).toNat*1) (.int .u64 v5)∧
 (cB (3:Int) 4∧
 ∃v6,bM h2 (aE h0) ((3:Int).toNat*1) (.int .u64 v6)∧
 HC PG m4 (nf v4 13) eW (fun(e7:Int) h8=>
 Bd (IntKind.wrap .u64 (ao (IntKind.bits .u64) e7^^^ao (IntKind.bits .u64) (IntKind.wrap .u64 (v3+v4))).toNat:Int) (fun n9=>
 HC PG m4 (nf (IntKind.wrap .u64 (v3+v4)) 32) eW (fun(e10:Int) h11=>
 HC PG m4 (nf v6 16) eW (fun(e12:Int) h13=>
 Bd (IntKind.wrap .u64 (ao (IntKind.bits .u64) e12^^^ao (IntKind.bits .u64) (IntKind.wrap .u64 (v5+v6))).toNat:Int) (fun n14=>
 HC PG m4 (nf n14 21) eW (fun(e15:Int) h16=>
 Bd (IntKind.wrap .u64 (ao (IntKind.bits .u64) e15^^^ao (IntKind.bits .u64) (IntKind.wrap .u64 (e10+n14))).toNat:Int) (fun n17=>
 HC PG m4 (nf n9 17) eW (fun(e18:Int) h19=>
 Bd (IntKind.wrap .u64 (ao (IntKind.bits .u64) e18^^^ao (IntKind.bits .u64) (IntKind.wrap .u64 ((IntKind.wrap .u64 (v5+v6))+n9))).toNat:Int) (fun n20=>
 HC PG m4 (nf (IntKind.wrap .u64 ((IntKind.wrap .u64 (v5+v6))+n9)) 32) eW (fun(e21:Int) h22=>
 (di h22 h1 (Rp (IntKind.wrap .u64 (e10+n14)) n20 e21 n17) (fun h23=>
 ∃v24,af h23 h1 0 v24∧
 ∃v25,af h23 h1 1 v25∧
 ∃v26,af h23 h1 2 v26∧
 ∃v27,af h23 h1 3 v27∧
 K (v24,v25,v26,v27) h23))) h19)) h16)) h13)) h11) h8)) h2))))))
theorem Ns(x0:Int×Int×Int×Int){K:cQ BC→ae→Prop}{h0:ae}(h:EC x0 K h0):HC PG lA [Sa x0] BC K h0:=dL .nil Tryz.func256 Tryz.call256 rfl rfl (by kernel_rfl) h
def pd(x0:Value)(y0:Addr)(K:(Unit)→ae→Prop)(h0:ae):Prop:=
 LoopP (fun I1 (t2:Unit) h3=>
 ∃v4,aP h3 y0=some (.int .u32 v4)∧
 CondP (v4 !=(0:Int)) (
 ∃v5,aP h3 y0=some (.int .u32 v5)∧
 HC PG jx [.int .u32 v5] cr (fun(e6:Int) h7=>
 HV PG x0 [.int .i64 e6] [.c .bool] (fun(e8:Bool) h9=>
 CondP (!e8) (
 K () h9) (
 ∃v10,aP h9 y0=some (.int .u32 v10)∧
 ∃v11,aP h9 y0=some (.int .u32 v11)∧
 Bd (IntKind.wrap .u32 (ao (IntKind.bits .u32) v10&&&ao (IntKind.bits .u32) (IntKind.wrap .u32 (v11-1))).toNat:Int) (fun n12=>
 (Wr h9 y0∧
 At (hset h9 y0 (.int .u32 n12)) (fun h13=>
 I1 () h13))))) h7) h3) (
 K () h3)) () h0
noncomputable def tT:Ann:=.loop [] .nil
theorem PV(x0:Value)(y0:Addr){K:cQ []→ae→Prop}{h0:ae}(h:pd x0 y0 K h0):HC PG jW [x0,.pointer (some y0)] [] K h0:=dL tT Tryz.func257 Tryz.call257 rfl rfl (by kernel_rfl) h
theorem zd(x0:Value)(y0:Addr){K:cQ []→ae→Prop}{h0:ae}(h:pd x0 y0 K h0):HE PG jW [x0,.pointer (some y0)] [] K h0:=HEI tT Tryz.func257 Tryz.call257 rfl rfl (by kernel_rfl) h
def mE(x0:Int)(K:(Int)→ae→Prop)(h0:ae):Prop:=
 CondP (x0==(0:Int)) (
 K 32 h0) (
 Bd (IntKind.wrap .u32 (ao (IntKind.bits .u32) x0&&&ao (IntKind.bits .u32) (IntKind.wrap .u32 (0-x0))).toNat:Int) (fun n1=>
 ((0:Int)≤(27:Int)∧
 Bd (dY (IntKind.wrap .u32 (n1*125613361)) (2^(min (27:Int).toNat (IntKind.bits .u32))):Int) (fun n2=>
 (cB n2 32∧
 ∃v3,bM h0 (⟨0,0,none⟩) (n2.toNat*1) (.int .u8 v3)∧
 K (IntKind.wrap .i64 v3) h0)))))
theorem sI(x0:Int){K:cQ cr→ae→Prop}{h0:ae}(h:mE x0 K h0):HC PG jx [.int .u32 x0] cr K h0:=dL .nil Tryz.func258 Tryz.call258 rfl rfl (by kernel_rfl) h
def tP(x0:Option Addr)(x1:Option Addr)(K:(Bool)→ae→Prop)(h0:ae):Prop:=
 CondP (!(x0.isNone)) (
 HC PG ik [.pointer x1] [.c .bool] (fun(e1:Bool) h2=>
 CondP e1 (
 ∃a3,x0=some a3∧
 ∃v4,rX h2 a3 4 v4∧
 (True∧(∀x y:Addr,v4=some x→x1=some y→f8 h2 x∧f8 h2 y)∧
 K (v4==x1) h2)) (
 K false h2)) h0) (
 K false h0)
theorem AQ(x0:Option Addr)(x1:Option Addr){K:cQ [.c .bool]→ae→Prop}{h0:ae}(h:tP x0 x1 K h0):HC PG oZ (sr x0 x1) [.c .bool] K h0:=dL .nil Tryz.func259 Tryz.call259 rfl rfl (by kernel_rfl) h
def tJ(x0:Option Addr)(K:(Bool)→ae→Prop)(h0:ae):Prop:=
 CondP (!(x0.isNone)) (
 ∃a1,x0=some a1∧
 ∃v2,cP h0 a1 2 v2∧
 K v2 h0) (
 K false h0)
theorem AL(x0:Option Addr){K:cQ [.c .bool]→ae→Prop}{h0:ae}(h:tJ x0 K h0):HC PG ik [.pointer x0] [.c .bool] K h0:=dL .nil Tryz.func260 Tryz.call260 rfl rfl (by kernel_rfl) h
def tO(x0:Option Addr)(x1:ByteArray)(K:(Option Addr)→ae→Prop)(h0:ae):Prop:=
 ∃a1,x0=some a1∧
 (dS h0 (adr a1 0) (.string x1) (fun h2=>
 K x0 h2))
theorem AP(x0:Option Addr)(x1:ByteArray){K:cQ [.c .ptr]→ae→Prop}{h0:ae}(h:tO x0 x1 K h0):HC PG jV (A0 x0 x1) [.c .ptr] K h0:=dL .nil Tryz.func263 Tryz.call263 rfl rfl (by kernel_rfl) h
def vX(x0:ByteArray)(x1:ByteArray)(K:(Bool)→ae→Prop)(h0:ae):Prop:=
 HC PG lB (ij x0 x1) [.c .bool] (fun(e1:Bool) h2=>
 K e1 h2) h0
theorem DF(x0:ByteArray)(x1:ByteArray){K:cQ [.c .bool]→ae→Prop}{h0:ae}(h:vX x0 x1 K h0):HC PG vH (ij x0 x1) [.c .bool] K h0:=dL .nil Tryz.func265 Tryz.call265 rfl rfl (by kernel_rfl) h
def fu(x0:SliceV)(x1:ByteArray)(x2:Value)(K:(Int×Bool)→ae→Prop)(h0:ae):Prop:=
 LoopP (fun I1 (t2:Int×Int) h3=>
 CondP (decide (t2.1<t2.2)) (
 ((0:Int)≤(1:Int)∧
 Bd (dY (IntKind.wrap .u64 (IntKind.wrap .i64 (t2.1+t2.2))) (2^(min (1:Int).toNat (IntKind.bits .u64))):Int) (fun n4=>
 (cB (IntKind.wrap .i64 n4) x0.len∧∃a5,x0.a=some a5∧
 ∃v6,aO h3 (adr a5 ((IntKind.wrap .i64 n4).toNat*2)) 0 v6∧
 ∃v7,aO h3 (adr a5 ((IntKind.wrap .i64 n4).toNat*2)) 1 v7∧
 HV PG x2 [qn v6 v7,.string x1] cr (fun(e8:Int) h9=>
 CondP (decide (e8<(0:Int))) (
 I1 (IntKind.wrap .i64 ((IntKind.wrap .i64 n4)+1),t2.2) h9) (
 I1 (t2.1,IntKind.wrap .i64 n4) h9)) h3)))) (
 CondP (decide (t2.1<(x0.len:Int))) (
 (cB t2.1 x0.len∧∃a10,x0.a=some a10∧
 ∃v11,aO h3 (adr a10 (t2.1.toNat*2)) 0 v11∧
 ∃v12,aO h3 (adr a10 (t2.1.toNat*2)) 1 v12∧
 HV PG x2 [qn v11 v12,.string x1] cr (fun(e13:Int) h14=>
 K (t2.1,e13==(0:Int)) h14) h3)) (
 K (t2.1,false) h3))) (0,(x0.len:Int)) h0
noncomputable def jP:Ann:=.node .nil (.node .nil (.node .nil (.node (.loop [(9,.c (.int .i64)),(10,.c (.int .i64))] .nil) .nil)))
theorem jO(x0:SliceV)(x1:ByteArray)(x2:Value){K:cQ nm→ae→Prop}{h0:ae}(h:fu x0 x1 x2 K h0):HC PG fq [.slice x0.a x0.len x0.cap,.string x1,x2] nm K h0:=dL jP Tryz.func266 Tryz.call266 rfl rfl (by kernel_rfl) h
def zP(x0:Int)(K:(Bool)→ae→Prop)(h0:ae):Prop:=
 CondP (decide (x0≥(0:Int))) (
 K (decide (x0<(32:Int))) h0) (
 K false h0)
theorem Ix(x0:Int){K:cQ [.c .bool]→ae→Prop}{h0:ae}(h:zP x0 K h0):HC PG oy [.int .i64 x0] [.c .bool] K h0:=dL .nil Tryz.func267 Tryz.call267 rfl rfl (by kernel_rfl) h
def tS(x0:Int)(K:(Int)→ae→Prop)(h0:ae):Prop:=
 HC PG lh [.int .u32 x0] cr (fun(e1:Int) h2=>
 K e1 h2) h0
theorem AU(x0:Int){K:cQ cr→ae→Prop}{h0:ae}(h:tS x0 K h0):HC PG o8 [.int .u32 x0] cr K h0:=dL .nil Tryz.func268 Tryz.call268 rfl rfl (by kernel_rfl) h
def jn(x0:SliceV)(x1:Int)(x2:Int)(x3:Int)(x4:Value)(K:(Unit)→ae→Prop)(h0:ae):Prop:=
 LoopP (fun I1 (t2:Int) h3=>
 CondP (decide ((IntKind.wrap .i64 ((IntKind.wrap .i64 (2*t2))+1))≥x2)) (
 K () h3) (
 Join (fun(t26:Int) h27=>
 (cB (IntKind.wrap .i64 (x3+t2)) x0.len∧∃a28,x0.a=some a28∧
 ∃v29,bM h27 (adr a28 ((IntKind.wrap .i64 (x3+t2)).toNat*5)) 0 (.string v29)∧
 ∃v30,bM h27 (adr a28 ((IntKind.wrap .i64 (x3+t2)).toNat*5)) 1 (.string v30)∧
 ∃v31,bM h27 (adr a28 ((IntKind.wrap .i64 (x3+t2)).toNat*5)) 2 (.string v31)∧
 ∃v32,bM h27 (adr a28 ((IntKind.wrap .i64 (x3+t2)).toNat*5)) 3 (.bool v32)∧
 ∃v33,bM h27 (adr a28 ((IntKind.wrap .i64 (x3+t2)).toNat*5)) 4 (.bool v33)∧
 (cB (IntKind.wrap .i64 (x3+t26)) x0.len∧∃a34,x0.a=some a34∧
 ∃v35,bM h27 (adr a34 ((IntKind.wrap .i64 (x3+t26)).toNat*5)) 0 (.string v35)∧
 ∃v36,bM h27 (adr a34 ((IntKind.wrap .i64 (x3+t26)).toNat*5)) 1 (.string v36)∧
 ∃v37,bM h27 (adr a34 ((IntKind.wrap .i64 (x3+t26)).toNat*5)) 2 (.string v37)∧
 ∃v38,bM h27 (adr a34 ((IntKind.wrap .i64 (x3+t26)).toNat*5)) 3 (.bool v38)∧
 ∃v39,bM h27 (adr a34 ((IntKind.wrap .i64 (x3+t26)).toNat*5)) 4 (.bool v39)∧
 HV PG x4 [xw v29 v30 v31 v32 v33,xw v35 v36 v37 v38 v39] cr (fun(e40:Int) h41=>
 CondP (!(decide (e40<(0:Int)))) (
 K () h41) (
 (cB (IntKind.wrap .i64 (x3+t26)) x0.len∧∃a42,x0.a=some a42∧
 ∃v43,bM h41 (adr a42 ((IntKind.wrap .i64 (x3+t26)).toNat*5)) 0 (.string v43)∧
 ∃v44,bM h41 (adr a42 ((IntKind.wrap .i64 (x3+t26)).toNat*5)) 1 (.string v44)∧
 ∃v45,bM h41 (adr a42 ((IntKind.wrap .i64 (x3+t26)).toNat*5)) 2 (.string v45)∧
 ∃v46,bM h41 (adr a42 ((IntKind.wrap .i64 (x3+t26)).toNat*5)) 3 (.bool v46)∧
 ∃v47,bM h41 (adr a42 ((IntKind.wrap .i64 (x3+t26)).toNat*5)) 4 (.bool v47)∧
 (cB (IntKind.wrap .i64 (x3+t2)) x0.len∧∃a48,x0.a=some a48∧
 ∃v49,bM h41 (adr a48 ((IntKind.wrap .i64 (x3+t2)).toNat*5)) 0 (.string v49)∧
 ∃v50,bM h41 (adr a48 ((IntKind.wrap .i64 (x3+t2)).toNat*5)) 1 (.string v50)∧
 ∃v51,bM h41 (adr a48 ((IntKind.wrap .i64 (x3+t2)).toNat*5)) 2 (.string v51)∧
 ∃v52,bM h41 (adr a48 ((IntKind.wrap .i64 (x3+t2)).toNat*5)) 3 (.bool v52)∧
 ∃v53,bM h41 (adr a48 ((IntKind.wrap .i64 (x3+t2)).toNat*5)) 4 (.bool v53)∧
 (cB (IntKind.wrap .i64 (x3+t2)) x0.len∧∃a54,x0.a=some a54∧
 (ml h41 (adr a54 ((IntKind.wrap .i64 (x3+t2)).toNat*5)) (vq v43 v44 v45 v46 v47) (fun h55=>
 (cB (IntKind.wrap .i64 (x3+t26)) x0.len∧∃a56,x0.a=some a56∧
 (ml h55 (adr a56 ((IntKind.wrap .i64 (x3+t26)).toNat*5)) (vq v49 v50 v51 v52 v53) (fun h57=>
 I1 t26 h57)))))))))) h27))) (fun J4=>
 Join (fun(t23:Bool) h24=>
 CondP t23 (
 Bd (IntKind.wrap .i64 ((IntKind.wrap .i64 ((IntKind.wrap .i64 (2*t2))+1))+1):Int) (fun n25=>
 J4 n25 h24)) (
 J4 (IntKind.wrap .i64 ((IntKind.wrap .i64 (2*t2))+1)) h24)) (fun J5=>
 Bd (IntKind.wrap .i64 ((IntKind.wrap .i64 ((IntKind.wrap .i64 (2*t2))+1))+1):Int) (fun n6=>
 CondP (decide (n6<x2)) (
 Bd (IntKind.wrap .i64 (x3+(IntKind.wrap .i64 ((IntKind.wrap .i64 (2*t2))+1))):Int) (fun n7=>
 (cB n7 x0.len∧∃a8,x0.a=some a8∧
 ∃v9,aO h3 (adr a8 (n7.toNat*5)) 0 v9∧
 ∃v10,aO h3 (adr a8 (n7.toNat*5)) 1 v10∧
 ∃v11,aO h3 (adr a8 (n7.toNat*5)) 2 v11∧
 ∃v12,cP h3 (adr a8 (n7.toNat*5)) 3 v12∧
 ∃v13,cP h3 (adr a8 (n7.toNat*5)) 4 v13∧
 Bd (IntKind.wrap .i64 (x3+(IntKind.wrap .i64 ((IntKind.wrap .i64 (2*t2))+1))):Int) (fun n14=>
 (cB (IntKind.wrap .i64 (n14+1)) x0.len∧∃a15,x0.a=some a15∧
 ∃v16,bM h3 (adr a15 ((IntKind.wrap .i64 (n14+1)).toNat*5)) 0 (.string v16)∧
 ∃v17,bM h3 (adr a15 ((IntKind.wrap .i64 (n14+1)).toNat*5)) 1 (.string v17)∧
 ∃v18,bM h3 (adr a15 ((IntKind.wrap .i64 (n14+1)).toNat*5)) 2 (.string v18)∧
 ∃v19,bM h3 (adr a15 ((IntKind.wrap .i64 (n14+1)).toNat*5)) 3 (.bool v19)∧
 ∃v20,bM h3 (adr a15 ((IntKind.wrap .i64 (n14+1)).toNat*5)) 4 (.bool v20)∧
 HV PG x4 [xw v9 v10 v11 v12 v13,xw v16 v17 v18 v19 v20] cr (fun(e21:Int) h22=>
 J5 (decide (e21<(0:Int))) h22) h3))))) (
 J5 false h3)))))) x1 h0
noncomputable def oc:Ann:=.node .nil (.loop [(10,.c (.int .i64))] (.node .nil (.node .nil (.join [(11,.c (.int .i64))] (.join [(40,.c .bool)] .nil .nil) .nil))))
theorem nZ(x0:SliceV)(x1:Int)(x2:Int)(x3:Int)(x4:Value){K:cQ []→ae→Prop}{h0:ae}(h:jn x0 x1 x2 x3 x4 K h0):HC PG jl [.slice x0.a x0.len x0.cap,.int .i64 x1,.int .i64 x2,.int .i64 x3,x4] [] K h0:=dL oc Tryz.func269 Tryz.call269 rfl rfl (by kernel_rfl) h
def DQ(x0:Option Addr)(K:(SliceV×SliceV)→ae→Prop)(h0:ae):Prop:=
 At (hnew h0 Yh eA) (fun h1=>
 HC PG fi [.pointer x0] [.c .slice] (fun(e2:SliceV) h3=>
 HC PG ny [.pointer x0] [.c .slice] (fun(e4:SliceV) h5=>
 (di h5 h0 (Qi e2 e4) (fun h6=>
 ∃v7:SliceV,cx h6 h0 0 v7∧
 ∃v8:SliceV,cx h6 h0 1 v8∧
 K (v7,v8) h6))) h3) h1)
theorem JW(x0:Option Addr){K:cQ Jy→ae→Prop}{h0:ae}(h:DQ x0 K h0):HC PG vG [.pointer x0] Jy K h0:=dL .nil Tryz.func276 Tryz.call276 rfl rfl (by kernel_rfl) h
def iy(x0:SliceV)(x1:Int)(x2:Int)(x3:Value)(K:(Unit)→ae→Prop)(h0:ae):Prop:=
 LoopP (fun I1 (t2:Int) h3=>
 CondP (decide (t2<x2)) (
 LoopP (fun I4 (t5:Int) h6=>
 Join (fun(t16:Bool) h17=>
 CondP t16 (
 (cB (IntKind.wrap .i64 (t5-1)) x0.len∧∃a18,x0.a=some a18∧
 ∃v19,bM h17 (adr a18 ((IntKind.wrap .i64 (t5-1)).toNat*2)) 0 (.string v19)∧
 ∃v20,bM h17 (adr a18 ((IntKind.wrap .i64 (t5-1)).toNat*2)) 1 (.string v20)∧
 (cB t5 x0.len∧∃a21,x0.a=some a21∧
 ∃v22,aO h17 (adr a21 (t5.toNat*2)) 0 v22∧
 ∃v23,aO h17 (adr a21 (t5.toNat*2)) 1 v23∧
 (cB t5 x0.len∧∃a24,x0.a=some a24∧
 (ml h17 (adr a24 (t5.toNat*2)) (ij v19 v20) (fun h25=>
 (cB (IntKind.wrap .i64 (t5-1)) x0.len∧∃a26,x0.a=some a26∧
 (ml h25 (adr a26 ((IntKind.wrap .i64 (t5-1)).toNat*2)) (ij v22 v23) (fun h27=>
 I4 (IntKind.wrap .i64 (t5-1)) h27))))))))) (
 I1 (IntKind.wrap .i64 (t2+1)) h17)) (fun J7=>
 CondP (decide (t5>x1)) (
 (cB t5 x0.len∧∃a8,x0.a=some a8∧
 ∃v9,aO h6 (adr a8 (t5.toNat*2)) 0 v9∧
 ∃v10,aO h6 (adr a8 (t5.toNat*2)) 1 v10∧
 (cB (IntKind.wrap .i64 (t5-1)) x0.len∧∃a11,x0.a=some a11∧
 ∃v12,bM h6 (adr a11 ((IntKind.wrap .i64 (t5-1)).toNat*2)) 0 (.string v12)∧
 ∃v13,bM h6 (adr a11 ((IntKind.wrap .i64 (t5-1)).toNat*2)) 1 (.string v13)∧
 HV PG x3 [qn v9 v10,qn v12 v13] cr (fun(e14:Int) h15=>
 J7 (decide (e14<(0:Int))) h15) h6))) (
 J7 false h6))) t2 h3) (
 K () h3)) (IntKind.wrap .i64 (x1+1)) h0
noncomputable def mI:Ann:=.node .nil (.loop [(8,.c (.int .i64))] (.node .nil (.node (.node .nil (.loop [(9,.c (.int .i64))] (.node (.join [(34,.c .bool)] .nil .nil) .nil))) .nil)))
theorem mH(x0:SliceV)(x1:Int)(x2:Int)(x3:Value){K:cQ []→ae→Prop}{h0:ae}(h:iy x0 x1 x2 x3 K h0):HC PG dZ [.slice x0.a x0.len x0.cap,.int .i64 x1,.int .i64 x2,x3] [] K h0:=dL mI Tryz.func277 Tryz.call277 rfl rfl (by kernel_rfl) h
def jZ(x0:SliceV)(x1:Int)(x2:Int)(x3:Int)(x4:Value)(K:(Unit)→ae→Prop)(h0:ae):Prop:=
 CondP ((IntKind.wrap .i64 (x2-x1))==(1:Int)) (
 LoopP (fun I1 (t2:Int×Int) h3=>
 CondP (decide (t2.1<t2.2)) (
 ((0:Int)≤(1:Int)∧
 Bd (dY (IntKind.wrap .u64 (IntKind.wrap .i64 (t2.1+t2.2))) (2^(min (1:Int).toNat (IntKind.bits .u64))):Int) (fun n4=>
 (cB (IntKind.wrap .i64 n4) x0.len∧∃a5,x0.a=some a5∧
 ∃v6,aO h3 (adr a5 ((IntKind.wrap .i64 n4).toNat*2)) 0 v6∧
 ∃v7,aO h3 (adr a5 ((IntKind.wrap .i64 n4).toNat*2)) 1 v7∧
 (cB x1 x0.len∧∃a8,x0.a=some a8∧
 ∃v9,aO h3 (adr a8 (x1.toNat*2)) 0 v9∧
 ∃v10,aO h3 (adr a8 (x1.toNat*2)) 1 v10∧
 HV PG x4 [qn v6 v7,qn v9 v10] cr (fun(e11:Int) h12=>
 CondP (decide (e11<(0:Int))) (
 I1 (IntKind.wrap .i64 ((IntKind.wrap .i64 n4)+1),t2.2) h12) (
 I1 (t2.1,IntKind.wrap .i64 n4) h12)) h3))))) (
 LoopP (fun I13 (t14:Int) h15=>
 CondP (decide (t14<(IntKind.wrap .i64 (t2.1-1)))) (
 (cB (IntKind.wrap .i64 (t14+1)) x0.len∧∃a16,x0.a=some a16∧
 ∃v17,bM h15 (adr a16 ((IntKind.wrap .i64 (t14+1)).toNat*2)) 0 (.string v17)∧
 ∃v18,bM h15 (adr a16 ((IntKind.wrap .i64 (t14+1)).toNat*2)) 1 (.string v18)∧
 (cB t14 x0.len∧∃a19,x0.a=some a19∧
 ∃v20,aO h15 (adr a19 (t14.toNat*2)) 0 v20∧
 ∃v21,aO h15 (adr a19 (t14.toNat*2)) 1 v21∧
 (cB t14 x0.len∧∃a22,x0.a=some a22∧
 (ml h15 (adr a22 (t14.toNat*2)) (ij v17 v18) (fun h23=>
 (cB (IntKind.wrap .i64 (t14+1)) x0.len∧∃a24,x0.a=some a24∧
 (ml h23 (adr a24 ((IntKind.wrap .i64 (t14+1)).toNat*2)) (ij v20 v21) (fun h25=>
 I13 (IntKind.wrap .i64 (t14+1)) h25))))))))) (
 K () h15)) x1 h3)) (x2,x3) h0) (
 CondP ((IntKind.wrap .i64 (x3-x2))==(1:Int)) (
 LoopP (fun I26 (t27:Int×Int) h28=>
 CondP (decide (t27.1<t27.2)) (
 ((0:Int)≤(1:Int)∧
 Bd (dY (IntKind.wrap .u64 (IntKind.wrap .i64 (t27.1+t27.2))) (2^(min (1:Int).toNat (IntKind.bits .u64))):Int) (fun n29=>
 (cB x2 x0.len∧∃a30,x0.a=some a30∧
 ∃v31,aO h28 (adr a30 (x2.toNat*2)) 0 v31∧
 ∃v32,aO h28 (adr a30 (x2.toNat*2)) 1 v32∧
 (cB (IntKind.wrap .i64 n29) x0.len∧∃a33,x0.a=some a33∧
 ∃v34,aO h28 (adr a33 ((IntKind.wrap .i64 n29).toNat*2)) 0 v34∧
 ∃v35,aO h28 (adr a33 ((IntKind.wrap .i64 n29).toNat*2)) 1 v35∧
 HV PG x4 [qn v31 v32,qn v34 v35] cr (fun(e36:Int) h37=>
 CondP (!(decide (e36<(0:Int)))) (
 I26 (IntKind.wrap .i64 ((IntKind.wrap .i64 n29)+1),t27.2) h37) (
 I26 (t27.1,IntKind.wrap .i64 n29) h37)) h28))))) (
 LoopP (fun I38 (t39:Int) h40=>
 CondP (decide (t39>t27.1)) (
 (cB (IntKind.wrap .i64 (t39-1)) x0.len∧∃a41,x0.a=some a41∧
 ∃v42,bM h40 (adr a41 ((IntKind.wrap .i64 (t39-1)).toNat*2)) 0 (.string v42)∧
 ∃v43,bM h40 (adr a41 ((IntKind.wrap .i64 (t39-1)).toNat*2)) 1 (.string v43)∧
 (cB t39 x0.len∧∃a44,x0.a=some a44∧
 ∃v45,aO h40 (adr a44 (t39.toNat*2)) 0 v45∧
 ∃v46,aO h40 (adr a44 (t39.toNat*2)) 1 v46∧
 (cB t39 x0.len∧∃a47,x0.a=some a47∧
 (ml h40 (adr a47 (t39.toNat*2)) (ij v42 v43) (fun h48=>
 (cB (IntKind.wrap .i64 (t39-1)) x0.len∧∃a49,x0.a=some a49∧
 (ml h48 (adr a49 ((IntKind.wrap .i64 (t39-1)).toNat*2)) (ij v45 v46) (fun h50=>
 I38 (IntKind.wrap .i64 (t39-1)) h50))))))))) (
 K () h40)) x2 h28)) (x1,x2) h0) (
 ((0:Int)≤(1:Int)∧
 Bd (dY (IntKind.wrap .u64 (IntKind.wrap .i64 (x1+x3))) (2^(min (1:Int).toNat (IntKind.bits .u64))):Int) (fun n51=>
 Join (fun(t54:Int×Int) h55=>
 Bd (IntKind.wrap .i64 ((IntKind.wrap .i64 ((IntKind.wrap .i64 n51)+x2))-1):Int) (fun n56=>
 LoopP (fun I57 (t58:Int×Int) h59=>
 CondP (decide (t58.1<t58.2)) (
 ((0:Int)≤(1:Int)∧
 Bd (dY (IntKind.wrap .u64 (IntKind.wrap .i64 (t58.1+t58.2))) (2^(min (1:Int).toNat (IntKind.bits .u64))):Int) (fun n60=>
 (cB (IntKind.wrap .i64 (n56-(IntKind.wrap .i64 n60))) x0.len∧∃a61,x0.a=some a61∧
 ∃v62,bM h59 (adr a61 ((IntKind.wrap .i64 (n56-(IntKind.wrap .i64 n60))).toNat*2)) 0 (.string v62)∧
 ∃v63,bM h59 (adr a61 ((IntKind.wrap .i64 (n56-(IntKind.wrap .i64 n60))).toNat*2)) 1 (.string v63)∧
 (cB (IntKind.wrap .i64 n60) x0.len∧∃a64,x0.a=some a64∧
 ∃v65,aO h59 (adr a64 ((IntKind.wrap .i64 n60).toNat*2)) 0 v65∧
 ∃v66,aO h59 (adr a64 ((IntKind.wrap .i64 n60).toNat*2)) 1 v66∧
 HV PG x4 [qn v62 v63,qn v65 v66] cr (fun(e67:Int) h68=>
 CondP (!(decide (e67<(0:Int)))) (
 I57 (IntKind.wrap .i64 ((IntKind.wrap .i64 n60)+1),t58.2) h68) (
 I57 (t58.1,IntKind.wrap .i64 n60) h68)) h59))))) (
 Bd (IntKind.wrap .i64 ((IntKind.wrap .i64 ((IntKind.wrap .i64 n51)+x2))-t58.1):Int) (fun n69=>
 Join (fun(t76:Unit) h77=>
 Join (fun(t84:Unit) h85=>
 Join (fun(t87:Bool) h88=>
 CondP t87 (
 HC PG dd [.slice x0.a x0.len x0.cap,.int .i64 (IntKind.wrap .i64 n51),.int .i64 n69,.int .i64 x3,x4] [] (fun(e89:Unit) h90=>
 K () h90) h88) (
 K () h88)) (fun J86=>
 CondP (decide ((IntKind.wrap .i64 n51)<n69)) (
 J86 (decide (n69<x3)) h85) (
 J86 false h85))) (fun J78=>
 Join (fun(t80:Bool) h81=>
 CondP t80 (
 HC PG dd [.slice x0.a x0.len x0.cap,.int .i64 x1,.int .i64 t58.1,.int .i64 (IntKind.wrap .i64 n51),x4] [] (fun(e82:Unit) h83=>
 J78 () h83) h81) (
 J78 () h81)) (fun J79=>
 CondP (decide (x1<t58.1)) (
 J79 (decide (t58.1<(IntKind.wrap .i64 n51))) h77) (
 J79 false h77)))) (fun J70=>
 Join (fun(t72:Bool) h73=>
 CondP t72 (
 HC PG gK [.slice x0.a x0.len x0.cap,.int .i64 t58.1,.int .i64 x2,.int .i64 n69,x4] [] (fun(e74:Unit) h75=>
 J70 () h75) h73) (
 J70 () h73)) (fun J71=>
 CondP (decide (t58.1<x2)) (
 J71 (decide (x2<n69)) h59) (
 J71 false h59)))))) (t54.1,t54.2) h55)) (fun J52=>
 CondP (decide (x2>(IntKind.wrap .i64 n51))) (
 Bd (IntKind.wrap .i64 ((IntKind.wrap .i64 ((IntKind.wrap .i64 n51)+x2))-x3):Int) (fun n53=>
 J52 (n53,IntKind.wrap .i64 n51) h0)) (
 J52 (x1,x2) h0))))))
noncomputable def pe:Ann:=.node (.node .nil (.node (.node .nil (.node .nil (.node (.loop [(10,.c (.int .i64)),(11,.c (.int .i64))] .nil) (.node (.node .nil (.loop [(13,.c (.int .i64))] .nil)) .nil)))) .nil)) (.node (.node .nil (.node (.node .nil (.node .nil (.node (.loop [(14,.c (.int .i64)),(15,.c (.int .i64))] .nil) (.node (.node .nil (.loop [(17,.c (.int .i64))] .nil)) .nil)))) .nil)) (.node .nil (.node .nil (.node .nil (.join [(20,.c (.int .i64)),(21,.c (.int .i64))] .nil (.node .nil (.node (.loop [(20,.c (.int .i64)),(21,.c (.int .i64))] .nil) (.node .nil (.join [] (.join [(185,.c .bool)] .nil .nil) (.join [] (.join [(199,.c .bool)] .nil .nil) (.join [(213,.c .bool)] .nil .nil)))))))))))
theorem pa(x0:SliceV)(x1:Int)(x2:Int)(x3:Int)(x4:Value){K:cQ []→ae→Prop}{h0:ae}(h:jZ x0 x1 x2 x3 x4 K h0):HC PG dd [.slice x0.a x0.len x0.cap,.int .i64 x1,.int .i64 x2,.int .i64 x3,x4] [] K h0:=dL pe Tryz.func278 Tryz.call278 rfl rfl (by kernel_rfl) h
def oG(x0:Int)(x1:Int)(K:(Int)→ae→Prop)(h0:ae):Prop:=
 Bd (IntKind.wrap .u64 (ao (IntKind.bits .u64) (IntKind.wrap .u64 x1)&&&ao (IntKind.bits .u64) 63).toNat:Int) (fun n1=>
 ((0:Int)≤n1∧
 Bd (IntKind.wrap .u64 (x0*2^(min (n1:Int).toNat (IntKind.bits .u64))):Int) (fun n2=>
 ((0:Int)≤(IntKind.wrap .u64 (64-n1))∧
 Bd (dY x0 (2^(min (IntKind.wrap .u64 (64-n1):Int).toNat (IntKind.bits .u64))):Int) (fun n3=>
 Bd (IntKind.wrap .u64 (ao (IntKind.bits .u64) n2|||ao (IntKind.bits .u64) n3).toNat:Int) (fun n4=>
 K n4 h0))))))
theorem vl(x0:Int)(x1:Int){K:cQ eW→ae→Prop}{h0:ae}(h:oG x0 x1 K h0):HC PG dK (nf x0 x1) eW K h0:=dL .nil Tryz.func279 Tryz.call279 rfl rfl (by kernel_rfl) h
def uL(x0:Option Addr)(x1:Option Addr)(K:(Bool)→ae→Prop)(h0:ae):Prop:=
 CondP (!(x0.isNone)) (
 HC PG ik [.pointer x1] [.c .bool] (fun(e1:Bool) h2=>
 CondP e1 (
 ∃a3,x0=some a3∧
 ∃v4,rX h2 a3 5 v4∧
 (True∧(∀x y:Addr,v4=some x→x1=some y→f8 h2 x∧f8 h2 y)∧
 K (v4==x1) h2)) (
 K false h2)) h0) (
 K false h0)
theorem Cl(x0:Option Addr)(x1:Option Addr){K:cQ [.c .bool]→ae→Prop}{h0:ae}(h:uL x0 x1 K h0):HC PG pQ (sr x0 x1) [.c .bool] K h0:=dL .nil Tryz.func280 Tryz.call280 rfl rfl (by kernel_rfl) h
def iV(x0:SliceV)(K:(SliceV)→ae→Prop)(h0:ae):Prop:=
 LoopP (fun I1 (t2:Int×Int) h3=>
 CondP (decide (t2.2<(x0.len:Int))) (
 Join (fun(t7:Int) h8=>
 I1 (t7,IntKind.wrap .i64 (t2.2+1)) h8) (fun J4=>
 (cB t2.2 x0.len∧∃a5,x0.a=some a5∧
 ∃v6:SliceV,bM h3 a5 (t2.2.toNat*1) (.slice v6.a v6.len v6.cap)∧
 CondP (decide ((IntKind.wrap .i64 (t2.1+(v6.len:Int)))<(0:Int))) (
 False) (
 J4 (IntKind.wrap .i64 (t2.1+(v6.len:Int))) h3)))) (
 HC PG gb [.slice none 0 0,.int .i64 t2.1] [.c .slice] (fun(e9:SliceV) h10=>
 LoopP (fun I11 (t12:SliceV×Int) h13=>
 CondP (decide (t12.2<(x0.len:Int))) (
 Join (fun(t20:SliceV) h21=>
 I11 (t20,IntKind.wrap .i64 (t12.2+1)) h21) (fun J14=>
 (cB t12.2 x0.len∧∃a15,x0.a=some a15∧
 ∃v16:SliceV,bM h13 a15 (t12.2.toNat*1) (.slice v16.a v16.len v16.cap)∧
 ∃xs17,SRow h13 v16.a (v16.len*2) xs17∧
 AppP (some kZ) 2 32 al t12.1.a t12.1.len t12.1.cap v16.len xs17 h13 (fun s18 h19=>
 J14 s18 h19)))) (
 K t12.1 h13)) (e9,0) h10) h3)) (0,0) h0
noncomputable def nM:Ann:=.node .nil (.node .nil (.node (.node .nil (.loop [(3,.c (.int .i64)),(11,.c (.int .i64))] (.node .nil (.node .nil (.join [(3,.c (.int .i64))] .nil .nil))))) (.node .nil (.node (.node .nil (.loop [(6,.c .slice),(27,.c (.int .i64))] (.node .nil (.node .nil (.join [(6,.c .slice)] .nil .nil))))) .nil))))
theorem nJ(x0:SliceV){K:cQ [.c .slice]→ae→Prop}{h0:ae}(h:iV x0 K h0):HC PG fI [.slice x0.a x0.len x0.cap] [.c .slice] K h0:=dL nM Tryz.func281 Tryz.call281 rfl rfl (by kernel_rfl) h
def gM(x0:SliceV)(x1:Int)(x2:Int)(x3:Value)(K:(Unit)→ae→Prop)(h0:ae):Prop:=
 LoopP (fun I1 (t2:Int) h3=>
 CondP (decide (t2<x2)) (
 LoopP (fun I4 (t5:Int) h6=>
 Join (fun(t18:Bool) h19=>
 CondP t18 (
 (cB (IntKind.wrap .i64 (t5-1)) x0.len∧∃a20,x0.a=some a20∧
 ∃v21,bM h19 (adr a20 ((IntKind.wrap .i64 (t5-1)).toNat*3)) 0 (.string v21)∧
 ∃v22,bM h19 (adr a20 ((IntKind.wrap .i64 (t5-1)).toNat*3)) 1 (.string v22)∧
 ∃v23,bM h19 (adr a20 ((IntKind.wrap .i64 (t5-1)).toNat*3)) 2 (.int .u64 v23)∧
 (cB t5 x0.len∧∃a24,x0.a=some a24∧
 ∃v25,aO h19 (adr a24 (t5.toNat*3)) 0 v25∧
 ∃v26,aO h19 (adr a24 (t5.toNat*3)) 1 v26∧
 ∃v27,cM h19 (adr a24 (t5.toNat*3)) 2 v27∧
 (cB t5 x0.len∧∃a28,x0.a=some a28∧
 (ml h19 (adr a28 (t5.toNat*3)) (LT v21 v22 v23) (fun h29=>
 (cB (IntKind.wrap .i64 (t5-1)) x0.len∧∃a30,x0.a=some a30∧
 (ml h29 (adr a30 ((IntKind.wrap .i64 (t5-1)).toNat*3)) (LT v25 v26 v27) (fun h31=>
 I4 (IntKind.wrap .i64 (t5-1)) h31))))))))) (
 I1 (IntKind.wrap .i64 (t2+1)) h19)) (fun J7=>
 CondP (decide (t5>x1)) (
 (cB t5 x0.len∧∃a8,x0.a=some a8∧
 ∃v9,aO h6 (adr a8 (t5.toNat*3)) 0 v9∧
 ∃v10,aO h6 (adr a8 (t5.toNat*3)) 1 v10∧
 ∃v11,cM h6 (adr a8 (t5.toNat*3)) 2 v11∧
 (cB (IntKind.wrap .i64 (t5-1)) x0.len∧∃a12,x0.a=some a12∧
 ∃v13,bM h6 (adr a12 ((IntKind.wrap .i64 (t5-1)).toNat*3)) 0 (.string v13)∧
 ∃v14,bM h6 (adr a12 ((IntKind.wrap .i64 (t5-1)).toNat*3)) 1 (.string v14)∧
 ∃v15,bM h6 (adr a12 ((IntKind.wrap .i64 (t5-1)).toNat*3)) 2 (.int .u64 v15)∧
 HV PG x3 [Bb v9 v10 v11,Bb v13 v14 v15] cr (fun(e16:Int) h17=>
 J7 (decide (e16<(0:Int))) h17) h6))) (
 J7 false h6))) t2 h3) (
 K () h3)) (IntKind.wrap .i64 (x1+1)) h0
noncomputable def lT:Ann:=.node .nil (.loop [(8,.c (.int .i64))] (.node .nil (.node (.node .nil (.loop [(9,.c (.int .i64))] (.node (.join [(34,.c .bool)] .nil .nil) .nil))) .nil)))
theorem lQ(x0:SliceV)(x1:Int)(x2:Int)(x3:Value){K:cQ []→ae→Prop}{h0:ae}(h:gM x0 x1 x2 x3 K h0):HC PG dD [.slice x0.a x0.len x0.cap,.int .i64 x1,.int .i64 x2,x3] [] K h0:=dL lT Tryz.func282 Tryz.call282 rfl rfl (by kernel_rfl) h
def iU(x0:SliceV)(x1:Int)(x2:Int)(K:(SliceV)→ae→Prop)(h0:ae):Prop:=
 (((0:Int)≤(x0.len:Int)∧(x0.len:Int)≤((x0.cap:Nat):Int))∧
 (((0:Int)≤x2∧x2≤(((x0.len:Int).toNat:Nat):Int))∧
 (((0:Int)≤x1∧x1≤((x2.toNat:Nat):Int))∧
 CondP (x1==x2) (
 K x0 h0) (
 Join (fun(t5:SliceV) h6=>
 (((0:Int)≤(x0.len:Int)∧(x0.len:Int)≤((t5.cap:Nat):Int))∧
 (((0:Int)≤(t5.len:Int)∧(t5.len:Int)≤(((x0.len:Int).toNat:Nat):Int))∧
 Bd (bj t5.a ((t5.len:Int).toNat) t5.cap 2:Option Addr) (fun a7=>Bd (((x0.len:Int).toNat)-((t5.len:Int).toNat):Nat) (fun n8=>Bd (t5.cap-((t5.len:Int).toNat):Nat) (fun n9=>
 (r9 h6 a7 0 (eD n8 kZ)∧
 At (gF h6 a7 0 (eD n8 kZ)) (fun h10=>
 K t5 h10)))))))) (fun J1=>
 (((0:Int)≤x1∧x1≤((x0.cap:Nat):Int))∧
 (((0:Int)≤x2∧x2≤((x0.len:Nat):Int))∧
 ∃xs2,SRow h0 (bj x0.a x2.toNat x0.cap 2) ((x0.len-x2.toNat)*2) xs2∧
 AppP (some kZ) 2 32 al (bj x0.a 0 x0.cap 2) (x1.toNat-0) (x0.cap-0) (x0.len-x2.toNat) xs2 h0 (fun s3 h4=>
 J1 s3 h4))))))))
noncomputable def nL:Ann:=.node .nil (.node .nil (.node .nil (.node .nil (.join [(0,.c .slice)] .nil .nil))))
theorem nI(x0:SliceV)(x1:Int)(x2:Int){K:cQ [.c .slice]→ae→Prop}{h0:ae}(h:iU x0 x1 x2 K h0):HC PG fH (To x0 x1 x2) [.c .slice] K h0:=dL nL Tryz.func284 Tryz.call284 rfl rfl (by kernel_rfl) h
def g7(x0:SliceV)(x1:Int)(x2:Int)(K:(SliceV)→ae→Prop)(h0:ae):Prop:=
 (((0:Int)≤(x0.len:Int)∧(x0.len:Int)≤((x0.cap:Nat):Int))∧
 (((0:Int)≤x2∧x2≤(((x0.len:Int).toNat:Nat):Int))∧
 (((0:Int)≤x1∧x1≤((x2.toNat:Nat):Int))∧
 CondP (x1==x2) (
 K x0 h0) (
 Join (fun(t5:SliceV) h6=>
 (((0:Int)≤(x0.len:Int)∧(x0.len:Int)≤((t5.cap:Nat):Int))∧
 (((0:Int)≤(t5.len:Int)∧(t5.len:Int)≤(((x0.len:Int).toNat:Nat):Int))∧
 Bd (bj t5.a ((t5.len:Int).toNat) t5.cap 1:Option Addr) (fun a7=>Bd (((x0.len:Int).toNat)-((t5.len:Int).toNat):Nat) (fun n8=>Bd (t5.cap-((t5.len:Int).toNat):Nat) (fun n9=>
 (r9 h6 a7 0 (eD n8 [.pointer none])∧
 At (gF h6 a7 0 (eD n8 [.pointer none])) (fun h10=>
 K t5 h10)))))))) (fun J1=>
 (((0:Int)≤x1∧x1≤((x0.cap:Nat):Int))∧
 (((0:Int)≤x2∧x2≤((x0.len:Nat):Int))∧
 ∃xs2,SRow h0 (bj x0.a x2.toNat x0.cap 1) ((x0.len-x2.toNat)*1) xs2∧
 AppP (some [.pointer none]) 1 8 bV (bj x0.a 0 x0.cap 1) (x1.toNat-0) (x0.cap-0) (x0.len-x2.toNat) xs2 h0 (fun s3 h4=>
 J1 s3 h4))))))))
noncomputable def mc:Ann:=.node .nil (.node .nil (.node .nil (.node .nil (.join [(0,.c .slice)] .nil .nil))))
theorem l8(x0:SliceV)(x1:Int)(x2:Int){K:cQ [.c .slice]→ae→Prop}{h0:ae}(h:g7 x0 x1 x2 K h0):HC PG eY (To x0 x1 x2) [.c .slice] K h0:=dL mc Tryz.func285 Tryz.call285 rfl rfl (by kernel_rfl) h
def rB(x0:Int)(x1:Int)(K:(Int)→ae→Prop)(h0:ae):Prop:=
 HC PG oy [.int .i64 x1] [.c .bool] (fun(e1:Bool) h2=>
 CondP (!e1) (
 K x0 h2) (
 ((0:Int)≤x1∧
 Bd (IntKind.wrap .u32 (ao (IntKind.bits .u32) x0&&& ~~~ao (IntKind.bits .u32) (IntKind.wrap .u32 (1*2^(min (x1:Int).toNat (IntKind.bits .u32))))).toNat:Int) (fun n3=>
 K n3 h2)))) h0
theorem yr(x0:Int)(x1:Int){K:cQ j7→ae→Prop}{h0:ae}(h:rB x0 x1 K h0):HC PG kC (oS x0 x1) j7 K h0:=dL .nil Tryz.func286 Tryz.call286 rfl rfl (by kernel_rfl) h
def Hv(x0:Int)(x1:Int)(K:(Int)→ae→Prop)(h0:ae):Prop:=
 LoopP (fun I1 (t2:Int×Int) h3=>
 CondP (decide (t2.2<x1)) (
 ((9223372036854775808:Int)≠0∧
 Bd (IntKind.wrap .u64 ((IntKind.wrap .u64 (t2.1*2))+(IntKind.wrap .u64 (Int.tdiv t2.1 9223372036854775808))):Int) (fun n4=>
 I1 (n4,IntKind.wrap .i64 (t2.2+1)) h3))) (
 K t2.1 h3)) (x0,0) h0
noncomputable def P7:Ann:=.node .nil (.node (.node .nil (.loop [(0,.c (.int .u64)),(5,.c (.int .i64))] .nil)) .nil)
theorem PQ(x0:Int)(x1:Int){K:cQ eW→ae→Prop}{h0:ae}(h:Hv x0 x1 K h0):HC PG m4 (nf x0 x1) eW K h0:=dL P7 Tryz.func291 Tryz.call291 rfl rfl (by kernel_rfl) h
def lD(x0:ByteArray)(x1:ByteArray)(K:(Bool)→ae→Prop)(h0:ae):Prop:=
 CondP (decide ((x0.size:Int)≥(x1.size:Int))) (
 (((0:Int)≤(x1.size:Int)∧(x1.size:Int)≤((x0.size:Nat):Int))∧
 K ((x0.extract 0 ((x1.size:Int).toNat)).toList==x1.toList) h0)) (
 K false h0)
theorem rz(x0:ByteArray)(x1:ByteArray){K:cQ [.c .bool]→ae→Prop}{h0:ae}(h:lD x0 x1 K h0):HC PG lB (ij x0 x1) [.c .bool] K h0:=dL .nil Tryz.func293 Tryz.call293 rfl rfl (by kernel_rfl) h
def po(x0:Int)(K:(Int)→ae→Prop)(h0:ae):Prop:=
 ((0:Int)≤(24:Int)∧
 ∃b1,(0:Int)≤(dY x0 (2^(min (24:Int).toNat (IntKind.bits .u32))))∧(⟨#[0,1,1,2,1,2,2,3,1,2,2,3,2,3,3,4,1,2,2,3,2,3,3,4,2,3,3,4,3,4,4,5,1,2,2,3,2,3,3,4,2,3,3,4,3,4,4,5,2,3,3,4,3,4,4,5,3,4,4,5,4,5,5,6,1,2,2,3,2,3,3,4,2,3,3,4,3,4,4,5,2,3,3,4,3,4,4,5,3,4,4,5,4,5,5,6,2,3,3,4,3,4,4,5,3,4,4,5,4,5,5,6,3,4,4,5,4,5,5,6,4,5,5,6,5,6,6,7,1,2,2,3,2,3,3,4,2,3,3,4,3,4,4,5,2,3,3,4,3,4,4,5,3,4,4,5,4,5,5,6,2,3,3,4,3,4,4,5,3,4,4,5,4,5,5,6,3,4,4,5,4,5,5,6,4,5,5,6,5,6,6,7,2,3,3,4,3,4,4,5,3,4,4,5,4,5,5,6,3,4,4,5,4,5,5,6,4,5,5,6,5,6,6,7,3,4,4,5,4,5,5,6,4,5,5,6,5,6,6,7,4,5,5,6,5,6,6,7,5,6,6,7,6,7,7,8]⟩:ByteArray)[(dY x0 (2^(min (24:Int).toNat (IntKind.bits .u32)))).toNat]? =some b1∧
 ((0:Int)≤(16:Int)∧
 Bd (IntKind.wrap .u32 (ao (IntKind.bits .u32) (dY x0 (2^(min (16:Int).toNat (IntKind.bits .u32))))&&&ao (IntKind.bits .u32) 255).toNat:Int) (fun n2=>
 ∃b3,(0:Int)≤n2∧(⟨#[0,1,1,2,1,2,2,3,1,2,2,3,2,3,3,4,1,2,2,3,2,3,3,4,2,3,3,4,3,4,4,5,1,2,2,3,2,3,3,4,2,3,3,4,3,4,4,5,2,3,3,4,3,4,4,5,3,4,4,5,4,5,5,6,1,2,2,3,2,3,3,4,2,3,3,4,3,4,4,5,2,3,3,4,3,4,4,5,3,4,4,5,4,5,5,6,2,3,3,4,3,4,4,5,3,4,4,5,4,5,5,6,3,4,4,5,4,5,5,6,4,5,5,6,5,6,6,7,1,2,2,3,2,3,3,4,2,3,3,4,3,4,4,5,2,3,3,4,3,4,4,5,3,4,4,5,4,5,5,6,2,3,3,4,3,4,4,5,3,4,4,5,4,5,5,6,3,4,4,5,4,5,5,6,4,5,5,6,5,6,6,7,2,3,3,4,3,4,4,5,3,4,4,5,4,5,5,6,3,4,4,5,4,5,5,6,4,5,5,6,5,6,6,7,3,4,4,5,4,5,5,6,4,5,5,6,5,6,6,7,4,5,5,6,5,6,6,7,5,6,6,7,6,7,7,8]⟩:ByteArray)[n2.toNat]? =some b3∧
 ((0:Int)≤(8:Int)∧
 Bd (IntKind.wrap .u32 (ao (IntKind.bits .u32) (dY x0 (2^(min (8:Int).toNat (IntKind.bits .u32))))&&&ao (IntKind.bits .u32) 255).toNat:Int) (fun n4=>
 ∃b5,(0:Int)≤n4∧(⟨#[0,1,1,2,1,2,2,3,1,2,2,3,2,3,3,4,1,2,2,3,2,3,3,4,2,3,3,4,3,4,4,5,1,2,2,3,2,3,3,4,2,3,3,4,3,4,4,5,2,3,3,4,3,4,4,5,3,4,4,5,4,5,5,6,1,2,2,3,2,3,3,4,2,3,3,4,3,4,4,5,2,3,3,4,3,4,4,5,3,4,4,5,4,5,5,6,2,3,3,4,3,4,4,5,3,4,4,5,4,5,5,6,3,4,4,5,4,5,5,6,4,5,5,6,5,6,6,7,1,2,2,3,2,3,3,4,2,3,3,4,3,4,4,5,2,3,3,4,3,4,4,5,3,4,4,5,4,5,5,6,2,3,3,4,3,4,4,5,3,4,4,5,4,5,5,6,3,4,4,5,4,5,5,6,4,5,5,6,5,6,6,7,2,3,3,4,3,4,4,5,3,4,4,5,4,5,5,6,3,4,4,5,4,5,5,6,4,5,5,6,5,6,6,7,3,4,4,5,4,5,5,6,4,5,5,6,5,6,6,7,4,5,5,6,5,6,6,7,5,6,6,7,6,7,7,8]⟩:ByteArray)[n4.toNat]? =some b5∧
 Bd (IntKind.wrap .u8 ((IntKind.wrap .u8 ((b1.toNat:Int)+(b3.toNat:Int)))+(b5.toNat:Int)):Int) (fun n6=>
 Bd (IntKind.wrap .u32 (ao (IntKind.bits .u32) x0&&&ao (IntKind.bits .u32) 255).toNat:Int) (fun n7=>
 ∃b8,(0:Int)≤n7∧(⟨#[0,1,1,2,1,2,2,3,1,2,2,3,2,3,3,4,1,2,2,3,2,3,3,4,2,3,3,4,3,4,4,5,1,2,2,3,2,3,3,4,2,3,3,4,3,4,4,5,2,3,3,4,3,4,4,5,3,4,4,5,4,5,5,6,1,2,2,3,2,3,3,4,2,3,3,4,3,4,4,5,2,3,3,4,3,4,4,5,3,4,4,5,4,5,5,6,2,3,3,4,3,4,4,5,3,4,4,5,4,5,5,6,3,4,4,5,4,5,5,6,4,5,5,6,5,6,6,7,1,2,2,3,2,3,3,4,2,3,3,4,3,4,4,5,2,3,3,4,3,4,4,5,3,4,4,5,4,5,5,6,2,3,3,4,3,4,4,5,3,4,4,5,4,5,5,6,3,4,4,5,4,5,5,6,4,5,5,6,5,6,6,7,2,3,3,4,3,4,4,5,3,4,4,5,4,5,5,6,3,4,4,5,4,5,5,6,4,5,5,6,5,6,6,7,3,4,4,5,4,5,5,6,4,5,5,6,5,6,6,7,4,5,5,6,5,6,6,7,5,6,6,7,6,7,7,8]⟩:ByteArray)[n7.toNat]? =some b8∧
 K (IntKind.wrap .i64 (IntKind.wrap .u8 (n6+(b8.toNat:Int)))) h0)))))))
theorem vQ(x0:Int){K:cQ cr→ae→Prop}{h0:ae}(h:po x0 K h0):HC PG lh [.int .u32 x0] cr K h0:=dL .nil Tryz.func294 Tryz.call294 rfl rfl (by kernel_rfl) h
def kE(x0:SliceV)(x1:Int)(x2:Int)(x3:Int)(x4:Value)(K:(Unit)→ae→Prop)(h0:ae):Prop:=
 LoopP (fun I1 (t2:Int×Int) h3=>
 CondP (t2.1 !=t2.2) (
 CondP (decide (t2.1>t2.2)) (
 HC PG dJ [.slice x0.a x0.len x0.cap,.int .i64 (IntKind.wrap .i64 (x2-t2.1)),.int .i64 x2,.int .i64 t2.2,x4] [] (fun(e4:Unit) h5=>
 I1 (IntKind.wrap .i64 (t2.1-t2.2),t2.2) h5) h3) (
 HC PG dJ [.slice x0.a x0.len x0.cap,.int .i64 (IntKind.wrap .i64 (x2-t2.1)),.int .i64 (IntKind.wrap .i64 ((IntKind.wrap .i64 (x2+t2.2))-t2.1)),.int .i64 t2.1,x4] [] (fun(e6:Unit) h7=>
 I1 (t2.1,IntKind.wrap .i64 (t2.2-t2.1)) h7) h3)) (
 HC PG dJ [.slice x0.a x0.len x0.cap,.int .i64 (IntKind.wrap .i64 (x2-t2.1)),.int .i64 x2,.int .i64 t2.1,x4] [] (fun(e8:Unit) h9=>
 K () h9) h3)) (IntKind.wrap .i64 (x2-x1),IntKind.wrap .i64 (x3-x2)) h0
noncomputable def p7:Ann:=.node .nil (.node .nil (.node (.loop [(10,.c (.int .i64)),(11,.c (.int .i64))] .nil) .nil))
theorem pY(x0:SliceV)(x1:Int)(x2:Int)(x3:Int)(x4:Value){K:cQ []→ae→Prop}{h0:ae}(h:kE x0 x1 x2 x3 x4 K h0):HC PG gK [.slice x0.a x0.len x0.cap,.int .i64 x1,.int .i64 x2,.int .i64 x3,x4] [] K h0:=dL p7 Tryz.func298 Tryz.call298 rfl rfl (by kernel_rfl) h
def jF(x0:SliceV)(x1:Int)(K:(SliceV)→ae→Prop)(h0:ae):Prop:=
 Join (fun(t2:Unit) h3=>
 Bd (IntKind.wrap .i64 (x1-(IntKind.wrap .i64 ((x0.cap:Int)-(x0.len:Int)))):Int) (fun n4=>
 CondP (decide (n4>(0:Int))) (
 (((0:Int)≤(x0.cap:Int)∧(x0.cap:Int)≤((x0.cap:Nat):Int))∧
 (((0:Int)≤n4∧n4*((32:Nat):Int)≤2^48∧n4≤9223372036854775807∧(((((x0.cap:Int).toNat)-0)+n4.toNat:Nat):Int)≤9223372036854775807)∧
 AppP (some kZ) 2 32 al (bj x0.a 0 x0.cap 2) (((x0.cap:Int).toNat)-0) (x0.cap-0) n4.toNat (eD n4.toNat kZ) h3 (fun s5 h6=>
 (((0:Int)≤(x0.len:Int)∧(x0.len:Int)≤((s5.cap:Nat):Int))∧
 K ⟨bj s5.a 0 s5.cap 2,((x0.len:Int).toNat)-0,s5.cap-0⟩ h6))))) (
 K x0 h3))) (fun J1=>
 CondP (decide (x1<(0:Int))) (
 False) (
 J1 () h0))
noncomputable def oK:Ann:=.node .nil (.join [] .nil .nil)
theorem oF(x0:SliceV)(x1:Int){K:cQ [.c .slice]→ae→Prop}{h0:ae}(h:jF x0 x1 K h0):HC PG gb (VD x0 x1) [.c .slice] K h0:=dL oK Tryz.func299 Tryz.call299 rfl rfl (by kernel_rfl) h
def jC(x0:SliceV)(x1:Int)(x2:Int)(x3:Int)(x4:Value)(K:(Unit)→ae→Prop)(h0:ae):Prop:=
 LoopP (fun I1 (t2:Int) h3=>
 CondP (decide (t2<x3)) (
 (cB (IntKind.wrap .i64 (x2+t2)) x0.len∧∃a4,x0.a=some a4∧
 ∃v5,bM h3 (adr a4 ((IntKind.wrap .i64 (x2+t2)).toNat*2)) 0 (.string v5)∧
 ∃v6,bM h3 (adr a4 ((IntKind.wrap .i64 (x2+t2)).toNat*2)) 1 (.string v6)∧
 (cB (IntKind.wrap .i64 (x1+t2)) x0.len∧∃a7,x0.a=some a7∧
 ∃v8,bM h3 (adr a7 ((IntKind.wrap .i64 (x1+t2)).toNat*2)) 0 (.string v8)∧
 ∃v9,bM h3 (adr a7 ((IntKind.wrap .i64 (x1+t2)).toNat*2)) 1 (.string v9)∧
 (cB (IntKind.wrap .i64 (x1+t2)) x0.len∧∃a10,x0.a=some a10∧
 (ml h3 (adr a10 ((IntKind.wrap .i64 (x1+t2)).toNat*2)) (ij v5 v6) (fun h11=>
 (cB (IntKind.wrap .i64 (x2+t2)) x0.len∧∃a12,x0.a=some a12∧
 (ml h11 (adr a12 ((IntKind.wrap .i64 (x2+t2)).toNat*2)) (ij v8 v9) (fun h13=>
 I1 (IntKind.wrap .i64 (t2+1)) h13))))))))) (
 K () h3)) 0 h0
noncomputable def oH:Ann:=.node .nil (.loop [(10,.c (.int .i64))] .nil)
theorem oC(x0:SliceV)(x1:Int)(x2:Int)(x3:Int)(x4:Value){K:cQ []→ae→Prop}{h0:ae}(h:jC x0 x1 x2 x3 x4 K h0):HC PG dJ [.slice x0.a x0.len x0.cap,.int .i64 x1,.int .i64 x2,.int .i64 x3,x4] [] K h0:=dL oH Tryz.func304 Tryz.call304 rfl rfl (by kernel_rfl) h
end Go.Proofs
