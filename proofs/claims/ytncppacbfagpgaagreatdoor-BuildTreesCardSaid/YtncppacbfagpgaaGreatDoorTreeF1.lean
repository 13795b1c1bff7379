/- A part of the proof that the named laws of this program answer true, whatever the input. -/
import Derived.Test.YtncppacbfagpgaaGreatDoorTreeF
set_option maxRecDepth 100000
set_option linter.unusedVariables false
open Array renaming size→bO,setIfInBounds→bJ
open BitVec renaming ofInt→af
open Int renaming fdiv→dE,tmod→gA,tdiv→kP
open Nat renaming min→fl
namespace Go.Proofs
open Go.Lift
def tR(x0:ByteArray×ByteArray×Int)(y0:Addr)(K:(Int)→ad→Prop)(h0:ad):Prop:=
 At (hnew h0 (Hy x0) aG) (fun h1=>
 ∃v2,ar h1 h0 2 v2∧
 ∃v3,aO h1 y0=some (.int .i64 v3)∧
 HC PG pF (oC v2 v3) bV (fun(e4:Int) h5=>
 K e4 h5) h1)
theorem Bz(x0:ByteArray×ByteArray×Int)(y0:Addr){K:cT bV→ad→Prop}{h0:ad}(h:tR x0 y0 K h0):HC PG pI [NO x0,.pointer (some y0)] bV K h0:=dL .nil Tryz.func182 Tryz.call182 rfl rfl (by kernel_rfl) h
def fw(x0:SliceV)(K:(SliceV)→ad→Prop)(h0:ad):Prop:=
 CondP x0.a.isNone (
 K ⟨none,0,0⟩ h0) (
 At (hnew h0 [] aG) (fun h1=>
 ∃xs2,SRow h1 x0.a (x0.len*3) xs2∧
 AppP (some GR) 3 40 aG (some (aC h0)) 0 0 x0.len xs2 h1 (fun s3 h4=>
 K s3 h4)))
theorem jy(x0:SliceV){K:cT [.c .slice]→ad→Prop}{h0:ad}(h:fw x0 K h0):HC PG dP [.slice x0.a x0.len x0.cap] [.c .slice] K h0:=dL .nil Tryz.func183 Tryz.call183 rfl rfl (by kernel_rfl) h
def ed(x0:SliceV)(x1:Value)(K:(Unit)→ad→Prop)(h0:ad):Prop:=
 HC PG gL [.slice x0.a x0.len x0.cap,.int .i64 (x0.len:Int),x1] [] (fun(e1:Unit) h2=>
 K () h2) h0
theorem gS(x0:SliceV)(x1:Value){K:cT []→ad→Prop}{h0:ad}(h:ed x0 x1 K h0):HC PG cy [.slice x0.a x0.len x0.cap,x1] [] K h0:=dL .nil Tryz.func184 Tryz.call184 rfl rfl (by kernel_rfl) h
def tQ(x0:ByteArray×ByteArray×Int)(x1:ByteArray×ByteArray×Int)(y0:Addr)(K:(Int)→ad→Prop)(h0:ad):Prop:=
 At (hnew h0 (Hy x0) aG) (fun h1=>
 At (hnew h1 (Hy x1) aG) (fun h2=>
 ∃v3,aO h2 y0=some (v3)∧
 ∃v4,aF h2 h0 0 v4∧
 ∃v5,aF h2 h0 1 v5∧
 ∃v6,ar h2 h0 2 v6∧
 ∃v7,aO h2 y0=some (v7)∧
 ∃v8,aF h2 h1 0 v8∧
 ∃v9,aF h2 h1 1 v9∧
 ∃v10,ar h2 h1 2 v10∧
 HV PG v3 [qE v4 v5 v6] bV (fun(e11:Int) h12=>
 ((aF h12 h1 0 v8∧aF h12 h1 1 v9∧ar h12 h1 2 v10)∧
 (aO h12 y0=some (v7)∧
 HV PG v7 [qE v8 v9 v10] bV (fun(e13:Int) h14=>
 HC PG mX (OL e11 e13) bV (fun(e15:Int) h16=>
 K e15 h16) h14) h12))) h2))
theorem Bx(x0:ByteArray×ByteArray×Int)(x1:ByteArray×ByteArray×Int)(y0:Addr){K:cT bV→ad→Prop}{h0:ad}(h:tQ x0 x1 y0 K h0):HC PG pH [NO x0,NO x1,.pointer (some y0)] bV K h0:=dL .nil Tryz.func185 Tryz.call185 rfl rfl (by kernel_rfl) h
def qy(x0:Int)(x1:Int)(K:(Int)→ad→Prop)(h0:ad):Prop:=
 HC PG l6 [.int .i64 x0] [.c .bool] (fun(e1:Bool) h2=>
 HC PG l6 [.int .i64 x1] [.c .bool] (fun(e3:Bool) h4=>
 CondP e1 (
 CondP e3 (
 K 0 h4) (
 K (-1) h4)) (
 CondP e3 (
 K 1 h4) (
 CondP (decide (x0<x1)) (
 K (-1) h4) (
 CondP (decide (x0>x1)) (
 K 1 h4) (
 K 0 h4))))) h2) h0
theorem xr(x0:Int)(x1:Int){K:cT bV→ad→Prop}{h0:ad}(h:qy x0 x1 K h0):HC PG mX (OL x0 x1) bV K h0:=dL .nil Tryz.func186 Tryz.call186 rfl rfl (by kernel_rfl) h
def eP(x0:SliceV)(x1:Value)(K:(Int)→ad→Prop)(h0:ad):Prop:=
 LoopP (fun I1 (t2:Int) h3=>
 CondP (decide (t2<(x0.len:Int))) (
 (cn t2 x0.len∧∃a4,x0.a=some a4∧
 ∃v5,aL h3 (adr a4 (t2.toNat*3)) 0 v5∧
 ∃v6,aL h3 (adr a4 (t2.toNat*3)) 1 v6∧
 ∃v7,eB h3 (adr a4 (t2.toNat*3)) 2 v7∧
 HV PG x1 [qE v5 v6 v7] [.c .bool] (fun(e8:Bool) h9=>
 CondP e8 (
 K t2 h9) (
 I1 (IntKind.wrap .i64 (t2+1)) h9)) h3)) (
 K (-1) h3)) 0 h0
noncomputable def iJ:Ann:=.node .nil (.node (.node .nil (.loop [(8,.c (.int .i64))] .nil)) .nil)
theorem iH(x0:SliceV)(x1:Value){K:cT bV→ad→Prop}{h0:ad}(h:eP x0 x1 K h0):HC PG cI [.slice x0.a x0.len x0.cap,x1] bV K h0:=dL iJ Tryz.func187 Tryz.call187 rfl rfl (by kernel_rfl) h
def tP(x0:ByteArray×ByteArray×Int)(y0:Addr)(y1:Addr)(K:(Bool)→ad→Prop)(h0:ad):Prop:=
 At (hnew h0 (Hy x0) aG) (fun h1=>
 ∃v2,aO h1 y0=some (v2)∧
 ∃v3,aF h1 h0 0 v3∧
 ∃v4,aF h1 h0 1 v4∧
 ∃v5,ar h1 h0 2 v5∧
 ∃v6,aO h1 y1=some (.int .i64 v6)∧
 HV PG v2 [qE v3 v4 v5] bV (fun(e7:Int) h8=>
 (aO h8 y1=some (.int .i64 v6)∧
 K (e7 !=v6) h8)) h1)
theorem Bw(x0:ByteArray×ByteArray×Int)(y0:Addr)(y1:Addr){K:cT [.c .bool]→ad→Prop}{h0:ad}(h:tP x0 y0 y1 K h0):HC PG pG [NO x0,.pointer (some y0),.pointer (some y1)] [.c .bool] K h0:=dL .nil Tryz.func188 Tryz.call188 rfl rfl (by kernel_rfl) h
def o9(x0:Option Addr)(x1:Option Addr)(x2:Int)(x3:ByteArray×ByteArray)(K:(Option Addr)→ad→Prop)(h0:ad):Prop:=
 At (hnew h0 (B7 x3) al) (fun h1=>
 HC PG j5 (yH x0 x2) [.c .bool] (fun(e2:Bool) h3=>
 CondP (!e2) (
 K x0 h3) (
 HC PG ig (Aj x0 x1) [.c .ptr] (fun(e4:Option Addr) h5=>
 ∃a6,e4=some a6∧
 ∃v7,f8 h5 (adr a6 0) 0 v7∧
 HC PG fc (ma v7 x2) [.c .bool] (fun(e8:Bool) h9=>
 CondP e8 (
 ∃a10,e4=some a10∧
 ∃v11:SliceV,bU h9 (adr a10 0) 2 v11∧
 ∃a12,e4=some a12∧
 ∃v13,f8 h9 (adr a12 0) 0 v13∧
 ∃v14,aF h9 h0 0 v14∧
 ∃v15,aF h9 h0 1 v15∧
 HC PG dg (ma v13 x2) bV (fun(e16:Int) h17=>
 ((aF h17 h0 0 v14∧aF h17 h0 1 v15)∧
 (bU h17 (adr a10 0) 2 v11∧
 (cn e16 v11.len∧∃a18,v11.a=some a18∧
 (lC h17 (adr a18 (e16.toNat*2)) (im v14 v15) (fun h19=>
 K e4 h19)))))) h9) (
 ∃a20,e4=some a20∧
 HC PG j4 (yH (some (adr a20 0)) x2) [] (fun(e21:Unit) h22=>
 ∃a23,e4=some a23∧
 ∃v24:SliceV,bU h22 (adr a23 0) 2 v24∧
 ∃a25,e4=some a25∧
 ∃v26,f8 h22 (adr a25 0) 0 v26∧
 ∃v27,aF h22 h0 0 v27∧
 ∃v28,aF h22 h0 1 v28∧
 ((HC PG dg (ma v26 x2) bV (fun(e29:Int) h30=>
 ((aF h30 h0 0 v27∧aF h30 h0 1 v28)∧
 (bU h30 (adr a23 0) 2 v24∧
 At (hnew h30 (im v27 v28) al) (fun h31=>
 (bU h31 (adr a23 0) 2 v24∧
 HC PG cN [.slice v24.a v24.len v24.cap,.int .i64 e29,.slice (some (aC h30)) 1 1] [.c .slice] (fun(e32:SliceV) h33=>
 ∃a34,e4=some a34∧
 (d6 h33 (adr (adr a34 0) 2) (.slice e32.a e32.len e32.cap) (fun h35=>
 ∃a36,e4=some a36∧
 ∃v37,f8 h35 (adr a36 0) 0 v37∧
 HC PG eJ (ma v37 x2) mG (fun(e38:Int) h39=>
 ∃a40,e4=some a40∧
 (d6 h39 (adr (adr a40 0) 0) (.int .u32 e38) (fun h41=>
 K e4 h41))) h35))) h31))))) h22)∧
 At (hnew h22 (im v27 v28) al) (fun h42=>
 (f8 h42 (adr a25 0) 0 v26∧
 (bU h42 (adr a23 0) 2 v24∧
 HC PG dg (ma v26 x2) bV (fun(e43:Int) h44=>
 (bU h44 (adr a23 0) 2 v24∧
 HC PG cN [.slice v24.a v24.len v24.cap,.int .i64 e43,.slice (some (aC h22)) 1 1] [.c .slice] (fun(e45:SliceV) h46=>
 ∃a47,e4=some a47∧
 (d6 h46 (adr (adr a47 0) 2) (.slice e45.a e45.len e45.cap) (fun h48=>
 ∃a49,e4=some a49∧
 ∃v50,f8 h48 (adr a49 0) 0 v50∧
 HC PG eJ (ma v50 x2) mG (fun(e51:Int) h52=>
 ∃a53,e4=some a53∧
 (d6 h52 (adr (adr a53 0) 0) (.int .u32 e51) (fun h54=>
 K e4 h54))) h48))) h44)) h42))))) h9)) h5) h3)) h1)
theorem uy(x0:Option Addr)(x1:Option Addr)(x2:Int)(x3:ByteArray×ByteArray){K:cT [.c .ptr]→ad→Prop}{h0:ad}(h:o9 x0 x1 x2 x3 K h0):HC PG iS [.pointer x0,.pointer x1,.int .i64 x2,OC x3] [.c .ptr] K h0:=dL .nil Tryz.func189 Tryz.call189 rfl rfl (by kernel_rfl) h
def pW(x0:Option Addr)(x1:Option Addr)(x2:Int)(x3:Option Addr)(K:(Option Addr)→ad→Prop)(h0:ad):Prop:=
 CondP x3.isNone (
 HC PG wU (PJ x0 x1 x2) [.c .ptr] (fun(e1:Option Addr) h2=>
 K e1 h2) h0) (
 HC PG j5 (yH x0 x2) [.c .bool] (fun(e3:Bool) h4=>
 CondP (!e3) (
 K x0 h4) (
 HC PG ig (Aj x0 x1) [.c .ptr] (fun(e5:Option Addr) h6=>
 ∃a7,e5=some a7∧
 ∃v8,f8 h6 (adr a7 0) 1 v8∧
 HC PG fc (ma v8 x2) [.c .bool] (fun(e9:Bool) h10=>
 CondP e9 (
 ∃a11,e5=some a11∧
 ∃v12:SliceV,bU h10 (adr a11 0) 3 v12∧
 ∃a13,e5=some a13∧
 ∃v14,f8 h10 (adr a13 0) 1 v14∧
 HC PG dg (ma v14 x2) bV (fun(e15:Int) h16=>
 (bU h16 (adr a11 0) 3 v12∧
 (cn e15 v12.len∧∃a17,v12.a=some a17∧
 (d6 h16 (adr a17 (e15.toNat*1)) (.pointer x3) (fun h18=>
 K e5 h18))))) h10) (
 ∃a19,e5=some a19∧
 HC PG j4 (yH (some (adr a19 0)) x2) [] (fun(e20:Unit) h21=>
 ∃a22,e5=some a22∧
 ∃v23:SliceV,bU h21 (adr a22 0) 3 v23∧
 ∃a24,e5=some a24∧
 ∃v25,f8 h21 (adr a24 0) 1 v25∧
 ((HC PG dg (ma v25 x2) bV (fun(e26:Int) h27=>
 (bU h27 (adr a22 0) 3 v23∧
 At (hnew h27 [.pointer x3] bK) (fun h28=>
 (bU h28 (adr a22 0) 3 v23∧
 HC PG cC [.slice v23.a v23.len v23.cap,.int .i64 e26,.slice (some (aC h27)) 1 1] [.c .slice] (fun(e29:SliceV) h30=>
 ∃a31,e5=some a31∧
 (d6 h30 (adr (adr a31 0) 3) (.slice e29.a e29.len e29.cap) (fun h32=>
 ∃a33,e5=some a33∧
 ∃v34,f8 h32 (adr a33 0) 1 v34∧
 HC PG eJ (ma v34 x2) mG (fun(e35:Int) h36=>
 ∃a37,e5=some a37∧
 (d6 h36 (adr (adr a37 0) 1) (.int .u32 e35) (fun h38=>
 K e5 h38))) h32))) h28)))) h21)∧
 At (hnew h21 [.pointer x3] bK) (fun h39=>
 (f8 h39 (adr a24 0) 1 v25∧
 (bU h39 (adr a22 0) 3 v23∧
 HC PG dg (ma v25 x2) bV (fun(e40:Int) h41=>
 (bU h41 (adr a22 0) 3 v23∧
 HC PG cC [.slice v23.a v23.len v23.cap,.int .i64 e40,.slice (some (aC h21)) 1 1] [.c .slice] (fun(e42:SliceV) h43=>
 ∃a44,e5=some a44∧
 (d6 h43 (adr (adr a44 0) 3) (.slice e42.a e42.len e42.cap) (fun h45=>
 ∃a46,e5=some a46∧
 ∃v47,f8 h45 (adr a46 0) 1 v47∧
 HC PG eJ (ma v47 x2) mG (fun(e48:Int) h49=>
 ∃a50,e5=some a50∧
 (d6 h49 (adr (adr a50 0) 1) (.int .u32 e48) (fun h51=>
 K e5 h51))) h45))) h41)) h39))))) h10)) h6) h4)) h0)
theorem vY(x0:Option Addr)(x1:Option Addr)(x2:Int)(x3:Option Addr){K:cT [.c .ptr]→ad→Prop}{h0:ad}(h:pW x0 x1 x2 x3 K h0):HC PG jw (Lu x0 x1 x2 x3) [.c .ptr] K h0:=dL .nil Tryz.func190 Tryz.call190 rfl rfl (by kernel_rfl) h
def fx(x0:SliceV)(K:(SliceV)→ad→Prop)(h0:ad):Prop:=
 CondP x0.a.isNone (
 K ⟨none,0,0⟩ h0) (
 At (hnew h0 [] bS) (fun h1=>
 ∃xs2,SRow h1 x0.a (x0.len*1) xs2∧
 AppP (some [.pointer none]) 1 8 bS (some (aC h0)) 0 0 x0.len xs2 h1 (fun s3 h4=>
 K s3 h4)))
theorem jz(x0:SliceV){K:cT [.c .slice]→ad→Prop}{h0:ad}(h:fx x0 K h0):HC PG dQ [.slice x0.a x0.len x0.cap] [.c .slice] K h0:=dL .nil Tryz.func191 Tryz.call191 rfl rfl (by kernel_rfl) h
def fH(x0:SliceV)(K:(SliceV)→ad→Prop)(h0:ad):Prop:=
 CondP x0.a.isNone (
 K ⟨none,0,0⟩ h0) (
 At (hnew h0 [] bK) (fun h1=>
 ∃xs2,SRow h1 x0.a (x0.len*1) xs2∧
 AppP (some [.pointer none]) 1 8 bK (some (aC h0)) 0 0 x0.len xs2 h1 (fun s3 h4=>
 K s3 h4)))
theorem jU(x0:SliceV){K:cT [.c .slice]→ad→Prop}{h0:ad}(h:fH x0 K h0):HC PG dh [.slice x0.a x0.len x0.cap] [.c .slice] K h0:=dL .nil Tryz.func192 Tryz.call192 rfl rfl (by kernel_rfl) h
def xy(x0:SliceV)(x1:ByteArray)(K:(SliceV)→ad→Prop)(h0:ad):Prop:=
 (((0:Int)≤(x0.len:Int)∧(x0.len:Int)≤((x0.cap:Nat):Int))∧
 (((0:Int)≤(x0.len:Int)∧(x0.len:Int)≤(((x0.len:Int).toNat:Nat):Int))∧
 HC PG kF [.slice (aZ x0.a 0 ((x0.len:Int).toNat) 1) (((x0.len:Int).toNat)-0) (((x0.len:Int).toNat)-0),.int .u64 (IntKind.wrap .u64 (x1.size:Int)),.int .i64 2] [.c .slice] (fun(e1:SliceV) h2=>
 AppP (some [.int .u8 0]) 1 1 ci e1.a e1.len e1.cap x1.size (dd x1) h2 (fun s3 h4=>
 K s3 h4)) h0))
theorem EM(x0:SliceV)(x1:ByteArray){K:cT [.c .slice]→ad→Prop}{h0:ad}(h:xy x0 x1 K h0):HC PG kV (xS x0 x1) [.c .slice] K h0:=dL .nil Tryz.func193 Tryz.call193 rfl rfl (by kernel_rfl) h
def uR(x0:SliceV)(x1:SliceV)(K:(SliceV)→ad→Prop)(h0:ad):Prop:=
 LoopP (fun I1 (t2:SliceV×Int) h3=>
 CondP (decide (t2.2<(x1.len:Int))) (
 (cn t2.2 x1.len∧∃a4,x1.a=some a4∧
 ∃v5,aL h3 (adr a4 (t2.2.toNat*2)) 0 v5∧
 ∃v6,aL h3 (adr a4 (t2.2.toNat*2)) 1 v6∧
 nv h3 jm al (im v5 v6) (fun h8=>
 ∃v9,aF h8 h3 0 v9∧
 ∃v10,aF h8 h3 1 v10∧
 HC PG kV (xS t2.1 v9) [.c .slice] (fun(e11:SliceV) h12=>
 (aF h12 h3 1 v10∧
 HC PG kV (xS e11 v10) [.c .slice] (fun(e13:SliceV) h14=>
 I1 (e13,IntKind.wrap .i64 (t2.2+1)) h14) h12)) h8))) (
 K t2.1 h3)) (x0,0) h0
noncomputable def CQ:Ann:=.node .nil (.node (.node .nil (.loop [(0,.c .slice),(9,.c (.int .i64))] .nil)) .nil)
theorem Cu(x0:SliceV)(x1:SliceV){K:cT [.c .slice]→ad→Prop}{h0:ad}(h:uR x0 x1 K h0):HC PG nT (GO x0 x1) [.c .slice] K h0:=dL CQ Tryz.func194 Tryz.call194 rfl rfl (by kernel_rfl) h
def tO(x0:SliceV)(x1:Int)(x2:Int)(K:(SliceV)→ad→Prop)(h0:ad):Prop:=
 LoopP (fun I1 (t2:SliceV×Int) h3=>
 CondP (decide (t2.2<x2)) (
 Join (fun(t10:SliceV) h11=>
 I1 (t10,IntKind.wrap .i64 (t2.2+1)) h11) (fun J4=>
 ((0:Int)≤(IntKind.wrap .i64 (8*t2.2))∧
 Bd (dE x1 (2^(min (IntKind.wrap .i64 (8*t2.2):Int).toNat (IntKind.bits .u64))):Int) (fun n5=>
 At (hnew h3 [.int .u8 (IntKind.wrap .u8 n5)] ci) (fun h6=>
 ∃xs7,SRow h6 (some (aC h3)) (1*1) xs7∧
 AppP (some [.int .u8 0]) 1 1 ci t2.1.a t2.1.len t2.1.cap 1 xs7 h6 (fun s8 h9=>
 J4 s8 h9)))))) (
 K t2.1 h3)) (x0,0) h0
noncomputable def GI:Ann:=.node .nil (.node (.node .nil (.loop [(0,.c .slice),(9,.c (.int .i64))] (.node .nil (.node .nil (.join [(0,.c .slice)] .nil .nil))))) .nil)
theorem zd(x0:SliceV)(x1:Int)(x2:Int){K:cT [.c .slice]→ad→Prop}{h0:ad}(h:tO x0 x1 x2 K h0):HC PG kF (JR x0 x1 x2) [.c .slice] K h0:=dL GI Tryz.func195 Tryz.call195 rfl rfl (by kernel_rfl) h
def sC(x0:Option Addr)(K:(Int)→ad→Prop)(h0:ad):Prop:=
 CondP x0.isNone (
 K 0 h0) (
 ∃a1,x0=some a1∧
 ∃v2:SliceV,bU h0 (adr a1 0) 2 v2∧
 ∃a3,x0=some a3∧
 ∃v4:SliceV,bU h0 (adr a3 0) 3 v4∧
 K (IntKind.wrap .i64 ((v2.len:Int)+(v4.len:Int))) h0)
theorem zD(x0:Option Addr){K:cT bV→ad→Prop}{h0:ad}(h:sC x0 K h0):HC PG oJ [.pointer x0] bV K h0:=dL .nil Tryz.func196 Tryz.call196 rfl rfl (by kernel_rfl) h
def rr(x0:Option Addr)(K:(Int)→ad→Prop)(h0:ad):Prop:=
 CondP x0.isNone (
 K 0 h0) (
 ∃a1,x0=some a1∧
 ∃v2,f8 h0 (adr a1 0) 0 v2∧
 K v2 h0)
theorem yz(x0:Option Addr){K:cT mG→ad→Prop}{h0:ad}(h:rr x0 K h0):HC PG iY [.pointer x0] mG K h0:=dL .nil Tryz.func197 Tryz.call197 rfl rfl (by kernel_rfl) h
def qw(x0:Option Addr)(K:(Int)→ad→Prop)(h0:ad):Prop:=
 CondP x0.isNone (
 K 0 h0) (
 ∃a1,x0=some a1∧
 ∃v2,f8 h0 (adr a1 0) 1 v2∧
 K v2 h0)
theorem xp(x0:Option Addr){K:cT mG→ad→Prop}{h0:ad}(h:qw x0 K h0):HC PG gd [.pointer x0] mG K h0:=dL .nil Tryz.func198 Tryz.call198 rfl rfl (by kernel_rfl) h
def xB(x0:SliceV)(K:(Option Addr)→ad→Prop)(h0:ad):Prop:=
 (cn 0 x0.len∧∃a1,x0.a=some a1∧
 ∃v2,aL h0 (adr a1 ((0:Int).toNat*2)) 0 v2∧
 LoopP (fun I3 (t4:Int×Int) h5=>
 CondP (decide (t4.2<(x0.len:Int))) (
 Join (fun(t17:Int) h18=>
 I3 (t17,IntKind.wrap .i64 (t4.2+1)) h18) (fun J6=>
 (cn t4.2 x0.len∧∃a7,x0.a=some a7∧
 ∃v8,aL h5 (adr a7 (t4.2.toNat*2)) 0 v8∧
 ∃v9,aL h5 (adr a7 (t4.2.toNat*2)) 1 v9∧
 nv h5 jm bG (im v8 v9) (fun h11=>
 (cn 0 x0.len∧∃a12,x0.a=some a12∧
 ∃v13,aL h11 (adr a12 ((0:Int).toNat*2)) 0 v13∧
 ∃v14,aF h11 h5 0 v14∧
 HC PG rP (im v13 v14) bV (fun(e15:Int) h16=>
 CondP (decide (e15<t4.1)) (
 J6 e15 h16) (
 J6 t4.1 h16)) h11))))) (
 (cn 0 x0.len∧∃a19,x0.a=some a19∧
 ∃v20,aL h5 (adr a19 ((0:Int).toNat*2)) 0 v20∧
 (((0:Int)≤t4.1∧t4.1≤((v20.size:Nat):Int))∧
 At (hnew h5 [.string (v20.extract 0 t4.1.toNat),.bool false,.string (⟨#[]⟩:ByteArray),.slice none 0 0] md) (fun h21=>
 LoopP (fun I22 (t23:SliceV×Int) h24=>
 CondP (decide (t23.2<(x0.len:Int))) (
 Join (fun(t43:SliceV) h44=>
 I22 (t43,IntKind.wrap .i64 (t23.2+1)) h44) (fun J25=>
 (cn t23.2 x0.len∧∃a26,x0.a=some a26∧
 ∃v27,aL h24 (adr a26 (t23.2.toNat*2)) 0 v27∧
 ∃v28,aL h24 (adr a26 (t23.2.toNat*2)) 1 v28∧
 nv h24 jm bG (im v27 v28) (fun h30=>
 ∃v31,aF h30 h24 0 v31∧
 CondP ((v31.size:Int)==t4.1) (
 ∃v32,aF h30 h24 1 v32∧
 ∃a33,some (aC h5)=some a33∧
 (d6 h30 (adr a33 1) (.bool true) (fun h34=>
 (aF h34 h24 1 v32∧
 ∃a35,some (aC h5)=some a35∧
 (d6 h34 (adr a35 2) (.string v32) (fun h36=>
 J25 t23.1 h36)))))) (
 ∃v37,aF h30 h24 0 v37∧
 (((0:Int)≤t4.1∧t4.1≤((v37.size:Nat):Int))∧
 ∃v38,aF h30 h24 1 v38∧
 At (hnew h30 (im (v37.extract t4.1.toNat v37.size) v38) bG) (fun h39=>
 (aF h39 h24 1 v38∧
 (aF h39 h24 0 v37∧
 ∃xs40,SRow h39 (some (aC h30)) (1*2) xs40∧
 AppP (some jm) 2 32 bG t23.1.a t23.1.len t23.1.cap 1 xs40 h39 (fun s41 h42=>
 (aF h42 h24 1 v38∧
 (aF h42 h24 0 v37∧
 J25 s41 h42)))))))))))) (
 HC PG pf [.slice t23.1.a t23.1.len t23.1.cap] [.c .slice] (fun(e45:SliceV) h46=>
 ∃a47,some (aC h5)=some a47∧
 (d6 h46 (adr a47 3) (.slice e45.a e45.len e45.cap) (fun h48=>
 K (some (aC h5)) h48))) h24)) (⟨none,0,0⟩,0) h21))))) ((v2.size:Int),0) h0)
noncomputable def E1:Ann:=.node .nil (.node .nil (.node (.node .nil (.loop [(3,.c (.int .i64)),(18,.c (.int .i64))] (.node .nil (.node .nil (.join [(3,.c (.int .i64))] .nil .nil))))) (.node .nil (.node .nil (.node (.node .nil (.loop [(8,.c .slice),(44,.c (.int .i64))] (.node .nil (.node .nil (.join [(8,.c .slice)] .nil .nil))))) .nil)))))
theorem EP(x0:SliceV){K:cT [.c .ptr]→ad→Prop}{h0:ad}(h:xB x0 K h0):HC PG rO [.slice x0.a x0.len x0.cap] [.c .ptr] K h0:=dL E1 Tryz.func199 Tryz.call199 rfl rfl (by kernel_rfl) h
def DS(x0:Int)(x1:Int)(x2:ByteArray)(K:(Int)→ad→Prop)(h0:ad):Prop:=
 Bd (IntKind.wrap .u64 (af (IntKind.bits .u64) x0^^^af (IntKind.bits .u64) 8317987319222330741).toNat:Int) (fun n1=>
 Bd (IntKind.wrap .u64 (af (IntKind.bits .u64) x1^^^af (IntKind.bits .u64) 7237128888997146477).toNat:Int) (fun n2=>
 Bd (IntKind.wrap .u64 (af (IntKind.bits .u64) x0^^^af (IntKind.bits .u64) 7816392313619706465).toNat:Int) (fun n3=>
 Bd (IntKind.wrap .u64 (af (IntKind.bits .u64) x1^^^af (IntKind.bits .u64) 8387220255154660723).toNat:Int) (fun n4=>
 nv h0 JM rA (JP n1 n2 n3 n4) (fun h6=>
 LoopP (fun I7 (t8:Int) h9=>
 CondP (decide (t8≤(x2.size:Int))) (
 LoopP (fun I10 (t11:Int×Int) h12=>
 CondP (decide (t11.2≥(0:Int))) (
 Join (fun(t16:Int) h17=>
 I10 (t16,IntKind.wrap .i64 (t11.2-1)) h17) (fun J13=>
 CondP (decide ((IntKind.wrap .i64 (t8+t11.2))<(x2.size:Int))) (
 ∃b14,(0:Int)≤(IntKind.wrap .i64 (t8+t11.2))∧x2[(IntKind.wrap .i64 (t8+t11.2)).toNat]? =some b14∧
 Bd (IntKind.wrap .u64 ((IntKind.wrap .u64 (t11.1*256))+(IntKind.wrap .u64 (b14.toNat:Int))):Int) (fun n15=>
 J13 n15 h12)) (
 J13 (IntKind.wrap .u64 (t11.1*256)) h12))) (
 Join (fun(t20:Int) h21=>
 (cn (3:Int) 4∧
 ∃v22,bR h21 (aC h0) ((3:Int).toNat*1) (.int .u64 v22)∧
 Bd (IntKind.wrap .u64 (af (IntKind.bits .u64) v22^^^af (IntKind.bits .u64) t20).toNat:Int) (fun n23=>
 (cn (3:Int) 4∧
 (d6 h21 (adr (aC h0) ((3:Int).toNat*1)) (.int .u64 n23) (fun h24=>
 ∃v25,ar h24 h0 0 v25∧
 ∃v26,ar h24 h0 1 v26∧
 ∃v27,ar h24 h0 2 v27∧
 ∃v28,ar h24 h0 3 v28∧
 HC PG jj [OQ v25 v26 v27 v28] wK (fun(e29:Int×Int×Int×Int) h30=>
 HC PG jj [Kk e29] wK (fun(e31:Int×Int×Int×Int) h32=>
 (hJ h32 h0 (L8 e31) (fun h33=>
 (cn 0 4∧
 ∃v34,bR h33 (aC h0) ((0:Int).toNat*1) (.int .u64 v34)∧
 Bd (IntKind.wrap .u64 (af (IntKind.bits .u64) v34^^^af (IntKind.bits .u64) t20).toNat:Int) (fun n35=>
 (cn 0 4∧
 (d6 h33 (adr (aC h0) ((0:Int).toNat*1)) (.int .u64 n35) (fun h36=>
 I7 (IntKind.wrap .i64 (t8+8)) h36)))))))) h30) h24)))))) (fun J18=>
 CondP (decide ((IntKind.wrap .i64 (t8+8))>(x2.size:Int))) (
 ((256:Int)≠0∧
 Bd (IntKind.wrap .u64 ((IntKind.wrap .u64 (gA (x2.size:Int) 256))*72057594037927936):Int) (fun n19=>
 J18 (IntKind.wrap .u64 (t11.1+n19)) h12))) (
 J18 t11.1 h12)))) (0,7) h9) (
 (cn (2:Int) 4∧
 ∃v37,bR h9 (aC h0) ((2:Int).toNat*1) (.int .u64 v37)∧
 Bd (IntKind.wrap .u64 (af (IntKind.bits .u64) v37^^^af (IntKind.bits .u64) 255).toNat:Int) (fun n38=>
 (cn (2:Int) 4∧
 (d6 h9 (adr (aC h0) ((2:Int).toNat*1)) (.int .u64 n38) (fun h39=>
 ∃v40,ar h39 h0 0 v40∧
 ∃v41,ar h39 h0 1 v41∧
 ∃v42,ar h39 h0 2 v42∧
 ∃v43,ar h39 h0 3 v43∧
 HC PG jj [OQ v40 v41 v42 v43] wK (fun(e44:Int×Int×Int×Int) h45=>
 HC PG jj [Kk e44] wK (fun(e46:Int×Int×Int×Int) h47=>
 HC PG jj [Kk e46] wK (fun(e48:Int×Int×Int×Int) h49=>
 HC PG jj [Kk e48] wK (fun(e50:Int×Int×Int×Int) h51=>
 (hJ h51 h0 (L8 e50) (fun h52=>
 (cn 0 4∧
 ∃v53,bR h52 (aC h0) ((0:Int).toNat*1) (.int .u64 v53)∧
 (cn 1 4∧
 ∃v54,bR h52 (aC h0) ((1:Int).toNat*1) (.int .u64 v54)∧
 Bd (IntKind.wrap .u64 (af (IntKind.bits .u64) v53^^^af (IntKind.bits .u64) v54).toNat:Int) (fun n55=>
 (cn (2:Int) 4∧
 ∃v56,bR h52 (aC h0) ((2:Int).toNat*1) (.int .u64 v56)∧
 Bd (IntKind.wrap .u64 (af (IntKind.bits .u64) n55^^^af (IntKind.bits .u64) v56).toNat:Int) (fun n57=>
 (cn (3:Int) 4∧
 ∃v58,bR h52 (aC h0) ((3:Int).toNat*1) (.int .u64 v58)∧
 Bd (IntKind.wrap .u64 (af (IntKind.bits .u64) n57^^^af (IntKind.bits .u64) v58).toNat:Int) (fun n59=>
 K n59 h52)))))))))) h49) h47) h45) h39))))))) 0 h6)))))
noncomputable def K9:Ann:=.node .nil (.node .nil (.node (.node .nil (.loop [(8,.c (.int .i64))] (.node .nil (.node (.node .nil (.node (.node .nil (.loop [(9,.c (.int .u64)),(10,.c (.int .i64))] (.node .nil (.join [(9,.c (.int .u64))] .nil .nil)))) (.join [(9,.c (.int .u64))] .nil .nil))) .nil)))) .nil))
theorem K4(x0:Int)(x1:Int)(x2:ByteArray){K:cT is→ad→Prop}{h0:ad}(h:DS x0 x1 x2 K h0):HC PG yh (ON x0 x1 x2) is K h0:=dL K9 Tryz.func200 Tryz.call200 rfl rfl (by kernel_rfl) h
def GG(x0:Int)(x1:Int)(K:(Int)→ad→Prop)(h0:ad):Prop:=
 Join (fun(t2:Bool) h3=>
 CondP t2 (
 K 0 h3) (
 LoopP (fun I4 (t5:Int×Int) h6=>
 CondP (decide (t5.2<x1)) (
 ((32:Int)≠0∧
 I4 (IntKind.wrap .u64 (kP t5.1 32),IntKind.wrap .i64 (t5.2+1)) h6)) (
 ((32:Int)≠0∧
 K (IntKind.wrap .i64 (gA t5.1 32)) h6))) (x0,0) h3)) (fun J1=>
 CondP (decide (x1<(0:Int))) (
 J1 true h0) (
 J1 (decide (x1>(12:Int))) h0))
noncomputable def M6:Ann:=.node .nil (.node (.join [(11,.c .bool)] .nil .nil) (.node (.node .nil (.loop [(0,.c (.int .u64)),(5,.c (.int .i64))] .nil)) .nil))
theorem M0(x0:Int)(x1:Int){K:cT bV→ad→Prop}{h0:ad}(h:GG x0 x1 K h0):HC PG wT (oC x0 x1) bV K h0:=dL M6 Tryz.func201 Tryz.call201 rfl rfl (by kernel_rfl) h
def eR(x0:SliceV)(x1:Value)(K:(Int)→ad→Prop)(h0:ad):Prop:=
 LoopP (fun I1 (t2:Int) h3=>
 CondP (decide (t2<(x0.len:Int))) (
 (cn t2 x0.len∧∃a4,x0.a=some a4∧
 ∃v5,bR h3 a4 (t2.toNat*1) (.pointer v5)∧
 HV PG x1 [.pointer v5] [.c .bool] (fun(e6:Bool) h7=>
 CondP e6 (
 K t2 h7) (
 I1 (IntKind.wrap .i64 (t2+1)) h7)) h3)) (
 K (-1) h3)) 0 h0
noncomputable def iK:Ann:=.node .nil (.node (.node .nil (.loop [(8,.c (.int .i64))] .nil)) .nil)
theorem iI(x0:SliceV)(x1:Value){K:cT bV→ad→Prop}{h0:ad}(h:eR x0 x1 K h0):HC PG eN [.slice x0.a x0.len x0.cap,x1] bV K h0:=dL iK Tryz.func202 Tryz.call202 rfl rfl (by kernel_rfl) h
def nl(x0:Option Addr)(K:(Bool)→ad→Prop)(h0:ad):Prop:=
 HC PG iR [.pointer x0] [.c .bool] (fun(e1:Bool) h2=>
 K (!e1) h2) h0
theorem sI(x0:Option Addr){K:cT [.c .bool]→ad→Prop}{h0:ad}(h:nl x0 K h0):HC PG ni [.pointer x0] [.c .bool] K h0:=dL .nil Tryz.func203 Tryz.call203 rfl rfl (by kernel_rfl) h
def xF(x0:SliceV)(K:(Bool)→ad→Prop)(h0:ad):Prop:=
 LoopP (fun I1 (t2:Int) h3=>
 CondP (decide (t2<(x0.len:Int))) (
 (cn (IntKind.wrap .i64 (t2-1)) x0.len∧∃a4,x0.a=some a4∧
 ∃v5,bR h3 (adr a4 ((IntKind.wrap .i64 (t2-1)).toNat*2)) 0 (.string v5)∧
 (cn t2 x0.len∧∃a6,x0.a=some a6∧
 ∃v7,aL h3 (adr a6 (t2.toNat*2)) 0 v7∧
 CondP (!(Op.bytesLess v5.toList v7.toList)) (
 K false h3) (
 I1 (IntKind.wrap .i64 (t2+1)) h3)))) (
 K true h3)) 1 h0
noncomputable def E4:Ann:=.node .nil (.node (.node .nil (.loop [(3,.c (.int .i64))] .nil)) .nil)
theorem EU(x0:SliceV){K:cT [.c .bool]→ad→Prop}{h0:ad}(h:xF x0 K h0):HC PG rS [.slice x0.a x0.len x0.cap] [.c .bool] K h0:=dL E4 Tryz.func204 Tryz.call204 rfl rfl (by kernel_rfl) h
def uS(x0:Int)(x1:SliceV)(K:(Bool)→ad→Prop)(h0:ad):Prop:=
 LoopP (fun I1 (t2:Int) h3=>
 CondP (decide (t2<(x1.len:Int))) (
 (cn t2 x1.len∧∃a4,x1.a=some a4∧
 ∃v5,bR h3 a4 (t2.toNat*1) (.int .i64 v5)∧
 HC PG pF (oC x0 t2) bV (fun(e6:Int) h7=>
 CondP (e6 !=v5) (
 K false h7) (
 I1 (IntKind.wrap .i64 (t2+1)) h7)) h3)) (
 K true h3)) 0 h0
noncomputable def CR:Ann:=.node .nil (.node (.node .nil (.loop [(9,.c (.int .i64))] .nil)) .nil)
theorem Cv(x0:Int)(x1:SliceV){K:cT [.c .bool]→ad→Prop}{h0:ad}(h:uS x0 x1 K h0):HC PG lJ (JQ x0 x1) [.c .bool] K h0:=dL CR Tryz.func205 Tryz.call205 rfl rfl (by kernel_rfl) h
def yD(x0:Int)(K:(Value)→ad→Prop)(h0:ad):Prop:=
 At (hnew h0 [.int .u32 x0] ry) (fun h1=>
 K (.func (.func g4) #[] #[.pointer (some (aC h0))]) h1)
theorem rl(x0:Int){K:cT [.c .raw]→ad→Prop}{h0:ad}(h:yD x0 K h0):HC PG kX [.int .u32 x0] [.c .raw] K h0:=dL .nil Tryz.func206 Tryz.call206 rfl rfl (by kernel_rfl) h
def uQ(x0:ByteArray)(x1:ByteArray)(K:(Int)→ad→Prop)(h0:ad):Prop:=
 Bd (if(x1.size:Int)<(x0.size:Int)then(x1.size:Int)else(x0.size:Int):Int) (fun n1=>
 LoopP (fun I2 (t3:Int) h4=>
 CondP (decide (t3<n1)) (
 ∃b5,(0:Int)≤t3∧x0[t3.toNat]? =some b5∧
 ∃b6,(0:Int)≤t3∧x1[t3.toNat]? =some b6∧
 CondP ((b5.toNat:Int) !=(b6.toNat:Int)) (
 K t3 h4) (
 I2 (IntKind.wrap .i64 (t3+1)) h4)) (
 K n1 h4)) 0 h0)
noncomputable def CP:Ann:=.node .nil (.node .nil (.node (.node .nil (.loop [(13,.c (.int .i64))] .nil)) .nil))
theorem Ct(x0:ByteArray)(x1:ByteArray){K:cT bV→ad→Prop}{h0:ad}(h:uQ x0 x1 K h0):HC PG qJ (im x0 x1) bV K h0:=dL CP Tryz.func211 Tryz.call211 rfl rfl (by kernel_rfl) h
def zo(x0:SliceV)(x1:ByteArray)(K:(Int×Bool)→ad→Prop)(h0:ad):Prop:=
 HC PG d8 [.slice x0.a x0.len x0.cap,.string x1,.func (.func mU) #[] #[]] ut (fun(e1:Int×Bool) h2=>
 K (e1.1,e1.2) h2) h0
theorem GB(x0:SliceV)(x1:ByteArray){K:cT ut→ad→Prop}{h0:ad}(h:zo x0 x1 K h0):HC PG tC (xS x0 x1) ut K h0:=dL .nil Tryz.func222 Tryz.call222 rfl rfl (by kernel_rfl) h
def rt(x0:Int)(x1:Int)(K:(Bool)→ad→Prop)(h0:ad):Prop:=
 HC PG lL [.int .i64 x1] [.c .bool] (fun(e1:Bool) h2=>
 CondP e1 (
 ((0:Int)≤x1∧
 Bd (IntKind.wrap .u32 (af (IntKind.bits .u32) (dE x0 (2^(min (x1:Int).toNat (IntKind.bits .u32))))&&&af (IntKind.bits .u32) 1).toNat:Int) (fun n3=>
 K (n3==(1:Int)) h2))) (
 K false h2)) h0
theorem yB(x0:Int)(x1:Int){K:cT [.c .bool]→ad→Prop}{h0:ad}(h:rt x0 x1 K h0):HC PG fc (ma x0 x1) [.c .bool] K h0:=dL .nil Tryz.func223 Tryz.call223 rfl rfl (by kernel_rfl) h
def qA(x0:Int)(x1:Int)(K:(Int)→ad→Prop)(h0:ad):Prop:=
 CondP (decide (x1≤(0:Int))) (
 K 0 h0) (
 CondP (decide (x1≥(32:Int))) (
 HC PG mn [.int .u32 x0] bV (fun(e1:Int) h2=>
 K e1 h2) h0) (
 ((0:Int)≤x1∧
 Bd (IntKind.wrap .u32 ((IntKind.wrap .u32 (1*2^(min (x1:Int).toNat (IntKind.bits .u32))))-1):Int) (fun n3=>
 Bd (IntKind.wrap .u32 (af (IntKind.bits .u32) x0&&&af (IntKind.bits .u32) n3).toNat:Int) (fun n4=>
 HC PG mn [.int .u32 n4] bV (fun(e5:Int) h6=>
 K e5 h6) h0)))))
theorem xu(x0:Int)(x1:Int){K:cT bV→ad→Prop}{h0:ad}(h:qA x0 x1 K h0):HC PG dg (ma x0 x1) bV K h0:=dL .nil Tryz.func224 Tryz.call224 rfl rfl (by kernel_rfl) h
def fI(x0:SliceV)(x1:Value)(K:(SliceV)→ad→Prop)(h0:ad):Prop:=
 At (hnew h0 [.slice x0.a x0.len x0.cap] cD) (fun h1=>
 RangeP PG x1 OF h1 (fun rdy2 bz3 (x4:ByteArray×ByteArray) k5 h6=>
 nv h6 jm al (B7 x4) (fun h11=>
 (h11[(bO h1+1)]? =some rdy2∧At (bJ h11 (bO h1+1) bz3) (fun h8=>
 ∃v12:SliceV,aO h8 (aC h0)=some (.slice v12.a v12.len v12.cap)∧
 ∃v13,aF h8 h6 0 v13∧
 ∃v14,aF h8 h6 1 v14∧
 At (hnew h8 (im v13 v14) al) (fun h15=>
 ∃xs16,SRow h15 (some (aC h8)) (1*2) xs16∧
 AppP (some jm) 2 32 al v12.a v12.len v12.cap 1 xs16 h15 (fun s17 h18=>
 (Wr h18 (aC h0)∧
 At (hset h18 (aC h0) (.slice s17.a s17.len s17.cap)) (fun h19=>
 k5 none h19)))))))) (fun h20=>
 ∃v23:SliceV,aO h20 (aC h0)=some (.slice v23.a v23.len v23.cap)∧
 (h20[(bO h1)]? =some (.deferred (some []))∧At (bJ h20 (bO h1) (.deferred none)) (fun h24=>
 K v23 h24))) (fun i9 h21=>
 bif Nat.beq i9 0 then(
 ∃v25:SliceV,aO h21 (aC h0)=some (.slice v25.a v25.len v25.cap)∧
 (h21[(bO h1)]? =some (.deferred (some []))∧At (bJ h21 (bO h1) (.deferred none)) (fun h26=>
 K v25 h26)))else(
 False)) (fun h22=>
 (h22[(bO h1)]? =some (.deferred (some []))∧At (bJ h22 (bO h1) (.deferred none)) (fun h27=>
 K ⟨none,0,0⟩ h27))))
noncomputable def jX:Ann:=.node .nil (.node (.node .nil (.rf [.agg [.str,.str]] .nil .nil)) .nil)
theorem jV(x0:SliceV)(x1:Value){K:cT [.c .slice]→ad→Prop}{h0:ad}(h:fI x0 x1 K h0):HC PG dZ [.slice x0.a x0.len x0.cap,x1] [.c .slice] K h0:=Qc jX Tryz.func235 Tryz.call235 rfl rfl (by kernel_rfl) h
def qT(x0:Value)(y0:Addr)(y1:Addr)(y2:Addr)(K:(Unit)→ad→Prop)(h0:ad):Prop:=
 ∃v1,aO h0 y0=some (.pointer v1)∧
 ∃v2,aL h0 y1 0 v2∧
 ∃v3,aL h0 y1 1 v3∧
 ∃v4,hH h0 y1 2 v4∧
 ∃v5,aO h0 y2=some (.bool v5)∧
 HC PG vE [.pointer v1,Ou v2 v3 v4,.bool v5] [.c .ptr] (fun(e6:Option Addr) h7=>
 LoopP (fun I8 (t9:Unit) h10=>
 HC PG ml [.pointer e6] wL (fun(e11:(ByteArray×ByteArray)×Bool) h12=>
 nv h12 jm al (B7 e11.1) (fun h14=>
 Join (fun(t20:Bool) h21=>
 CondP t20 (
 K () h21) (
 I8 () h21)) (fun J15=>
 CondP (!e11.2) (
 J15 true h14) (
 ∃v16,aF h14 h12 0 v16∧
 ∃v17,aF h14 h12 1 v17∧
 HV PG x0 [xM v16 v17] [.c .bool] (fun(e18:Bool) h19=>
 J15 (!e18) h19) h14)))) h10) () h7) h0
noncomputable def vg:Ann:=.node .nil (.loop [] (.node .nil (.join [(24,.c .bool)] .nil .nil)))
theorem Ni(x0:Value)(y0:Addr)(y1:Addr)(y2:Addr){K:cT []→ad→Prop}{h0:ad}(h:qT x0 y0 y1 y2 K h0):HC PG nS [x0,.pointer (some y0),.pointer (some y1),.pointer (some y2)] [] K h0:=dL vg Tryz.func236 Tryz.call236 rfl rfl (by kernel_rfl) h
theorem BC(x0:Value)(y0:Addr)(y1:Addr)(y2:Addr){K:cT []→ad→Prop}{h0:ad}(h:qT x0 y0 y1 y2 K h0):HE PG nS [x0,.pointer (some y0),.pointer (some y1),.pointer (some y2)] [] K h0:=HEI vg Tryz.func236 Tryz.call236 rfl rfl (by kernel_rfl) h
def BD(x0:Option Addr)(x1:ByteArray×ByteArray×Bool)(x2:Bool)(K:(Option Addr)→ad→Prop)(h0:ad):Prop:=
 At (hnew h0 (Ng x1) mz) (fun h1=>
 ∃v2,aF h1 h0 0 v2∧
 ∃v3,aF h1 h0 1 v3∧
 ∃v4,nr h1 h0 2 v4∧
 At (hnew h1 [.slice none 0 0,.string v2,.string v3,.bool v4,.bool x2] uI) (fun h5=>
 CondP (!(x0.isNone)) (
 ∃a6,some (aC h1)=some a6∧
 ∃v7:SliceV,bU h5 a6 0 v7∧
 At (hnew h5 (Ca x0 (⟨#[]⟩:ByteArray) false) dG) (fun h8=>
 ∃xs9,SRow h8 (some (aC h5)) (1*3) xs9∧
 AppP (some GQ) 3 32 dG v7.a v7.len v7.cap 1 xs9 h8 (fun s10 h11=>
 ∃a12,some (aC h1)=some a12∧
 (d6 h11 (adr a12 0) (.slice s10.a s10.len s10.cap) (fun h13=>
 K (some (aC h1)) h13))))) (
 K (some (aC h1)) h5)))
theorem Im(x0:Option Addr)(x1:ByteArray×ByteArray×Bool)(x2:Bool){K:cT [.c .ptr]→ad→Prop}{h0:ad}(h:BD x0 x1 x2 K h0):HC PG vE [.pointer x0,O7 x1,.bool x2] [.c .ptr] K h0:=dL .nil Tryz.func237 Tryz.call237 rfl rfl (by kernel_rfl) h
def pR(x0:Option Addr)(K:((ByteArray×ByteArray)×Bool)→ad→Prop)(h0:ad):Prop:=
 At (hnew h0 jm al) (fun h1=>
 CondP x0.isNone (
 (hJ h1 h0 jm (fun h2=>
 ∃v3,aF h2 h0 0 v3∧
 ∃v4,aF h2 h0 1 v4∧
 K ((v3,v4),false) h2))) (
 LoopP (fun I5 (t6:Unit) h7=>
 ∃a8,x0=some a8∧
 ∃v9:SliceV,bU h7 a8 0 v9∧
 CondP (decide ((v9.len:Int)>(0:Int))) (
 ∃a10,x0=some a10∧
 ∃v11:SliceV,bU h7 a10 0 v11∧
 ∃a12,x0=some a12∧
 ∃v13:SliceV,bU h7 a12 0 v13∧
 (cn (IntKind.wrap .i64 ((v13.len:Int)-1)) v11.len∧∃a14,v11.a=some a14∧
 ∃v15,bR h7 (adr a14 ((IntKind.wrap .i64 ((v13.len:Int)-1)).toNat*3)) 0 (.pointer v15)∧
 ∃v16,bR h7 (adr a14 ((IntKind.wrap .i64 ((v13.len:Int)-1)).toNat*3)) 1 (.string v16)∧
 ∃v17,bR h7 (adr a14 ((IntKind.wrap .i64 ((v13.len:Int)-1)).toNat*3)) 2 (.bool v17)∧
 At (hnew h7 GQ dG) (fun h18=>
 ((bR h18 (adr a14 ((IntKind.wrap .i64 ((v13.len:Int)-1)).toNat*3)) 0 (.pointer v15)∧bR h18 (adr a14 ((IntKind.wrap .i64 ((v13.len:Int)-1)).toNat*3)) 1 (.string v16)∧bR h18 (adr a14 ((IntKind.wrap .i64 ((v13.len:Int)-1)).toNat*3)) 2 (.bool v17))∧
 (bU h18 a12 0 v13∧
 (bU h18 a10 0 v11∧
 (hJ h18 h7 (Ca v15 v16 v17) (fun h19=>
 ∃a20,x0=some a20∧
 ∃v21:SliceV,bU h19 a20 0 v21∧
 ∃a22,x0=some a22∧
 ∃v23:SliceV,bU h19 a22 0 v23∧
 (((0:Int)≤(IntKind.wrap .i64 ((v23.len:Int)-1))∧(IntKind.wrap .i64 ((v23.len:Int)-1))≤((v21.cap:Nat):Int))∧
 Bd (aZ v21.a 0 v21.cap 3:Option Addr) (fun a24=>Bd (((IntKind.wrap .i64 ((v23.len:Int)-1)).toNat)-0:Nat) (fun n25=>Bd (v21.cap-0:Nat) (fun n26=>
 ∃a27,x0=some a27∧
 (d6 h19 (adr a27 0) (.slice a24 n25 n26) (fun h28=>
 ∃v29,nr h28 h7 2 v29∧
 CondP (!v29) (
 ∃v30,bD h28 h7 0 v30∧
 ∃v31,aF h28 h7 1 v31∧
 ∃v32,nr h28 h7 2 v32∧
 HC PG mh [.pointer x0,PL v30 v31 v32] [] (fun(e33:Unit) h34=>
 I5 () h34) h28) (
 ∃v35,aF h28 h7 1 v35∧
 ∃v36,bD h28 h7 0 v36∧
 HC PG ju [.pointer v36] [.c .str] (fun(e37:ByteArray) h38=>
 (aF h38 h7 1 v35∧
 (((v35.size+e37.size:Nat):Int)≤9223372036854775807∧
 ∃v39,bD h38 h7 0 v39∧
 HC PG jt [.pointer v39] Ks (fun(e40:ByteArray×Bool) h41=>
 Join (fun(t49:Bool) h50=>
 CondP t49 (
 (hJ h50 h0 (im (v35++e37) e40.1) (fun h51=>
 ∃v52,aF h51 h0 0 v52∧
 ∃v53,aF h51 h0 1 v53∧
 K ((v52,v53),true) h51))) (
 I5 () h50)) (fun J42=>
 CondP e40.2 (
 ∃a43,x0=some a43∧
 ∃v44,aL h41 (adr a43 1) 0 v44∧
 ∃v45,aL h41 (adr a43 1) 1 v45∧
 ∃v46,hH h41 (adr a43 1) 2 v46∧
 HC PG oG [Ou v44 v45 v46,.string (v35++e37)] [.c .bool] (fun(e47:Bool) h48=>
 J42 e47 h48) h41) (
 J42 false h41))) h38))) h28))))))))))))))) (
 (hJ h7 h0 jm (fun h54=>
 ∃v55,aF h54 h0 0 v55∧
 ∃v56,aF h54 h0 1 v56∧
 K ((v55,v56),false) h54)))) () h1))
noncomputable def wc:Ann:=.node .nil (.node .nil (.node (.loop [] (.node .nil (.node .nil (.node .nil (.node .nil (.node .nil (.node .nil (.join [(69,.c .bool)] .nil .nil)))))))) .nil))
theorem vT(x0:Option Addr){K:cT wL→ad→Prop}{h0:ad}(h:pR x0 K h0):HC PG ml [.pointer x0] wL K h0:=dL wc Tryz.func238 Tryz.call238 rfl rfl (by kernel_rfl) h
def iy(x0:SliceV)(x1:Int)(x2:Value)(K:(Unit)→ad→Prop)(h0:ad):Prop:=
 LoopP (fun I1 (t2:Int×Int) h3=>
 CondP (decide (t2.2≤x1)) (
 HC PG dq [.slice x0.a x0.len x0.cap,.int .i64 t2.1,.int .i64 t2.2,x2] [] (fun(e4:Unit) h5=>
 I1 (t2.2,IntKind.wrap .i64 (t2.2+20)) h5) h3) (
 HC PG dq [.slice x0.a x0.len x0.cap,.int .i64 t2.1,.int .i64 x1,x2] [] (fun(e6:Unit) h7=>
 LoopP (fun I8 (t9:Int) h10=>
 CondP (decide (t9<x1)) (
 LoopP (fun I11 (t12:Int×Int) h13=>
 CondP (decide (t12.2≤x1)) (
 HC PG cF [.slice x0.a x0.len x0.cap,.int .i64 t12.1,.int .i64 (IntKind.wrap .i64 (t12.1+t9)),.int .i64 t12.2,x2] [] (fun(e14:Unit) h15=>
 I11 (t12.2,IntKind.wrap .i64 (t12.2+(IntKind.wrap .i64 (2*t9)))) h15) h13) (
 Join (fun(t19:Unit) h20=>
 I8 (IntKind.wrap .i64 (t9*2)) h20) (fun J16=>
 CondP (decide ((IntKind.wrap .i64 (t12.1+t9))<x1)) (
 HC PG cF [.slice x0.a x0.len x0.cap,.int .i64 t12.1,.int .i64 (IntKind.wrap .i64 (t12.1+t9)),.int .i64 x1,x2] [] (fun(e17:Unit) h18=>
 J16 () h18) h13) (
 J16 () h13)))) (0,IntKind.wrap .i64 (2*t9)) h10) (
 K () h10)) 20 h7) h3)) (0,20) h0
noncomputable def m7:Ann:=.node .nil (.node .nil (.node (.loop [(7,.c (.int .i64)),(8,.c (.int .i64))] .nil) (.node .nil (.loop [(6,.c (.int .i64))] (.node .nil (.node .nil (.node (.loop [(7,.c (.int .i64)),(8,.c (.int .i64))] .nil) (.join [] .nil .nil))))))))
theorem m3(x0:SliceV)(x1:Int)(x2:Value){K:cT []→ad→Prop}{h0:ad}(h:iy x0 x1 x2 K h0):HC PG iw [.slice x0.a x0.len x0.cap,.int .i64 x1,x2] [] K h0:=dL m7 Tryz.func242 Tryz.call242 rfl rfl (by kernel_rfl) h
def rp(x0:Option Addr)(x1:Int)(K:(Unit)→ad→Prop)(h0:ad):Prop:=
 ∃a1,x0=some a1∧
 (cn (3:Int) 4∧
 ∃v2,bR h0 a1 ((3:Int).toNat*1) (.int .u64 v2)∧
 Bd (IntKind.wrap .u64 (af (IntKind.bits .u64) v2^^^af (IntKind.bits .u64) x1).toNat:Int) (fun n3=>
 ∃a4,x0=some a4∧
 (cn (3:Int) 4∧
 (d6 h0 (adr a4 ((3:Int).toNat*1)) (.int .u64 n3) (fun h5=>
 HC PG gZ (yH x0 2) [] (fun(e6:Unit) h7=>
 ∃a8,x0=some a8∧
 (cn 0 4∧
 ∃v9,bR h7 a8 ((0:Int).toNat*1) (.int .u64 v9)∧
 Bd (IntKind.wrap .u64 (af (IntKind.bits .u64) v9^^^af (IntKind.bits .u64) x1).toNat:Int) (fun n10=>
 ∃a11,x0=some a11∧
 (cn 0 4∧
 (d6 h7 (adr a11 ((0:Int).toNat*1)) (.int .u64 n10) (fun h12=>
 K () h12)))))) h5)))))
theorem yx(x0:Option Addr)(x1:Int){K:cT []→ad→Prop}{h0:ad}(h:rp x0 x1 K h0):HC PG kU (Nl x0 x1) [] K h0:=dL .nil Tryz.func243 Tryz.call243 rfl rfl (by kernel_rfl) h
def BF(x0:ByteArray)(K:(Int)→ad→Prop)(h0:ad):Prop:=
 Join (fun(t41:Int) h42=>
 ∃b43,(0:Int)≤(0:Int)∧x0[(0:Int).toNat]? =some b43∧
 Bd (IntKind.wrap .u64 (af (IntKind.bits .u64) t41|||af (IntKind.bits .u64) (IntKind.wrap .u64 (b43.toNat:Int))).toNat:Int) (fun n44=>
 K n44 h42)) (fun J1=>
 Join (fun(t36:Int) h37=>
 ∃b38,(0:Int)≤(1:Int)∧x0[(1:Int).toNat]? =some b38∧
 ((0:Int)≤(8:Int)∧
 Bd (IntKind.wrap .u64 ((IntKind.wrap .u64 (b38.toNat:Int))*2^(min (8:Int).toNat (IntKind.bits .u64))):Int) (fun n39=>
 Bd (IntKind.wrap .u64 (af (IntKind.bits .u64) t36|||af (IntKind.bits .u64) n39).toNat:Int) (fun n40=>
 J1 n40 h37)))) (fun J2=>
 Join (fun(t31:Int) h32=>
 ∃b33,(0:Int)≤(2:Int)∧x0[(2:Int).toNat]? =some b33∧
 ((0:Int)≤(16:Int)∧
 Bd (IntKind.wrap .u64 ((IntKind.wrap .u64 (b33.toNat:Int))*2^(min (16:Int).toNat (IntKind.bits .u64))):Int) (fun n34=>
 Bd (IntKind.wrap .u64 (af (IntKind.bits .u64) t31|||af (IntKind.bits .u64) n34).toNat:Int) (fun n35=>
 J2 n35 h32)))) (fun J3=>
 Join (fun(t26:Int) h27=>
 ∃b28,(0:Int)≤(3:Int)∧x0[(3:Int).toNat]? =some b28∧
 ((0:Int)≤(24:Int)∧
 Bd (IntKind.wrap .u64 ((IntKind.wrap .u64 (b28.toNat:Int))*2^(min (24:Int).toNat (IntKind.bits .u64))):Int) (fun n29=>
 Bd (IntKind.wrap .u64 (af (IntKind.bits .u64) t26|||af (IntKind.bits .u64) n29).toNat:Int) (fun n30=>
 J3 n30 h27)))) (fun J4=>
 Join (fun(t21:Int) h22=>
 ∃b23,(0:Int)≤(4:Int)∧x0[(4:Int).toNat]? =some b23∧
 ((0:Int)≤(32:Int)∧
 Bd (IntKind.wrap .u64 ((IntKind.wrap .u64 (b23.toNat:Int))*2^(min (32:Int).toNat (IntKind.bits .u64))):Int) (fun n24=>
 Bd (IntKind.wrap .u64 (af (IntKind.bits .u64) t21|||af (IntKind.bits .u64) n24).toNat:Int) (fun n25=>
 J4 n25 h22)))) (fun J5=>
 Join (fun(t16:Int) h17=>
 ∃b18,(0:Int)≤(5:Int)∧x0[(5:Int).toNat]? =some b18∧
 ((0:Int)≤(40:Int)∧
 Bd (IntKind.wrap .u64 ((IntKind.wrap .u64 (b18.toNat:Int))*2^(min (40:Int).toNat (IntKind.bits .u64))):Int) (fun n19=>
 Bd (IntKind.wrap .u64 (af (IntKind.bits .u64) t16|||af (IntKind.bits .u64) n19).toNat:Int) (fun n20=>
 J5 n20 h17)))) (fun J6=>
 Join (fun(t11:Int) h12=>
 ∃b13,(0:Int)≤(6:Int)∧x0[(6:Int).toNat]? =some b13∧
 ((0:Int)≤(48:Int)∧
 Bd (IntKind.wrap .u64 ((IntKind.wrap .u64 (b13.toNat:Int))*2^(min (48:Int).toNat (IntKind.bits .u64))):Int) (fun n14=>
 Bd (IntKind.wrap .u64 (af (IntKind.bits .u64) t11|||af (IntKind.bits .u64) n14).toNat:Int) (fun n15=>
 J6 n15 h12)))) (fun J7=>
 CondP ((x0.size:Int)==(8:Int)) (
 ∃b8,(0:Int)≤(7:Int)∧x0[(7:Int).toNat]? =some b8∧
 ((0:Int)≤(56:Int)∧
 Bd (IntKind.wrap .u64 ((IntKind.wrap .u64 (b8.toNat:Int))*2^(min (56:Int).toNat (IntKind.bits .u64))):Int) (fun n9=>
 Bd (IntKind.wrap .u64 (af (IntKind.bits .u64) 0|||af (IntKind.bits .u64) n9).toNat:Int) (fun n10=>
 J7 n10 h0)))) (
 CondP ((x0.size:Int)==(7:Int)) (
 J7 0 h0) (
 CondP ((x0.size:Int)==(6:Int)) (
 J6 0 h0) (
 CondP ((x0.size:Int)==(5:Int)) (
 J5 0 h0) (
 CondP ((x0.size:Int)==(4:Int)) (
 J4 0 h0) (
 CondP ((x0.size:Int)==(3:Int)) (
 J3 0 h0) (
 CondP ((x0.size:Int)==(2:Int)) (
 J2 0 h0) (
 CondP ((x0.size:Int)==(1:Int)) (
 J1 0 h0) (
 K 0 h0)))))))))))))))
noncomputable def IJ:Ann:=.node .nil (.node .nil (.node (.node .nil (.join [(3,.c (.int .u64))] (.join [(3,.c (.int .u64))] (.join [(3,.c (.int .u64))] (.join [(3,.c (.int .u64))] (.join [(3,.c (.int .u64))] (.join [(3,.c (.int .u64))] (.join [(3,.c (.int .u64))] .nil .nil) .nil) .nil) .nil) .nil) .nil) .nil)) .nil))
theorem Iq(x0:ByteArray){K:cT is→ad→Prop}{h0:ad}(h:BF x0 K h0):HC PG rM [.string x0] is K h0:=dL IJ Tryz.func244 Tryz.call244 rfl rfl (by kernel_rfl) h
def pS(x0:Option Addr)(x1:Int)(K:(Unit)→ad→Prop)(h0:ad):Prop:=
 LoopP (fun I1 (t2:Int) h3=>
 CondP (decide (t2<x1)) (
 ∃a4,x0=some a4∧
 (cn 0 4∧
 ∃v5,bR h3 a4 ((0:Int).toNat*1) (.int .u64 v5)∧
 ∃a6,x0=some a6∧
 (cn 1 4∧
 ∃v7,bR h3 a6 ((1:Int).toNat*1) (.int .u64 v7)∧
 ∃a8,x0=some a8∧
 (cn 0 4∧
 (d6 h3 (adr a8 ((0:Int).toNat*1)) (.int .u64 (IntKind.wrap .u64 (v5+v7))) (fun h9=>
 ∃a10,x0=some a10∧
 (cn 1 4∧
 ∃v11,bR h9 a10 ((1:Int).toNat*1) (.int .u64 v11)∧
 ∃a12,x0=some a12∧
 (cn 0 4∧
 ∃v13,bR h9 a12 ((0:Int).toNat*1) (.int .u64 v13)∧
 ∃a14,x0=some a14∧
 HC PG db (oC v11 13) is (fun(e15:Int) h16=>
 (bR h16 a12 ((0:Int).toNat*1) (.int .u64 v13)∧
 Bd (IntKind.wrap .u64 (af (IntKind.bits .u64) e15^^^af (IntKind.bits .u64) v13).toNat:Int) (fun n17=>
 (cn 1 4∧
 (d6 h16 (adr a14 ((1:Int).toNat*1)) (.int .u64 n17) (fun h18=>
 ∃a19,x0=some a19∧
 (cn 0 4∧
 ∃v20,bR h18 a19 ((0:Int).toNat*1) (.int .u64 v20)∧
 ∃a21,x0=some a21∧
 HC PG db (oC v20 32) is (fun(e22:Int) h23=>
 (cn 0 4∧
 (d6 h23 (adr a21 ((0:Int).toNat*1)) (.int .u64 e22) (fun h24=>
 ∃a25,x0=some a25∧
 (cn (2:Int) 4∧
 ∃v26,bR h24 a25 ((2:Int).toNat*1) (.int .u64 v26)∧
 ∃a27,x0=some a27∧
 (cn (3:Int) 4∧
 ∃v28,bR h24 a27 ((3:Int).toNat*1) (.int .u64 v28)∧
 ∃a29,x0=some a29∧
 (cn (2:Int) 4∧
 (d6 h24 (adr a29 ((2:Int).toNat*1)) (.int .u64 (IntKind.wrap .u64 (v26+v28))) (fun h30=>
 ∃a31,x0=some a31∧
 (cn (3:Int) 4∧
 ∃v32,bR h30 a31 ((3:Int).toNat*1) (.int .u64 v32)∧
 ∃a33,x0=some a33∧
 (cn (2:Int) 4∧
 ∃v34,bR h30 a33 ((2:Int).toNat*1) (.int .u64 v34)∧
 ∃a35,x0=some a35∧
 HC PG db (oC v32 16) is (fun(e36:Int) h37=>
 (bR h37 a33 ((2:Int).toNat*1) (.int .u64 v34)∧
 Bd (IntKind.wrap .u64 (af (IntKind.bits .u64) e36^^^af (IntKind.bits .u64) v34).toNat:Int) (fun n38=>
 (cn (3:Int) 4∧
 (d6 h37 (adr a35 ((3:Int).toNat*1)) (.int .u64 n38) (fun h39=>
 ∃a40,x0=some a40∧
 (cn 0 4∧
 ∃v41,bR h39 a40 ((0:Int).toNat*1) (.int .u64 v41)∧
 ∃a42,x0=some a42∧
 (cn (3:Int) 4∧
 ∃v43,bR h39 a42 ((3:Int).toNat*1) (.int .u64 v43)∧
 ∃a44,x0=some a44∧
 (cn 0 4∧
 (d6 h39 (adr a44 ((0:Int).toNat*1)) (.int .u64 (IntKind.wrap .u64 (v41+v43))) (fun h45=>
 ∃a46,x0=some a46∧
 (cn (3:Int) 4∧
 ∃v47,bR h45 a46 ((3:Int).toNat*1) (.int .u64 v47)∧
 ∃a48,x0=some a48∧
 (cn 0 4∧
 ∃v49,bR h45 a48 ((0:Int).toNat*1) (.int .u64 v49)∧
 ∃a50,x0=some a50∧
 HC PG db (oC v47 21) is (fun(e51:Int) h52=>
 (bR h52 a48 ((0:Int).toNat*1) (.int .u64 v49)∧
 Bd (IntKind.wrap .u64 (af (IntKind.bits .u64) e51^^^af (IntKind.bits .u64) v49).toNat:Int) (fun n53=>
 (cn (3:Int) 4∧
 (d6 h52 (adr a50 ((3:Int).toNat*1)) (.int .u64 n53) (fun h54=>
 ∃a55,x0=some a55∧
 (cn (2:Int) 4∧
 ∃v56,bR h54 a55 ((2:Int).toNat*1) (.int .u64 v56)∧
 ∃a57,x0=some a57∧
 (cn 1 4∧
 ∃v58,bR h54 a57 ((1:Int).toNat*1) (.int .u64 v58)∧
 ∃a59,x0=some a59∧
 (cn (2:Int) 4∧
 (d6 h54 (adr a59 ((2:Int).toNat*1)) (.int .u64 (IntKind.wrap .u64 (v56+v58))) (fun h60=>
 ∃a61,x0=some a61∧
 (cn 1 4∧
 ∃v62,bR h60 a61 ((1:Int).toNat*1) (.int .u64 v62)∧
 ∃a63,x0=some a63∧
 (cn (2:Int) 4∧
 ∃v64,bR h60 a63 ((2:Int).toNat*1) (.int .u64 v64)∧
 ∃a65,x0=some a65∧
 HC PG db (oC v62 17) is (fun(e66:Int) h67=>
 (bR h67 a63 ((2:Int).toNat*1) (.int .u64 v64)∧
 Bd (IntKind.wrap .u64 (af (IntKind.bits .u64) e66^^^af (IntKind.bits .u64) v64).toNat:Int) (fun n68=>
 (cn 1 4∧
 (d6 h67 (adr a65 ((1:Int).toNat*1)) (.int .u64 n68) (fun h69=>
 ∃a70,x0=some a70∧
 (cn (2:Int) 4∧
 ∃v71,bR h69 a70 ((2:Int).toNat*1) (.int .u64 v71)∧
 ∃a72,x0=some a72∧
 HC PG db (oC v71 32) is (fun(e73:Int) h74=>
 (cn (2:Int) 4∧
 (d6 h74 (adr a72 ((2:Int).toNat*1)) (.int .u64 e73) (fun h75=>
 I1 (IntKind.wrap .i64 (t2+1)) h75)))) h69))))))) h60))))))))))))) h45))))))))))))) h30))))))))))) h18))))))) h9)))))))) (
 K () h3)) 0 h0
noncomputable def wd:Ann:=.node .nil (.loop [(5,.c (.int .i64))] .nil)
theorem vU(x0:Option Addr)(x1:Int){K:cT []→ad→Prop}{h0:ad}(h:pS x0 x1 K h0):HC PG gZ (yH x0 x1) [] K h0:=dL wd Tryz.func245 Tryz.call245 rfl rfl (by kernel_rfl) h
def oO(x0:Option Addr)(x1:Option Addr)(K:(Option Addr)→ad→Prop)(h0:ad):Prop:=
 HC PG mV (Aj x0 x1) [.c .bool] (fun(e1:Bool) h2=>
 CondP e1 (
 K x0 h2) (
 ∃a3,x0=some a3∧
 ∃v4,f8 h2 a3 0 v4∧
 ∃v5,f8 h2 a3 1 v5∧
 ∃v6:SliceV,bU h2 a3 2 v6∧
 ∃v7:SliceV,bU h2 a3 3 v7∧
 ∃v8,hH h2 a3 4 v8∧
 ∃v9,yS h2 a3 5 v9∧
 nv h2 Ll bm (OM v4 v5 v6 v7 v8 v9) (fun h11=>
 ∃a12,x0=some a12∧
 ∃v13:SliceV,bU h11 (adr a12 0) 2 v13∧
 ∃a14,x0=some a14∧
 ∃v15:SliceV,bU h11 (adr a14 0) 3 v15∧
 HC PG cU [.slice v13.a v13.len v13.cap] [.c .slice] (fun(e16:SliceV) h17=>
 (bU h17 (adr a14 0) 3 v15∧
 HC PG dh [.slice v15.a v15.len v15.cap] [.c .slice] (fun(e18:SliceV) h19=>
 (d6 h19 (adr (adr (aC h2) 0) 2) (.slice e16.a e16.len e16.cap) (fun h20=>
 (d6 h20 (adr (adr (aC h2) 0) 3) (.slice e18.a e18.len e18.cap) (fun h21=>
 (d6 h21 (adr (aC h2) 5) (.pointer none) (fun h22=>
 HC PG jr [.pointer x1] [.c .bool] (fun(e23:Bool) h24=>
 CondP e23 (
 (d6 h24 (adr (aC h2) 5) (.pointer x1) (fun h25=>
 K (some (aC h2)) h25))) (
 K (some (aC h2)) h24)) h22))))))) h17)) h11))) h0
theorem sr(x0:Option Addr)(x1:Option Addr){K:cT [.c .ptr]→ad→Prop}{h0:ad}(h:oO x0 x1 K h0):HC PG ig (Aj x0 x1) [.c .ptr] K h0:=dL .nil Tryz.func246 Tryz.call246 rfl rfl (by kernel_rfl) h
def BR(x0:SliceV)(x1:ByteArray×ByteArray)(K:(SliceV)→ad→Prop)(h0:ad):Prop:=
 At (hnew h0 (B7 x1) al) (fun h1=>
 ∃v2,aF h1 h0 0 v2∧
 HC PG tC (xS x0 v2) ut (fun(e3:Int×Bool) h4=>
 (((0:Int)≤e3.1∧e3.1≤((x0.len:Nat):Int))∧
 Join (fun(t9:SliceV) h10=>
 (((0:Int)≤e3.1∧e3.1≤((x0.cap:Nat):Int))∧
 ∃v11,aF h10 h0 0 v11∧
 ∃v12,aF h10 h0 1 v12∧
 At (hnew h10 (im v11 v12) al) (fun h13=>
 At (hnew h13 [.slice (aZ x0.a 0 x0.cap 2) (e3.1.toNat-0) (x0.cap-0),.slice (some (aC h10)) 1 1,.slice t9.a t9.len t9.cap] cD) (fun h14=>
 HC PG eF [.slice (some (aC h13)) 3 3] [.c .slice] (fun(e15:SliceV) h16=>
 K e15 h16) h14)))) (fun J5=>
 CondP e3.2 (
 (((0:Int)≤(IntKind.wrap .i64 (e3.1+1))∧(IntKind.wrap .i64 (e3.1+1))≤((x0.len:Nat):Int))∧
 Bd (aZ x0.a ((IntKind.wrap .i64 (e3.1+1)).toNat) x0.cap 2:Option Addr) (fun a6=>Bd (x0.len-((IntKind.wrap .i64 (e3.1+1)).toNat):Nat) (fun n7=>Bd (x0.cap-((IntKind.wrap .i64 (e3.1+1)).toNat):Nat) (fun n8=>
 J5 ⟨a6,n7,n8⟩ h4))))) (
 J5 ⟨aZ x0.a e3.1.toNat x0.cap 2,x0.len-e3.1.toNat,x0.cap-e3.1.toNat⟩ h4)))) h1)
noncomputable def IR:Ann:=.node .nil (.node .nil (.node .nil (.join [(7,.c .slice)] .nil .nil)))
theorem IC(x0:SliceV)(x1:ByteArray×ByteArray){K:cT [.c .slice]→ad→Prop}{h0:ad}(h:BR x0 x1 K h0):HC PG vK [.slice x0.a x0.len x0.cap,OC x1] [.c .slice] K h0:=dL IR Tryz.func247 Tryz.call247 rfl rfl (by kernel_rfl) h
def gN(x0:SliceV)(x1:Int)(x2:Value)(K:(Unit)→ad→Prop)(h0:ad):Prop:=
 LoopP (fun I1 (t2:Int×Int) h3=>
 CondP (decide (t2.2≤x1)) (
 HC PG cV [.slice x0.a x0.len x0.cap,.int .i64 t2.1,.int .i64 t2.2,x2] [] (fun(e4:Unit) h5=>
 I1 (t2.2,IntKind.wrap .i64 (t2.2+20)) h5) h3) (
 HC PG cV [.slice x0.a x0.len x0.cap,.int .i64 t2.1,.int .i64 x1,x2] [] (fun(e6:Unit) h7=>
 LoopP (fun I8 (t9:Int) h10=>
 CondP (decide (t9<x1)) (
 LoopP (fun I11 (t12:Int×Int) h13=>
 CondP (decide (t12.2≤x1)) (
 HC PG cx [.slice x0.a x0.len x0.cap,.int .i64 t12.1,.int .i64 (IntKind.wrap .i64 (t12.1+t9)),.int .i64 t12.2,x2] [] (fun(e14:Unit) h15=>
 I11 (t12.2,IntKind.wrap .i64 (t12.2+(IntKind.wrap .i64 (2*t9)))) h15) h13) (
 Join (fun(t19:Unit) h20=>
 I8 (IntKind.wrap .i64 (t9*2)) h20) (fun J16=>
 CondP (decide ((IntKind.wrap .i64 (t12.1+t9))<x1)) (
 HC PG cx [.slice x0.a x0.len x0.cap,.int .i64 t12.1,.int .i64 (IntKind.wrap .i64 (t12.1+t9)),.int .i64 x1,x2] [] (fun(e17:Unit) h18=>
 J16 () h18) h13) (
 J16 () h13)))) (0,IntKind.wrap .i64 (2*t9)) h10) (
 K () h10)) 20 h7) h3)) (0,20) h0
noncomputable def lW:Ann:=.node .nil (.node .nil (.node (.loop [(7,.c (.int .i64)),(8,.c (.int .i64))] .nil) (.node .nil (.loop [(6,.c (.int .i64))] (.node .nil (.node .nil (.node (.loop [(7,.c (.int .i64)),(8,.c (.int .i64))] .nil) (.join [] .nil .nil))))))))
theorem lQ(x0:SliceV)(x1:Int)(x2:Value){K:cT []→ad→Prop}{h0:ad}(h:gN x0 x1 x2 K h0):HC PG gL [.slice x0.a x0.len x0.cap,.int .i64 x1,x2] [] K h0:=dL lW Tryz.func248 Tryz.call248 rfl rfl (by kernel_rfl) h
def sG(x0:Int)(K:(Bool)→ad→Prop)(h0:ad):Prop:=
 K (x0 !=x0) h0
theorem zG(x0:Int){K:cT [.c .bool]→ad→Prop}{h0:ad}(h:sG x0 K h0):HC PG l6 [.int .i64 x0] [.c .bool] K h0:=dL .nil Tryz.func249 Tryz.call249 rfl rfl (by kernel_rfl) h
def qu(x0:Option Addr)(x1:Int)(K:(Bool)→ad→Prop)(h0:ad):Prop:=
 CondP (!(x0.isNone)) (
 ∃a1,x0=some a1∧
 ∃v2,hH h0 a1 4 v2∧
 CondP (!v2) (
 CondP (decide (x1≥(0:Int))) (
 K (decide (x1<(32:Int))) h0) (
 K false h0)) (
 K false h0)) (
 K false h0)
theorem xn(x0:Option Addr)(x1:Int){K:cT [.c .bool]→ad→Prop}{h0:ad}(h:qu x0 x1 K h0):HC PG j5 (yH x0 x1) [.c .bool] K h0:=dL .nil Tryz.func250 Tryz.call250 rfl rfl (by kernel_rfl) h
def qt(x0:Option Addr)(x1:Int)(K:(Unit)→ad→Prop)(h0:ad):Prop:=
 Join (fun(t16:Unit) h17=>
 Join (fun(t33:Unit) h34=>
 ∃a35,x0=some a35∧
 ∃v36,f8 h34 a35 0 v36∧
 ∃a37,x0=some a37∧
 ∃v38,f8 h34 a37 1 v38∧
 HC PG ix (ma v36 x1) mG (fun(e39:Int) h40=>
 (f8 h40 a37 1 v38∧
 HC PG ix (ma v38 x1) mG (fun(e41:Int) h42=>
 ∃a43,x0=some a43∧
 (d6 h42 (adr a43 0) (.int .u32 e39) (fun h44=>
 ∃a45,x0=some a45∧
 (d6 h44 (adr a45 1) (.int .u32 e41) (fun h46=>
 K () h46))))) h40)) h34) (fun J18=>
 ∃a19,x0=some a19∧
 ∃v20,f8 h17 a19 1 v20∧
 HC PG fc (ma v20 x1) [.c .bool] (fun(e21:Bool) h22=>
 CondP e21 (
 ∃a23,x0=some a23∧
 ∃v24,f8 h22 a23 1 v24∧
 HC PG dg (ma v24 x1) bV (fun(e25:Int) h26=>
 ∃a27,x0=some a27∧
 ∃v28:SliceV,bU h26 a27 3 v28∧
 HC PG dS (Ls v28 e25 (IntKind.wrap .i64 (e25+1))) [.c .slice] (fun(e29:SliceV) h30=>
 ∃a31,x0=some a31∧
 (d6 h30 (adr a31 3) (.slice e29.a e29.len e29.cap) (fun h32=>
 J18 () h32))) h26) h22) (
 J18 () h22)) h17)) (fun J1=>
 ∃a2,x0=some a2∧
 ∃v3,f8 h0 a2 0 v3∧
 HC PG fc (ma v3 x1) [.c .bool] (fun(e4:Bool) h5=>
 CondP e4 (
 ∃a6,x0=some a6∧
 ∃v7,f8 h5 a6 0 v7∧
 HC PG dg (ma v7 x1) bV (fun(e8:Int) h9=>
 ∃a10,x0=some a10∧
 ∃v11:SliceV,bU h9 a10 2 v11∧
 HC PG eE (Ls v11 e8 (IntKind.wrap .i64 (e8+1))) [.c .slice] (fun(e12:SliceV) h13=>
 ∃a14,x0=some a14∧
 (d6 h13 (adr a14 2) (.slice e12.a e12.len e12.cap) (fun h15=>
 J1 () h15))) h9) h5) (
 J1 () h5)) h0)
noncomputable def xL:Ann:=.join [] .nil (.join [] .nil .nil)
theorem xm(x0:Option Addr)(x1:Int){K:cT []→ad→Prop}{h0:ad}(h:qt x0 x1 K h0):HC PG j4 (yH x0 x1) [] K h0:=dL xL Tryz.func251 Tryz.call251 rfl rfl (by kernel_rfl) h
def gf(x0:SliceV)(x1:Int)(x2:SliceV)(K:(SliceV)→ad→Prop)(h0:ad):Prop:=
 (((0:Int)≤x1∧x1≤((x0.len:Nat):Int))∧
 CondP ((x2.len:Int)==(0:Int)) (
 K x0 h0) (
 CondP (x1==(x0.len:Int)) (
 ∃xs1,SRow h0 x2.a (x2.len*2) xs1∧
 AppP (some jm) 2 32 al x0.a x0.len x0.cap x2.len xs1 h0 (fun s2 h3=>
 K s2 h3)) (
 CondP (decide ((IntKind.wrap .i64 ((x0.len:Int)+(x2.len:Int)))>(x0.cap:Int))) (
 Join (fun(t8:SliceV) h9=>
 (((0:Int)≤x1∧x1≤((t8.len:Nat):Int))∧
 ∃xs10,SRow h9 x2.a (fl x2.len (t8.len-x1.toNat)*2) xs10∧uv h9 (aZ t8.a x1.toNat t8.cap 2) 0 xs10∧cq xs10=true∧
 At (fV h9 (aZ t8.a x1.toNat t8.cap 2) 0 xs10) (fun h11=>
 (((0:Int)≤(IntKind.wrap .i64 (x1+(x2.len:Int)))∧(IntKind.wrap .i64 (x1+(x2.len:Int)))≤((t8.len:Nat):Int))∧
 Bd (aZ t8.a ((IntKind.wrap .i64 (x1+(x2.len:Int))).toNat) t8.cap 2:Option Addr) (fun a12=>Bd (t8.len-((IntKind.wrap .i64 (x1+(x2.len:Int))).toNat):Nat) (fun n13=>Bd (t8.cap-((IntKind.wrap .i64 (x1+(x2.len:Int))).toNat):Nat) (fun n14=>
 (((0:Int)≤x1∧x1≤((x0.len:Nat):Int))∧
 ∃xs15,SRow h11 (aZ x0.a x1.toNat x0.cap 2) (fl (x0.len-x1.toNat) n13*2) xs15∧uv h11 a12 0 xs15∧cq xs15=true∧
 At (fV h11 a12 0 xs15) (fun h16=>
 K t8 h16))))))))) (fun J4=>
 (((0:Int)≤x1∧x1≤((x0.cap:Nat):Int))∧
 Bd (IntKind.wrap .i64 ((IntKind.wrap .i64 ((x0.len:Int)+(x2.len:Int)))-x1):Int) (fun n5=>
 (((0:Int)≤n5∧n5*((32:Nat):Int)≤2^48∧n5≤9223372036854775807∧(((x1.toNat-0)+n5.toNat:Nat):Int)≤9223372036854775807)∧
 AppP (some jm) 2 32 al (aZ x0.a 0 x0.cap 2) (x1.toNat-0) (x0.cap-0) n5.toNat (dR n5.toNat jm) h0 (fun s6 h7=>
 J4 s6 h7)))))) (
 (((0:Int)≤(IntKind.wrap .i64 ((x0.len:Int)+(x2.len:Int)))∧(IntKind.wrap .i64 ((x0.len:Int)+(x2.len:Int)))≤((x0.cap:Nat):Int))∧
 Bd (aZ x0.a 0 x0.cap 2:Option Addr) (fun a17=>Bd (((IntKind.wrap .i64 ((x0.len:Int)+(x2.len:Int))).toNat)-0:Nat) (fun n18=>Bd (x0.cap-0:Nat) (fun n19=>
 (((0:Int)≤(IntKind.wrap .i64 (x1+(x2.len:Int)))∧(IntKind.wrap .i64 (x1+(x2.len:Int)))≤((n18:Nat):Int))∧
 Bd (aZ a17 ((IntKind.wrap .i64 (x1+(x2.len:Int))).toNat) n19 2:Option Addr) (fun a20=>Bd (n18-((IntKind.wrap .i64 (x1+(x2.len:Int))).toNat):Nat) (fun n21=>Bd (n19-((IntKind.wrap .i64 (x1+(x2.len:Int))).toNat):Nat) (fun n22=>
 HC PG gD [.slice x2.a x2.len x2.cap,.slice a20 n21 n22] [.c .bool] (fun(e23:Bool) h24=>
 CondP (!e23) (
 (((0:Int)≤(IntKind.wrap .i64 (x1+(x2.len:Int)))∧(IntKind.wrap .i64 (x1+(x2.len:Int)))≤((n18:Nat):Int))∧
 Bd (aZ a17 ((IntKind.wrap .i64 (x1+(x2.len:Int))).toNat) n19 2:Option Addr) (fun a25=>Bd (n18-((IntKind.wrap .i64 (x1+(x2.len:Int))).toNat):Nat) (fun n26=>Bd (n19-((IntKind.wrap .i64 (x1+(x2.len:Int))).toNat):Nat) (fun n27=>
 (((0:Int)≤x1∧x1≤((n18:Nat):Int))∧
 ∃xs28,SRow h24 (aZ a17 x1.toNat n19 2) (fl (n18-x1.toNat) n26*2) xs28∧uv h24 a25 0 xs28∧cq xs28=true∧
 At (fV h24 a25 0 xs28) (fun h29=>
 (((0:Int)≤x1∧x1≤((n18:Nat):Int))∧
 ∃xs30,SRow h29 x2.a (fl x2.len (n18-x1.toNat)*2) xs30∧uv h29 (aZ a17 x1.toNat n19 2) 0 xs30∧cq xs30=true∧
 At (fV h29 (aZ a17 x1.toNat n19 2) 0 xs30) (fun h31=>
 K ⟨a17,n18,n19⟩ h31))))))))) (
 (((0:Int)≤(x0.len:Int)∧(x0.len:Int)≤((n18:Nat):Int))∧
 ∃xs32,SRow h24 x2.a (fl x2.len (n18-((x0.len:Int).toNat))*2) xs32∧uv h24 (aZ a17 ((x0.len:Int).toNat) n19 2) 0 xs32∧cq xs32=true∧
 At (fV h24 (aZ a17 ((x0.len:Int).toNat) n19 2) 0 xs32) (fun h33=>
 (((0:Int)≤x1∧x1≤((n18:Nat):Int))∧
 HC PG nC [.slice (aZ a17 x1.toNat n19 2) (n18-x1.toNat) (n19-x1.toNat),.int .i64 (x2.len:Int)] [] (fun(e34:Unit) h35=>
 K ⟨a17,n18,n19⟩ h35) h33))))) h0))))))))))))
noncomputable def lj:Ann:=.node .nil (.node .nil (.node .nil (.node .nil (.node .nil (.node .nil (.node (.node .nil (.node (.join [(9,.c .slice)] .nil .nil) .nil)) .nil))))))
theorem lf(x0:SliceV)(x1:Int)(x2:SliceV){K:cT [.c .slice]→ad→Prop}{h0:ad}(h:gf x0 x1 x2 K h0):HC PG cN (PI x0 x1 x2) [.c .slice] K h0:=dL lj Tryz.func252 Tryz.call252 rfl rfl (by kernel_rfl) h
def qz(x0:Int)(x1:Int)(K:(Int)→ad→Prop)(h0:ad):Prop:=
 HC PG lL [.int .i64 x1] [.c .bool] (fun(e1:Bool) h2=>
 CondP (!e1) (
 K x0 h2) (
 ((0:Int)≤x1∧
 Bd (IntKind.wrap .u32 (af (IntKind.bits .u32) x0|||af (IntKind.bits .u32) (IntKind.wrap .u32 (1*2^(min (x1:Int).toNat (IntKind.bits .u32))))).toNat:Int) (fun n3=>
 K n3 h2)))) h0
theorem xt(x0:Int)(x1:Int){K:cT mG→ad→Prop}{h0:ad}(h:qz x0 x1 K h0):HC PG eJ (ma x0 x1) mG K h0:=dL .nil Tryz.func253 Tryz.call253 rfl rfl (by kernel_rfl) h
def fy(x0:SliceV)(x1:Int)(x2:SliceV)(K:(SliceV)→ad→Prop)(h0:ad):Prop:=
 (((0:Int)≤x1∧x1≤((x0.len:Nat):Int))∧
 CondP ((x2.len:Int)==(0:Int)) (
 K x0 h0) (
 CondP (x1==(x0.len:Int)) (
 ∃xs1,SRow h0 x2.a (x2.len*1) xs1∧
 AppP (some [.pointer none]) 1 8 bK x0.a x0.len x0.cap x2.len xs1 h0 (fun s2 h3=>
 K s2 h3)) (
 CondP (decide ((IntKind.wrap .i64 ((x0.len:Int)+(x2.len:Int)))>(x0.cap:Int))) (
 Join (fun(t8:SliceV) h9=>
 (((0:Int)≤x1∧x1≤((t8.len:Nat):Int))∧
 ∃xs10,SRow h9 x2.a (fl x2.len (t8.len-x1.toNat)*1) xs10∧uv h9 (aZ t8.a x1.toNat t8.cap 1) 0 xs10∧cq xs10=true∧
 At (fV h9 (aZ t8.a x1.toNat t8.cap 1) 0 xs10) (fun h11=>
 (((0:Int)≤(IntKind.wrap .i64 (x1+(x2.len:Int)))∧(IntKind.wrap .i64 (x1+(x2.len:Int)))≤((t8.len:Nat):Int))∧
 Bd (aZ t8.a ((IntKind.wrap .i64 (x1+(x2.len:Int))).toNat) t8.cap 1:Option Addr) (fun a12=>Bd (t8.len-((IntKind.wrap .i64 (x1+(x2.len:Int))).toNat):Nat) (fun n13=>Bd (t8.cap-((IntKind.wrap .i64 (x1+(x2.len:Int))).toNat):Nat) (fun n14=>
 (((0:Int)≤x1∧x1≤((x0.len:Nat):Int))∧
 ∃xs15,SRow h11 (aZ x0.a x1.toNat x0.cap 1) (fl (x0.len-x1.toNat) n13*1) xs15∧uv h11 a12 0 xs15∧cq xs15=true∧
 At (fV h11 a12 0 xs15) (fun h16=>
 K t8 h16))))))))) (fun J4=>
 (((0:Int)≤x1∧x1≤((x0.cap:Nat):Int))∧
 Bd (IntKind.wrap .i64 ((IntKind.wrap .i64 ((x0.len:Int)+(x2.len:Int)))-x1):Int) (fun n5=>
 (((0:Int)≤n5∧n5*((8:Nat):Int)≤2^48∧n5≤9223372036854775807∧(((x1.toNat-0)+n5.toNat:Nat):Int)≤9223372036854775807)∧
 AppP (some [.pointer none]) 1 8 bK (aZ x0.a 0 x0.cap 1) (x1.toNat-0) (x0.cap-0) n5.toNat (dR n5.toNat [.pointer none]) h0 (fun s6 h7=>
 J4 s6 h7)))))) (
 (((0:Int)≤(IntKind.wrap .i64 ((x0.len:Int)+(x2.len:Int)))∧(IntKind.wrap .i64 ((x0.len:Int)+(x2.len:Int)))≤((x0.cap:Nat):Int))∧
 Bd (aZ x0.a 0 x0.cap 1:Option Addr) (fun a17=>Bd (((IntKind.wrap .i64 ((x0.len:Int)+(x2.len:Int))).toNat)-0:Nat) (fun n18=>Bd (x0.cap-0:Nat) (fun n19=>
 (((0:Int)≤(IntKind.wrap .i64 (x1+(x2.len:Int)))∧(IntKind.wrap .i64 (x1+(x2.len:Int)))≤((n18:Nat):Int))∧
 Bd (aZ a17 ((IntKind.wrap .i64 (x1+(x2.len:Int))).toNat) n19 1:Option Addr) (fun a20=>Bd (n18-((IntKind.wrap .i64 (x1+(x2.len:Int))).toNat):Nat) (fun n21=>Bd (n19-((IntKind.wrap .i64 (x1+(x2.len:Int))).toNat):Nat) (fun n22=>
 HC PG fW [.slice x2.a x2.len x2.cap,.slice a20 n21 n22] [.c .bool] (fun(e23:Bool) h24=>
 CondP (!e23) (
 (((0:Int)≤(IntKind.wrap .i64 (x1+(x2.len:Int)))∧(IntKind.wrap .i64 (x1+(x2.len:Int)))≤((n18:Nat):Int))∧
 Bd (aZ a17 ((IntKind.wrap .i64 (x1+(x2.len:Int))).toNat) n19 1:Option Addr) (fun a25=>Bd (n18-((IntKind.wrap .i64 (x1+(x2.len:Int))).toNat):Nat) (fun n26=>Bd (n19-((IntKind.wrap .i64 (x1+(x2.len:Int))).toNat):Nat) (fun n27=>
 (((0:Int)≤x1∧x1≤((n18:Nat):Int))∧
 ∃xs28,SRow h24 (aZ a17 x1.toNat n19 1) (fl (n18-x1.toNat) n26*1) xs28∧uv h24 a25 0 xs28∧cq xs28=true∧
 At (fV h24 a25 0 xs28) (fun h29=>
 (((0:Int)≤x1∧x1≤((n18:Nat):Int))∧
 ∃xs30,SRow h29 x2.a (fl x2.len (n18-x1.toNat)*1) xs30∧uv h29 (aZ a17 x1.toNat n19 1) 0 xs30∧cq xs30=true∧
 At (fV h29 (aZ a17 x1.toNat n19 1) 0 xs30) (fun h31=>
 K ⟨a17,n18,n19⟩ h31))))))))) (
 (((0:Int)≤(x0.len:Int)∧(x0.len:Int)≤((n18:Nat):Int))∧
 ∃xs32,SRow h24 x2.a (fl x2.len (n18-((x0.len:Int).toNat))*1) xs32∧uv h24 (aZ a17 ((x0.len:Int).toNat) n19 1) 0 xs32∧cq xs32=true∧
 At (fV h24 (aZ a17 ((x0.len:Int).toNat) n19 1) 0 xs32) (fun h33=>
 (((0:Int)≤x1∧x1≤((n18:Nat):Int))∧
 HC PG mS [.slice (aZ a17 x1.toNat n19 1) (n18-x1.toNat) (n19-x1.toNat),.int .i64 (x2.len:Int)] [] (fun(e34:Unit) h35=>
 K ⟨a17,n18,n19⟩ h35) h33))))) h0))))))))))))
noncomputable def jJ:Ann:=.node .nil (.node .nil (.node .nil (.node .nil (.node .nil (.node .nil (.node (.node .nil (.node (.join [(9,.c .slice)] .nil .nil) .nil)) .nil))))))
theorem jH(x0:SliceV)(x1:Int)(x2:SliceV){K:cT [.c .slice]→ad→Prop}{h0:ad}(h:fy x0 x1 x2 K h0):HC PG cC (PI x0 x1 x2) [.c .slice] K h0:=dL jJ Tryz.func254 Tryz.call254 rfl rfl (by kernel_rfl) h
def xC(x0:ByteArray)(x1:ByteArray)(K:(Int)→ad→Prop)(h0:ad):Prop:=
 LoopP (fun I1 (t2:Int) h3=>
 Join (fun(t7:Bool) h8=>
 CondP t7 (
 I1 (IntKind.wrap .i64 (t2+1)) h8) (
 K t2 h8)) (fun J4=>
 CondP (decide (t2<(x0.size:Int))) (
 CondP (decide (t2<(x1.size:Int))) (
 ∃b5,(0:Int)≤t2∧x0[t2.toNat]? =some b5∧
 ∃b6,(0:Int)≤t2∧x1[t2.toNat]? =some b6∧
 J4 ((b5.toNat:Int)==(b6.toNat:Int)) h3) (
 J4 false h3)) (
 J4 false h3))) 0 h0
noncomputable def E2:Ann:=.node .nil (.node .nil (.node (.loop [(5,.c (.int .i64))] (.node (.join [(24,.c .bool)] .nil .nil) .nil)) .nil))
theorem ER(x0:ByteArray)(x1:ByteArray){K:cT bV→ad→Prop}{h0:ad}(h:xC x0 x1 K h0):HC PG rP (im x0 x1) bV K h0:=dL E2 Tryz.func255 Tryz.call255 rfl rfl (by kernel_rfl) h
def zm(x0:Int×Int×Int×Int)(K:(Int×Int×Int×Int)→ad→Prop)(h0:ad):Prop:=
 At (hnew h0 (L8 x0) rA) (fun h1=>
 At (hnew h1 JM rA) (fun h2=>
 (cn 0 4∧
 ∃v3,bR h2 (aC h0) ((0:Int).toNat*1) (.int .u64 v3)∧
 (cn 1 4∧
 ∃v4,bR h2 (aC h0) ((1:Int).toNat*1) (.int .u64 v4)∧
 (cn (2:Int) 4∧
 ∃v5,bR h2 (aC h0) ((2:Int).toNat*1) (.int .u64 v5)∧
 (cn (3:Int) 4∧
 ∃v6,bR h2 (aC h0) ((3:Int).toNat*1) (.int .u64 v6)∧
 HC PG kG (oC v4 13) is (fun(e7:Int) h8=>
 Bd (IntKind.wrap .u64 (af (IntKind.bits .u64) e7^^^af (IntKind.bits .u64) (IntKind.wrap .u64 (v3+v4))).toNat:Int) (fun n9=>
 HC PG kG (oC (IntKind.wrap .u64 (v3+v4)) 32) is (fun(e10:Int) h11=>
 HC PG kG (oC v6 16) is (fun(e12:Int) h13=>
 Bd (IntKind.wrap .u64 (af (IntKind.bits .u64) e12^^^af (IntKind.bits .u64) (IntKind.wrap .u64 (v5+v6))).toNat:Int) (fun n14=>
 HC PG kG (oC n14 21) is (fun(e15:Int) h16=>
 Bd (IntKind.wrap .u64 (af (IntKind.bits .u64) e15^^^af (IntKind.bits .u64) (IntKind.wrap .u64 (e10+n14))).toNat:Int) (fun n17=>
 HC PG kG (oC n9 17) is (fun(e18:Int) h19=>
 Bd (IntKind.wrap .u64 (af (IntKind.bits .u64) e18^^^af (IntKind.bits .u64) (IntKind.wrap .u64 ((IntKind.wrap .u64 (v5+v6))+n9))).toNat:Int) (fun n20=>
 HC PG kG (oC (IntKind.wrap .u64 ((IntKind.wrap .u64 (v5+v6))+n9)) 32) is (fun(e21:Int) h22=>
 (hJ h22 h1 (JP (IntKind.wrap .u64 (e10+n14)) n20 e21 n17) (fun h23=>
 ∃v24,ar h23 h1 0 v24∧
 ∃v25,ar h23 h1 1 v25∧
 ∃v26,ar h23 h1 2 v26∧
 ∃v27,ar h23 h1 3 v27∧
 K (v24,v25,v26,v27) h23))) h19)) h16)) h13)) h11) h8)) h2))))))
theorem Gz(x0:Int×Int×Int×Int){K:cT wK→ad→Prop}{h0:ad}(h:zm x0 K h0):HC PG jj [Kk x0] wK K h0:=dL .nil Tryz.func256 Tryz.call256 rfl rfl (by kernel_rfl) h
def mq(x0:Value)(y0:Addr)(K:(Unit)→ad→Prop)(h0:ad):Prop:=
 LoopP (fun I1 (t2:Unit) h3=>
 ∃v4,aO h3 y0=some (.int .u32 v4)∧
 CondP (v4 !=(0:Int)) (
 ∃v5,aO h3 y0=some (.int .u32 v5)∧
 HC PG gF [.int .u32 v5] bV (fun(e6:Int) h7=>
 HV PG x0 [.int .i64 e6] [.c .bool] (fun(e8:Bool) h9=>
 CondP (!e8) (
 K () h9) (
 ∃v10,aO h9 y0=some (.int .u32 v10)∧
 ∃v11,aO h9 y0=some (.int .u32 v11)∧
 Bd (IntKind.wrap .u32 (af (IntKind.bits .u32) v10&&&af (IntKind.bits .u32) (IntKind.wrap .u32 (v11-1))).toNat:Int) (fun n12=>
 (Wr h9 y0∧
 At (hset h9 y0 (.int .u32 n12)) (fun h13=>
 I1 () h13))))) h7) h3) (
 K () h3)) () h0
noncomputable def pY:Ann:=.loop [] .nil
theorem IE(x0:Value)(y0:Addr){K:cT []→ad→Prop}{h0:ad}(h:mq x0 y0 K h0):HC PG g4 [x0,.pointer (some y0)] [] K h0:=dL pY Tryz.func257 Tryz.call257 rfl rfl (by kernel_rfl) h
theorem uz(x0:Value)(y0:Addr){K:cT []→ad→Prop}{h0:ad}(h:mq x0 y0 K h0):HE PG g4 [x0,.pointer (some y0)] [] K h0:=HEI pY Tryz.func257 Tryz.call257 rfl rfl (by kernel_rfl) h
def j6(x0:Int)(K:(Int)→ad→Prop)(h0:ad):Prop:=
 CondP (x0==(0:Int)) (
 K 32 h0) (
 Bd (IntKind.wrap .u32 (af (IntKind.bits .u32) x0&&&af (IntKind.bits .u32) (IntKind.wrap .u32 (0-x0))).toNat:Int) (fun n1=>
 ((0:Int)≤(27:Int)∧
 Bd (dE (IntKind.wrap .u32 (n1*125613361)) (2^(min (27:Int).toNat (IntKind.bits .u32))):Int) (fun n2=>
 (cn n2 32∧
 ∃v3,bR h0 (⟨0,0,none⟩) (n2.toNat*1) (.int .u8 v3)∧
 K (IntKind.wrap .i64 v3) h0)))))
theorem pm(x0:Int){K:cT bV→ad→Prop}{h0:ad}(h:j6 x0 K h0):HC PG gF [.int .u32 x0] bV K h0:=dL .nil Tryz.func258 Tryz.call258 rfl rfl (by kernel_rfl) h
def pP(x0:Option Addr)(K:(Bool)→ad→Prop)(h0:ad):Prop:=
 CondP (!(x0.isNone)) (
 ∃a1,x0=some a1∧
 ∃v2,hH h0 a1 2 v2∧
 K v2 h0) (
 K false h0)
theorem vR(x0:Option Addr){K:cT [.c .bool]→ad→Prop}{h0:ad}(h:pP x0 K h0):HC PG jr [.pointer x0] [.c .bool] K h0:=dL .nil Tryz.func260 Tryz.call260 rfl rfl (by kernel_rfl) h
def ee(x0:SliceV)(x1:ByteArray)(x2:Value)(K:(Int×Bool)→ad→Prop)(h0:ad):Prop:=
 LoopP (fun I1 (t2:Int×Int) h3=>
 CondP (decide (t2.1<t2.2)) (
 ((0:Int)≤(1:Int)∧
 Bd (dE (IntKind.wrap .u64 (IntKind.wrap .i64 (t2.1+t2.2))) (2^(min (1:Int).toNat (IntKind.bits .u64))):Int) (fun n4=>
 (cn (IntKind.wrap .i64 n4) x0.len∧∃a5,x0.a=some a5∧
 ∃v6,aL h3 (adr a5 ((IntKind.wrap .i64 n4).toNat*2)) 0 v6∧
 ∃v7,aL h3 (adr a5 ((IntKind.wrap .i64 n4).toNat*2)) 1 v7∧
 HV PG x2 [xM v6 v7,.string x1] bV (fun(e8:Int) h9=>
 CondP (decide (e8<(0:Int))) (
 I1 (IntKind.wrap .i64 ((IntKind.wrap .i64 n4)+1),t2.2) h9) (
 I1 (t2.1,IntKind.wrap .i64 n4) h9)) h3)))) (
 CondP (decide (t2.1<(x0.len:Int))) (
 (cn t2.1 x0.len∧∃a10,x0.a=some a10∧
 ∃v11,aL h3 (adr a10 (t2.1.toNat*2)) 0 v11∧
 ∃v12,aL h3 (adr a10 (t2.1.toNat*2)) 1 v12∧
 HV PG x2 [xM v11 v12,.string x1] bV (fun(e13:Int) h14=>
 K (t2.1,e13==(0:Int)) h14) h3)) (
 K (t2.1,false) h3))) (0,(x0.len:Int)) h0
noncomputable def gU:Ann:=.node .nil (.node .nil (.node .nil (.node (.loop [(9,.c (.int .i64)),(10,.c (.int .i64))] .nil) .nil)))
theorem gT(x0:SliceV)(x1:ByteArray)(x2:Value){K:cT ut→ad→Prop}{h0:ad}(h:ee x0 x1 x2 K h0):HC PG d8 [.slice x0.a x0.len x0.cap,.string x1,x2] ut K h0:=dL gU Tryz.func266 Tryz.call266 rfl rfl (by kernel_rfl) h
def u0(x0:Int)(K:(Bool)→ad→Prop)(h0:ad):Prop:=
 CondP (decide (x0≥(0:Int))) (
 K (decide (x0<(32:Int))) h0) (
 K false h0)
theorem CC(x0:Int){K:cT [.c .bool]→ad→Prop}{h0:ad}(h:u0 x0 K h0):HC PG lL [.int .i64 x0] [.c .bool] K h0:=dL .nil Tryz.func267 Tryz.call267 rfl rfl (by kernel_rfl) h
def pX(x0:Int)(K:(Int)→ad→Prop)(h0:ad):Prop:=
 HC PG iZ [.int .u32 x0] bV (fun(e1:Int) h2=>
 K e1 h2) h0
theorem vZ(x0:Int){K:cT bV→ad→Prop}{h0:ad}(h:pX x0 K h0):HC PG mn [.int .u32 x0] bV K h0:=dL .nil Tryz.func268 Tryz.call268 rfl rfl (by kernel_rfl) h
def pQ(x0:Option Addr)(x1:(Option Addr)×ByteArray×Bool)(K:(Unit)→ad→Prop)(h0:ad):Prop:=
 At (hnew h0 (PX x1) dG) (fun h1=>
 ∃v2,aF h1 h0 1 v2∧
 ∃v3,bD h1 h0 0 v3∧
 HC PG ju [.pointer v3] [.c .str] (fun(e4:ByteArray) h5=>
 (aF h5 h0 1 v2∧
 (((v2.size+e4.size:Nat):Int)≤9223372036854775807∧
 ∃a6,x0=some a6∧
 ∃v7,aL h5 (adr a6 1) 0 v7∧
 ∃v8,aL h5 (adr a6 1) 1 v8∧
 ∃v9,hH h5 (adr a6 1) 2 v9∧
 HC PG nB [Ou v7 v8 v9,.string (v2++e4)] [.c .bool] (fun(e10:Bool) h11=>
 CondP e10 (
 K () h11) (
 ∃v12,bD h11 h0 0 v12∧
 ∃v13,aF h11 h0 1 v13∧
 At (hnew h11 (Ca v12 v13 true) dG) (fun h14=>
 ∃v15,bD h14 h0 0 v15∧
 HC PG j3 [.pointer v15] [.c .slice] (fun(e16:SliceV) h17=>
 LoopP (fun I18 (t19:SliceV×Int) h20=>
 CondP (decide (t19.2<(e16.len:Int))) (
 Join (fun(t28:SliceV) h29=>
 I18 (t28,IntKind.wrap .i64 (t19.2+1)) h29) (fun J21=>
 (cn t19.2 e16.len∧∃a22,e16.a=some a22∧
 ∃v23,bR h20 a22 (t19.2.toNat*1) (.pointer v23)∧
 At (hnew h20 (Ca v23 (v2++e4) false) dG) (fun h24=>
 ∃xs25,SRow h24 (some (aC h20)) (1*3) xs25∧
 AppP (some GQ) 3 32 dG t19.1.a t19.1.len t19.1.cap 1 xs25 h24 (fun s26 h27=>
 J21 s26 h27))))) (
 Join (fun(t35:Unit) h36=>
 ∃a37,x0=some a37∧
 ∃v38:SliceV,bU h36 a37 0 v38∧
 ∃xs39,SRow h36 t19.1.a (t19.1.len*3) xs39∧
 AppP (some GQ) 3 32 dG v38.a v38.len v38.cap t19.1.len xs39 h36 (fun s40 h41=>
 ∃a42,x0=some a42∧
 (d6 h41 (adr a42 0) (.slice s40.a s40.len s40.cap) (fun h43=>
 K () h43)))) (fun J30=>
 ∃a31,x0=some a31∧
 ∃v32,hH h20 a31 4 v32∧
 CondP (!v32) (
 HC PG eo [.slice t19.1.a t19.1.len t19.1.cap] [] (fun(e33:Unit) h34=>
 J30 () h34) h20) (
 J30 () h20)))) (⟨some (aC h11),1,1⟩,0) h17) h14))) h5))) h1)
noncomputable def wb:Ann:=.node .nil (.node .nil (.node .nil (.node .nil (.node (.node .nil (.loop [(5,.c .slice),(30,.c (.int .i64))] (.node .nil (.node .nil (.join [(5,.c .slice)] .nil .nil))))) (.join [] .nil .nil)))))
theorem vS(x0:Option Addr)(x1:(Option Addr)×ByteArray×Bool){K:cT []→ad→Prop}{h0:ad}(h:pQ x0 x1 K h0):HC PG mh [.pointer x0,Qr x1] [] K h0:=dL wb Tryz.func274 Tryz.call274 rfl rfl (by kernel_rfl) h
def su(x0:ByteArray×ByteArray×Bool)(x1:ByteArray)(K:(Bool)→ad→Prop)(h0:ad):Prop:=
 At (hnew h0 (Ng x0) mz) (fun h1=>
 ∃v2,aF h1 h0 0 v2∧
 CondP (!(Op.bytesLess x1.toList v2.toList)) (
 ∃v3,nr h1 h0 2 v3∧
 CondP v3 (
 K true h1) (
 ∃v4,aF h1 h0 1 v4∧
 K (Op.bytesLess x1.toList v4.toList) h1)) (
 K false h1))
theorem zy(x0:ByteArray×ByteArray×Bool)(x1:ByteArray){K:cT [.c .bool]→ad→Prop}{h0:ad}(h:su x0 x1 K h0):HC PG oG [O7 x0,.string x1] [.c .bool] K h0:=dL .nil Tryz.func275 Tryz.call275 rfl rfl (by kernel_rfl) h
def fR(x0:SliceV)(x1:Int)(x2:Int)(x3:Value)(K:(Unit)→ad→Prop)(h0:ad):Prop:=
 LoopP (fun I1 (t2:Int) h3=>
 CondP (decide (t2<x2)) (
 LoopP (fun I4 (t5:Int) h6=>
 Join (fun(t16:Bool) h17=>
 CondP t16 (
 (cn (IntKind.wrap .i64 (t5-1)) x0.len∧∃a18,x0.a=some a18∧
 ∃v19,bR h17 (adr a18 ((IntKind.wrap .i64 (t5-1)).toNat*2)) 0 (.string v19)∧
 ∃v20,bR h17 (adr a18 ((IntKind.wrap .i64 (t5-1)).toNat*2)) 1 (.string v20)∧
 (cn t5 x0.len∧∃a21,x0.a=some a21∧
 ∃v22,aL h17 (adr a21 (t5.toNat*2)) 0 v22∧
 ∃v23,aL h17 (adr a21 (t5.toNat*2)) 1 v23∧
 (cn t5 x0.len∧∃a24,x0.a=some a24∧
 (lC h17 (adr a24 (t5.toNat*2)) (im v19 v20) (fun h25=>
 (cn (IntKind.wrap .i64 (t5-1)) x0.len∧∃a26,x0.a=some a26∧
 (lC h25 (adr a26 ((IntKind.wrap .i64 (t5-1)).toNat*2)) (im v22 v23) (fun h27=>
 I4 (IntKind.wrap .i64 (t5-1)) h27))))))))) (
 I1 (IntKind.wrap .i64 (t2+1)) h17)) (fun J7=>
 CondP (decide (t5>x1)) (
 (cn t5 x0.len∧∃a8,x0.a=some a8∧
 ∃v9,aL h6 (adr a8 (t5.toNat*2)) 0 v9∧
 ∃v10,aL h6 (adr a8 (t5.toNat*2)) 1 v10∧
 (cn (IntKind.wrap .i64 (t5-1)) x0.len∧∃a11,x0.a=some a11∧
 ∃v12,bR h6 (adr a11 ((IntKind.wrap .i64 (t5-1)).toNat*2)) 0 (.string v12)∧
 ∃v13,bR h6 (adr a11 ((IntKind.wrap .i64 (t5-1)).toNat*2)) 1 (.string v13)∧
 HV PG x3 [xM v9 v10,xM v12 v13] bV (fun(e14:Int) h15=>
 J7 (decide (e14<(0:Int))) h15) h6))) (
 J7 false h6))) t2 h3) (
 K () h3)) (IntKind.wrap .i64 (x1+1)) h0
noncomputable def kg:Ann:=.node .nil (.loop [(8,.c (.int .i64))] (.node .nil (.node (.node .nil (.loop [(9,.c (.int .i64))] (.node (.join [(34,.c .bool)] .nil .nil) .nil))) .nil)))
theorem j9(x0:SliceV)(x1:Int)(x2:Int)(x3:Value){K:cT []→ad→Prop}{h0:ad}(h:fR x0 x1 x2 x3 K h0):HC PG dq [.slice x0.a x0.len x0.cap,.int .i64 x1,.int .i64 x2,x3] [] K h0:=dL kg Tryz.func277 Tryz.call277 rfl rfl (by kernel_rfl) h
def g7(x0:SliceV)(x1:Int)(x2:Int)(x3:Int)(x4:Value)(K:(Unit)→ad→Prop)(h0:ad):Prop:=
 CondP ((IntKind.wrap .i64 (x2-x1))==(1:Int)) (
 LoopP (fun I1 (t2:Int×Int) h3=>
 CondP (decide (t2.1<t2.2)) (
 ((0:Int)≤(1:Int)∧
 Bd (dE (IntKind.wrap .u64 (IntKind.wrap .i64 (t2.1+t2.2))) (2^(min (1:Int).toNat (IntKind.bits .u64))):Int) (fun n4=>
 (cn (IntKind.wrap .i64 n4) x0.len∧∃a5,x0.a=some a5∧
 ∃v6,aL h3 (adr a5 ((IntKind.wrap .i64 n4).toNat*2)) 0 v6∧
 ∃v7,aL h3 (adr a5 ((IntKind.wrap .i64 n4).toNat*2)) 1 v7∧
 (cn x1 x0.len∧∃a8,x0.a=some a8∧
 ∃v9,aL h3 (adr a8 (x1.toNat*2)) 0 v9∧
 ∃v10,aL h3 (adr a8 (x1.toNat*2)) 1 v10∧
 HV PG x4 [xM v6 v7,xM v9 v10] bV (fun(e11:Int) h12=>
 CondP (decide (e11<(0:Int))) (
 I1 (IntKind.wrap .i64 ((IntKind.wrap .i64 n4)+1),t2.2) h12) (
 I1 (t2.1,IntKind.wrap .i64 n4) h12)) h3))))) (
 LoopP (fun I13 (t14:Int) h15=>
 CondP (decide (t14<(IntKind.wrap .i64 (t2.1-1)))) (
 (cn (IntKind.wrap .i64 (t14+1)) x0.len∧∃a16,x0.a=some a16∧
 ∃v17,bR h15 (adr a16 ((IntKind.wrap .i64 (t14+1)).toNat*2)) 0 (.string v17)∧
 ∃v18,bR h15 (adr a16 ((IntKind.wrap .i64 (t14+1)).toNat*2)) 1 (.string v18)∧
 (cn t14 x0.len∧∃a19,x0.a=some a19∧
 ∃v20,aL h15 (adr a19 (t14.toNat*2)) 0 v20∧
 ∃v21,aL h15 (adr a19 (t14.toNat*2)) 1 v21∧
 (cn t14 x0.len∧∃a22,x0.a=some a22∧
 (lC h15 (adr a22 (t14.toNat*2)) (im v17 v18) (fun h23=>
 (cn (IntKind.wrap .i64 (t14+1)) x0.len∧∃a24,x0.a=some a24∧
 (lC h23 (adr a24 ((IntKind.wrap .i64 (t14+1)).toNat*2)) (im v20 v21) (fun h25=>
 I13 (IntKind.wrap .i64 (t14+1)) h25))))))))) (
 K () h15)) x1 h3)) (x2,x3) h0) (
 CondP ((IntKind.wrap .i64 (x3-x2))==(1:Int)) (
 LoopP (fun I26 (t27:Int×Int) h28=>
 CondP (decide (t27.1<t27.2)) (
 ((0:Int)≤(1:Int)∧
 Bd (dE (IntKind.wrap .u64 (IntKind.wrap .i64 (t27.1+t27.2))) (2^(min (1:Int).toNat (IntKind.bits .u64))):Int) (fun n29=>
 (cn x2 x0.len∧∃a30,x0.a=some a30∧
 ∃v31,aL h28 (adr a30 (x2.toNat*2)) 0 v31∧
 ∃v32,aL h28 (adr a30 (x2.toNat*2)) 1 v32∧
 (cn (IntKind.wrap .i64 n29) x0.len∧∃a33,x0.a=some a33∧
 ∃v34,aL h28 (adr a33 ((IntKind.wrap .i64 n29).toNat*2)) 0 v34∧
 ∃v35,aL h28 (adr a33 ((IntKind.wrap .i64 n29).toNat*2)) 1 v35∧
 HV PG x4 [xM v31 v32,xM v34 v35] bV (fun(e36:Int) h37=>
 CondP (!(decide (e36<(0:Int)))) (
 I26 (IntKind.wrap .i64 ((IntKind.wrap .i64 n29)+1),t27.2) h37) (
 I26 (t27.1,IntKind.wrap .i64 n29) h37)) h28))))) (
 LoopP (fun I38 (t39:Int) h40=>
 CondP (decide (t39>t27.1)) (
 (cn (IntKind.wrap .i64 (t39-1)) x0.len∧∃a41,x0.a=some a41∧
 ∃v42,bR h40 (adr a41 ((IntKind.wrap .i64 (t39-1)).toNat*2)) 0 (.string v42)∧
 ∃v43,bR h40 (adr a41 ((IntKind.wrap .i64 (t39-1)).toNat*2)) 1 (.string v43)∧
 (cn t39 x0.len∧∃a44,x0.a=some a44∧
 ∃v45,aL h40 (adr a44 (t39.toNat*2)) 0 v45∧
 ∃v46,aL h40 (adr a44 (t39.toNat*2)) 1 v46∧
 (cn t39 x0.len∧∃a47,x0.a=some a47∧
 (lC h40 (adr a47 (t39.toNat*2)) (im v42 v43) (fun h48=>
 (cn (IntKind.wrap .i64 (t39-1)) x0.len∧∃a49,x0.a=some a49∧
 (lC h48 (adr a49 ((IntKind.wrap .i64 (t39-1)).toNat*2)) (im v45 v46) (fun h50=>
 I38 (IntKind.wrap .i64 (t39-1)) h50))))))))) (
 K () h40)) x2 h28)) (x1,x2) h0) (
 ((0:Int)≤(1:Int)∧
 Bd (dE (IntKind.wrap .u64 (IntKind.wrap .i64 (x1+x3))) (2^(min (1:Int).toNat (IntKind.bits .u64))):Int) (fun n51=>
 Join (fun(t54:Int×Int) h55=>
 Bd (IntKind.wrap .i64 ((IntKind.wrap .i64 ((IntKind.wrap .i64 n51)+x2))-1):Int) (fun n56=>
 LoopP (fun I57 (t58:Int×Int) h59=>
 CondP (decide (t58.1<t58.2)) (
 ((0:Int)≤(1:Int)∧
 Bd (dE (IntKind.wrap .u64 (IntKind.wrap .i64 (t58.1+t58.2))) (2^(min (1:Int).toNat (IntKind.bits .u64))):Int) (fun n60=>
 (cn (IntKind.wrap .i64 (n56-(IntKind.wrap .i64 n60))) x0.len∧∃a61,x0.a=some a61∧
 ∃v62,bR h59 (adr a61 ((IntKind.wrap .i64 (n56-(IntKind.wrap .i64 n60))).toNat*2)) 0 (.string v62)∧
 ∃v63,bR h59 (adr a61 ((IntKind.wrap .i64 (n56-(IntKind.wrap .i64 n60))).toNat*2)) 1 (.string v63)∧
 (cn (IntKind.wrap .i64 n60) x0.len∧∃a64,x0.a=some a64∧
 ∃v65,aL h59 (adr a64 ((IntKind.wrap .i64 n60).toNat*2)) 0 v65∧
 ∃v66,aL h59 (adr a64 ((IntKind.wrap .i64 n60).toNat*2)) 1 v66∧
 HV PG x4 [xM v62 v63,xM v65 v66] bV (fun(e67:Int) h68=>
 CondP (!(decide (e67<(0:Int)))) (
 I57 (IntKind.wrap .i64 ((IntKind.wrap .i64 n60)+1),t58.2) h68) (
 I57 (t58.1,IntKind.wrap .i64 n60) h68)) h59))))) (
 Bd (IntKind.wrap .i64 ((IntKind.wrap .i64 ((IntKind.wrap .i64 n51)+x2))-t58.1):Int) (fun n69=>
 Join (fun(t76:Unit) h77=>
 Join (fun(t84:Unit) h85=>
 Join (fun(t87:Bool) h88=>
 CondP t87 (
 HC PG cF [.slice x0.a x0.len x0.cap,.int .i64 (IntKind.wrap .i64 n51),.int .i64 n69,.int .i64 x3,x4] [] (fun(e89:Unit) h90=>
 K () h90) h88) (
 K () h88)) (fun J86=>
 CondP (decide ((IntKind.wrap .i64 n51)<n69)) (
 J86 (decide (n69<x3)) h85) (
 J86 false h85))) (fun J78=>
 Join (fun(t80:Bool) h81=>
 CondP t80 (
 HC PG cF [.slice x0.a x0.len x0.cap,.int .i64 x1,.int .i64 t58.1,.int .i64 (IntKind.wrap .i64 n51),x4] [] (fun(e82:Unit) h83=>
 J78 () h83) h81) (
 J78 () h81)) (fun J79=>
 CondP (decide (x1<t58.1)) (
 J79 (decide (t58.1<(IntKind.wrap .i64 n51))) h77) (
 J79 false h77)))) (fun J70=>
 Join (fun(t72:Bool) h73=>
 CondP t72 (
 HC PG ft [.slice x0.a x0.len x0.cap,.int .i64 t58.1,.int .i64 x2,.int .i64 n69,x4] [] (fun(e74:Unit) h75=>
 J70 () h75) h73) (
 J70 () h73)) (fun J71=>
 CondP (decide (t58.1<x2)) (
 J71 (decide (x2<n69)) h59) (
 J71 false h59)))))) (t54.1,t54.2) h55)) (fun J52=>
 CondP (decide (x2>(IntKind.wrap .i64 n51))) (
 Bd (IntKind.wrap .i64 ((IntKind.wrap .i64 ((IntKind.wrap .i64 n51)+x2))-x3):Int) (fun n53=>
 J52 (n53,IntKind.wrap .i64 n51) h0)) (
 J52 (x1,x2) h0))))))
noncomputable def mr:Ann:=.node (.node .nil (.node (.node .nil (.node .nil (.node (.loop [(10,.c (.int .i64)),(11,.c (.int .i64))] .nil) (.node (.node .nil (.loop [(13,.c (.int .i64))] .nil)) .nil)))) .nil)) (.node (.node .nil (.node (.node .nil (.node .nil (.node (.loop [(14,.c (.int .i64)),(15,.c (.int .i64))] .nil) (.node (.node .nil (.loop [(17,.c (.int .i64))] .nil)) .nil)))) .nil)) (.node .nil (.node .nil (.node .nil (.join [(20,.c (.int .i64)),(21,.c (.int .i64))] .nil (.node .nil (.node (.loop [(20,.c (.int .i64)),(21,.c (.int .i64))] .nil) (.node .nil (.join [] (.join [(185,.c .bool)] .nil .nil) (.join [] (.join [(199,.c .bool)] .nil .nil) (.join [(213,.c .bool)] .nil .nil)))))))))))
theorem mp(x0:SliceV)(x1:Int)(x2:Int)(x3:Int)(x4:Value){K:cT []→ad→Prop}{h0:ad}(h:g7 x0 x1 x2 x3 x4 K h0):HC PG cF [.slice x0.a x0.len x0.cap,.int .i64 x1,.int .i64 x2,.int .i64 x3,x4] [] K h0:=dL mr Tryz.func278 Tryz.call278 rfl rfl (by kernel_rfl) h
def lU(x0:Int)(x1:Int)(K:(Int)→ad→Prop)(h0:ad):Prop:=
 Bd (IntKind.wrap .u64 (af (IntKind.bits .u64) (IntKind.wrap .u64 x1)&&&af (IntKind.bits .u64) 63).toNat:Int) (fun n1=>
 ((0:Int)≤n1∧
 Bd (IntKind.wrap .u64 (x0*2^(min (n1:Int).toNat (IntKind.bits .u64))):Int) (fun n2=>
 ((0:Int)≤(IntKind.wrap .u64 (64-n1))∧
 Bd (dE x0 (2^(min (IntKind.wrap .u64 (64-n1):Int).toNat (IntKind.bits .u64))):Int) (fun n3=>
 Bd (IntKind.wrap .u64 (af (IntKind.bits .u64) n2|||af (IntKind.bits .u64) n3).toNat:Int) (fun n4=>
 K n4 h0))))))
theorem qS(x0:Int)(x1:Int){K:cT is→ad→Prop}{h0:ad}(h:lU x0 x1 K h0):HC PG db (oC x0 x1) is K h0:=dL .nil Tryz.func279 Tryz.call279 rfl rfl (by kernel_rfl) h
def qv(x0:Option Addr)(x1:Option Addr)(K:(Bool)→ad→Prop)(h0:ad):Prop:=
 CondP (!(x0.isNone)) (
 HC PG jr [.pointer x1] [.c .bool] (fun(e1:Bool) h2=>
 CondP e1 (
 ∃a3,x0=some a3∧
 ∃v4,yS h2 a3 5 v4∧
 (True∧(∀x y:Addr,v4=some x→x1=some y→gX h2 x∧gX h2 y)∧
 K (v4==x1) h2)) (
 K false h2)) h0) (
 K false h0)
theorem xo(x0:Option Addr)(x1:Option Addr){K:cT [.c .bool]→ad→Prop}{h0:ad}(h:qv x0 x1 K h0):HC PG mV (Aj x0 x1) [.c .bool] K h0:=dL .nil Tryz.func280 Tryz.call280 rfl rfl (by kernel_rfl) h
def gh(x0:SliceV)(K:(SliceV)→ad→Prop)(h0:ad):Prop:=
 LoopP (fun I1 (t2:Int×Int) h3=>
 CondP (decide (t2.2<(x0.len:Int))) (
 Join (fun(t7:Int) h8=>
 I1 (t7,IntKind.wrap .i64 (t2.2+1)) h8) (fun J4=>
 (cn t2.2 x0.len∧∃a5,x0.a=some a5∧
 ∃v6:SliceV,bR h3 a5 (t2.2.toNat*1) (.slice v6.a v6.len v6.cap)∧
 CondP (decide ((IntKind.wrap .i64 (t2.1+(v6.len:Int)))<(0:Int))) (
 False) (
 J4 (IntKind.wrap .i64 (t2.1+(v6.len:Int))) h3)))) (
 HC PG eO [.slice none 0 0,.int .i64 t2.1] [.c .slice] (fun(e9:SliceV) h10=>
 LoopP (fun I11 (t12:SliceV×Int) h13=>
 CondP (decide (t12.2<(x0.len:Int))) (
 Join (fun(t20:SliceV) h21=>
 I11 (t20,IntKind.wrap .i64 (t12.2+1)) h21) (fun J14=>
 (cn t12.2 x0.len∧∃a15,x0.a=some a15∧
 ∃v16:SliceV,bR h13 a15 (t12.2.toNat*1) (.slice v16.a v16.len v16.cap)∧
 ∃xs17,SRow h13 v16.a (v16.len*2) xs17∧
 AppP (some jm) 2 32 al t12.1.a t12.1.len t12.1.cap v16.len xs17 h13 (fun s18 h19=>
 J14 s18 h19)))) (
 K t12.1 h13)) (e9,0) h10) h3)) (0,0) h0
noncomputable def lm:Ann:=.node .nil (.node .nil (.node (.node .nil (.loop [(3,.c (.int .i64)),(11,.c (.int .i64))] (.node .nil (.node .nil (.join [(3,.c (.int .i64))] .nil .nil))))) (.node .nil (.node (.node .nil (.loop [(6,.c .slice),(27,.c (.int .i64))] (.node .nil (.node .nil (.join [(6,.c .slice)] .nil .nil))))) .nil))))
theorem lh(x0:SliceV){K:cT [.c .slice]→ad→Prop}{h0:ad}(h:gh x0 K h0):HC PG eF [.slice x0.a x0.len x0.cap] [.c .slice] K h0:=dL lm Tryz.func281 Tryz.call281 rfl rfl (by kernel_rfl) h
def fu(x0:SliceV)(x1:Int)(x2:Int)(x3:Value)(K:(Unit)→ad→Prop)(h0:ad):Prop:=
 LoopP (fun I1 (t2:Int) h3=>
 CondP (decide (t2<x2)) (
 LoopP (fun I4 (t5:Int) h6=>
 Join (fun(t18:Bool) h19=>
 CondP t18 (
 (cn (IntKind.wrap .i64 (t5-1)) x0.len∧∃a20,x0.a=some a20∧
 ∃v21,bR h19 (adr a20 ((IntKind.wrap .i64 (t5-1)).toNat*3)) 0 (.string v21)∧
 ∃v22,bR h19 (adr a20 ((IntKind.wrap .i64 (t5-1)).toNat*3)) 1 (.string v22)∧
 ∃v23,bR h19 (adr a20 ((IntKind.wrap .i64 (t5-1)).toNat*3)) 2 (.int .u64 v23)∧
 (cn t5 x0.len∧∃a24,x0.a=some a24∧
 ∃v25,aL h19 (adr a24 (t5.toNat*3)) 0 v25∧
 ∃v26,aL h19 (adr a24 (t5.toNat*3)) 1 v26∧
 ∃v27,eB h19 (adr a24 (t5.toNat*3)) 2 v27∧
 (cn t5 x0.len∧∃a28,x0.a=some a28∧
 (lC h19 (adr a28 (t5.toNat*3)) (um v21 v22 v23) (fun h29=>
 (cn (IntKind.wrap .i64 (t5-1)) x0.len∧∃a30,x0.a=some a30∧
 (lC h29 (adr a30 ((IntKind.wrap .i64 (t5-1)).toNat*3)) (um v25 v26 v27) (fun h31=>
 I4 (IntKind.wrap .i64 (t5-1)) h31))))))))) (
 I1 (IntKind.wrap .i64 (t2+1)) h19)) (fun J7=>
 CondP (decide (t5>x1)) (
 (cn t5 x0.len∧∃a8,x0.a=some a8∧
 ∃v9,aL h6 (adr a8 (t5.toNat*3)) 0 v9∧
 ∃v10,aL h6 (adr a8 (t5.toNat*3)) 1 v10∧
 ∃v11,eB h6 (adr a8 (t5.toNat*3)) 2 v11∧
 (cn (IntKind.wrap .i64 (t5-1)) x0.len∧∃a12,x0.a=some a12∧
 ∃v13,bR h6 (adr a12 ((IntKind.wrap .i64 (t5-1)).toNat*3)) 0 (.string v13)∧
 ∃v14,bR h6 (adr a12 ((IntKind.wrap .i64 (t5-1)).toNat*3)) 1 (.string v14)∧
 ∃v15,bR h6 (adr a12 ((IntKind.wrap .i64 (t5-1)).toNat*3)) 2 (.int .u64 v15)∧
 HV PG x3 [qE v9 v10 v11,qE v13 v14 v15] bV (fun(e16:Int) h17=>
 J7 (decide (e16<(0:Int))) h17) h6))) (
 J7 false h6))) t2 h3) (
 K () h3)) (IntKind.wrap .i64 (x1+1)) h0
noncomputable def jB:Ann:=.node .nil (.loop [(8,.c (.int .i64))] (.node .nil (.node (.node .nil (.loop [(9,.c (.int .i64))] (.node (.join [(34,.c .bool)] .nil .nil) .nil))) .nil)))
theorem jx(x0:SliceV)(x1:Int)(x2:Int)(x3:Value){K:cT []→ad→Prop}{h0:ad}(h:fu x0 x1 x2 x3 K h0):HC PG cV [.slice x0.a x0.len x0.cap,.int .i64 x1,.int .i64 x2,x3] [] K h0:=dL jB Tryz.func282 Tryz.call282 rfl rfl (by kernel_rfl) h
def ge(x0:SliceV)(x1:Int)(x2:Int)(x3:Int)(x4:Value)(K:(Unit)→ad→Prop)(h0:ad):Prop:=
 CondP ((IntKind.wrap .i64 (x2-x1))==(1:Int)) (
 LoopP (fun I1 (t2:Int×Int) h3=>
 CondP (decide (t2.1<t2.2)) (
 ((0:Int)≤(1:Int)∧
 Bd (dE (IntKind.wrap .u64 (IntKind.wrap .i64 (t2.1+t2.2))) (2^(min (1:Int).toNat (IntKind.bits .u64))):Int) (fun n4=>
 (cn (IntKind.wrap .i64 n4) x0.len∧∃a5,x0.a=some a5∧
 ∃v6,aL h3 (adr a5 ((IntKind.wrap .i64 n4).toNat*3)) 0 v6∧
 ∃v7,aL h3 (adr a5 ((IntKind.wrap .i64 n4).toNat*3)) 1 v7∧
 ∃v8,eB h3 (adr a5 ((IntKind.wrap .i64 n4).toNat*3)) 2 v8∧
 (cn x1 x0.len∧∃a9,x0.a=some a9∧
 ∃v10,aL h3 (adr a9 (x1.toNat*3)) 0 v10∧
 ∃v11,aL h3 (adr a9 (x1.toNat*3)) 1 v11∧
 ∃v12,eB h3 (adr a9 (x1.toNat*3)) 2 v12∧
 HV PG x4 [qE v6 v7 v8,qE v10 v11 v12] bV (fun(e13:Int) h14=>
 CondP (decide (e13<(0:Int))) (
 I1 (IntKind.wrap .i64 ((IntKind.wrap .i64 n4)+1),t2.2) h14) (
 I1 (t2.1,IntKind.wrap .i64 n4) h14)) h3))))) (
 LoopP (fun I15 (t16:Int) h17=>
 CondP (decide (t16<(IntKind.wrap .i64 (t2.1-1)))) (
 (cn (IntKind.wrap .i64 (t16+1)) x0.len∧∃a18,x0.a=some a18∧
 ∃v19,bR h17 (adr a18 ((IntKind.wrap .i64 (t16+1)).toNat*3)) 0 (.string v19)∧
 ∃v20,bR h17 (adr a18 ((IntKind.wrap .i64 (t16+1)).toNat*3)) 1 (.string v20)∧
 ∃v21,bR h17 (adr a18 ((IntKind.wrap .i64 (t16+1)).toNat*3)) 2 (.int .u64 v21)∧
 (cn t16 x0.len∧∃a22,x0.a=some a22∧
 ∃v23,aL h17 (adr a22 (t16.toNat*3)) 0 v23∧
 ∃v24,aL h17 (adr a22 (t16.toNat*3)) 1 v24∧
 ∃v25,eB h17 (adr a22 (t16.toNat*3)) 2 v25∧
 (cn t16 x0.len∧∃a26,x0.a=some a26∧
 (lC h17 (adr a26 (t16.toNat*3)) (um v19 v20 v21) (fun h27=>
 (cn (IntKind.wrap .i64 (t16+1)) x0.len∧∃a28,x0.a=some a28∧
 (lC h27 (adr a28 ((IntKind.wrap .i64 (t16+1)).toNat*3)) (um v23 v24 v25) (fun h29=>
 I15 (IntKind.wrap .i64 (t16+1)) h29))))))))) (
 K () h17)) x1 h3)) (x2,x3) h0) (
 CondP ((IntKind.wrap .i64 (x3-x2))==(1:Int)) (
 LoopP (fun I30 (t31:Int×Int) h32=>
 CondP (decide (t31.1<t31.2)) (
 ((0:Int)≤(1:Int)∧
 Bd (dE (IntKind.wrap .u64 (IntKind.wrap .i64 (t31.1+t31.2))) (2^(min (1:Int).toNat (IntKind.bits .u64))):Int) (fun n33=>
 (cn x2 x0.len∧∃a34,x0.a=some a34∧
 ∃v35,aL h32 (adr a34 (x2.toNat*3)) 0 v35∧
 ∃v36,aL h32 (adr a34 (x2.toNat*3)) 1 v36∧
 ∃v37,eB h32 (adr a34 (x2.toNat*3)) 2 v37∧
 (cn (IntKind.wrap .i64 n33) x0.len∧∃a38,x0.a=some a38∧
 ∃v39,aL h32 (adr a38 ((IntKind.wrap .i64 n33).toNat*3)) 0 v39∧
 ∃v40,aL h32 (adr a38 ((IntKind.wrap .i64 n33).toNat*3)) 1 v40∧
 ∃v41,eB h32 (adr a38 ((IntKind.wrap .i64 n33).toNat*3)) 2 v41∧
 HV PG x4 [qE v35 v36 v37,qE v39 v40 v41] bV (fun(e42:Int) h43=>
 CondP (!(decide (e42<(0:Int)))) (
 I30 (IntKind.wrap .i64 ((IntKind.wrap .i64 n33)+1),t31.2) h43) (
 I30 (t31.1,IntKind.wrap .i64 n33) h43)) h32))))) (
 LoopP (fun I44 (t45:Int) h46=>
 CondP (decide (t45>t31.1)) (
 (cn (IntKind.wrap .i64 (t45-1)) x0.len∧∃a47,x0.a=some a47∧
 ∃v48,bR h46 (adr a47 ((IntKind.wrap .i64 (t45-1)).toNat*3)) 0 (.string v48)∧
 ∃v49,bR h46 (adr a47 ((IntKind.wrap .i64 (t45-1)).toNat*3)) 1 (.string v49)∧
 ∃v50,bR h46 (adr a47 ((IntKind.wrap .i64 (t45-1)).toNat*3)) 2 (.int .u64 v50)∧
 (cn t45 x0.len∧∃a51,x0.a=some a51∧
 ∃v52,aL h46 (adr a51 (t45.toNat*3)) 0 v52∧
 ∃v53,aL h46 (adr a51 (t45.toNat*3)) 1 v53∧
 ∃v54,eB h46 (adr a51 (t45.toNat*3)) 2 v54∧
 (cn t45 x0.len∧∃a55,x0.a=some a55∧
 (lC h46 (adr a55 (t45.toNat*3)) (um v48 v49 v50) (fun h56=>
 (cn (IntKind.wrap .i64 (t45-1)) x0.len∧∃a57,x0.a=some a57∧
 (lC h56 (adr a57 ((IntKind.wrap .i64 (t45-1)).toNat*3)) (um v52 v53 v54) (fun h58=>
 I44 (IntKind.wrap .i64 (t45-1)) h58))))))))) (
 K () h46)) x2 h32)) (x1,x2) h0) (
 ((0:Int)≤(1:Int)∧
 Bd (dE (IntKind.wrap .u64 (IntKind.wrap .i64 (x1+x3))) (2^(min (1:Int).toNat (IntKind.bits .u64))):Int) (fun n59=>
 Join (fun(t62:Int×Int) h63=>
 Bd (IntKind.wrap .i64 ((IntKind.wrap .i64 ((IntKind.wrap .i64 n59)+x2))-1):Int) (fun n64=>
 LoopP (fun I65 (t66:Int×Int) h67=>
 CondP (decide (t66.1<t66.2)) (
 ((0:Int)≤(1:Int)∧
 Bd (dE (IntKind.wrap .u64 (IntKind.wrap .i64 (t66.1+t66.2))) (2^(min (1:Int).toNat (IntKind.bits .u64))):Int) (fun n68=>
 (cn (IntKind.wrap .i64 (n64-(IntKind.wrap .i64 n68))) x0.len∧∃a69,x0.a=some a69∧
 ∃v70,bR h67 (adr a69 ((IntKind.wrap .i64 (n64-(IntKind.wrap .i64 n68))).toNat*3)) 0 (.string v70)∧
 ∃v71,bR h67 (adr a69 ((IntKind.wrap .i64 (n64-(IntKind.wrap .i64 n68))).toNat*3)) 1 (.string v71)∧
 ∃v72,bR h67 (adr a69 ((IntKind.wrap .i64 (n64-(IntKind.wrap .i64 n68))).toNat*3)) 2 (.int .u64 v72)∧
 (cn (IntKind.wrap .i64 n68) x0.len∧∃a73,x0.a=some a73∧
 ∃v74,aL h67 (adr a73 ((IntKind.wrap .i64 n68).toNat*3)) 0 v74∧
 ∃v75,aL h67 (adr a73 ((IntKind.wrap .i64 n68).toNat*3)) 1 v75∧
 ∃v76,eB h67 (adr a73 ((IntKind.wrap .i64 n68).toNat*3)) 2 v76∧
 HV PG x4 [qE v70 v71 v72,qE v74 v75 v76] bV (fun(e77:Int) h78=>
 CondP (!(decide (e77<(0:Int)))) (
 I65 (IntKind.wrap .i64 ((IntKind.wrap .i64 n68)+1),t66.2) h78) (
 I65 (t66.1,IntKind.wrap .i64 n68) h78)) h67))))) (
 Bd (IntKind.wrap .i64 ((IntKind.wrap .i64 ((IntKind.wrap .i64 n59)+x2))-t66.1):Int) (fun n79=>
 Join (fun(t86:Unit) h87=>
 Join (fun(t94:Unit) h95=>
 Join (fun(t97:Bool) h98=>
 CondP t97 (
 HC PG cx [.slice x0.a x0.len x0.cap,.int .i64 (IntKind.wrap .i64 n59),.int .i64 n79,.int .i64 x3,x4] [] (fun(e99:Unit) h100=>
 K () h100) h98) (
 K () h98)) (fun J96=>
 CondP (decide ((IntKind.wrap .i64 n59)<n79)) (
 J96 (decide (n79<x3)) h95) (
 J96 false h95))) (fun J88=>
 Join (fun(t90:Bool) h91=>
 CondP t90 (
 HC PG cx [.slice x0.a x0.len x0.cap,.int .i64 x1,.int .i64 t66.1,.int .i64 (IntKind.wrap .i64 n59),x4] [] (fun(e92:Unit) h93=>
 J88 () h93) h91) (
 J88 () h91)) (fun J89=>
 CondP (decide (x1<t66.1)) (
 J89 (decide (t66.1<(IntKind.wrap .i64 n59))) h87) (
 J89 false h87)))) (fun J80=>
 Join (fun(t82:Bool) h83=>
 CondP t82 (
 HC PG eM [.slice x0.a x0.len x0.cap,.int .i64 t66.1,.int .i64 x2,.int .i64 n79,x4] [] (fun(e84:Unit) h85=>
 J80 () h85) h83) (
 J80 () h83)) (fun J81=>
 CondP (decide (t66.1<x2)) (
 J81 (decide (x2<n79)) h67) (
 J81 false h67)))))) (t62.1,t62.2) h63)) (fun J60=>
 CondP (decide (x2>(IntKind.wrap .i64 n59))) (
 Bd (IntKind.wrap .i64 ((IntKind.wrap .i64 ((IntKind.wrap .i64 n59)+x2))-x3):Int) (fun n61=>
 J60 (n61,IntKind.wrap .i64 n59) h0)) (
 J60 (x1,x2) h0))))))
noncomputable def li:Ann:=.node (.node .nil (.node (.node .nil (.node .nil (.node (.loop [(10,.c (.int .i64)),(11,.c (.int .i64))] .nil) (.node (.node .nil (.loop [(13,.c (.int .i64))] .nil)) .nil)))) .nil)) (.node (.node .nil (.node (.node .nil (.node .nil (.node (.loop [(14,.c (.int .i64)),(15,.c (.int .i64))] .nil) (.node (.node .nil (.loop [(17,.c (.int .i64))] .nil)) .nil)))) .nil)) (.node .nil (.node .nil (.node .nil (.join [(20,.c (.int .i64)),(21,.c (.int .i64))] .nil (.node .nil (.node (.loop [(20,.c (.int .i64)),(21,.c (.int .i64))] .nil) (.node .nil (.join [] (.join [(185,.c .bool)] .nil .nil) (.join [] (.join [(199,.c .bool)] .nil .nil) (.join [(213,.c .bool)] .nil .nil)))))))))))
theorem ld(x0:SliceV)(x1:Int)(x2:Int)(x3:Int)(x4:Value){K:cT []→ad→Prop}{h0:ad}(h:ge x0 x1 x2 x3 x4 K h0):HC PG cx [.slice x0.a x0.len x0.cap,.int .i64 x1,.int .i64 x2,.int .i64 x3,x4] [] K h0:=dL li Tryz.func283 Tryz.call283 rfl rfl (by kernel_rfl) h
def gg(x0:SliceV)(x1:Int)(x2:Int)(K:(SliceV)→ad→Prop)(h0:ad):Prop:=
 (((0:Int)≤(x0.len:Int)∧(x0.len:Int)≤((x0.cap:Nat):Int))∧
 (((0:Int)≤x2∧x2≤(((x0.len:Int).toNat:Nat):Int))∧
 (((0:Int)≤x1∧x1≤((x2.toNat:Nat):Int))∧
 CondP (x1==x2) (
 K x0 h0) (
 Join (fun(t5:SliceV) h6=>
 (((0:Int)≤(x0.len:Int)∧(x0.len:Int)≤((t5.cap:Nat):Int))∧
 (((0:Int)≤(t5.len:Int)∧(t5.len:Int)≤(((x0.len:Int).toNat:Nat):Int))∧
 Bd (aZ t5.a ((t5.len:Int).toNat) t5.cap 2:Option Addr) (fun a7=>Bd (((x0.len:Int).toNat)-((t5.len:Int).toNat):Nat) (fun n8=>Bd (t5.cap-((t5.len:Int).toNat):Nat) (fun n9=>
 (uv h6 a7 0 (dR n8 jm)∧
 At (fV h6 a7 0 (dR n8 jm)) (fun h10=>
 K t5 h10)))))))) (fun J1=>
 (((0:Int)≤x1∧x1≤((x0.cap:Nat):Int))∧
 (((0:Int)≤x2∧x2≤((x0.len:Nat):Int))∧
 ∃xs2,SRow h0 (aZ x0.a x2.toNat x0.cap 2) ((x0.len-x2.toNat)*2) xs2∧
 AppP (some jm) 2 32 al (aZ x0.a 0 x0.cap 2) (x1.toNat-0) (x0.cap-0) (x0.len-x2.toNat) xs2 h0 (fun s3 h4=>
 J1 s3 h4))))))))
noncomputable def ll:Ann:=.node .nil (.node .nil (.node .nil (.node .nil (.join [(0,.c .slice)] .nil .nil))))
theorem lg(x0:SliceV)(x1:Int)(x2:Int){K:cT [.c .slice]→ad→Prop}{h0:ad}(h:gg x0 x1 x2 K h0):HC PG eE (Ls x0 x1 x2) [.c .slice] K h0:=dL ll Tryz.func284 Tryz.call284 rfl rfl (by kernel_rfl) h
def fz(x0:SliceV)(x1:Int)(x2:Int)(K:(SliceV)→ad→Prop)(h0:ad):Prop:=
 (((0:Int)≤(x0.len:Int)∧(x0.len:Int)≤((x0.cap:Nat):Int))∧
 (((0:Int)≤x2∧x2≤(((x0.len:Int).toNat:Nat):Int))∧
 (((0:Int)≤x1∧x1≤((x2.toNat:Nat):Int))∧
 CondP (x1==x2) (
 K x0 h0) (
 Join (fun(t5:SliceV) h6=>
 (((0:Int)≤(x0.len:Int)∧(x0.len:Int)≤((t5.cap:Nat):Int))∧
 (((0:Int)≤(t5.len:Int)∧(t5.len:Int)≤(((x0.len:Int).toNat:Nat):Int))∧
 Bd (aZ t5.a ((t5.len:Int).toNat) t5.cap 1:Option Addr) (fun a7=>Bd (((x0.len:Int).toNat)-((t5.len:Int).toNat):Nat) (fun n8=>Bd (t5.cap-((t5.len:Int).toNat):Nat) (fun n9=>
 (uv h6 a7 0 (dR n8 [.pointer none])∧
 At (fV h6 a7 0 (dR n8 [.pointer none])) (fun h10=>
 K t5 h10)))))))) (fun J1=>
 (((0:Int)≤x1∧x1≤((x0.cap:Nat):Int))∧
 (((0:Int)≤x2∧x2≤((x0.len:Nat):Int))∧
 ∃xs2,SRow h0 (aZ x0.a x2.toNat x0.cap 1) ((x0.len-x2.toNat)*1) xs2∧
 AppP (some [.pointer none]) 1 8 bK (aZ x0.a 0 x0.cap 1) (x1.toNat-0) (x0.cap-0) (x0.len-x2.toNat) xs2 h0 (fun s3 h4=>
 J1 s3 h4))))))))
noncomputable def jK:Ann:=.node .nil (.node .nil (.node .nil (.node .nil (.join [(0,.c .slice)] .nil .nil))))
theorem jI(x0:SliceV)(x1:Int)(x2:Int){K:cT [.c .slice]→ad→Prop}{h0:ad}(h:fz x0 x1 x2 K h0):HC PG dS (Ls x0 x1 x2) [.c .slice] K h0:=dL jK Tryz.func285 Tryz.call285 rfl rfl (by kernel_rfl) h
def oz(x0:Int)(x1:Int)(K:(Int)→ad→Prop)(h0:ad):Prop:=
 HC PG lL [.int .i64 x1] [.c .bool] (fun(e1:Bool) h2=>
 CondP (!e1) (
 K x0 h2) (
 ((0:Int)≤x1∧
 Bd (IntKind.wrap .u32 (af (IntKind.bits .u32) x0&&& ~~~af (IntKind.bits .u32) (IntKind.wrap .u32 (1*2^(min (x1:Int).toNat (IntKind.bits .u32))))).toNat:Int) (fun n3=>
 K n3 h2)))) h0
theorem tJ(x0:Int)(x1:Int){K:cT mG→ad→Prop}{h0:ad}(h:oz x0 x1 K h0):HC PG ix (ma x0 x1) mG K h0:=dL .nil Tryz.func286 Tryz.call286 rfl rfl (by kernel_rfl) h
def BQ(x0:Int)(x1:Int)(K:(Int)→ad→Prop)(h0:ad):Prop:=
 LoopP (fun I1 (t2:Int×Int) h3=>
 CondP (decide (t2.2<x1)) (
 ((9223372036854775808:Int)≠0∧
 Bd (IntKind.wrap .u64 ((IntKind.wrap .u64 (t2.1*2))+(IntKind.wrap .u64 (kP t2.1 9223372036854775808))):Int) (fun n4=>
 I1 (n4,IntKind.wrap .i64 (t2.2+1)) h3))) (
 K t2.1 h3)) (x0,0) h0
noncomputable def IQ:Ann:=.node .nil (.node (.node .nil (.loop [(0,.c (.int .u64)),(5,.c (.int .i64))] .nil)) .nil)
theorem IB(x0:Int)(x1:Int){K:cT is→ad→Prop}{h0:ad}(h:BQ x0 x1 K h0):HC PG kG (oC x0 x1) is K h0:=dL IQ Tryz.func291 Tryz.call291 rfl rfl (by kernel_rfl) h
def mD(x0:Int)(K:(Int)→ad→Prop)(h0:ad):Prop:=
 ((0:Int)≤(24:Int)∧
 ∃b1,(0:Int)≤(dE x0 (2^(min (24:Int).toNat (IntKind.bits .u32))))∧(⟨#[0,1,1,2,1,2,2,3,1,2,2,3,2,3,3,4,1,2,2,3,2,3,3,4,2,3,3,4,3,4,4,5,1,2,2,3,2,3,3,4,2,3,3,4,3,4,4,5,2,3,3,4,3,4,4,5,3,4,4,5,4,5,5,6,1,2,2,3,2,3,3,4,2,3,3,4,3,4,4,5,2,3,3,4,3,4,4,5,3,4,4,5,4,5,5,6,2,3,3,4,3,4,4,5,3,4,4,5,4,5,5,6,3,4,4,5,4,5,5,6,4,5,5,6,5,6,6,7,1,2,2,3,2,3,3,4,2,3,3,4,3,4,4,5,2,3,3,4,3,4,4,5,3,4,4,5,4,5,5,6,2,3,3,4,3,4,4,5,3,4,4,5,4,5,5,6,3,4,4,5,4,5,5,6,4,5,5,6,5,6,6,7,2,3,3,4,3,4,4,5,3,4,4,5,4,5,5,6,3,4,4,5,4,5,5,6,4,5,5,6,5,6,6,7,3,4,4,5,4,5,5,6,4,5,5,6,5,6,6,7,4,5,5,6,5,6,6,7,5,6,6,7,6,7,7,8]⟩:ByteArray)[(dE x0 (2^(min (24:Int).toNat (IntKind.bits .u32)))).toNat]? =some b1∧
 ((0:Int)≤(16:Int)∧
 Bd (IntKind.wrap .u32 (af (IntKind.bits .u32) (dE x0 (2^(min (16:Int).toNat (IntKind.bits .u32))))&&&af (IntKind.bits .u32) 255).toNat:Int) (fun n2=>
 ∃b3,(0:Int)≤n2∧(⟨#[0,1,1,2,1,2,2,3,1,2,2,3,2,3,3,4,1,2,2,3,2,3,3,4,2,3,3,4,3,4,4,5,1,2,2,3,2,3,3,4,2,3,3,4,3,4,4,5,2,3,3,4,3,4,4,5,3,4,4,5,4,5,5,6,1,2,2,3,2,3,3,4,2,3,3,4,3,4,4,5,2,3,3,4,3,4,4,5,3,4,4,5,4,5,5,6,2,3,3,4,3,4,4,5,3,4,4,5,4,5,5,6,3,4,4,5,4,5,5,6,4,5,5,6,5,6,6,7,1,2,2,3,2,3,3,4,2,3,3,4,3,4,4,5,2,3,3,4,3,4,4,5,3,4,4,5,4,5,5,6,2,3,3,4,3,4,4,5,3,4,4,5,4,5,5,6,3,4,4,5,4,5,5,6,4,5,5,6,5,6,6,7,2,3,3,4,3,4,4,5,3,4,4,5,4,5,5,6,3,4,4,5,4,5,5,6,4,5,5,6,5,6,6,7,3,4,4,5,4,5,5,6,4,5,5,6,5,6,6,7,4,5,5,6,5,6,6,7,5,6,6,7,6,7,7,8]⟩:ByteArray)[n2.toNat]? =some b3∧
 ((0:Int)≤(8:Int)∧
 Bd (IntKind.wrap .u32 (af (IntKind.bits .u32) (dE x0 (2^(min (8:Int).toNat (IntKind.bits .u32))))&&&af (IntKind.bits .u32) 255).toNat:Int) (fun n4=>
 ∃b5,(0:Int)≤n4∧(⟨#[0,1,1,2,1,2,2,3,1,2,2,3,2,3,3,4,1,2,2,3,2,3,3,4,2,3,3,4,3,4,4,5,1,2,2,3,2,3,3,4,2,3,3,4,3,4,4,5,2,3,3,4,3,4,4,5,3,4,4,5,4,5,5,6,1,2,2,3,2,3,3,4,2,3,3,4,3,4,4,5,2,3,3,4,3,4,4,5,3,4,4,5,4,5,5,6,2,3,3,4,3,4,4,5,3,4,4,5,4,5,5,6,3,4,4,5,4,5,5,6,4,5,5,6,5,6,6,7,1,2,2,3,2,3,3,4,2,3,3,4,3,4,4,5,2,3,3,4,3,4,4,5,3,4,4,5,4,5,5,6,2,3,3,4,3,4,4,5,3,4,4,5,4,5,5,6,3,4,4,5,4,5,5,6,4,5,5,6,5,6,6,7,2,3,3,4,3,4,4,5,3,4,4,5,4,5,5,6,3,4,4,5,4,5,5,6,4,5,5,6,5,6,6,7,3,4,4,5,4,5,5,6,4,5,5,6,5,6,6,7,4,5,5,6,5,6,6,7,5,6,6,7,6,7,7,8]⟩:ByteArray)[n4.toNat]? =some b5∧
 Bd (IntKind.wrap .u8 ((IntKind.wrap .u8 ((b1.toNat:Int)+(b3.toNat:Int)))+(b5.toNat:Int)):Int) (fun n6=>
 Bd (IntKind.wrap .u32 (af (IntKind.bits .u32) x0&&&af (IntKind.bits .u32) 255).toNat:Int) (fun n7=>
 ∃b8,(0:Int)≤n7∧(⟨#[0,1,1,2,1,2,2,3,1,2,2,3,2,3,3,4,1,2,2,3,2,3,3,4,2,3,3,4,3,4,4,5,1,2,2,3,2,3,3,4,2,3,3,4,3,4,4,5,2,3,3,4,3,4,4,5,3,4,4,5,4,5,5,6,1,2,2,3,2,3,3,4,2,3,3,4,3,4,4,5,2,3,3,4,3,4,4,5,3,4,4,5,4,5,5,6,2,3,3,4,3,4,4,5,3,4,4,5,4,5,5,6,3,4,4,5,4,5,5,6,4,5,5,6,5,6,6,7,1,2,2,3,2,3,3,4,2,3,3,4,3,4,4,5,2,3,3,4,3,4,4,5,3,4,4,5,4,5,5,6,2,3,3,4,3,4,4,5,3,4,4,5,4,5,5,6,3,4,4,5,4,5,5,6,4,5,5,6,5,6,6,7,2,3,3,4,3,4,4,5,3,4,4,5,4,5,5,6,3,4,4,5,4,5,5,6,4,5,5,6,5,6,6,7,3,4,4,5,4,5,5,6,4,5,5,6,5,6,6,7,4,5,5,6,5,6,6,7,5,6,6,7,6,7,7,8]⟩:ByteArray)[n7.toNat]? =some b8∧
 K (IntKind.wrap .i64 (IntKind.wrap .u8 (n6+(b8.toNat:Int)))) h0)))))))
theorem rk(x0:Int){K:cT bV→ad→Prop}{h0:ad}(h:mD x0 K h0):HC PG iZ [.int .u32 x0] bV K h0:=dL .nil Tryz.func294 Tryz.call294 rfl rfl (by kernel_rfl) h
def rn(x0:ByteArray×ByteArray×Bool)(x1:ByteArray)(K:(Bool)→ad→Prop)(h0:ad):Prop:=
 At (hnew h0 (Ng x0) mz) (fun h1=>
 Join (fun(t5:Bool) h6=>
 CondP t5 (
 K true h6) (
 ∃v7,aF h6 h0 0 v7∧
 CondP (Op.bytesLess x1.toList v7.toList) (
 ∃v8,aF h6 h0 0 v8∧
 HC PG Cl (im v8 x1) [.c .bool] (fun(e9:Bool) h10=>
 K (!e9) h10) h6) (
 K false h6))) (fun J2=>
 ∃v3,nr h1 h0 2 v3∧
 CondP (!v3) (
 ∃v4,aF h1 h0 1 v4∧
 J2 (!(Op.bytesLess x1.toList v4.toList)) h1) (
 J2 false h1)))
noncomputable def yE:Ann:=.node .nil (.node (.join [(13,.c .bool)] .nil .nil) .nil)
theorem yw(x0:ByteArray×ByteArray×Bool)(x1:ByteArray){K:cT [.c .bool]→ad→Prop}{h0:ad}(h:rn x0 x1 K h0):HC PG nB [O7 x0,.string x1] [.c .bool] K h0:=dL yE Tryz.func296 Tryz.call296 rfl rfl (by kernel_rfl) h
def fZ(x0:SliceV)(K:(Unit)→ad→Prop)(h0:ad):Prop:=
 LoopP (fun I1 (t2:Int×Int) h3=>
 CondP (decide (t2.1<t2.2)) (
 (cn t2.2 x0.len∧∃a4,x0.a=some a4∧
 ∃v5,yS h3 (adr a4 (t2.2.toNat*3)) 0 v5∧
 ∃v6,aL h3 (adr a4 (t2.2.toNat*3)) 1 v6∧
 ∃v7,hH h3 (adr a4 (t2.2.toNat*3)) 2 v7∧
 (cn t2.1 x0.len∧∃a8,x0.a=some a8∧
 ∃v9,yS h3 (adr a8 (t2.1.toNat*3)) 0 v9∧
 ∃v10,aL h3 (adr a8 (t2.1.toNat*3)) 1 v10∧
 ∃v11,hH h3 (adr a8 (t2.1.toNat*3)) 2 v11∧
 (cn t2.1 x0.len∧∃a12,x0.a=some a12∧
 (lC h3 (adr a12 (t2.1.toNat*3)) (Ca v5 v6 v7) (fun h13=>
 (cn t2.2 x0.len∧∃a14,x0.a=some a14∧
 (lC h13 (adr a14 (t2.2.toNat*3)) (Ca v9 v10 v11) (fun h15=>
 I1 (IntKind.wrap .i64 (t2.1+1),IntKind.wrap .i64 (t2.2-1)) h15))))))))) (
 K () h3)) (0,IntKind.wrap .i64 ((x0.len:Int)-1)) h0
noncomputable def kM:Ann:=.node .nil (.loop [(2,.c (.int .i64)),(3,.c (.int .i64))] .nil)
theorem kJ(x0:SliceV){K:cT []→ad→Prop}{h0:ad}(h:fZ x0 K h0):HC PG eo [.slice x0.a x0.len x0.cap] [] K h0:=dL kM Tryz.func297 Tryz.call297 rfl rfl (by kernel_rfl) h
def iz(x0:SliceV)(x1:Int)(x2:Int)(x3:Int)(x4:Value)(K:(Unit)→ad→Prop)(h0:ad):Prop:=
 LoopP (fun I1 (t2:Int×Int) h3=>
 CondP (t2.1 !=t2.2) (
 CondP (decide (t2.1>t2.2)) (
 HC PG cZ [.slice x0.a x0.len x0.cap,.int .i64 (IntKind.wrap .i64 (x2-t2.1)),.int .i64 x2,.int .i64 t2.2,x4] [] (fun(e4:Unit) h5=>
 I1 (IntKind.wrap .i64 (t2.1-t2.2),t2.2) h5) h3) (
 HC PG cZ [.slice x0.a x0.len x0.cap,.int .i64 (IntKind.wrap .i64 (x2-t2.1)),.int .i64 (IntKind.wrap .i64 ((IntKind.wrap .i64 (x2+t2.2))-t2.1)),.int .i64 t2.1,x4] [] (fun(e6:Unit) h7=>
 I1 (t2.1,IntKind.wrap .i64 (t2.2-t2.1)) h7) h3)) (
 HC PG cZ [.slice x0.a x0.len x0.cap,.int .i64 (IntKind.wrap .i64 (x2-t2.1)),.int .i64 x2,.int .i64 t2.1,x4] [] (fun(e8:Unit) h9=>
 K () h9) h3)) (IntKind.wrap .i64 (x2-x1),IntKind.wrap .i64 (x3-x2)) h0
noncomputable def m8:Ann:=.node .nil (.node .nil (.node (.loop [(10,.c (.int .i64)),(11,.c (.int .i64))] .nil) .nil))
theorem m4(x0:SliceV)(x1:Int)(x2:Int)(x3:Int)(x4:Value){K:cT []→ad→Prop}{h0:ad}(h:iz x0 x1 x2 x3 x4 K h0):HC PG ft [.slice x0.a x0.len x0.cap,.int .i64 x1,.int .i64 x2,.int .i64 x3,x4] [] K h0:=dL m8 Tryz.func298 Tryz.call298 rfl rfl (by kernel_rfl) h
def gP(x0:SliceV)(x1:Int)(K:(SliceV)→ad→Prop)(h0:ad):Prop:=
 Join (fun(t2:Unit) h3=>
 Bd (IntKind.wrap .i64 (x1-(IntKind.wrap .i64 ((x0.cap:Int)-(x0.len:Int)))):Int) (fun n4=>
 CondP (decide (n4>(0:Int))) (
 (((0:Int)≤(x0.cap:Int)∧(x0.cap:Int)≤((x0.cap:Nat):Int))∧
 (((0:Int)≤n4∧n4*((32:Nat):Int)≤2^48∧n4≤9223372036854775807∧(((((x0.cap:Int).toNat)-0)+n4.toNat:Nat):Int)≤9223372036854775807)∧
 AppP (some jm) 2 32 al (aZ x0.a 0 x0.cap 2) (((x0.cap:Int).toNat)-0) (x0.cap-0) n4.toNat (dR n4.toNat jm) h3 (fun s5 h6=>
 (((0:Int)≤(x0.len:Int)∧(x0.len:Int)≤((s5.cap:Nat):Int))∧
 K ⟨aZ s5.a 0 s5.cap 2,((x0.len:Int).toNat)-0,s5.cap-0⟩ h6))))) (
 K x0 h3))) (fun J1=>
 CondP (decide (x1<(0:Int))) (
 False) (
 J1 () h0))
noncomputable def lY:Ann:=.node .nil (.join [] .nil .nil)
theorem lS(x0:SliceV)(x1:Int){K:cT [.c .slice]→ad→Prop}{h0:ad}(h:gP x0 x1 K h0):HC PG eO (M8 x0 x1) [.c .slice] K h0:=dL lY Tryz.func299 Tryz.call299 rfl rfl (by kernel_rfl) h
def gO(x0:SliceV)(x1:Int)(x2:Int)(x3:Int)(x4:Value)(K:(Unit)→ad→Prop)(h0:ad):Prop:=
 LoopP (fun I1 (t2:Int×Int) h3=>
 CondP (t2.1 !=t2.2) (
 CondP (decide (t2.1>t2.2)) (
 HC PG cJ [.slice x0.a x0.len x0.cap,.int .i64 (IntKind.wrap .i64 (x2-t2.1)),.int .i64 x2,.int .i64 t2.2,x4] [] (fun(e4:Unit) h5=>
 I1 (IntKind.wrap .i64 (t2.1-t2.2),t2.2) h5) h3) (
 HC PG cJ [.slice x0.a x0.len x0.cap,.int .i64 (IntKind.wrap .i64 (x2-t2.1)),.int .i64 (IntKind.wrap .i64 ((IntKind.wrap .i64 (x2+t2.2))-t2.1)),.int .i64 t2.1,x4] [] (fun(e6:Unit) h7=>
 I1 (t2.1,IntKind.wrap .i64 (t2.2-t2.1)) h7) h3)) (
 HC PG cJ [.slice x0.a x0.len x0.cap,.int .i64 (IntKind.wrap .i64 (x2-t2.1)),.int .i64 x2,.int .i64 t2.1,x4] [] (fun(e8:Unit) h9=>
 K () h9) h3)) (IntKind.wrap .i64 (x2-x1),IntKind.wrap .i64 (x3-x2)) h0
noncomputable def lX:Ann:=.node .nil (.node .nil (.node (.loop [(10,.c (.int .i64)),(11,.c (.int .i64))] .nil) .nil))
theorem lR(x0:SliceV)(x1:Int)(x2:Int)(x3:Int)(x4:Value){K:cT []→ad→Prop}{h0:ad}(h:gO x0 x1 x2 x3 x4 K h0):HC PG eM [.slice x0.a x0.len x0.cap,.int .i64 x1,.int .i64 x2,.int .i64 x3,x4] [] K h0:=dL lX Tryz.func300 Tryz.call300 rfl rfl (by kernel_rfl) h
def gM(x0:SliceV)(x1:Int)(x2:Int)(x3:Int)(x4:Value)(K:(Unit)→ad→Prop)(h0:ad):Prop:=
 LoopP (fun I1 (t2:Int) h3=>
 CondP (decide (t2<x3)) (
 (cn (IntKind.wrap .i64 (x2+t2)) x0.len∧∃a4,x0.a=some a4∧
 ∃v5,bR h3 (adr a4 ((IntKind.wrap .i64 (x2+t2)).toNat*2)) 0 (.string v5)∧
 ∃v6,bR h3 (adr a4 ((IntKind.wrap .i64 (x2+t2)).toNat*2)) 1 (.string v6)∧
 (cn (IntKind.wrap .i64 (x1+t2)) x0.len∧∃a7,x0.a=some a7∧
 ∃v8,bR h3 (adr a7 ((IntKind.wrap .i64 (x1+t2)).toNat*2)) 0 (.string v8)∧
 ∃v9,bR h3 (adr a7 ((IntKind.wrap .i64 (x1+t2)).toNat*2)) 1 (.string v9)∧
 (cn (IntKind.wrap .i64 (x1+t2)) x0.len∧∃a10,x0.a=some a10∧
 (lC h3 (adr a10 ((IntKind.wrap .i64 (x1+t2)).toNat*2)) (im v5 v6) (fun h11=>
 (cn (IntKind.wrap .i64 (x2+t2)) x0.len∧∃a12,x0.a=some a12∧
 (lC h11 (adr a12 ((IntKind.wrap .i64 (x2+t2)).toNat*2)) (im v8 v9) (fun h13=>
 I1 (IntKind.wrap .i64 (t2+1)) h13))))))))) (
 K () h3)) 0 h0
noncomputable def lV:Ann:=.node .nil (.loop [(10,.c (.int .i64))] .nil)
theorem lP(x0:SliceV)(x1:Int)(x2:Int)(x3:Int)(x4:Value){K:cT []→ad→Prop}{h0:ad}(h:gM x0 x1 x2 x3 x4 K h0):HC PG cZ [.slice x0.a x0.len x0.cap,.int .i64 x1,.int .i64 x2,.int .i64 x3,x4] [] K h0:=dL lV Tryz.func304 Tryz.call304 rfl rfl (by kernel_rfl) h
def fY(x0:SliceV)(x1:Int)(x2:Int)(x3:Int)(x4:Value)(K:(Unit)→ad→Prop)(h0:ad):Prop:=
 LoopP (fun I1 (t2:Int) h3=>
 CondP (decide (t2<x3)) (
 (cn (IntKind.wrap .i64 (x2+t2)) x0.len∧∃a4,x0.a=some a4∧
 ∃v5,bR h3 (adr a4 ((IntKind.wrap .i64 (x2+t2)).toNat*3)) 0 (.string v5)∧
 ∃v6,bR h3 (adr a4 ((IntKind.wrap .i64 (x2+t2)).toNat*3)) 1 (.string v6)∧
 ∃v7,bR h3 (adr a4 ((IntKind.wrap .i64 (x2+t2)).toNat*3)) 2 (.int .u64 v7)∧
 (cn (IntKind.wrap .i64 (x1+t2)) x0.len∧∃a8,x0.a=some a8∧
 ∃v9,bR h3 (adr a8 ((IntKind.wrap .i64 (x1+t2)).toNat*3)) 0 (.string v9)∧
 ∃v10,bR h3 (adr a8 ((IntKind.wrap .i64 (x1+t2)).toNat*3)) 1 (.string v10)∧
 ∃v11,bR h3 (adr a8 ((IntKind.wrap .i64 (x1+t2)).toNat*3)) 2 (.int .u64 v11)∧
 (cn (IntKind.wrap .i64 (x1+t2)) x0.len∧∃a12,x0.a=some a12∧
 (lC h3 (adr a12 ((IntKind.wrap .i64 (x1+t2)).toNat*3)) (um v5 v6 v7) (fun h13=>
 (cn (IntKind.wrap .i64 (x2+t2)) x0.len∧∃a14,x0.a=some a14∧
 (lC h13 (adr a14 ((IntKind.wrap .i64 (x2+t2)).toNat*3)) (um v9 v10 v11) (fun h15=>
 I1 (IntKind.wrap .i64 (t2+1)) h15))))))))) (
 K () h3)) 0 h0
noncomputable def kL:Ann:=.node .nil (.loop [(10,.c (.int .i64))] .nil)
theorem kI(x0:SliceV)(x1:Int)(x2:Int)(x3:Int)(x4:Value){K:cT []→ad→Prop}{h0:ad}(h:fY x0 x1 x2 x3 x4 K h0):HC PG cJ [.slice x0.a x0.len x0.cap,.int .i64 x1,.int .i64 x2,.int .i64 x3,x4] [] K h0:=dL kL Tryz.func305 Tryz.call305 rfl rfl (by kernel_rfl) h
end Go.Proofs
