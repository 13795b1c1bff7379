/- A part of the proof that the named laws of this program answer true, whatever the input. -/
import Derived.Test.YtncppacbfagpgaaGreatTreeF
set_option maxRecDepth 100000
set_option linter.unusedVariables false
open BitVec renaming ofInt→ar
open Int renaming tmod→jE,tdiv→nn,fdiv→dT
namespace Go.Proofs
open Go.Lift
def za(x0:T5)(x1:ByteArray)(K:((T5)×Int)→ad→Prop)(h0:ad):Prop:=
 At (hnew h0 (xB x0) fI) (fun h1=>
 At (hnew h1 Am fI) (fun h2=>
 CondP (decide ((x1.size:Int)>(256:Int))) (
 ∃v3,aN h2 h0 0 v3∧
 ∃v4,ae h2 h0 1 v4∧
 ∃v5,ae h2 h0 2 v5∧
 ∃v6,ae h2 h0 3 v6∧
 ∃v7:SliceV,df h2 h0 4 v7∧
 (cp h2 h1 (EE v3 v4 v5 v6 v7) (fun h8=>
 ∃v9,aN h8 h1 0 v9∧
 ∃v10,ae h8 h1 1 v10∧
 ∃v11,ae h8 h1 2 v11∧
 ∃v12,ae h8 h1 3 v12∧
 ∃v13:SliceV,df h8 h1 4 v13∧
 K ((v9,v10,v11,v12,v13),2) h8))) (
 ∃v14:SliceV,df h2 h0 4 v14∧
 HC PG Cr (qJ v14 x1) lx (fun(e15:ByteArray×Bool) h16=>
 CondP (!e15.2) (
 ∃v17,aN h16 h0 0 v17∧
 ∃v18,ae h16 h0 1 v18∧
 ∃v19,ae h16 h0 2 v19∧
 ∃v20,ae h16 h0 3 v20∧
 ∃v21:SliceV,df h16 h0 4 v21∧
 (cp h16 h1 (EE v17 v18 v19 v20 v21) (fun h22=>
 ∃v23,aN h22 h1 0 v23∧
 ∃v24,ae h22 h1 1 v24∧
 ∃v25,ae h22 h1 2 v25∧
 ∃v26,ae h22 h1 3 v26∧
 ∃v27:SliceV,df h22 h1 4 v27∧
 K ((v23,v24,v25,v26,v27),4) h22))) (
 ∃v28:SliceV,df h16 h0 4 v28∧
 HC PG wL (qJ v28 x1) [.c .slice] (fun(e29:SliceV) h30=>
 (dU h30 (adr (ag h0) 4) (.slice e29.a e29.len e29.cap) (fun h31=>
 ∃v32,aN h31 h0 0 v32∧
 ∃v33,ae h31 h0 1 v33∧
 ∃v34,ae h31 h0 2 v34∧
 ∃v35,ae h31 h0 3 v35∧
 ∃v36:SliceV,df h31 h0 4 v36∧
 (cp h31 h1 (EE v32 v33 v34 v35 v36) (fun h37=>
 ∃v38,aN h37 h1 0 v38∧
 ∃v39,ae h37 h1 1 v39∧
 ∃v40,ae h37 h1 2 v40∧
 ∃v41,ae h37 h1 3 v41∧
 ∃v42:SliceV,df h37 h1 4 v42∧
 K ((v38,v39,v40,v41,v42),0) h37))))) h16)) h2)))
theorem GM(x0:T5)(x1:ByteArray){K:cQ xJ→ad→Prop}{h0:ad}(h:za x0 x1 K h0):HC PG u3 [Ur x0,.string x1] xJ K h0:=dG .nil Tryz.func31 Tryz.call31 rfl rfl (by kernel_rfl) h
def DH(x0:T6)(x1:T6)(K:(Bool)→ad→Prop)(h0:ad):Prop:=
 At (hnew h0 (oa x0) aL) (fun h1=>
 At (hnew h1 (oa x1) aL) (fun h2=>
 ∃v3,aN h2 h0 0 v3∧
 ∃v4,aN h2 h1 0 v4∧
 CondP (v3==v4) (
 ∃v5,aH h2 (adr (ag h0) 1) 0 v5∧
 ∃v6,aH h2 (adr (ag h0) 1) 1 v6∧
 ∃v7,aH h2 (adr (ag h0) 1) 2 v7∧
 ∃v8,aH h2 (adr (ag h1) 1) 0 v8∧
 ∃v9,aH h2 (adr (ag h1) 1) 1 v9∧
 ∃v10,aH h2 (adr (ag h1) 1) 2 v10∧
 K ((((v5==v8)&&((v6==v9)&&true)))&&((v7==v10)&&true)) h2) (
 K false h2)))
theorem Lr(x0:T6)(x1:T6){K:cQ [.c .bool]→ad→Prop}{h0:ad}(h:DH x0 x1 K h0):HC PG pJ [Gq x0,Gq x1] [.c .bool] K h0:=dG .nil Tryz.func32 Tryz.call32 rfl rfl (by kernel_rfl) h
def tK(x0:T6)(K:(Int×Int×Int)→ad→Prop)(h0:ad):Prop:=
 At (hnew h0 (oa x0) aL) (fun h1=>
 At (hnew h1 Vy cC) (fun h2=>
 ∃v3,aH h2 (adr (ag h0) 1) 0 v3∧
 ∃v4,aH h2 (adr (ag h0) 1) 1 v4∧
 ∃v5,aH h2 (adr (ag h0) 1) 2 v5∧
 (cp h2 h1 (VB v3 v4 v5) (fun h6=>
 ∃v7,ae h6 h1 0 v7∧
 ∃v8,ae h6 h1 1 v8∧
 ∃v9,ae h6 h1 2 v9∧
 K (v7,v8,v9) h6))))
theorem zY(x0:T6){K:cQ KP→ad→Prop}{h0:ad}(h:tK x0 K h0):HC PG pm [Gq x0] KP K h0:=dG .nil Tryz.func33 Tryz.call33 rfl rfl (by kernel_rfl) h
def vO(x0:T6)(K:(Int)→ad→Prop)(h0:ad):Prop:=
 At (hnew h0 (oa x0) aL) (fun h1=>
 ∃v2,aN h1 h0 0 v2∧
 K v2 h1)
theorem CF(x0:T6){K:cQ bX→ad→Prop}{h0:ad}(h:vO x0 K h0):HC PG qV [Gq x0] bX K h0:=dG .nil Tryz.func34 Tryz.call34 rfl rfl (by kernel_rfl) h
def rh(x0:Option Addr)(x1:Option Addr)(x2:Option Addr)(x3:ByteArray)(K:(Unit)→ad→Prop)(h0:ad):Prop:=
 (True∧(∀x y:Addr,x1=some x→x2=some y→fW h0 x∧fW h0 y)∧
 CondP (x1==x2) (
 K () h0) (
 Join (fun(t6:Bool) h7=>
 CondP t6 (
 HC PG j9 (xu x1 x3) [.c .slice] (fun(e8:SliceV) h9=>
 HC PG j9 (xu x2 x3) [.c .slice] (fun(e10:SliceV) h11=>
 HC PG iw (Ib x0 e8 e10) [] (fun(e12:Unit) h13=>
 K () h13) h11) h9) h7) (
 HC PG dR [.pointer x1] [.c .str] (fun(e14:ByteArray) h15=>
 (((x3.size+e14.size:Nat):Int)≤9223372036854775807∧
 HC PG wO (xu x1 (x3++e14)) [.c .slice] (fun(e16:SliceV) h17=>
 HC PG wO (xu x2 (x3++e14)) [.c .slice] (fun(e18:SliceV) h19=>
 HC PG iw (Ib x0 e16 e18) [] (fun(e20:Unit) h21=>
 HC PG j4 [.pointer x1] [.c .slice] (fun(e22:SliceV) h23=>
 HC PG j4 [.pointer x2] [.c .slice] (fun(e24:SliceV) h25=>
 LoopP (fun I26 (t27:SliceV×SliceV) h28=>
 Join (fun(t30:Bool) h31=>
 CondP t30 (
 Join (fun(t43:Bool) h44=>
 CondP t43 (
 (cj 0 t27.1.len∧∃a45,t27.1.a=some a45∧
 ∃v46,ay h44 a45 ((0:Int).toNat*1) (.pointer v46)∧
 HC PG iu (TE x0 v46 none (x3++e14)) [] (fun(e47:Unit) h48=>
 (((0:Int)≤(1:Int)∧(1:Int)≤((t27.1.len:Nat):Int))∧
 Bd (aW t27.1.a ((1:Int).toNat) t27.1.cap 1:Option Addr) (fun a49=>Bd (t27.1.len-((1:Int).toNat):Nat) (fun n50=>Bd (t27.1.cap-((1:Int).toNat):Nat) (fun n51=>
 I26 (⟨a49,n50,n51⟩,t27.2) h48))))) h44)) (
 Join (fun(t63:Bool) h64=>
 CondP t63 (
 (cj 0 t27.2.len∧∃a65,t27.2.a=some a65∧
 ∃v66,ay h64 a65 ((0:Int).toNat*1) (.pointer v66)∧
 HC PG iu (TE x0 none v66 (x3++e14)) [] (fun(e67:Unit) h68=>
 (((0:Int)≤(1:Int)∧(1:Int)≤((t27.2.len:Nat):Int))∧
 Bd (aW t27.2.a ((1:Int).toNat) t27.2.cap 1:Option Addr) (fun a69=>Bd (t27.2.len-((1:Int).toNat):Nat) (fun n70=>Bd (t27.2.cap-((1:Int).toNat):Nat) (fun n71=>
 I26 (t27.1,⟨a69,n70,n71⟩) h68))))) h64)) (
 (cj 0 t27.1.len∧∃a72,t27.1.a=some a72∧
 ∃v73,ay h64 a72 ((0:Int).toNat*1) (.pointer v73)∧
 (cj 0 t27.2.len∧∃a74,t27.2.a=some a74∧
 ∃v75,ay h64 a74 ((0:Int).toNat*1) (.pointer v75)∧
 HC PG iu (TE x0 v73 v75 (x3++e14)) [] (fun(e76:Unit) h77=>
 (((0:Int)≤(1:Int)∧(1:Int)≤((t27.1.len:Nat):Int))∧
 Bd (aW t27.1.a ((1:Int).toNat) t27.1.cap 1:Option Addr) (fun a78=>Bd (t27.1.len-((1:Int).toNat):Nat) (fun n79=>Bd (t27.1.cap-((1:Int).toNat):Nat) (fun n80=>
 (((0:Int)≤(1:Int)∧(1:Int)≤((t27.2.len:Nat):Int))∧
 Bd (aW t27.2.a ((1:Int).toNat) t27.2.cap 1:Option Addr) (fun a81=>Bd (t27.2.len-((1:Int).toNat):Nat) (fun n82=>Bd (t27.2.cap-((1:Int).toNat):Nat) (fun n83=>
 I26 (⟨a78,n79,n80⟩,⟨a81,n82,n83⟩) h77))))))))) h64)))) (fun J52=>
 CondP ((t27.1.len:Int)==(0:Int)) (
 J52 true h44) (
 (cj 0 t27.2.len∧∃a53,t27.2.a=some a53∧
 ∃v54,ay h44 a53 ((0:Int).toNat*1) (.pointer v54)∧
 (cj 0 t27.1.len∧∃a55,t27.1.a=some a55∧
 ∃v56,ay h44 a55 ((0:Int).toNat*1) (.pointer v56)∧
 HC PG dR [.pointer v54] [.c .str] (fun(e57:ByteArray) h58=>
 (ay h58 a55 ((0:Int).toNat*1) (.pointer v56)∧
 ∃b59,(0:Int)≤(0:Int)∧e57[(0:Int).toNat]? =some b59∧
 HC PG dR [.pointer v56] [.c .str] (fun(e60:ByteArray) h61=>
 ∃b62,(0:Int)≤(0:Int)∧e60[(0:Int).toNat]? =some b62∧
 J52 (decide ((b59.toNat:Int)<(b62.toNat:Int))) h61) h58)) h44)))))) (fun J32=>
 CondP ((t27.2.len:Int)==(0:Int)) (
 J32 true h31) (
 CondP (decide ((t27.1.len:Int)>(0:Int))) (
 (cj 0 t27.1.len∧∃a33,t27.1.a=some a33∧
 ∃v34,ay h31 a33 ((0:Int).toNat*1) (.pointer v34)∧
 (cj 0 t27.2.len∧∃a35,t27.2.a=some a35∧
 ∃v36,ay h31 a35 ((0:Int).toNat*1) (.pointer v36)∧
 HC PG dR [.pointer v34] [.c .str] (fun(e37:ByteArray) h38=>
 (ay h38 a35 ((0:Int).toNat*1) (.pointer v36)∧
 ∃b39,(0:Int)≤(0:Int)∧e37[(0:Int).toNat]? =some b39∧
 HC PG dR [.pointer v36] [.c .str] (fun(e40:ByteArray) h41=>
 ∃b42,(0:Int)≤(0:Int)∧e40[(0:Int).toNat]? =some b42∧
 J32 (decide ((b39.toNat:Int)<(b42.toNat:Int))) h41) h38)) h31))) (
 J32 false h31)))) (
 K () h31)) (fun J29=>
 CondP (decide ((t27.1.len:Int)>(0:Int))) (
 J29 true h28) (
 J29 (decide ((t27.2.len:Int)>(0:Int))) h28))) (e22,e24) h25) h23) h21) h19) h17) h15)) h7)) (fun J1=>
 CondP x1.isNone (
 J1 true h0) (
 CondP x2.isNone (
 J1 true h0) (
 HC PG dR [.pointer x1] [.c .str] (fun(e2:ByteArray) h3=>
 HC PG dR [.pointer x2] [.c .str] (fun(e4:ByteArray) h5=>
 J1 (!(e2.toList==e4.toList)) h5) h3) h0)))))
noncomputable def CT:Ann:=.node (.node .nil (.node .nil (.join [(15,.c .bool)] .nil .nil))) (.node .nil (.node .nil (.node .nil (.loop [(9,.c .slice),(10,.c .slice)] (.node (.join [(60,.c .bool)] .nil .nil) (.join [(74,.c .bool)] .nil (.node .nil (.join [(104,.c .bool)] .nil .nil))))))))
theorem vL(x0:Option Addr)(x1:Option Addr)(x2:Option Addr)(x3:ByteArray){K:cQ []→ad→Prop}{h0:ad}(h:rh x0 x1 x2 x3 K h0):HC PG iu (TE x0 x1 x2 x3) [] K h0:=dG CT Tryz.func35 Tryz.call35 rfl rfl (by kernel_rfl) h
def uy(x0:T6)(K:(Option Addr)→ad→Prop)(h0:ad):Prop:=
 At (hnew h0 (oa x0) aL) (fun h1=>
 ∃v2,ax h1 h0 5 v2∧
 K v2 h1)
theorem Bc(x0:T6){K:cQ [.c .ptr]→ad→Prop}{h0:ad}(h:uy x0 K h0):HC PG mu [Gq x0] [.c .ptr] K h0:=dG .nil Tryz.func36 Tryz.call36 rfl rfl (by kernel_rfl) h
def rg(x0:Option Addr)(x1:Option Addr)(x2:Option Addr)(K:(Unit)→ad→Prop)(h0:ad):Prop:=
 (True∧(∀x y:Addr,x1=some x→x2=some y→fW h0 x∧fW h0 y)∧
 CondP (x1==x2) (
 K () h0) (
 HC PG dL [.pointer x1] [.c .bool] (fun(e1:Bool) h2=>
 CondP e1 (
 HC PG eW [.pointer x1] [.c .slice] (fun(e3:SliceV) h4=>
 HC PG eW [.pointer x2] [.c .slice] (fun(e5:SliceV) h6=>
 HC PG iw (Ib x0 e3 e5) [] (fun(e7:Unit) h8=>
 K () h8) h6) h4) h2) (
 LoopP (fun I9 (t10:Int) h11=>
 CondP (decide (t10<(32:Int))) (
 Join (fun(t28:Unit) h29=>
 I9 (IntKind.wrap .i64 (t10+1)) h29) (fun J12=>
 HC PG g5 (ll x1 t10) gm (fun(e13:(Option Addr)×Bool) h14=>
 HC PG g5 (ll x2 t10) gm (fun(e15:(Option Addr)×Bool) h16=>
 Join (fun(t18:Bool) h19=>
 CondP t18 (
 HC PG nH (UN x0 e13.1 e15.1) [] (fun(e20:Unit) h21=>
 J12 () h21) h19) (
 HC PG uk (ll x1 t10) [.c .slice] (fun(e22:SliceV) h23=>
 HC PG uk (ll x2 t10) [.c .slice] (fun(e24:SliceV) h25=>
 HC PG iw (Ib x0 e22 e24) [] (fun(e26:Unit) h27=>
 J12 () h27) h25) h23) h19)) (fun J17=>
 CondP e13.2 (
 J17 e15.2 h16) (
 J17 false h16))) h14) h11)) (
 K () h11)) 0 h2)) h0))
noncomputable def CS:Ann:=.node .nil (.node .nil (.node .nil (.loop [(22,.c (.int .i64))] (.node .nil (.node .nil (.join [] (.node .nil (.node .nil (.node .nil (.node (.join [(40,.c .bool)] .nil .nil) .nil)))) .nil))))))
theorem vK(x0:Option Addr)(x1:Option Addr)(x2:Option Addr){K:cQ []→ad→Prop}{h0:ad}(h:rg x0 x1 x2 K h0):HC PG nH (UN x0 x1 x2) [] K h0:=dG CS Tryz.func37 Tryz.call37 rfl rfl (by kernel_rfl) h
def uA(x0:T6)(K:(Option Addr)→ad→Prop)(h0:ad):Prop:=
 At (hnew h0 (oa x0) aL) (fun h1=>
 Join (fun(t5:Bool) h6=>
 CondP t5 (
 HC PG oG [] [.c .ptr] (fun(e7:Option Addr) h8=>
 K e7 h8) h6) (
 ∃v9,ax h6 h0 4 v9∧
 K v9 h6)) (fun J2=>
 ∃v3,aN h1 h0 0 v3∧
 CondP (v3==(0:Int)) (
 ∃v4,ax h1 h0 4 v4∧
 J2 v4.isNone h1) (
 J2 false h1)))
noncomputable def BL:Ann:=.node .nil (.node (.join [(10,.c .bool)] .nil .nil) .nil)
theorem Bf(x0:T6){K:cQ [.c .ptr]→ad→Prop}{h0:ad}(h:uA x0 K h0):HC PG jX [Gq x0] [.c .ptr] K h0:=dG BL Tryz.func38 Tryz.call38 rfl rfl (by kernel_rfl) h
def eB(x0:SliceV)(x1:Value)(K:(Unit)→ad→Prop)(h0:ad):Prop:=
 HC PG oX [.int .u64 (IntKind.wrap .u64 (x0.len:Int))] bX (fun(e1:Int) h2=>
 HC PG dt [.slice x0.a x0.len x0.cap,.int .i64 0,.int .i64 (x0.len:Int),.int .i64 e1,x1] [] (fun(e3:Unit) h4=>
 K () h4) h2) h0
theorem gz(x0:SliceV)(x1:Value){K:cQ []→ad→Prop}{h0:ad}(h:eB x0 x1 K h0):HC PG cD [.slice x0.a x0.len x0.cap,x1] [] K h0:=dG .nil Tryz.func39 Tryz.call39 rfl rfl (by kernel_rfl) h
def DU(x0:ByteArray×ByteArray×ByteArray×Bool×Bool)(x1:ByteArray×ByteArray×ByteArray×Bool×Bool)(K:(Int)→ad→Prop)(h0:ad):Prop:=
 At (hnew h0 (Uo x0) bT) (fun h1=>
 At (hnew h1 (Uo x1) bT) (fun h2=>
 ∃v3,au h2 h0 0 v3∧
 ∃v4,au h2 h1 0 v4∧
 HC PG mz (jH v3 v4) bX (fun(e5:Int) h6=>
 K e5 h6) h2))
theorem LD(x0:ByteArray×ByteArray×ByteArray×Bool×Bool)(x1:ByteArray×ByteArray×ByteArray×Bool×Bool){K:cQ bX→ad→Prop}{h0:ad}(h:DU x0 x1 K h0):HC PG ng [Ve x0,Ve x1] bX K h0:=dG .nil Tryz.func40 Tryz.call40 rfl rfl (by kernel_rfl) h
def uN(x0:ByteArray)(x1:ByteArray)(K:(Int)→ad→Prop)(h0:ad):Prop:=
 HC PG oY [.string x0] [.c .bool] (fun(e1:Bool) h2=>
 HC PG oY [.string x1] [.c .bool] (fun(e3:Bool) h4=>
 CondP e1 (
 CondP e3 (
 K 0 h4) (
 K (-1) h4)) (
 CondP e3 (
 K 1 h4) (
 CondP (Op.bytesLess x0.toList x1.toList) (
 K (-1) h4) (
 CondP (!(Op.bytesLess x0.toList x1.toList||x0.toList==x1.toList)) (
 K 1 h4) (
 K 0 h4))))) h2) h0
theorem Bt(x0:ByteArray)(x1:ByteArray){K:cQ bX→ad→Prop}{h0:ad}(h:uN x0 x1 K h0):HC PG mz (jH x0 x1) bX K h0:=dG .nil Tryz.func41 Tryz.call41 rfl rfl (by kernel_rfl) h
def H2(x0:SliceV)(x1:ByteArray×ByteArray)(K:(SliceV)→ad→Prop)(h0:ad):Prop:=
 At (hnew h0 (vp x1) dH) (fun h1=>
 ∃v2,au h1 h0 0 v2∧
 HC PG wL (qJ x0 v2) [.c .slice] (fun(e3:SliceV) h4=>
 LoopP (fun I5 (t6:SliceV×Bool×Int) h7=>
 CondP (decide (t6.2.2<(e3.len:Int))) (
 Join (fun(t36:SliceV×Bool) h37=>
 I5 (t36.1,t36.2,IntKind.wrap .i64 (t6.2.2+1)) h37) (fun J8=>
 (cj t6.2.2 e3.len∧∃a9,e3.a=some a9∧
 ∃v10,aD h7 (adr a9 (t6.2.2.toNat*2)) 0 v10∧
 ∃v11,aD h7 (adr a9 (t6.2.2.toNat*2)) 1 v11∧
 nv h7 nZ dH (jH v10 v11) (fun h13=>
 Join (fun(t28:SliceV×Bool) h29=>
 ∃v30,au h29 h7 0 v30∧
 ∃v31,au h29 h7 1 v31∧
 At (hnew h29 (jH v30 v31) dH) (fun h32=>
 ∃xs33,SRow h32 (some (ag h29)) (1*2) xs33∧
 AppP (some nZ) 2 32 dH t28.1.a t28.1.len t28.1.cap 1 xs33 h32 (fun s34 h35=>
 J8 (s34,t28.2) h35))) (fun J14=>
 Join (fun(t20:Bool) h21=>
 CondP t20 (
 ∃v22,au h21 h0 0 v22∧
 ∃v23,au h21 h0 1 v23∧
 At (hnew h21 (jH v22 v23) dH) (fun h24=>
 ∃xs25,SRow h24 (some (ag h21)) (1*2) xs25∧
 AppP (some nZ) 2 32 dH t6.1.a t6.1.len t6.1.cap 1 xs25 h24 (fun s26 h27=>
 J14 (s26,true) h27))) (
 J14 (t6.1,t6.2.1) h21)) (fun J15=>
 CondP (!t6.2.1) (
 ∃v16,au h13 h0 0 v16∧
 ∃v17,au h13 h7 0 v17∧
 HC PG wK (jH v16 v17) [.c .bool] (fun(e18:Bool) h19=>
 J15 e18 h19) h13) (
 J15 false h13))))))) (
 CondP (!t6.2.1) (
 ∃v38,au h7 h0 0 v38∧
 ∃v39,au h7 h0 1 v39∧
 At (hnew h7 (jH v38 v39) dH) (fun h40=>
 ∃xs41,SRow h40 (some (ag h7)) (1*2) xs41∧
 AppP (some nZ) 2 32 dH t6.1.a t6.1.len t6.1.cap 1 xs41 h40 (fun s42 h43=>
 K s42 h43))) (
 K t6.1 h7))) (⟨none,0,0⟩,false,0) h4) h1)
noncomputable def Qe:Ann:=.node .nil (.node .nil (.node .nil (.node (.node .nil (.loop [(5,.c .slice),(6,.c .bool),(14,.c (.int .i64))] (.node .nil (.node .nil (.join [(5,.c .slice),(6,.c .bool)] (.node .nil (.join [(5,.c .slice),(6,.c .bool)] (.join [(26,.c .bool)] .nil .nil) .nil)) .nil))))) .nil)))
theorem P8(x0:SliceV)(x1:ByteArray×ByteArray){K:cQ [.c .slice]→ad→Prop}{h0:ad}(h:H2 x0 x1 K h0):HC PG Cq [.slice x0.a x0.len x0.cap,Ot x1] [.c .slice] K h0:=dG Qe Tryz.func46 Tryz.call46 rfl rfl (by kernel_rfl) h
def zi(x0:SliceV)(x1:SliceV)(K:(Bool)→ad→Prop)(h0:ad):Prop:=
 ∃s1,SRow h0 x0.a x0.len (eC s1)∧
 ∃s2,SRow h0 x1.a x1.len (eC s2)∧
 K (s1.toList==s2.toList) h0
theorem GR(x0:SliceV)(x1:SliceV){K:cQ [.c .bool]→ad→Prop}{h0:ad}(h:zi x0 x1 K h0):HC PG u5 (Qv x0 x1) [.c .bool] K h0:=dG .nil Tryz.func51 Tryz.call51 rfl rfl (by kernel_rfl) h
def ux(x0:T6)(K:(SliceV)→ad→Prop)(h0:ad):Prop:=
 At (hnew h0 (oa x0) aL) (fun h1=>
 ∃v2,aN h1 h0 0 v2∧
 CondP (v2==(1:Int)) (
 At (hnew h1 [.int .u8 1] fq) (fun h3=>
 ∃v4,ax h3 h0 5 v4∧
 HC PG uZ [.pointer v4] [.c .slice] (fun(e5:SliceV) h6=>
 ∃xs7,SRow h6 e5.a (e5.len*1) xs7∧
 AppP (some [.int .u8 0]) 1 1 fq (some (ag h1)) 1 1 e5.len xs7 h6 (fun s8 h9=>
 K s8 h9)) h3)) (
 At (hnew h1 [.int .u8 0] fq) (fun h10=>
 ∃v11,aN h10 h0 0 v11∧
 ∃v12,ae h10 h0 1 v12∧
 ∃v13,ae h10 h0 2 v13∧
 ∃v14,ae h10 h0 3 v14∧
 ∃v15,ax h10 h0 4 v15∧
 ∃v16,ax h10 h0 5 v16∧
 HC PG jX [jR v11 v12 v13 v14 v15 v16] [.c .ptr] (fun(e17:Option Addr) h18=>
 HC PG zN [.pointer e17] [.c .slice] (fun(e19:SliceV) h20=>
 ∃xs21,SRow h20 e19.a (e19.len*1) xs21∧
 AppP (some [.int .u8 0]) 1 1 fq (some (ag h1)) 1 1 e19.len xs21 h20 (fun s22 h23=>
 K s22 h23)) h18) h10)))
theorem Bb(x0:T6){K:cQ [.c .slice]→ad→Prop}{h0:ad}(h:ux x0 K h0):HC PG mr [Gq x0] [.c .slice] K h0:=dG .nil Tryz.func52 Tryz.call52 rfl rfl (by kernel_rfl) h
def DJ(x0:Option Addr)(x1:ByteArray)(K:(ByteArray×Bool)→ad→Prop)(h0:ad):Prop:=
 HC PG p8 [.pointer x0] [.c .ptr] (fun(e1:Option Addr) h2=>
 LoopP (fun I3 (t4:ByteArray×(Option Addr)) h5=>
 CondP (!(t4.1.toList==(⟨#[]⟩:ByteArray).toList)) (
 ∃b6,(0:Int)≤(0:Int)∧t4.1[(0:Int).toNat]? =some b6∧
 HC PG jZ (ED t4.2 (b6.toNat:Int)) ja (fun(e7:Int×Bool) h8=>
 CondP (!e7.2) (
 K ((⟨#[]⟩:ByteArray),false) h8) (
 ∃a9,t4.2=some a9∧
 ∃v10:SliceV,cd h8 a9 3 v10∧
 (cj e7.1 v10.len∧∃a11,v10.a=some a11∧
 ∃v12,ay h8 a11 (e7.1.toNat*1) (.pointer v12)∧
 ∃a13,v12=some a13∧
 ∃v14,aD h8 a13 0 v14∧
 HC PG wG (jH t4.1 v14) lx (fun(e15:ByteArray×Bool) h16=>
 CondP (!e15.2) (
 K ((⟨#[]⟩:ByteArray),false) h16) (
 I3 (e15.1,v12) h16)) h8))) h5) (
 HC PG is [.pointer t4.2] lx (fun(e17:ByteArray×Bool) h18=>
 K (e17.1,e17.2) h18) h5)) (x1,e1) h2) h0
noncomputable def LK:Ann:=.node .nil (.node .nil (.node (.loop [(1,.c .str),(6,.c .ptr)] .nil) .nil))
theorem Lu(x0:Option Addr)(x1:ByteArray){K:cQ lx→ad→Prop}{h0:ad}(h:DJ x0 x1 K h0):HC PG xT (xu x0 x1) lx K h0:=dG LK Tryz.func53 Tryz.call53 rfl rfl (by kernel_rfl) h
def DX(x0:Int×Int×Int)(x1:Option Addr)(x2:ByteArray)(K:(ByteArray×Bool)→ad→Prop)(h0:ad):Prop:=
 At (hnew h0 (Dm x0) cC) (fun h1=>
 ∃v2,ae h1 h0 0 v2∧
 ∃v3,ae h1 h0 1 v3∧
 ∃v4,ae h1 h0 2 v4∧
 HC PG fL [zm v2 v3 v4,.string x2] gC (fun(e5:Int) h6=>
 HC PG lB [.pointer x1] [.c .ptr] (fun(e7:Option Addr) h8=>
 LoopP (fun I9 (t10:(Option Addr)×Int) h11=>
 HC PG dL [.pointer t10.1] [.c .bool] (fun(e12:Bool) h13=>
 CondP e12 (
 HC PG qZ (xu t10.1 x2) lx (fun(e14:ByteArray×Bool) h15=>
 K (e14.1,e14.2) h15) h13) (
 HC PG lA (sS e5 t10.2) bX (fun(e16:Int) h17=>
 HC PG js (ll t10.1 e16) pZ (fun(e18:(ByteArray×ByteArray)×Bool) h19=>
 nv h19 nZ af (vp e18.1) (fun h21=>
 CondP e18.2 (
 ∃v22,au h21 h19 0 v22∧
 CondP (!(v22.toList==x2.toList)) (
 K ((⟨#[]⟩:ByteArray),false) h21) (
 ∃v23,au h21 h19 1 v23∧
 K (v23,true) h21)) (
 HC PG g5 (ll t10.1 e16) gm (fun(e24:(Option Addr)×Bool) h25=>
 CondP (!e24.2) (
 K ((⟨#[]⟩:ByteArray),false) h25) (
 I9 (e24.1,IntKind.wrap .i64 (t10.2+1)) h25)) h21))) h17) h13)) h11) (e7,0) h8) h6) h1)
noncomputable def LP:Ann:=.node .nil (.node .nil (.node .nil (.loop [(9,.c .ptr),(10,.c (.int .i64))] .nil)))
theorem LG(x0:Int×Int×Int)(x1:Option Addr)(x2:ByteArray){K:cQ lx→ad→Prop}{h0:ad}(h:DX x0 x1 x2 K h0):HC PG xZ [MF x0,.pointer x1,.string x2] lx K h0:=dG LP Tryz.func54 Tryz.call54 rfl rfl (by kernel_rfl) h
def uz(x0:T6)(K:(SliceV)→ad→Prop)(h0:ad):Prop:=
 At (hnew h0 (oa x0) aL) (fun h1=>
 ∃v2,aN h1 h0 0 v2∧
 CondP (v2==(1:Int)) (
 ∃v3,ax h1 h0 5 v3∧
 HC PG Nc [] TQ (fun(e4:ByteArray×ByteArray×Bool) h5=>
 (ax h5 h0 5 v3∧
 HC PG IX [.pointer v3,Vd e4] [.c .slice] (fun(e6:SliceV) h7=>
 K e6 h7) h5)) h1) (
 ∃v8,ax h1 h0 4 v8∧
 HC PG rq [.pointer v8] [.c .slice] (fun(e9:SliceV) h10=>
 K e9 h10) h1))
theorem Be(x0:T6){K:cQ [.c .slice]→ad→Prop}{h0:ad}(h:uz x0 K h0):HC PG p4 [Gq x0] [.c .slice] K h0:=dG .nil Tryz.func55 Tryz.call55 rfl rfl (by kernel_rfl) h
def DR(x0:Int)(x1:Int×Int×Int)(K:((T6)×(T5))→ad→Prop)(h0:ad):Prop:=
 At (hnew h0 (Dm x1) cC) (fun h1=>
 At (hnew h1 rB aL) (fun h2=>
 At (hnew h2 Am fI) (fun h3=>
 ((2:Int)≠0∧
 ∃v4,ae h3 h0 0 v4∧
 ∃v5,ae h3 h0 1 v5∧
 ∃v6,ae h3 h0 2 v6∧
 HC PG wH [.int .i64 (IntKind.wrap .i64 (jE x0 2)),zm v4 v5 v6] tf (fun(e7:(T6)×Int) h8=>
 nv h8 rB aL (oa e7.1) (fun h10=>
 ((2:Int)≠0∧
 ∃v11,ae h10 h0 0 v11∧
 ∃v12,ae h10 h0 1 v12∧
 ∃v13,ae h10 h0 2 v13∧
 HC PG Cs [zm v11 v12 v13] KP (fun(e14:Int×Int×Int) h15=>
 HC PG Cp [.int .i64 (IntKind.wrap .i64 (jE x0 2)),MF e14] xJ (fun(e16:(T5)×Int) h17=>
 nv h17 Am fI (xB e16.1) (fun h19=>
 ∃v20,aN h19 h8 0 v20∧
 ∃v21,ae h19 h8 1 v21∧
 ∃v22,ae h19 h8 2 v22∧
 ∃v23,ae h19 h8 3 v23∧
 ∃v24,ax h19 h8 4 v24∧
 ∃v25,ax h19 h8 5 v25∧
 ∃v26,aN h19 h17 0 v26∧
 ∃v27,ae h19 h17 1 v27∧
 ∃v28,ae h19 h17 2 v28∧
 ∃v29,ae h19 h17 3 v29∧
 ∃v30:SliceV,df h19 h17 4 v30∧
 (cp h19 h1 (tY v20 v21 v22 v23 v24 v25) (fun h31=>
 ((aN h31 h17 0 v26∧ae h31 h17 1 v27∧ae h31 h17 2 v28∧ae h31 h17 3 v29∧df h31 h17 4 v30)∧
 (cp h31 h2 (EE v26 v27 v28 v29 v30) (fun h32=>
 ∃v33,aN h32 h1 0 v33∧
 ∃v34,ae h32 h1 1 v34∧
 ∃v35,ae h32 h1 2 v35∧
 ∃v36,ae h32 h1 3 v36∧
 ∃v37,ax h32 h1 4 v37∧
 ∃v38,ax h32 h1 5 v38∧
 ∃v39,aN h32 h2 0 v39∧
 ∃v40,ae h32 h2 1 v40∧
 ∃v41,ae h32 h2 2 v41∧
 ∃v42,ae h32 h2 3 v42∧
 ∃v43:SliceV,df h32 h2 4 v43∧
 K ((v33,v34,v35,v36,v37,v38),(v39,v40,v41,v42,v43)) h32))))))) h15) h10))) h3))))
theorem LA(x0:Int)(x1:Int×Int×Int){K:cQ Fl→ad→Prop}{h0:ad}(h:DR x0 x1 K h0):HC PG xW [.int .u8 x0,MF x1] Fl K h0:=dG .nil Tryz.func56 Tryz.call56 rfl rfl (by kernel_rfl) h
def DQ(x0:T6)(x1:T5)(x2:SliceV)(x3:SliceV)(K:((T6)×(T5))→ad→Prop)(h0:ad):Prop:=
 At (hnew h0 (oa x0) aL) (fun h1=>
 At (hnew h1 (xB x1) fI) (fun h2=>
 At (hnew h2 rB aL) (fun h3=>
 At (hnew h3 Am fI) (fun h4=>
 LoopP (fun I5 (t6:Int) h7=>
 CondP (decide (t6<(x2.len:Int))) (
 Join (fun(t43:Unit) h44=>
 I5 (IntKind.wrap .i64 (t6+1)) h44) (fun J8=>
 (cj t6 x2.len∧∃a9,x2.a=some a9∧
 ∃v10,aD h7 (adr a9 (t6.toNat*2)) 0 v10∧
 ∃v11,aD h7 (adr a9 (t6.toNat*2)) 1 v11∧
 nv h7 nZ af (jH v10 v11) (fun h13=>
 CondP (decide (t6<(20:Int))) (
 ∃v14,au h13 h7 0 v14∧
 ∃v15,au h13 h7 0 v15∧
 (((0:Int)≤(if 30<(v15.size:Int)then 30 else(v15.size:Int))∧(if 30<(v15.size:Int)then 30 else(v15.size:Int))≤((v14.size:Nat):Int))∧
 Bd (v14.extract 0 ((if 30<(v15.size:Int)then 30 else(v15.size:Int)).toNat):ByteArray) (fun s16=>
 ∃v17,au h13 h7 1 v17∧
 ∃v18,au h13 h7 1 v18∧
 (((0:Int)≤(if 30<(v18.size:Int)then 30 else(v18.size:Int))∧(if 30<(v18.size:Int)then 30 else(v18.size:Int))≤((v17.size:Nat):Int))∧
 Bd (v17.extract 0 ((if 30<(v18.size:Int)then 30 else(v18.size:Int)).toNat):ByteArray) (fun s19=>
 (dU h13 (adr (ag h7) 0) (.string s16) (fun h20=>
 (dU h20 (adr (ag h7) 1) (.string s19) (fun h21=>
 ∃v22,aN h21 h0 0 v22∧
 ∃v23,ae h21 h0 1 v23∧
 ∃v24,ae h21 h0 2 v24∧
 ∃v25,ae h21 h0 3 v25∧
 ∃v26,ax h21 h0 4 v26∧
 ∃v27,ax h21 h0 5 v27∧
 ∃v28,au h21 h7 0 v28∧
 ∃v29,au h21 h7 1 v29∧
 HC PG ny [jR v22 v23 v24 v25 v26 v27,.pointer none,qF v28 v29] tf (fun(e30:(T6)×Int) h31=>
 (cp h31 h0 (oa e30.1) (fun h32=>
 ∃v33,aN h32 h1 0 v33∧
 ∃v34,ae h32 h1 1 v34∧
 ∃v35,ae h32 h1 2 v35∧
 ∃v36,ae h32 h1 3 v36∧
 ∃v37:SliceV,df h32 h1 4 v37∧
 ∃v38,au h32 h7 0 v38∧
 ∃v39,au h32 h7 1 v39∧
 HC PG zO [Ic v33 v34 v35 v36 v37,qF v38 v39] xJ (fun(e40:(T5)×Int) h41=>
 (cp h41 h1 (xB e40.1) (fun h42=>
 J8 () h42))) h32))) h21))))))))) (
 J8 () h13))))) (
 LoopP (fun I45 (t46:Int) h47=>
 CondP (decide (t46<(x3.len:Int))) (
 Join (fun(t69:Unit) h70=>
 I45 (IntKind.wrap .i64 (t46+1)) h70) (fun J48=>
 (cj t46 x3.len∧∃a49,x3.a=some a49∧
 ∃v50,ay h47 a49 (t46.toNat*1) (.string v50)∧
 CondP (decide (t46<(15:Int))) (
 (((0:Int)≤(if 30<(v50.size:Int)then 30 else(v50.size:Int))∧(if 30<(v50.size:Int)then 30 else(v50.size:Int))≤((v50.size:Nat):Int))∧
 Bd (v50.extract 0 ((if 30<(v50.size:Int)then 30 else(v50.size:Int)).toNat):ByteArray) (fun s51=>
 ∃v52,aN h47 h0 0 v52∧
 ∃v53,ae h47 h0 1 v53∧
 ∃v54,ae h47 h0 2 v54∧
 ∃v55,ae h47 h0 3 v55∧
 ∃v56,ax h47 h0 4 v56∧
 ∃v57,ax h47 h0 5 v57∧
 HC PG kw [jR v52 v53 v54 v55 v56 v57,.pointer none,.string s51] tf (fun(e58:(T6)×Int) h59=>
 (cp h59 h0 (oa e58.1) (fun h60=>
 ∃v61,aN h60 h1 0 v61∧
 ∃v62,ae h60 h1 1 v62∧
 ∃v63,ae h60 h1 2 v63∧
 ∃v64,ae h60 h1 3 v64∧
 ∃v65:SliceV,df h60 h1 4 v65∧
 HC PG u3 [Ic v61 v62 v63 v64 v65,.string s51] xJ (fun(e66:(T5)×Int) h67=>
 (cp h67 h1 (xB e66.1) (fun h68=>
 J48 () h68))) h60))) h47))) (
 J48 () h47)))) (
 ∃v71,aN h47 h0 0 v71∧
 ∃v72,ae h47 h0 1 v72∧
 ∃v73,ae h47 h0 2 v73∧
 ∃v74,ae h47 h0 3 v74∧
 ∃v75,ax h47 h0 4 v75∧
 ∃v76,ax h47 h0 5 v76∧
 ∃v77,aN h47 h1 0 v77∧
 ∃v78,ae h47 h1 1 v78∧
 ∃v79,ae h47 h1 2 v79∧
 ∃v80,ae h47 h1 3 v80∧
 ∃v81:SliceV,df h47 h1 4 v81∧
 (cp h47 h2 (tY v71 v72 v73 v74 v75 v76) (fun h82=>
 ((aN h82 h1 0 v77∧ae h82 h1 1 v78∧ae h82 h1 2 v79∧ae h82 h1 3 v80∧df h82 h1 4 v81)∧
 (cp h82 h3 (EE v77 v78 v79 v80 v81) (fun h83=>
 ∃v84,aN h83 h2 0 v84∧
 ∃v85,ae h83 h2 1 v85∧
 ∃v86,ae h83 h2 2 v86∧
 ∃v87,ae h83 h2 3 v87∧
 ∃v88,ax h83 h2 4 v88∧
 ∃v89,ax h83 h2 5 v89∧
 ∃v90,aN h83 h3 0 v90∧
 ∃v91,ae h83 h3 1 v91∧
 ∃v92,ae h83 h3 2 v92∧
 ∃v93,ae h83 h3 3 v93∧
 ∃v94:SliceV,df h83 h3 4 v94∧
 K ((v84,v85,v86,v87,v88,v89),(v90,v91,v92,v93,v94)) h83))))))) 0 h7)) 0 h4))))
noncomputable def LM:Ann:=.node .nil (.node (.node .nil (.loop [(16,.c (.int .i64))] (.node .nil (.node .nil (.join [] .nil .nil))))) (.node (.node .nil (.loop [(54,.c (.int .i64))] (.node .nil (.node .nil (.join [] .nil .nil))))) .nil))
theorem Lz(x0:T6)(x1:T5)(x2:SliceV)(x3:SliceV){K:cQ Fl→ad→Prop}{h0:ad}(h:DQ x0 x1 x2 x3 K h0):HC PG nf [Gq x0,Ur x1,.slice x2.a x2.len x2.cap,.slice x3.a x3.len x3.cap] Fl K h0:=dG LM Tryz.func57 Tryz.call57 rfl rfl (by kernel_rfl) h
def BG(x0:Int)(K:(ByteArray)→ad→Prop)(h0:ad):Prop:=
 CondP (x0==(0:Int)) (
 K (⟨#[102,97,105,108]⟩:ByteArray) h0) (
 CondP (x0==(1:Int)) (
 K (⟨#[111,117,114,115]⟩:ByteArray) h0) (
 CondP (x0==(2:Int)) (
 K (⟨#[116,104,101,105,114,115]⟩:ByteArray) h0) (
 CondP (x0==(3:Int)) (
 K (⟨#[107,101,101,112]⟩:ByteArray) h0) (
 K (⟨#[]⟩:ByteArray) h0))))
theorem Jt(x0:Int){K:cQ [.c .str]→ad→Prop}{h0:ad}(h:BG x0 K h0):HC PG wN [.int .i64 x0] [.c .str] K h0:=dG .nil Tryz.func58 Tryz.call58 rfl rfl (by kernel_rfl) h
def BF(x0:ByteArray×Bool)(x1:ByteArray×Bool)(x2:ByteArray×Bool)(x3:Int)(K:((ByteArray×Bool)×Bool)→ad→Prop)(h0:ad):Prop:=
 At (hnew h0 (pO x0) bf) (fun h1=>
 At (hnew h1 (pO x1) bf) (fun h2=>
 At (hnew h2 (pO x2) bf) (fun h3=>
 At (hnew h3 uT bf) (fun h4=>
 Join (fun(t14:Bool) h15=>
 CondP t14 (
 ∃v16,au h15 h1 0 v16∧
 ∃v17,ft h15 h1 1 v17∧
 (cp h15 h3 (UO v16 v17) (fun h18=>
 ∃v19,au h18 h3 0 v19∧
 ∃v20,ft h18 h3 1 v20∧
 K ((v19,v20),true) h18))) (
 ∃v21,au h15 h1 0 v21∧
 ∃v22,ft h15 h1 1 v22∧
 ∃v23,au h15 h0 0 v23∧
 ∃v24,ft h15 h0 1 v24∧
 CondP ((v21.toList==v23.toList)&&((v22==v24)&&true)) (
 ∃v25,au h15 h2 0 v25∧
 ∃v26,ft h15 h2 1 v26∧
 (cp h15 h3 (UO v25 v26) (fun h27=>
 ∃v28,au h27 h3 0 v28∧
 ∃v29,ft h27 h3 1 v29∧
 K ((v28,v29),true) h27))) (
 CondP (x3==(1:Int)) (
 ∃v30,au h15 h1 0 v30∧
 ∃v31,ft h15 h1 1 v31∧
 (cp h15 h3 (UO v30 v31) (fun h32=>
 ∃v33,au h32 h3 0 v33∧
 ∃v34,ft h32 h3 1 v34∧
 K ((v33,v34),false) h32))) (
 CondP (x3==(2:Int)) (
 ∃v35,au h15 h2 0 v35∧
 ∃v36,ft h15 h2 1 v36∧
 (cp h15 h3 (UO v35 v36) (fun h37=>
 ∃v38,au h37 h3 0 v38∧
 ∃v39,ft h37 h3 1 v39∧
 K ((v38,v39),false) h37))) (
 ∃v40,au h15 h0 0 v40∧
 ∃v41,ft h15 h0 1 v41∧
 (cp h15 h3 (UO v40 v41) (fun h42=>
 ∃v43,au h42 h3 0 v43∧
 ∃v44,ft h42 h3 1 v44∧
 K ((v43,v44),false) h42))))))) (fun J5=>
 ∃v6,au h4 h1 0 v6∧
 ∃v7,ft h4 h1 1 v7∧
 ∃v8,au h4 h2 0 v8∧
 ∃v9,ft h4 h2 1 v9∧
 CondP ((v6.toList==v8.toList)&&((v7==v9)&&true)) (
 J5 ((v6.toList==v8.toList)&&((v7==v9)&&true)) h4) (
 ∃v10,au h4 h2 0 v10∧
 ∃v11,ft h4 h2 1 v11∧
 ∃v12,au h4 h0 0 v12∧
 ∃v13,ft h4 h0 1 v13∧
 J5 ((v10.toList==v12.toList)&&((v11==v13)&&true)) h4))))))
noncomputable def Jx:Ann:=.node .nil (.node (.join [(10,.c .bool)] .nil .nil) .nil)
theorem Js(x0:ByteArray×Bool)(x1:ByteArray×Bool)(x2:ByteArray×Bool)(x3:Int){K:cQ Ti→ad→Prop}{h0:ad}(h:BF x0 x1 x2 x3 K h0):HC PG wM [VG x0,VG x1,VG x2,.int .i64 x3] Ti K h0:=dG Jx Tryz.func59 Tryz.call59 rfl rfl (by kernel_rfl) h
def yi(x0:T6)(x1:ByteArray)(x2:ByteArray×Bool)(K:(T6)→ad→Prop)(h0:ad):Prop:=
 At (hnew h0 (oa x0) aL) (fun h1=>
 At (hnew h1 (pO x2) bf) (fun h2=>
 At (hnew h2 rB aL) (fun h3=>
 Join (fun(t25:Unit) h26=>
 ∃v27,aN h26 h0 0 v27∧
 ∃v28,ae h26 h0 1 v28∧
 ∃v29,ae h26 h0 2 v29∧
 ∃v30,ae h26 h0 3 v30∧
 ∃v31,ax h26 h0 4 v31∧
 ∃v32,ax h26 h0 5 v32∧
 (cp h26 h2 (tY v27 v28 v29 v30 v31 v32) (fun h33=>
 ∃v34,aN h33 h2 0 v34∧
 ∃v35,ae h33 h2 1 v35∧
 ∃v36,ae h33 h2 2 v36∧
 ∃v37,ae h33 h2 3 v37∧
 ∃v38,ax h33 h2 4 v38∧
 ∃v39,ax h33 h2 5 v39∧
 K (v34,v35,v36,v37,v38,v39) h33))) (fun J4=>
 ∃v5,ft h3 h1 1 v5∧
 CondP v5 (
 ∃v6,aN h3 h0 0 v6∧
 ∃v7,ae h3 h0 1 v7∧
 ∃v8,ae h3 h0 2 v8∧
 ∃v9,ae h3 h0 3 v9∧
 ∃v10,ax h3 h0 4 v10∧
 ∃v11,ax h3 h0 5 v11∧
 ∃v12,au h3 h1 0 v12∧
 HC PG ny [jR v6 v7 v8 v9 v10 v11,.pointer none,qF x1 v12] tf (fun(e13:(T6)×Int) h14=>
 (cp h14 h0 (oa e13.1) (fun h15=>
 J4 () h15))) h3) (
 ∃v16,aN h3 h0 0 v16∧
 ∃v17,ae h3 h0 1 v17∧
 ∃v18,ae h3 h0 2 v18∧
 ∃v19,ae h3 h0 3 v19∧
 ∃v20,ax h3 h0 4 v20∧
 ∃v21,ax h3 h0 5 v21∧
 HC PG kw [jR v16 v17 v18 v19 v20 v21,.pointer none,.string x1] tf (fun(e22:(T6)×Int) h23=>
 (cp h23 h0 (oa e22.1) (fun h24=>
 J4 () h24))) h3)))))
noncomputable def LL:Ann:=.node .nil (.join [] .nil .nil)
theorem DE(x0:T6)(x1:ByteArray)(x2:ByteArray×Bool){K:cQ AN→ad→Prop}{h0:ad}(h:yi x0 x1 x2 K h0):HC PG uj [Gq x0,.string x1,VG x2] AN K h0:=dG LL Tryz.func60 Tryz.call60 rfl rfl (by kernel_rfl) h
def BD(x0:ByteArray)(x1:ByteArray)(K:(Int)→ad→Prop)(h0:ad):Prop:=
 CondP (decide ((x0.size:Int)>(256:Int))) (
 K 2 h0) (
 CondP (decide ((x1.size:Int)>(4096:Int))) (
 K 3 h0) (
 K 0 h0))
theorem Jq(x0:ByteArray)(x1:ByteArray){K:cQ bX→ad→Prop}{h0:ad}(h:BD x0 x1 K h0):HC PG qb (jH x0 x1) bX K h0:=dG .nil Tryz.func61 Tryz.call61 rfl rfl (by kernel_rfl) h
def ye(x0:Option Addr)(K:(T6)→ad→Prop)(h0:ad):Prop:=
 At (hnew h0 rB aL) (fun h1=>
 Join (fun(t5:Option Addr) h6=>
 (cp h6 h0 (tY 1 0 0 0 none t5) (fun h7=>
 ∃v8,aN h7 h0 0 v8∧
 ∃v9,ae h7 h0 1 v9∧
 ∃v10,ae h7 h0 2 v10∧
 ∃v11,ae h7 h0 3 v11∧
 ∃v12,ax h7 h0 4 v12∧
 ∃v13,ax h7 h0 5 v13∧
 K (v8,v9,v10,v11,v12,v13) h7))) (fun J2=>
 CondP x0.isNone (
 HC PG ru [] [.c .ptr] (fun(e3:Option Addr) h4=>
 J2 e3 h4) h1) (
 J2 x0 h1)))
noncomputable def Gg:Ann:=.node .nil (.join [(0,.c .ptr)] .nil .nil)
theorem FT(x0:Option Addr){K:cQ AN→ad→Prop}{h0:ad}(h:ye x0 K h0):HC PG p5 [.pointer x0] AN K h0:=dG Gg Tryz.func62 Tryz.call62 rfl rfl (by kernel_rfl) h
def yf(x0:Int×Int×Int)(x1:Option Addr)(K:(T6)→ad→Prop)(h0:ad):Prop:=
 At (hnew h0 (Dm x0) cC) (fun h1=>
 At (hnew h1 rB aL) (fun h2=>
 Join (fun(t6:Option Addr) h7=>
 ∃v8,ae h7 h0 0 v8∧
 ∃v9,ae h7 h0 1 v9∧
 ∃v10,ae h7 h0 2 v10∧
 (cp h7 h1 (tY 0 v8 v9 v10 t6 none) (fun h11=>
 ∃v12,aN h11 h1 0 v12∧
 ∃v13,ae h11 h1 1 v13∧
 ∃v14,ae h11 h1 2 v14∧
 ∃v15,ae h11 h1 3 v15∧
 ∃v16,ax h11 h1 4 v16∧
 ∃v17,ax h11 h1 5 v17∧
 K (v12,v13,v14,v15,v16,v17) h11))) (fun J3=>
 CondP x1.isNone (
 HC PG oG [] [.c .ptr] (fun(e4:Option Addr) h5=>
 J3 e4 h5) h2) (
 J3 x1 h2))))
noncomputable def Gh:Ann:=.node .nil (.join [(1,.c .ptr)] .nil .nil)
theorem FU(x0:Int×Int×Int)(x1:Option Addr){K:cQ AN→ad→Prop}{h0:ad}(h:yf x0 x1 K h0):HC PG p6 [MF x0,.pointer x1] AN K h0:=dG Gh Tryz.func64 Tryz.call64 rfl rfl (by kernel_rfl) h
def zj(x0:Int×Int×Int)(x1:SliceV)(K:(Option Addr)→ad→Prop)(h0:ad):Prop:=
 At (hnew h0 (Dm x0) cC) (fun h1=>
 HC PG oE [.slice x1.a x1.len x1.cap] [.c .slice] (fun(e2:SliceV) h3=>
 LoopP (fun I4 (t5:SliceV×Int) h6=>
 CondP (decide (t5.2<(e2.len:Int))) (
 Join (fun(t25:SliceV) h26=>
 I4 (t25,IntKind.wrap .i64 (t5.2+1)) h26) (fun J7=>
 (cj t5.2 e2.len∧∃a8,e2.a=some a8∧
 ∃v9,aD h6 (adr a8 (t5.2.toNat*2)) 0 v9∧
 ∃v10,aD h6 (adr a8 (t5.2.toNat*2)) 1 v10∧
 nv h6 nZ af (jH v9 v10) (fun h12=>
 ∃v13,au h12 h6 0 v13∧
 ∃v14,au h12 h6 1 v14∧
 ∃v15,ae h12 h0 0 v15∧
 ∃v16,ae h12 h0 1 v16∧
 ∃v17,ae h12 h0 2 v17∧
 ∃v18,au h12 h6 0 v18∧
 HC PG fL [zm v15 v16 v17,.string v18] gC (fun(e19:Int) h20=>
 ((au h20 h6 0 v13∧au h20 h6 1 v14)∧
 At (hnew h20 (JM v13 v14 e19) bQ) (fun h21=>
 ∃xs22,SRow h21 (some (ag h20)) (1*3) xs22∧
 AppP (some LU) 3 40 bQ t5.1.a t5.1.len t5.1.cap 1 xs22 h21 (fun s23 h24=>
 J7 s23 h24)))) h12)))) (
 HC PG qf (Sy t5.1 0) [.c .ptr] (fun(e27:Option Addr) h28=>
 K e27 h28) h6)) (⟨none,0,0⟩,0) h3) h1)
noncomputable def GZ:Ann:=.node .nil (.node .nil (.node (.node .nil (.loop [(5,.c .slice),(11,.c (.int .i64))] (.node .nil (.node .nil (.join [(5,.c .slice)] (.node .nil (.draw (JD 0 5 (.all (.lastT 5 (.take 6 (.all (.lastT 7 (.all (.lastT 8 (.take 9 (.done)))))))))))) .nil))))) .nil))
theorem GS(x0:Int×Int×Int)(x1:SliceV){K:cQ [.c .ptr]→ad→Prop}{h0:ad}(h:zj x0 x1 K h0):HC PG u7 [MF x0,.slice x1.a x1.len x1.cap] [.c .ptr] K h0:=dG GZ Tryz.func65 Tryz.call65 rfl rfl (by kernel_rfl) h
def DI(x0:Option Addr)(x1:Option Addr)(x2:ByteArray×ByteArray)(K:((Option Addr)×Bool)→ad→Prop)(h0:ad):Prop:=
 At (hnew h0 (vp x2) af) (fun h1=>
 ∃v2,au h1 h0 0 v2∧
 ∃v3,au h1 h0 1 v3∧
 HC PG p8 [.pointer x1] [.c .ptr] (fun(e4:Option Addr) h5=>
 (au h5 h0 1 v3∧
 (au h5 h0 0 v2∧
 HC PG nC (Qw e4 x0 v2 v3) ug (fun(e6:(Option Addr)×Bool×Bool) h7=>
 K (e6.1,e6.2.1) h7) h5))) h1)
theorem Ls(x0:Option Addr)(x1:Option Addr)(x2:ByteArray×ByteArray){K:cQ gm→ad→Prop}{h0:ad}(h:DI x0 x1 x2 K h0):HC PG xS [.pointer x0,.pointer x1,Ot x2] gm K h0:=dG .nil Tryz.func66 Tryz.call66 rfl rfl (by kernel_rfl) h
def DW(x0:Int×Int×Int)(x1:Option Addr)(x2:Option Addr)(x3:ByteArray×ByteArray)(K:((Option Addr)×Bool)→ad→Prop)(h0:ad):Prop:=
 At (hnew h0 (Dm x0) cC) (fun h1=>
 At (hnew h1 (vp x3) af) (fun h2=>
 ∃v3,ae h2 h0 0 v3∧
 ∃v4,ae h2 h0 1 v4∧
 ∃v5,ae h2 h0 2 v5∧
 ∃v6,au h2 h1 0 v6∧
 ∃v7,ae h2 h0 0 v7∧
 ∃v8,ae h2 h0 1 v8∧
 ∃v9,ae h2 h0 2 v9∧
 ∃v10,au h2 h1 0 v10∧
 ((HC PG fL [zm v7 v8 v9,.string v10] gC (fun(e11:Int) h12=>
 (au h12 h1 0 v6∧
 ((ae h12 h0 0 v3∧ae h12 h0 1 v4∧ae h12 h0 2 v5)∧
 At (hnew h12 TX cN) (fun h13=>
 (au h13 h1 0 v6∧
 ((ae h13 h0 0 v3∧ae h13 h0 1 v4∧ae h13 h0 2 v5)∧
 (cp h13 h12 (T9 v3 v4 v5 x1 v6 e11) (fun h14=>
 ∃v15,ae h14 h12 0 v15∧
 ∃v16,ae h14 h12 1 v16∧
 ∃v17,ae h14 h12 2 v17∧
 ∃v18,ax h14 h12 3 v18∧
 ∃v19,au h14 h12 4 v19∧
 ∃v20,ae h14 h12 5 v20∧
 ∃v21,au h14 h1 0 v21∧
 ∃v22,au h14 h1 1 v22∧
 HC PG lB [.pointer x2] [.c .ptr] (fun(e23:Option Addr) h24=>
 ((au h24 h1 0 v21∧au h24 h1 1 v22)∧
 ((ae h24 h12 0 v15∧ae h24 h12 1 v16∧ae h24 h12 2 v17∧ax h24 h12 3 v18∧au h24 h12 4 v19∧ae h24 h12 5 v20)∧
 HC PG jt [zl v15 v16 v17 v18 v19 v20,.pointer e23,qF v21 v22,.int .i64 0] ug (fun(e25:(Option Addr)×Bool×Bool) h26=>
 K (e25.1,e25.2.1) h26) h24))) h14)))))))) h2)∧
 At (hnew h2 TX cN) (fun h27=>
 (au h27 h1 0 v10∧
 ((ae h27 h0 0 v7∧ae h27 h0 1 v8∧ae h27 h0 2 v9)∧
 (au h27 h1 0 v6∧
 ((ae h27 h0 0 v3∧ae h27 h0 1 v4∧ae h27 h0 2 v5)∧
 HC PG fL [zm v7 v8 v9,.string v10] gC (fun(e28:Int) h29=>
 (au h29 h1 0 v6∧
 ((ae h29 h0 0 v3∧ae h29 h0 1 v4∧ae h29 h0 2 v5)∧
 (cp h29 h2 (T9 v3 v4 v5 x1 v6 e28) (fun h30=>
 ∃v31,ae h30 h2 0 v31∧
 ∃v32,ae h30 h2 1 v32∧
 ∃v33,ae h30 h2 2 v33∧
 ∃v34,ax h30 h2 3 v34∧
 ∃v35,au h30 h2 4 v35∧
 ∃v36,ae h30 h2 5 v36∧
 ∃v37,au h30 h1 0 v37∧
 ∃v38,au h30 h1 1 v38∧
 HC PG lB [.pointer x2] [.c .ptr] (fun(e39:Option Addr) h40=>
 ((au h40 h1 0 v37∧au h40 h1 1 v38)∧
 ((ae h40 h2 0 v31∧ae h40 h2 1 v32∧ae h40 h2 2 v33∧ax h40 h2 3 v34∧au h40 h2 4 v35∧ae h40 h2 5 v36)∧
 HC PG jt [zl v31 v32 v33 v34 v35 v36,.pointer e39,qF v37 v38,.int .i64 0] ug (fun(e41:(Option Addr)×Bool×Bool) h42=>
 K (e41.1,e41.2.1) h42) h40))) h30))))) h27))))))))
noncomputable def LO:Ann:=.node .nil (.node (.draw (JD 0 7 (.all (.pick 7 (.take 8 (.all (.lastT 9 (.all (.lastT 10 (.done)))))) (.last 9 (.all (.lastT 7 (.take 8 (.all (.lastT 10 (.done))))))))))) (.node (.draw (VI [0,1,3] (.all (.lastT 2 (.all (.lastT 4 (JD 5 7 (.done)))))))) .nil))
theorem LF(x0:Int×Int×Int)(x1:Option Addr)(x2:Option Addr)(x3:ByteArray×ByteArray){K:cQ gm→ad→Prop}{h0:ad}(h:DW x0 x1 x2 x3 K h0):HC PG xY [MF x0,.pointer x1,.pointer x2,Ot x3] gm K h0:=dG LO Tryz.func67 Tryz.call67 rfl rfl (by kernel_rfl) h
def DK(x0:ByteArray)(x1:ByteArray)(K:(Int)→ad→Prop)(h0:ad):Prop:=
 CondP (decide ((x0.size:Int)>(256:Int))) (
 K 2 h0) (
 CondP (decide ((x1.size:Int)>(4096:Int))) (
 K 3 h0) (
 K 0 h0))
theorem Lv(x0:ByteArray)(x1:ByteArray){K:cQ bX→ad→Prop}{h0:ad}(h:DK x0 x1 K h0):HC PG xU (jH x0 x1) bX K h0:=dG .nil Tryz.func68 Tryz.call68 rfl rfl (by kernel_rfl) h
def BB(x0:Option Addr)(x1:Option Addr)(x2:ByteArray)(K:((Option Addr)×Bool)→ad→Prop)(h0:ad):Prop:=
 HC PG p8 [.pointer x1] [.c .ptr] (fun(e1:Option Addr) h2=>
 HC PG mw (DY e1 x0 x2) gm (fun(e3:(Option Addr)×Bool) h4=>
 K (e3.1,e3.2) h4) h2) h0
theorem Jo(x0:Option Addr)(x1:Option Addr)(x2:ByteArray){K:cQ gm→ad→Prop}{h0:ad}(h:BB x0 x1 x2 K h0):HC PG wJ (DY x0 x1 x2) gm K h0:=dG .nil Tryz.func69 Tryz.call69 rfl rfl (by kernel_rfl) h
def BI(x0:Int×Int×Int)(x1:Option Addr)(x2:Option Addr)(x3:ByteArray)(K:((Option Addr)×Bool)→ad→Prop)(h0:ad):Prop:=
 At (hnew h0 (Dm x0) cC) (fun h1=>
 HC PG lB [.pointer x2] [.c .ptr] (fun(e2:Option Addr) h3=>
 ∃v4,ae h3 h0 0 v4∧
 ∃v5,ae h3 h0 1 v5∧
 ∃v6,ae h3 h0 2 v6∧
 ∃v7,ae h3 h0 0 v7∧
 ∃v8,ae h3 h0 1 v8∧
 ∃v9,ae h3 h0 2 v9∧
 HC PG fL [zm v7 v8 v9,.string x3] gC (fun(e10:Int) h11=>
 ((ae h11 h0 0 v4∧ae h11 h0 1 v5∧ae h11 h0 2 v6)∧
 HC PG mA [zl v4 v5 v6 x1 x3 e10,.pointer e2,.int .i64 0] gm (fun(e12:(Option Addr)×Bool) h13=>
 K (e12.1,e12.2) h13) h11)) h3) h1)
noncomputable def Jy:Ann:=.node .nil (.node .nil (.node (.draw (VI [0,1,2,3,4,7] (.all (.lastT 5 (.take 6 (.all (.lastT 8 (JD 9 4 (.done))))))))) .nil))
theorem Jv(x0:Int×Int×Int)(x1:Option Addr)(x2:Option Addr)(x3:ByteArray){K:cQ gm→ad→Prop}{h0:ad}(h:BI x0 x1 x2 x3 K h0):HC PG wP [MF x0,.pointer x1,.pointer x2,.string x3] gm K h0:=dG Jy Tryz.func70 Tryz.call70 rfl rfl (by kernel_rfl) h
def H3(x0:SliceV)(x1:ByteArray)(K:(ByteArray×Bool)→ad→Prop)(h0:ad):Prop:=
 HC PG zP (qJ x0 x1) ja (fun(e1:Int×Bool) h2=>
 CondP (!e1.2) (
 K ((⟨#[]⟩:ByteArray),false) h2) (
 (cj e1.1 x0.len∧∃a3,x0.a=some a3∧
 ∃v4,aD h2 (adr a3 (e1.1.toNat*2)) 1 v4∧
 K (v4,true) h2))) h0
theorem P9(x0:SliceV)(x1:ByteArray){K:cQ lx→ad→Prop}{h0:ad}(h:H3 x0 x1 K h0):HC PG Cr (qJ x0 x1) lx K h0:=dG .nil Tryz.func71 Tryz.call71 rfl rfl (by kernel_rfl) h
def F9(x0:SliceV)(x1:ByteArray)(K:(SliceV)→ad→Prop)(h0:ad):Prop:=
 LoopP (fun I1 (t2:SliceV×Int) h3=>
 CondP (decide (t2.2<(x0.len:Int))) (
 Join (fun(t17:SliceV) h18=>
 I1 (t17,IntKind.wrap .i64 (t2.2+1)) h18) (fun J4=>
 (cj t2.2 x0.len∧∃a5,x0.a=some a5∧
 ∃v6,aD h3 (adr a5 (t2.2.toNat*2)) 0 v6∧
 ∃v7,aD h3 (adr a5 (t2.2.toNat*2)) 1 v7∧
 nv h3 nZ dH (jH v6 v7) (fun h9=>
 ∃v10,au h9 h3 0 v10∧
 CondP (!(v10.toList==x1.toList)) (
 ∃v11,au h9 h3 0 v11∧
 ∃v12,au h9 h3 1 v12∧
 At (hnew h9 (jH v11 v12) dH) (fun h13=>
 ∃xs14,SRow h13 (some (ag h9)) (1*2) xs14∧
 AppP (some nZ) 2 32 dH t2.1.a t2.1.len t2.1.cap 1 xs14 h13 (fun s15 h16=>
 J4 s15 h16))) (
 J4 t2.1 h9))))) (
 K t2.1 h3)) (⟨none,0,0⟩,0) h0
noncomputable def NT:Ann:=.node .nil (.node .nil (.node (.node .nil (.loop [(5,.c .slice),(10,.c (.int .i64))] (.node .nil (.node .nil (.join [(5,.c .slice)] .nil .nil))))) .nil))
theorem NI(x0:SliceV)(x1:ByteArray){K:cQ [.c .slice]→ad→Prop}{h0:ad}(h:F9 x0 x1 K h0):HC PG wL (qJ x0 x1) [.c .slice] K h0:=dG NT Tryz.func72 Tryz.call72 rfl rfl (by kernel_rfl) h
def tR(x0:Option Addr)(K:(ByteArray)→ad→Prop)(h0:ad):Prop:=
 CondP x0.isNone (
 K (⟨#[]⟩:ByteArray) h0) (
 ∃a1,x0=some a1∧
 ∃v2,aD h0 a1 0 v2∧
 K v2 h0)
theorem Ad(x0:Option Addr){K:cQ [.c .str]→ad→Prop}{h0:ad}(h:tR x0 K h0):HC PG dR [.pointer x0] [.c .str] K h0:=dG .nil Tryz.func73 Tryz.call73 rfl rfl (by kernel_rfl) h
def vW(x0:Option Addr)(x1:SliceV)(x2:SliceV)(K:(Unit)→ad→Prop)(h0:ad):Prop:=
 LoopP (fun I1 (t2:SliceV×SliceV) h3=>
 Join (fun(t5:Bool) h6=>
 CondP t5 (
 Join (fun(t12:Bool) h13=>
 CondP t12 (
 Join (fun(t27:Unit) h28=>
 (((0:Int)≤(1:Int)∧(1:Int)≤((t2.1.len:Nat):Int))∧
 Bd (aW t2.1.a ((1:Int).toNat) t2.1.cap 2:Option Addr) (fun a29=>Bd (t2.1.len-((1:Int).toNat):Nat) (fun n30=>Bd (t2.1.cap-((1:Int).toNat):Nat) (fun n31=>
 I1 (⟨a29,n30,n31⟩,t2.2) h28))))) (fun J14=>
 ∃a15,x0=some a15∧
 ∃v16:SliceV,cd h13 a15 3 v16∧
 (cj 0 t2.1.len∧∃a17,t2.1.a=some a17∧
 ∃v18,aD h13 (adr a17 ((0:Int).toNat*2)) 0 v18∧
 (cj 0 t2.1.len∧∃a19,t2.1.a=some a19∧
 ∃v20,aD h13 (adr a19 ((0:Int).toNat*2)) 1 v20∧
 At (hnew h13 (jJ v18 v20 (⟨#[]⟩:ByteArray) true false) bT) (fun h21=>
 (cd h21 a15 3 v16∧
 ∃xs22,SRow h21 (some (ag h13)) (1*5) xs22∧
 AppP (some O2) 5 56 bT v16.a v16.len v16.cap 1 xs22 h21 (fun s23 h24=>
 ∃a25,x0=some a25∧
 (dU h24 (adr a25 3) (.slice s23.a s23.len s23.cap) (fun h26=>
 J14 () h26))))))))) (
 Join (fun(t37:Bool) h38=>
 CondP t37 (
 Join (fun(t52:Unit) h53=>
 (((0:Int)≤(1:Int)∧(1:Int)≤((t2.2.len:Nat):Int))∧
 Bd (aW t2.2.a ((1:Int).toNat) t2.2.cap 2:Option Addr) (fun a54=>Bd (t2.2.len-((1:Int).toNat):Nat) (fun n55=>Bd (t2.2.cap-((1:Int).toNat):Nat) (fun n56=>
 I1 (t2.1,⟨a54,n55,n56⟩) h53))))) (fun J39=>
 ∃a40,x0=some a40∧
 ∃v41:SliceV,cd h38 a40 3 v41∧
 (cj 0 t2.2.len∧∃a42,t2.2.a=some a42∧
 ∃v43,aD h38 (adr a42 ((0:Int).toNat*2)) 0 v43∧
 (cj 0 t2.2.len∧∃a44,t2.2.a=some a44∧
 ∃v45,aD h38 (adr a44 ((0:Int).toNat*2)) 1 v45∧
 At (hnew h38 (jJ v43 (⟨#[]⟩:ByteArray) v45 false true) bT) (fun h46=>
 (cd h46 a40 3 v41∧
 ∃xs47,SRow h46 (some (ag h38)) (1*5) xs47∧
 AppP (some O2) 5 56 bT v41.a v41.len v41.cap 1 xs47 h46 (fun s48 h49=>
 ∃a50,x0=some a50∧
 (dU h49 (adr a50 3) (.slice s48.a s48.len s48.cap) (fun h51=>
 J39 () h51))))))))) (
 Join (fun(t76:Unit) h77=>
 (((0:Int)≤(1:Int)∧(1:Int)≤((t2.1.len:Nat):Int))∧
 Bd (aW t2.1.a ((1:Int).toNat) t2.1.cap 2:Option Addr) (fun a78=>Bd (t2.1.len-((1:Int).toNat):Nat) (fun n79=>Bd (t2.1.cap-((1:Int).toNat):Nat) (fun n80=>
 (((0:Int)≤(1:Int)∧(1:Int)≤((t2.2.len:Nat):Int))∧
 Bd (aW t2.2.a ((1:Int).toNat) t2.2.cap 2:Option Addr) (fun a81=>Bd (t2.2.len-((1:Int).toNat):Nat) (fun n82=>Bd (t2.2.cap-((1:Int).toNat):Nat) (fun n83=>
 I1 (⟨a78,n79,n80⟩,⟨a81,n82,n83⟩) h77))))))))) (fun J57=>
 (cj 0 t2.1.len∧∃a58,t2.1.a=some a58∧
 ∃v59,aD h38 (adr a58 ((0:Int).toNat*2)) 1 v59∧
 (cj 0 t2.2.len∧∃a60,t2.2.a=some a60∧
 ∃v61,aD h38 (adr a60 ((0:Int).toNat*2)) 1 v61∧
 CondP (!(v59.toList==v61.toList)) (
 ∃a62,x0=some a62∧
 ∃v63:SliceV,cd h38 a62 3 v63∧
 (cj 0 t2.1.len∧∃a64,t2.1.a=some a64∧
 ∃v65,aD h38 (adr a64 ((0:Int).toNat*2)) 0 v65∧
 (cj 0 t2.1.len∧∃a66,t2.1.a=some a66∧
 ∃v67,aD h38 (adr a66 ((0:Int).toNat*2)) 1 v67∧
 (cj 0 t2.2.len∧∃a68,t2.2.a=some a68∧
 ∃v69,aD h38 (adr a68 ((0:Int).toNat*2)) 1 v69∧
 At (hnew h38 (jJ v65 v67 v69 true true) bT) (fun h70=>
 (cd h70 a62 3 v63∧
 ∃xs71,SRow h70 (some (ag h38)) (1*5) xs71∧
 AppP (some O2) 5 56 bT v63.a v63.len v63.cap 1 xs71 h70 (fun s72 h73=>
 ∃a74,x0=some a74∧
 (dU h73 (adr a74 3) (.slice s72.a s72.len s72.cap) (fun h75=>
 J57 () h75))))))))) (
 J57 () h38)))))) (fun J32=>
 CondP ((t2.1.len:Int)==(0:Int)) (
 J32 true h13) (
 (cj 0 t2.2.len∧∃a33,t2.2.a=some a33∧
 ∃v34,aD h13 (adr a33 ((0:Int).toNat*2)) 0 v34∧
 (cj 0 t2.1.len∧∃a35,t2.1.a=some a35∧
 ∃v36,aD h13 (adr a35 ((0:Int).toNat*2)) 0 v36∧
 J32 (Op.bytesLess v34.toList v36.toList) h13)))))) (fun J7=>
 CondP ((t2.2.len:Int)==(0:Int)) (
 J7 true h6) (
 CondP (decide ((t2.1.len:Int)>(0:Int))) (
 (cj 0 t2.1.len∧∃a8,t2.1.a=some a8∧
 ∃v9,aD h6 (adr a8 ((0:Int).toNat*2)) 0 v9∧
 (cj 0 t2.2.len∧∃a10,t2.2.a=some a10∧
 ∃v11,aD h6 (adr a10 ((0:Int).toNat*2)) 0 v11∧
 J7 (Op.bytesLess v9.toList v11.toList) h6))) (
 J7 false h6)))) (
 K () h6)) (fun J4=>
 CondP (decide ((t2.1.len:Int)>(0:Int))) (
 J4 true h3) (
 J4 (decide ((t2.2.len:Int)>(0:Int))) h3))) (x1,x2) h0
noncomputable def CU:Ann:=.loop [(1,.c .slice),(2,.c .slice)] (.node (.join [(13,.c .bool)] .nil .nil) (.join [(49,.c .bool)] (.draw (JD 0 4 (.split 53 (JD 4 16 (.done)) (JD 4 4 (.split 57 (JD 8 12 (.done)) (JD 8 12 (.done))))))) (.node (.join [] (.draw (JD 0 14 (.all (.lastT 14 (.all (.lastT 15 (.take 16 (.take 17 (.all (.lastT 18 (.done))))))))))) .nil) (.join [(89,.c .bool)] (.draw (JD 0 4 (.split 93 (JD 4 11 (.done)) (JD 4 11 (.done))))) (.node (.join [] (.draw (JD 0 14 (.all (.lastT 14 (.all (.lastT 15 (.take 16 (.take 17 (.all (.lastT 18 (.done))))))))))) .nil) (.join [] (.node (.draw (JD 0 9 (.done))) (.node (.draw (JD 0 18 (.all (.lastT 18 (.all (.lastT 19 (.take 20 (.take 21 (.all (.lastT 22 (.done))))))))))) .nil)) (.draw (JD 0 6 (.done)))))))))
theorem CO(x0:Option Addr)(x1:SliceV)(x2:SliceV){K:cQ []→ad→Prop}{h0:ad}(h:vW x0 x1 x2 K h0):HC PG iw (Ib x0 x1 x2) [] K h0:=dG CU Tryz.func74 Tryz.call74 rfl rfl (by kernel_rfl) h
def yj(x0:Option Addr)(x1:ByteArray)(K:(SliceV)→ad→Prop)(h0:ad):Prop:=
 CondP x0.isNone (
 K ⟨none,0,0⟩ h0) (
 HC PG dR [.pointer x0] [.c .str] (fun(e1:ByteArray) h2=>
 (((x1.size+e1.size:Nat):Int)≤9223372036854775807∧
 Join (fun(t10:SliceV) h11=>
 HC PG j4 [.pointer x0] [.c .slice] (fun(e12:SliceV) h13=>
 LoopP (fun I14 (t15:SliceV×Int) h16=>
 CondP (decide (t15.2<(e12.len:Int))) (
 Join (fun(t25:SliceV) h26=>
 I14 (t25,IntKind.wrap .i64 (t15.2+1)) h26) (fun J17=>
 (cj t15.2 e12.len∧∃a18,e12.a=some a18∧
 ∃v19,ay h16 a18 (t15.2.toNat*1) (.pointer v19)∧
 HC PG j9 (xu v19 (x1++e1)) [.c .slice] (fun(e20:SliceV) h21=>
 ∃xs22,SRow h21 e20.a (e20.len*2) xs22∧
 AppP (some nZ) 2 32 af t15.1.a t15.1.len t15.1.cap e20.len xs22 h21 (fun s23 h24=>
 J17 s23 h24)) h16))) (
 K t15.1 h16)) (t10,0) h13) h11) (fun J3=>
 HC PG is [.pointer x0] lx (fun(e4:ByteArray×Bool) h5=>
 CondP e4.2 (
 At (hnew h5 (jH (x1++e1) e4.1) af) (fun h6=>
 ∃xs7,SRow h6 (some (ag h5)) (1*2) xs7∧
 AppP (some nZ) 2 32 af none 0 0 1 xs7 h6 (fun s8 h9=>
 J3 s8 h9))) (
 J3 ⟨none,0,0⟩ h5)) h2))) h0)
noncomputable def LN:Ann:=.node .nil (.node .nil (.node .nil (.node .nil (.join [(6,.c .slice)] .nil (.node (.node .nil (.loop [(6,.c .slice),(32,.c (.int .i64))] (.node .nil (.node .nil (.join [(6,.c .slice)] .nil .nil))))) .nil)))))
theorem DF(x0:Option Addr)(x1:ByteArray){K:cQ [.c .slice]→ad→Prop}{h0:ad}(h:yj x0 x1 K h0):HC PG j9 (xu x0 x1) [.c .slice] K h0:=dG LN Tryz.func75 Tryz.call75 rfl rfl (by kernel_rfl) h
def Gd(x0:Option Addr)(x1:ByteArray)(K:(SliceV)→ad→Prop)(h0:ad):Prop:=
 HC PG is [.pointer x0] lx (fun(e1:ByteArray×Bool) h2=>
 CondP (!e1.2) (
 K ⟨none,0,0⟩ h2) (
 At (hnew h2 (jH x1 e1.1) af) (fun h3=>
 K ⟨some (ag h2),1,1⟩ h3))) h0
theorem NM(x0:Option Addr)(x1:ByteArray){K:cQ [.c .slice]→ad→Prop}{h0:ad}(h:Gd x0 x1 K h0):HC PG wO (xu x0 x1) [.c .slice] K h0:=dG .nil Tryz.func76 Tryz.call76 rfl rfl (by kernel_rfl) h
def uG(x0:Option Addr)(K:(SliceV)→ad→Prop)(h0:ad):Prop:=
 CondP x0.isNone (
 K ⟨none,0,0⟩ h0) (
 ∃a1,x0=some a1∧
 ∃v2:SliceV,cd h0 a1 3 v2∧
 HC PG dh [.slice v2.a v2.len v2.cap] [.c .slice] (fun(e3:SliceV) h4=>
 K e3 h4) h0)
theorem Bk(x0:Option Addr){K:cQ [.c .slice]→ad→Prop}{h0:ad}(h:uG x0 K h0):HC PG j4 [.pointer x0] [.c .slice] K h0:=dG .nil Tryz.func77 Tryz.call77 rfl rfl (by kernel_rfl) h
def rT(x0:Option Addr)(K:(Bool)→ad→Prop)(h0:ad):Prop:=
 CondP (!(x0.isNone)) (
 ∃a1,x0=some a1∧
 ∃v2,bI h0 a1 4 v2∧
 K v2 h0) (
 K false h0)
theorem yc(x0:Option Addr){K:cQ [.c .bool]→ad→Prop}{h0:ad}(h:rT x0 K h0):HC PG dL [.pointer x0] [.c .bool] K h0:=dG .nil Tryz.func78 Tryz.call78 rfl rfl (by kernel_rfl) h
def ql(x0:Option Addr)(K:(SliceV)→ad→Prop)(h0:ad):Prop:=
 CondP x0.isNone (
 K ⟨none,0,0⟩ h0) (
 ∃a1,x0=some a1∧
 ∃v2:SliceV,cd h0 (adr a1 0) 2 v2∧
 HC PG cG [.slice v2.a v2.len v2.cap] [.c .slice] (fun(e3:SliceV) h4=>
 K e3 h4) h0)
theorem ut(x0:Option Addr){K:cQ [.c .slice]→ad→Prop}{h0:ad}(h:ql x0 K h0):HC PG eW [.pointer x0] [.c .slice] K h0:=dG .nil Tryz.func79 Tryz.call79 rfl rfl (by kernel_rfl) h
def xj(x0:Option Addr)(x1:Int)(K:((Option Addr)×Bool)→ad→Prop)(h0:ad):Prop:=
 HC PG j7 [.pointer x0] kQ (fun(e1:Int) h2=>
 HC PG gq (pe e1 x1) [.c .bool] (fun(e3:Bool) h4=>
 CondP (!e3) (
 K (none,false) h4) (
 ∃a5,x0=some a5∧
 ∃v6:SliceV,cd h4 (adr a5 0) 3 v6∧
 ∃a7,x0=some a7∧
 ∃v8,iR h4 (adr a7 0) 1 v8∧
 HC PG dy (pe v8 x1) bX (fun(e9:Int) h10=>
 (cd h10 (adr a5 0) 3 v6∧
 (cj e9 v6.len∧∃a11,v6.a=some a11∧
 ∃v12,ay h10 a11 (e9.toNat*1) (.pointer v12)∧
 K (v12,true) h10))) h4)) h2) h0
theorem Ea(x0:Option Addr)(x1:Int){K:cQ gm→ad→Prop}{h0:ad}(h:xj x0 x1 K h0):HC PG g5 (ll x0 x1) gm K h0:=dG .nil Tryz.func80 Tryz.call80 rfl rfl (by kernel_rfl) h
def DT(x0:Option Addr)(x1:Int)(K:(SliceV)→ad→Prop)(h0:ad):Prop:=
 HC PG js (ll x0 x1) pZ (fun(e1:(ByteArray×ByteArray)×Bool) h2=>
 nv h2 nZ af (vp e1.1) (fun h4=>
 CondP e1.2 (
 ∃v5,au h4 h2 0 v5∧
 ∃v6,au h4 h2 1 v6∧
 At (hnew h4 (jH v5 v6) af) (fun h7=>
 K ⟨some (ag h4),1,1⟩ h7)) (
 HC PG g5 (ll x0 x1) gm (fun(e8:(Option Addr)×Bool) h9=>
 HC PG rq [.pointer e8.1] [.c .slice] (fun(e10:SliceV) h11=>
 K e10 h11) h9) h4))) h0
theorem LC(x0:Option Addr)(x1:Int){K:cQ [.c .slice]→ad→Prop}{h0:ad}(h:DT x0 x1 K h0):HC PG uk (ll x0 x1) [.c .slice] K h0:=dG .nil Tryz.func81 Tryz.call81 rfl rfl (by kernel_rfl) h
def vh(K:(Option Addr)→ad→Prop)(h0:ad):Prop:=
 HC PG nG [] [.c .ptr] (fun(e1:Option Addr) h2=>
 K e1 h2) h0
theorem yZ{K:cQ [.c .ptr]→ad→Prop}{h0:ad}(h:vh K h0):HC PG oG [] [.c .ptr] K h0:=dG .nil Tryz.func82 Tryz.call82 rfl rfl (by kernel_rfl) h
def fY(x0:SliceV)(x1:Int)(x2:Int)(x3:Int)(x4:Value)(K:(Unit)→ad→Prop)(h0:ad):Prop:=
 LoopP (fun I1 (t2:Int×Int×Int×Bool×Bool) h3=>
 CondP (decide ((IntKind.wrap .i64 (t2.2.1-t2.1))≤(12:Int))) (
 HC PG dx [.slice x0.a x0.len x0.cap,.int .i64 t2.1,.int .i64 t2.2.1,x4] [] (fun(e4:Unit) h5=>
 K () h5) h3) (
 CondP (t2.2.2.1==(0:Int)) (
 HC PG fJ [.slice x0.a x0.len x0.cap,.int .i64 t2.1,.int .i64 t2.2.1,x4] [] (fun(e6:Unit) h7=>
 K () h7) h3) (
 Join (fun(t11:Int) h12=>
 HC PG eX [.slice x0.a x0.len x0.cap,.int .i64 t2.1,.int .i64 t2.2.1,x4] xI (fun(e13:Int×Int) h14=>
 Join (fun(t19:Int×Int) h20=>
 Join (fun(t27:Unit) h28=>
 Join (fun(t44:Bool) h45=>
 CondP t44 (
 HC PG eD [.slice x0.a x0.len x0.cap,.int .i64 t2.1,.int .i64 t2.2.1,.int .i64 t19.1,x4] bX (fun(e46:Int) h47=>
 I1 (e46,t2.2.1,t11,t2.2.2.2.1,t2.2.2.2.2) h47) h45) (
 HC PG fu [.slice x0.a x0.len x0.cap,.int .i64 t2.1,.int .i64 t2.2.1,.int .i64 t19.1,x4] ja (fun(e48:Int×Bool) h49=>
 ((8:Int)≠0∧
 CondP (decide ((IntKind.wrap .i64 (e48.1-t2.1))<(IntKind.wrap .i64 (t2.2.1-e48.1)))) (
 HC PG dt [.slice x0.a x0.len x0.cap,.int .i64 t2.1,.int .i64 e48.1,.int .i64 t11,x4] [] (fun(e50:Unit) h51=>
 I1 (IntKind.wrap .i64 (e48.1+1),t2.2.1,t11,decide ((IntKind.wrap .i64 (e48.1-t2.1))≥(IntKind.wrap .i64 (nn (IntKind.wrap .i64 (t2.2.1-t2.1)) 8))),e48.2) h51) h49) (
 HC PG dt [.slice x0.a x0.len x0.cap,.int .i64 (IntKind.wrap .i64 (e48.1+1)),.int .i64 t2.2.1,.int .i64 t11,x4] [] (fun(e52:Unit) h53=>
 I1 (t2.1,e48.1,t11,decide ((IntKind.wrap .i64 (t2.2.1-e48.1))≥(IntKind.wrap .i64 (nn (IntKind.wrap .i64 (t2.2.1-t2.1)) 8))),e48.2) h53) h49))) h45)) (fun J29=>
 CondP (decide (t2.1>(0:Int))) (
 (cj (IntKind.wrap .i64 (t2.1-1)) x0.len∧∃a30,x0.a=some a30∧
 ∃v31,ay h28 (adr a30 ((IntKind.wrap .i64 (t2.1-1)).toNat*5)) 0 (.string v31)∧
 ∃v32,ay h28 (adr a30 ((IntKind.wrap .i64 (t2.1-1)).toNat*5)) 1 (.string v32)∧
 ∃v33,ay h28 (adr a30 ((IntKind.wrap .i64 (t2.1-1)).toNat*5)) 2 (.string v33)∧
 ∃v34,ay h28 (adr a30 ((IntKind.wrap .i64 (t2.1-1)).toNat*5)) 3 (.bool v34)∧
 ∃v35,ay h28 (adr a30 ((IntKind.wrap .i64 (t2.1-1)).toNat*5)) 4 (.bool v35)∧
 (cj t19.1 x0.len∧∃a36,x0.a=some a36∧
 ∃v37,aD h28 (adr a36 (t19.1.toNat*5)) 0 v37∧
 ∃v38,aD h28 (adr a36 (t19.1.toNat*5)) 1 v38∧
 ∃v39,aD h28 (adr a36 (t19.1.toNat*5)) 2 v39∧
 ∃v40,bI h28 (adr a36 (t19.1.toNat*5)) 3 v40∧
 ∃v41,bI h28 (adr a36 (t19.1.toNat*5)) 4 v41∧
 HV PG x4 [ma v31 v32 v33 v34 v35,ma v37 v38 v39 v40 v41] bX (fun(e42:Int) h43=>
 J29 (!(decide (e42<(0:Int)))) h43) h28))) (
 J29 false h28))) (fun J21=>
 Join (fun(t23:Bool) h24=>
 CondP t23 (
 HC PG dI [.slice x0.a x0.len x0.cap,.int .i64 t2.1,.int .i64 t2.2.1,x4] [.c .bool] (fun(e25:Bool) h26=>
 CondP e25 (
 K () h26) (
 J21 () h26)) h24) (
 J21 () h24)) (fun J22=>
 CondP t2.2.2.2.1 (
 CondP t2.2.2.2.2 (
 J22 (t19.2==(1:Int)) h20) (
 J22 false h20)) (
 J22 false h20)))) (fun J15=>
 CondP (e13.2==(2:Int)) (
 HC PG eR [.slice x0.a x0.len x0.cap,.int .i64 t2.1,.int .i64 t2.2.1,x4] [] (fun(e16:Unit) h17=>
 Bd (IntKind.wrap .i64 ((IntKind.wrap .i64 (t2.2.1-1))-(IntKind.wrap .i64 (e13.1-t2.1))):Int) (fun n18=>
 J15 (n18,1) h17)) h14) (
 J15 (e13.1,e13.2) h14))) h12) (fun J8=>
 CondP (!t2.2.2.2.1) (
 HC PG eM [.slice x0.a x0.len x0.cap,.int .i64 t2.1,.int .i64 t2.2.1,x4] [] (fun(e9:Unit) h10=>
 J8 (IntKind.wrap .i64 (t2.2.2.1-1)) h10) h3) (
 J8 t2.2.2.1 h3))))) (x1,x2,x3,true,true) h0
noncomputable def oQ:Ann:=.node .nil (.node .nil (.loop [(1,.c (.int .i64)),(2,.c (.int .i64)),(3,.c (.int .i64)),(10,.c .bool),(11,.c .bool)] (.node .nil (.node .nil (.node .nil (.join [(3,.c (.int .i64))] .nil (.node .nil (.join [(13,.c (.int .i64)),(14,.c (.int .i64))] .nil (.join [] (.join [(75,.c .bool)] .nil .nil) (.node (.join [(97,.c .bool)] .nil .nil) .nil))))))))))
theorem jm(x0:SliceV)(x1:Int)(x2:Int)(x3:Int)(x4:Value){K:cQ []→ad→Prop}{h0:ad}(h:fY x0 x1 x2 x3 x4 K h0):HC PG dt [.slice x0.a x0.len x0.cap,.int .i64 x1,.int .i64 x2,.int .i64 x3,x4] [] K h0:=dG oQ Tryz.func83 Tryz.call83 rfl rfl (by kernel_rfl) h
def xk(x0:Int)(K:(Int)→ad→Prop)(h0:ad):Prop:=
 HC PG qd [.int .u64 x0] bX (fun(e3:Int) h4=>
 K e3 h4) h0
theorem Eb(x0:Int){K:cQ bX→ad→Prop}{h0:ad}(h:xk x0 K h0):HC PG oX [.int .u64 x0] bX K h0:=dG .nil Tryz.func84 Tryz.call84 rfl rfl (by kernel_rfl) h
def xm(x0:ByteArray)(K:(Bool)→ad→Prop)(h0:ad):Prop:=
 K (!(x0.toList==x0.toList)) h0
theorem Ec(x0:ByteArray){K:cQ [.c .bool]→ad→Prop}{h0:ad}(h:xm x0 K h0):HC PG oY [.string x0] [.c .bool] K h0:=dG .nil Tryz.func85 Tryz.call85 rfl rfl (by kernel_rfl) h
def F7(x0:ByteArray)(x1:ByteArray)(K:(Bool)→ad→Prop)(h0:ad):Prop:=
 LoopP (fun I1 (t2:Int) h3=>
 Join (fun(t5:Bool) h6=>
 CondP t5 (
 ∃b7,(0:Int)≤t2∧x0[t2.toNat]? =some b7∧
 ∃b8,(0:Int)≤t2∧x1[t2.toNat]? =some b8∧
 CondP ((b7.toNat:Int) !=(b8.toNat:Int)) (
 ∃b9,(0:Int)≤t2∧x0[t2.toNat]? =some b9∧
 ∃b10,(0:Int)≤t2∧x1[t2.toNat]? =some b10∧
 K (decide ((b9.toNat:Int)<(b10.toNat:Int))) h6) (
 I1 (IntKind.wrap .i64 (t2+1)) h6)) (
 K (decide ((x0.size:Int)<(x1.size:Int))) h6)) (fun J4=>
 CondP (decide (t2<(x0.size:Int))) (
 J4 (decide (t2<(x1.size:Int))) h3) (
 J4 false h3))) 0 h0
noncomputable def NR:Ann:=.node .nil (.node (.node .nil (.loop [(5,.c (.int .i64))] (.node (.join [(15,.c .bool)] .nil .nil) .nil))) .nil)
theorem NG(x0:ByteArray)(x1:ByteArray){K:cQ [.c .bool]→ad→Prop}{h0:ad}(h:F7 x0 x1 K h0):HC PG wK (jH x0 x1) [.c .bool] K h0:=dG NR Tryz.func87 Tryz.call87 rfl rfl (by kernel_rfl) h
def y8(x0:Option Addr)(K:(SliceV)→ad→Prop)(h0:ad):Prop:=
 CondP x0.isNone (
 K ⟨none,0,0⟩ h0) (
 HC PG kF [.pointer x0,.slice none 0 0] [.c .slice] (fun(e1:SliceV) h2=>
 K e1 h2) h0)
theorem GK(x0:Option Addr){K:cQ [.c .slice]→ad→Prop}{h0:ad}(h:y8 x0 K h0):HC PG uZ [.pointer x0] [.c .slice] K h0:=dG .nil Tryz.func89 Tryz.call89 rfl rfl (by kernel_rfl) h
def F5(x0:Option Addr)(K:(SliceV)→ad→Prop)(h0:ad):Prop:=
 CondP x0.isNone (
 K ⟨none,0,0⟩ h0) (
 HC PG ui [.slice none 0 0,.pointer x0,.int .i64 0] [.c .slice] (fun(e1:SliceV) h2=>
 K e1 h2) h0)
theorem ND(x0:Option Addr){K:cQ [.c .slice]→ad→Prop}{h0:ad}(h:F5 x0 K h0):HC PG zN [.pointer x0] [.c .slice] K h0:=dG .nil Tryz.func90 Tryz.call90 rfl rfl (by kernel_rfl) h
def BA(x0:Option Addr)(K:(Option Addr)→ad→Prop)(h0:ad):Prop:=
 CondP x0.isNone (
 HC PG ru [] [.c .ptr] (fun(e1:Option Addr) h2=>
 K e1 h2) h0) (
 K x0 h0)
theorem Jn(x0:Option Addr){K:cQ [.c .ptr]→ad→Prop}{h0:ad}(h:BA x0 K h0):HC PG p8 [.pointer x0] [.c .ptr] K h0:=dG .nil Tryz.func91 Tryz.call91 rfl rfl (by kernel_rfl) h
def uE(x0:Option Addr)(x1:Int)(K:(Int×Bool)→ad→Prop)(h0:ad):Prop:=
 ∃a1,x0=some a1∧
 ∃v2:SliceV,cd h0 a1 3 v2∧
 HC PG ed [.slice v2.a v2.len v2.cap,.int .u8 x1,.func (.func oe) #[] #[]] ja (fun(e3:Int×Bool) h4=>
 K (e3.1,e3.2) h4) h0
theorem Bi(x0:Option Addr)(x1:Int){K:cQ ja→ad→Prop}{h0:ad}(h:uE x0 x1 K h0):HC PG jZ (ED x0 x1) ja K h0:=dG .nil Tryz.func92 Tryz.call92 rfl rfl (by kernel_rfl) h
def F1(x0:ByteArray)(x1:ByteArray)(K:(ByteArray×Bool)→ad→Prop)(h0:ad):Prop:=
 HC PG uX (jH x0 x1) [.c .bool] (fun(e1:Bool) h2=>
 CondP (!e1) (
 K ((⟨#[]⟩:ByteArray),false) h2) (
 (((0:Int)≤(x1.size:Int)∧(x1.size:Int)≤((x0.size:Nat):Int))∧
 K (x0.extract ((x1.size:Int).toNat) x0.size,true) h2))) h0
theorem NA(x0:ByteArray)(x1:ByteArray){K:cQ lx→ad→Prop}{h0:ad}(h:F1 x0 x1 K h0):HC PG wG (jH x0 x1) lx K h0:=dG .nil Tryz.func93 Tryz.call93 rfl rfl (by kernel_rfl) h
def px(x0:Option Addr)(K:(ByteArray×Bool)→ad→Prop)(h0:ad):Prop:=
 CondP x0.isNone (
 K ((⟨#[]⟩:ByteArray),false) h0) (
 ∃a1,x0=some a1∧
 ∃v2,aD h0 a1 2 v2∧
 ∃a3,x0=some a3∧
 ∃v4,bI h0 a3 1 v4∧
 K (v2,v4) h0)
theorem tI(x0:Option Addr){K:cQ lx→ad→Prop}{h0:ad}(h:px x0 K h0):HC PG is [.pointer x0] lx K h0:=dG .nil Tryz.func94 Tryz.call94 rfl rfl (by kernel_rfl) h
def uB(x0:Int×Int×Int)(x1:ByteArray)(K:(Int)→ad→Prop)(h0:ad):Prop:=
 At (hnew h0 (Dm x0) cC) (fun h1=>
 ∃v2,aH h1 (adr (ag h0) 0) 0 v2∧
 ∃v3,aH h1 (adr (ag h0) 0) 1 v3∧
 ∃v4,ae h1 h0 2 v4∧
 HC PG Co [U0 v2 v3,.string x1] gC (fun(e5:Int) h6=>
 (ae h6 h0 2 v4∧
 Bd (IntKind.wrap .u64 (ar (IntKind.bits .u64) e5&&&ar (IntKind.bits .u64) v4).toNat:Int) (fun n7=>
 K n7 h6))) h1)
theorem Bg(x0:Int×Int×Int)(x1:ByteArray){K:cQ gC→ad→Prop}{h0:ad}(h:uB x0 x1 K h0):HC PG fL [MF x0,.string x1] gC K h0:=dG .nil Tryz.func95 Tryz.call95 rfl rfl (by kernel_rfl) h
def BH(x0:Option Addr)(K:(Option Addr)→ad→Prop)(h0:ad):Prop:=
 CondP x0.isNone (
 HC PG oG [] [.c .ptr] (fun(e1:Option Addr) h2=>
 K e1 h2) h0) (
 K x0 h0)
theorem Ju(x0:Option Addr){K:cQ [.c .ptr]→ad→Prop}{h0:ad}(h:BH x0 K h0):HC PG lB [.pointer x0] [.c .ptr] K h0:=dG .nil Tryz.func96 Tryz.call96 rfl rfl (by kernel_rfl) h
def Gf(x0:Option Addr)(x1:ByteArray)(K:(ByteArray×Bool)→ad→Prop)(h0:ad):Prop:=
 HC PG eW [.pointer x0] [.c .slice] (fun(e1:SliceV) h2=>
 HC PG rM (qJ e1 x1) ja (fun(e3:Int×Bool) h4=>
 CondP (!e3.2) (
 K ((⟨#[]⟩:ByteArray),false) h4) (
 (cj e3.1 e1.len∧∃a5,e1.a=some a5∧
 ∃v6,aD h4 (adr a5 (e3.1.toNat*2)) 1 v6∧
 K (v6,true) h4))) h2) h0
theorem NO(x0:Option Addr)(x1:ByteArray){K:cQ lx→ad→Prop}{h0:ad}(h:Gf x0 x1 K h0):HC PG qZ (xu x0 x1) lx K h0:=dG .nil Tryz.func97 Tryz.call97 rfl rfl (by kernel_rfl) h
def Ge(x0:Int)(x1:Int)(K:(Int)→ad→Prop)(h0:ad):Prop:=
 Join (fun(t2:Bool) h3=>
 CondP t2 (
 K 0 h3) (
 ((0:Int)≤(IntKind.wrap .i64 (5*x1))∧
 Bd (dT x0 (2^(min (IntKind.wrap .i64 (5*x1):Int).toNat (IntKind.bits .u64))):Int) (fun n4=>
 Bd (IntKind.wrap .u64 (ar (IntKind.bits .u64) n4&&&ar (IntKind.bits .u64) 31).toNat:Int) (fun n5=>
 K (IntKind.wrap .i64 n5) h3))))) (fun J1=>
 CondP (decide (x1<(0:Int))) (
 J1 true h0) (
 J1 (decide (x1≥(13:Int))) h0))
noncomputable def NW:Ann:=.node .nil (.node (.join [(10,.c .bool)] .nil .nil) .nil)
theorem NN(x0:Int)(x1:Int){K:cQ bX→ad→Prop}{h0:ad}(h:Ge x0 x1 K h0):HC PG lA (sS x0 x1) bX K h0:=dG NW Tryz.func98 Tryz.call98 rfl rfl (by kernel_rfl) h
def vT(x0:Option Addr)(x1:Int)(K:((ByteArray×ByteArray)×Bool)→ad→Prop)(h0:ad):Prop:=
 At (hnew h0 nZ af) (fun h1=>
 HC PG nF [.pointer x0] kQ (fun(e2:Int) h3=>
 HC PG gq (pe e2 x1) [.c .bool] (fun(e4:Bool) h5=>
 CondP (!e4) (
 (cp h5 h0 nZ (fun h6=>
 ∃v7,au h6 h0 0 v7∧
 ∃v8,au h6 h0 1 v8∧
 K ((v7,v8),false) h6))) (
 ∃a9,x0=some a9∧
 ∃v10:SliceV,cd h5 (adr a9 0) 2 v10∧
 ∃a11,x0=some a11∧
 ∃v12,iR h5 (adr a11 0) 0 v12∧
 HC PG dy (pe v12 x1) bX (fun(e13:Int) h14=>
 (cd h14 (adr a9 0) 2 v10∧
 (cj e13 v10.len∧∃a15,v10.a=some a15∧
 ∃v16,aD h14 (adr a15 (e13.toNat*2)) 0 v16∧
 ∃v17,aD h14 (adr a15 (e13.toNat*2)) 1 v17∧
 (cp h14 h0 (jH v16 v17) (fun h18=>
 ∃v19,au h18 h0 0 v19∧
 ∃v20,au h18 h0 1 v20∧
 K ((v19,v20),true) h18))))) h5)) h3) h1)
theorem CL(x0:Option Addr)(x1:Int){K:cQ pZ→ad→Prop}{h0:ad}(h:vT x0 x1 K h0):HC PG js (ll x0 x1) pZ K h0:=dG .nil Tryz.func99 Tryz.call99 rfl rfl (by kernel_rfl) h
def y3(x0:Option Addr)(K:(SliceV)→ad→Prop)(h0:ad):Prop:=
 HC PG zM [.pointer x0] [.c .raw] (fun(e1:Value) h2=>
 HC PG jy [e1] [.c .slice] (fun(e3:SliceV) h4=>
 HC PG oE [.slice e3.a e3.len e3.cap] [.c .slice] (fun(e5:SliceV) h6=>
 K e5 h6) h4) h2) h0
theorem GF(x0:Option Addr){K:cQ [.c .slice]→ad→Prop}{h0:ad}(h:y3 x0 K h0):HC PG rq [.pointer x0] [.c .slice] K h0:=dG .nil Tryz.func102 Tryz.call102 rfl rfl (by kernel_rfl) h
def H4(x0:Int×Int×Int)(K:(Int×Int×Int)→ad→Prop)(h0:ad):Prop:=
 At (hnew h0 (Dm x0) cC) (fun h1=>
 At (hnew h1 Vy Av) (fun h2=>
 ∃v3,aH h2 (adr (ag h0) 0) 0 v3∧
 ∃v4,aH h2 (adr (ag h0) 0) 1 v4∧
 ∃v5,ae h2 h0 2 v5∧
 (cp h2 h1 (VB v3 v4 v5) (fun h6=>
 ∃v7,ae h6 h1 0 v7∧
 ∃v8,ae h6 h1 1 v8∧
 ∃v9,ae h6 h1 2 v9∧
 K (v7,v8,v9) h6))))
theorem Qa(x0:Int×Int×Int){K:cQ KP→ad→Prop}{h0:ad}(h:H4 x0 K h0):HC PG Cs [MF x0] KP K h0:=dG .nil Tryz.func103 Tryz.call103 rfl rfl (by kernel_rfl) h
def y9(K:(Option Addr)→ad→Prop)(h0:ad):Prop:=
 At (hnew h0 JG cf) (fun h1=>
 K (some (ag h0)) h1)
theorem GL{K:cQ [.c .ptr]→ad→Prop}{h0:ad}(h:y9 K h0):HC PG ru [] [.c .ptr] K h0:=dG .nil Tryz.func104 Tryz.call104 rfl rfl (by kernel_rfl) h
def zd(x0:SliceV)(K:(SliceV)→ad→Prop)(h0:ad):Prop:=
 HC PG cG [.slice x0.a x0.len x0.cap] [.c .slice] (fun(e1:SliceV) h2=>
 HC PG cY [.slice e1.a e1.len e1.cap,.func (.func r9) #[] #[]] [] (fun(e3:Unit) h4=>
 LoopP (fun I5 (t6:Int×Int) h7=>
 CondP (decide (t6.2<(e1.len:Int))) (
 Join (fun(t24:Int) h25=>
 I5 (t24,IntKind.wrap .i64 (t6.2+1)) h25) (fun J8=>
 (cj t6.2 e1.len∧∃a9,e1.a=some a9∧
 ∃v10,aD h7 (adr a9 (t6.2.toNat*2)) 0 v10∧
 ∃v11,aD h7 (adr a9 (t6.2.toNat*2)) 1 v11∧
 nv h7 nZ af (jH v10 v11) (fun h13=>
 Join (fun(t18:Bool) h19=>
 CondP t18 (
 J8 t6.1 h19) (
 ∃v20,au h19 h7 0 v20∧
 ∃v21,au h19 h7 1 v21∧
 (cj t6.1 e1.len∧∃a22,e1.a=some a22∧
 (fC h19 (adr a22 (t6.1.toNat*2)) (jH v20 v21) (fun h23=>
 J8 (IntKind.wrap .i64 (t6.1+1)) h23))))) (fun J14=>
 CondP (decide ((IntKind.wrap .i64 (t6.2+1))<(e1.len:Int))) (
 (cj (IntKind.wrap .i64 (t6.2+1)) e1.len∧∃a15,e1.a=some a15∧
 ∃v16,ay h13 (adr a15 ((IntKind.wrap .i64 (t6.2+1)).toNat*2)) 0 (.string v16)∧
 ∃v17,au h13 h7 0 v17∧
 J14 (v16.toList==v17.toList) h13)) (
 J14 false h13)))))) (
 (((0:Int)≤t6.1∧t6.1≤((e1.cap:Nat):Int))∧
 K ⟨aW e1.a 0 e1.cap 2,t6.1.toNat-0,e1.cap-0⟩ h7))) (0,0) h4) h2) h0
noncomputable def GX:Ann:=.node .nil (.node .nil (.node .nil (.node .nil (.node (.node .nil (.loop [(4,.c (.int .i64)),(13,.c (.int .i64))] (.node .nil (.node .nil (.join [(4,.c (.int .i64))] (.node .nil (.node (.join [(33,.c .bool)] .nil .nil) .nil)) .nil))))) .nil))))
theorem GN(x0:SliceV){K:cQ [.c .slice]→ad→Prop}{h0:ad}(h:zd x0 K h0):HC PG oE [.slice x0.a x0.len x0.cap] [.c .slice] K h0:=dG GX Tryz.func105 Tryz.call105 rfl rfl (by kernel_rfl) h
def wX(x0:SliceV)(x1:Int)(K:(Option Addr)→ad→Prop)(h0:ad):Prop:=
 At (hnew h0 [.int .i64 x1] sA) (fun h1=>
 ∃v2,aS h1 (ag h0)=some (.int .i64 v2)∧
 CondP (v2==(13:Int)) (
 HC PG rx [] [.c .ptr] (fun(e3:Option Addr) h4=>
 LoopP (fun I5 (t6:(Option Addr)×Int) h7=>
 CondP (decide (t6.2<(x0.len:Int))) (
 (cj t6.2 x0.len∧∃a8,x0.a=some a8∧
 ∃v9,aD h7 (adr a8 (t6.2.toNat*3)) 0 v9∧
 ∃v10,aD h7 (adr a8 (t6.2.toNat*3)) 1 v10∧
 ∃v11,aH h7 (adr a8 (t6.2.toNat*3)) 2 v11∧
 nv h7 LU bQ (JM v9 v10 v11) (fun h13=>
 ∃v14,aD h13 (adr (ag h7) 0) 0 v14∧
 ∃v15,aD h13 (adr (ag h7) 0) 1 v15∧
 HC PG i5 [.pointer t6.1,.pointer none,qF v14 v15] [.c .ptr] (fun(e16:Option Addr) h17=>
 I5 (e16,IntKind.wrap .i64 (t6.2+1)) h17) h13))) (
 K t6.1 h7)) (e3,0) h4) h1) (
 At (hnew h1 [Value.nilFunc] pF) (fun h18=>
 (Wr h18 (ag h1)∧
 At (hset h18 (ag h1) (.func (.func tw) #[] #[.pointer (some (ag h0))])) (fun h19=>
 HC PG eG [.slice x0.a x0.len x0.cap] [.c .slice] (fun(e20:SliceV) h21=>
 HC PG dw [.slice e20.a e20.len e20.cap,.func (.func tu) #[] #[.pointer (some (ag h1))]] [] (fun(e22:Unit) h23=>
 HC PG nG [] [.c .ptr] (fun(e24:Option Addr) h25=>
 LoopP (fun I26 (t27:SliceV×(Option Addr)) h28=>
 CondP (decide ((t27.1.len:Int)>(0:Int))) (
 ∃v29,aS h28 (ag h1)=some (v29)∧
 (cj 0 t27.1.len∧∃a30,t27.1.a=some a30∧
 ∃v31,aD h28 (adr a30 ((0:Int).toNat*3)) 0 v31∧
 ∃v32,aD h28 (adr a30 ((0:Int).toNat*3)) 1 v32∧
 ∃v33,aH h28 (adr a30 ((0:Int).toNat*3)) 2 v33∧
 ((HV PG v29 [Ap v31 v32 v33] bX (fun(e34:Int) h35=>
 At (hnew h35 [.int .i64 0] sA) (fun h36=>
 (Wr h36 (ag h35)∧
 At (hset h36 (ag h35) (.int .i64 e34)) (fun h37=>
 HC PG cW [.slice t27.1.a t27.1.len t27.1.cap,.func (.func tq) #[] #[.pointer (some (ag h1)),.pointer (some (ag h35))]] bX (fun(e38:Int) h39=>
 Join (fun(t41:Int) h42=>
 Join (fun(t56:Option Addr) h57=>
 (((0:Int)≤t41∧t41≤((t27.1.len:Nat):Int))∧
 I26 (⟨aW t27.1.a t41.toNat t27.1.cap 3,t27.1.len-t41.toNat,t27.1.cap-t41.toNat⟩,t56) h57)) (fun J43=>
 CondP (t41==(1:Int)) (
 ∃v44,aS h42 (ag h35)=some (.int .i64 v44)∧
 (cj 0 t27.1.len∧∃a45,t27.1.a=some a45∧
 ∃v46,ay h42 (adr (adr a45 ((0:Int).toNat*3)) 0) 0 (.string v46)∧
 ∃v47,ay h42 (adr (adr a45 ((0:Int).toNat*3)) 0) 1 (.string v47)∧
 HC PG dY [.pointer t27.2,.pointer none,.int .i64 v44,qF v46 v47] [.c .ptr] (fun(e48:Option Addr) h49=>
 J43 e48 h49) h42)) (
 ∃v50,aS h42 (ag h35)=some (.int .i64 v50)∧
 (((0:Int)≤t41∧t41≤((t27.1.cap:Nat):Int))∧
 ∃v51,aS h42 (ag h0)=some (.int .i64 v51)∧
 HC PG qf [.slice (aW t27.1.a 0 t27.1.cap 3) (t41.toNat-0) (t27.1.cap-0),.int .i64 (IntKind.wrap .i64 (v51+1))] [.c .ptr] (fun(e52:Option Addr) h53=>
 (aS h53 (ag h0)=some (.int .i64 v51)∧
 (aS h53 (ag h35)=some (.int .i64 v50)∧
 HC PG fh (zk t27.2 none v50 e52) [.c .ptr] (fun(e54:Option Addr) h55=>
 (aS h55 (ag h0)=some (.int .i64 v51)∧
 J43 e54 h55)) h53))) h42)))) (fun J40=>
 CondP (decide (e38<(0:Int))) (
 J40 (t27.1.len:Int) h39) (
 J40 e38 h39))) h37)))) h28)∧
 At (hnew h28 [.int .i64 0] sA) (fun h58=>
 ((aD h58 (adr a30 ((0:Int).toNat*3)) 0 v31∧aD h58 (adr a30 ((0:Int).toNat*3)) 1 v32∧aH h58 (adr a30 ((0:Int).toNat*3)) 2 v33)∧
 (aS h58 (ag h1)=some (v29)∧
 HV PG v29 [Ap v31 v32 v33] bX (fun(e59:Int) h60=>
 (Wr h60 (ag h28)∧
 At (hset h60 (ag h28) (.int .i64 e59)) (fun h61=>
 HC PG cW [.slice t27.1.a t27.1.len t27.1.cap,.func (.func tq) #[] #[.pointer (some (ag h1)),.pointer (some (ag h28))]] bX (fun(e62:Int) h63=>
 Join (fun(t65:Int) h66=>
 Join (fun(t80:Option Addr) h81=>
 (((0:Int)≤t65∧t65≤((t27.1.len:Nat):Int))∧
 I26 (⟨aW t27.1.a t65.toNat t27.1.cap 3,t27.1.len-t65.toNat,t27.1.cap-t65.toNat⟩,t80) h81)) (fun J67=>
 CondP (t65==(1:Int)) (
 ∃v68,aS h66 (ag h28)=some (.int .i64 v68)∧
 (cj 0 t27.1.len∧∃a69,t27.1.a=some a69∧
 ∃v70,ay h66 (adr (adr a69 ((0:Int).toNat*3)) 0) 0 (.string v70)∧
 ∃v71,ay h66 (adr (adr a69 ((0:Int).toNat*3)) 0) 1 (.string v71)∧
 HC PG dY [.pointer t27.2,.pointer none,.int .i64 v68,qF v70 v71] [.c .ptr] (fun(e72:Option Addr) h73=>
 J67 e72 h73) h66)) (
 ∃v74,aS h66 (ag h28)=some (.int .i64 v74)∧
 (((0:Int)≤t65∧t65≤((t27.1.cap:Nat):Int))∧
 ∃v75,aS h66 (ag h0)=some (.int .i64 v75)∧
 HC PG qf [.slice (aW t27.1.a 0 t27.1.cap 3) (t65.toNat-0) (t27.1.cap-0),.int .i64 (IntKind.wrap .i64 (v75+1))] [.c .ptr] (fun(e76:Option Addr) h77=>
 (aS h77 (ag h0)=some (.int .i64 v75)∧
 (aS h77 (ag h28)=some (.int .i64 v74)∧
 HC PG fh (zk t27.2 none v74 e76) [.c .ptr] (fun(e78:Option Addr) h79=>
 (aS h79 (ag h0)=some (.int .i64 v75)∧
 J67 e78 h79)) h77))) h66)))) (fun J64=>
 CondP (decide (e62<(0:Int))) (
 J64 (t27.1.len:Int) h63) (
 J64 e62 h63))) h61))) h58)))))) (
 K t27.2 h28)) (e20,e24) h25) h23) h21) h19)))))
noncomputable def Jz:Ann:=.node .nil (.node (.node .nil (.node (.node .nil (.node (.node .nil (.loop [(5,.c .ptr),(17,.c (.int .i64))] .nil)) .nil)) .nil)) (.node .nil (.node .nil (.node .nil (.node .nil (.node (.loop [(0,.c .slice),(9,.c .ptr)] (.node .nil (.node .nil (.node .nil (.join [(11,.c (.int .i64))] .nil (.join [(9,.c .ptr)] .nil .nil)))))) .nil))))))
theorem Bx(x0:SliceV)(x1:Int){K:cQ [.c .ptr]→ad→Prop}{h0:ad}(h:wX x0 x1 K h0):HC PG qf (Sy x0 x1) [.c .ptr] K h0:=dG Jz Tryz.func108 Tryz.call108 rfl rfl (by kernel_rfl) h
def vR(x0:Option Addr)(x1:Option Addr)(x2:ByteArray)(x3:ByteArray)(K:((Option Addr)×Bool×Bool)→ad→Prop)(h0:ad):Prop:=
 CondP (x2.toList==(⟨#[]⟩:ByteArray).toList) (
 Join (fun(t6:Bool) h7=>
 CondP t6 (
 K (x0,false,false) h7) (
 ∃a8,x0=some a8∧
 ∃v9,bI h7 a8 1 v9∧
 HC PG ee (mN x0 x1) [.c .ptr] (fun(e10:Option Addr) h11=>
 (bI h11 a8 1 v9∧
 HC PG kz (xu e10 x3) [.c .ptr] (fun(e12:Option Addr) h13=>
 (bI h13 a8 1 v9∧
 K (e12, !v9,true) h13)) h11)) h7)) (fun J1=>
 ∃a2,x0=some a2∧
 ∃v3,bI h0 a2 1 v3∧
 CondP v3 (
 ∃a4,x0=some a4∧
 ∃v5,aD h0 a4 2 v5∧
 J1 (v5.toList==x3.toList) h0) (
 J1 false h0))) (
 ∃b14,(0:Int)≤(0:Int)∧x2[(0:Int).toNat]? =some b14∧
 HC PG jZ (ED x0 (b14.toNat:Int)) ja (fun(e15:Int×Bool) h16=>
 CondP (!e15.2) (
 HC PG ee (mN x0 x1) [.c .ptr] (fun(e17:Option Addr) h18=>
 ∃a19,e17=some a19∧
 ∃v20:SliceV,cd h18 a19 3 v20∧
 HC PG uY (T7 x1 x2 x3) [.c .ptr] (fun(e21:Option Addr) h22=>
 (cd h22 a19 3 v20∧
 At (hnew h22 [.pointer e21] bP) (fun h23=>
 (cd h23 a19 3 v20∧
 HC PG ey [.slice v20.a v20.len v20.cap,.int .i64 e15.1,.slice (some (ag h22)) 1 1] [.c .slice] (fun(e24:SliceV) h25=>
 ∃a26,e17=some a26∧
 (dU h25 (adr a26 3) (.slice e24.a e24.len e24.cap) (fun h27=>
 K (e17,true,true) h27))) h23)))) h18) h16) (
 ∃a28,x0=some a28∧
 ∃v29:SliceV,cd h16 a28 3 v29∧
 (cj e15.1 v29.len∧∃a30,v29.a=some a30∧
 ∃v31,ay h16 a30 (e15.1.toNat*1) (.pointer v31)∧
 ∃a32,v31=some a32∧
 ∃v33,aD h16 a32 0 v33∧
 HC PG uW (jH x2 v33) bX (fun(e34:Int) h35=>
 Join (fun(t41:Option Addr) h42=>
 (((0:Int)≤e34∧e34≤((x2.size:Nat):Int))∧
 HC PG nC (Qw t41 x1 (x2.extract e34.toNat x2.size) x3) ug (fun(e43:(Option Addr)×Bool×Bool) h44=>
 CondP (!e43.2.2) (
 K (x0,false,false) h44) (
 HC PG ee (mN x0 x1) [.c .ptr] (fun(e45:Option Addr) h46=>
 ∃a47,e45=some a47∧
 ∃v48:SliceV,cd h46 a47 3 v48∧
 (cj e15.1 v48.len∧∃a49,v48.a=some a49∧
 (dU h46 (adr a49 (e15.1.toNat*1)) (.pointer e43.1) (fun h50=>
 K (e45,e43.2.1,true) h50)))) h44)) h42)) (fun J36=>
 ∃a37,v31=some a37∧
 ∃v38,aD h35 a37 0 v38∧
 CondP (decide (e34<(v38.size:Int))) (
 HC PG pn (Ia v31 x1 e34) [.c .ptr] (fun(e39:Option Addr) h40=>
 J36 e39 h40) h35) (
 J36 v31 h35))) h16))) h0)
noncomputable def CR:Ann:=.node .nil (.node (.node .nil (.node (.node (.join [(33,.c .bool)] .nil .nil) .nil) .nil)) (.node .nil (.node .nil (.node .nil (.node .nil (.join [(14,.c .ptr)] .nil .nil))))))
theorem CI(x0:Option Addr)(x1:Option Addr)(x2:ByteArray)(x3:ByteArray){K:cQ ug→ad→Prop}{h0:ad}(h:vR x0 x1 x2 x3 K h0):HC PG nC (Qw x0 x1 x2 x3) ug K h0:=dG CR Tryz.func109 Tryz.call109 rfl rfl (by kernel_rfl) h
def ri(x0:Int×Int×Int×(Option Addr)×ByteArray×Int)(x1:Option Addr)(x2:ByteArray×ByteArray)(x3:Int)(K:((Option Addr)×Bool×Bool)→ad→Prop)(h0:ad):Prop:=
 At (hnew h0 (IG x0) cN) (fun h1=>
 At (hnew h1 (vp x2) af) (fun h2=>
 HC PG dL [.pointer x1] [.c .bool] (fun(e3:Bool) h4=>
 CondP e3 (
 ∃v5,au h4 h1 0 v5∧
 HC PG qZ (xu x1 v5) lx (fun(e6:ByteArray×Bool) h7=>
 Join (fun(t10:Bool) h11=>
 CondP t10 (
 K (x1,false,false) h11) (
 ∃v12,ax h11 h0 3 v12∧
 ∃v13,au h11 h1 0 v13∧
 ∃v14,au h11 h1 1 v14∧
 HC PG i5 [.pointer x1,.pointer v12,qF v13 v14] [.c .ptr] (fun(e15:Option Addr) h16=>
 K (e15, !e6.2,true) h16) h11)) (fun J8=>
 CondP e6.2 (
 ∃v9,au h7 h1 1 v9∧
 J8 (e6.1.toList==v9.toList) h7) (
 J8 false h7))) h4) (
 ∃v17,ae h4 h0 5 v17∧
 HC PG lA (sS v17 x3) bX (fun(e18:Int) h19=>
 HC PG js (ll x1 e18) pZ (fun(e20:(ByteArray×ByteArray)×Bool) h21=>
 nv h21 nZ af (vp e20.1) (fun h23=>
 CondP e20.2 (
 ∃v24,au h23 h21 0 v24∧
 ∃v25,au h23 h21 1 v25∧
 ∃v26,au h23 h1 0 v26∧
 ∃v27,au h23 h1 1 v27∧
 CondP ((v24.toList==v26.toList)&&((v25.toList==v27.toList)&&true)) (
 K (x1,false,false) h23) (
 ∃v28,au h23 h21 0 v28∧
 ∃v29,au h23 h1 0 v29∧
 CondP (v28.toList==v29.toList) (
 ∃v30,ax h23 h0 3 v30∧
 ∃v31,au h23 h1 0 v31∧
 ∃v32,au h23 h1 1 v32∧
 HC PG dY [.pointer x1,.pointer v30,.int .i64 e18,qF v31 v32] [.c .ptr] (fun(e33:Option Addr) h34=>
 K (e33,false,true) h34) h23) (
 ∃v35,ax h23 h0 3 v35∧
 ∃v36,ae h23 h0 0 v36∧
 ∃v37,ae h23 h0 1 v37∧
 ∃v38,ae h23 h0 2 v38∧
 ∃v39,ax h23 h0 3 v39∧
 ∃v40,au h23 h0 4 v40∧
 ∃v41,ae h23 h0 5 v41∧
 ∃v42,au h23 h21 0 v42∧
 ∃v43,au h23 h21 1 v43∧
 ∃v44,au h23 h1 0 v44∧
 ∃v45,au h23 h1 1 v45∧
 HC PG mB [zl v36 v37 v38 v39 v40 v41,qF v42 v43,qF v44 v45,.int .i64 (IntKind.wrap .i64 (x3+1))] [.c .ptr] (fun(e46:Option Addr) h47=>
 (ax h47 h0 3 v35∧
 HC PG fh (zk x1 v35 e18 e46) [.c .ptr] (fun(e48:Option Addr) h49=>
 K (e48,true,true) h49) h47)) h23))) (
 HC PG g5 (ll x1 e18) gm (fun(e50:(Option Addr)×Bool) h51=>
 CondP (!e50.2) (
 ∃v52,ax h51 h0 3 v52∧
 ∃v53,au h51 h1 0 v53∧
 ∃v54,au h51 h1 1 v54∧
 HC PG dY [.pointer x1,.pointer v52,.int .i64 e18,qF v53 v54] [.c .ptr] (fun(e55:Option Addr) h56=>
 K (e55,true,true) h56) h51) (
 ∃v57,ae h51 h0 0 v57∧
 ∃v58,ae h51 h0 1 v58∧
 ∃v59,ae h51 h0 2 v59∧
 ∃v60,ax h51 h0 3 v60∧
 ∃v61,au h51 h0 4 v61∧
 ∃v62,ae h51 h0 5 v62∧
 ∃v63,au h51 h1 0 v63∧
 ∃v64,au h51 h1 1 v64∧
 HC PG jt [zl v57 v58 v59 v60 v61 v62,.pointer e50.1,qF v63 v64,.int .i64 (IntKind.wrap .i64 (x3+1))] ug (fun(e65:(Option Addr)×Bool×Bool) h66=>
 CondP (!e65.2.2) (
 K (x1,false,false) h66) (
 ∃v67,ax h66 h0 3 v67∧
 HC PG fh (zk x1 v67 e18 e65.1) [.c .ptr] (fun(e68:Option Addr) h69=>
 K (e68,e65.2.1,true) h69) h66)) h51)) h23))) h19) h4)) h2))
noncomputable def CV:Ann:=.node .nil (.node (.node .nil (.node (.node .nil (.node (.join [(36,.c .bool)] .nil .nil) .nil)) .nil)) .nil)
theorem vM(x0:Int×Int×Int×(Option Addr)×ByteArray×Int)(x1:Option Addr)(x2:ByteArray×ByteArray)(x3:Int){K:cQ ug→ad→Prop}{h0:ad}(h:ri x0 x1 x2 x3 K h0):HC PG jt [Uq x0,.pointer x1,Ot x2,.int .i64 x3] ug K h0:=dG CV Tryz.func110 Tryz.call110 rfl rfl (by kernel_rfl) h
def uF(x0:Option Addr)(x1:Option Addr)(x2:ByteArray)(K:((Option Addr)×Bool)→ad→Prop)(h0:ad):Prop:=
 CondP (x2.toList==(⟨#[]⟩:ByteArray).toList) (
 ∃a1,x0=some a1∧
 ∃v2,bI h0 a1 1 v2∧
 CondP (!v2) (
 K (x0,false) h0) (
 HC PG ee (mN x0 x1) [.c .ptr] (fun(e3:Option Addr) h4=>
 ∃a5,e3=some a5∧
 (dU h4 (adr a5 1) (.bool false) (fun h6=>
 ∃a7,e3=some a7∧
 (dU h6 (adr a7 2) (.string (⟨#[]⟩:ByteArray)) (fun h8=>
 K (e3,true) h8))))) h0)) (
 ∃b9,(0:Int)≤(0:Int)∧x2[(0:Int).toNat]? =some b9∧
 HC PG jZ (ED x0 (b9.toNat:Int)) ja (fun(e10:Int×Bool) h11=>
 CondP (!e10.2) (
 K (x0,false) h11) (
 ∃a12,x0=some a12∧
 ∃v13:SliceV,cd h11 a12 3 v13∧
 (cj e10.1 v13.len∧∃a14,v13.a=some a14∧
 ∃v15,ay h11 a14 (e10.1.toNat*1) (.pointer v15)∧
 ∃a16,v15=some a16∧
 ∃v17,aD h11 a16 0 v17∧
 HC PG wG (jH x2 v17) lx (fun(e18:ByteArray×Bool) h19=>
 CondP (!e18.2) (
 K (x0,false) h19) (
 ∃a20,x0=some a20∧
 ∃v21:SliceV,cd h19 a20 3 v21∧
 (cj e10.1 v21.len∧∃a22,v21.a=some a22∧
 ∃v23,ay h19 a22 (e10.1.toNat*1) (.pointer v23)∧
 HC PG mw (DY v23 x1 e18.1) gm (fun(e24:(Option Addr)×Bool) h25=>
 CondP (!e24.2) (
 K (x0,false) h25) (
 HC PG ee (mN x0 x1) [.c .ptr] (fun(e26:Option Addr) h27=>
 HC PG p9 (mN e24.1 x1) [.c .ptr] (fun(e28:Option Addr) h29=>
 CondP e28.isNone (
 ∃a30,e26=some a30∧
 ∃v31:SliceV,cd h29 a30 3 v31∧
 HC PG eA (JL v31 e10.1 (IntKind.wrap .i64 (e10.1+1))) [.c .slice] (fun(e32:SliceV) h33=>
 ∃a34,e26=some a34∧
 (dU h33 (adr a34 3) (.slice e32.a e32.len e32.cap) (fun h35=>
 K (e26,true) h35))) h29) (
 ∃a36,e26=some a36∧
 ∃v37:SliceV,cd h29 a36 3 v37∧
 (cj e10.1 v37.len∧∃a38,v37.a=some a38∧
 (dU h29 (adr a38 (e10.1.toNat*1)) (.pointer e28) (fun h39=>
 K (e26,true) h39))))) h27) h25)) h19))) h11))) h0)
theorem Bj(x0:Option Addr)(x1:Option Addr)(x2:ByteArray){K:cQ gm→ad→Prop}{h0:ad}(h:uF x0 x1 x2 K h0):HC PG mw (DY x0 x1 x2) gm K h0:=dG .nil Tryz.func111 Tryz.call111 rfl rfl (by kernel_rfl) h
def qm(x0:Int×Int×Int×(Option Addr)×ByteArray×Int)(x1:Option Addr)(x2:Int)(K:((Option Addr)×Bool)→ad→Prop)(h0:ad):Prop:=
 At (hnew h0 (IG x0) cN) (fun h1=>
 HC PG dL [.pointer x1] [.c .bool] (fun(e2:Bool) h3=>
 CondP e2 (
 ∃v4,au h3 h0 4 v4∧
 HC PG qZ (xu x1 v4) lx (fun(e5:ByteArray×Bool) h6=>
 CondP (!e5.2) (
 K (x1,false) h6) (
 ∃v7,ax h6 h0 3 v7∧
 ∃v8,au h6 h0 4 v8∧
 HC PG qX (DY x1 v7 v8) [.c .ptr] (fun(e9:Option Addr) h10=>
 K (e9,true) h10) h6)) h3) (
 ∃v11,ae h3 h0 5 v11∧
 HC PG lA (sS v11 x2) bX (fun(e12:Int) h13=>
 HC PG js (ll x1 e12) pZ (fun(e14:(ByteArray×ByteArray)×Bool) h15=>
 nv h15 nZ af (vp e14.1) (fun h17=>
 CondP e14.2 (
 ∃v18,au h17 h15 0 v18∧
 ∃v19,au h17 h0 4 v19∧
 CondP (!(v18.toList==v19.toList)) (
 K (x1,false) h17) (
 ∃v20,ax h17 h0 3 v20∧
 HC PG my (Ia x1 v20 e12) [.c .ptr] (fun(e21:Option Addr) h22=>
 K (e21,true) h22) h17)) (
 HC PG g5 (ll x1 e12) gm (fun(e23:(Option Addr)×Bool) h24=>
 CondP (!e23.2) (
 K (x1,false) h24) (
 ∃v25,ae h24 h0 0 v25∧
 ∃v26,ae h24 h0 1 v26∧
 ∃v27,ae h24 h0 2 v27∧
 ∃v28,ax h24 h0 3 v28∧
 ∃v29,au h24 h0 4 v29∧
 ∃v30,ae h24 h0 5 v30∧
 HC PG mA [zl v25 v26 v27 v28 v29 v30,.pointer e23.1,.int .i64 (IntKind.wrap .i64 (x2+1))] gm (fun(e31:(Option Addr)×Bool) h32=>
 CondP (!e31.2) (
 K (x1,false) h32) (
 HC PG u4 [.pointer e31.1] pZ (fun(e33:(ByteArray×ByteArray)×Bool) h34=>
 nv h34 nZ af (vp e33.1) (fun h36=>
 CondP e33.2 (
 ∃v37,ax h36 h0 3 v37∧
 ∃v38,au h36 h34 0 v38∧
 ∃v39,au h36 h34 1 v39∧
 HC PG dY [.pointer x1,.pointer v37,.int .i64 e12,qF v38 v39] [.c .ptr] (fun(e40:Option Addr) h41=>
 K (e40,true) h41) h36) (
 ∃v42,ax h36 h0 3 v42∧
 HC PG fh (zk x1 v42 e12 e31.1) [.c .ptr] (fun(e43:Option Addr) h44=>
 K (e43,true) h44) h36))) h32)) h24)) h17))) h13) h3)) h1)
theorem uv(x0:Int×Int×Int×(Option Addr)×ByteArray×Int)(x1:Option Addr)(x2:Int){K:cQ gm→ad→Prop}{h0:ad}(h:qm x0 x1 x2 K h0):HC PG mA [Uq x0,.pointer x1,.int .i64 x2] gm K h0:=dG .nil Tryz.func112 Tryz.call112 rfl rfl (by kernel_rfl) h
def F8(x0:SliceV)(x1:ByteArray)(K:(Int×Bool)→ad→Prop)(h0:ad):Prop:=
 LoopP (fun I1 (t2:Int) h3=>
 Join (fun(t9:Bool) h10=>
 CondP t9 (
 I1 (IntKind.wrap .i64 (t2+1)) h10) (
 CondP (decide (t2<(x0.len:Int))) (
 (cj t2 x0.len∧∃a11,x0.a=some a11∧
 ∃v12,aD h10 (adr a11 (t2.toNat*2)) 0 v12∧
 K (t2,v12.toList==x1.toList) h10)) (
 K (t2,false) h10))) (fun J4=>
 CondP (decide (t2<(x0.len:Int))) (
 (cj t2 x0.len∧∃a5,x0.a=some a5∧
 ∃v6,aD h3 (adr a5 (t2.toNat*2)) 0 v6∧
 HC PG wK (jH v6 x1) [.c .bool] (fun(e7:Bool) h8=>
 J4 e7 h8) h3)) (
 J4 false h3))) 0 h0
noncomputable def NS:Ann:=.node .nil (.node .nil (.node (.loop [(6,.c (.int .i64))] (.node (.join [(19,.c .bool)] .nil .nil) .nil)) .nil))
theorem NH(x0:SliceV)(x1:ByteArray){K:cQ ja→ad→Prop}{h0:ad}(h:F8 x0 x1 K h0):HC PG zP (qJ x0 x1) ja K h0:=dG NS Tryz.func113 Tryz.call113 rfl rfl (by kernel_rfl) h
def gK(x0:SliceV)(K:(SliceV)→ad→Prop)(h0:ad):Prop:=
 CondP x0.a.isNone (
 K ⟨none,0,0⟩ h0) (
 At (hnew h0 [] bP) (fun h1=>
 ∃xs2,SRow h1 x0.a (x0.len*1) xs2∧
 AppP (some [.pointer none]) 1 8 bP (some (ag h0)) 0 0 x0.len xs2 h1 (fun s3 h4=>
 K s3 h4)))
theorem lJ(x0:SliceV){K:cQ [.c .slice]→ad→Prop}{h0:ad}(h:gK x0 K h0):HC PG dh [.slice x0.a x0.len x0.cap] [.c .slice] K h0:=dG .nil Tryz.func114 Tryz.call114 rfl rfl (by kernel_rfl) h
def je(x0:SliceV)(K:(SliceV)→ad→Prop)(h0:ad):Prop:=
 CondP x0.a.isNone (
 K ⟨none,0,0⟩ h0) (
 At (hnew h0 [] af) (fun h1=>
 ∃xs2,SRow h1 x0.a (x0.len*2) xs2∧
 AppP (some nZ) 2 32 af (some (ag h0)) 0 0 x0.len xs2 h1 (fun s3 h4=>
 K s3 h4)))
theorem om(x0:SliceV){K:cQ [.c .slice]→ad→Prop}{h0:ad}(h:je x0 K h0):HC PG cG [.slice x0.a x0.len x0.cap] [.c .slice] K h0:=dG .nil Tryz.func115 Tryz.call115 rfl rfl (by kernel_rfl) h
def uK(x0:Option Addr)(K:(Int)→ad→Prop)(h0:ad):Prop:=
 CondP x0.isNone (
 K 0 h0) (
 ∃a1,x0=some a1∧
 ∃v2,iR h0 (adr a1 0) 1 v2∧
 K v2 h0)
theorem Bp(x0:Option Addr){K:cQ kQ→ad→Prop}{h0:ad}(h:uK x0 K h0):HC PG j7 [.pointer x0] kQ K h0:=dG .nil Tryz.func116 Tryz.call116 rfl rfl (by kernel_rfl) h
def vX(x0:Int)(x1:Int)(K:(Bool)→ad→Prop)(h0:ad):Prop:=
 HC PG oF [.int .i64 x1] [.c .bool] (fun(e1:Bool) h2=>
 CondP e1 (
 ((0:Int)≤x1∧
 Bd (IntKind.wrap .u32 (ar (IntKind.bits .u32) (dT x0 (2^(min (x1:Int).toNat (IntKind.bits .u32))))&&&ar (IntKind.bits .u32) 1).toNat:Int) (fun n3=>
 K (n3==(1:Int)) h2))) (
 K false h2)) h0
theorem CP(x0:Int)(x1:Int){K:cQ [.c .bool]→ad→Prop}{h0:ad}(h:vX x0 x1 K h0):HC PG gq (pe x0 x1) [.c .bool] K h0:=dG .nil Tryz.func117 Tryz.call117 rfl rfl (by kernel_rfl) h
def uQ(x0:Int)(x1:Int)(K:(Int)→ad→Prop)(h0:ad):Prop:=
 CondP (decide (x1≤(0:Int))) (
 K 0 h0) (
 CondP (decide (x1≥(32:Int))) (
 HC PG pq [.int .u32 x0] bX (fun(e1:Int) h2=>
 K e1 h2) h0) (
 ((0:Int)≤x1∧
 Bd (IntKind.wrap .u32 ((IntKind.wrap .u32 (1*2^(min (x1:Int).toNat (IntKind.bits .u32))))-1):Int) (fun n3=>
 Bd (IntKind.wrap .u32 (ar (IntKind.bits .u32) x0&&&ar (IntKind.bits .u32) n3).toNat:Int) (fun n4=>
 HC PG pq [.int .u32 n4] bX (fun(e5:Int) h6=>
 K e5 h6) h0)))))
theorem Bw(x0:Int)(x1:Int){K:cQ bX→ad→Prop}{h0:ad}(h:uQ x0 x1 K h0):HC PG dy (pe x0 x1) bX K h0:=dG .nil Tryz.func118 Tryz.call118 rfl rfl (by kernel_rfl) h
def BE(K:(Option Addr)→ad→Prop)(h0:ad):Prop:=
 At (hnew h0 Qn bD) (fun h1=>
 K (some (ag h0)) h1)
theorem Jr{K:cQ [.c .ptr]→ad→Prop}{h0:ad}(h:BE K h0):HC PG nG [] [.c .ptr] K h0:=dG .nil Tryz.func119 Tryz.call119 rfl rfl (by kernel_rfl) h
def eO(x0:SliceV)(x1:Int)(x2:Int)(x3:Value)(K:(Unit)→ad→Prop)(h0:ad):Prop:=
 LoopP (fun I1 (t2:Int) h3=>
 CondP (decide (t2<x2)) (
 LoopP (fun I4 (t5:Int) h6=>
 Join (fun(t22:Bool) h23=>
 CondP t22 (
 (cj (IntKind.wrap .i64 (t5-1)) x0.len∧∃a24,x0.a=some a24∧
 ∃v25,ay h23 (adr a24 ((IntKind.wrap .i64 (t5-1)).toNat*5)) 0 (.string v25)∧
 ∃v26,ay h23 (adr a24 ((IntKind.wrap .i64 (t5-1)).toNat*5)) 1 (.string v26)∧
 ∃v27,ay h23 (adr a24 ((IntKind.wrap .i64 (t5-1)).toNat*5)) 2 (.string v27)∧
 ∃v28,ay h23 (adr a24 ((IntKind.wrap .i64 (t5-1)).toNat*5)) 3 (.bool v28)∧
 ∃v29,ay h23 (adr a24 ((IntKind.wrap .i64 (t5-1)).toNat*5)) 4 (.bool v29)∧
 (cj t5 x0.len∧∃a30,x0.a=some a30∧
 ∃v31,aD h23 (adr a30 (t5.toNat*5)) 0 v31∧
 ∃v32,aD h23 (adr a30 (t5.toNat*5)) 1 v32∧
 ∃v33,aD h23 (adr a30 (t5.toNat*5)) 2 v33∧
 ∃v34,bI h23 (adr a30 (t5.toNat*5)) 3 v34∧
 ∃v35,bI h23 (adr a30 (t5.toNat*5)) 4 v35∧
 (cj t5 x0.len∧∃a36,x0.a=some a36∧
 (fC h23 (adr a36 (t5.toNat*5)) (jJ v25 v26 v27 v28 v29) (fun h37=>
 (cj (IntKind.wrap .i64 (t5-1)) x0.len∧∃a38,x0.a=some a38∧
 (fC h37 (adr a38 ((IntKind.wrap .i64 (t5-1)).toNat*5)) (jJ v31 v32 v33 v34 v35) (fun h39=>
 I4 (IntKind.wrap .i64 (t5-1)) h39))))))))) (
 I1 (IntKind.wrap .i64 (t2+1)) h23)) (fun J7=>
 CondP (decide (t5>x1)) (
 (cj t5 x0.len∧∃a8,x0.a=some a8∧
 ∃v9,aD h6 (adr a8 (t5.toNat*5)) 0 v9∧
 ∃v10,aD h6 (adr a8 (t5.toNat*5)) 1 v10∧
 ∃v11,aD h6 (adr a8 (t5.toNat*5)) 2 v11∧
 ∃v12,bI h6 (adr a8 (t5.toNat*5)) 3 v12∧
 ∃v13,bI h6 (adr a8 (t5.toNat*5)) 4 v13∧
 (cj (IntKind.wrap .i64 (t5-1)) x0.len∧∃a14,x0.a=some a14∧
 ∃v15,ay h6 (adr a14 ((IntKind.wrap .i64 (t5-1)).toNat*5)) 0 (.string v15)∧
 ∃v16,ay h6 (adr a14 ((IntKind.wrap .i64 (t5-1)).toNat*5)) 1 (.string v16)∧
 ∃v17,ay h6 (adr a14 ((IntKind.wrap .i64 (t5-1)).toNat*5)) 2 (.string v17)∧
 ∃v18,ay h6 (adr a14 ((IntKind.wrap .i64 (t5-1)).toNat*5)) 3 (.bool v18)∧
 ∃v19,ay h6 (adr a14 ((IntKind.wrap .i64 (t5-1)).toNat*5)) 4 (.bool v19)∧
 HV PG x3 [ma v9 v10 v11 v12 v13,ma v15 v16 v17 v18 v19] bX (fun(e20:Int) h21=>
 J7 (decide (e20<(0:Int))) h21) h6))) (
 J7 false h6))) t2 h3) (
 K () h3)) (IntKind.wrap .i64 (x1+1)) h0
noncomputable def lZ:Ann:=.node .nil (.loop [(8,.c (.int .i64))] (.node .nil (.node (.node .nil (.loop [(9,.c (.int .i64))] (.node (.join [(34,.c .bool)] .nil .nil) .nil))) .nil)))
theorem g6(x0:SliceV)(x1:Int)(x2:Int)(x3:Value){K:cQ []→ad→Prop}{h0:ad}(h:eO x0 x1 x2 x3 K h0):HC PG dx [.slice x0.a x0.len x0.cap,.int .i64 x1,.int .i64 x2,x3] [] K h0:=dG lZ Tryz.func120 Tryz.call120 rfl rfl (by kernel_rfl) h
def jd(x0:SliceV)(x1:Int)(x2:Int)(x3:Value)(K:(Unit)→ad→Prop)(h0:ad):Prop:=
 ((2:Int)≠0∧
 Bd (IntKind.wrap .i64 (nn (IntKind.wrap .i64 ((IntKind.wrap .i64 (x2-x1))-1)) 2):Int) (fun n1=>
 LoopP (fun I2 (t3:Int) h4=>
 CondP (decide (t3≥(0:Int))) (
 HC PG dX [.slice x0.a x0.len x0.cap,.int .i64 t3,.int .i64 (IntKind.wrap .i64 (x2-x1)),.int .i64 x1,x3] [] (fun(e5:Unit) h6=>
 I2 (IntKind.wrap .i64 (t3-1)) h6) h4) (
 LoopP (fun I7 (t8:Int) h9=>
 CondP (decide (t8≥(0:Int))) (
 (cj (IntKind.wrap .i64 (x1+t8)) x0.len∧∃a10,x0.a=some a10∧
 ∃v11,ay h9 (adr a10 ((IntKind.wrap .i64 (x1+t8)).toNat*5)) 0 (.string v11)∧
 ∃v12,ay h9 (adr a10 ((IntKind.wrap .i64 (x1+t8)).toNat*5)) 1 (.string v12)∧
 ∃v13,ay h9 (adr a10 ((IntKind.wrap .i64 (x1+t8)).toNat*5)) 2 (.string v13)∧
 ∃v14,ay h9 (adr a10 ((IntKind.wrap .i64 (x1+t8)).toNat*5)) 3 (.bool v14)∧
 ∃v15,ay h9 (adr a10 ((IntKind.wrap .i64 (x1+t8)).toNat*5)) 4 (.bool v15)∧
 (cj x1 x0.len∧∃a16,x0.a=some a16∧
 ∃v17,aD h9 (adr a16 (x1.toNat*5)) 0 v17∧
 ∃v18,aD h9 (adr a16 (x1.toNat*5)) 1 v18∧
 ∃v19,aD h9 (adr a16 (x1.toNat*5)) 2 v19∧
 ∃v20,bI h9 (adr a16 (x1.toNat*5)) 3 v20∧
 ∃v21,bI h9 (adr a16 (x1.toNat*5)) 4 v21∧
 (cj x1 x0.len∧∃a22,x0.a=some a22∧
 (fC h9 (adr a22 (x1.toNat*5)) (jJ v11 v12 v13 v14 v15) (fun h23=>
 (cj (IntKind.wrap .i64 (x1+t8)) x0.len∧∃a24,x0.a=some a24∧
 (fC h23 (adr a24 ((IntKind.wrap .i64 (x1+t8)).toNat*5)) (jJ v17 v18 v19 v20 v21) (fun h25=>
 HC PG dX [.slice x0.a x0.len x0.cap,.int .i64 0,.int .i64 t8,.int .i64 x1,x3] [] (fun(e26:Unit) h27=>
 I7 (IntKind.wrap .i64 (t8-1)) h27) h25))))))))) (
 K () h9)) (IntKind.wrap .i64 ((IntKind.wrap .i64 (x2-x1))-1)) h4)) n1 h0))
noncomputable def oq:Ann:=.node .nil (.node .nil (.node .nil (.node (.node .nil (.loop [(11,.c (.int .i64))] .nil)) (.node .nil (.loop [(12,.c (.int .i64))] .nil)))))
theorem ol(x0:SliceV)(x1:Int)(x2:Int)(x3:Value){K:cQ []→ad→Prop}{h0:ad}(h:jd x0 x1 x2 x3 K h0):HC PG fJ [.slice x0.a x0.len x0.cap,.int .i64 x1,.int .i64 x2,x3] [] K h0:=dG oq Tryz.func121 Tryz.call121 rfl rfl (by kernel_rfl) h
def g7(x0:SliceV)(x1:Int)(x2:Int)(x3:Value)(K:(Unit)→ad→Prop)(h0:ad):Prop:=
 CondP (decide ((IntKind.wrap .i64 (x2-x1))≥(8:Int))) (
 At (hnew h0 [.int .u64 0] iP) (fun h1=>
 (Wr h1 (ag h0)∧
 At (hset h1 (ag h0) (.int .u64 (IntKind.wrap .u64 (IntKind.wrap .i64 (x2-x1))))) (fun h2=>
 HC PG kR [.int .i64 (IntKind.wrap .i64 (x2-x1))] gC (fun(e3:Int) h4=>
 ((4:Int)≠0∧
 Bd (IntKind.wrap .i64 ((IntKind.wrap .i64 (nn (IntKind.wrap .i64 (x2-x1)) 4))*2):Int) (fun n5=>
 LoopP (fun I6 (t7:Int) h8=>
 ((4:Int)≠0∧
 Bd (IntKind.wrap .i64 ((IntKind.wrap .i64 (nn (IntKind.wrap .i64 (x2-x1)) 4))*2):Int) (fun n9=>
 CondP (decide (t7≤(IntKind.wrap .i64 ((IntKind.wrap .i64 (x1+n9))+1)))) (
 HC PG lz [.pointer (some (ag h0))] gC (fun(e10:Int) h11=>
 Bd (IntKind.wrap .u64 (ar (IntKind.bits .u64) e10&&&ar (IntKind.bits .u64) (IntKind.wrap .u64 (e3-1))).toNat:Int) (fun n12=>
 Join (fun(t15:Int) h16=>
 (cj (IntKind.wrap .i64 (x1+t15)) x0.len∧∃a17,x0.a=some a17∧
 ∃v18,ay h16 (adr a17 ((IntKind.wrap .i64 (x1+t15)).toNat*5)) 0 (.string v18)∧
 ∃v19,ay h16 (adr a17 ((IntKind.wrap .i64 (x1+t15)).toNat*5)) 1 (.string v19)∧
 ∃v20,ay h16 (adr a17 ((IntKind.wrap .i64 (x1+t15)).toNat*5)) 2 (.string v20)∧
 ∃v21,ay h16 (adr a17 ((IntKind.wrap .i64 (x1+t15)).toNat*5)) 3 (.bool v21)∧
 ∃v22,ay h16 (adr a17 ((IntKind.wrap .i64 (x1+t15)).toNat*5)) 4 (.bool v22)∧
 (cj t7 x0.len∧∃a23,x0.a=some a23∧
 ∃v24,aD h16 (adr a23 (t7.toNat*5)) 0 v24∧
 ∃v25,aD h16 (adr a23 (t7.toNat*5)) 1 v25∧
 ∃v26,aD h16 (adr a23 (t7.toNat*5)) 2 v26∧
 ∃v27,bI h16 (adr a23 (t7.toNat*5)) 3 v27∧
 ∃v28,bI h16 (adr a23 (t7.toNat*5)) 4 v28∧
 (cj t7 x0.len∧∃a29,x0.a=some a29∧
 (fC h16 (adr a29 (t7.toNat*5)) (jJ v18 v19 v20 v21 v22) (fun h30=>
 (cj (IntKind.wrap .i64 (x1+t15)) x0.len∧∃a31,x0.a=some a31∧
 (fC h30 (adr a31 ((IntKind.wrap .i64 (x1+t15)).toNat*5)) (jJ v24 v25 v26 v27 v28) (fun h32=>
 I6 (IntKind.wrap .i64 (t7+1)) h32))))))))) (fun J13=>
 CondP (decide ((IntKind.wrap .i64 n12)≥(IntKind.wrap .i64 (x2-x1)))) (
 Bd (IntKind.wrap .i64 ((IntKind.wrap .i64 n12)-(IntKind.wrap .i64 (x2-x1))):Int) (fun n14=>
 J13 n14 h11)) (
 J13 (IntKind.wrap .i64 n12) h11)))) h8) (
 K () h8)))) (IntKind.wrap .i64 ((IntKind.wrap .i64 (x1+n5))-1)) h4))) h2)))) (
 K () h0)
noncomputable def l0:Ann:=.node .nil (.node .nil (.node (.node .nil (.node .nil (.node .nil (.loop [(11,.c (.int .i64))] (.node .nil (.node (.node .nil (.join [(12,.c (.int .i64))] .nil .nil)) .nil)))))) .nil))
theorem lW(x0:SliceV)(x1:Int)(x2:Int)(x3:Value){K:cQ []→ad→Prop}{h0:ad}(h:g7 x0 x1 x2 x3 K h0):HC PG eM [.slice x0.a x0.len x0.cap,.int .i64 x1,.int .i64 x2,x3] [] K h0:=dG l0 Tryz.func122 Tryz.call122 rfl rfl (by kernel_rfl) h
def iC(x0:SliceV)(x1:Int)(x2:Int)(x3:Value)(K:(Int×Int)→ad→Prop)(h0:ad):Prop:=
 At (hnew h0 [.int .i64 0] sA) (fun h1=>
 ((4:Int)≠0∧
 Bd (IntKind.wrap .i64 ((IntKind.wrap .i64 (nn (IntKind.wrap .i64 (x2-x1)) 4))*1):Int) (fun n2=>
 ((4:Int)≠0∧
 Bd (IntKind.wrap .i64 ((IntKind.wrap .i64 (nn (IntKind.wrap .i64 (x2-x1)) 4))*2):Int) (fun n3=>
 ((4:Int)≠0∧
 Bd (IntKind.wrap .i64 ((IntKind.wrap .i64 (nn (IntKind.wrap .i64 (x2-x1)) 4))*3):Int) (fun n4=>
 Join (fun(t17:Int) h18=>
 ∃v19,aS h18 (ag h0)=some (.int .i64 v19)∧
 CondP (v19==(0:Int)) (
 K (t17,1) h18) (
 CondP (v19==(12:Int)) (
 K (t17,2) h18) (
 K (t17,0) h18))) (fun J5=>
 CondP (decide ((IntKind.wrap .i64 (x2-x1))≥(8:Int))) (
 Join (fun(t13:Int×Int×Int) h14=>
 HC PG eE [.slice x0.a x0.len x0.cap,.int .i64 t13.1,.int .i64 t13.2.1,.int .i64 t13.2.2,.pointer (some (ag h0)),x3] bX (fun(e15:Int) h16=>
 J5 e15 h16) h14) (fun J6=>
 CondP (decide ((IntKind.wrap .i64 (x2-x1))≥(50:Int))) (
 HC PG cE [.slice x0.a x0.len x0.cap,.int .i64 (IntKind.wrap .i64 (x1+n2)),.pointer (some (ag h0)),x3] bX (fun(e7:Int) h8=>
 HC PG cE [.slice x0.a x0.len x0.cap,.int .i64 (IntKind.wrap .i64 (x1+n3)),.pointer (some (ag h0)),x3] bX (fun(e9:Int) h10=>
 HC PG cE [.slice x0.a x0.len x0.cap,.int .i64 (IntKind.wrap .i64 (x1+n4)),.pointer (some (ag h0)),x3] bX (fun(e11:Int) h12=>
 J6 (e7,e9,e11) h12) h10) h8) h1) (
 J6 (IntKind.wrap .i64 (x1+n2),IntKind.wrap .i64 (x1+n3),IntKind.wrap .i64 (x1+n4)) h1))) (
 J5 (IntKind.wrap .i64 (x1+n3)) h1)))))))))
noncomputable def mK:Ann:=.node .nil (.node .nil (.node .nil (.node .nil (.node .nil (.node .nil (.join [(13,.c (.int .i64))] (.node .nil (.node (.join [(12,.c (.int .i64)),(13,.c (.int .i64)),(14,.c (.int .i64))] .nil .nil) .nil)) .nil))))))
theorem mI(x0:SliceV)(x1:Int)(x2:Int)(x3:Value){K:cQ xI→ad→Prop}{h0:ad}(h:iC x0 x1 x2 x3 K h0):HC PG eX [.slice x0.a x0.len x0.cap,.int .i64 x1,.int .i64 x2,x3] xI K h0:=dG mK Tryz.func123 Tryz.call123 rfl rfl (by kernel_rfl) h
def ik(x0:SliceV)(x1:Int)(x2:Int)(x3:Value)(K:(Unit)→ad→Prop)(h0:ad):Prop:=
 LoopP (fun I1 (t2:Int×Int) h3=>
 CondP (decide (t2.1<t2.2)) (
 (cj t2.2 x0.len∧∃a4,x0.a=some a4∧
 ∃v5,aD h3 (adr a4 (t2.2.toNat*5)) 0 v5∧
 ∃v6,aD h3 (adr a4 (t2.2.toNat*5)) 1 v6∧
 ∃v7,aD h3 (adr a4 (t2.2.toNat*5)) 2 v7∧
 ∃v8,bI h3 (adr a4 (t2.2.toNat*5)) 3 v8∧
 ∃v9,bI h3 (adr a4 (t2.2.toNat*5)) 4 v9∧
 (cj t2.1 x0.len∧∃a10,x0.a=some a10∧
 ∃v11,aD h3 (adr a10 (t2.1.toNat*5)) 0 v11∧
 ∃v12,aD h3 (adr a10 (t2.1.toNat*5)) 1 v12∧
 ∃v13,aD h3 (adr a10 (t2.1.toNat*5)) 2 v13∧
 ∃v14,bI h3 (adr a10 (t2.1.toNat*5)) 3 v14∧
 ∃v15,bI h3 (adr a10 (t2.1.toNat*5)) 4 v15∧
 (cj t2.1 x0.len∧∃a16,x0.a=some a16∧
 (fC h3 (adr a16 (t2.1.toNat*5)) (jJ v5 v6 v7 v8 v9) (fun h17=>
 (cj t2.2 x0.len∧∃a18,x0.a=some a18∧
 (fC h17 (adr a18 (t2.2.toNat*5)) (jJ v11 v12 v13 v14 v15) (fun h19=>
 I1 (IntKind.wrap .i64 (t2.1+1),IntKind.wrap .i64 (t2.2-1)) h19))))))))) (
 K () h3)) (x1,IntKind.wrap .i64 (x2-1)) h0
noncomputable def mh:Ann:=.node .nil (.node .nil (.loop [(8,.c (.int .i64)),(9,.c (.int .i64))] .nil))
theorem me(x0:SliceV)(x1:Int)(x2:Int)(x3:Value){K:cQ []→ad→Prop}{h0:ad}(h:ik x0 x1 x2 x3 K h0):HC PG eR [.slice x0.a x0.len x0.cap,.int .i64 x1,.int .i64 x2,x3] [] K h0:=dG mh Tryz.func124 Tryz.call124 rfl rfl (by kernel_rfl) h
def fG(x0:SliceV)(x1:Int)(x2:Int)(x3:Value)(K:(Bool)→ad→Prop)(h0:ad):Prop:=
 LoopP (fun I1 (t2:Int×Int) h3=>
 CondP (decide (t2.2<(5:Int))) (
 Join (fun(t110:Int) h111=>
 I1 (t110,IntKind.wrap .i64 (t2.2+1)) h111) (fun J4=>
 LoopP (fun I5 (t6:Int) h7=>
 Join (fun(t23:Bool) h24=>
 CondP t23 (
 I5 (IntKind.wrap .i64 (t6+1)) h24) (
 CondP (t6==x2) (
 K true h24) (
 CondP (decide ((IntKind.wrap .i64 (x2-x1))<(50:Int))) (
 K false h24) (
 (cj (IntKind.wrap .i64 (t6-1)) x0.len∧∃a25,x0.a=some a25∧
 ∃v26,ay h24 (adr a25 ((IntKind.wrap .i64 (t6-1)).toNat*5)) 0 (.string v26)∧
 ∃v27,ay h24 (adr a25 ((IntKind.wrap .i64 (t6-1)).toNat*5)) 1 (.string v27)∧
 ∃v28,ay h24 (adr a25 ((IntKind.wrap .i64 (t6-1)).toNat*5)) 2 (.string v28)∧
 ∃v29,ay h24 (adr a25 ((IntKind.wrap .i64 (t6-1)).toNat*5)) 3 (.bool v29)∧
 ∃v30,ay h24 (adr a25 ((IntKind.wrap .i64 (t6-1)).toNat*5)) 4 (.bool v30)∧
 (cj t6 x0.len∧∃a31,x0.a=some a31∧
 ∃v32,aD h24 (adr a31 (t6.toNat*5)) 0 v32∧
 ∃v33,aD h24 (adr a31 (t6.toNat*5)) 1 v33∧
 ∃v34,aD h24 (adr a31 (t6.toNat*5)) 2 v34∧
 ∃v35,bI h24 (adr a31 (t6.toNat*5)) 3 v35∧
 ∃v36,bI h24 (adr a31 (t6.toNat*5)) 4 v36∧
 (cj t6 x0.len∧∃a37,x0.a=some a37∧
 (fC h24 (adr a37 (t6.toNat*5)) (jJ v26 v27 v28 v29 v30) (fun h38=>
 (cj (IntKind.wrap .i64 (t6-1)) x0.len∧∃a39,x0.a=some a39∧
 (fC h38 (adr a39 ((IntKind.wrap .i64 (t6-1)).toNat*5)) (jJ v32 v33 v34 v35 v36) (fun h40=>
 Join (fun(t75:Unit) h76=>
 CondP (decide ((IntKind.wrap .i64 (x2-t6))≥(2:Int))) (
 LoopP (fun I77 (t78:Int) h79=>
 CondP (decide (t78<x2)) (
 (cj t78 x0.len∧∃a80,x0.a=some a80∧
 ∃v81,aD h79 (adr a80 (t78.toNat*5)) 0 v81∧
 ∃v82,aD h79 (adr a80 (t78.toNat*5)) 1 v82∧
 ∃v83,aD h79 (adr a80 (t78.toNat*5)) 2 v83∧
 ∃v84,bI h79 (adr a80 (t78.toNat*5)) 3 v84∧
 ∃v85,bI h79 (adr a80 (t78.toNat*5)) 4 v85∧
 (cj (IntKind.wrap .i64 (t78-1)) x0.len∧∃a86,x0.a=some a86∧
 ∃v87,ay h79 (adr a86 ((IntKind.wrap .i64 (t78-1)).toNat*5)) 0 (.string v87)∧
 ∃v88,ay h79 (adr a86 ((IntKind.wrap .i64 (t78-1)).toNat*5)) 1 (.string v88)∧
 ∃v89,ay h79 (adr a86 ((IntKind.wrap .i64 (t78-1)).toNat*5)) 2 (.string v89)∧
 ∃v90,ay h79 (adr a86 ((IntKind.wrap .i64 (t78-1)).toNat*5)) 3 (.bool v90)∧
 ∃v91,ay h79 (adr a86 ((IntKind.wrap .i64 (t78-1)).toNat*5)) 4 (.bool v91)∧
 HV PG x3 [ma v81 v82 v83 v84 v85,ma v87 v88 v89 v90 v91] bX (fun(e92:Int) h93=>
 CondP (!(decide (e92<(0:Int)))) (
 J4 t6 h93) (
 (cj (IntKind.wrap .i64 (t78-1)) x0.len∧∃a94,x0.a=some a94∧
 ∃v95,ay h93 (adr a94 ((IntKind.wrap .i64 (t78-1)).toNat*5)) 0 (.string v95)∧
 ∃v96,ay h93 (adr a94 ((IntKind.wrap .i64 (t78-1)).toNat*5)) 1 (.string v96)∧
 ∃v97,ay h93 (adr a94 ((IntKind.wrap .i64 (t78-1)).toNat*5)) 2 (.string v97)∧
 ∃v98,ay h93 (adr a94 ((IntKind.wrap .i64 (t78-1)).toNat*5)) 3 (.bool v98)∧
 ∃v99,ay h93 (adr a94 ((IntKind.wrap .i64 (t78-1)).toNat*5)) 4 (.bool v99)∧
 (cj t78 x0.len∧∃a100,x0.a=some a100∧
 ∃v101,aD h93 (adr a100 (t78.toNat*5)) 0 v101∧
 ∃v102,aD h93 (adr a100 (t78.toNat*5)) 1 v102∧
 ∃v103,aD h93 (adr a100 (t78.toNat*5)) 2 v103∧
 ∃v104,bI h93 (adr a100 (t78.toNat*5)) 3 v104∧
 ∃v105,bI h93 (adr a100 (t78.toNat*5)) 4 v105∧
 (cj t78 x0.len∧∃a106,x0.a=some a106∧
 (fC h93 (adr a106 (t78.toNat*5)) (jJ v95 v96 v97 v98 v99) (fun h107=>
 (cj (IntKind.wrap .i64 (t78-1)) x0.len∧∃a108,x0.a=some a108∧
 (fC h107 (adr a108 ((IntKind.wrap .i64 (t78-1)).toNat*5)) (jJ v101 v102 v103 v104 v105) (fun h109=>
 I77 (IntKind.wrap .i64 (t78+1)) h109)))))))))) h79))) (
 J4 t6 h79)) (IntKind.wrap .i64 (t6+1)) h76) (
 J4 t6 h76)) (fun J41=>
 CondP (decide ((IntKind.wrap .i64 (t6-x1))≥(2:Int))) (
 LoopP (fun I42 (t43:Int) h44=>
 CondP (decide (t43≥(1:Int))) (
 (cj t43 x0.len∧∃a45,x0.a=some a45∧
 ∃v46,aD h44 (adr a45 (t43.toNat*5)) 0 v46∧
 ∃v47,aD h44 (adr a45 (t43.toNat*5)) 1 v47∧
 ∃v48,aD h44 (adr a45 (t43.toNat*5)) 2 v48∧
 ∃v49,bI h44 (adr a45 (t43.toNat*5)) 3 v49∧
 ∃v50,bI h44 (adr a45 (t43.toNat*5)) 4 v50∧
 (cj (IntKind.wrap .i64 (t43-1)) x0.len∧∃a51,x0.a=some a51∧
 ∃v52,ay h44 (adr a51 ((IntKind.wrap .i64 (t43-1)).toNat*5)) 0 (.string v52)∧
 ∃v53,ay h44 (adr a51 ((IntKind.wrap .i64 (t43-1)).toNat*5)) 1 (.string v53)∧
 ∃v54,ay h44 (adr a51 ((IntKind.wrap .i64 (t43-1)).toNat*5)) 2 (.string v54)∧
 ∃v55,ay h44 (adr a51 ((IntKind.wrap .i64 (t43-1)).toNat*5)) 3 (.bool v55)∧
 ∃v56,ay h44 (adr a51 ((IntKind.wrap .i64 (t43-1)).toNat*5)) 4 (.bool v56)∧
 HV PG x3 [ma v46 v47 v48 v49 v50,ma v52 v53 v54 v55 v56] bX (fun(e57:Int) h58=>
 CondP (!(decide (e57<(0:Int)))) (
 J41 () h58) (
 (cj (IntKind.wrap .i64 (t43-1)) x0.len∧∃a59,x0.a=some a59∧
 ∃v60,ay h58 (adr a59 ((IntKind.wrap .i64 (t43-1)).toNat*5)) 0 (.string v60)∧
 ∃v61,ay h58 (adr a59 ((IntKind.wrap .i64 (t43-1)).toNat*5)) 1 (.string v61)∧
 ∃v62,ay h58 (adr a59 ((IntKind.wrap .i64 (t43-1)).toNat*5)) 2 (.string v62)∧
 ∃v63,ay h58 (adr a59 ((IntKind.wrap .i64 (t43-1)).toNat*5)) 3 (.bool v63)∧
 ∃v64,ay h58 (adr a59 ((IntKind.wrap .i64 (t43-1)).toNat*5)) 4 (.bool v64)∧
 (cj t43 x0.len∧∃a65,x0.a=some a65∧
 ∃v66,aD h58 (adr a65 (t43.toNat*5)) 0 v66∧
 ∃v67,aD h58 (adr a65 (t43.toNat*5)) 1 v67∧
 ∃v68,aD h58 (adr a65 (t43.toNat*5)) 2 v68∧
 ∃v69,bI h58 (adr a65 (t43.toNat*5)) 3 v69∧
 ∃v70,bI h58 (adr a65 (t43.toNat*5)) 4 v70∧
 (cj t43 x0.len∧∃a71,x0.a=some a71∧
 (fC h58 (adr a71 (t43.toNat*5)) (jJ v60 v61 v62 v63 v64) (fun h72=>
 (cj (IntKind.wrap .i64 (t43-1)) x0.len∧∃a73,x0.a=some a73∧
 (fC h72 (adr a73 ((IntKind.wrap .i64 (t43-1)).toNat*5)) (jJ v66 v67 v68 v69 v70) (fun h74=>
 I42 (IntKind.wrap .i64 (t43-1)) h74)))))))))) h44))) (
 J41 () h44)) (IntKind.wrap .i64 (t6-1)) h40) (
 J41 () h40)))))))))))))) (fun J8=>
 CondP (decide (t6<x2)) (
 (cj t6 x0.len∧∃a9,x0.a=some a9∧
 ∃v10,aD h7 (adr a9 (t6.toNat*5)) 0 v10∧
 ∃v11,aD h7 (adr a9 (t6.toNat*5)) 1 v11∧
 ∃v12,aD h7 (adr a9 (t6.toNat*5)) 2 v12∧
 ∃v13,bI h7 (adr a9 (t6.toNat*5)) 3 v13∧
 ∃v14,bI h7 (adr a9 (t6.toNat*5)) 4 v14∧
 (cj (IntKind.wrap .i64 (t6-1)) x0.len∧∃a15,x0.a=some a15∧
 ∃v16,ay h7 (adr a15 ((IntKind.wrap .i64 (t6-1)).toNat*5)) 0 (.string v16)∧
 ∃v17,ay h7 (adr a15 ((IntKind.wrap .i64 (t6-1)).toNat*5)) 1 (.string v17)∧
 ∃v18,ay h7 (adr a15 ((IntKind.wrap .i64 (t6-1)).toNat*5)) 2 (.string v18)∧
 ∃v19,ay h7 (adr a15 ((IntKind.wrap .i64 (t6-1)).toNat*5)) 3 (.bool v19)∧
 ∃v20,ay h7 (adr a15 ((IntKind.wrap .i64 (t6-1)).toNat*5)) 4 (.bool v20)∧
 HV PG x3 [ma v10 v11 v12 v13 v14,ma v16 v17 v18 v19 v20] bX (fun(e21:Int) h22=>
 J8 (!(decide (e21<(0:Int)))) h22) h7))) (
 J8 false h7))) t2.1 h3)) (
 K false h3)) (IntKind.wrap .i64 (x1+1),0) h0
noncomputable def jM:Ann:=.node .nil (.node .nil (.node (.node .nil (.loop [(9,.c (.int .i64)),(10,.c (.int .i64))] (.node .nil (.join [(9,.c (.int .i64))] (.node (.loop [(9,.c (.int .i64))] (.node (.join [(36,.c .bool)] .nil .nil) .nil)) (.node .nil (.node .nil (.node .nil (.join [] (.node .nil (.node (.node .nil (.loop [(11,.c (.int .i64))] .nil)) .nil)) (.node .nil (.node (.node .nil (.loop [(12,.c (.int .i64))] .nil)) .nil))))))) .nil)))) .nil))
theorem jK(x0:SliceV)(x1:Int)(x2:Int)(x3:Value){K:cQ [.c .bool]→ad→Prop}{h0:ad}(h:fG x0 x1 x2 x3 K h0):HC PG dI [.slice x0.a x0.len x0.cap,.int .i64 x1,.int .i64 x2,x3] [.c .bool] K h0:=dG jM Tryz.func125 Tryz.call125 rfl rfl (by kernel_rfl) h
def gG(x0:SliceV)(x1:Int)(x2:Int)(x3:Int)(x4:Value)(K:(Int)→ad→Prop)(h0:ad):Prop:=
 (cj x3 x0.len∧∃a1,x0.a=some a1∧
 ∃v2,aD h0 (adr a1 (x3.toNat*5)) 0 v2∧
 ∃v3,aD h0 (adr a1 (x3.toNat*5)) 1 v3∧
 ∃v4,aD h0 (adr a1 (x3.toNat*5)) 2 v4∧
 ∃v5,bI h0 (adr a1 (x3.toNat*5)) 3 v5∧
 ∃v6,bI h0 (adr a1 (x3.toNat*5)) 4 v6∧
 (cj x1 x0.len∧∃a7,x0.a=some a7∧
 ∃v8,aD h0 (adr a7 (x1.toNat*5)) 0 v8∧
 ∃v9,aD h0 (adr a7 (x1.toNat*5)) 1 v9∧
 ∃v10,aD h0 (adr a7 (x1.toNat*5)) 2 v10∧
 ∃v11,bI h0 (adr a7 (x1.toNat*5)) 3 v11∧
 ∃v12,bI h0 (adr a7 (x1.toNat*5)) 4 v12∧
 (cj x1 x0.len∧∃a13,x0.a=some a13∧
 (fC h0 (adr a13 (x1.toNat*5)) (jJ v2 v3 v4 v5 v6) (fun h14=>
 (cj x3 x0.len∧∃a15,x0.a=some a15∧
 (fC h14 (adr a15 (x3.toNat*5)) (jJ v8 v9 v10 v11 v12) (fun h16=>
 LoopP (fun I17 (t18:Int×Int) h19=>
 LoopP (fun I20 (t21:Int) h22=>
 Join (fun(t38:Bool) h39=>
 CondP t38 (
 I20 (IntKind.wrap .i64 (t21+1)) h39) (
 LoopP (fun I40 (t41:Int) h42=>
 Join (fun(t58:Bool) h59=>
 CondP t58 (
 I40 (IntKind.wrap .i64 (t41-1)) h59) (
 CondP (decide (t21>t41)) (
 K t21 h59) (
 (cj t41 x0.len∧∃a60,x0.a=some a60∧
 ∃v61,aD h59 (adr a60 (t41.toNat*5)) 0 v61∧
 ∃v62,aD h59 (adr a60 (t41.toNat*5)) 1 v62∧
 ∃v63,aD h59 (adr a60 (t41.toNat*5)) 2 v63∧
 ∃v64,bI h59 (adr a60 (t41.toNat*5)) 3 v64∧
 ∃v65,bI h59 (adr a60 (t41.toNat*5)) 4 v65∧
 (cj t21 x0.len∧∃a66,x0.a=some a66∧
 ∃v67,aD h59 (adr a66 (t21.toNat*5)) 0 v67∧
 ∃v68,aD h59 (adr a66 (t21.toNat*5)) 1 v68∧
 ∃v69,aD h59 (adr a66 (t21.toNat*5)) 2 v69∧
 ∃v70,bI h59 (adr a66 (t21.toNat*5)) 3 v70∧
 ∃v71,bI h59 (adr a66 (t21.toNat*5)) 4 v71∧
 (cj t21 x0.len∧∃a72,x0.a=some a72∧
 (fC h59 (adr a72 (t21.toNat*5)) (jJ v61 v62 v63 v64 v65) (fun h73=>
 (cj t41 x0.len∧∃a74,x0.a=some a74∧
 (fC h73 (adr a74 (t41.toNat*5)) (jJ v67 v68 v69 v70 v71) (fun h75=>
 I17 (IntKind.wrap .i64 (t21+1),IntKind.wrap .i64 (t41-1)) h75))))))))))) (fun J43=>
 CondP (decide (t21≤t41)) (
 (cj x1 x0.len∧∃a44,x0.a=some a44∧
 ∃v45,aD h42 (adr a44 (x1.toNat*5)) 0 v45∧
 ∃v46,aD h42 (adr a44 (x1.toNat*5)) 1 v46∧
 ∃v47,aD h42 (adr a44 (x1.toNat*5)) 2 v47∧
 ∃v48,bI h42 (adr a44 (x1.toNat*5)) 3 v48∧
 ∃v49,bI h42 (adr a44 (x1.toNat*5)) 4 v49∧
 (cj t41 x0.len∧∃a50,x0.a=some a50∧
 ∃v51,aD h42 (adr a50 (t41.toNat*5)) 0 v51∧
 ∃v52,aD h42 (adr a50 (t41.toNat*5)) 1 v52∧
 ∃v53,aD h42 (adr a50 (t41.toNat*5)) 2 v53∧
 ∃v54,bI h42 (adr a50 (t41.toNat*5)) 3 v54∧
 ∃v55,bI h42 (adr a50 (t41.toNat*5)) 4 v55∧
 HV PG x4 [ma v45 v46 v47 v48 v49,ma v51 v52 v53 v54 v55] bX (fun(e56:Int) h57=>
 J43 (decide (e56<(0:Int))) h57) h42))) (
 J43 false h42))) t18.2 h39)) (fun J23=>
 CondP (decide (t21≤t18.2)) (
 (cj x1 x0.len∧∃a24,x0.a=some a24∧
 ∃v25,aD h22 (adr a24 (x1.toNat*5)) 0 v25∧
 ∃v26,aD h22 (adr a24 (x1.toNat*5)) 1 v26∧
 ∃v27,aD h22 (adr a24 (x1.toNat*5)) 2 v27∧
 ∃v28,bI h22 (adr a24 (x1.toNat*5)) 3 v28∧
 ∃v29,bI h22 (adr a24 (x1.toNat*5)) 4 v29∧
 (cj t21 x0.len∧∃a30,x0.a=some a30∧
 ∃v31,aD h22 (adr a30 (t21.toNat*5)) 0 v31∧
 ∃v32,aD h22 (adr a30 (t21.toNat*5)) 1 v32∧
 ∃v33,aD h22 (adr a30 (t21.toNat*5)) 2 v33∧
 ∃v34,bI h22 (adr a30 (t21.toNat*5)) 3 v34∧
 ∃v35,bI h22 (adr a30 (t21.toNat*5)) 4 v35∧
 HV PG x4 [ma v25 v26 v27 v28 v29,ma v31 v32 v33 v34 v35] bX (fun(e36:Int) h37=>
 J23 (!(decide (e36<(0:Int)))) h37) h22))) (
 J23 false h22))) t18.1 h19) (IntKind.wrap .i64 (x1+1),IntKind.wrap .i64 (x2-1)) h16))))))))
noncomputable def lK:Ann:=.node .nil (.node .nil (.node .nil (.node (.loop [(11,.c (.int .i64)),(12,.c (.int .i64))] (.node (.loop [(11,.c (.int .i64))] (.node (.join [(47,.c .bool)] .nil .nil) .nil)) (.node (.loop [(12,.c (.int .i64))] (.node (.join [(65,.c .bool)] .nil .nil) .nil)) .nil))) .nil)))
theorem lF(x0:SliceV)(x1:Int)(x2:Int)(x3:Int)(x4:Value){K:cQ bX→ad→Prop}{h0:ad}(h:gG x0 x1 x2 x3 x4 K h0):HC PG eD [.slice x0.a x0.len x0.cap,.int .i64 x1,.int .i64 x2,.int .i64 x3,x4] bX K h0:=dG lK Tryz.func126 Tryz.call126 rfl rfl (by kernel_rfl) h
end Go.Proofs
