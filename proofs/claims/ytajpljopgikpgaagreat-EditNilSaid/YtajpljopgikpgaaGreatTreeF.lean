/- A part of the proof that the named laws of this program answer true, whatever the input. -/
import Derived.Test.YtajpljopgikpgaaGreatProg
import Derived.Test.YtajpljopgikpgaaGreatLift3
import Derived.KernelRfl
import Derived.Laws.Externs
set_option maxRecDepth 100000
set_option linter.unusedVariables false
open List renaming rec→cO
open Nat renaming ble→nR,le_of_ble_eq_true→eC
namespace Go.Proofs
open Go.Lift
noncomputable abbrev PG:Program:=Tryz.prog
theorem Tryz.mixed:PG.follows .mixedOrders=true:=by kernel_rfl
abbrev om:FuncId:=4
abbrev nx:FuncId:=5
abbrev jf:FuncId:=7
abbrev dV:FuncId:=9
abbrev dg:FuncId:=10
abbrev gv:FuncId:=11
abbrev bR:FuncId:=13
abbrev jk:FuncId:=15
abbrev jP:FuncId:=16
abbrev ia:FuncId:=17
abbrev nt:FuncId:=18
abbrev oT:FuncId:=19
abbrev dz:FuncId:=20
abbrev jO:FuncId:=21
abbrev iM:FuncId:=22
abbrev iL:FuncId:=23
abbrev oO:FuncId:=24
abbrev eH:FuncId:=25
abbrev mD:FuncId:=29
abbrev nu:FuncId:=30
abbrev ny:FuncId:=31
abbrev eK:FuncId:=32
abbrev d5:FuncId:=33
abbrev fx:FuncId:=34
abbrev lg:FuncId:=35
abbrev oU:FuncId:=36
abbrev lY:FuncId:=39
abbrev rL:FuncId:=43
abbrev cA:FuncId:=44
abbrev lX:FuncId:=45
abbrev pG:FuncId:=46
abbrev kz:FuncId:=47
abbrev kw:FuncId:=48
abbrev ld:FuncId:=49
abbrev lh:FuncId:=50
abbrev mC:FuncId:=51
abbrev gu:FuncId:=52
abbrev eL:FuncId:=53
abbrev d8:FuncId:=54
abbrev iQ:FuncId:=55
abbrev jx:FuncId:=66
abbrev jw:FuncId:=67
abbrev hO:FuncId:=68
abbrev iH:FuncId:=69
abbrev f3:FuncId:=70
abbrev ji:FuncId:=71
abbrev cF:FuncId:=72
abbrev c9:FuncId:=73
abbrev iG:FuncId:=74
abbrev ce:FuncId:=75
abbrev lN:FuncId:=76
abbrev lM:FuncId:=77
abbrev hJ:FuncId:=78
abbrev qC:FuncId:=79
abbrev eM:FuncId:=80
abbrev mE:FuncId:=81
abbrev fG:FuncId:=82
abbrev jl:FuncId:=83
abbrev jh:FuncId:=84
abbrev db:FuncId:=85
abbrev eg:FuncId:=86
abbrev f6:FuncId:=87
abbrev jN:FuncId:=88
abbrev pH:FuncId:=93
abbrev iK:FuncId:=101
abbrev bA:FuncId:=102
abbrev bT:FuncId:=103
abbrev bL:FuncId:=104
abbrev hP:FuncId:=105
abbrev bX:FuncId:=106
abbrev gJ:FuncId:=107
abbrev dy:FuncId:=108
abbrev iv:FuncId:=109
abbrev ef:FuncId:=110
abbrev gt:FuncId:=111
abbrev mB:FuncId:=112
abbrev ee:FuncId:=113
abbrev lf:FuncId:=114
abbrev df:FuncId:=115
abbrev oQ:FuncId:=116
abbrev jj:FuncId:=117
abbrev cU:FuncId:=118
abbrev bF:FuncId:=119
abbrev fZ:FuncId:=120
abbrev fY:FuncId:=121
abbrev bm:FuncId:=122
abbrev cI:FuncId:=123
abbrev bf:FuncId:=124
abbrev lO:FuncId:=125
abbrev iJ:FuncId:=126
abbrev j7:FuncId:=139
abbrev bC:FuncId:=144
abbrev ct:FuncId:=145
abbrev iI:FuncId:=146
abbrev cE:FuncId:=147
abbrev gS:FuncId:=148
abbrev ib:FuncId:=149
abbrev cD:FuncId:=150
abbrev cj:FuncId:=151
abbrev eN:FuncId:=152
abbrev dU:FuncId:=153
abbrev jg:FuncId:=154
abbrev dF:FuncId:=155
abbrev iE:FuncId:=156
abbrev iP:FuncId:=162
abbrev cM:FuncId:=165
abbrev fc:FuncId:=166
abbrev g5:FuncId:=174
abbrev CS:TypeId:=3
abbrev mq:TypeId:=4
abbrev t_u8:TypeId:=5
abbrev sE:TypeId:=9
abbrev t_u64:TypeId:=22
abbrev lW:TypeId:=24
abbrev ft:TypeId:=26
abbrev fS:TypeId:=27
abbrev aJ:TypeId:=31
abbrev ax:TypeId:=32
abbrev bd:TypeId:=34
abbrev AN:TypeId:=39
abbrev ah:TypeId:=44
abbrev CT:TypeId:=45
abbrev oh:TypeId:=49
abbrev Av:TypeId:=78
abbrev rd:TypeId:=88
abbrev mY:TypeId:=91
abbrev Dc:TypeId:=97
abbrev Cf:TypeId:=99
abbrev Ev:TypeId:=100
abbrev xu:TypeId:=108
abbrev iw:TypeId:=114
abbrev jt:TypeId:=119
abbrev i2:TypeId:=134
abbrev jM:TypeId:=136
abbrev aD:TypeId:=139
abbrev t_u32:TypeId:=172
abbrev Ci:TypeId:=173
abbrev Cg:TypeId:=175
abbrev aM:TypeId:=177
abbrev sF:TypeId:=181
abbrev eJ:TypeId:=185
abbrev tY:TypeId:=208
abbrev B8:TypeId:=212
abbrev AO:TypeId:=216
abbrev Aw:TypeId:=240
theorem jm(args:Array Value)(w:World):(callFunc dy args).run PG w=((Extern.SlicesOverlaps.overlaps #[i2,i2] #[mq] args).run PG w).andThen fun v w=>.ok (.value v) w:=run_callFunc_extern (P:=PG) Tryz.func108 (by kernel_rfl) (by kernel_rfl) (by kernel_rfl) (by kernel_rfl) args w
theorem j9(args:Array Value)(w:World):(callFunc dU args).run PG w=((Extern.SlicesOverlaps.overlaps #[fS,fS] #[mq] args).run PG w).andThen fun v w=>.ok (.value v) w:=run_callFunc_extern (P:=PG) Tryz.func153 (by kernel_rfl) (by kernel_rfl) (by kernel_rfl) (by kernel_rfl) args w
theorem jH(args:Array Value)(w:World):(callFunc dF args).run PG w=((Extern.SlicesOverlaps.overlaps #[jM,jM] #[mq] args).run PG w).andThen fun v w=>.ok (.value v) w:=run_callFunc_extern (P:=PG) Tryz.func155 (by kernel_rfl) (by kernel_rfl) (by kernel_rfl) (by kernel_rfl) args w
abbrev dT(h:ac)(a:Addr)(i:Nat)(v:Value):Prop:=aP h (adr a i)=some v
abbrev gg(i:Int)(n:Nat):Prop:=(0:Int)≤i∧i<(n:Int)
abbrev T6:=Int×Int×Int×Int×(Option Addr)×(Option Addr)
abbrev kd6:Kind:=.agg [.int .i64,.int .u64,.int .u64,.int .u64,.ptr,.ptr]
noncomputable def E1(l:List Nat):Nat:=cO 0 (fun i _ s=>Nat.add (Nat.pow 2 i) s) l
noncomputable def dn(a f l:List Nat)(d n:Nat):DM:=.mk (E1 a) (Nat.sub (Nat.sub (Nat.pow 2 n) 1) (E1 f)) (E1 l) (match d with|0=>0|d+1=>Nat.pow 2 d)
noncomputable def dm(a l:List Nat)(d n:Nat):DM:=dn a a l d n
noncomputable def dl(n:Nat)(l:List (Nat→DM)):List DM:=cO [] (fun f _ r=>f n::r) l
noncomputable def EC(i n:Nat)(a:DA):DA:=Nat.rec (fun _=>a) (fun _ r i=>.take i (r (Nat.succ i))) n i
noncomputable def ED(l:List Nat)(a:DA):DA:=cO a (fun i _ r=>.take i r) l
abbrev aw(h g:ac)(i:Nat)(v:ByteArray):Prop:=aP h (adr (bN g) i)=some (.string v)
abbrev gn(h g:ac)(l:List Value)(k:ac→Prop):Prop:=nO h (some (bN g)) 0 l∧At (fX h (bN g) 0 l) k
abbrev nv(h:ac)(z:List Value)(t:TypeId)(l:List Value)(k:ac→Prop):Prop:=At (hnew h z t) fun g=>nO g (some (bN h)) 0 l∧At (fX g (bN h) 0 l) k
abbrev qk(x:ByteArray×ByteArray):List Value:= [.string x.1,.string x.2]
abbrev m3:List Value:= [.int .i64 0,.int .u64 0,.int .u64 0,.int .u64 0,.pointer none,.pointer none]
abbrev qj(x:Int×Int×Int×Int×(Option Addr)×(Option Addr)):List Value:= [.int .i64 x.1,.int .u64 x.2.1,.int .u64 x.2.2.1,.int .u64 x.2.2.2.1,.pointer x.2.2.2.2.1,.pointer x.2.2.2.2.2]
abbrev sw(x0:Option Addr)(x1:ByteArray):List Value:= [.pointer x0,.string x1]
abbrev D2:Value:=.agg #[.int .i64 0,.int .u64 0,.int .u64 0,.int .u64 0,.pointer none,.pointer none]
abbrev m4(x0:ByteArray)(x1:ByteArray):Value:=.agg #[.string x0,.string x1]
abbrev CB:List Kind:= [.agg [.int .i64,.int .u64,.int .u64,.int .u64,.ptr,.ptr],.c (.int .i64)]
abbrev EV:List Kind:= [.c .str,.c .bool]
abbrev EU:List Kind:= [.agg [.int .i64,.int .u64,.int .u64,.int .u64,.ptr,.ptr],.c .bool]
abbrev ET:List Kind:= [.c .ptr,.c (.int .i64)]
abbrev yd:List Kind:= [.c (.int .i64)]
abbrev ml(f:FuncId)(a:List Value)(K:Bool→ac→Prop)(h:ac):Prop:=HC PG f a [.c .bool] K h
abbrev Aa(f:FuncId)(a:List Value)(K:((T6)×Int)→ac→Prop)(h:ac):Prop:=HC PG f a CB K h
abbrev Dw(f:FuncId)(a:List Value)(K:(ByteArray×Bool)→ac→Prop)(h:ac):Prop:=HC PG f a EV K h
abbrev hK3(f:FuncId)(a:List Value)(K:((T6)×Bool)→ac→Prop)(h:ac):Prop:=HC PG f a EU K h
abbrev Ca(f:FuncId)(a:List Value)(K:((Option Addr)×Int)→ac→Prop)(h:ac):Prop:=HC PG f a ET K h
abbrev ir(f:FuncId)(a:List Value)(K:Int→ac→Prop)(h:ac):Prop:=HC PG f a yd K h
abbrev m0(f:FuncId)(a:List Value)(K:SliceV→ac→Prop)(h:ac):Prop:=HC PG f a [.c .slice] K h
abbrev Ax(x:ByteArray×ByteArray):Value:=.agg #[.string x.1,.string x.2]
abbrev bJ(h g:ac)(i:Nat)(v:Int):Prop:=aP h (adr (bN g) i)=some (.int .i64 v)
abbrev aj(h g:ac)(i:Nat)(v:Int):Prop:=aP h (adr (bN g) i)=some (.int .u64 v)
abbrev az(h g:ac)(i:Nat)(v:Option Addr):Prop:=aP h (adr (bN g) i)=some (.pointer v)
abbrev zg3:Value:=.agg #[.int .u64 0,.int .u64 0,.int .u64 0]
abbrev yV(x0:Int)(x1:Int)(x2:Int)(x3:Int)(x4:Option Addr)(x5:Option Addr):Value:=.agg #[.int .i64 x0,.int .u64 x1,.int .u64 x2,.int .u64 x3,.pointer x4,.pointer x5]
abbrev cT(h:ac)(a:Addr)(i:Nat)(v:Int):Prop:=aP h (adr a i)=some (.int .u64 v)
abbrev c5(h:ac)(a:Addr)(v:Value)(k:ac→Prop):Prop:=Wr h a∧At (hset h a v) k
abbrev uY(x0:ByteArray)(x1:ByteArray):List Value:= [.string x0,.string x1]
abbrev uX(x0:Int)(x1:Int)(x2:Int)(x3:Int)(x4:Option Addr)(x5:Option Addr):List Value:= [.int .i64 x0,.int .u64 x1,.int .u64 x2,.int .u64 x3,.pointer x4,.pointer x5]
abbrev B7(x0:Int)(x1:Int)(x2:Int):Value:=.agg #[.int .u64 x0,.int .u64 x1,.int .u64 x2]
abbrev ES:List Kind:= [.c .ptr,.c .bool]
abbrev DZ(f:FuncId)(a:List Value)(K:((Option Addr)×Bool)→ac→Prop)(h:ac):Prop:=HC PG f a ES K h
abbrev EA(x:Int×Int×Int×Int×(Option Addr)×(Option Addr)):Value:=.agg #[.int .i64 x.1,.int .u64 x.2.1,.int .u64 x.2.2.1,.int .u64 x.2.2.2.1,.pointer x.2.2.2.2.1,.pointer x.2.2.2.2.2]
abbrev Eu(x0:Option Addr)(x1:Option Addr)(x2:Int)(x3:Int)(x4:Int)(x5:Int)(x6:Option Addr)(x7:Option Addr):List Value:= [.pointer x0,.pointer x1,.int .i64 x2,.int .u64 x3,.int .u64 x4,.int .u64 x5,.pointer x6,.pointer x7]
abbrev jA(h:ac)(a:Addr)(i:Nat)(v:Int):Prop:=aP h (adr a i)=some (.int .i64 v)
abbrev cL(h:ac)(a:Addr)(i:Nat)(v:Option Addr):Prop:=aP h (adr a i)=some (.pointer v)
abbrev qg(x0:Option Addr)(x1:Option Addr):List Value:= [.pointer x0,.pointer x1]
abbrev dZ(h:ac)(a:Addr)(i:Nat)(v:ByteArray):Prop:=aP h (adr a i)=some (.string v)
abbrev sd:List Value:= [.string (⟨#[]⟩:ByteArray),.string (⟨#[]⟩:ByteArray)]
abbrev CY(x:Int×Int×Int):List Value:= [.int .u64 x.1,.int .u64 x.2.1,.int .u64 x.2.2]
abbrev ER:List Kind:= [.agg [.int .i64,.int .u64,.int .u64,.int .u64,.ptr,.ptr]]
abbrev EB(f:FuncId)(a:List Value)(K:T6→ac→Prop)(h:ac):Prop:=HC PG f a ER K h
abbrev Ez(x:Int×Int×Int):Value:=.agg #[.int .u64 x.1,.int .u64 x.2.1,.int .u64 x.2.2]
abbrev D5(x0:Option Addr)(x1:Option Addr)(x2:ByteArray)(x3:ByteArray):List Value:= [.pointer x0,.pointer x1,.string x2,.string x3]
abbrev EP:List Kind:= [.c .ptr,.c .bool,.c .bool]
abbrev iC(f:FuncId)(a:List Value)(K:(Option Addr)→ac→Prop)(h:ac):Prop:=HC PG f a [.c .ptr] K h
abbrev ym(f:FuncId)(a:List Value)(K:((Option Addr)×Bool×Bool)→ac→Prop)(h:ac):Prop:=HC PG f a EP K h
abbrev EE:List Value:= [.int .u64 0,.int .u64 0,.int .u64 0,.pointer none,.string (⟨#[]⟩:ByteArray),.int .u64 0]
abbrev EF(x0:Int)(x1:Int)(x2:Int)(x3:Option Addr)(x4:ByteArray)(x5:Int):List Value:= [.int .u64 x0,.int .u64 x1,.int .u64 x2,.pointer x3,.string x4,.int .u64 x5]
abbrev B6(x0:Int)(x1:Int)(x2:Int)(x3:Option Addr)(x4:ByteArray)(x5:Int):Value:=.agg #[.int .u64 x0,.int .u64 x1,.int .u64 x2,.pointer x3,.string x4,.int .u64 x5]
abbrev EO:List Kind:= [.c (.int .u64)]
abbrev nV(f:FuncId)(a:List Value)(K:Int→ac→Prop)(h:ac):Prop:=HC PG f a EO K h
abbrev Cc(h:ac)(a:Addr)(l:List Value)(k:ac→Prop):Prop:=nO h (some a) 0 l∧At (fX h a 0 l) k
abbrev vl8(x0:Option Addr)(x1:Option Addr)(x2:Option Addr):List Value:= [.pointer x0,.pointer x1,.pointer x2]
abbrev iW(h:ac)(a:Addr)(i:Nat)(v:Bool):Prop:=aP h (adr a i)=some (.bool v)
abbrev ci(h:ac)(a:Addr)(i:Nat)(v:SliceV):Prop:=aP h (adr a i)=some (.slice v.a v.len v.cap)
abbrev C5(x0:Option Addr)(x1:Int):List Value:= [.pointer x0,.int .u8 x1]
abbrev C8(x0:Option Addr)(x1:ByteArray)(x2:ByteArray):List Value:= [.pointer x0,.string x1,.string x2]
abbrev AH(x0:Option Addr)(x1:Option Addr)(x2:Int):List Value:= [.pointer x0,.pointer x1,.int .i64 x2]
abbrev EN:List Kind:= [.c (.int .i64),.c .bool]
abbrev vA(f:FuncId)(a:List Value)(K:(Int×Bool)→ac→Prop)(h:ac):Prop:=HC PG f a EN K h
abbrev D8(x0:Int)(x1:Int):Value:=.agg #[.int .u64 x0,.int .u64 x1]
abbrev DY(x:Int×Int×Int×(Option Addr)×ByteArray×Int):List Value:= [.int .u64 x.1,.int .u64 x.2.1,.int .u64 x.2.2.1,.pointer x.2.2.2.1,.string x.2.2.2.2.1,.int .u64 x.2.2.2.2.2]
abbrev nU(x0:Int)(x1:Int):List Value:= [.int .u64 x0,.int .i64 x1]
abbrev mp(x0:Option Addr)(x1:Int):List Value:= [.pointer x0,.int .i64 x1]
abbrev vW(x0:Option Addr)(x1:Option Addr)(x2:Int)(x3:Option Addr):List Value:= [.pointer x0,.pointer x1,.int .i64 x2,.pointer x3]
abbrev Ej:List Kind:= [.agg [.str,.str],.c .bool]
abbrev El(f:FuncId)(a:List Value)(K:((ByteArray×ByteArray)×Bool)→ac→Prop)(h:ac):Prop:=HC PG f a Ej K h
abbrev pg7(x:Int×Int×Int×(Option Addr)×ByteArray×Int):Value:=.agg #[.int .u64 x.1,.int .u64 x.2.1,.int .u64 x.2.2.1,.pointer x.2.2.2.1,.string x.2.2.2.2.1,.int .u64 x.2.2.2.2.2]
abbrev vT:List Value:= [.string (⟨#[]⟩:ByteArray),.bool false,.string (⟨#[]⟩:ByteArray),.slice none 0 0,.pointer none]
abbrev D7(x0:ByteArray)(x1:Bool)(x2:ByteArray)(x3:SliceV)(x4:Option Addr):List Value:= [.string x0,.bool x1,.string x2,.slice x3.a x3.len x3.cap,.pointer x4]
abbrev rJ(f:FuncId)(a:List Value)(K:Unit→ac→Prop)(h:ac):Prop:=HC PG f a [] K h
abbrev C7(x0:SliceV)(x1:Int)(x2:SliceV):List Value:= [.slice x0.a x0.len x0.cap,.int .i64 x1,.slice x2.a x2.len x2.cap]
abbrev Ee(x:Int×Int):List Value:= [.int .u64 x.1,.int .u64 x.2]
abbrev D1:List Value:= [.int .u64 0,.int .u64 0,.int .u64 0,.int .u64 0]
abbrev D6(x0:Int)(x1:Int)(x2:Int)(x3:Int):List Value:= [.int .u64 x0,.int .u64 x1,.int .u64 x2,.int .u64 x3]
abbrev Cd(x0:Option Addr)(x1:Int):List Value:= [.pointer x0,.int .u64 x1]
abbrev EL(x:Int×Int):Value:=.agg #[.int .u64 x.1,.int .u64 x.2]
abbrev AG(x0:SliceV)(x1:ByteArray):List Value:= [.slice x0.a x0.len x0.cap,.string x1]
abbrev dJ(h:ac)(a:Addr)(i:Nat)(v:Int):Prop:=aP h (adr a i)=some (.int .u32 v)
abbrev hE(x0:Int)(x1:Int):List Value:= [.int .u32 x0,.int .i64 x1]
abbrev Ei:List Kind:= [.c (.int .u32)]
abbrev rI(f:FuncId)(a:List Value)(K:Int→ac→Prop)(h:ac):Prop:=HC PG f a Ei K h
abbrev Ay:List Value:= [.int .u32 0,.int .u32 0,.slice none 0 0,.slice none 0 0,.bool false,.pointer none]
abbrev C6(x0:Int)(x1:Int)(x2:SliceV)(x3:SliceV)(x4:Bool)(x5:Option Addr):List Value:= [.int .u32 x0,.int .u32 x1,.slice x2.a x2.len x2.cap,.slice x3.a x3.len x3.cap,.bool x4,.pointer x5]
abbrev AF(x0:SliceV)(x1:Int)(x2:Int):List Value:= [.slice x0.a x0.len x0.cap,.int .i64 x1,.int .i64 x2]
abbrev EG(x0:SliceV)(x1:Int):List Value:= [.slice x0.a x0.len x0.cap,.int .i64 x1]
theorem eB(an:Ann){f:FuncId}{fn:Func}{args:List Value}{ks:List Kind}{K:mo ks→ac→Prop}{h:ac}{p:Prop}(hf:PG.funcs[f]? =some fn) (hcall:∀(args:Array Value) (w:World),(callFunc f args).run PG w=.ok (.enter f args) w) (hp:p) (hb:fn.body=some (fn.body.getD .skip):=by rfl) (hl:nR args.length fn.ntmps=true:=by rfl) (e:p=ux PG fn (fn.body.getD .skip) an args ks K h:=by kernel_rfl):HC PG f args ks K h:=HC.intro Tryz.mixed hf hb hcall (eC hl) (e▸hp)
theorem E2(an:Ann){f:FuncId}{fn:Func}{args:List Value}{ks:List Kind}{K:mo ks→ac→Prop}{h:ac}{p:Prop}(hf:PG.funcs[f]? =some fn) (hcall:∀(args:Array Value) (w:World),(callFunc f args).run PG w=.ok (.enter f args) w) (hp:p) (hb:fn.body=some (fn.body.getD .skip):=by rfl) (hl:nR args.length fn.ntmps=true:=by rfl) (e:p=xB PG fn (fn.body.getD .skip) an args ks K h:=by kernel_rfl):HC PG f args ks K h:=HC.introM Tryz.mixed hf hb hcall (eC hl) (e▸hp)
theorem HDI(an:Ann)(ks:List Kind){f:FuncId}{fn:Func}{args:List Value}{K:ac→Prop}{h:ac}{p:Prop}(hf:PG.funcs[f]? =some fn) (hcall:∀(args:Array Value) (w:World),(callFunc f args).run PG w=.ok (.enter f args) w) (hp:p) (hb:fn.body=some (fn.body.getD .skip):=by rfl) (hl:nR args.length fn.ntmps=true:=by rfl) (e:p=ux PG fn (fn.body.getD .skip) an args ks (fun _ h'=>K h') h:=by kernel_rfl):HD PG f args K h:=HD.intro Tryz.mixed hf hb hcall (eC hl) (e▸hp)
end Go.Proofs
