/- A part of the proof that the named laws of this program answer true, whatever the input. -/
import Derived.Test.YtajpljopgikpgaaGreatProg
import Derived.Test.YtajpljopgikpgaaGreatLift3
import Derived.KernelRfl
import Derived.Laws.Externs
set_option maxRecDepth 100000
set_option linter.unusedVariables false
open List renaming rec→dK
namespace Go.Proofs
open Go.Lift
noncomputable abbrev PG:Program:=Tryz.prog
theorem Tryz.mixed:PG.follows .mixedOrders=true:=by kernel_rfl
abbrev qx:FuncId:=3
abbrev rj:FuncId:=5
abbrev sZ:FuncId:=6
abbrev eM:FuncId:=7
abbrev cY:FuncId:=8
abbrev jl:FuncId:=9
abbrev ez:FuncId:=10
abbrev jk:FuncId:=11
abbrev fu:FuncId:=12
abbrev eR:FuncId:=13
abbrev oh:FuncId:=14
abbrev rg:FuncId:=18
abbrev kh:FuncId:=20
abbrev qf:FuncId:=24
abbrev gY:FuncId:=25
abbrev vy:FuncId:=26
abbrev vA:FuncId:=27
abbrev vz:FuncId:=28
abbrev mY:FuncId:=29
abbrev rh:FuncId:=30
abbrev rk:FuncId:=31
abbrev ol:FuncId:=32
abbrev gw:FuncId:=33
abbrev gP:FuncId:=34
abbrev oq:FuncId:=35
abbrev nr:FuncId:=36
abbrev qh:FuncId:=37
abbrev qi:FuncId:=38
abbrev pB:FuncId:=39
abbrev re:FuncId:=40
abbrev pf:FuncId:=41
abbrev ij:FuncId:=42
abbrev dk:FuncId:=44
abbrev nq:FuncId:=47
abbrev np:FuncId:=48
abbrev oo:FuncId:=49
abbrev ot:FuncId:=50
abbrev mW:FuncId:=51
abbrev jg:FuncId:=52
abbrev fj:FuncId:=53
abbrev fI:FuncId:=54
abbrev jm:FuncId:=55
abbrev il:FuncId:=56
abbrev iv:FuncId:=57
abbrev pa:FuncId:=58
abbrev sX:FuncId:=59
abbrev kO:FuncId:=60
abbrev jN:FuncId:=66
abbrev l4:FuncId:=67
abbrev kf:FuncId:=68
abbrev kR:FuncId:=69
abbrev ee:FuncId:=70
abbrev ji:FuncId:=71
abbrev cz:FuncId:=72
abbrev eu:FuncId:=73
abbrev ik:FuncId:=74
abbrev cT:FuncId:=75
abbrev o9:FuncId:=76
abbrev o5:FuncId:=77
abbrev ke:FuncId:=78
abbrev vx:FuncId:=79
abbrev dq:FuncId:=80
abbrev nt:FuncId:=81
abbrev gZ:FuncId:=82
abbrev kj:FuncId:=83
abbrev jh:FuncId:=84
abbrev dC:FuncId:=85
abbrev eP:FuncId:=86
abbrev iw:FuncId:=87
abbrev jY:FuncId:=88
abbrev sW:FuncId:=89
abbrev kQ:FuncId:=90
abbrev cU:FuncId:=91
abbrev lO:FuncId:=92
abbrev im:FuncId:=93
abbrev pe:FuncId:=94
abbrev gn:FuncId:=95
abbrev om:FuncId:=96
abbrev kT:FuncId:=101
abbrev ce:FuncId:=102
abbrev cd:FuncId:=103
abbrev cr:FuncId:=104
abbrev kg:FuncId:=105
abbrev cM:FuncId:=106
abbrev jB:FuncId:=107
abbrev eN:FuncId:=108
abbrev kE:FuncId:=109
abbrev eO:FuncId:=110
abbrev je:FuncId:=111
abbrev qg:FuncId:=112
abbrev fM:FuncId:=113
abbrev ml:FuncId:=114
abbrev dw:FuncId:=115
abbrev sY:FuncId:=116
abbrev jj:FuncId:=117
abbrev dW:FuncId:=118
abbrev cn:FuncId:=119
abbrev gf:FuncId:=120
abbrev ge:FuncId:=121
abbrev bS:FuncId:=122
abbrev dE:FuncId:=123
abbrev bM:FuncId:=124
abbrev pc:FuncId:=125
abbrev gg:FuncId:=126
abbrev o6:FuncId:=127
abbrev ri:FuncId:=128
abbrev g3:FuncId:=129
abbrev jf:FuncId:=130
abbrev l0:FuncId:=131
abbrev iM:FuncId:=132
abbrev mX:FuncId:=139
abbrev cj:FuncId:=144
abbrev df:FuncId:=145
abbrev kS:FuncId:=146
abbrev cJ:FuncId:=147
abbrev jM:FuncId:=148
abbrev ki:FuncId:=149
abbrev dz:FuncId:=150
abbrev c7:FuncId:=151
abbrev gh:FuncId:=152
abbrev fB:FuncId:=153
abbrev lN:FuncId:=154
abbrev fc:FuncId:=155
abbrev kP:FuncId:=156
abbrev pC:FuncId:=157
abbrev kU:FuncId:=162
abbrev dJ:FuncId:=165
abbrev gv:FuncId:=166
abbrev gJ:FuncId:=169
abbrev jZ:FuncId:=174
abbrev BW:TypeId:=3
abbrev pX:TypeId:=4
abbrev dx:TypeId:=5
abbrev xQ:TypeId:=9
abbrev wi:TypeId:=22
abbrev hJ:TypeId:=24
abbrev cB:TypeId:=26
abbrev cH:TypeId:=27
abbrev Iz:TypeId:=29
abbrev aY:TypeId:=31
abbrev aE:TypeId:=32
abbrev az:TypeId:=34
abbrev IA:TypeId:=35
abbrev IS:TypeId:=36
abbrev GL:TypeId:=37
abbrev G4:TypeId:=38
abbrev G2:TypeId:=39
abbrev IR:TypeId:=40
abbrev gb:TypeId:=42
abbrev al:TypeId:=44
abbrev JA:TypeId:=45
abbrev r9:TypeId:=49
abbrev tP:TypeId:=70
abbrev IT:TypeId:=71
abbrev gM:TypeId:=73
abbrev GK:TypeId:=78
abbrev LF:TypeId:=84
abbrev wm:TypeId:=88
abbrev qJ:TypeId:=91
abbrev JW:TypeId:=97
abbrev IM:TypeId:=99
abbrev Lv:TypeId:=105
abbrev K8:TypeId:=106
abbrev sG:TypeId:=108
abbrev iW:TypeId:=114
abbrev lX:TypeId:=119
abbrev lD:TypeId:=134
abbrev mA:TypeId:=136
abbrev aR:TypeId:=139
abbrev t_u32:TypeId:=172
abbrev IQ:TypeId:=173
abbrev IP:TypeId:=175
abbrev ba:TypeId:=177
abbrev xR:TypeId:=181
abbrev ga:TypeId:=185
abbrev y7:TypeId:=208
abbrev Iy:TypeId:=212
abbrev G3:TypeId:=216
abbrev GM:TypeId:=240
theorem lQ(args:Array Value)(w:World):(callFunc eN args).run PG w=((Extern.SlicesOverlaps.overlaps #[lD,lD] #[pX] args).run PG w).andThen fun v w=>.ok (.value v) w:=run_callFunc_extern (P:=PG) Tryz.func108 (by kernel_rfl) (by kernel_rfl) (by kernel_rfl) (by kernel_rfl) args w
theorem m0(args:Array Value)(w:World):(callFunc fB args).run PG w=((Extern.SlicesOverlaps.overlaps #[cH,cH] #[pX] args).run PG w).andThen fun v w=>.ok (.value v) w:=run_callFunc_extern (P:=PG) Tryz.func153 (by kernel_rfl) (by kernel_rfl) (by kernel_rfl) (by kernel_rfl) args w
theorem mp(args:Array Value)(w:World):(callFunc fc args).run PG w=((Extern.SlicesOverlaps.overlaps #[mA,mA] #[pX] args).run PG w).andThen fun v w=>.ok (.value v) w:=run_callFunc_extern (P:=PG) Tryz.func155 (by kernel_rfl) (by kernel_rfl) (by kernel_rfl) (by kernel_rfl) args w
abbrev cG(h:ae)(a:Addr)(i:Nat)(v:Value):Prop:=aQ h (adr a i)=some v
abbrev f6(i:Int)(n:Nat):Prop:=(0:Int)≤i∧i<(n:Int)
abbrev T6:=Int×Int×Int×Int×(Option Addr)×(Option Addr)
abbrev kd6:Kind:=.agg [.int .i64,.int .u64,.int .u64,.int .u64,.ptr,.ptr]
noncomputable def L2(l:List Nat):Nat:=dK 0 (fun i _ s=>Nat.add (Nat.pow 2 i) s) l
noncomputable def dn(a f l:List Nat)(d n:Nat):DM:=.mk (L2 a) (Nat.sub (Nat.sub (Nat.pow 2 n) 1) (L2 f)) (L2 l) (match d with|0=>0|d+1=>Nat.pow 2 d)
noncomputable def dm(a l:List Nat)(d n:Nat):DM:=dn a a l d n
noncomputable def dl(n:Nat)(l:List (Nat→DM)):List DM:=dK [] (fun f _ r=>f n::r) l
noncomputable def KS(i n:Nat)(a:DA):DA:=Nat.rec (fun _=>a) (fun _ r i=>.take i (r (Nat.succ i))) n i
noncomputable def Lo(l:List Nat)(a:DA):DA:=dK a (fun i _ r=>.take i r) l
abbrev wy(h:ae)(a:Addr)(i:Nat)(v:Int):Prop:=aQ h (adr a i)=some (.int .i64 v)
abbrev aZ(h g:ae)(i:Nat)(v:Int):Prop:=aQ h (adr (aU g) i)=some (.int .i64 v)
abbrev ag(h g:ae)(i:Nat)(v:Int):Prop:=aQ h (adr (aU g) i)=some (.int .u64 v)
abbrev dQ(h:ae)(a:Addr)(i:Nat)(v:Int):Prop:=aQ h (adr a i)=some (.int .u64 v)
abbrev gd(h:ae)(a:Addr)(i:Nat)(v:Option Addr):Prop:=aQ h (adr a i)=some (.pointer v)
abbrev ay(h g:ae)(i:Nat)(v:Option Addr):Prop:=aQ h (adr (aU g) i)=some (.pointer v)
abbrev bQ(h:ae)(a:Addr)(i:Nat)(v:ByteArray):Prop:=aQ h (adr a i)=some (.string v)
abbrev aD(h g:ae)(i:Nat)(v:ByteArray):Prop:=aQ h (adr (aU g) i)=some (.string v)
abbrev bL(h:ae)(a:Addr)(i:Nat)(v:SliceV):Prop:=aQ h (adr a i)=some (.slice v.a v.len v.cap)
abbrev fH(h g:ae)(l:List Value)(k:ae→Prop):Prop:=ph h (some (aU g)) 0 l∧At (fi h (aU g) 0 l) k
abbrev BO(h:ae)(a:Addr)(l:List Value)(k:ae→Prop):Prop:=ph h (some a) 0 l∧At (fi h a 0 l) k
abbrev nv(h:ae)(z:List Value)(t:TypeId)(l:List Value)(k:ae→Prop):Prop:=At (hnew h z t) fun g=>ph g (some (aU h)) 0 l∧At (fi g (aU h) 0 l) k
abbrev BL(x:Int×Int×Int):List Value:= [.int .u64 x.1,.int .u64 x.2.1,.int .u64 x.2.2]
abbrev AD(x0:Int)(x1:Int)(x2:Int):Value:=.agg #[.int .u64 x0,.int .u64 x1,.int .u64 x2]
abbrev rB:List Value:= [.int .i64 0,.int .u64 0,.int .u64 0,.int .u64 0,.pointer none,.pointer none]
abbrev wd(x0:Int)(x1:Int)(x2:Int)(x3:Int)(x4:Option Addr)(x5:Option Addr):List Value:= [.int .i64 x0,.int .u64 x1,.int .u64 x2,.int .u64 x3,.pointer x4,.pointer x5]
abbrev qt:List Value:= [.string (⟨#[]⟩:ByteArray),.string (⟨#[]⟩:ByteArray)]
abbrev oZ(x0:ByteArray)(x1:ByteArray):List Value:= [.string x0,.string x1]
abbrev EU(x0:ByteArray)(x1:Int):List Value:= [.string x0,.int .i64 x1]
abbrev wg(x0:Int)(x1:Int)(x2:Int)(x3:Int)(x4:Option Addr)(x5:Option Addr):Value:=.agg #[.int .i64 x0,.int .u64 x1,.int .u64 x2,.int .u64 x3,.pointer x4,.pointer x5]
abbrev pq(x0:ByteArray)(x1:ByteArray):Value:=.agg #[.string x0,.string x1]
abbrev pU(x:Int×Int×Int×Int×(Option Addr)×(Option Addr)):List Value:= [.int .i64 x.1,.int .u64 x.2.1,.int .u64 x.2.2.1,.int .u64 x.2.2.2.1,.pointer x.2.2.2.2.1,.pointer x.2.2.2.2.2]
abbrev xi(x0:Option Addr)(x1:ByteArray):List Value:= [.pointer x0,.string x1]
abbrev Ki:List Kind:= [.agg [.int .i64,.int .u64,.int .u64,.int .u64,.ptr,.ptr],.c (.int .i64)]
abbrev LV:List Kind:= [.c .ptr,.c (.int .i64)]
abbrev D0:List Kind:= [.c (.int .i64)]
abbrev lM(f:FuncId)(a:List Value)(K:Bool→ae→Prop)(h:ae):Prop:=HC PG f a [.c .bool] K h
abbrev gy(f:FuncId)(a:List Value)(K:(Option Addr)→ae→Prop)(h:ae):Prop:=HC PG f a [.c .ptr] K h
abbrev Gg(f:FuncId)(a:List Value)(K:ByteArray→ae→Prop)(h:ae):Prop:=HC PG f a [.c .str] K h
abbrev CG(f:FuncId)(a:List Value)(K:((T6)×Int)→ae→Prop)(h:ae):Prop:=HC PG f a Ki K h
abbrev Ko(f:FuncId)(a:List Value)(K:((Option Addr)×Int)→ae→Prop)(h:ae):Prop:=HC PG f a LV K h
abbrev lq(f:FuncId)(a:List Value)(K:Int→ae→Prop)(h:ae):Prop:=HC PG f a D0 K h
abbrev Hm(x:Int×Int×Int):Value:=.agg #[.int .u64 x.1,.int .u64 x.2.1,.int .u64 x.2.2]
abbrev zg0:Value:=.agg #[.int .u64 0,.int .u64 0,.int .u64 0]
abbrev qS(h g:ae)(i:Nat)(v:SliceV):Prop:=aQ h (adr (aU g) i)=some (.slice v.a v.len v.cap)
abbrev cZ(h:ae)(a:Addr)(v:Value)(k:ae→Prop):Prop:=Wr h a∧At (hset h a v) k
abbrev zl5:List Value:= [.slice none 0 0,.slice none 0 0,.slice none 0 0,.slice none 0 0,.pointer none,.pointer none]
abbrev KV:List Value:= [.int .i64 0,.int .u64 0,.int .u64 0,.int .u64 0,.slice none 0 0]
abbrev pl6(x:Int×Int×Int×Int×SliceV):List Value:= [.int .i64 x.1,.int .u64 x.2.1,.int .u64 x.2.2.1,.int .u64 x.2.2.2.1,.slice x.2.2.2.2.a x.2.2.2.2.len x.2.2.2.2.cap]
abbrev Lu(x0:Int)(x1:Int)(x2:Int)(x3:Int)(x4:SliceV):List Value:= [.int .i64 x0,.int .u64 x1,.int .u64 x2,.int .u64 x3,.slice x4.a x4.len x4.cap]
abbrev LU:List Kind:= [.agg [.int .u64,.int .u64,.int .u64]]
abbrev LS:List Kind:= [.agg [.int .i64,.int .u64,.int .u64,.int .u64,.slice],.c (.int .i64)]
abbrev T5:=Int×Int×Int×Int×SliceV
abbrev hK6(f:FuncId)(a:List Value)(K:(Int×Int×Int)→ae→Prop)(h:ae):Prop:=HC PG f a LU K h
abbrev hK7(f:FuncId)(a:List Value)(K:((T5)×Int)→ae→Prop)(h:ae):Prop:=HC PG f a LS K h
abbrev tW(x:ByteArray×ByteArray):List Value:= [.string x.1,.string x.2]
abbrev LR:List Kind:= [.c .ptr,.c .bool]
abbrev CF(f:FuncId)(a:List Value)(K:((Option Addr)×Bool)→ae→Prop)(h:ae):Prop:=HC PG f a LR K h
abbrev IC(x:Int×Int×Int×Int×(Option Addr)×(Option Addr)):Value:=.agg #[.int .i64 x.1,.int .u64 x.2.1,.int .u64 x.2.2.1,.int .u64 x.2.2.2.1,.pointer x.2.2.2.2.1,.pointer x.2.2.2.2.2]
abbrev Hl(x:ByteArray×ByteArray):Value:=.agg #[.string x.1,.string x.2]
abbrev vl7(x0:Option Addr)(x1:Option Addr)(x2:Int)(x3:Int)(x4:Int)(x5:Int)(x6:Option Addr)(x7:Option Addr):List Value:= [.pointer x0,.pointer x1,.int .i64 x2,.int .u64 x3,.int .u64 x4,.int .u64 x5,.pointer x6,.pointer x7]
abbrev GJ(x0:Option Addr)(x1:Option Addr)(x2:ByteArray):List Value:= [.pointer x0,.pointer x1,.string x2]
abbrev qu(x0:Option Addr)(x1:Option Addr):List Value:= [.pointer x0,.pointer x1]
abbrev BU(x0:SliceV)(x1:SliceV):List Value:= [.slice x0.a x0.len x0.cap,.slice x1.a x1.len x1.cap]
abbrev iV(f:FuncId)(a:List Value)(K:SliceV→ae→Prop)(h:ae):Prop:=HC PG f a [.c .slice] K h
abbrev LQ:List Kind:= [.agg [.int .i64,.int .u64,.int .u64,.int .u64,.ptr,.ptr]]
abbrev Jh(f:FuncId)(a:List Value)(K:T6→ae→Prop)(h:ae):Prop:=HC PG f a LQ K h
abbrev zl0:List Value:= [.int .u64 0,.int .u64 0,.int .u64 0]
abbrev vl0(x0:Int)(x1:Int)(x2:Int):List Value:= [.int .u64 x0,.int .u64 x1,.int .u64 x2]
abbrev GW(x0:Option Addr)(x1:Option Addr)(x2:ByteArray)(x3:ByteArray):List Value:= [.pointer x0,.pointer x1,.string x2,.string x3]
abbrev LP:List Kind:= [.c .ptr,.c .bool,.c .bool]
abbrev Eb(f:FuncId)(a:List Value)(K:((Option Addr)×Bool×Bool)→ae→Prop)(h:ae):Prop:=HC PG f a LP K h
abbrev JL:List Value:= [.int .u64 0,.int .u64 0,.int .u64 0,.pointer none,.string (⟨#[]⟩:ByteArray),.int .u64 0]
abbrev JR(x0:Int)(x1:Int)(x2:Int)(x3:Option Addr)(x4:ByteArray)(x5:Int):List Value:= [.int .u64 x0,.int .u64 x1,.int .u64 x2,.pointer x3,.string x4,.int .u64 x5]
abbrev sE(x0:Int)(x1:Int)(x2:Int)(x3:Option Addr)(x4:ByteArray)(x5:Int):Value:=.agg #[.int .u64 x0,.int .u64 x1,.int .u64 x2,.pointer x3,.string x4,.int .u64 x5]
abbrev LO:List Kind:= [.c (.int .u64)]
abbrev qY(f:FuncId)(a:List Value)(K:Int→ae→Prop)(h:ae):Prop:=HC PG f a LO K h
abbrev K4(x0:Option Addr)(x1:Option Addr)(x2:Option Addr):List Value:= [.pointer x0,.pointer x1,.pointer x2]
abbrev ii(h:ae)(a:Addr)(i:Nat)(v:Bool):Prop:=aQ h (adr a i)=some (.bool v)
abbrev LN:List Kind:= [.c .str,.c .bool]
abbrev Ea(f:FuncId)(a:List Value)(K:(ByteArray×Bool)→ae→Prop)(h:ae):Prop:=HC PG f a LN K h
abbrev AC(x0:Option Addr)(x1:Int):List Value:= [.pointer x0,.int .u8 x1]
abbrev JQ(x0:Option Addr)(x1:ByteArray)(x2:ByteArray):List Value:= [.pointer x0,.string x1,.string x2]
abbrev AB(x0:Option Addr)(x1:Option Addr)(x2:Int):List Value:= [.pointer x0,.pointer x1,.int .i64 x2]
abbrev Lk:List Kind:= [.c (.int .i64),.c .bool]
abbrev yr(f:FuncId)(a:List Value)(K:(Int×Bool)→ae→Prop)(h:ae):Prop:=HC PG f a Lk K h
abbrev K5(x0:Int)(x1:Int):Value:=.agg #[.int .u64 x0,.int .u64 x1]
abbrev AX(x:Int×Int×Int×(Option Addr)×ByteArray×Int):List Value:= [.int .u64 x.1,.int .u64 x.2.1,.int .u64 x.2.2.1,.pointer x.2.2.2.1,.string x.2.2.2.2.1,.int .u64 x.2.2.2.2.2]
abbrev pW(x0:Int)(x1:Int):List Value:= [.int .u64 x0,.int .i64 x1]
abbrev l9(x0:Option Addr)(x1:Int):List Value:= [.pointer x0,.int .i64 x1]
abbrev xJ(x0:Option Addr)(x1:Option Addr)(x2:Int)(x3:Option Addr):List Value:= [.pointer x0,.pointer x1,.int .i64 x2,.pointer x3]
abbrev Lj:List Kind:= [.agg [.str,.str],.c .bool]
abbrev HF(f:FuncId)(a:List Value)(K:((ByteArray×ByteArray)×Bool)→ae→Prop)(h:ae):Prop:=HC PG f a Lj K h
abbrev Ke(x:Int×Int×Int×(Option Addr)×ByteArray×Int):Value:=.agg #[.int .u64 x.1,.int .u64 x.2.1,.int .u64 x.2.2.1,.pointer x.2.2.2.1,.string x.2.2.2.2.1,.int .u64 x.2.2.2.2.2]
abbrev BT(x0:SliceV)(x1:Int)(x2:Int):List Value:= [.slice x0.a x0.len x0.cap,.int .i64 x1,.int .i64 x2]
abbrev BN:List Value:= [.string (⟨#[]⟩:ByteArray),.bool false,.string (⟨#[]⟩:ByteArray),.slice none 0 0,.pointer none]
abbrev K3(x0:ByteArray)(x1:Bool)(x2:ByteArray)(x3:SliceV)(x4:Option Addr):List Value:= [.string x0,.bool x1,.string x2,.slice x3.a x3.len x3.cap,.pointer x4]
abbrev vt(f:FuncId)(a:List Value)(K:Unit→ae→Prop)(h:ae):Prop:=HC PG f a [] K h
abbrev JO(x0:SliceV)(x1:Int)(x2:SliceV):List Value:= [.slice x0.a x0.len x0.cap,.int .i64 x1,.slice x2.a x2.len x2.cap]
abbrev La(x:Int×Int):List Value:= [.int .u64 x.1,.int .u64 x.2]
abbrev KW:List Value:= [.int .u64 0,.int .u64 0,.int .u64 0,.int .u64 0]
abbrev K2(x0:Int)(x1:Int)(x2:Int)(x3:Int):List Value:= [.int .u64 x0,.int .u64 x1,.int .u64 x2,.int .u64 x3]
abbrev II(x0:Option Addr)(x1:Int):List Value:= [.pointer x0,.int .u64 x1]
abbrev LK(x:Int×Int):Value:=.agg #[.int .u64 x.1,.int .u64 x.2]
abbrev qL(x0:SliceV)(x1:ByteArray):List Value:= [.slice x0.a x0.len x0.cap,.string x1]
abbrev fh(h:ae)(a:Addr)(i:Nat)(v:Int):Prop:=aQ h (adr a i)=some (.int .u32 v)
abbrev j7(x0:Int)(x1:Int):List Value:= [.int .u32 x0,.int .i64 x1]
abbrev Li:List Kind:= [.c (.int .u32)]
abbrev sU(f:FuncId)(a:List Value)(K:Int→ae→Prop)(h:ae):Prop:=HC PG f a Li K h
abbrev JP(x0:Option Addr)(x1:SliceV):List Value:= [.pointer x0,.slice x1.a x1.len x1.cap]
abbrev KZ(x0:Int)(x1:Int):List Value:= [.int .u8 x0,.int .u8 x1]
abbrev FK(x0:SliceV)(x1:Int)(x2:Int):List Value:= [.slice x0.a x0.len x0.cap,.int .u64 x1,.int .i64 x2]
abbrev IJ(x0:SliceV)(x1:Option Addr)(x2:Int):List Value:= [.slice x0.a x0.len x0.cap,.pointer x1,.int .i64 x2]
abbrev GO:List Value:= [.int .u32 0,.int .u32 0,.slice none 0 0,.slice none 0 0,.bool false,.pointer none]
abbrev JN(x0:Int)(x1:Int)(x2:SliceV)(x3:SliceV)(x4:Bool)(x5:Option Addr):List Value:= [.int .u32 x0,.int .u32 x1,.slice x2.a x2.len x2.cap,.slice x3.a x3.len x3.cap,.bool x4,.pointer x5]
abbrev LA(x0:SliceV)(x1:Int):List Value:= [.slice x0.a x0.len x0.cap,.int .i64 x1]
theorem d9(an:Ann){f:FuncId}{fn:Func}{args:List Value}{ks:List Kind}{K:qn ks→ae→Prop}{h:ae}{p:Prop}(hf:PG.funcs[f]? =some fn) (hcall:∀(args:Array Value) (w:World),(callFunc f args).run PG w=.ok (.enter f args) w) (hp:p) (hb:fn.body=some (fn.body.getD .skip):=by rfl) (hl:Nat.ble args.length fn.ntmps=true:=by rfl) (e:p=B5 PG fn (fn.body.getD .skip) an args ks K h:=by kernel_rfl):HC PG f args ks K h:=HC.intro Tryz.mixed hf hb hcall (Nat.le_of_ble_eq_true hl) (e▸hp)
end Go.Proofs
