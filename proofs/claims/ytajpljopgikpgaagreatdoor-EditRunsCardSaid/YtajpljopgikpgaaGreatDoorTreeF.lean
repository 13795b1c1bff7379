/- A part of the proof that the named laws of this program answer true, whatever the input. -/
import Derived.Test.YtajpljopgikpgaaGreatDoorProg
import Derived.Test.YtajpljopgikpgaaGreatDoorLift3
import Derived.KernelRfl
import Derived.Laws.Externs
set_option maxRecDepth 100000
set_option linter.unusedVariables false
open List renaming rec→fq
open Nat renaming ble→uo,le_of_ble_eq_true→gi
namespace Go.Proofs
open Go.Lift
noncomputable abbrev PG:Program:=Tryz.prog
theorem Tryz.mixed:PG.follows .mixedOrders=true:=by kernel_rfl
abbrev vx:FuncId:=5
abbrev vu:FuncId:=9
abbrev xF:FuncId:=10
abbrev nR:FuncId:=11
abbrev lM:FuncId:=12
abbrev su:FuncId:=13
abbrev gN:FuncId:=14
abbrev qy:FuncId:=15
abbrev eH:FuncId:=16
abbrev ud:FuncId:=17
abbrev j4:FuncId:=18
abbrev iS:FuncId:=19
abbrev ma:FuncId:=20
abbrev ji:FuncId:=21
abbrev nK:FuncId:=24
abbrev oI:FuncId:=25
abbrev ue:FuncId:=26
abbrev vp:FuncId:=32
abbrev rg:FuncId:=33
abbrev sM:FuncId:=37
abbrev tS:FuncId:=39
abbrev An:FuncId:=40
abbrev vX:FuncId:=41
abbrev Ao:FuncId:=42
abbrev jn:FuncId:=43
abbrev jQ:FuncId:=44
abbrev qz:FuncId:=45
abbrev Aq:FuncId:=46
abbrev ua:FuncId:=47
abbrev rl:FuncId:=48
abbrev rk:FuncId:=49
abbrev Ap:FuncId:=50
abbrev oH:FuncId:=51
abbrev mY:FuncId:=52
abbrev xB:FuncId:=53
abbrev nJ:FuncId:=54
abbrev vr:FuncId:=55
abbrev ri:FuncId:=56
abbrev rp:FuncId:=57
abbrev p9:FuncId:=58
abbrev tV:FuncId:=59
abbrev uh:FuncId:=60
abbrev vq:FuncId:=61
abbrev vy:FuncId:=62
abbrev sr:FuncId:=65
abbrev wP:FuncId:=66
abbrev kG:FuncId:=67
abbrev m6:FuncId:=75
abbrev eE:FuncId:=79
abbrev qx:FuncId:=83
abbrev qw:FuncId:=84
abbrev xD:FuncId:=85
abbrev tZ:FuncId:=86
abbrev sq:FuncId:=87
abbrev xA:FuncId:=88
abbrev rj:FuncId:=89
abbrev C9:FuncId:=90
abbrev yL:FuncId:=91
abbrev Da:FuncId:=92
abbrev m0:FuncId:=93
abbrev nO:FuncId:=94
abbrev eZ:FuncId:=95
abbrev lL:FuncId:=96
abbrev p6:FuncId:=97
abbrev kI:FuncId:=98
abbrev lO:FuncId:=99
abbrev ee:FuncId:=100
abbrev kK:FuncId:=101
abbrev lK:FuncId:=102
abbrev hG:FuncId:=103
abbrev jP:FuncId:=104
abbrev cD:FuncId:=105
abbrev uy:FuncId:=106
abbrev iX:FuncId:=107
abbrev mB:FuncId:=108
abbrev mD:FuncId:=109
abbrev oZ:FuncId:=117
abbrev iW:FuncId:=118
abbrev rh:FuncId:=119
abbrev oK:FuncId:=120
abbrev qk:FuncId:=121
abbrev p7:FuncId:=122
abbrev pj:FuncId:=123
abbrev tY:FuncId:=124
abbrev xC:FuncId:=125
abbrev yM:FuncId:=126
abbrev cY:FuncId:=127
abbrev cX:FuncId:=128
abbrev dq:FuncId:=129
abbrev dA:FuncId:=130
abbrev kH:FuncId:=131
abbrev xz:FuncId:=132
abbrev nN:FuncId:=133
abbrev dR:FuncId:=134
abbrev Am:FuncId:=135
abbrev dU:FuncId:=136
abbrev qA:FuncId:=137
abbrev oL:FuncId:=138
abbrev lh:FuncId:=139
abbrev jj:FuncId:=140
abbrev kJ:FuncId:=141
abbrev iC:FuncId:=142
abbrev sA:FuncId:=143
abbrev eX:FuncId:=144
abbrev gq:FuncId:=145
abbrev fZ:FuncId:=146
abbrev dQ:FuncId:=147
abbrev si:FuncId:=148
abbrev r8:FuncId:=149
abbrev mZ:FuncId:=150
abbrev j5:FuncId:=151
abbrev kL:FuncId:=152
abbrev fj:FuncId:=153
abbrev ou:FuncId:=154
abbrev uc:FuncId:=155
abbrev mA:FuncId:=156
abbrev jl:FuncId:=157
abbrev lN:FuncId:=158
abbrev fT:FuncId:=159
abbrev nQ:FuncId:=160
abbrev lJ:FuncId:=167
abbrev oY:FuncId:=168
abbrev lf:FuncId:=169
abbrev j6:FuncId:=170
abbrev tW:FuncId:=171
abbrev Ar:FuncId:=172
abbrev yN:FuncId:=173
abbrev m5:FuncId:=174
abbrev dN:FuncId:=175
abbrev mc:FuncId:=176
abbrev r9:FuncId:=177
abbrev gp:FuncId:=178
abbrev lI:FuncId:=179
abbrev tT:FuncId:=180
abbrev ig:FuncId:=181
abbrev pk:FuncId:=182
abbrev eM:FuncId:=183
abbrev vt:FuncId:=184
abbrev fG:FuncId:=185
abbrev dg:FuncId:=186
abbrev iK:FuncId:=187
abbrev iJ:FuncId:=188
abbrev cN:FuncId:=189
abbrev fa:FuncId:=190
abbrev cE:FuncId:=191
abbrev gn:FuncId:=192
abbrev nx:FuncId:=193
abbrev xE:FuncId:=194
abbrev sy:FuncId:=195
abbrev ii:FuncId:=196
abbrev g4:FuncId:=197
abbrev p8:FuncId:=204
abbrev tX:FuncId:=208
abbrev jI:FuncId:=209
abbrev sN:FuncId:=210
abbrev c8:FuncId:=211
abbrev eu:FuncId:=212
abbrev nP:FuncId:=213
abbrev dJ:FuncId:=214
abbrev mC:FuncId:=215
abbrev m7:FuncId:=216
abbrev eR:FuncId:=217
abbrev dW:FuncId:=218
abbrev iL:FuncId:=219
abbrev gZ:FuncId:=220
abbrev oJ:FuncId:=221
abbrev gy:FuncId:=222
abbrev nL:FuncId:=223
abbrev nT:FuncId:=229
abbrev lg:FuncId:=231
abbrev jJ:FuncId:=232
abbrev fl:FuncId:=233
abbrev jm:FuncId:=234
abbrev mL:FuncId:=242
abbrev nz:TypeId:=3
abbrev qm:TypeId:=4
abbrev cp:TypeId:=5
abbrev ql:TypeId:=9
abbrev ny:TypeId:=22
abbrev ko:TypeId:=24
abbrev cH:TypeId:=26
abbrev EK:TypeId:=27
abbrev Qd:TypeId:=29
abbrev r7:TypeId:=31
abbrev Rs:TypeId:=32
abbrev Qe:TypeId:=35
abbrev Qu:TypeId:=36
abbrev NX:TypeId:=37
abbrev Om:TypeId:=38
abbrev Ok:TypeId:=39
abbrev Qt:TypeId:=40
abbrev pa:TypeId:=42
abbrev bG:TypeId:=43
abbrev aY:TypeId:=44
abbrev aS:TypeId:=46
abbrev pW:TypeId:=48
abbrev Qv:TypeId:=49
abbrev bE:TypeId:=51
abbrev Ud:TypeId:=52
abbrev aw:TypeId:=54
abbrev bO:TypeId:=60
abbrev cR:TypeId:=66
abbrev vP:TypeId:=72
abbrev F3:TypeId:=79
abbrev Jp:TypeId:=81
abbrev NW:TypeId:=88
abbrev AW:TypeId:=103
abbrev uK:TypeId:=106
abbrev D8:TypeId:=125
abbrev R0:TypeId:=128
abbrev Qq:TypeId:=130
abbrev oU:TypeId:=140
abbrev LO:TypeId:=142
abbrev TA:TypeId:=143
abbrev tF:TypeId:=145
abbrev pX:TypeId:=154
abbrev Qs:TypeId:=157
abbrev oB:TypeId:=160
abbrev pC:TypeId:=162
abbrev lC:TypeId:=169
abbrev bw:TypeId:=176
abbrev On:TypeId:=190
abbrev mR:TypeId:=192
abbrev TB:TypeId:=195
abbrev Qf:TypeId:=196
abbrev NZ:TypeId:=197
abbrev gK:TypeId:=199
abbrev t_u32:TypeId:=201
abbrev T4:TypeId:=203
abbrev tG:TypeId:=208
abbrev Qr:TypeId:=210
abbrev bK:TypeId:=212
abbrev Oj:TypeId:=239
abbrev Cs:TypeId:=256
abbrev tH:TypeId:=257
abbrev iH:TypeId:=258
abbrev NV:TypeId:=264
abbrev D7:TypeId:=279
abbrev Qc:TypeId:=284
abbrev Ol:TypeId:=288
abbrev NY:TypeId:=312
theorem oM(args:Array Value)(w:World):(callFunc gn args).run PG w=((Extern.SlicesOverlaps.overlaps #[oB,oB] #[qm] args).run PG w).andThen fun v w=>.ok (.value v) w:=run_callFunc_extern (P:=PG) Tryz.func192 (by kernel_rfl) (by kernel_rfl) (by kernel_rfl) (by kernel_rfl) args w
theorem qd(args:Array Value)(w:World):(callFunc gZ args).run PG w=((Extern.SlicesOverlaps.overlaps #[cR,cR] #[qm] args).run PG w).andThen fun v w=>.ok (.value v) w:=run_callFunc_extern (P:=PG) Tryz.func220 (by kernel_rfl) (by kernel_rfl) (by kernel_rfl) (by kernel_rfl) args w
theorem po(args:Array Value)(w:World):(callFunc gy args).run PG w=((Extern.SlicesOverlaps.overlaps #[pC,pC] #[qm] args).run PG w).andThen fun v w=>.ok (.value v) w:=run_callFunc_extern (P:=PG) Tryz.func222 (by kernel_rfl) (by kernel_rfl) (by kernel_rfl) (by kernel_rfl) args w
abbrev bQ(h:ad)(a:Addr)(i:Nat)(v:Value):Prop:=aM h (adr a i)=some v
abbrev dK(i:Int)(n:Nat):Prop:=(0:Int)≤i∧i<(n:Int)
abbrev T6:=Int×Int×Int×Int×(Option Addr)×(Option Addr)
abbrev kd6:Kind:=.agg [.int .i64,.int .u64,.int .u64,.int .u64,.ptr,.ptr]
noncomputable def UG(l:List Nat):Nat:=fq 0 (fun i _ s=>Nat.add (Nat.pow 2 i) s) l
noncomputable def dn(a f l:List Nat)(d n:Nat):DM:=.mk (UG a) (Nat.sub (Nat.sub (Nat.pow 2 n) 1) (UG f)) (UG l) (match d with|0=>0|d+1=>Nat.pow 2 d)
noncomputable def dm(a l:List Nat)(d n:Nat):DM:=dn a a l d n
noncomputable def dl(n:Nat)(l:List (Nat→DM)):List DM:=fq [] (fun f _ r=>f n::r) l
noncomputable def Tk(i n:Nat)(a:DA):DA:=Nat.rec (fun _=>a) (fun _ r i=>.take i (r (Nat.succ i))) n i
noncomputable def TT(l:List Nat)(a:DA):DA:=fq a (fun i _ r=>.take i r) l
abbrev bo(h g:ad)(i:Nat)(v:Int):Prop:=aM h (adr (aC g) i)=some (.int .i64 v)
abbrev mu(h:ad)(a:Addr)(i:Nat)(v:Int):Prop:=aM h (adr a i)=some (.int .i64 v)
abbrev ag(h g:ad)(i:Nat)(v:Int):Prop:=aM h (adr (aC g) i)=some (.int .u64 v)
abbrev bN(h:ad)(a:Addr)(i:Nat)(v:Int):Prop:=aM h (adr a i)=some (.int .u64 v)
abbrev fE(h:ad)(a:Addr)(i:Nat)(v:Option Addr):Prop:=aM h (adr a i)=some (.pointer v)
abbrev bM(h:ad)(a:Addr)(i:Nat)(v:ByteArray):Prop:=aM h (adr a i)=some (.string v)
abbrev aB(h g:ad)(i:Nat)(v:ByteArray):Prop:=aM h (adr (aC g) i)=some (.string v)
abbrev eD(h g:ad)(i:Nat)(v:SliceV):Prop:=aM h (adr (aC g) i)=some (.slice v.a v.len v.cap)
abbrev bD(h:ad)(a:Addr)(i:Nat)(v:SliceV):Prop:=aM h (adr a i)=some (.slice v.a v.len v.cap)
abbrev eO(h g:ad)(l:List Value)(k:ad→Prop):Prop:=sS h (some (aC g)) 0 l∧At (gT h (aC g) 0 l) k
abbrev D5(h:ad)(a:Addr)(l:List Value)(k:ad→Prop):Prop:=sS h (some a) 0 l∧At (gT h a 0 l) k
abbrev cV(h:ad)(a:Addr)(v:Value)(k:ad→Prop):Prop:=Wr h a∧At (hset h a v) k
abbrev nv(h:ad)(z:List Value)(t:TypeId)(l:List Value)(k:ad→Prop):Prop:=At (hnew h z t) fun g=>sS g (some (aC h)) 0 l∧At (gT g (aC h) 0 l) k
abbrev Ae(x:Int×Int×Int):List Value:= [.int .u64 x.1,.int .u64 x.2.1,.int .u64 x.2.2]
abbrev vM(x0:Int)(x1:Int)(x2:Int):Value:=.agg #[.int .u64 x0,.int .u64 x1,.int .u64 x2]
abbrev mo:List Value:= [.string (⟨#[]⟩:ByteArray),.string (⟨#[]⟩:ByteArray)]
abbrev jw(x0:ByteArray)(x1:ByteArray):List Value:= [.string x0,.string x1]
abbrev Qn(x0:ByteArray)(x1:Int):List Value:= [.string x0,.int .i64 x1]
abbrev BE(x0:Int)(x1:Int)(x2:Int)(x3:Int)(x4:Option Addr)(x5:Option Addr):Value:=.agg #[.int .i64 x0,.int .u64 x1,.int .u64 x2,.int .u64 x3,.pointer x4,.pointer x5]
abbrev qX(x0:ByteArray)(x1:ByteArray):Value:=.agg #[.string x0,.string x1]
abbrev sK(x:Int×Int×Int×Int×(Option Addr)×(Option Addr)):List Value:= [.int .i64 x.1,.int .u64 x.2.1,.int .u64 x.2.2.1,.int .u64 x.2.2.2.1,.pointer x.2.2.2.2.1,.pointer x.2.2.2.2.2]
abbrev Ro(x0:Int)(x1:Int)(x2:Int)(x3:Int)(x4:SliceV):Value:=.agg #[.int .i64 x0,.int .u64 x1,.int .u64 x2,.int .u64 x3,.slice x4.a x4.len x4.cap]
abbrev JV(x:Int×Int×Int×Int×SliceV):List Value:= [.int .i64 x.1,.int .u64 x.2.1,.int .u64 x.2.2.1,.int .u64 x.2.2.2.1,.slice x.2.2.2.2.a x.2.2.2.2.len x.2.2.2.2.cap]
abbrev LA:List Value:= [.int .i64 0,.int .u64 0,.int .u64 0,.int .u64 0,.slice none 0 0]
abbrev Jk(x0:Int)(x1:Int)(x2:Int)(x3:Int)(x4:SliceV):List Value:= [.int .i64 x0,.int .u64 x1,.int .u64 x2,.int .u64 x3,.slice x4.a x4.len x4.cap]
abbrev uO:List Value:= [.int .i64 0,.int .u64 0,.int .u64 0,.int .u64 0,.pointer none,.pointer none]
abbrev BC(x0:Int)(x1:Int)(x2:Int)(x3:Int)(x4:Option Addr)(x5:Option Addr):List Value:= [.int .i64 x0,.int .u64 x1,.int .u64 x2,.int .u64 x3,.pointer x4,.pointer x5]
abbrev QY:List Kind:= [.agg [.int .i64,.int .u64,.int .u64,.int .u64,.ptr,.ptr],.c (.int .i64)]
abbrev Ux:List Kind:= [.agg [.int .i64,.int .u64,.int .u64,.int .u64,.slice],.c (.int .i64)]
abbrev BH:List Kind:= [.c (.int .i64)]
abbrev T5:=Int×Int×Int×Int×SliceV
abbrev jG(f:FuncId)(a:List Value)(K:Bool→ad→Prop)(h:ad):Prop:=HC PG f a [.c .bool] K h
abbrev iy(f:FuncId)(a:List Value)(K:(Option Addr)→ad→Prop)(h:ad):Prop:=HC PG f a [.c .ptr] K h
abbrev RC(f:FuncId)(a:List Value)(K:ByteArray→ad→Prop)(h:ad):Prop:=HC PG f a [.c .str] K h
abbrev Ku(f:FuncId)(a:List Value)(K:((T6)×Int)→ad→Prop)(h:ad):Prop:=HC PG f a QY K h
abbrev SA(f:FuncId)(a:List Value)(K:((T5)×Int)→ad→Prop)(h:ad):Prop:=HC PG f a Ux K h
abbrev kY(f:FuncId)(a:List Value)(K:Int→ad→Prop)(h:ad):Prop:=HC PG f a BH K h
abbrev HR(x:Int×Int×Int):Value:=.agg #[.int .u64 x.1,.int .u64 x.2.1,.int .u64 x.2.2]
abbrev aJ(h g:ad)(i:Nat)(v:Option Addr):Prop:=aM h (adr (aC g) i)=some (.pointer v)
abbrev zg0:Value:=.agg #[.int .u64 0,.int .u64 0,.int .u64 0]
abbrev Uw:List Kind:= [.c .ptr,.c (.int .i64)]
abbrev Tj(f:FuncId)(a:List Value)(K:((Option Addr)×Int)→ad→Prop)(h:ad):Prop:=HC PG f a Uw K h
abbrev zl5:List Value:= [.slice none 0 0,.slice none 0 0,.slice none 0 0,.slice none 0 0,.pointer none,.pointer none]
abbrev Uv:List Kind:= [.agg [.int .u64,.int .u64,.int .u64]]
abbrev TQ(f:FuncId)(a:List Value)(K:(Int×Int×Int)→ad→Prop)(h:ad):Prop:=HC PG f a Uv K h
abbrev vl6(x0:Option Addr)(x1:Option Addr)(x2:Int)(x3:Int)(x4:Int)(x5:Int)(x6:Option Addr)(x7:Option Addr):List Value:= [.pointer x0,.pointer x1,.int .i64 x2,.int .u64 x3,.int .u64 x4,.int .u64 x5,.pointer x6,.pointer x7]
abbrev OO(x:Int×Int×Int×Int×(Option Addr)×(Option Addr)):Value:=.agg #[.int .i64 x.1,.int .u64 x.2.1,.int .u64 x.2.2.1,.int .u64 x.2.2.2.1,.pointer x.2.2.2.2.1,.pointer x.2.2.2.2.2]
abbrev BU(x0:Option Addr)(x1:ByteArray):List Value:= [.pointer x0,.string x1]
abbrev zR(x0:SliceV)(x1:ByteArray):List Value:= [.slice x0.a x0.len x0.cap,.string x1]
abbrev Uu:List Kind:= [.c .str,.c .bool]
abbrev Q1(f:FuncId)(a:List Value)(K:(ByteArray×Bool)→ad→Prop)(h:ad):Prop:=HC PG f a Uu K h
abbrev gM(f:FuncId)(a:List Value)(K:SliceV→ad→Prop)(h:ad):Prop:=HC PG f a [.c .slice] K h
abbrev T8(x:Int×Int×Int×Int×SliceV):Value:=.agg #[.int .i64 x.1,.int .u64 x.2.1,.int .u64 x.2.2.1,.int .u64 x.2.2.2.1,.slice x.2.2.2.2.a x.2.2.2.2.len x.2.2.2.2.cap]
abbrev uL(x:ByteArray×ByteArray):List Value:= [.string x.1,.string x.2]
abbrev Nb(x:ByteArray×ByteArray):Value:=.agg #[.string x.1,.string x.2]
abbrev uw(x0:Option Addr)(x1:Option Addr):List Value:= [.pointer x0,.pointer x1]
abbrev Hn(x0:SliceV)(x1:SliceV):List Value:= [.slice x0.a x0.len x0.cap,.slice x1.a x1.len x1.cap]
abbrev BD(x0:Option Addr)(x1:Option Addr)(x2:ByteArray):List Value:= [.pointer x0,.pointer x1,.string x2]
abbrev Ut:List Kind:= [.c .ptr,.c .bool]
abbrev tQ(f:FuncId)(a:List Value)(K:((Option Addr)×Bool)→ad→Prop)(h:ad):Prop:=HC PG f a Ut K h
abbrev Ur:List Kind:= [.agg [.int .i64,.int .u64,.int .u64,.int .u64,.ptr,.ptr]]
abbrev Q5(f:FuncId)(a:List Value)(K:T6→ad→Prop)(h:ad):Prop:=HC PG f a Ur K h
abbrev T1:List Value:= [.int .u64 0,.int .u64 0,.int .u64 0]
abbrev T3(x0:Int)(x1:Int)(x2:Int):List Value:= [.int .u64 x0,.int .u64 x1,.int .u64 x2]
abbrev Tt(x0:Option Addr)(x1:Option Addr)(x2:Option Addr):List Value:= [.pointer x0,.pointer x1,.pointer x2]
abbrev Uq:List Kind:= [.c (.int .i64),.c .bool]
abbrev vg(f:FuncId)(a:List Value)(K:(Int×Bool)→ad→Prop)(h:ad):Prop:=HC PG f a Uq K h
abbrev kC(x0:Option Addr)(x1:Int):List Value:= [.pointer x0,.int .i64 x1]
abbrev xg(x0:Int)(x1:Int)(x2:Int)(x3:Option Addr)(x4:ByteArray)(x5:Int):Value:=.agg #[.int .u64 x0,.int .u64 x1,.int .u64 x2,.pointer x3,.string x4,.int .u64 x5]
abbrev Uo:List Kind:= [.c (.int .u64)]
abbrev mX(f:FuncId)(a:List Value)(K:Int→ad→Prop)(h:ad):Prop:=HC PG f a Uo K h
abbrev Oa(x0:Option Addr)(x1:Option Addr)(x2:ByteArray)(x3:ByteArray):List Value:= [.pointer x0,.pointer x1,.string x2,.string x3]
abbrev TP:List Kind:= [.c .ptr,.c .bool,.c .bool]
abbrev Kw(f:FuncId)(a:List Value)(K:((Option Addr)×Bool×Bool)→ad→Prop)(h:ad):Prop:=HC PG f a TP K h
abbrev RH:List Value:= [.int .u64 0,.int .u64 0,.int .u64 0,.pointer none,.string (⟨#[]⟩:ByteArray),.int .u64 0]
abbrev RP(x0:Int)(x1:Int)(x2:Int)(x3:Option Addr)(x4:ByteArray)(x5:Int):List Value:= [.int .u64 x0,.int .u64 x1,.int .u64 x2,.pointer x3,.string x4,.int .u64 x5]
abbrev ie(h:ad)(a:Addr)(i:Nat)(v:Bool):Prop:=aM h (adr a i)=some (.bool v)
abbrev Tm:List Value:= [.string (⟨#[]⟩:ByteArray),.bool false,.string (⟨#[]⟩:ByteArray),.slice none 0 0]
abbrev MF(x0:SliceV)(x1:SliceV)(x2:Int):List Value:= [.slice x0.a x0.len x0.cap,.slice x1.a x1.len x1.cap,.int .i64 x2]
abbrev FX(x0:Option Addr)(x1:Int):List Value:= [.pointer x0,.int .u8 x1]
abbrev Hm(x0:SliceV)(x1:Int)(x2:Int):List Value:= [.slice x0.a x0.len x0.cap,.int .i64 x1,.int .i64 x2]
abbrev Tu(x0:Int)(x1:Int):Value:=.agg #[.int .u64 x0,.int .u64 x1]
abbrev Gi(x:Int×Int×Int×(Option Addr)×ByteArray×Int):List Value:= [.int .u64 x.1,.int .u64 x.2.1,.int .u64 x.2.2.1,.pointer x.2.2.2.1,.string x.2.2.2.2.1,.int .u64 x.2.2.2.2.2]
abbrev l9(x0:Int)(x1:Int):List Value:= [.int .u64 x0,.int .i64 x1]
abbrev FV(x0:Option Addr)(x1:Option Addr)(x2:Int):List Value:= [.pointer x0,.pointer x1,.int .i64 x2]
abbrev Cn(x0:Option Addr)(x1:Option Addr)(x2:Int)(x3:Option Addr):List Value:= [.pointer x0,.pointer x1,.int .i64 x2,.pointer x3]
abbrev TO:List Kind:= [.agg [.str,.str],.c .bool]
abbrev Nm(f:FuncId)(a:List Value)(K:((ByteArray×ByteArray)×Bool)→ad→Prop)(h:ad):Prop:=HC PG f a TO K h
abbrev Sm(x:Int×Int×Int×(Option Addr)×ByteArray×Int):Value:=.agg #[.int .u64 x.1,.int .u64 x.2.1,.int .u64 x.2.2.1,.pointer x.2.2.2.1,.string x.2.2.2.2.1,.int .u64 x.2.2.2.2.2]
abbrev RN(x0:Option Addr)(x1:ByteArray)(x2:ByteArray):List Value:= [.pointer x0,.string x1,.string x2]
abbrev ME(x0:Int)(x1:SliceV):List Value:= [.int .u64 x0,.slice x1.a x1.len x1.cap]
abbrev TN:List Kind:= [.c (.int .u32)]
abbrev uM(f:FuncId)(a:List Value)(K:Int→ad→Prop)(h:ad):Prop:=HC PG f a TN K h
abbrev Q2(f:FuncId)(a:List Value)(K:Value→ad→Prop)(h:ad):Prop:=HC PG f a [.c .raw] K h
abbrev Hi:List Value:= [.string (⟨#[]⟩:ByteArray),.bool false,.string (⟨#[]⟩:ByteArray),.slice none 0 0,.pointer none]
abbrev RO(x0:Option Addr)(x1:SliceV):List Value:= [.pointer x0,.slice x1.a x1.len x1.cap]
abbrev Qm(x0:Int)(x1:Int):List Value:= [.int .u8 x0,.int .u8 x1]
abbrev MD(x0:SliceV)(x1:Int)(x2:Int):List Value:= [.slice x0.a x0.len x0.cap,.int .u64 x1,.int .i64 x2]
abbrev Qo(x0:SliceV)(x1:Option Addr)(x2:Int):List Value:= [.slice x0.a x0.len x0.cap,.pointer x1,.int .i64 x2]
abbrev Tp(x0:Int)(x1:Int)(x2:Int)(x3:Int):List Value:= [.int .u8 x0,.int .u8 x1,.int .u8 x2,.int .u8 x3]
abbrev RM(x0:Int)(x1:Int)(x2:ByteArray):List Value:= [.int .u64 x0,.int .u64 x1,.string x2]
abbrev Tq(x0:ByteArray)(x1:Bool)(x2:ByteArray)(x3:SliceV)(x4:Option Addr):List Value:= [.string x0,.bool x1,.string x2,.slice x3.a x3.len x3.cap,.pointer x4]
abbrev TG(x:Int×Int):List Value:= [.int .u64 x.1,.int .u64 x.2]
abbrev Mz:List Value:= [.int .u64 0,.int .u64 0,.int .u64 0,.int .u64 0]
abbrev MC(x0:Int)(x1:Int)(x2:Int)(x3:Int):List Value:= [.int .u64 x0,.int .u64 x1,.int .u64 x2,.int .u64 x3]
abbrev Ql(x0:Option Addr)(x1:Int):List Value:= [.pointer x0,.int .u64 x1]
abbrev yJ(f:FuncId)(a:List Value)(K:Unit→ad→Prop)(h:ad):Prop:=HC PG f a [] K h
abbrev Uk(x:Int×Int):Value:=.agg #[.int .u64 x.1,.int .u64 x.2]
abbrev gF(h:ad)(a:Addr)(i:Nat)(v:Int):Prop:=aM h (adr a i)=some (.int .u32 v)
abbrev mQ(x0:Int)(x1:Int):List Value:= [.int .u32 x0,.int .i64 x1]
abbrev RL(x0:SliceV)(x1:Int)(x2:SliceV):List Value:= [.slice x0.a x0.len x0.cap,.int .i64 x1,.slice x2.a x2.len x2.cap]
abbrev N1:List Value:= [.int .u32 0,.int .u32 0,.slice none 0 0,.slice none 0 0,.bool false,.pointer none]
abbrev RQ(x0:Int)(x1:Int)(x2:Int)(x3:Int):Value:=.agg #[.int .u64 x0,.int .u64 x1,.int .u64 x2,.int .u64 x3]
abbrev Na(x:Int×Int×Int×Int):Value:=.agg #[.int .u64 x.1,.int .u64 x.2.1,.int .u64 x.2.2.1,.int .u64 x.2.2.2]
abbrev ON(x:Int×Int×Int×Int):List Value:= [.int .u64 x.1,.int .u64 x.2.1,.int .u64 x.2.2.1,.int .u64 x.2.2.2]
abbrev TM:List Kind:= [.agg [.int .u64,.int .u64,.int .u64,.int .u64]]
abbrev Kv(f:FuncId)(a:List Value)(K:(Int×Int×Int×Int)→ad→Prop)(h:ad):Prop:=HC PG f a TM K h
abbrev RJ(x0:Int)(x1:Int)(x2:SliceV)(x3:SliceV)(x4:Bool)(x5:Option Addr):List Value:= [.int .u32 x0,.int .u32 x1,.slice x2.a x2.len x2.cap,.slice x3.a x3.len x3.cap,.bool x4,.pointer x5]
abbrev Ua(x0:SliceV)(x1:Int):List Value:= [.slice x0.a x0.len x0.cap,.int .i64 x1]
theorem dS(an:Ann){f:FuncId}{fn:Func}{args:List Value}{ks:List Kind}{K:sU ks→ad→Prop}{h:ad}{p:Prop}(hf:PG.funcs[f]? =some fn) (hcall:∀(args:Array Value) (w:World),(callFunc f args).run PG w=.ok (.enter f args) w) (hp:p) (hb:fn.body=some (fn.body.getD .skip):=by rfl) (hl:uo args.length fn.ntmps=true:=by rfl) (e:p=CA PG fn (fn.body.getD .skip) an args ks K h:=by kernel_rfl):HC PG f args ks K h:=HC.intro Tryz.mixed hf hb hcall (gi hl) (e▸hp)
theorem T0(an:Ann){f:FuncId}{fn:Func}{args:List Value}{ks:List Kind}{K:sU ks→ad→Prop}{h:ad}{p:Prop}(hf:PG.funcs[f]? =some fn) (hcall:∀(args:Array Value) (w:World),(callFunc f args).run PG w=.ok (.enter f args) w) (hp:p) (hb:fn.body=some (fn.body.getD .skip):=by rfl) (hl:uo args.length fn.ntmps=true:=by rfl) (e:p=Jw PG fn (fn.body.getD .skip) an args ks K h:=by kernel_rfl):HC PG f args ks K h:=HC.introM Tryz.mixed hf hb hcall (gi hl) (e▸hp)
theorem HDI(an:Ann)(ks:List Kind){f:FuncId}{fn:Func}{args:List Value}{K:ad→Prop}{h:ad}{p:Prop}(hf:PG.funcs[f]? =some fn) (hcall:∀(args:Array Value) (w:World),(callFunc f args).run PG w=.ok (.enter f args) w) (hp:p) (hb:fn.body=some (fn.body.getD .skip):=by rfl) (hl:uo args.length fn.ntmps=true:=by rfl) (e:p=CA PG fn (fn.body.getD .skip) an args ks (fun _ h'=>K h') h:=by kernel_rfl):HD PG f args K h:=HD.intro Tryz.mixed hf hb hcall (gi hl) (e▸hp)
theorem HEI(an:Ann){f:FuncId}{fn:Func}{args:List Value}{ks:List Kind}{K:sU ks→ad→Prop}{h:ad}{p:Prop}(hf:PG.funcs[f]? =some fn) (hcall:∀(args:Array Value) (w:World),(callFunc f args).run PG w=.ok (.enter f args) w) (hp:p) (hb:fn.body=some (fn.body.getD .skip):=by rfl) (hl:uo args.length fn.ntmps=true:=by rfl) (e:p=CA PG fn (fn.body.getD .skip) an args ks K h:=by kernel_rfl):HE PG f args ks K h:=HE.intro Tryz.mixed hf hb hcall (gi hl) (e▸hp)
end Go.Proofs
