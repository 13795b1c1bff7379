/- A part of the proof that the named laws of this program answer true, whatever the input. -/
import Derived.Test.YtncppacbfagpgaaGreatDoorProg
import Derived.Test.YtncppacbfagpgaaGreatDoorLift3
import Derived.KernelRfl
import Derived.Laws.Externs
set_option maxRecDepth 100000
set_option linter.unusedVariables false
open List renaming rec→fO
open Nat renaming ble→wU,le_of_ble_eq_true→i7
namespace Go.Proofs
open Go.Lift
noncomputable abbrev PG:Program:=Tryz.prog
theorem Tryz.mixed:PG.follows .mixedOrders=true:=by kernel_rfl
abbrev vf:FuncId:=5
abbrev rk:FuncId:=18
abbrev ii:FuncId:=20
abbrev yf:FuncId:=22
abbrev li:FuncId:=23
abbrev vV:FuncId:=24
abbrev lj:FuncId:=25
abbrev vX:FuncId:=26
abbrev rj:FuncId:=28
abbrev fC:FuncId:=29
abbrev ri:FuncId:=30
abbrev ot:FuncId:=31
abbrev jS:FuncId:=32
abbrev rl:FuncId:=33
abbrev yc:FuncId:=34
abbrev wP:FuncId:=35
abbrev wN:FuncId:=36
abbrev nD:FuncId:=37
abbrev jI:FuncId:=38
abbrev tw:FuncId:=39
abbrev uF:FuncId:=40
abbrev qo:FuncId:=41
abbrev wO:FuncId:=42
abbrev f9:FuncId:=66
abbrev oA:FuncId:=67
abbrev r7:FuncId:=70
abbrev mh:FuncId:=73
abbrev ny:FuncId:=74
abbrev rZ:FuncId:=75
abbrev r8:FuncId:=76
abbrev tq:FuncId:=79
abbrev ye:FuncId:=80
abbrev r6:FuncId:=81
abbrev DW:FuncId:=82
abbrev zu:FuncId:=83
abbrev DX:FuncId:=84
abbrev tu:FuncId:=85
abbrev xn:FuncId:=86
abbrev mW:FuncId:=87
abbrev pR:FuncId:=88
abbrev vT:FuncId:=89
abbrev vZ:FuncId:=90
abbrev uE:FuncId:=91
abbrev uM:FuncId:=92
abbrev uK:FuncId:=93
abbrev A4:FuncId:=94
abbrev vU:FuncId:=95
abbrev wa:FuncId:=96
abbrev yh:FuncId:=97
abbrev uJ:FuncId:=104
abbrev vY:FuncId:=109
abbrev lu:FuncId:=110
abbrev uC:FuncId:=120
abbrev DU:FuncId:=121
abbrev tg:FuncId:=122
abbrev pS:FuncId:=123
abbrev eo:FuncId:=126
abbrev gG:FuncId:=128
abbrev lq:FuncId:=129
abbrev eS:FuncId:=130
abbrev jT:FuncId:=131
abbrev jK:FuncId:=132
abbrev rY:FuncId:=133
abbrev pz:FuncId:=134
abbrev q9:FuncId:=135
abbrev qR:FuncId:=136
abbrev p6:FuncId:=137
abbrev uI:FuncId:=138
abbrev yg:FuncId:=139
abbrev zv:FuncId:=140
abbrev kr:FuncId:=141
abbrev cI:FuncId:=142
abbrev ve:FuncId:=143
abbrev jL:FuncId:=144
abbrev mU:FuncId:=145
abbrev oC:FuncId:=146
abbrev ox:FuncId:=147
abbrev mo:FuncId:=148
abbrev iM:FuncId:=149
abbrev kz:FuncId:=150
abbrev ll:FuncId:=151
abbrev lw:FuncId:=152
abbrev jq:FuncId:=153
abbrev uB:FuncId:=154
abbrev dQ:FuncId:=155
abbrev pB:FuncId:=156
abbrev kw:FuncId:=157
abbrev iL:FuncId:=158
abbrev ij:FuncId:=159
abbrev ku:FuncId:=161
abbrev m9:FuncId:=168
abbrev gb:FuncId:=169
abbrev vS:FuncId:=170
abbrev yb:FuncId:=171
abbrev cG:FuncId:=172
abbrev cS:FuncId:=173
abbrev qq:FuncId:=174
abbrev oz:FuncId:=175
abbrev A2:FuncId:=179
abbrev tx:FuncId:=180
abbrev jh:FuncId:=181
abbrev fy:FuncId:=189
abbrev gH:FuncId:=190
abbrev de:FuncId:=191
abbrev dH:FuncId:=192
abbrev mn:FuncId:=193
abbrev pQ:FuncId:=194
abbrev lY:FuncId:=195
abbrev kI:FuncId:=196
abbrev jU:FuncId:=197
abbrev gc:FuncId:=198
abbrev uG:FuncId:=199
abbrev A5:FuncId:=200
abbrev zw:FuncId:=201
abbrev fK:FuncId:=202
abbrev pg:FuncId:=203
abbrev uL:FuncId:=204
abbrev mS:FuncId:=205
abbrev mp:FuncId:=206
abbrev ed:FuncId:=207
abbrev jJ:FuncId:=208
abbrev eA:FuncId:=209
abbrev tl:FuncId:=210
abbrev th:FuncId:=211
abbrev nB:FuncId:=212
abbrev lx:FuncId:=213
abbrev oy:FuncId:=214
abbrev eB:FuncId:=215
abbrev pA:FuncId:=216
abbrev lr:FuncId:=217
abbrev tA:FuncId:=218
abbrev d9:FuncId:=219
abbrev mH:FuncId:=220
abbrev pO:FuncId:=221
abbrev p7:FuncId:=222
abbrev fV:FuncId:=223
abbrev dB:FuncId:=224
abbrev fu:FuncId:=230
abbrev eP:FuncId:=235
abbrev pP:FuncId:=236
abbrev yd:FuncId:=237
abbrev nA:FuncId:=238
abbrev qQ:FuncId:=239
abbrev ya:FuncId:=240
abbrev nx:FuncId:=241
abbrev jp:FuncId:=242
abbrev ml:FuncId:=243
abbrev uD:FuncId:=244
abbrev iT:FuncId:=245
abbrev gj:FuncId:=246
abbrev yi:FuncId:=247
abbrev js:FuncId:=250
abbrev jr:FuncId:=251
abbrev cV:FuncId:=252
abbrev fE:FuncId:=253
abbrev cJ:FuncId:=254
abbrev uH:FuncId:=255
abbrev j6:FuncId:=256
abbrev iU:FuncId:=257
abbrev iB:FuncId:=258
abbrev nC:FuncId:=259
abbrev gC:FuncId:=260
abbrev gD:FuncId:=261
abbrev nY:FuncId:=262
abbrev gF:FuncId:=263
abbrev vW:FuncId:=264
abbrev tR:FuncId:=265
abbrev eW:FuncId:=266
abbrev mV:FuncId:=267
abbrev nF:FuncId:=268
abbrev iu:FuncId:=269
abbrev nz:FuncId:=274
abbrev qp:FuncId:=275
abbrev tQ:FuncId:=276
abbrev dL:FuncId:=277
abbrev cO:FuncId:=278
abbrev du:FuncId:=279
abbrev oB:FuncId:=280
abbrev dU:FuncId:=281
abbrev fl:FuncId:=284
abbrev eN:FuncId:=285
abbrev jt:FuncId:=286
abbrev iA:FuncId:=287
abbrev py:FuncId:=288
abbrev gT:FuncId:=289
abbrev ou:FuncId:=290
abbrev lZ:FuncId:=291
abbrev j7:FuncId:=293
abbrev jV:FuncId:=294
abbrev px:FuncId:=296
abbrev fe:FuncId:=297
abbrev ga:FuncId:=298
abbrev fL:FuncId:=299
abbrev dq:FuncId:=304
abbrev pf:TypeId:=3
abbrev sZ:TypeId:=4
abbrev cy:TypeId:=5
abbrev FK:TypeId:=9
abbrev nZ:TypeId:=22
abbrev kR:TypeId:=24
abbrev cr:TypeId:=26
abbrev dh:TypeId:=27
abbrev FJ:TypeId:=28
abbrev bO:TypeId:=31
abbrev bI:TypeId:=32
abbrev bF:TypeId:=34
abbrev S0:TypeId:=35
abbrev qM:TypeId:=39
abbrev RP:TypeId:=40
abbrev cY:TypeId:=42
abbrev Vf:TypeId:=53
abbrev aj:TypeId:=65
abbrev bU:TypeId:=67
abbrev nU:TypeId:=69
abbrev qX:TypeId:=74
abbrev Ps:TypeId:=84
abbrev sY:TypeId:=89
abbrev M8:TypeId:=119
abbrev qN:TypeId:=133
abbrev RO:TypeId:=136
abbrev EU:TypeId:=138
abbrev Pp:TypeId:=140
abbrev xO:TypeId:=164
abbrev nT:TypeId:=184
abbrev po:TypeId:=189
abbrev qi:TypeId:=198
abbrev PU:TypeId:=203
abbrev nn:TypeId:=205
abbrev UA:TypeId:=208
abbrev Rw:TypeId:=209
abbrev Pu:TypeId:=210
abbrev ia:TypeId:=212
abbrev t_u32:TypeId:=214
abbrev U4:TypeId:=216
abbrev bT:TypeId:=220
abbrev cK:TypeId:=227
abbrev Iz:TypeId:=251
abbrev ET:TypeId:=255
abbrev AC:TypeId:=256
abbrev Il:TypeId:=258
abbrev uq:TypeId:=272
abbrev RN:TypeId:=274
abbrev bD:TypeId:=276
abbrev PQ:TypeId:=287
abbrev C8:TypeId:=300
abbrev Pn:TypeId:=302
abbrev Pq:TypeId:=314
abbrev Po:TypeId:=317
abbrev ur:TypeId:=320
abbrev jj:TypeId:=321
abbrev Rv:TypeId:=342
abbrev xk:TypeId:=344
abbrev dV:TypeId:=346
abbrev dX:TypeId:=349
abbrev PT:TypeId:=351
abbrev xj:TypeId:=353
abbrev Ru:TypeId:=357
abbrev PS:TypeId:=362
abbrev PR:TypeId:=369
abbrev Rs:TypeId:=371
abbrev Pt:TypeId:=376
theorem pC(args:Array Value)(w:World):(callFunc gD args).run PG w=((Extern.SlicesOverlaps.overlaps #[po,po] #[sZ] args).run PG w).andThen fun v w=>.ok (.value v) w:=run_callFunc_extern (P:=PG) Tryz.func261 (by kernel_rfl) (by kernel_rfl) (by kernel_rfl) (by kernel_rfl) args w
theorem qS(args:Array Value)(w:World):(callFunc iA args).run PG w=((Extern.SlicesOverlaps.overlaps #[dh,dh] #[sZ] args).run PG w).andThen fun v w=>.ok (.value v) w:=run_callFunc_extern (P:=PG) Tryz.func287 (by kernel_rfl) (by kernel_rfl) (by kernel_rfl) (by kernel_rfl) args w
theorem qa(args:Array Value)(w:World):(callFunc gT args).run PG w=((Extern.SlicesOverlaps.overlaps #[qi,qi] #[sZ] args).run PG w).andThen fun v w=>.ok (.value v) w:=run_callFunc_extern (P:=PG) Tryz.func289 (by kernel_rfl) (by kernel_rfl) (by kernel_rfl) (by kernel_rfl) args w
abbrev bl(h:ad)(a:Addr)(i:Nat)(v:Value):Prop:=aE h (adr a i)=some v
abbrev cD(i:Int)(n:Nat):Prop:=(0:Int)≤i∧i<(n:Int)
abbrev T6:=Int×Int×Int×Int×(Option Addr)×(Option Addr)
abbrev kd6:Kind:=.agg [.int .i64,.int .u64,.int .u64,.int .u64,.ptr,.ptr]
noncomputable def Vz(l:List Nat):Nat:=fO 0 (fun i _ s=>Nat.add (Nat.pow 2 i) s) l
noncomputable def dn(a f l:List Nat)(d n:Nat):DM:=.mk (Vz a) (Nat.sub (Nat.sub (Nat.pow 2 n) 1) (Vz f)) (Vz l) (match d with|0=>0|d+1=>Nat.pow 2 d)
noncomputable def dm(a l:List Nat)(d n:Nat):DM:=dn a a l d n
noncomputable def dl(n:Nat)(l:List (Nat→DM)):List DM:=fO [] (fun f _ r=>f n::r) l
noncomputable def U9(i n:Nat)(a:DA):DA:=Nat.rec (fun _=>a) (fun _ r i=>.take i (r (Nat.succ i))) n i
noncomputable def Vu(l:List Nat)(a:DA):DA:=fO a (fun i _ r=>.take i r) l
abbrev bj(h g:ad)(i:Nat)(v:Int):Prop:=aE h (adr (aA g) i)=some (.int .i64 v)
abbrev P8(h:ad)(a:Addr)(i:Nat)(v:Int):Prop:=aE h (adr a i)=some (.int .i64 v)
abbrev ao(h g:ad)(i:Nat)(v:Int):Prop:=aE h (adr (aA g) i)=some (.int .u64 v)
abbrev cP(h:ad)(a:Addr)(i:Nat)(v:Int):Prop:=aE h (adr a i)=some (.int .u64 v)
abbrev P9(h:ad)(a:Addr)(i:Nat)(v:Int):Prop:=aE h (adr a i)=some (.int .u8 v)
abbrev Lm(h g:ad)(i:Nat)(v:Int):Prop:=aE h (adr (aA g) i)=some (.int .u8 v)
abbrev aI(h g:ad)(i:Nat)(v:Option Addr):Prop:=aE h (adr (aA g) i)=some (.pointer v)
abbrev re(h:ad)(a:Addr)(i:Nat)(v:Option Addr):Prop:=aE h (adr a i)=some (.pointer v)
abbrev aQ(h:ad)(a:Addr)(i:Nat)(v:ByteArray):Prop:=aE h (adr a i)=some (.string v)
abbrev dI(h g:ad)(i:Nat)(v:SliceV):Prop:=aE h (adr (aA g) i)=some (.slice v.a v.len v.cap)
abbrev bC(h:ad)(a:Addr)(i:Nat)(v:SliceV):Prop:=aE h (adr a i)=some (.slice v.a v.len v.cap)
abbrev fj(h g:ad)(l:List Value)(k:ad→Prop):Prop:=rP h (some (aA g)) 0 l∧At (g8 h (aA g) 0 l) k
abbrev nv(h:ad)(z:List Value)(t:TypeId)(l:List Value)(k:ad→Prop):Prop:=At (hnew h z t) fun g=>rP g (some (aA h)) 0 l∧At (g8 g (aA h) 0 l) k
abbrev yM(x:Int×Int×Int):List Value:= [.int .u64 x.1,.int .u64 x.2.1,.int .u64 x.2.2]
abbrev tK(x0:Int)(x1:Int)(x2:Int):Value:=.agg #[.int .u64 x0,.int .u64 x1,.int .u64 x2]
abbrev Aw:List Value:= [.int .i64 0,.int .u64 0,.int .u64 0,.int .u64 0,.pointer none,.pointer none]
abbrev qY(x:Int×Int×Int×Int×(Option Addr)×(Option Addr)):List Value:= [.int .i64 x.1,.int .u64 x.2.1,.int .u64 x.2.2.1,.int .u64 x.2.2.2.1,.pointer x.2.2.2.2.1,.pointer x.2.2.2.2.2]
abbrev Jj(x:Int×Int×Int):Value:=.agg #[.int .u64 x.1,.int .u64 x.2.1,.int .u64 x.2.2]
abbrev Ik:List Value:= [.int .i64 0,.int .u64 0,.int .u64 0,.int .u64 0,.slice none 0 0]
abbrev OD(x:Int×Int×Int×Int×SliceV):List Value:= [.int .i64 x.1,.int .u64 x.2.1,.int .u64 x.2.2.1,.int .u64 x.2.2.2.1,.slice x.2.2.2.2.a x.2.2.2.2.len x.2.2.2.2.cap]
abbrev As(x0:Int)(x1:Int)(x2:Int)(x3:Int)(x4:Option Addr)(x5:Option Addr):Value:=.agg #[.int .i64 x0,.int .u64 x1,.int .u64 x2,.int .u64 x3,.pointer x4,.pointer x5]
abbrev Tu(x0:Int)(x1:Int)(x2:Int)(x3:Int)(x4:SliceV):Value:=.agg #[.int .i64 x0,.int .u64 x1,.int .u64 x2,.int .u64 x3,.slice x4.a x4.len x4.cap]
abbrev zl3:List Value:= [.int .u8 0,.string (⟨#[]⟩:ByteArray),.string (⟨#[]⟩:ByteArray),.int .u8 0,.int .u16 0,.int .u16 0]
abbrev vl3(x0:Int)(x1:ByteArray)(x2:ByteArray)(x3:Int)(x4:Int)(x5:Int):List Value:= [.int .u8 x0,.string x1,.string x2,.int .u8 x3,.int .u16 x4,.int .u16 x5]
abbrev yR(x0:SliceV)(x1:ByteArray):List Value:= [.slice x0.a x0.len x0.cap,.string x1]
abbrev FH(x0:Int)(x1:Int)(x2:Int)(x3:Int)(x4:Option Addr)(x5:Option Addr):List Value:= [.int .i64 x0,.int .u64 x1,.int .u64 x2,.int .u64 x3,.pointer x4,.pointer x5]
abbrev M4(x0:Int)(x1:Int)(x2:Int)(x3:Int)(x4:SliceV):List Value:= [.int .i64 x0,.int .u64 x1,.int .u64 x2,.int .u64 x3,.slice x4.a x4.len x4.cap]
abbrev pn(x0:ByteArray)(x1:ByteArray):Value:=.agg #[.string x0,.string x1]
abbrev Tl(x0:ByteArray)(x1:Int):List Value:= [.string x0,.int .i64 x1]
abbrev jN:List Value:= [.string (⟨#[]⟩:ByteArray),.string (⟨#[]⟩:ByteArray)]
abbrev gZ(x0:ByteArray)(x1:ByteArray):List Value:= [.string x0,.string x1]
abbrev AU:List Kind:= [.agg [.int .i64,.int .u64,.int .u64,.int .u64,.ptr,.ptr],.c (.int .i64)]
abbrev Hq:List Kind:= [.agg [.int .u64,.int .u64,.int .u64]]
abbrev E3:List Kind:= [.agg [.int .i64,.int .u64,.int .u64,.int .u64,.slice],.c (.int .i64)]
abbrev kq:List Kind:= [.c .str,.c .bool]
abbrev T5:=Int×Int×Int×Int×SliceV
abbrev Jz:List Kind:= [.agg [.int .i64,.int .u64,.int .u64,.int .u64,.ptr,.ptr]]
abbrev cd:List Kind:= [.c (.int .i64)]
abbrev Nk(x:Int×Int×Int×Int×(Option Addr)×(Option Addr)):Value:=.agg #[.int .i64 x.1,.int .u64 x.2.1,.int .u64 x.2.2.1,.int .u64 x.2.2.2.1,.pointer x.2.2.2.2.1,.pointer x.2.2.2.2.2]
abbrev PH(x0:SliceV)(x1:SliceV):List Value:= [.slice x0.a x0.len x0.cap,.slice x1.a x1.len x1.cap]
abbrev un(x0:Option Addr)(x1:Int):List Value:= [.pointer x0,.int .i64 x1]
abbrev U7(x:Int×Int×Int×Int×SliceV):Value:=.agg #[.int .i64 x.1,.int .u64 x.2.1,.int .u64 x.2.2.1,.int .u64 x.2.2.2.1,.slice x.2.2.2.2.a x.2.2.2.2.len x.2.2.2.2.cap]
abbrev zg0:Value:=.agg #[.int .u64 0,.int .u64 0,.int .u64 0]
abbrev aw(h g:ad)(i:Nat)(v:ByteArray):Prop:=aE h (adr (aA g) i)=some (.string v)
abbrev cT(h:ad)(a:Addr)(v:Value)(k:ad→Prop):Prop:=Wr h a∧At (hset h a v) k
abbrev rM(x:ByteArray×ByteArray):List Value:= [.string x.1,.string x.2]
abbrev jR:List Kind:= [.c .ptr,.c .bool]
abbrev Nj(x:ByteArray×ByteArray):Value:=.agg #[.string x.1,.string x.2]
abbrev U0:List Value:= [.int .u64 0,.int .u64 0,.int .u64 0]
abbrev U3(x0:Int)(x1:Int)(x2:Int):List Value:= [.int .u64 x0,.int .u64 x1,.int .u64 x2]
abbrev NZ(x0:Option Addr)(x1:Option Addr)(x2:ByteArray):List Value:= [.pointer x0,.pointer x1,.string x2]
abbrev qL(x0:Option Addr)(x1:ByteArray):List Value:= [.pointer x0,.string x1]
abbrev kW:List Kind:= [.c (.int .i64),.c .bool]
abbrev Hh(x:ByteArray×ByteArray×Bool):Value:=.agg #[.string x.1,.string x.2.1,.bool x.2.2]
abbrev OT:List Kind:= [.agg [.str,.str,.bool]]
abbrev dT(h:ad)(a:Addr)(i:Nat)(v:Bool):Prop:=aE h (adr a i)=some (.bool v)
abbrev Uk:List Value:= [.string (⟨#[]⟩:ByteArray),.bool false,.string (⟨#[]⟩:ByteArray),.slice none 0 0]
abbrev N3(x0:SliceV)(x1:SliceV)(x2:Int):List Value:= [.slice x0.a x0.len x0.cap,.slice x1.a x1.len x1.cap,.int .i64 x2]
abbrev g5:List Kind:= [.c (.int .u64)]
abbrev Ip:List Value:= [.string (⟨#[]⟩:ByteArray),.bool false,.string (⟨#[]⟩:ByteArray),.slice none 0 0,.pointer none]
abbrev PI(x0:Option Addr)(x1:Option Addr)(x2:ByteArray)(x3:ByteArray):List Value:= [.pointer x0,.pointer x1,.string x2,.string x3]
abbrev rV:List Kind:= [.c .ptr,.c .bool,.c .bool]
abbrev Tj:List Value:= [.int .u64 0,.int .u64 0,.int .u64 0,.pointer none,.string (⟨#[]⟩:ByteArray),.int .u64 0]
abbrev Tq(x0:Int)(x1:Int)(x2:Int)(x3:Option Addr)(x4:ByteArray)(x5:Int):List Value:= [.int .u64 x0,.int .u64 x1,.int .u64 x2,.pointer x3,.string x4,.int .u64 x5]
abbrev xM(x0:Int)(x1:Int)(x2:Int)(x3:Option Addr)(x4:ByteArray)(x5:Int):Value:=.agg #[.int .u64 x0,.int .u64 x1,.int .u64 x2,.pointer x3,.string x4,.int .u64 x5]
abbrev C2(x0:Option Addr)(x1:Int):List Value:= [.pointer x0,.int .u8 x1]
abbrev lJ(x0:Int)(x1:Int):List Value:= [.int .u64 x0,.int .i64 x1]
abbrev lh:List Kind:= [.agg [.str,.str],.c .bool]
abbrev TM(x:ByteArray×ByteArray×ByteArray×Bool×Bool):List Value:= [.string x.1,.string x.2.1,.string x.2.2.1,.bool x.2.2.2.1,.bool x.2.2.2.2]
abbrev UJ(x:ByteArray×ByteArray×ByteArray×Bool×Bool):Value:=.agg #[.string x.1,.string x.2.1,.string x.2.2.1,.bool x.2.2.2.1,.bool x.2.2.2.2]
abbrev pr(h g:ad)(i:Nat)(v:Bool):Prop:=aE h (adr (aA g) i)=some (.bool v)
abbrev EY(x:ByteArray×ByteArray×Bool):List Value:= [.string x.1,.string x.2.1,.bool x.2.2]
abbrev Ix(x0:ByteArray)(x1:ByteArray)(x2:Bool):Value:=.agg #[.string x0,.string x1,.bool x2]
abbrev Ul:List Value:= [.string (⟨#[]⟩:ByteArray),.string (⟨#[]⟩:ByteArray),.bool false]
abbrev Uq(x0:ByteArray)(x1:ByteArray)(x2:Bool):List Value:= [.string x0,.string x1,.bool x2]
abbrev ni(h:ad)(a:Addr)(l:List Value)(k:ad→Prop):Prop:=rP h (some a) 0 l∧At (g8 h a 0 l) k
abbrev Us(x0:Int)(x1:Int):Value:=.agg #[.int .u64 x0,.int .u64 x1]
abbrev Ts(x0:Option Addr)(x1:SliceV):List Value:= [.pointer x0,.slice x1.a x1.len x1.cap]
abbrev RH(x0:Int)(x1:Int):List Value:= [.int .u8 x0,.int .u8 x1]
abbrev N2(x0:SliceV)(x1:Int)(x2:Int):List Value:= [.slice x0.a x0.len x0.cap,.int .u64 x1,.int .i64 x2]
abbrev RI(x0:SliceV)(x1:Option Addr)(x2:Int):List Value:= [.slice x0.a x0.len x0.cap,.pointer x1,.int .i64 x2]
abbrev iG:List Kind:= [.c (.int .u32)]
abbrev Un(x0:Int)(x1:Int)(x2:Int)(x3:Int):List Value:= [.int .u8 x0,.int .u8 x1,.int .u8 x2,.int .u8 x3]
abbrev Tp(x0:Int)(x1:Int)(x2:ByteArray):List Value:= [.int .u64 x0,.int .u64 x1,.string x2]
abbrev N1(x0:Int)(x1:SliceV):List Value:= [.int .u64 x0,.slice x1.a x1.len x1.cap]
abbrev Pw:List Value:= [.int .u32 0,.int .u32 0,.slice none 0 0,.slice none 0 0,.bool false,.pointer none]
abbrev lI(x0:Option Addr)(x1:Option Addr):List Value:= [.pointer x0,.pointer x1]
abbrev Tn(x0:Option Addr)(x1:ByteArray)(x2:ByteArray):List Value:= [.pointer x0,.string x1,.string x2]
abbrev GQ(x0:Option Addr)(x1:Option Addr)(x2:Int):List Value:= [.pointer x0,.pointer x1,.int .i64 x2]
abbrev Hg(x:Int×Int×Int×(Option Addr)×ByteArray×Int):List Value:= [.int .u64 x.1,.int .u64 x.2.1,.int .u64 x.2.2.1,.pointer x.2.2.2.1,.string x.2.2.2.2.1,.int .u64 x.2.2.2.2.2]
abbrev CZ(x0:Option Addr)(x1:Option Addr)(x2:Int)(x3:Option Addr):List Value:= [.pointer x0,.pointer x1,.int .i64 x2,.pointer x3]
abbrev TN(x:Int×Int×Int×(Option Addr)×ByteArray×Int):Value:=.agg #[.int .u64 x.1,.int .u64 x.2.1,.int .u64 x.2.2.1,.pointer x.2.2.2.1,.string x.2.2.2.2.1,.int .u64 x.2.2.2.2.2]
abbrev Iw(x0:SliceV)(x1:Int)(x2:Int):List Value:= [.slice x0.a x0.len x0.cap,.int .i64 x1,.int .i64 x2]
abbrev g7(h:ad)(a:Addr)(i:Nat)(v:Int):Prop:=aE h (adr a i)=some (.int .u32 v)
abbrev nm(x0:Int)(x1:Int):List Value:= [.int .u32 x0,.int .i64 x1]
abbrev UH(x:Int×Int):List Value:= [.int .u64 x.1,.int .u64 x.2]
abbrev NW:List Value:= [.int .u64 0,.int .u64 0,.int .u64 0,.int .u64 0]
abbrev N0(x0:Int)(x1:Int)(x2:Int)(x3:Int):List Value:= [.int .u64 x0,.int .u64 x1,.int .u64 x2,.int .u64 x3]
abbrev RG(x0:Option Addr)(x1:Int):List Value:= [.pointer x0,.int .u64 x1]
abbrev Vl(x:Int×Int):Value:=.agg #[.int .u64 x.1,.int .u64 x.2]
abbrev Tt(x0:Int)(x1:Int)(x2:Int)(x3:Int):Value:=.agg #[.int .u64 x0,.int .u64 x1,.int .u64 x2,.int .u64 x3]
abbrev OE(x:Int×Int×Int×Int):Value:=.agg #[.int .u64 x.1,.int .u64 x.2.1,.int .u64 x.2.2.1,.int .u64 x.2.2.2]
abbrev Qj(x:Int×Int×Int×Int):List Value:= [.int .u64 x.1,.int .u64 x.2.1,.int .u64 x.2.2.1,.int .u64 x.2.2.2]
abbrev zn:List Kind:= [.agg [.int .u64,.int .u64,.int .u64,.int .u64]]
abbrev Uo(x0:ByteArray)(x1:Bool)(x2:ByteArray)(x3:SliceV)(x4:Option Addr):List Value:= [.string x0,.bool x1,.string x2,.slice x3.a x3.len x3.cap,.pointer x4]
abbrev Tm(x0:SliceV)(x1:Int)(x2:SliceV):List Value:= [.slice x0.a x0.len x0.cap,.int .i64 x1,.slice x2.a x2.len x2.cap]
abbrev ES(x0:ByteArray)(x1:ByteArray)(x2:ByteArray)(x3:Bool)(x4:Bool):List Value:= [.string x0,.string x1,.string x2,.bool x3,.bool x4]
abbrev Cg(x0:ByteArray)(x1:ByteArray)(x2:ByteArray)(x3:Bool)(x4:Bool):Value:=.agg #[.string x0,.string x1,.string x2,.bool x3,.bool x4]
abbrev Tb:List Kind:= [.agg [.str,.str]]
abbrev ER(x0:Option Addr)(x1:ByteArray)(x2:Bool):List Value:= [.pointer x0,.string x1,.bool x2]
abbrev KI:List Value:= [.pointer none,.string (⟨#[]⟩:ByteArray),.bool false]
abbrev Ur(x0:Option Addr)(x1:ByteArray)(x2:Bool):Value:=.agg #[.pointer x0,.string x1,.bool x2]
abbrev U6(x:SliceV×SliceV):List Value:= [.slice x.1.a x.1.len x.1.cap,.slice x.2.a x.2.len x.2.cap]
abbrev Gf:List Kind:= [.agg [.slice,.slice]]
abbrev Uj:List Value:= [.slice none 0 0,.slice none 0 0]
abbrev To(x0:Int)(x1:Int)(x2:SliceV)(x3:SliceV)(x4:Bool)(x5:Option Addr):List Value:= [.int .u32 x0,.int .u32 x1,.slice x2.a x2.len x2.cap,.slice x3.a x3.len x3.cap,.bool x4,.pointer x5]
abbrev UG(x:(Option Addr)×ByteArray×Bool):List Value:= [.pointer x.1,.string x.2.1,.bool x.2.2]
abbrev Vk(x:(Option Addr)×ByteArray×Bool):Value:=.agg #[.pointer x.1,.string x.2.1,.bool x.2.2]
abbrev Vb(x0:SliceV)(x1:Int):List Value:= [.slice x0.a x0.len x0.cap,.int .i64 x1]
theorem dJ(an:Ann){f:FuncId}{fn:Func}{args:List Value}{ks:List Kind}{K:cL ks→ad→Prop}{h:ad}{p:Prop}(hf:PG.funcs[f]? =some fn) (hcall:∀(args:Array Value) (w:World),(callFunc f args).run PG w=.ok (.enter f args) w) (hb:fn.body=some (fn.body.getD .skip)) (hl:wU args.length fn.ntmps=true) (e:p=Nf PG fn (fn.body.getD .skip) an args ks K h) (hp:p):HC PG f args ks K h:=HC.intro Tryz.mixed hf hb hcall (i7 hl) (e▸hp)
theorem UZ(an:Ann){f:FuncId}{fn:Func}{args:List Value}{ks:List Kind}{K:cL ks→ad→Prop}{h:ad}{p:Prop}(hf:PG.funcs[f]? =some fn) (hcall:∀(args:Array Value) (w:World),(callFunc f args).run PG w=.ok (.enter f args) w) (hb:fn.body=some (fn.body.getD .skip)) (hl:wU args.length fn.ntmps=true) (e:p=La PG fn (fn.body.getD .skip) an args ks K h) (hp:p):HC PG f args ks K h:=HC.introM Tryz.mixed hf hb hcall (i7 hl) (e▸hp)
theorem VB(an:Ann){f:FuncId}{fn:Func}{args:List Value}{ks:List Kind}{K:cL ks→ad→Prop}{h:ad}{p:Prop}(hf:PG.funcs[f]? =some fn) (hcall:∀(args:Array Value) (w:World),(callFunc f args).run PG w=.ok (.enter f args) w) (hb:fn.body=some (fn.body.getD .skip)) (hl:wU args.length fn.ntmps=true) (e:p=Nf PG fn (fn.body.getD .skip) an args ks K h) (hp:p):HE PG f args ks K h:=HE.intro Tryz.mixed hf hb hcall (i7 hl) (e▸hp)
end Go.Proofs
