/- A part of the proof that the named laws of this program answer true, whatever the input. -/
import Derived.Test.YtncppacbfagpgaaGreatDoorProg
import Derived.Test.YtncppacbfagpgaaGreatDoorLift3
import Derived.KernelRfl
import Derived.Laws.Externs
set_option maxRecDepth 100000
set_option linter.unusedVariables false
open List renaming rec→fy
open Nat renaming ble→vr,le_of_ble_eq_true→iI
namespace Go.Proofs
open Go.Lift
noncomputable abbrev PG:Program:=Tryz.prog
theorem Tryz.mixed:PG.follows .mixedOrders=true:=by kernel_rfl
abbrev tN:FuncId:=4
abbrev mS:FuncId:=18
abbrev gX:FuncId:=20
abbrev wL:FuncId:=22
abbrev kF:FuncId:=23
abbrev uF:FuncId:=24
abbrev kG:FuncId:=25
abbrev uH:FuncId:=26
abbrev tm:FuncId:=27
abbrev cY:FuncId:=28
abbrev cR:FuncId:=29
abbrev bq:FuncId:=30
abbrev bR:FuncId:=31
abbrev ij:FuncId:=32
abbrev jX:FuncId:=33
abbrev sX:FuncId:=34
abbrev r6:FuncId:=35
abbrev y6:FuncId:=36
abbrev tq:FuncId:=37
abbrev wK:FuncId:=40
abbrev fR:FuncId:=66
abbrev tl:FuncId:=67
abbrev uG:FuncId:=70
abbrev lL:FuncId:=73
abbrev mR:FuncId:=74
abbrev qS:FuncId:=75
abbrev qV:FuncId:=76
abbrev rE:FuncId:=79
abbrev wJ:FuncId:=80
abbrev qT:FuncId:=81
abbrev B5:FuncId:=82
abbrev xQ:FuncId:=83
abbrev B6:FuncId:=84
abbrev rF:FuncId:=85
abbrev vP:FuncId:=86
abbrev my:FuncId:=87
abbrev oX:FuncId:=88
abbrev uE:FuncId:=89
abbrev uI:FuncId:=90
abbrev wO:FuncId:=93
abbrev y7:FuncId:=94
abbrev wN:FuncId:=104
abbrev nH:FuncId:=110
abbrev sY:FuncId:=120
abbrev B4:FuncId:=121
abbrev rB:FuncId:=122
abbrev oY:FuncId:=123
abbrev ff:FuncId:=126
abbrev jV:FuncId:=128
abbrev kH:FuncId:=129
abbrev fg:FuncId:=130
abbrev jB:FuncId:=131
abbrev jq:FuncId:=132
abbrev qR:FuncId:=133
abbrev oE:FuncId:=134
abbrev qe:FuncId:=135
abbrev p7:FuncId:=136
abbrev pj:FuncId:=137
abbrev tg:FuncId:=138
abbrev wM:FuncId:=139
abbrev xR:FuncId:=140
abbrev jU:FuncId:=141
abbrev cI:FuncId:=142
abbrev tM:FuncId:=143
abbrev js:FuncId:=144
abbrev mu:FuncId:=145
abbrev nG:FuncId:=146
abbrev tc:FuncId:=147
abbrev lO:FuncId:=148
abbrev ik:FuncId:=149
abbrev nI:FuncId:=150
abbrev nC:FuncId:=153
abbrev fH:FuncId:=155
abbrev tu:FuncId:=156
abbrev mZ:FuncId:=157
abbrev lP:FuncId:=158
abbrev j5:FuncId:=159
abbrev jW:FuncId:=161
abbrev mJ:FuncId:=168
abbrev fT:FuncId:=169
abbrev uD:FuncId:=170
abbrev wH:FuncId:=171
abbrev cZ:FuncId:=172
abbrev cP:FuncId:=173
abbrev pC:FuncId:=174
abbrev nD:FuncId:=175
abbrev y5:FuncId:=179
abbrev rG:FuncId:=180
abbrev iU:FuncId:=181
abbrev fY:FuncId:=189
abbrev iu:FuncId:=190
abbrev de:FuncId:=191
abbrev dH:FuncId:=192
abbrev lN:FuncId:=193
abbrev oW:FuncId:=194
abbrev lw:FuncId:=195
abbrev pD:FuncId:=196
abbrev jC:FuncId:=197
abbrev gM:FuncId:=198
abbrev te:FuncId:=199
abbrev y8:FuncId:=200
abbrev xS:FuncId:=201
abbrev ft:FuncId:=202
abbrev om:FuncId:=203
abbrev th:FuncId:=204
abbrev mr:FuncId:=205
abbrev lQ:FuncId:=206
abbrev fG:FuncId:=207
abbrev jp:FuncId:=208
abbrev d9:FuncId:=209
abbrev rD:FuncId:=210
abbrev rC:FuncId:=211
abbrev mW:FuncId:=212
abbrev kK:FuncId:=213
abbrev xT:FuncId:=217
abbrev d6:FuncId:=219
abbrev md:FuncId:=220
abbrev C8:FuncId:=221
abbrev qU:FuncId:=222
abbrev fI:FuncId:=223
abbrev dA:FuncId:=224
abbrev eD:FuncId:=235
abbrev oV:FuncId:=236
abbrev wI:FuncId:=237
abbrev mV:FuncId:=238
abbrev p6:FuncId:=239
abbrev wG:FuncId:=240
abbrev mQ:FuncId:=241
abbrev i6:FuncId:=242
abbrev lM:FuncId:=243
abbrev sZ:FuncId:=244
abbrev ir:FuncId:=245
abbrev iT:FuncId:=246
abbrev wP:FuncId:=247
abbrev kJ:FuncId:=250
abbrev kI:FuncId:=251
abbrev cS:FuncId:=252
abbrev fh:FuncId:=253
abbrev cK:FuncId:=254
abbrev tf:FuncId:=255
abbrev jN:FuncId:=256
abbrev ix:FuncId:=257
abbrev hE:FuncId:=258
abbrev mX:FuncId:=259
abbrev gl:FuncId:=260
abbrev gm:FuncId:=261
abbrev np:FuncId:=262
abbrev is:FuncId:=263
abbrev eJ:FuncId:=266
abbrev mw:FuncId:=267
abbrev mY:FuncId:=268
abbrev mU:FuncId:=274
abbrev pB:FuncId:=275
abbrev rZ:FuncId:=276
abbrev dJ:FuncId:=277
abbrev cN:FuncId:=278
abbrev dq:FuncId:=279
abbrev nF:FuncId:=280
abbrev fa:FuncId:=281
abbrev eZ:FuncId:=284
abbrev eo:FuncId:=285
abbrev i7:FuncId:=286
abbrev g9:FuncId:=287
abbrev oD:FuncId:=288
abbrev gF:FuncId:=289
abbrev nB:FuncId:=290
abbrev lx:FuncId:=291
abbrev jD:FuncId:=294
abbrev oC:FuncId:=296
abbrev eR:FuncId:=297
abbrev fS:FuncId:=298
abbrev fu:FuncId:=299
abbrev di:FuncId:=304
abbrev ol:TypeId:=3
abbrev rx:TypeId:=4
abbrev cD:TypeId:=5
abbrev DC:TypeId:=9
abbrev nq:TypeId:=22
abbrev kq:TypeId:=24
abbrev cC:TypeId:=26
abbrev cL:TypeId:=27
abbrev bK:TypeId:=31
abbrev bQ:TypeId:=32
abbrev aI:TypeId:=34
abbrev PB:TypeId:=35
abbrev pX:TypeId:=39
abbrev Oz:TypeId:=40
abbrev iq:TypeId:=42
abbrev Rx:TypeId:=53
abbrev ag:TypeId:=65
abbrev bS:TypeId:=67
abbrev Kh:TypeId:=119
abbrev pY:TypeId:=133
abbrev Oy:TypeId:=136
abbrev CZ:TypeId:=138
abbrev Mn:TypeId:=140
abbrev na:TypeId:=184
abbrev ox:TypeId:=189
abbrev pt:TypeId:=198
abbrev MR:TypeId:=203
abbrev mO:TypeId:=205
abbrev QR:TypeId:=208
abbrev Oh:TypeId:=209
abbrev Mr:TypeId:=210
abbrev gT:TypeId:=212
abbrev t_u32:TypeId:=214
abbrev Rl:TypeId:=216
abbrev bU:TypeId:=220
abbrev cO:TypeId:=227
abbrev F9:TypeId:=251
abbrev CY:TypeId:=255
abbrev yK:TypeId:=256
abbrev FZ:TypeId:=258
abbrev sI:TypeId:=272
abbrev Ox:TypeId:=274
abbrev bE:TypeId:=276
abbrev MN:TypeId:=287
abbrev Bf:TypeId:=300
abbrev Ml:TypeId:=302
abbrev Mp:TypeId:=314
abbrev Mm:TypeId:=317
abbrev sJ:TypeId:=320
abbrev iX:TypeId:=321
abbrev Og:TypeId:=342
abbrev vM:TypeId:=344
abbrev dS:TypeId:=346
abbrev dV:TypeId:=349
abbrev MQ:TypeId:=351
abbrev vL:TypeId:=353
abbrev Of:TypeId:=357
abbrev MP:TypeId:=362
abbrev MO:TypeId:=369
abbrev Oe:TypeId:=371
abbrev Mq:TypeId:=376
theorem oF(args:Array Value)(w:World):(callFunc gm args).run PG w=((Extern.SlicesOverlaps.overlaps #[ox,ox] #[rx] args).run PG w).andThen fun v w=>.ok (.value v) w:=run_callFunc_extern (P:=PG) Tryz.func261 (by kernel_rfl) (by kernel_rfl) (by kernel_rfl) (by kernel_rfl) args w
theorem p8(args:Array Value)(w:World):(callFunc g9 args).run PG w=((Extern.SlicesOverlaps.overlaps #[cL,cL] #[rx] args).run PG w).andThen fun v w=>.ok (.value v) w:=run_callFunc_extern (P:=PG) Tryz.func287 (by kernel_rfl) (by kernel_rfl) (by kernel_rfl) (by kernel_rfl) args w
theorem pn(args:Array Value)(w:World):(callFunc gF args).run PG w=((Extern.SlicesOverlaps.overlaps #[pt,pt] #[rx] args).run PG w).andThen fun v w=>.ok (.value v) w:=run_callFunc_extern (P:=PG) Tryz.func289 (by kernel_rfl) (by kernel_rfl) (by kernel_rfl) (by kernel_rfl) args w
abbrev cf(h:ad)(a:Addr)(i:Nat)(v:Value):Prop:=aN h (adr a i)=some v
abbrev dd(i:Int)(n:Nat):Prop:=(0:Int)≤i∧i<(n:Int)
abbrev T6:=Int×Int×Int×Int×(Option Addr)×(Option Addr)
abbrev kd6:Kind:=.agg [.int .i64,.int .u64,.int .u64,.int .u64,.ptr,.ptr]
noncomputable def RO(l:List Nat):Nat:=fy 0 (fun i _ s=>Nat.add (Nat.pow 2 i) s) l
noncomputable def dn(a f l:List Nat)(d n:Nat):DM:=.mk (RO a) (Nat.sub (Nat.sub (Nat.pow 2 n) 1) (RO f)) (RO l) (match d with|0=>0|d+1=>Nat.pow 2 d)
noncomputable def dm(a l:List Nat)(d n:Nat):DM:=dn a a l d n
noncomputable def dl(n:Nat)(l:List (Nat→DM)):List DM:=fy [] (fun f _ r=>f n::r) l
noncomputable def dTr(i n:Nat)(a:DA):DA:=Nat.rec (fun _=>a) (fun _ r i=>.take i (r (Nat.succ i))) n i
noncomputable def dTk(l:List Nat)(a:DA):DA:=fy a (fun i _ r=>.take i r) l
abbrev aM(h g:ad)(i:Nat)(v:Int):Prop:=aN h (adr (az g) i)=some (.int .i64 v)
abbrev ae(h g:ad)(i:Nat)(v:Int):Prop:=aN h (adr (az g) i)=some (.int .u64 v)
abbrev au(h g:ad)(i:Nat)(v:Option Addr):Prop:=aN h (adr (az g) i)=some (.pointer v)
abbrev eP(h g:ad)(i:Nat)(v:SliceV):Prop:=aN h (adr (az g) i)=some (.slice v.a v.len v.cap)
abbrev cJ(h g:ad)(l:List Value)(k:ad→Prop):Prop:=uc h (some (az g)) 0 l∧At (jA h (az g) 0 l) k
abbrev nv(h:ad)(z:List Value)(t:TypeId)(l:List Value)(k:ad→Prop):Prop:=At (hnew h z t) fun g=>uc g (some (az h)) 0 l∧At (jA g (az h) 0 l) k
abbrev yE(x:Int×Int×Int):List Value:= [.int .u64 x.1,.int .u64 x.2.1,.int .u64 x.2.2]
abbrev pW(x0:Int)(x1:Int)(x2:Int):Value:=.agg #[.int .u64 x0,.int .u64 x1,.int .u64 x2]
abbrev ml:List Value:= [.int .i64 0,.int .u64 0,.int .u64 0,.int .u64 0,.pointer none,.pointer none]
abbrev Mw:List Value:= [.int .i64 0,.int .u64 0,.int .u64 0,.int .u64 0,.slice none 0 0]
abbrev gB(x:Int×Int×Int×Int×(Option Addr)×(Option Addr)):List Value:= [.int .i64 x.1,.int .u64 x.2.1,.int .u64 x.2.2.1,.int .u64 x.2.2.2.1,.pointer x.2.2.2.2.1,.pointer x.2.2.2.2.2]
abbrev Ms(x:Int×Int×Int×Int×SliceV):List Value:= [.int .i64 x.1,.int .u64 x.2.1,.int .u64 x.2.2.1,.int .u64 x.2.2.2.1,.slice x.2.2.2.2.a x.2.2.2.2.len x.2.2.2.2.cap]
abbrev oe(x0:Int)(x1:Int)(x2:Int)(x3:Int)(x4:Option Addr)(x5:Option Addr):Value:=.agg #[.int .i64 x0,.int .u64 x1,.int .u64 x2,.int .u64 x3,.pointer x4,.pointer x5]
abbrev o9(x0:ByteArray)(x1:ByteArray):Value:=.agg #[.string x0,.string x1]
abbrev PX(x0:Int)(x1:Int)(x2:Int)(x3:Int)(x4:SliceV):Value:=.agg #[.int .i64 x0,.int .u64 x1,.int .u64 x2,.int .u64 x3,.slice x4.a x4.len x4.cap]
abbrev IB(x:Int×Int×Int×Int×(Option Addr)×(Option Addr)):Value:=.agg #[.int .i64 x.1,.int .u64 x.2.1,.int .u64 x.2.2.1,.int .u64 x.2.2.2.1,.pointer x.2.2.2.2.1,.pointer x.2.2.2.2.2]
abbrev zg2:Value:=.agg #[.int .i64 0,.int .u64 0,.int .u64 0,.int .u64 0,.slice none 0 0]
abbrev jx(x0:ByteArray)(x1:ByteArray):List Value:= [.string x0,.string x1]
abbrev Nv:List Kind:= [.agg [.int .i64,.int .u64,.int .u64,.int .u64,.ptr,.ptr],.agg [.int .i64,.int .u64,.int .u64,.int .u64,.slice]]
abbrev yX:List Kind:= [.agg [.int .i64,.int .u64,.int .u64,.int .u64,.ptr,.ptr],.c (.int .i64)]
abbrev gV:List Kind:= [.agg [.int .i64,.int .u64,.int .u64,.int .u64,.ptr,.ptr]]
abbrev BS:List Kind:= [.agg [.int .u64,.int .u64,.int .u64]]
abbrev T5:=Int×Int×Int×Int×SliceV
abbrev HJ(x:Int×Int×Int):Value:=.agg #[.int .u64 x.1,.int .u64 x.2.1,.int .u64 x.2.2]
abbrev cy:List Kind:= [.c (.int .i64)]
abbrev MD(x0:SliceV)(x1:SliceV):List Value:= [.slice x0.a x0.len x0.cap,.slice x1.a x1.len x1.cap]
abbrev dQ(h:ad)(a:Addr)(i:Nat)(v:Int):Prop:=aN h (adr a i)=some (.int .u64 v)
abbrev xo(x0:Option Addr)(x1:Int):List Value:= [.pointer x0,.int .i64 x1]
abbrev RC(x:Int×Int×Int×Int×SliceV):Value:=.agg #[.int .i64 x.1,.int .u64 x.2.1,.int .u64 x.2.2.1,.int .u64 x.2.2.2.1,.slice x.2.2.2.2.a x.2.2.2.2.len x.2.2.2.2.cap]
abbrev bC(h:ad)(a:Addr)(i:Nat)(v:ByteArray):Prop:=aN h (adr a i)=some (.string v)
abbrev zg0:Value:=.agg #[.int .u64 0,.int .u64 0,.int .u64 0]
abbrev av(h g:ad)(i:Nat)(v:ByteArray):Prop:=aN h (adr (az g) i)=some (.string v)
abbrev kU:List Value:= [.string (⟨#[]⟩:ByteArray),.string (⟨#[]⟩:ByteArray)]
abbrev Rh(x0:ByteArray)(x1:Int):List Value:= [.string x0,.int .i64 x1]
abbrev Lg(x0:Int)(x1:Int)(x2:Int)(x3:Int)(x4:Option Addr)(x5:Option Addr):List Value:= [.int .i64 x0,.int .u64 x1,.int .u64 x2,.int .u64 x3,.pointer x4,.pointer x5]
abbrev QI(x0:Int)(x1:Int)(x2:Int)(x3:Int)(x4:SliceV):List Value:= [.int .i64 x0,.int .u64 x1,.int .u64 x2,.int .u64 x3,.slice x4.a x4.len x4.cap]
abbrev IV:List Kind:= [.agg [.int .i64,.int .u64,.int .u64,.int .u64,.slice],.c (.int .i64)]
abbrev dL(h:ad)(a:Addr)(v:Value)(k:ad→Prop):Prop:=Wr h a∧At (hset h a v) k
abbrev sP(x:ByteArray×ByteArray):List Value:= [.string x.1,.string x.2]
abbrev uw:List Kind:= [.c .ptr,.c .bool]
abbrev Kt(x:ByteArray×ByteArray):Value:=.agg #[.string x.1,.string x.2]
abbrev Re:List Value:= [.int .u64 0,.int .u64 0,.int .u64 0]
abbrev Ri(x0:Int)(x1:Int)(x2:Int):List Value:= [.int .u64 x0,.int .u64 x1,.int .u64 x2]
abbrev OT(x:ByteArray×ByteArray×Bool):Value:=.agg #[.string x.1,.string x.2.1,.bool x.2.2]
abbrev LQ:List Kind:= [.agg [.str,.str,.bool]]
abbrev BR:List Kind:= [.c .str,.c .bool]
abbrev ge(h:ad)(a:Addr)(i:Nat)(v:Bool):Prop:=aN h (adr a i)=some (.bool v)
abbrev bG(h:ad)(a:Addr)(i:Nat)(v:SliceV):Prop:=aN h (adr a i)=some (.slice v.a v.len v.cap)
abbrev QG:List Value:= [.string (⟨#[]⟩:ByteArray),.bool false,.string (⟨#[]⟩:ByteArray),.slice none 0 0]
abbrev Lf(x0:SliceV)(x1:SliceV)(x2:Int):List Value:= [.slice x0.a x0.len x0.cap,.slice x1.a x1.len x1.cap,.int .i64 x2]
abbrev ii:List Kind:= [.c (.int .u64)]
abbrev jz:List Kind:= [.c (.int .i64),.c .bool]
abbrev F1:List Value:= [.string (⟨#[]⟩:ByteArray),.bool false,.string (⟨#[]⟩:ByteArray),.slice none 0 0,.pointer none]
abbrev MG(x0:Option Addr)(x1:Option Addr)(x2:ByteArray)(x3:ByteArray):List Value:= [.pointer x0,.pointer x1,.string x2,.string x3]
abbrev qP:List Kind:= [.c .ptr,.c .bool,.c .bool]
abbrev PP:List Value:= [.int .u64 0,.int .u64 0,.int .u64 0,.pointer none,.string (⟨#[]⟩:ByteArray),.int .u64 0]
abbrev PV(x0:Int)(x1:Int)(x2:Int)(x3:Option Addr)(x4:ByteArray)(x5:Int):List Value:= [.int .u64 x0,.int .u64 x1,.int .u64 x2,.pointer x3,.string x4,.int .u64 x5]
abbrev CX(x0:Int)(x1:Int)(x2:Int)(x3:Option Addr)(x4:ByteArray)(x5:Int):Value:=.agg #[.int .u64 x0,.int .u64 x1,.int .u64 x2,.pointer x3,.string x4,.int .u64 x5]
abbrev wi(x0:SliceV)(x1:ByteArray):List Value:= [.slice x0.a x0.len x0.cap,.string x1]
abbrev oz(h g:ad)(i:Nat)(v:Bool):Prop:=aN h (adr (az g) i)=some (.bool v)
abbrev Oj(x:ByteArray×ByteArray×Bool):List Value:= [.string x.1,.string x.2.1,.bool x.2.2]
abbrev Px(x0:ByteArray)(x1:ByteArray)(x2:Bool):Value:=.agg #[.string x0,.string x1,.bool x2]
abbrev zl7:List Value:= [.string (⟨#[]⟩:ByteArray),.string (⟨#[]⟩:ByteArray),.bool false]
abbrev vl7(x0:ByteArray)(x1:ByteArray)(x2:Bool):List Value:= [.string x0,.string x1,.bool x2]
abbrev rt(h:ad)(a:Addr)(l:List Value)(k:ad→Prop):Prop:=uc h (some a) 0 l∧At (jA h a 0 l) k
abbrev QM(x0:Int)(x1:Int):Value:=.agg #[.int .u64 x0,.int .u64 x1]
abbrev Rr(x0:Option Addr)(x1:SliceV):List Value:= [.pointer x0,.slice x1.a x1.len x1.cap]
abbrev Ot(x0:Int)(x1:Int):List Value:= [.int .u8 x0,.int .u8 x1]
abbrev Ld(x0:SliceV)(x1:Int)(x2:Int):List Value:= [.slice x0.a x0.len x0.cap,.int .u64 x1,.int .i64 x2]
abbrev Rf(x0:SliceV)(x1:Option Addr)(x2:Int):List Value:= [.slice x0.a x0.len x0.cap,.pointer x1,.int .i64 x2]
abbrev iK:List Kind:= [.c (.int .u32)]
abbrev QJ(x0:Int)(x1:Int)(x2:Int)(x3:Int):List Value:= [.int .u8 x0,.int .u8 x1,.int .u8 x2,.int .u8 x3]
abbrev PU(x0:Int)(x1:Int)(x2:ByteArray):List Value:= [.int .u64 x0,.int .u64 x1,.string x2]
abbrev nn(x0:Int)(x1:Int):List Value:= [.int .u64 x0,.int .i64 x1]
abbrev Lc(x0:Int)(x1:SliceV):List Value:= [.int .u64 x0,.slice x1.a x1.len x1.cap]
abbrev pO:List Kind:= [.agg [.str,.str],.c .bool]
abbrev Mv:List Value:= [.int .u32 0,.int .u32 0,.slice none 0 0,.slice none 0 0,.bool false,.pointer none]
abbrev pV(x0:Option Addr)(x1:Option Addr):List Value:= [.pointer x0,.pointer x1]
abbrev xu(x0:Option Addr)(x1:ByteArray):List Value:= [.pointer x0,.string x1]
abbrev HS(x0:Option Addr)(x1:Int):List Value:= [.pointer x0,.int .u8 x1]
abbrev PS(x0:Option Addr)(x1:ByteArray)(x2:ByteArray):List Value:= [.pointer x0,.string x1,.string x2]
abbrev MF(x0:Option Addr)(x1:Option Addr)(x2:Int):List Value:= [.pointer x0,.pointer x1,.int .i64 x2]
abbrev LK(x:Int×Int×Int×(Option Addr)×ByteArray×Int):List Value:= [.int .u64 x.1,.int .u64 x.2.1,.int .u64 x.2.2.1,.pointer x.2.2.2.1,.string x.2.2.2.2.1,.int .u64 x.2.2.2.2.2]
abbrev F7(x0:Option Addr)(x1:Option Addr)(x2:Int)(x3:Option Addr):List Value:= [.pointer x0,.pointer x1,.int .i64 x2,.pointer x3]
abbrev QY(x:Int×Int×Int×(Option Addr)×ByteArray×Int):Value:=.agg #[.int .u64 x.1,.int .u64 x.2.1,.int .u64 x.2.2.1,.pointer x.2.2.2.1,.string x.2.2.2.2.1,.int .u64 x.2.2.2.2.2]
abbrev gL(h:ad)(a:Addr)(i:Nat)(v:Int):Prop:=aN h (adr a i)=some (.int .u32 v)
abbrev mN(x0:Int)(x1:Int):List Value:= [.int .u32 x0,.int .i64 x1]
abbrev QW(x:Int×Int):List Value:= [.int .u64 x.1,.int .u64 x.2]
abbrev K8:List Value:= [.int .u64 0,.int .u64 0,.int .u64 0,.int .u64 0]
abbrev Lb(x0:Int)(x1:Int)(x2:Int)(x3:Int):List Value:= [.int .u64 x0,.int .u64 x1,.int .u64 x2,.int .u64 x3]
abbrev Oq(x0:Option Addr)(x1:Int):List Value:= [.pointer x0,.int .u64 x1]
abbrev RD(x:Int×Int):Value:=.agg #[.int .u64 x.1,.int .u64 x.2]
abbrev PW(x0:Int)(x1:Int)(x2:Int)(x3:Int):Value:=.agg #[.int .u64 x0,.int .u64 x1,.int .u64 x2,.int .u64 x3]
abbrev LL(x:Int×Int×Int×Int):Value:=.agg #[.int .u64 x.1,.int .u64 x.2.1,.int .u64 x.2.2.1,.int .u64 x.2.2.2]
abbrev Ng(x:Int×Int×Int×Int):List Value:= [.int .u64 x.1,.int .u64 x.2.1,.int .u64 x.2.2.1,.int .u64 x.2.2.2]
abbrev xM:List Kind:= [.agg [.int .u64,.int .u64,.int .u64,.int .u64]]
abbrev tK(h:ad)(a:Addr)(i:Nat)(v:Option Addr):Prop:=aN h (adr a i)=some (.pointer v)
abbrev QK(x0:ByteArray)(x1:Bool)(x2:ByteArray)(x3:SliceV)(x4:Option Addr):List Value:= [.string x0,.bool x1,.string x2,.slice x3.a x3.len x3.cap,.pointer x4]
abbrev PR(x0:SliceV)(x1:Int)(x2:SliceV):List Value:= [.slice x0.a x0.len x0.cap,.int .i64 x1,.slice x2.a x2.len x2.cap]
abbrev PJ:List Kind:= [.agg [.str,.str]]
abbrev CW(x0:Option Addr)(x1:ByteArray)(x2:Bool):List Value:= [.pointer x0,.string x1,.bool x2]
abbrev HL:List Value:= [.pointer none,.string (⟨#[]⟩:ByteArray),.bool false]
abbrev QL(x0:Option Addr)(x1:ByteArray)(x2:Bool):Value:=.agg #[.pointer x0,.string x1,.bool x2]
abbrev Ro(x:SliceV×SliceV):List Value:= [.slice x.1.a x.1.len x.1.cap,.slice x.2.a x.2.len x.2.cap]
abbrev D6:List Kind:= [.agg [.slice,.slice]]
abbrev QF:List Value:= [.slice none 0 0,.slice none 0 0]
abbrev PT(x0:Int)(x1:Int)(x2:SliceV)(x3:SliceV)(x4:Bool)(x5:Option Addr):List Value:= [.int .u32 x0,.int .u32 x1,.slice x2.a x2.len x2.cap,.slice x3.a x3.len x3.cap,.bool x4,.pointer x5]
abbrev ME(x0:SliceV)(x1:Int)(x2:Int):List Value:= [.slice x0.a x0.len x0.cap,.int .i64 x1,.int .i64 x2]
abbrev QV(x:(Option Addr)×ByteArray×Bool):List Value:= [.pointer x.1,.string x.2.1,.bool x.2.2]
abbrev RB(x:(Option Addr)×ByteArray×Bool):Value:=.agg #[.pointer x.1,.string x.2.1,.bool x.2.2]
abbrev Rs(x0:SliceV)(x1:Int):List Value:= [.slice x0.a x0.len x0.cap,.int .i64 x1]
theorem ed(an:Ann){f:FuncId}{fn:Func}{args:List Value}{ks:List Kind}{K:cW ks→ad→Prop}{h:ad}{p:Prop}(hf:PG.funcs[f]? =some fn) (hcall:∀(args:Array Value) (w:World),(callFunc f args).run PG w=.ok (.enter f args) w) (hb:fn.body=some (fn.body.getD .skip)) (hl:vr args.length fn.ntmps=true) (e:p=Ko PG fn (fn.body.getD .skip) an args ks K h) (hp:p):HC PG f args ks K h:=HC.intro Tryz.mixed hf hb hcall (iI hl) (e▸hp)
theorem Rd(an:Ann){f:FuncId}{fn:Func}{args:List Value}{ks:List Kind}{K:cW ks→ad→Prop}{h:ad}{p:Prop}(hf:PG.funcs[f]? =some fn) (hcall:∀(args:Array Value) (w:World),(callFunc f args).run PG w=.ok (.enter f args) w) (hb:fn.body=some (fn.body.getD .skip)) (hl:vr args.length fn.ntmps=true) (e:p=H8 PG fn (fn.body.getD .skip) an args ks K h) (hp:p):HC PG f args ks K h:=HC.introM Tryz.mixed hf hb hcall (iI hl) (e▸hp)
theorem RQ(an:Ann){f:FuncId}{fn:Func}{args:List Value}{ks:List Kind}{K:cW ks→ad→Prop}{h:ad}{p:Prop}(hf:PG.funcs[f]? =some fn) (hcall:∀(args:Array Value) (w:World),(callFunc f args).run PG w=.ok (.enter f args) w) (hb:fn.body=some (fn.body.getD .skip)) (hl:vr args.length fn.ntmps=true) (e:p=Ko PG fn (fn.body.getD .skip) an args ks K h) (hp:p):HE PG f args ks K h:=HE.intro Tryz.mixed hf hb hcall (iI hl) (e▸hp)
end Go.Proofs
