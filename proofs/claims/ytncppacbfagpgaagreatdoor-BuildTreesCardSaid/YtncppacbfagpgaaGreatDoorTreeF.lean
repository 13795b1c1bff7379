/- A part of the proof that the named laws of this program answer true, whatever the input. -/
import Derived.Test.YtncppacbfagpgaaGreatDoorProg
import Derived.Test.YtncppacbfagpgaaGreatDoorLift3
import Derived.KernelRfl
import Derived.Laws.Externs
set_option maxRecDepth 100000
set_option linter.unusedVariables false
open List renaming rec→eS
open Nat renaming ble→ul,le_of_ble_eq_true→g9
namespace Go.Proofs
open Go.Lift
noncomputable abbrev PG:Program:=Tryz.prog
theorem Tryz.mixed:PG.follows .mixedOrders=true:=by kernel_rfl
abbrev rg:FuncId:=3
abbrev tE:FuncId:=11
abbrev yj:FuncId:=12
abbrev gG:FuncId:=13
abbrev rN:FuncId:=14
abbrev yi:FuncId:=15
abbrev tD:FuncId:=16
abbrev tB:FuncId:=17
abbrev nA:FuncId:=18
abbrev pj:FuncId:=19
abbrev ie:FuncId:=20
abbrev tq:FuncId:=21
abbrev vG:FuncId:=22
abbrev iv:FuncId:=23
abbrev tx:FuncId:=24
abbrev mP:FuncId:=25
abbrev mR:FuncId:=28
abbrev j2:FuncId:=29
abbrev mQ:FuncId:=30
abbrev ud:FuncId:=36
abbrev mO:FuncId:=66
abbrev pg:FuncId:=67
abbrev qP:FuncId:=68
abbrev qQ:FuncId:=69
abbrev tA:FuncId:=70
abbrev rR:FuncId:=71
abbrev gr:FuncId:=72
abbrev nz:FuncId:=73
abbrev mg:FuncId:=74
abbrev qg:FuncId:=75
abbrev qi:FuncId:=76
abbrev tu:FuncId:=77
abbrev qO:FuncId:=78
abbrev qK:FuncId:=79
abbrev vF:FuncId:=80
abbrev qh:FuncId:=81
abbrev A5:FuncId:=82
abbrev wR:FuncId:=83
abbrev A6:FuncId:=84
abbrev qM:FuncId:=85
abbrev uL:FuncId:=86
abbrev nV:FuncId:=87
abbrev qL:FuncId:=88
abbrev vJ:FuncId:=93
abbrev yg:FuncId:=94
abbrev vI:FuncId:=104
abbrev mW:FuncId:=110
abbrev rL:FuncId:=120
abbrev A4:FuncId:=121
abbrev Ck:FuncId:=122
abbrev nU:FuncId:=123
abbrev pe:FuncId:=124
abbrev pi:FuncId:=125
abbrev gb:FuncId:=126
abbrev mY:FuncId:=127
abbrev jt:FuncId:=128
abbrev j3:FuncId:=129
abbrev gc:FuncId:=130
abbrev kW:FuncId:=131
abbrev iQ:FuncId:=132
abbrev qf:FuncId:=133
abbrev nF:FuncId:=134
abbrev pu:FuncId:=135
abbrev pf:FuncId:=136
abbrev oo:FuncId:=137
abbrev rQ:FuncId:=138
abbrev vH:FuncId:=139
abbrev wS:FuncId:=140
abbrev js:FuncId:=141
abbrev cB:FuncId:=142
abbrev si:FuncId:=143
abbrev iR:FuncId:=144
abbrev lK:FuncId:=145
abbrev ph:FuncId:=146
abbrev fX:FuncId:=155
abbrev pF:FuncId:=157
abbrev nG:FuncId:=158
abbrev l3:FuncId:=159
abbrev ju:FuncId:=161
abbrev l4:FuncId:=168
abbrev gY:FuncId:=169
abbrev tw:FuncId:=170
abbrev cU:FuncId:=172
abbrev cL:FuncId:=173
abbrev oH:FuncId:=174
abbrev mU:FuncId:=175
abbrev dY:FuncId:=176
abbrev tF:FuncId:=177
abbrev pJ:FuncId:=178
abbrev yf:FuncId:=179
abbrev qN:FuncId:=180
abbrev oI:FuncId:=181
abbrev pI:FuncId:=182
abbrev dP:FuncId:=183
abbrev cy:FuncId:=184
abbrev pH:FuncId:=185
abbrev mX:FuncId:=186
abbrev cI:FuncId:=187
abbrev pG:FuncId:=188
abbrev iS:FuncId:=189
abbrev jw:FuncId:=190
abbrev dQ:FuncId:=191
abbrev dh:FuncId:=192
abbrev kV:FuncId:=193
abbrev nT:FuncId:=194
abbrev kF:FuncId:=195
abbrev oJ:FuncId:=196
abbrev iY:FuncId:=197
abbrev gd:FuncId:=198
abbrev rO:FuncId:=199
abbrev yh:FuncId:=200
abbrev wT:FuncId:=201
abbrev eN:FuncId:=202
abbrev ni:FuncId:=203
abbrev rS:FuncId:=204
abbrev lJ:FuncId:=205
abbrev kX:FuncId:=206
abbrev qJ:FuncId:=211
abbrev wU:FuncId:=217
abbrev Cl:FuncId:=221
abbrev tC:FuncId:=222
abbrev fc:FuncId:=223
abbrev dg:FuncId:=224
abbrev dZ:FuncId:=235
abbrev nS:FuncId:=236
abbrev vE:FuncId:=237
abbrev ml:FuncId:=238
abbrev iw:FuncId:=242
abbrev kU:FuncId:=243
abbrev rM:FuncId:=244
abbrev gZ:FuncId:=245
abbrev ig:FuncId:=246
abbrev vK:FuncId:=247
abbrev gL:FuncId:=248
abbrev l6:FuncId:=249
abbrev j5:FuncId:=250
abbrev j4:FuncId:=251
abbrev cN:FuncId:=252
abbrev eJ:FuncId:=253
abbrev cC:FuncId:=254
abbrev rP:FuncId:=255
abbrev jj:FuncId:=256
abbrev g4:FuncId:=257
abbrev gF:FuncId:=258
abbrev jr:FuncId:=260
abbrev nD:FuncId:=261
abbrev d8:FuncId:=266
abbrev lL:FuncId:=267
abbrev mn:FuncId:=268
abbrev mh:FuncId:=274
abbrev oG:FuncId:=275
abbrev dq:FuncId:=277
abbrev cF:FuncId:=278
abbrev db:FuncId:=279
abbrev mV:FuncId:=280
abbrev eF:FuncId:=281
abbrev cV:FuncId:=282
abbrev cx:FuncId:=283
abbrev eE:FuncId:=284
abbrev dS:FuncId:=285
abbrev ix:FuncId:=286
abbrev gD:FuncId:=287
abbrev nC:FuncId:=288
abbrev fW:FuncId:=289
abbrev mS:FuncId:=290
abbrev kG:FuncId:=291
abbrev iZ:FuncId:=294
abbrev nB:FuncId:=296
abbrev eo:FuncId:=297
abbrev ft:FuncId:=298
abbrev eO:FuncId:=299
abbrev eM:FuncId:=300
abbrev cZ:FuncId:=304
abbrev cJ:FuncId:=305
abbrev ko:TypeId:=3
abbrev rz:TypeId:=4
abbrev ci:TypeId:=5
abbrev CZ:TypeId:=9
abbrev mH:TypeId:=22
abbrev jO:TypeId:=24
abbrev cH:TypeId:=26
abbrev cD:TypeId:=27
abbrev wq:TypeId:=28
abbrev bK:TypeId:=31
abbrev bS:TypeId:=32
abbrev cE:TypeId:=34
abbrev Oy:TypeId:=35
abbrev mI:TypeId:=39
abbrev Nv:TypeId:=40
abbrev mc:TypeId:=42
abbrev Qn:TypeId:=53
abbrev al:TypeId:=65
abbrev bG:TypeId:=67
abbrev I6:TypeId:=119
abbrev pa:TypeId:=133
abbrev Nu:TypeId:=136
abbrev Cd:TypeId:=138
abbrev Lf:TypeId:=140
abbrev mz:TypeId:=184
abbrev qY:TypeId:=189
abbrev JU:TypeId:=191
abbrev aG:TypeId:=194
abbrev oD:TypeId:=198
abbrev LF:TypeId:=203
abbrev md:TypeId:=205
abbrev PT:TypeId:=208
abbrev Nc:TypeId:=209
abbrev Li:TypeId:=210
abbrev gl:TypeId:=212
abbrev t_u32:TypeId:=214
abbrev Qg:TypeId:=216
abbrev fp:TypeId:=220
abbrev Fg:TypeId:=251
abbrev Cb:TypeId:=255
abbrev xU:TypeId:=256
abbrev E8:TypeId:=258
abbrev mA:TypeId:=262
abbrev uq:TypeId:=266
abbrev Cc:TypeId:=268
abbrev ry:TypeId:=272
abbrev Nt:TypeId:=274
abbrev bm:TypeId:=276
abbrev LB:TypeId:=287
abbrev Ld:TypeId:=302
abbrev Lg:TypeId:=314
abbrev rA:TypeId:=320
abbrev ip:TypeId:=321
abbrev Nb:TypeId:=342
abbrev uI:TypeId:=344
abbrev dG:TypeId:=346
abbrev Na:TypeId:=357
abbrev LD:TypeId:=362
abbrev LC:TypeId:=369
abbrev M9:TypeId:=371
abbrev Lh:TypeId:=376
theorem yu(args:Array Value)(w:World):(callFunc nD args).run PG w=((Extern.SlicesOverlaps.overlaps #[qY,qY] #[rz] args).run PG w).andThen fun v w=>.ok (.value v) w:=run_callFunc_extern (P:=PG) Tryz.func261 (by kernel_rfl) (by kernel_rfl) (by kernel_rfl) (by kernel_rfl) args w
theorem pk(args:Array Value)(w:World):(callFunc gD args).run PG w=((Extern.SlicesOverlaps.overlaps #[cD,cD] #[rz] args).run PG w).andThen fun v w=>.ok (.value v) w:=run_callFunc_extern (P:=PG) Tryz.func287 (by kernel_rfl) (by kernel_rfl) (by kernel_rfl) (by kernel_rfl) args w
theorem ox(args:Array Value)(w:World):(callFunc fW args).run PG w=((Extern.SlicesOverlaps.overlaps #[oD,oD] #[rz] args).run PG w).andThen fun v w=>.ok (.value v) w:=run_callFunc_extern (P:=PG) Tryz.func289 (by kernel_rfl) (by kernel_rfl) (by kernel_rfl) (by kernel_rfl) args w
abbrev bR(h:ad)(a:Addr)(i:Nat)(v:Value):Prop:=aO h (adr a i)=some v
abbrev cn(i:Int)(n:Nat):Prop:=(0:Int)≤i∧i<(n:Int)
abbrev T6:=Int×Int×Int×Int×(Option Addr)×(Option Addr)
abbrev kd6:Kind:=.agg [.int .i64,.int .u64,.int .u64,.int .u64,.ptr,.ptr]
noncomputable def QE(l:List Nat):Nat:=eS 0 (fun i _ s=>Nat.add (Nat.pow 2 i) s) l
noncomputable def dn(a f l:List Nat)(d n:Nat):DM:=.mk (QE a) (Nat.sub (Nat.sub (Nat.pow 2 n) 1) (QE f)) (QE l) (match d with|0=>0|d+1=>Nat.pow 2 d)
noncomputable def dm(a l:List Nat)(d n:Nat):DM:=dn a a l d n
noncomputable def dl(n:Nat)(l:List (Nat→DM)):List DM:=eS [] (fun f _ r=>f n::r) l
noncomputable def dTr(i n:Nat)(a:DA):DA:=Nat.rec (fun _=>a) (fun _ r i=>.take i (r (Nat.succ i))) n i
noncomputable def dTk(l:List Nat)(a:DA):DA:=eS a (fun i _ r=>.take i r) l
abbrev bW(h g:ad)(i:Nat)(v:Int):Prop:=aO h (adr (aC g) i)=some (.int .i64 v)
abbrev ar(h g:ad)(i:Nat)(v:Int):Prop:=aO h (adr (aC g) i)=some (.int .u64 v)
abbrev bD(h g:ad)(i:Nat)(v:Option Addr):Prop:=aO h (adr (aC g) i)=some (.pointer v)
abbrev jq(h g:ad)(i:Nat)(v:SliceV):Prop:=aO h (adr (aC g) i)=some (.slice v.a v.len v.cap)
abbrev hJ(h g:ad)(l:List Value)(k:ad→Prop):Prop:=uv h (some (aC g)) 0 l∧At (iM h (aC g) 0 l) k
abbrev nv(h:ad)(z:List Value)(t:TypeId)(l:List Value)(k:ad→Prop):Prop:=At (hnew h z t) fun g=>uv g (some (aC h)) 0 l∧At (iM g (aC h) 0 l) k
abbrev uJ(x:Int×Int×Int):List Value:= [.int .u64 x.1,.int .u64 x.2.1,.int .u64 x.2.2]
abbrev Qk(x0:SliceV)(x1:Int)(x2:Int)(x3:Int):List Value:= [.slice x0.a x0.len x0.cap,.int .u8 x1,.int .u16 x2,.int .u16 x3]
abbrev un(x0:Int)(x1:Int)(x2:Int):Value:=.agg #[.int .u64 x0,.int .u64 x1,.int .u64 x2]
abbrev zH:List Value:= [.int .i64 0,.int .u64 0,.int .u64 0,.int .u64 0,.pointer none,.pointer none]
abbrev qV(x:Int×Int×Int×Int×(Option Addr)×(Option Addr)):List Value:= [.int .i64 x.1,.int .u64 x.2.1,.int .u64 x.2.2.1,.int .u64 x.2.2.2.1,.pointer x.2.2.2.2.1,.pointer x.2.2.2.2.2]
abbrev FE(x:Int×Int×Int):Value:=.agg #[.int .u64 x.1,.int .u64 x.2.1,.int .u64 x.2.2]
abbrev M7:List Value:= [.int .i64 0,.int .u64 0,.int .u64 0,.int .u64 0,.slice none 0 0]
abbrev PC(x:Int×Int×Int×Int×SliceV):List Value:= [.int .i64 x.1,.int .u64 x.2.1,.int .u64 x.2.2.1,.int .u64 x.2.2.2.1,.slice x.2.2.2.2.a x.2.2.2.2.len x.2.2.2.2.cap]
abbrev B5(x0:Int)(x1:Int)(x2:Int)(x3:Int)(x4:Option Addr)(x5:Option Addr):Value:=.agg #[.int .i64 x0,.int .u64 x1,.int .u64 x2,.int .u64 x3,.pointer x4,.pointer x5]
abbrev vg3(x0:Int)(x1:Int)(x2:Int)(x3:Int)(x4:SliceV):Value:=.agg #[.int .i64 x0,.int .u64 x1,.int .u64 x2,.int .u64 x3,.slice x4.a x4.len x4.cap]
abbrev GO(x0:SliceV)(x1:SliceV):List Value:= [.slice x0.a x0.len x0.cap,.slice x1.a x1.len x1.cap]
abbrev jm:List Value:= [.string (⟨#[]⟩:ByteArray),.string (⟨#[]⟩:ByteArray)]
abbrev rI:List Kind:= [.agg [.int .i64,.int .u64,.int .u64,.int .u64,.ptr,.ptr],.c (.int .i64)]
abbrev FT:List Kind:= [.agg [.int .u64,.int .u64,.int .u64]]
abbrev FS:List Kind:= [.agg [.int .i64,.int .u64,.int .u64,.int .u64,.slice],.c (.int .i64)]
abbrev bV:List Kind:= [.c (.int .i64)]
abbrev T5:=Int×Int×Int×Int×SliceV
abbrev aL(h:ad)(a:Addr)(i:Nat)(v:ByteArray):Prop:=aO h (adr a i)=some (.string v)
abbrev vl6(x0:ByteArray)(x1:ByteArray)(x2:ByteArray)(x3:ByteArray)(x4:ByteArray)(x5:ByteArray):List Value:= [.string x0,.string x1,.string x2,.string x3,.string x4,.string x5]
abbrev zg0:Value:=.agg #[.int .u64 0,.int .u64 0,.int .u64 0]
abbrev aF(h g:ad)(i:Nat)(v:ByteArray):Prop:=aO h (adr (aC g) i)=some (.string v)
abbrev d6(h:ad)(a:Addr)(v:Value)(k:ad→Prop):Prop:=Wr h a∧At (hset h a v) k
abbrev im(x0:ByteArray)(x1:ByteArray):List Value:= [.string x0,.string x1]
abbrev wJ:List Kind:= [.agg [.int .i64,.int .u64,.int .u64,.int .u64,.ptr,.ptr]]
abbrev Qj(x0:Int)(x1:Int)(x2:Int)(x3:Int)(x4:SliceV):List Value:= [.int .i64 x0,.int .u64 x1,.int .u64 x2,.int .u64 x3,.slice x4.a x4.len x4.cap]
abbrev eB(h:ad)(a:Addr)(i:Nat)(v:Int):Prop:=aO h (adr a i)=some (.int .u64 v)
abbrev Qd:List Value:= [.int .u64 0,.int .u64 0,.int .u64 0]
abbrev Qf(x0:Int)(x1:Int)(x2:Int):List Value:= [.int .u64 x0,.int .u64 x1,.int .u64 x2]
abbrev Lj(x:Int×Int×Int×Int×(Option Addr)×(Option Addr)):Value:=.agg #[.int .i64 x.1,.int .u64 x.2.1,.int .u64 x.2.2.1,.int .u64 x.2.2.2.1,.pointer x.2.2.2.2.1,.pointer x.2.2.2.2.2]
abbrev yH(x0:Option Addr)(x1:Int):List Value:= [.pointer x0,.int .i64 x1]
abbrev pg3(x:Int×Int×Int×Int×SliceV):Value:=.agg #[.int .i64 x.1,.int .u64 x.2.1,.int .u64 x.2.2.1,.int .u64 x.2.2.2.1,.slice x.2.2.2.2.a x.2.2.2.2.len x.2.2.2.2.cap]
abbrev Qe(x0:Int)(x1:Int)(x2:Int)(x3:Int)(x4:Option Addr)(x5:Option Addr):List Value:= [.int .i64 x0,.int .u64 x1,.int .u64 x2,.int .u64 x3,.pointer x4,.pointer x5]
abbrev O7(x:ByteArray×ByteArray×Bool):Value:=.agg #[.string x.1,.string x.2.1,.bool x.2.2]
abbrev N4:List Kind:= [.agg [.str,.str,.bool]]
abbrev M8(x0:SliceV)(x1:Int):List Value:= [.slice x0.a x0.len x0.cap,.int .i64 x1]
abbrev Lv(x0:ByteArray)(x1:Bool)(x2:ByteArray)(x3:SliceV):List Value:= [.string x0,.bool x1,.string x2,.slice x3.a x3.len x3.cap]
abbrev um(x0:ByteArray)(x1:ByteArray)(x2:Int):List Value:= [.string x0,.string x1,.int .u64 x2]
abbrev GR:List Value:= [.string (⟨#[]⟩:ByteArray),.string (⟨#[]⟩:ByteArray),.int .u64 0]
abbrev is:List Kind:= [.c (.int .u64)]
abbrev xM(x0:ByteArray)(x1:ByteArray):Value:=.agg #[.string x0,.string x1]
abbrev Ks:List Kind:= [.c .str,.c .bool]
abbrev hH(h:ad)(a:Addr)(i:Nat)(v:Bool):Prop:=aO h (adr a i)=some (.bool v)
abbrev bU(h:ad)(a:Addr)(i:Nat)(v:SliceV):Prop:=aO h (adr a i)=some (.slice v.a v.len v.cap)
abbrev PF:List Value:= [.string (⟨#[]⟩:ByteArray),.bool false,.string (⟨#[]⟩:ByteArray),.slice none 0 0]
abbrev JS(x0:SliceV)(x1:SliceV)(x2:Int):List Value:= [.slice x0.a x0.len x0.cap,.slice x1.a x1.len x1.cap,.int .i64 x2]
abbrev ut:List Kind:= [.c (.int .i64),.c .bool]
abbrev PE:List Value:= [.string (⟨#[]⟩:ByteArray),.bool false,.string (⟨#[]⟩:ByteArray),.slice none 0 0,.pointer none]
abbrev xS(x0:SliceV)(x1:ByteArray):List Value:= [.slice x0.a x0.len x0.cap,.string x1]
abbrev B7(x:ByteArray×ByteArray):List Value:= [.string x.1,.string x.2]
abbrev OC(x:ByteArray×ByteArray):Value:=.agg #[.string x.1,.string x.2]
abbrev nr(h g:ad)(i:Nat)(v:Bool):Prop:=aO h (adr (aC g) i)=some (.bool v)
abbrev Ng(x:ByteArray×ByteArray×Bool):List Value:= [.string x.1,.string x.2.1,.bool x.2.2]
abbrev Ou(x0:ByteArray)(x1:ByteArray)(x2:Bool):Value:=.agg #[.string x0,.string x1,.bool x2]
abbrev zl8:List Value:= [.string (⟨#[]⟩:ByteArray),.string (⟨#[]⟩:ByteArray),.bool false]
abbrev vl8(x0:ByteArray)(x1:ByteArray)(x2:Bool):List Value:= [.string x0,.string x1,.bool x2]
abbrev lC(h:ad)(a:Addr)(l:List Value)(k:ad→Prop):Prop:=uv h (some a) 0 l∧At (iM h a 0 l) k
abbrev PM(x0:Int)(x1:Int):Value:=.agg #[.int .u64 x0,.int .u64 x1]
abbrev qE(x0:ByteArray)(x1:ByteArray)(x2:Int):Value:=.agg #[.string x0,.string x1,.int .u64 x2]
abbrev Lu(x0:Option Addr)(x1:Option Addr)(x2:Int)(x3:Option Addr):List Value:= [.pointer x0,.pointer x1,.int .i64 x2,.pointer x3]
abbrev OO(x0:Option Addr)(x1:SliceV):List Value:= [.pointer x0,.slice x1.a x1.len x1.cap]
abbrev Nm(x0:Int)(x1:Int):List Value:= [.int .u8 x0,.int .u8 x1]
abbrev JR(x0:SliceV)(x1:Int)(x2:Int):List Value:= [.slice x0.a x0.len x0.cap,.int .u64 x1,.int .i64 x2]
abbrev Nn(x0:SliceV)(x1:Option Addr)(x2:Int):List Value:= [.slice x0.a x0.len x0.cap,.pointer x1,.int .i64 x2]
abbrev mG:List Kind:= [.c (.int .u32)]
abbrev PK(x0:Int)(x1:Int)(x2:Int)(x3:Int):List Value:= [.int .u8 x0,.int .u8 x1,.int .u8 x2,.int .u8 x3]
abbrev ON(x0:Int)(x1:Int)(x2:ByteArray):List Value:= [.int .u64 x0,.int .u64 x1,.string x2]
abbrev oC(x0:Int)(x1:Int):List Value:= [.int .u64 x0,.int .i64 x1]
abbrev JQ(x0:Int)(x1:SliceV):List Value:= [.int .u64 x0,.slice x1.a x1.len x1.cap]
abbrev wL:List Kind:= [.agg [.str,.str],.c .bool]
abbrev Ds:List Kind:= [.c .ptr,.c .bool]
abbrev Ll:List Value:= [.int .u32 0,.int .u32 0,.slice none 0 0,.slice none 0 0,.bool false,.pointer none]
abbrev f8(h:ad)(a:Addr)(i:Nat)(v:Int):Prop:=aO h (adr a i)=some (.int .u32 v)
abbrev ma(x0:Int)(x1:Int):List Value:= [.int .u32 x0,.int .i64 x1]
abbrev PY(x:Int×Int):List Value:= [.int .u64 x.1,.int .u64 x.2]
abbrev JM:List Value:= [.int .u64 0,.int .u64 0,.int .u64 0,.int .u64 0]
abbrev JP(x0:Int)(x1:Int)(x2:Int)(x3:Int):List Value:= [.int .u64 x0,.int .u64 x1,.int .u64 x2,.int .u64 x3]
abbrev Nl(x0:Option Addr)(x1:Int):List Value:= [.pointer x0,.int .u64 x1]
abbrev Qs(x:Int×Int):Value:=.agg #[.int .u64 x.1,.int .u64 x.2]
abbrev Aj(x0:Option Addr)(x1:Option Addr):List Value:= [.pointer x0,.pointer x1]
abbrev Hy(x:ByteArray×ByteArray×Int):List Value:= [.string x.1,.string x.2.1,.int .u64 x.2.2]
abbrev NO(x:ByteArray×ByteArray×Int):Value:=.agg #[.string x.1,.string x.2.1,.int .u64 x.2.2]
abbrev OL(x0:Int)(x1:Int):List Value:= [.int .i64 x0,.int .i64 x1]
abbrev PJ(x0:Option Addr)(x1:Option Addr)(x2:Int):List Value:= [.pointer x0,.pointer x1,.int .i64 x2]
abbrev OQ(x0:Int)(x1:Int)(x2:Int)(x3:Int):Value:=.agg #[.int .u64 x0,.int .u64 x1,.int .u64 x2,.int .u64 x3]
abbrev Kk(x:Int×Int×Int×Int):Value:=.agg #[.int .u64 x.1,.int .u64 x.2.1,.int .u64 x.2.2.1,.int .u64 x.2.2.2]
abbrev L8(x:Int×Int×Int×Int):List Value:= [.int .u64 x.1,.int .u64 x.2.1,.int .u64 x.2.2.1,.int .u64 x.2.2.2]
abbrev wK:List Kind:= [.agg [.int .u64,.int .u64,.int .u64,.int .u64]]
abbrev OF:List Kind:= [.agg [.str,.str]]
abbrev Ca(x0:Option Addr)(x1:ByteArray)(x2:Bool):List Value:= [.pointer x0,.string x1,.bool x2]
abbrev GQ:List Value:= [.pointer none,.string (⟨#[]⟩:ByteArray),.bool false]
abbrev PL(x0:Option Addr)(x1:ByteArray)(x2:Bool):Value:=.agg #[.pointer x0,.string x1,.bool x2]
abbrev yS(h:ad)(a:Addr)(i:Nat)(v:Option Addr):Prop:=aO h (adr a i)=some (.pointer v)
abbrev OM(x0:Int)(x1:Int)(x2:SliceV)(x3:SliceV)(x4:Bool)(x5:Option Addr):List Value:= [.int .u32 x0,.int .u32 x1,.slice x2.a x2.len x2.cap,.slice x3.a x3.len x3.cap,.bool x4,.pointer x5]
abbrev Ls(x0:SliceV)(x1:Int)(x2:Int):List Value:= [.slice x0.a x0.len x0.cap,.int .i64 x1,.int .i64 x2]
abbrev PI(x0:SliceV)(x1:Int)(x2:SliceV):List Value:= [.slice x0.a x0.len x0.cap,.int .i64 x1,.slice x2.a x2.len x2.cap]
abbrev PX(x:(Option Addr)×ByteArray×Bool):List Value:= [.pointer x.1,.string x.2.1,.bool x.2.2]
abbrev Qr(x:(Option Addr)×ByteArray×Bool):Value:=.agg #[.pointer x.1,.string x.2.1,.bool x.2.2]
theorem dL(an:Ann){f:FuncId}{fn:Func}{args:List Value}{ks:List Kind}{K:cT ks→ad→Prop}{h:ad}{p:Prop}(hf:PG.funcs[f]? =some fn) (hcall:∀(args:Array Value) (w:World),(callFunc f args).run PG w=.ok (.enter f args) w) (hb:fn.body=some (fn.body.getD .skip)) (hl:ul args.length fn.ntmps=true) (e:p=Jc PG fn (fn.body.getD .skip) an args ks K h) (hp:p):HC PG f args ks K h:=HC.intro Tryz.mixed hf hb hcall (g9 hl) (e▸hp)
theorem Qc(an:Ann){f:FuncId}{fn:Func}{args:List Value}{ks:List Kind}{K:cT ks→ad→Prop}{h:ad}{p:Prop}(hf:PG.funcs[f]? =some fn) (hcall:∀(args:Array Value) (w:World),(callFunc f args).run PG w=.ok (.enter f args) w) (hb:fn.body=some (fn.body.getD .skip)) (hl:ul args.length fn.ntmps=true) (e:p=G9 PG fn (fn.body.getD .skip) an args ks K h) (hp:p):HC PG f args ks K h:=HC.introM Tryz.mixed hf hb hcall (g9 hl) (e▸hp)
theorem HEI(an:Ann){f:FuncId}{fn:Func}{args:List Value}{ks:List Kind}{K:cT ks→ad→Prop}{h:ad}{p:Prop}(hf:PG.funcs[f]? =some fn) (hcall:∀(args:Array Value) (w:World),(callFunc f args).run PG w=.ok (.enter f args) w) (hb:fn.body=some (fn.body.getD .skip)) (hl:ul args.length fn.ntmps=true) (e:p=Jc PG fn (fn.body.getD .skip) an args ks K h) (hp:p):HE PG f args ks K h:=HE.intro Tryz.mixed hf hb hcall (g9 hl) (e▸hp)
end Go.Proofs
