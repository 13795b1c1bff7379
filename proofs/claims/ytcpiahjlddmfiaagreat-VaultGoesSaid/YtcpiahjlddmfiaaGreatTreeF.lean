/- A part of the proof that the named laws of this program answer true, whatever the input. -/
import Derived.Test.YtcpiahjlddmfiaaGreatProg
import Derived.Test.YtcpiahjlddmfiaaGreatLift3
import Derived.KernelRfl
import Derived.Laws.Externs
set_option maxRecDepth 100000
set_option linter.unusedVariables false
open List renaming rec→dk
namespace Go.Proofs
open Go.Lift
noncomputable abbrev PG:Program:=Tryz.prog
theorem Tryz.mixed:PG.follows .mixedOrders=true:=by kernel_rfl
abbrev pO:FuncId:=4
abbrev qC:FuncId:=6
abbrev ss:FuncId:=7
abbrev dE:FuncId:=8
abbrev dA:FuncId:=10
abbrev fp:FuncId:=11
abbrev gk:FuncId:=12
abbrev uU:FuncId:=13
abbrev dF:FuncId:=14
abbrev ji:FuncId:=15
abbrev eW:FuncId:=16
abbrev f6:FuncId:=18
abbrev dh:FuncId:=19
abbrev cA:FuncId:=20
abbrev gJ:FuncId:=21
abbrev qA:FuncId:=22
abbrev sm:FuncId:=26
abbrev oy:FuncId:=28
abbrev nI:FuncId:=39
abbrev uR:FuncId:=40
abbrev uT:FuncId:=41
abbrev j9:FuncId:=42
abbrev pA:FuncId:=43
abbrev qB:FuncId:=44
abbrev qD:FuncId:=45
abbrev nJ:FuncId:=46
abbrev ee:FuncId:=47
abbrev pB:FuncId:=48
abbrev eV:FuncId:=49
abbrev su:FuncId:=50
abbrev xL:FuncId:=51
abbrev jO:FuncId:=52
abbrev eE:FuncId:=53
abbrev hG:FuncId:=54
abbrev oD:FuncId:=55
abbrev hH:FuncId:=56
abbrev mX:FuncId:=62
abbrev mW:FuncId:=63
abbrev fG:FuncId:=64
abbrev l3:FuncId:=65
abbrev cr:FuncId:=77
abbrev uS:FuncId:=78
abbrev pz:FuncId:=79
abbrev iS:FuncId:=80
abbrev fT:FuncId:=81
abbrev fk:FuncId:=82
abbrev km:FuncId:=83
abbrev ki:FuncId:=84
abbrev px:FuncId:=85
abbrev jk:FuncId:=86
abbrev f9:FuncId:=87
abbrev fx:FuncId:=94
abbrev fV:FuncId:=95
abbrev oB:FuncId:=96
abbrev sq:FuncId:=97
abbrev ka:FuncId:=98
abbrev kh:FuncId:=101
abbrev d7:FuncId:=102
abbrev jN:FuncId:=104
abbrev ju:FuncId:=109
abbrev lv:FuncId:=110
abbrev gl:FuncId:=111
abbrev kj:FuncId:=114
abbrev fU:FuncId:=118
abbrev kY:FuncId:=119
abbrev dG:FuncId:=124
abbrev f7:FuncId:=125
abbrev ke:FuncId:=126
abbrev cM:FuncId:=127
abbrev oA:FuncId:=128
abbrev oz:FuncId:=129
abbrev jL:FuncId:=130
abbrev uQ:FuncId:=131
abbrev eK:FuncId:=132
abbrev pD:FuncId:=133
abbrev fM:FuncId:=134
abbrev kZ:FuncId:=135
abbrev kX:FuncId:=136
abbrev dW:FuncId:=137
abbrev fu:FuncId:=138
abbrev hU:FuncId:=139
abbrev l5:FuncId:=140
abbrev gE:FuncId:=141
abbrev mV:FuncId:=142
abbrev pC:FuncId:=152
abbrev f8:FuncId:=153
abbrev nK:FuncId:=154
abbrev dq:FuncId:=155
abbrev lJ:FuncId:=156
abbrev kg:FuncId:=157
abbrev jE:FuncId:=160
abbrev cO:FuncId:=163
abbrev cD:FuncId:=164
abbrev ci:FuncId:=165
abbrev jM:FuncId:=173
abbrev eo:FuncId:=174
abbrev cF:FuncId:=175
abbrev jj:FuncId:=176
abbrev ep:FuncId:=177
abbrev jX:FuncId:=178
abbrev ft:FuncId:=179
abbrev iQ:FuncId:=180
abbrev py:FuncId:=181
abbrev fq:FuncId:=182
abbrev nL:FuncId:=183
abbrev fL:FuncId:=184
abbrev sr:FuncId:=185
abbrev iT:FuncId:=186
abbrev dH:FuncId:=187
abbrev ce:FuncId:=188
abbrev hO:FuncId:=189
abbrev hJ:FuncId:=190
abbrev bT:FuncId:=191
abbrev de:FuncId:=192
abbrev tA:FuncId:=193
abbrev bH:FuncId:=194
abbrev oC:FuncId:=195
abbrev hT:FuncId:=196
abbrev iR:FuncId:=207
abbrev lu:FuncId:=208
abbrev iu:FuncId:=209
abbrev l4:FuncId:=210
abbrev cc:FuncId:=228
abbrev cV:FuncId:=229
abbrev mB:FuncId:=230
abbrev kf:FuncId:=231
abbrev c9:FuncId:=232
abbrev jt:FuncId:=233
abbrev jP:FuncId:=234
abbrev c8:FuncId:=235
abbrev cP:FuncId:=236
abbrev fW:FuncId:=237
abbrev fe:FuncId:=238
abbrev kW:FuncId:=239
abbrev eJ:FuncId:=240
abbrev kc:FuncId:=241
abbrev dj:FuncId:=264
abbrev gn:FuncId:=265
abbrev t_int:TypeId:=3
abbrev qg:TypeId:=4
abbrev cT:TypeId:=5
abbrev yP:TypeId:=9
abbrev t_any:TypeId:=20
abbrev vv:TypeId:=22
abbrev g8:TypeId:=24
abbrev bQ:TypeId:=26
abbrev dQ:TypeId:=27
abbrev GI:TypeId:=29
abbrev HQ:TypeId:=31
abbrev E2:TypeId:=32
abbrev GG:TypeId:=33
abbrev qf:TypeId:=35
abbrev c5:TypeId:=37
abbrev aW:TypeId:=40
abbrev ba:TypeId:=41
abbrev aG:TypeId:=43
abbrev ah:TypeId:=47
abbrev Ca:TypeId:=53
abbrev lY:TypeId:=56
abbrev JI:TypeId:=60
abbrev JU:TypeId:=68
abbrev pn:TypeId:=70
abbrev GY:TypeId:=71
abbrev xb:TypeId:=73
abbrev GH:TypeId:=76
abbrev GW:TypeId:=77
abbrev GX:TypeId:=78
abbrev AU:TypeId:=80
abbrev E1:TypeId:=87
abbrev AV:TypeId:=93
abbrev Dz:TypeId:=100
abbrev GD:TypeId:=102
abbrev bl:TypeId:=104
abbrev E3:TypeId:=107
abbrev rH:TypeId:=119
abbrev eC:TypeId:=121
abbrev Fs:TypeId:=135
abbrev bM:TypeId:=154
abbrev HR:TypeId:=159
abbrev GU:TypeId:=169
abbrev D7:TypeId:=172
abbrev kP:TypeId:=194
abbrev lZ:TypeId:=197
abbrev bd:TypeId:=206
abbrev GV:TypeId:=249
abbrev GT:TypeId:=251
abbrev aQ:TypeId:=253
abbrev xd:TypeId:=273
abbrev fR:TypeId:=277
abbrev Ft:TypeId:=313
abbrev GE:TypeId:=315
abbrev GF:TypeId:=316
abbrev yp:TypeId:=319
abbrev Fv:TypeId:=321
abbrev E4:TypeId:=347
theorem Az(args:Array Value)(w:World):(callFunc pC args).run PG w=((Extern.MapsClone.clone args).run PG w).andThen fun v w=>.ok (.value v) w:=run_callFunc_extern (P:=PG) Tryz.func152 (by kernel_rfl) (by kernel_rfl) (by kernel_rfl) (by kernel_rfl) args w
theorem ld(args:Array Value)(w:World):(callFunc ep args).run PG w=((Extern.SlicesOverlaps.overlaps #[kP,kP] #[qg] args).run PG w).andThen fun v w=>.ok (.value v) w:=run_callFunc_extern (P:=PG) Tryz.func177 (by kernel_rfl) (by kernel_rfl) (by kernel_rfl) (by kernel_rfl) args w
theorem mD(args:Array Value)(w:World):(callFunc fe args).run PG w=((Extern.SlicesOverlaps.overlaps #[dQ,dQ] #[qg] args).run PG w).andThen fun v w=>.ok (.value v) w:=run_callFunc_extern (P:=PG) Tryz.func238 (by kernel_rfl) (by kernel_rfl) (by kernel_rfl) (by kernel_rfl) args w
theorem lN(args:Array Value)(w:World):(callFunc eJ args).run PG w=((Extern.SlicesOverlaps.overlaps #[lZ,lZ] #[qg] args).run PG w).andThen fun v w=>.ok (.value v) w:=run_callFunc_extern (P:=PG) Tryz.func240 (by kernel_rfl) (by kernel_rfl) (by kernel_rfl) (by kernel_rfl) args w
abbrev bA(h:ac)(a:Addr)(i:Nat)(v:Value):Prop:=bc h (adr a i)=some v
abbrev fc(i:Int)(n:Nat):Prop:=(0:Int)≤i∧i<(n:Int)
abbrev T6:=Int×Int×Int×Int×(Option Addr)×(Option Addr)
abbrev kd6:Kind:=.agg [.int .i64,.int .u64,.int .u64,.int .u64,.ptr,.ptr]
noncomputable def Kt(l:List Nat):Nat:=dk 0 (fun i _ s=>Nat.add (Nat.pow 2 i) s) l
noncomputable def dn(a f l:List Nat)(d n:Nat):DM:=.mk (Kt a) (Nat.sub (Nat.sub (Nat.pow 2 n) 1) (Kt f)) (Kt l) (match d with|0=>0|d+1=>Nat.pow 2 d)
noncomputable def dm(a l:List Nat)(d n:Nat):DM:=dn a a l d n
noncomputable def dl(n:Nat)(l:List (Nat→DM)):List DM:=dk [] (fun f _ r=>f n::r) l
noncomputable def dTr(i n:Nat)(a:DA):DA:=Nat.rec (fun _=>a) (fun _ r i=>.take i (r (Nat.succ i))) n i
noncomputable def dTk(l:List Nat)(a:DA):DA:=dk a (fun i _ r=>.take i r) l
abbrev av(h g:ac)(i:Nat)(v:Int):Prop:=bc h (adr (aZ g) i)=some (.int .i64 v)
abbrev ad(h g:ac)(i:Nat)(v:Int):Prop:=bc h (adr (aZ g) i)=some (.int .u64 v)
abbrev dw(h:ac)(a:Addr)(i:Nat)(v:Option Addr):Prop:=bc h (adr a i)=some (.pointer v)
abbrev af(h g:ac)(i:Nat)(v:Option Addr):Prop:=bc h (adr (aZ g) i)=some (.pointer v)
abbrev eH(h:ac)(a:Addr)(i:Nat)(v:ByteArray):Prop:=bc h (adr a i)=some (.string v)
abbrev aB(h g:ac)(i:Nat)(v:ByteArray):Prop:=bc h (adr (aZ g) i)=some (.string v)
abbrev gw(h g:ac)(l:List Value)(k:ac→Prop):Prop:=qH h (some (aZ g)) 0 l∧At (jd h (aZ g) 0 l) k
abbrev nv(h:ac)(z:List Value)(t:TypeId)(l:List Value)(k:ac→Prop):Prop:=At (hnew h z t) fun g=>qH g (some (aZ h)) 0 l∧At (jd g (aZ h) 0 l) k
abbrev y2(x:Int×Int×Int):List Value:= [.int .u64 x.1,.int .u64 x.2.1,.int .u64 x.2.2]
abbrev zC(x0:Int)(x1:Int)(x2:Int):Value:=.agg #[.int .u64 x0,.int .u64 x1,.int .u64 x2]
abbrev rh:List Value:= [.int .i64 0,.int .u64 0,.int .u64 0,.int .u64 0,.pointer none,.pointer none]
abbrev qn(x:Int×Int×Int×Int×(Option Addr)×(Option Addr)):List Value:= [.int .i64 x.1,.int .u64 x.2.1,.int .u64 x.2.2.1,.int .u64 x.2.2.2.1,.pointer x.2.2.2.2.1,.pointer x.2.2.2.2.2]
abbrev wZ(x0:Option Addr)(x1:Int):List Value:= [.pointer x0,.int .u32 x1]
abbrev GO(x0:Option Addr)(x1:ByteArray)(x2:Int):List Value:= [.pointer x0,.string x1,.int .u32 x2]
abbrev uu(x0:Int)(x1:Int)(x2:Int)(x3:Int)(x4:Option Addr)(x5:Option Addr):Value:=.agg #[.int .i64 x0,.int .u64 x1,.int .u64 x2,.int .u64 x3,.pointer x4,.pointer x5]
abbrev wC(x0:Option Addr)(x1:ByteArray):List Value:= [.pointer x0,.string x1]
abbrev uw:List Value:= [.string (⟨#[]⟩:ByteArray),.string (⟨#[]⟩:ByteArray)]
abbrev wY(x0:ByteArray)(x1:ByteArray):List Value:= [.string x0,.string x1]
abbrev rF(x0:ByteArray)(x1:ByteArray):Value:=.agg #[.string x0,.string x1]
abbrev Eo(x:ByteArray×ByteArray):Value:=.agg #[.string x.1,.string x.2]
abbrev AP(x0:Int)(x1:Int)(x2:Int)(x3:Int)(x4:Option Addr)(x5:Option Addr):List Value:= [.int .i64 x0,.int .u64 x1,.int .u64 x2,.int .u64 x3,.pointer x4,.pointer x5]
abbrev Ki:List Kind:= [.agg [.int .i64,.int .u64,.int .u64,.int .u64,.ptr,.ptr]]
abbrev CI:List Kind:= [.c (.int .i64)]
abbrev Kh:List Kind:= [.c (.int .u32),.c (.int .i64)]
abbrev Kg:List Kind:= [.c (.int .u32),.c .bool]
abbrev Kf:List Kind:= [.agg [.int .i64,.int .u64,.int .u64,.int .u64,.ptr,.ptr],.c (.int .i64)]
abbrev Ke:List Kind:= [.agg [.str,.str]]
abbrev iq(f:FuncId)(a:List Value)(K:Bool→ac→Prop)(h:ac):Prop:=HC PG f a [.c .bool] K h
abbrev f3(f:FuncId)(a:List Value)(K:(Option Addr)→ac→Prop)(h:ac):Prop:=HC PG f a [.c .ptr] K h
abbrev Ix(f:FuncId)(a:List Value)(K:T6→ac→Prop)(h:ac):Prop:=HC PG f a Ki K h
abbrev iH(f:FuncId)(a:List Value)(K:SliceV→ac→Prop)(h:ac):Prop:=HC PG f a [.c .slice] K h
abbrev mH(f:FuncId)(a:List Value)(K:Int→ac→Prop)(h:ac):Prop:=HC PG f a CI K h
abbrev F3(f:FuncId)(a:List Value)(K:(Int×Int)→ac→Prop)(h:ac):Prop:=HC PG f a Kh K h
abbrev Iw(f:FuncId)(a:List Value)(K:(Int×Bool)→ac→Prop)(h:ac):Prop:=HC PG f a Kg K h
abbrev GK(f:FuncId)(a:List Value)(K:((T6)×Int)→ac→Prop)(h:ac):Prop:=HC PG f a Kf K h
abbrev hK8(f:FuncId)(a:List Value)(K:(ByteArray×ByteArray)→ac→Prop)(h:ac):Prop:=HC PG f a Ke K h
abbrev E5(x:Int×Int×Int):Value:=.agg #[.int .u64 x.1,.int .u64 x.2.1,.int .u64 x.2.2]
abbrev zg0:Value:=.agg #[.int .u64 0,.int .u64 0,.int .u64 0]
abbrev ym(x:Int×Int×Int×Int×(Option Addr)×(Option Addr)):Value:=.agg #[.int .i64 x.1,.int .u64 x.2.1,.int .u64 x.2.2.1,.int .u64 x.2.2.2.1,.pointer x.2.2.2.2.1,.pointer x.2.2.2.2.2]
abbrev JO(x0:Option Addr)(x1:ByteArray)(x2:ByteArray)(x3:Int):List Value:= [.pointer x0,.string x1,.string x2,.int .i64 x3]
abbrev Kd:List Kind:= [.c .ptr,.c (.int .i64)]
abbrev Kc:List Kind:= [.c (.int .u32),.c .slice,.c (.int .i64)]
abbrev Js(f:FuncId)(a:List Value)(K:((Option Addr)×Int)→ac→Prop)(h:ac):Prop:=HC PG f a Kd K h
abbrev Jz(f:FuncId)(a:List Value)(K:(Int×SliceV×Int)→ac→Prop)(h:ac):Prop:=HC PG f a Kc K h
abbrev vt(x0:Option Addr)(x1:Option Addr):List Value:= [.pointer x0,.pointer x1]
abbrev Kb:List Kind:= [.agg [.int .u64,.int .u64,.int .u64]]
abbrev Jy(f:FuncId)(a:List Value)(K:(Int×Int×Int)→ac→Prop)(h:ac):Prop:=HC PG f a Kb K h
abbrev yY(h:ac)(a:Addr)(i:Nat)(v:Int):Prop:=bc h (adr a i)=some (.int .i64 v)
abbrev eM(h:ac)(a:Addr)(i:Nat)(v:Int):Prop:=bc h (adr a i)=some (.int .u64 v)
abbrev H3:Value:=.agg #[.int .i64 0,.int .u64 0,.int .u64 0,.int .u64 0,.pointer none,.pointer none]
abbrev dL(h:ac)(a:Addr)(v:Value)(k:ac→Prop):Prop:=Wr h a∧At (hset h a v) k
abbrev wE(x:ByteArray×ByteArray):List Value:= [.string x.1,.string x.2]
abbrev Ka:List Kind:= [.c .ptr,.c .bool]
abbrev Ey(f:FuncId)(a:List Value)(K:((Option Addr)×Bool)→ac→Prop)(h:ac):Prop:=HC PG f a Ka K h
abbrev GB(x0:Option Addr)(x1:Int)(x2:Int):List Value:= [.pointer x0,.int .u32 x1,.int .u32 x2]
abbrev JN(x0:Int)(x1:Int):List Value:= [.int .u32 x0,.int .u32 x1]
abbrev Jq:List Kind:= [.agg [.int .i64,.int .u64,.int .u64,.int .u64,.ptr,.ptr],.c .slice,.c (.int .i64)]
abbrev Jx(f:FuncId)(a:List Value)(K:ByteArray→ac→Prop)(h:ac):Prop:=HC PG f a [.c .str] K h
abbrev Jw(f:FuncId)(a:List Value)(K:((T6)×SliceV×Int)→ac→Prop)(h:ac):Prop:=HC PG f a Jq K h
abbrev zB(x0:SliceV)(x1:SliceV):List Value:= [.slice x0.a x0.len x0.cap,.slice x1.a x1.len x1.cap]
abbrev uH(h g:ac)(i:Nat)(v:SliceV):Prop:=bc h (adr (aZ g) i)=some (.slice v.a v.len v.cap)
abbrev E7:List Value:= [.int .i64 0,.int .u64 0,.int .u64 0,.int .u64 0,.slice none 0 0]
abbrev I9(x:Int×Int×Int×Int×SliceV):List Value:= [.int .i64 x.1,.int .u64 x.2.1,.int .u64 x.2.2.1,.int .u64 x.2.2.2.1,.slice x.2.2.2.2.a x.2.2.2.2.len x.2.2.2.2.cap]
abbrev Jp:List Kind:= [.agg [.int .i64,.int .u64,.int .u64,.int .u64,.slice],.c (.int .i64)]
abbrev T5:=Int×Int×Int×Int×SliceV
abbrev Jv(f:FuncId)(a:List Value)(K:((T5)×Int)→ac→Prop)(h:ac):Prop:=HC PG f a Jp K h
abbrev zl0:List Value:= [.int .u64 0,.int .u64 0,.int .u64 0]
abbrev vl0(x0:Int)(x1:Int)(x2:Int):List Value:= [.int .u64 x0,.int .u64 x1,.int .u64 x2]
abbrev Fh(x0:Option Addr)(x1:Option Addr)(x2:ByteArray)(x3:ByteArray):List Value:= [.pointer x0,.pointer x1,.string x2,.string x3]
abbrev Jo:List Kind:= [.c .ptr,.c .bool,.c .bool]
abbrev CT(f:FuncId)(a:List Value)(K:((Option Addr)×Bool×Bool)→ac→Prop)(h:ac):Prop:=HC PG f a Jo K h
abbrev H2:List Value:= [.int .u64 0,.int .u64 0,.int .u64 0,.pointer none,.string (⟨#[]⟩:ByteArray),.int .u64 0]
abbrev H8(x0:Int)(x1:Int)(x2:Int)(x3:Option Addr)(x4:ByteArray)(x5:Int):List Value:= [.int .u64 x0,.int .u64 x1,.int .u64 x2,.pointer x3,.string x4,.int .u64 x5]
abbrev yo(x0:Int)(x1:Int)(x2:Int)(x3:Option Addr)(x4:ByteArray)(x5:Int):Value:=.agg #[.int .u64 x0,.int .u64 x1,.int .u64 x2,.pointer x3,.string x4,.int .u64 x5]
abbrev Jn:List Kind:= [.c (.int .u64)]
abbrev rj(f:FuncId)(a:List Value)(K:Int→ac→Prop)(h:ac):Prop:=HC PG f a Jn K h
abbrev vY(x0:Option Addr)(x1:SliceV):List Value:= [.pointer x0,.slice x1.a x1.len x1.cap]
abbrev dx(h:ac)(a:Addr)(i:Nat)(v:Int):Prop:=bc h (adr a i)=some (.int .u32 v)
abbrev Ho(f:FuncId)(a:List Value)(K:(Option Nat)→ac→Prop)(h:ac):Prop:=HC PG f a [.c .map] K h
abbrev kI(h:ac)(a:Addr)(i:Nat)(v:Bool):Prop:=bc h (adr a i)=some (.bool v)
abbrev co(h:ac)(a:Addr)(i:Nat)(v:SliceV):Prop:=bc h (adr a i)=some (.slice v.a v.len v.cap)
abbrev B6(x0:Option Addr)(x1:Int):List Value:= [.pointer x0,.int .u8 x1]
abbrev H7(x0:Option Addr)(x1:ByteArray)(x2:ByteArray):List Value:= [.pointer x0,.string x1,.string x2]
abbrev Fg(x0:Option Addr)(x1:Option Addr)(x2:Int):List Value:= [.pointer x0,.pointer x1,.int .i64 x2]
abbrev Jm:List Kind:= [.c (.int .i64),.c .bool]
abbrev Ah(f:FuncId)(a:List Value)(K:(Int×Bool)→ac→Prop)(h:ac):Prop:=HC PG f a Jm K h
abbrev I0(x0:Int)(x1:Int):Value:=.agg #[.int .u64 x0,.int .u64 x1]
abbrev En(x:Int×Int×Int×(Option Addr)×ByteArray×Int):List Value:= [.int .u64 x.1,.int .u64 x.2.1,.int .u64 x.2.2.1,.pointer x.2.2.2.1,.string x.2.2.2.2.1,.int .u64 x.2.2.2.2.2]
abbrev ri(x0:Int)(x1:Int):List Value:= [.int .u64 x0,.int .i64 x1]
abbrev pk(x0:Option Addr)(x1:Int):List Value:= [.pointer x0,.int .i64 x1]
abbrev AO(x0:Option Addr)(x1:Option Addr)(x2:Int)(x3:Option Addr):List Value:= [.pointer x0,.pointer x1,.int .i64 x2,.pointer x3]
abbrev Jl:List Kind:= [.c .str,.c .bool]
abbrev Jk:List Kind:= [.agg [.str,.str],.c .bool]
abbrev Ju(f:FuncId)(a:List Value)(K:(ByteArray×Bool)→ac→Prop)(h:ac):Prop:=HC PG f a Jl K h
abbrev Jt(f:FuncId)(a:List Value)(K:((ByteArray×ByteArray)×Bool)→ac→Prop)(h:ac):Prop:=HC PG f a Jk K h
abbrev Jb(x:Int×Int×Int×(Option Addr)×ByteArray×Int):Value:=.agg #[.int .u64 x.1,.int .u64 x.2.1,.int .u64 x.2.2.1,.pointer x.2.2.2.1,.string x.2.2.2.2.1,.int .u64 x.2.2.2.2.2]
abbrev Kk(f:FuncId)(a:List Value)(K:Value→ac→Prop)(h:ac):Prop:=HC PG f a [.c .raw] K h
abbrev AK:List Value:= [.string (⟨#[]⟩:ByteArray),.bool false,.string (⟨#[]⟩:ByteArray),.slice none 0 0,.pointer none]
abbrev IZ(x0:ByteArray)(x1:Bool)(x2:ByteArray)(x3:SliceV)(x4:Option Addr):List Value:= [.string x0,.bool x1,.string x2,.slice x3.a x3.len x3.cap,.pointer x4]
abbrev wg(f:FuncId)(a:List Value)(K:Unit→ac→Prop)(h:ac):Prop:=HC PG f a [] K h
abbrev H6(x0:SliceV)(x1:Int)(x2:SliceV):List Value:= [.slice x0.a x0.len x0.cap,.int .i64 x1,.slice x2.a x2.len x2.cap]
abbrev I8(x:Int×Int):List Value:= [.int .u64 x.1,.int .u64 x.2]
abbrev IU:List Value:= [.int .u64 0,.int .u64 0,.int .u64 0,.int .u64 0]
abbrev IY(x0:Int)(x1:Int)(x2:Int)(x3:Int):List Value:= [.int .u64 x0,.int .u64 x1,.int .u64 x2,.int .u64 x3]
abbrev GP(x0:Option Addr)(x1:Int):List Value:= [.pointer x0,.int .u64 x1]
abbrev JZ(x:Int×Int):Value:=.agg #[.int .u64 x.1,.int .u64 x.2]
abbrev vX(x0:SliceV)(x1:ByteArray):List Value:= [.slice x0.a x0.len x0.cap,.string x1]
abbrev jI(x0:Int)(x1:Int):List Value:= [.int .u32 x0,.int .i64 x1]
abbrev Jj:List Kind:= [.c (.int .u32)]
abbrev tu(f:FuncId)(a:List Value)(K:Int→ac→Prop)(h:ac):Prop:=HC PG f a Jj K h
abbrev IV(h:ac)(a:Addr)(l:List Value)(k:ac→Prop):Prop:=qH h (some a) 0 l∧At (jd h a 0 l) k
abbrev IX(x0:Int)(x1:Int):List Value:= [.int .u8 x0,.int .u8 x1]
abbrev D4(x0:SliceV)(x1:Int)(x2:Int):List Value:= [.slice x0.a x0.len x0.cap,.int .u64 x1,.int .i64 x2]
abbrev GQ(x0:SliceV)(x1:Option Addr)(x2:Int):List Value:= [.slice x0.a x0.len x0.cap,.pointer x1,.int .i64 x2]
abbrev JQ(x0:Int)(x1:Option Addr):List Value:= [.int .u32 x0,.pointer x1]
abbrev E6:List Value:= [.int .u32 0,.int .u32 0,.slice none 0 0,.slice none 0 0,.bool false,.pointer none]
abbrev H5(x0:Int)(x1:Int)(x2:SliceV)(x3:SliceV)(x4:Bool)(x5:Option Addr):List Value:= [.int .u32 x0,.int .u32 x1,.slice x2.a x2.len x2.cap,.slice x3.a x3.len x3.cap,.bool x4,.pointer x5]
abbrev Ff(x0:SliceV)(x1:Int)(x2:Int):List Value:= [.slice x0.a x0.len x0.cap,.int .i64 x1,.int .i64 x2]
abbrev JP(x0:SliceV)(x1:Int):List Value:= [.slice x0.a x0.len x0.cap,.int .i64 x1]
theorem dz(an:Ann){f:FuncId}{fn:Func}{args:List Value}{ks:List Kind}{K:pR ks→ac→Prop}{h:ac}{p:Prop}(hf:PG.funcs[f]? =some fn) (hcall:∀(args:Array Value) (w:World),(callFunc f args).run PG w=.ok (.enter f args) w) (hp:p) (hb:fn.body=some (fn.body.getD .skip):=by rfl) (hl:Nat.ble args.length fn.ntmps=true:=by rfl) (e:p=A1 PG fn (fn.body.getD .skip) an args ks K h:=by kernel_rfl):HC PG f args ks K h:=HC.intro Tryz.mixed hf hb hcall (Nat.le_of_ble_eq_true hl) (e▸hp)
end Go.Proofs
