/- A part of the proof that the named laws of this program answer true, whatever the input. -/
import Derived.Test.YtajpljopgikpgaaGreatDoorProg
import Derived.Test.YtajpljopgikpgaaGreatDoorLift3
import Derived.KernelRfl
import Derived.Laws.Externs
set_option maxRecDepth 100000
set_option linter.unusedVariables false
open List renaming rec→d9
open Nat renaming ble→tN,le_of_ble_eq_true→gp
namespace Go.Proofs
open Go.Lift
noncomputable abbrev PG:Program:=Tryz.prog
theorem Tryz.mixed:PG.follows .mixedOrders=true:=by kernel_rfl
abbrev rT:FuncId:=4
abbrev sY:FuncId:=9
abbrev u1:FuncId:=10
abbrev l4:FuncId:=11
abbrev jV:FuncId:=12
abbrev fP:FuncId:=14
abbrev fo:FuncId:=16
abbrev iM:FuncId:=18
abbrev rD:FuncId:=19
abbrev fT:FuncId:=20
abbrev g8:FuncId:=21
abbrev jU:FuncId:=22
abbrev px:FuncId:=23
abbrev lU:FuncId:=24
abbrev mK:FuncId:=25
abbrev sV:FuncId:=32
abbrev lV:FuncId:=33
abbrev qE:FuncId:=37
abbrev rz:FuncId:=39
abbrev xB:FuncId:=40
abbrev xD:FuncId:=41
abbrev xC:FuncId:=42
abbrev hJ:FuncId:=43
abbrev iB:FuncId:=44
abbrev oN:FuncId:=45
abbrev pB:FuncId:=48
abbrev jh:FuncId:=54
abbrev pz:FuncId:=56
abbrev pC:FuncId:=57
abbrev oh:FuncId:=58
abbrev rB:FuncId:=59
abbrev rE:FuncId:=60
abbrev sW:FuncId:=61
abbrev sZ:FuncId:=62
abbrev sU:FuncId:=63
abbrev qn:FuncId:=64
abbrev qk:FuncId:=65
abbrev uk:FuncId:=66
abbrev ji:FuncId:=67
abbrev lq:FuncId:=75
abbrev dD:FuncId:=79
abbrev oM:FuncId:=83
abbrev oL:FuncId:=84
abbrev qj:FuncId:=87
abbrev uZ:FuncId:=88
abbrev ll:FuncId:=93
abbrev lY:FuncId:=94
abbrev dQ:FuncId:=95
abbrev jT:FuncId:=96
abbrev oc:FuncId:=97
abbrev jl:FuncId:=98
abbrev jX:FuncId:=99
abbrev dw:FuncId:=100
abbrev jn:FuncId:=101
abbrev jS:FuncId:=102
abbrev f9:FuncId:=103
abbrev iA:FuncId:=104
abbrev bR:FuncId:=105
abbrev rS:FuncId:=106
abbrev gU:FuncId:=107
abbrev kI:FuncId:=108
abbrev kK:FuncId:=109
abbrev mY:FuncId:=117
abbrev gT:FuncId:=118
abbrev py:FuncId:=119
abbrev cq:FuncId:=127
abbrev co:FuncId:=128
abbrev cC:FuncId:=129
abbrev cH:FuncId:=130
abbrev jj:FuncId:=131
abbrev uY:FuncId:=132
abbrev lX:FuncId:=133
abbrev c7:FuncId:=134
abbrev xA:FuncId:=135
abbrev dd:FuncId:=136
abbrev oO:FuncId:=137
abbrev mN:FuncId:=138
abbrev jE:FuncId:=139
abbrev hE:FuncId:=140
abbrev jm:FuncId:=141
abbrev gy:FuncId:=142
abbrev qm:FuncId:=143
abbrev dP:FuncId:=144
abbrev fl:FuncId:=145
abbrev eR:FuncId:=146
abbrev c5:FuncId:=147
abbrev qi:FuncId:=148
abbrev qg:FuncId:=149
abbrev lj:FuncId:=150
abbrev iP:FuncId:=151
abbrev jo:FuncId:=152
abbrev dX:FuncId:=153
abbrev mu:FuncId:=154
abbrev rC:FuncId:=155
abbrev kH:FuncId:=156
abbrev hG:FuncId:=157
abbrev jW:FuncId:=158
abbrev eL:FuncId:=159
abbrev l0:FuncId:=160
abbrev jR:FuncId:=167
abbrev mX:FuncId:=168
abbrev jD:FuncId:=169
abbrev iQ:FuncId:=170
abbrev lm:FuncId:=174
abbrev cS:FuncId:=175
abbrev kg:FuncId:=176
abbrev qh:FuncId:=177
abbrev fj:FuncId:=178
abbrev jQ:FuncId:=179
abbrev rA:FuncId:=180
abbrev ge:FuncId:=181
abbrev ni:FuncId:=182
abbrev dF:FuncId:=183
abbrev sX:FuncId:=184
abbrev ez:FuncId:=185
abbrev cy:FuncId:=186
abbrev gG:FuncId:=187
abbrev gF:FuncId:=188
abbrev cd:FuncId:=189
abbrev dR:FuncId:=190
abbrev bS:FuncId:=191
abbrev fi:FuncId:=192
abbrev lJ:FuncId:=193
abbrev u0:FuncId:=194
abbrev ql:FuncId:=195
abbrev gf:FuncId:=196
abbrev fX:FuncId:=197
abbrev oe:FuncId:=204
abbrev qF:FuncId:=210
abbrev cx:FuncId:=211
abbrev dy:FuncId:=212
abbrev lZ:FuncId:=213
abbrev cO:FuncId:=214
abbrev kJ:FuncId:=215
abbrev lw:FuncId:=216
abbrev dI:FuncId:=217
abbrev dh:FuncId:=218
abbrev gH:FuncId:=219
abbrev fW:FuncId:=220
abbrev mL:FuncId:=221
abbrev fA:FuncId:=222
abbrev lW:FuncId:=223
abbrev l6:FuncId:=229
abbrev iq:FuncId:=232
abbrev dY:FuncId:=233
abbrev hH:FuncId:=234
abbrev kT:FuncId:=242
abbrev lK:TypeId:=3
abbrev oz:TypeId:=4
abbrev dg:TypeId:=5
abbrev zP:TypeId:=9
abbrev yk:TypeId:=22
abbrev iW:TypeId:=24
abbrev bW:TypeId:=26
abbrev Ln:TypeId:=29
abbrev qf:TypeId:=31
abbrev Mi:TypeId:=32
abbrev Lo:TypeId:=35
abbrev LC:TypeId:=36
abbrev Jm:TypeId:=37
abbrev JI:TypeId:=38
abbrev JG:TypeId:=39
abbrev LB:TypeId:=40
abbrev lD:TypeId:=42
abbrev ba:TypeId:=43
abbrev aH:TypeId:=44
abbrev ax:TypeId:=46
abbrev vN:TypeId:=48
abbrev LD:TypeId:=49
abbrev gN:TypeId:=51
abbrev Oj:TypeId:=52
abbrev ar:TypeId:=54
abbrev cM:TypeId:=66
abbrev CT:TypeId:=79
abbrev FE:TypeId:=81
abbrev Jl:TypeId:=88
abbrev yl:TypeId:=103
abbrev sq:TypeId:=106
abbrev Bj:TypeId:=125
abbrev ML:TypeId:=128
abbrev Lz:TypeId:=130
abbrev mU:TypeId:=140
abbrev Hi:TypeId:=142
abbrev NR:TypeId:=143
abbrev re:TypeId:=145
abbrev mB:TypeId:=160
abbrev nB:TypeId:=162
abbrev jJ:TypeId:=169
abbrev aU:TypeId:=176
abbrev t_u32:TypeId:=201
abbrev rg:TypeId:=208
abbrev LA:TypeId:=210
abbrev bm:TypeId:=212
abbrev JF:TypeId:=239
abbrev zQ:TypeId:=256
abbrev gD:TypeId:=258
abbrev Jk:TypeId:=264
abbrev Bi:TypeId:=279
abbrev Lm:TypeId:=284
abbrev JH:TypeId:=288
abbrev Jn:TypeId:=312
theorem mO(args:Array Value)(w:World):(callFunc fi args).run PG w=((Extern.SlicesOverlaps.overlaps #[mB,mB] #[oz] args).run PG w).andThen fun v w=>.ok (.value v) w:=run_callFunc_extern (P:=PG) Tryz.func192 (by kernel_rfl) (by kernel_rfl) (by kernel_rfl) (by kernel_rfl) args w
theorem om(args:Array Value)(w:World):(callFunc fW args).run PG w=((Extern.SlicesOverlaps.overlaps #[cM,cM] #[oz] args).run PG w).andThen fun v w=>.ok (.value v) w:=run_callFunc_extern (P:=PG) Tryz.func220 (by kernel_rfl) (by kernel_rfl) (by kernel_rfl) (by kernel_rfl) args w
theorem nq(args:Array Value)(w:World):(callFunc fA args).run PG w=((Extern.SlicesOverlaps.overlaps #[nB,nB] #[oz] args).run PG w).andThen fun v w=>.ok (.value v) w:=run_callFunc_extern (P:=PG) Tryz.func222 (by kernel_rfl) (by kernel_rfl) (by kernel_rfl) (by kernel_rfl) args w
abbrev dC(h:ad)(a:Addr)(i:Nat)(v:Value):Prop:=aG h (adr a i)=some v
abbrev fH(i:Int)(n:Nat):Prop:=(0:Int)≤i∧i<(n:Int)
abbrev T6:=Int×Int×Int×Int×(Option Addr)×(Option Addr)
abbrev kd6:Kind:=.agg [.int .i64,.int .u64,.int .u64,.int .u64,.ptr,.ptr]
noncomputable def ON(l:List Nat):Nat:=d9 0 (fun i _ s=>Nat.add (Nat.pow 2 i) s) l
noncomputable def dn(a f l:List Nat)(d n:Nat):DM:=.mk (ON a) (Nat.sub (Nat.sub (Nat.pow 2 n) 1) (ON f)) (ON l) (match d with|0=>0|d+1=>Nat.pow 2 d)
noncomputable def dm(a l:List Nat)(d n:Nat):DM:=dn a a l d n
noncomputable def dl(n:Nat)(l:List (Nat→DM)):List DM:=d9 [] (fun f _ r=>f n::r) l
noncomputable def NA(i n:Nat)(a:DA):DA:=Nat.rec (fun _=>a) (fun _ r i=>.take i (r (Nat.succ i))) n i
noncomputable def N5(l:List Nat)(a:DA):DA:=d9 a (fun i _ r=>.take i r) l
abbrev rR(h:ad)(a:Addr)(i:Nat)(v:Int):Prop:=aG h (adr a i)=some (.int .i64 v)
abbrev bo(h g:ad)(i:Nat)(v:Int):Prop:=aG h (adr (aC g) i)=some (.int .i64 v)
abbrev af(h g:ad)(i:Nat)(v:Int):Prop:=aG h (adr (aC g) i)=some (.int .u64 v)
abbrev cE(h:ad)(a:Addr)(i:Nat)(v:Int):Prop:=aG h (adr a i)=some (.int .u64 v)
abbrev eK(h:ad)(a:Addr)(i:Nat)(v:Option Addr):Prop:=aG h (adr a i)=some (.pointer v)
abbrev aA(h g:ad)(i:Nat)(v:Option Addr):Prop:=aG h (adr (aC g) i)=some (.pointer v)
abbrev cG(h:ad)(a:Addr)(i:Nat)(v:ByteArray):Prop:=aG h (adr a i)=some (.string v)
abbrev aE(h g:ad)(i:Nat)(v:ByteArray):Prop:=aG h (adr (aC g) i)=some (.string v)
abbrev bL(h:ad)(a:Addr)(i:Nat)(v:SliceV):Prop:=aG h (adr a i)=some (.slice v.a v.len v.cap)
abbrev gC(h g:ad)(l:List Value)(k:ad→Prop):Prop:=rc h (some (aC g)) 0 l∧At (gd h (aC g) 0 l) k
abbrev nv(h:ad)(z:List Value)(t:TypeId)(l:List Value)(k:ad→Prop):Prop:=At (hnew h z t) fun g=>rc g (some (aC h)) 0 l∧At (gd g (aC h) 0 l) k
abbrev Ai(x:Int×Int×Int):List Value:= [.int .u64 x.1,.int .u64 x.2.1,.int .u64 x.2.2]
abbrev vE(x0:Int)(x1:Int)(x2:Int):Value:=.agg #[.int .u64 x0,.int .u64 x1,.int .u64 x2]
abbrev yi(x0:Int)(x1:Int)(x2:Int)(x3:Int)(x4:Option Addr)(x5:Option Addr):Value:=.agg #[.int .i64 x0,.int .u64 x1,.int .u64 x2,.int .u64 x3,.pointer x4,.pointer x5]
abbrev rd:List Value:= [.int .i64 0,.int .u64 0,.int .u64 0,.int .u64 0,.pointer none,.pointer none]
abbrev vI(x0:Int)(x1:Int)(x2:Int)(x3:Int)(x4:Option Addr)(x5:Option Addr):List Value:= [.int .i64 x0,.int .u64 x1,.int .u64 x2,.int .u64 x3,.pointer x4,.pointer x5]
abbrev qv(x:Int×Int×Int×Int×(Option Addr)×(Option Addr)):List Value:= [.int .i64 x.1,.int .u64 x.2.1,.int .u64 x.2.2.1,.int .u64 x.2.2.2.1,.pointer x.2.2.2.2.1,.pointer x.2.2.2.2.2]
abbrev su:List Value:= [.string (⟨#[]⟩:ByteArray),.string (⟨#[]⟩:ByteArray)]
abbrev qz(x0:ByteArray)(x1:ByteArray):List Value:= [.string x0,.string x1]
abbrev Ob(x0:ByteArray)(x1:Int):List Value:= [.string x0,.int .i64 x1]
abbrev y9(x0:Option Addr)(x1:ByteArray):List Value:= [.pointer x0,.string x1]
abbrev rP(x0:ByteArray)(x1:ByteArray):Value:=.agg #[.string x0,.string x1]
abbrev OE:List Kind:= [.c .ptr,.c (.int .i64)]
abbrev M2:List Kind:= [.agg [.int .i64,.int .u64,.int .u64,.int .u64,.ptr,.ptr],.c (.int .i64)]
abbrev yU:List Kind:= [.c (.int .i64)]
abbrev iz(f:FuncId)(a:List Value)(K:Bool→ad→Prop)(h:ad):Prop:=HC PG f a [.c .bool] K h
abbrev g7(f:FuncId)(a:List Value)(K:(Option Addr)→ad→Prop)(h:ad):Prop:=HC PG f a [.c .ptr] K h
abbrev M7(f:FuncId)(a:List Value)(K:((Option Addr)×Int)→ad→Prop)(h:ad):Prop:=HC PG f a OE K h
abbrev ET(f:FuncId)(a:List Value)(K:((T6)×Int)→ad→Prop)(h:ad):Prop:=HC PG f a M2 K h
abbrev li(f:FuncId)(a:List Value)(K:Int→ad→Prop)(h:ad):Prop:=HC PG f a yU K h
abbrev OF(f:FuncId)(a:List Value)(K:ByteArray→ad→Prop)(h:ad):Prop:=HC PG f a [.c .str] K h
abbrev Iw(x:Int×Int×Int):Value:=.agg #[.int .u64 x.1,.int .u64 x.2.1,.int .u64 x.2.2]
abbrev zg0:Value:=.agg #[.int .u64 0,.int .u64 0,.int .u64 0]
abbrev sH(h g:ad)(i:Nat)(v:SliceV):Prop:=aG h (adr (aC g) i)=some (.slice v.a v.len v.cap)
abbrev c8(h:ad)(a:Addr)(v:Value)(k:ad→Prop):Prop:=Wr h a∧At (hset h a v) k
abbrev zl5:List Value:= [.slice none 0 0,.slice none 0 0,.slice none 0 0,.slice none 0 0,.pointer none,.pointer none]
abbrev NC:List Value:= [.int .i64 0,.int .u64 0,.int .u64 0,.int .u64 0,.slice none 0 0]
abbrev pl6(x:Int×Int×Int×Int×SliceV):List Value:= [.int .i64 x.1,.int .u64 x.2.1,.int .u64 x.2.2.1,.int .u64 x.2.2.2.1,.slice x.2.2.2.2.a x.2.2.2.2.len x.2.2.2.2.cap]
abbrev Oa(x0:Int)(x1:Int)(x2:Int)(x3:Int)(x4:SliceV):List Value:= [.int .i64 x0,.int .u64 x1,.int .u64 x2,.int .u64 x3,.slice x4.a x4.len x4.cap]
abbrev OD:List Kind:= [.agg [.int .u64,.int .u64,.int .u64]]
abbrev OC:List Kind:= [.agg [.int .i64,.int .u64,.int .u64,.int .u64,.slice],.c (.int .i64)]
abbrev T5:=Int×Int×Int×Int×SliceV
abbrev hK6(f:FuncId)(a:List Value)(K:(Int×Int×Int)→ad→Prop)(h:ad):Prop:=HC PG f a OD K h
abbrev hK7(f:FuncId)(a:List Value)(K:((T5)×Int)→ad→Prop)(h:ad):Prop:=HC PG f a OC K h
abbrev vl7(x0:Option Addr)(x1:Option Addr)(x2:Int)(x3:Int)(x4:Int)(x5:Int)(x6:Option Addr)(x7:Option Addr):List Value:= [.pointer x0,.pointer x1,.int .i64 x2,.int .u64 x3,.int .u64 x4,.int .u64 x5,.pointer x6,.pointer x7]
abbrev JZ(x:Int×Int×Int×Int×(Option Addr)×(Option Addr)):Value:=.agg #[.int .i64 x.1,.int .u64 x.2.1,.int .u64 x.2.2.1,.int .u64 x.2.2.2.1,.pointer x.2.2.2.2.1,.pointer x.2.2.2.2.2]
abbrev ui(x:ByteArray×ByteArray):List Value:= [.string x.1,.string x.2]
abbrev JY(x:ByteArray×ByteArray):Value:=.agg #[.string x.1,.string x.2]
abbrev rO(x0:Option Addr)(x1:Option Addr):List Value:= [.pointer x0,.pointer x1]
abbrev Jj(x0:Option Addr)(x1:Option Addr)(x2:ByteArray):List Value:= [.pointer x0,.pointer x1,.string x2]
abbrev OB:List Kind:= [.c .ptr,.c .bool]
abbrev Dp(f:FuncId)(a:List Value)(K:((Option Addr)×Bool)→ad→Prop)(h:ad):Prop:=HC PG f a OB K h
abbrev Eb(x0:SliceV)(x1:SliceV):List Value:= [.slice x0.a x0.len x0.cap,.slice x1.a x1.len x1.cap]
abbrev jA(f:FuncId)(a:List Value)(K:SliceV→ad→Prop)(h:ad):Prop:=HC PG f a [.c .slice] K h
abbrev OA:List Kind:= [.agg [.int .i64,.int .u64,.int .u64,.int .u64,.ptr,.ptr]]
abbrev LZ(f:FuncId)(a:List Value)(K:T6→ad→Prop)(h:ad):Prop:=HC PG f a OA K h
abbrev zl0:List Value:= [.int .u64 0,.int .u64 0,.int .u64 0]
abbrev vl0(x0:Int)(x1:Int)(x2:Int):List Value:= [.int .u64 x0,.int .u64 x1,.int .u64 x2]
abbrev Ls(h:ad)(a:Addr)(l:List Value)(k:ad→Prop):Prop:=rc h (some a) 0 l∧At (gd h a 0 l) k
abbrev NL(x0:Option Addr)(x1:Option Addr)(x2:Option Addr):List Value:= [.pointer x0,.pointer x1,.pointer x2]
abbrev Oz:List Kind:= [.c .str,.c .bool]
abbrev Gy(f:FuncId)(a:List Value)(K:(ByteArray×Bool)→ad→Prop)(h:ad):Prop:=HC PG f a Oz K h
abbrev uG(x0:Int)(x1:Int)(x2:Int)(x3:Option Addr)(x4:ByteArray)(x5:Int):Value:=.agg #[.int .u64 x0,.int .u64 x1,.int .u64 x2,.pointer x3,.string x4,.int .u64 x5]
abbrev Oy:List Kind:= [.c (.int .u64)]
abbrev qD(f:FuncId)(a:List Value)(K:Int→ad→Prop)(h:ad):Prop:=HC PG f a Oy K h
abbrev Jy(x0:Option Addr)(x1:Option Addr)(x2:ByteArray)(x3:ByteArray):List Value:= [.pointer x0,.pointer x1,.string x2,.string x3]
abbrev Ox:List Kind:= [.c .ptr,.c .bool,.c .bool]
abbrev Gx(f:FuncId)(a:List Value)(K:((Option Addr)×Bool×Bool)→ad→Prop)(h:ad):Prop:=HC PG f a Ox K h
abbrev My:List Value:= [.int .u64 0,.int .u64 0,.int .u64 0,.pointer none,.string (⟨#[]⟩:ByteArray),.int .u64 0]
abbrev MF(x0:Int)(x1:Int)(x2:Int)(x3:Option Addr)(x4:ByteArray)(x5:Int):List Value:= [.int .u64 x0,.int .u64 x1,.int .u64 x2,.pointer x3,.string x4,.int .u64 x5]
abbrev N1:List Kind:= [.c (.int .i64),.c .bool]
abbrev uV(f:FuncId)(a:List Value)(K:(Int×Bool)→ad→Prop)(h:ad):Prop:=HC PG f a N1 K h
abbrev ip(h:ad)(a:Addr)(i:Nat)(v:Bool):Prop:=aG h (adr a i)=some (.bool v)
abbrev CR(x0:Option Addr)(x1:Int):List Value:= [.pointer x0,.int .u8 x1]
abbrev Ea(x0:SliceV)(x1:Int)(x2:Int):List Value:= [.slice x0.a x0.len x0.cap,.int .i64 x1,.int .i64 x2]
abbrev NM(x0:Int)(x1:Int):Value:=.agg #[.int .u64 x0,.int .u64 x1]
abbrev C9(x:Int×Int×Int×(Option Addr)×ByteArray×Int):List Value:= [.int .u64 x.1,.int .u64 x.2.1,.int .u64 x.2.2.1,.pointer x.2.2.2.1,.string x.2.2.2.2.1,.int .u64 x.2.2.2.2.2]
abbrev qd(x0:Int)(x1:Int):List Value:= [.int .u64 x0,.int .i64 x1]
abbrev ld(x0:Option Addr)(x1:Int):List Value:= [.pointer x0,.int .i64 x1]
abbrev CQ(x0:Option Addr)(x1:Option Addr)(x2:Int):List Value:= [.pointer x0,.pointer x1,.int .i64 x2]
abbrev zH(x0:Option Addr)(x1:Option Addr)(x2:Int)(x3:Option Addr):List Value:= [.pointer x0,.pointer x1,.int .i64 x2,.pointer x3]
abbrev N0:List Kind:= [.agg [.str,.str],.c .bool]
abbrev IH(f:FuncId)(a:List Value)(K:((ByteArray×ByteArray)×Bool)→ad→Prop)(h:ad):Prop:=HC PG f a N0 K h
abbrev MW(x:Int×Int×Int×(Option Addr)×ByteArray×Int):Value:=.agg #[.int .u64 x.1,.int .u64 x.2.1,.int .u64 x.2.2.1,.pointer x.2.2.2.1,.string x.2.2.2.2.1,.int .u64 x.2.2.2.2.2]
abbrev MD(x0:Option Addr)(x1:ByteArray)(x2:ByteArray):List Value:= [.pointer x0,.string x1,.string x2]
abbrev H1(x0:Int)(x1:SliceV):List Value:= [.int .u64 x0,.slice x1.a x1.len x1.cap]
abbrev NZ:List Kind:= [.c (.int .u32)]
abbrev sr(f:FuncId)(a:List Value)(K:Int→ad→Prop)(h:ad):Prop:=HC PG f a NZ K h
abbrev LY(f:FuncId)(a:List Value)(K:Value→ad→Prop)(h:ad):Prop:=HC PG f a [.c .raw] K h
abbrev D7:List Value:= [.string (⟨#[]⟩:ByteArray),.bool false,.string (⟨#[]⟩:ByteArray),.slice none 0 0,.pointer none]
abbrev sA(x0:SliceV)(x1:ByteArray):List Value:= [.slice x0.a x0.len x0.cap,.string x1]
abbrev ME(x0:Option Addr)(x1:SliceV):List Value:= [.pointer x0,.slice x1.a x1.len x1.cap]
abbrev NJ(x0:Int)(x1:Int):List Value:= [.int .u8 x0,.int .u8 x1]
abbrev H0(x0:SliceV)(x1:Int)(x2:Int):List Value:= [.slice x0.a x0.len x0.cap,.int .u64 x1,.int .i64 x2]
abbrev Lw(x0:SliceV)(x1:Option Addr)(x2:Int):List Value:= [.slice x0.a x0.len x0.cap,.pointer x1,.int .i64 x2]
abbrev NK(x0:ByteArray)(x1:Bool)(x2:ByteArray)(x3:SliceV)(x4:Option Addr):List Value:= [.string x0,.bool x1,.string x2,.slice x3.a x3.len x3.cap,.pointer x4]
abbrev NT(x:Int×Int):List Value:= [.int .u64 x.1,.int .u64 x.2]
abbrev ND:List Value:= [.int .u64 0,.int .u64 0,.int .u64 0,.int .u64 0]
abbrev NI(x0:Int)(x1:Int)(x2:Int)(x3:Int):List Value:= [.int .u64 x0,.int .u64 x1,.int .u64 x2,.int .u64 x3]
abbrev Lv(x0:Option Addr)(x1:Int):List Value:= [.pointer x0,.int .u64 x1]
abbrev wg(f:FuncId)(a:List Value)(K:Unit→ad→Prop)(h:ad):Prop:=HC PG f a [] K h
abbrev Ou(x:Int×Int):Value:=.agg #[.int .u64 x.1,.int .u64 x.2]
abbrev fJ(h:ad)(a:Addr)(i:Nat)(v:Int):Prop:=aG h (adr a i)=some (.int .u32 v)
abbrev kZ(x0:Int)(x1:Int):List Value:= [.int .u32 x0,.int .i64 x1]
abbrev MC(x0:SliceV)(x1:Int)(x2:SliceV):List Value:= [.slice x0.a x0.len x0.cap,.int .i64 x1,.slice x2.a x2.len x2.cap]
abbrev Jo:List Value:= [.int .u32 0,.int .u32 0,.slice none 0 0,.slice none 0 0,.bool false,.pointer none]
abbrev MB(x0:Int)(x1:Int)(x2:SliceV)(x3:SliceV)(x4:Bool)(x5:Option Addr):List Value:= [.int .u32 x0,.int .u32 x1,.slice x2.a x2.len x2.cap,.slice x3.a x3.len x3.cap,.bool x4,.pointer x5]
abbrev Og(x0:SliceV)(x1:Int):List Value:= [.slice x0.a x0.len x0.cap,.int .i64 x1]
theorem dM(an:Ann){f:FuncId}{fn:Func}{args:List Value}{ks:List Kind}{K:qI ks→ad→Prop}{h:ad}{p:Prop}(hf:PG.funcs[f]? =some fn) (hcall:∀(args:Array Value) (w:World),(callFunc f args).run PG w=.ok (.enter f args) w) (hp:p) (hb:fn.body=some (fn.body.getD .skip):=by rfl) (hl:tN args.length fn.ntmps=true:=by rfl) (e:p=B6 PG fn (fn.body.getD .skip) an args ks K h:=by kernel_rfl):HC PG f args ks K h:=HC.intro Tryz.mixed hf hb hcall (gp hl) (e▸hp)
theorem OT(an:Ann){f:FuncId}{fn:Func}{args:List Value}{ks:List Kind}{K:qI ks→ad→Prop}{h:ad}{p:Prop}(hf:PG.funcs[f]? =some fn) (hcall:∀(args:Array Value) (w:World),(callFunc f args).run PG w=.ok (.enter f args) w) (hp:p) (hb:fn.body=some (fn.body.getD .skip):=by rfl) (hl:tN args.length fn.ntmps=true:=by rfl) (e:p=FJ PG fn (fn.body.getD .skip) an args ks K h:=by kernel_rfl):HC PG f args ks K h:=HC.introM Tryz.mixed hf hb hcall (gp hl) (e▸hp)
theorem HEI(an:Ann){f:FuncId}{fn:Func}{args:List Value}{ks:List Kind}{K:qI ks→ad→Prop}{h:ad}{p:Prop}(hf:PG.funcs[f]? =some fn) (hcall:∀(args:Array Value) (w:World),(callFunc f args).run PG w=.ok (.enter f args) w) (hp:p) (hb:fn.body=some (fn.body.getD .skip):=by rfl) (hl:tN args.length fn.ntmps=true:=by rfl) (e:p=B6 PG fn (fn.body.getD .skip) an args ks K h:=by kernel_rfl):HE PG f args ks K h:=HE.intro Tryz.mixed hf hb hcall (gp hl) (e▸hp)
end Go.Proofs
