/- A part of the proof that the named laws of this program answer true, whatever the input. -/
import Derived.Test.YtajpljopgikpgaaGreatDoorProg
import Derived.Test.YtajpljopgikpgaaGreatDoorLift3
import Derived.KernelRfl
import Derived.Laws.Externs
set_option maxRecDepth 100000
set_option linter.unusedVariables false
open List renaming rec→eZ
open Nat renaming ble→vg,le_of_ble_eq_true→hE
namespace Go.Proofs
open Go.Lift
noncomputable abbrev PG:Program:=Tryz.prog
theorem Tryz.mixed:PG.follows .mixedOrders=true:=by kernel_rfl
abbrev uq:FuncId:=3
abbrev uo:FuncId:=9
abbrev wF:FuncId:=10
abbrev mY:FuncId:=11
abbrev kU:FuncId:=12
abbrev rl:FuncId:=13
abbrev gw:FuncId:=14
abbrev sH:FuncId:=15
abbrev gV:FuncId:=16
abbrev wG:FuncId:=17
abbrev ie:FuncId:=18
abbrev lx:FuncId:=20
abbrev nH:FuncId:=21
abbrev mR:FuncId:=24
abbrev uj:FuncId:=32
abbrev qs:FuncId:=33
abbrev rG:FuncId:=37
abbrev sE:FuncId:=39
abbrev za:FuncId:=40
abbrev uT:FuncId:=41
abbrev zd:FuncId:=42
abbrev iT:FuncId:=43
abbrev jo:FuncId:=44
abbrev pQ:FuncId:=45
abbrev zh:FuncId:=46
abbrev sM:FuncId:=47
abbrev qx:FuncId:=48
abbrev qw:FuncId:=49
abbrev zg:FuncId:=50
abbrev nI:FuncId:=51
abbrev mc:FuncId:=52
abbrev wB:FuncId:=53
abbrev mQ:FuncId:=54
abbrev ul:FuncId:=55
abbrev qu:FuncId:=56
abbrev qy:FuncId:=57
abbrev pu:FuncId:=58
abbrev sG:FuncId:=59
abbrev sO:FuncId:=60
abbrev uk:FuncId:=61
abbrev ur:FuncId:=62
abbrev rk:FuncId:=65
abbrev vE:FuncId:=66
abbrev jU:FuncId:=67
abbrev mh:FuncId:=75
abbrev d8:FuncId:=79
abbrev pP:FuncId:=83
abbrev pO:FuncId:=84
abbrev wD:FuncId:=85
abbrev sL:FuncId:=86
abbrev rj:FuncId:=87
abbrev wA:FuncId:=88
abbrev qv:FuncId:=89
abbrev B8:FuncId:=90
abbrev xK:FuncId:=91
abbrev B9:FuncId:=92
abbrev mf:FuncId:=93
abbrev mV:FuncId:=94
abbrev eK:FuncId:=95
abbrev kT:FuncId:=96
abbrev pq:FuncId:=97
abbrev jW:FuncId:=98
abbrev kW:FuncId:=99
abbrev dR:FuncId:=100
abbrev jY:FuncId:=101
abbrev kS:FuncId:=102
abbrev gO:FuncId:=103
abbrev jn:FuncId:=104
abbrev co:FuncId:=105
abbrev tf:FuncId:=106
abbrev iG:FuncId:=107
abbrev lN:FuncId:=108
abbrev lP:FuncId:=109
abbrev oc:FuncId:=117
abbrev iE:FuncId:=118
abbrev qt:FuncId:=119
abbrev nK:FuncId:=120
abbrev pF:FuncId:=121
abbrev pr:FuncId:=122
abbrev oA:FuncId:=123
abbrev sK:FuncId:=124
abbrev wC:FuncId:=125
abbrev xL:FuncId:=126
abbrev cM:FuncId:=127
abbrev cK:FuncId:=128
abbrev cY:FuncId:=129
abbrev c8:FuncId:=130
abbrev jV:FuncId:=131
abbrev wz:FuncId:=132
abbrev mU:FuncId:=133
abbrev dB:FuncId:=134
abbrev y9:FuncId:=135
abbrev dE:FuncId:=136
abbrev pR:FuncId:=137
abbrev nL:FuncId:=138
abbrev kB:FuncId:=139
abbrev iQ:FuncId:=140
abbrev jX:FuncId:=141
abbrev ig:FuncId:=142
abbrev rq:FuncId:=143
abbrev eI:FuncId:=144
abbrev f7:FuncId:=145
abbrev fI:FuncId:=146
abbrev dA:FuncId:=147
abbrev ri:FuncId:=148
abbrev rg:FuncId:=149
abbrev me:FuncId:=150
abbrev jB:FuncId:=151
abbrev jZ:FuncId:=152
abbrev eV:FuncId:=153
abbrev nr:FuncId:=154
abbrev sN:FuncId:=155
abbrev lM:FuncId:=156
abbrev iR:FuncId:=157
abbrev kV:FuncId:=158
abbrev fA:FuncId:=159
abbrev mX:FuncId:=160
abbrev kR:FuncId:=167
abbrev oa:FuncId:=168
abbrev kz:FuncId:=169
abbrev jC:FuncId:=170
abbrev sI:FuncId:=171
abbrev zi:FuncId:=172
abbrev xM:FuncId:=173
abbrev mg:FuncId:=174
abbrev dw:FuncId:=175
abbrev ly:FuncId:=176
abbrev rh:FuncId:=177
abbrev f6:FuncId:=178
abbrev kQ:FuncId:=179
abbrev sF:FuncId:=180
abbrev gU:FuncId:=181
abbrev oB:FuncId:=182
abbrev ey:FuncId:=183
abbrev um:FuncId:=184
abbrev fl:FuncId:=185
abbrev cW:FuncId:=186
abbrev ip:FuncId:=187
abbrev im:FuncId:=188
abbrev cE:FuncId:=189
abbrev eL:FuncId:=190
abbrev cp:FuncId:=191
abbrev fZ:FuncId:=192
abbrev mD:FuncId:=193
abbrev wE:FuncId:=194
abbrev rp:FuncId:=195
abbrev gX:FuncId:=196
abbrev gI:FuncId:=197
abbrev pt:FuncId:=204
abbrev sJ:FuncId:=208
abbrev je:FuncId:=209
abbrev rH:FuncId:=210
abbrev cR:FuncId:=211
abbrev dV:FuncId:=212
abbrev mW:FuncId:=213
abbrev dh:FuncId:=214
abbrev lO:FuncId:=215
abbrev ml:FuncId:=216
abbrev eC:FuncId:=217
abbrev dK:FuncId:=218
abbrev iq:FuncId:=219
abbrev gH:FuncId:=220
abbrev nJ:FuncId:=221
abbrev gf:FuncId:=222
abbrev mS:FuncId:=223
abbrev mZ:FuncId:=229
abbrev kA:FuncId:=231
abbrev jf:FuncId:=232
abbrev eW:FuncId:=233
abbrev iS:FuncId:=234
abbrev lZ:FuncId:=242
abbrev oo:TypeId:=3
abbrev re:TypeId:=4
abbrev bX:TypeId:=5
abbrev RF:TypeId:=9
abbrev mF:TypeId:=22
abbrev jJ:TypeId:=24
abbrev cu:TypeId:=26
abbrev DD:TypeId:=27
abbrev OK:TypeId:=29
abbrev vB:TypeId:=31
abbrev PW:TypeId:=32
abbrev OL:TypeId:=35
abbrev O3:TypeId:=36
abbrev MA:TypeId:=37
abbrev MZ:TypeId:=38
abbrev MX:TypeId:=39
abbrev O2:TypeId:=40
abbrev tL:TypeId:=42
abbrev bA:TypeId:=43
abbrev aR:TypeId:=44
abbrev bB:TypeId:=46
abbrev pk:TypeId:=48
abbrev O4:TypeId:=49
abbrev dP:TypeId:=51
abbrev Sp:TypeId:=52
abbrev ay:TypeId:=54
abbrev bH:TypeId:=60
abbrev gd:TypeId:=66
abbrev Mz:TypeId:=88
abbrev zO:TypeId:=103
abbrev tF:TypeId:=106
abbrev CZ:TypeId:=125
abbrev Qr:TypeId:=128
abbrev OZ:TypeId:=130
abbrev nX:TypeId:=140
abbrev Km:TypeId:=142
abbrev RG:TypeId:=143
abbrev vZ:TypeId:=145
abbrev pm:TypeId:=154
abbrev O1:TypeId:=157
abbrev nB:TypeId:=160
abbrev oM:TypeId:=162
abbrev kM:TypeId:=169
abbrev bh:TypeId:=176
abbrev M0:TypeId:=190
abbrev l6:TypeId:=192
abbrev RH:TypeId:=195
abbrev OM:TypeId:=196
abbrev MC:TypeId:=197
abbrev gt:TypeId:=199
abbrev t_u32:TypeId:=201
abbrev Sg:TypeId:=203
abbrev r9:TypeId:=208
abbrev O0:TypeId:=210
abbrev bE:TypeId:=212
abbrev MW:TypeId:=239
abbrev Bq:TypeId:=256
abbrev sd:TypeId:=257
abbrev il:TypeId:=258
abbrev My:TypeId:=264
abbrev CY:TypeId:=279
abbrev OJ:TypeId:=284
abbrev MY:TypeId:=288
abbrev MB:TypeId:=312
theorem nN(args:Array Value)(w:World):(callFunc fZ args).run PG w=((Extern.SlicesOverlaps.overlaps #[nB,nB] #[re] args).run PG w).andThen fun v w=>.ok (.value v) w:=run_callFunc_extern (P:=PG) Tryz.func192 (by kernel_rfl) (by kernel_rfl) (by kernel_rfl) (by kernel_rfl) args w
theorem py(args:Array Value)(w:World):(callFunc gH args).run PG w=((Extern.SlicesOverlaps.overlaps #[gd,gd] #[re] args).run PG w).andThen fun v w=>.ok (.value v) w:=run_callFunc_extern (P:=PG) Tryz.func220 (by kernel_rfl) (by kernel_rfl) (by kernel_rfl) (by kernel_rfl) args w
theorem oE(args:Array Value)(w:World):(callFunc gf args).run PG w=((Extern.SlicesOverlaps.overlaps #[oM,oM] #[re] args).run PG w).andThen fun v w=>.ok (.value v) w:=run_callFunc_extern (P:=PG) Tryz.func222 (by kernel_rfl) (by kernel_rfl) (by kernel_rfl) (by kernel_rfl) args w
abbrev cT(h:ad)(a:Addr)(i:Nat)(v:Value):Prop:=aK h (adr a i)=some v
abbrev dz(i:Int)(n:Nat):Prop:=(0:Int)≤i∧i<(n:Int)
abbrev T6:=Int×Int×Int×Int×(Option Addr)×(Option Addr)
abbrev kd6:Kind:=.agg [.int .i64,.int .u64,.int .u64,.int .u64,.ptr,.ptr]
noncomputable def SQ(l:List Nat):Nat:=eZ 0 (fun i _ s=>Nat.add (Nat.pow 2 i) s) l
noncomputable def dn(a f l:List Nat)(d n:Nat):DM:=.mk (SQ a) (Nat.sub (Nat.sub (Nat.pow 2 n) 1) (SQ f)) (SQ l) (match d with|0=>0|d+1=>Nat.pow 2 d)
noncomputable def dm(a l:List Nat)(d n:Nat):DM:=dn a a l d n
noncomputable def dl(n:Nat)(l:List (Nat→DM)):List DM:=eZ [] (fun f _ r=>f n::r) l
noncomputable def Rp(i n:Nat)(a:DA):DA:=Nat.rec (fun _=>a) (fun _ r i=>.take i (r (Nat.succ i))) n i
noncomputable def R0(l:List Nat)(a:DA):DA:=eZ a (fun i _ r=>.take i r) l
abbrev xr(h:ad)(a:Addr)(i:Nat)(v:Int):Prop:=aK h (adr a i)=some (.int .i64 v)
abbrev bo(h g:ad)(i:Nat)(v:Int):Prop:=aK h (adr (aA g) i)=some (.int .i64 v)
abbrev af(h g:ad)(i:Nat)(v:Int):Prop:=aK h (adr (aA g) i)=some (.int .u64 v)
abbrev cz(h:ad)(a:Addr)(i:Nat)(v:Int):Prop:=aK h (adr a i)=some (.int .u64 v)
abbrev iB(h:ad)(a:Addr)(i:Nat)(v:Option Addr):Prop:=aK h (adr a i)=some (.pointer v)
abbrev aJ(h g:ad)(i:Nat)(v:Option Addr):Prop:=aK h (adr (aA g) i)=some (.pointer v)
abbrev az(h g:ad)(i:Nat)(v:ByteArray):Prop:=aK h (adr (aA g) i)=some (.string v)
abbrev bG(h:ad)(a:Addr)(i:Nat)(v:SliceV):Prop:=aK h (adr a i)=some (.slice v.a v.len v.cap)
abbrev dU(h g:ad)(i:Nat)(v:SliceV):Prop:=aK h (adr (aA g) i)=some (.slice v.a v.len v.cap)
abbrev fT(h g:ad)(l:List Value)(k:ad→Prop):Prop:=rK h (some (aA g)) 0 l∧At (gD h (aA g) 0 l) k
abbrev nv(h:ad)(z:List Value)(t:TypeId)(l:List Value)(k:ad→Prop):Prop:=At (hnew h z t) fun g=>rK g (some (aA h)) 0 l∧At (gD g (aA h) 0 l) k
abbrev y2(x:Int×Int×Int):List Value:= [.int .u64 x.1,.int .u64 x.2.1,.int .u64 x.2.2]
abbrev uI(x0:Int)(x1:Int)(x2:Int):Value:=.agg #[.int .u64 x0,.int .u64 x1,.int .u64 x2]
abbrev CX(x0:Int)(x1:Int)(x2:Int)(x3:Int)(x4:Option Addr)(x5:Option Addr):Value:=.agg #[.int .i64 x0,.int .u64 x1,.int .u64 x2,.int .u64 x3,.pointer x4,.pointer x5]
abbrev Mw:List Value:= [.int .i64 0,.int .u64 0,.int .u64 0,.int .u64 0,.slice none 0 0]
abbrev Kg(x0:Int)(x1:Int)(x2:Int)(x3:Int)(x4:SliceV):List Value:= [.int .i64 x0,.int .u64 x1,.int .u64 x2,.int .u64 x3,.slice x4.a x4.len x4.cap]
abbrev Rh(x0:Int)(x1:Int):List Value:= [.int .u8 x0,.int .u8 x1]
abbrev mC:List Value:= [.string (⟨#[]⟩:ByteArray),.string (⟨#[]⟩:ByteArray)]
abbrev jO(x0:ByteArray)(x1:ByteArray):List Value:= [.string x0,.string x1]
abbrev AN(x0:Option Addr)(x1:ByteArray):List Value:= [.pointer x0,.string x1]
abbrev Ri(x0:Int)(x1:Int)(x2:Int)(x3:Int)(x4:SliceV):Value:=.agg #[.int .i64 x0,.int .u64 x1,.int .u64 x2,.int .u64 x3,.slice x4.a x4.len x4.cap]
abbrev Ku(x:Int×Int×Int×Int×SliceV):List Value:= [.int .i64 x.1,.int .u64 x.2.1,.int .u64 x.2.2.1,.int .u64 x.2.2.2.1,.slice x.2.2.2.2.a x.2.2.2.2.len x.2.2.2.2.cap]
abbrev rC(x0:ByteArray)(x1:ByteArray):Value:=.agg #[.string x0,.string x1]
abbrev yI:List Value:= [.int .i64 0,.int .u64 0,.int .u64 0,.int .u64 0,.pointer none,.pointer none]
abbrev tH(x:Int×Int×Int×Int×(Option Addr)×(Option Addr)):List Value:= [.int .i64 x.1,.int .u64 x.2.1,.int .u64 x.2.2.1,.int .u64 x.2.2.2.1,.pointer x.2.2.2.2.1,.pointer x.2.2.2.2.2]
abbrev SH:List Kind:= [.c .ptr,.c (.int .i64)]
abbrev AB:List Kind:= [.c (.int .i64)]
abbrev SG:List Kind:= [.agg [.int .i64,.int .u64,.int .u64,.int .u64,.slice],.c (.int .i64)]
abbrev QJ:List Kind:= [.agg [.int .i64,.int .u64,.int .u64,.int .u64,.ptr,.ptr],.c (.int .i64)]
abbrev T5:=Int×Int×Int×Int×SliceV
abbrev jm(f:FuncId)(a:List Value)(K:Bool→ad→Prop)(h:ad):Prop:=HC PG f a [.c .bool] K h
abbrev hH(f:FuncId)(a:List Value)(K:(Option Addr)→ad→Prop)(h:ad):Prop:=HC PG f a [.c .ptr] K h
abbrev Ro(f:FuncId)(a:List Value)(K:((Option Addr)×Int)→ad→Prop)(h:ad):Prop:=HC PG f a SH K h
abbrev kL(f:FuncId)(a:List Value)(K:Int→ad→Prop)(h:ad):Prop:=HC PG f a AB K h
abbrev Rn(f:FuncId)(a:List Value)(K:((T5)×Int)→ad→Prop)(h:ad):Prop:=HC PG f a SG K h
abbrev MD(f:FuncId)(a:List Value)(K:((T6)×Int)→ad→Prop)(h:ad):Prop:=HC PG f a QJ K h
abbrev GI(x:Int×Int×Int):Value:=.agg #[.int .u64 x.1,.int .u64 x.2.1,.int .u64 x.2.2]
abbrev zg0:Value:=.agg #[.int .u64 0,.int .u64 0,.int .u64 0]
abbrev cL(h:ad)(a:Addr)(v:Value)(k:ad→Prop):Prop:=Wr h a∧At (hset h a v) k
abbrev zl6:List Value:= [.slice none 0 0,.slice none 0 0,.slice none 0 0,.slice none 0 0,.pointer none,.pointer none]
abbrev Dy(x0:Int)(x1:Int)(x2:Int)(x3:Int)(x4:Option Addr)(x5:Option Addr):List Value:= [.int .i64 x0,.int .u64 x1,.int .u64 x2,.int .u64 x3,.pointer x4,.pointer x5]
abbrev SF:List Kind:= [.agg [.int .u64,.int .u64,.int .u64]]
abbrev RX(f:FuncId)(a:List Value)(K:(Int×Int×Int)→ad→Prop)(h:ad):Prop:=HC PG f a SF K h
abbrev vl7(x0:Option Addr)(x1:Option Addr)(x2:Int)(x3:Int)(x4:Int)(x5:Int)(x6:Option Addr)(x7:Option Addr):List Value:= [.pointer x0,.pointer x1,.int .i64 x2,.int .u64 x3,.int .u64 x4,.int .u64 x5,.pointer x6,.pointer x7]
abbrev OO(x:Int×Int×Int×Int×(Option Addr)×(Option Addr)):Value:=.agg #[.int .i64 x.1,.int .u64 x.2.1,.int .u64 x.2.2.1,.int .u64 x.2.2.2.1,.pointer x.2.2.2.2.1,.pointer x.2.2.2.2.2]
abbrev yO(x0:SliceV)(x1:ByteArray):List Value:= [.slice x0.a x0.len x0.cap,.string x1]
abbrev SE:List Kind:= [.c .str,.c .bool]
abbrev PA(f:FuncId)(a:List Value)(K:(ByteArray×Bool)→ad→Prop)(h:ad):Prop:=HC PG f a SE K h
abbrev gv(f:FuncId)(a:List Value)(K:SliceV→ad→Prop)(h:ad):Prop:=HC PG f a [.c .slice] K h
abbrev Si(x:Int×Int×Int×Int×SliceV):Value:=.agg #[.int .i64 x.1,.int .u64 x.2.1,.int .u64 x.2.2.1,.int .u64 x.2.2.2.1,.slice x.2.2.2.2.a x.2.2.2.2.len x.2.2.2.2.cap]
abbrev tG(x:ByteArray×ByteArray):List Value:= [.string x.1,.string x.2]
abbrev LJ(x:ByteArray×ByteArray):Value:=.agg #[.string x.1,.string x.2]
abbrev tc(x0:Option Addr)(x1:Option Addr):List Value:= [.pointer x0,.pointer x1]
abbrev Gh(x0:SliceV)(x1:SliceV):List Value:= [.slice x0.a x0.len x0.cap,.slice x1.a x1.len x1.cap]
abbrev Az(x0:Option Addr)(x1:Option Addr)(x2:ByteArray):List Value:= [.pointer x0,.pointer x1,.string x2]
abbrev SD:List Kind:= [.c .ptr,.c .bool]
abbrev Fi(f:FuncId)(a:List Value)(K:((Option Addr)×Bool)→ad→Prop)(h:ad):Prop:=HC PG f a SD K h
abbrev SC:List Kind:= [.agg [.int .i64,.int .u64,.int .u64,.int .u64,.ptr,.ptr]]
abbrev PC(f:FuncId)(a:List Value)(K:T6→ad→Prop)(h:ad):Prop:=HC PG f a SC K h
abbrev Se:List Value:= [.int .u64 0,.int .u64 0,.int .u64 0]
abbrev Sf(x0:Int)(x1:Int)(x2:Int):List Value:= [.int .u64 x0,.int .u64 x1,.int .u64 x2]
abbrev HW(h:ad)(a:Addr)(l:List Value)(k:ad→Prop):Prop:=rK h (some a) 0 l∧At (gD h a 0 l) k
abbrev Ry(x0:Option Addr)(x1:Option Addr)(x2:Option Addr):List Value:= [.pointer x0,.pointer x1,.pointer x2]
abbrev bI(h:ad)(a:Addr)(i:Nat)(v:ByteArray):Prop:=aK h (adr a i)=some (.string v)
abbrev SB:List Kind:= [.c (.int .i64),.c .bool]
abbrev tZ(f:FuncId)(a:List Value)(K:(Int×Bool)→ad→Prop)(h:ad):Prop:=HC PG f a SB K h
abbrev jP(x0:Option Addr)(x1:Int):List Value:= [.pointer x0,.int .i64 x1]
abbrev vW(x0:Int)(x1:Int)(x2:Int)(x3:Option Addr)(x4:ByteArray)(x5:Int):Value:=.agg #[.int .u64 x0,.int .u64 x1,.int .u64 x2,.pointer x3,.string x4,.int .u64 x5]
abbrev SA:List Kind:= [.c (.int .u64)]
abbrev ma(f:FuncId)(a:List Value)(K:Int→ad→Prop)(h:ad):Prop:=HC PG f a SA K h
abbrev MO(x0:Option Addr)(x1:Option Addr)(x2:ByteArray)(x3:ByteArray):List Value:= [.pointer x0,.pointer x1,.string x2,.string x3]
abbrev RW:List Kind:= [.c .ptr,.c .bool,.c .bool]
abbrev Jb(f:FuncId)(a:List Value)(K:((Option Addr)×Bool×Bool)→ad→Prop)(h:ad):Prop:=HC PG f a RW K h
abbrev Qb:List Value:= [.int .u64 0,.int .u64 0,.int .u64 0,.pointer none,.string (⟨#[]⟩:ByteArray),.int .u64 0]
abbrev Qj(x0:Int)(x1:Int)(x2:Int)(x3:Option Addr)(x4:ByteArray)(x5:Int):List Value:= [.int .u64 x0,.int .u64 x1,.int .u64 x2,.pointer x3,.string x4,.int .u64 x5]
abbrev gT(h:ad)(a:Addr)(i:Nat)(v:Bool):Prop:=aK h (adr a i)=some (.bool v)
abbrev Rs:List Value:= [.string (⟨#[]⟩:ByteArray),.bool false,.string (⟨#[]⟩:ByteArray),.slice none 0 0]
abbrev Lc(x0:SliceV)(x1:SliceV)(x2:Int):List Value:= [.slice x0.a x0.len x0.cap,.slice x1.a x1.len x1.cap,.int .i64 x2]
abbrev EH(x0:Option Addr)(x1:Int):List Value:= [.pointer x0,.int .u8 x1]
abbrev Gg(x0:SliceV)(x1:Int)(x2:Int):List Value:= [.slice x0.a x0.len x0.cap,.int .i64 x1,.int .i64 x2]
abbrev Rz(x0:Int)(x1:Int):Value:=.agg #[.int .u64 x0,.int .u64 x1]
abbrev E2(x:Int×Int×Int×(Option Addr)×ByteArray×Int):List Value:= [.int .u64 x.1,.int .u64 x.2.1,.int .u64 x.2.2.1,.pointer x.2.2.2.1,.string x.2.2.2.2.1,.int .u64 x.2.2.2.2.2]
abbrev lr(x0:Int)(x1:Int):List Value:= [.int .u64 x0,.int .i64 x1]
abbrev EG(x0:Option Addr)(x1:Option Addr)(x2:Int):List Value:= [.pointer x0,.pointer x1,.int .i64 x2]
abbrev Bj(x0:Option Addr)(x1:Option Addr)(x2:Int)(x3:Option Addr):List Value:= [.pointer x0,.pointer x1,.int .i64 x2,.pointer x3]
abbrev RV:List Kind:= [.agg [.str,.str],.c .bool]
abbrev LV(f:FuncId)(a:List Value)(K:((ByteArray×ByteArray)×Bool)→ad→Prop)(h:ad):Prop:=HC PG f a RV K h
abbrev QD(x:Int×Int×Int×(Option Addr)×ByteArray×Int):Value:=.agg #[.int .u64 x.1,.int .u64 x.2.1,.int .u64 x.2.2.1,.pointer x.2.2.2.1,.string x.2.2.2.2.1,.int .u64 x.2.2.2.2.2]
abbrev Qh(x0:Option Addr)(x1:ByteArray)(x2:ByteArray):List Value:= [.pointer x0,.string x1,.string x2]
abbrev Lb(x0:Int)(x1:SliceV):List Value:= [.int .u64 x0,.slice x1.a x1.len x1.cap]
abbrev RU:List Kind:= [.c (.int .u32)]
abbrev tI(f:FuncId)(a:List Value)(K:Int→ad→Prop)(h:ad):Prop:=HC PG f a RU K h
abbrev PB(f:FuncId)(a:List Value)(K:Value→ad→Prop)(h:ad):Prop:=HC PG f a [.c .raw] K h
abbrev Gc:List Value:= [.string (⟨#[]⟩:ByteArray),.bool false,.string (⟨#[]⟩:ByteArray),.slice none 0 0,.pointer none]
abbrev Qi(x0:Option Addr)(x1:SliceV):List Value:= [.pointer x0,.slice x1.a x1.len x1.cap]
abbrev La(x0:SliceV)(x1:Int)(x2:Int):List Value:= [.slice x0.a x0.len x0.cap,.int .u64 x1,.int .i64 x2]
abbrev OX(x0:SliceV)(x1:Option Addr)(x2:Int):List Value:= [.slice x0.a x0.len x0.cap,.pointer x1,.int .i64 x2]
abbrev Rw(x0:Int)(x1:Int)(x2:Int)(x3:Int):List Value:= [.int .u8 x0,.int .u8 x1,.int .u8 x2,.int .u8 x3]
abbrev Qg(x0:Int)(x1:Int)(x2:ByteArray):List Value:= [.int .u64 x0,.int .u64 x1,.string x2]
abbrev Rx(x0:ByteArray)(x1:Bool)(x2:ByteArray)(x3:SliceV)(x4:Option Addr):List Value:= [.string x0,.bool x1,.string x2,.slice x3.a x3.len x3.cap,.pointer x4]
abbrev RN(x:Int×Int):List Value:= [.int .u64 x.1,.int .u64 x.2]
abbrev K7:List Value:= [.int .u64 0,.int .u64 0,.int .u64 0,.int .u64 0]
abbrev K9(x0:Int)(x1:Int)(x2:Int)(x3:Int):List Value:= [.int .u64 x0,.int .u64 x1,.int .u64 x2,.int .u64 x3]
abbrev OW(x0:Option Addr)(x1:Int):List Value:= [.pointer x0,.int .u64 x1]
abbrev xI(f:FuncId)(a:List Value)(K:Unit→ad→Prop)(h:ad):Prop:=HC PG f a [] K h
abbrev Sx(x:Int×Int):Value:=.agg #[.int .u64 x.1,.int .u64 x.2]
abbrev gm(h:ad)(a:Addr)(i:Nat)(v:Int):Prop:=aK h (adr a i)=some (.int .u32 v)
abbrev l4(x0:Int)(x1:Int):List Value:= [.int .u32 x0,.int .i64 x1]
abbrev Qf(x0:SliceV)(x1:Int)(x2:SliceV):List Value:= [.slice x0.a x0.len x0.cap,.int .i64 x1,.slice x2.a x2.len x2.cap]
abbrev ME:List Value:= [.int .u32 0,.int .u32 0,.slice none 0 0,.slice none 0 0,.bool false,.pointer none]
abbrev Qk(x0:Int)(x1:Int)(x2:Int)(x3:Int):Value:=.agg #[.int .u64 x0,.int .u64 x1,.int .u64 x2,.int .u64 x3]
abbrev LK(x:Int×Int×Int×Int):Value:=.agg #[.int .u64 x.1,.int .u64 x.2.1,.int .u64 x.2.2.1,.int .u64 x.2.2.2]
abbrev Nm(x:Int×Int×Int×Int):List Value:= [.int .u64 x.1,.int .u64 x.2.1,.int .u64 x.2.2.1,.int .u64 x.2.2.2]
abbrev RS:List Kind:= [.agg [.int .u64,.int .u64,.int .u64,.int .u64]]
abbrev Ja(f:FuncId)(a:List Value)(K:(Int×Int×Int×Int)→ad→Prop)(h:ad):Prop:=HC PG f a RS K h
abbrev Qe(x0:Int)(x1:Int)(x2:SliceV)(x3:SliceV)(x4:Bool)(x5:Option Addr):List Value:= [.int .u32 x0,.int .u32 x1,.slice x2.a x2.len x2.cap,.slice x3.a x3.len x3.cap,.bool x4,.pointer x5]
abbrev Sm(x0:SliceV)(x1:Int):List Value:= [.slice x0.a x0.len x0.cap,.int .i64 x1]
theorem dG(an:Ann){f:FuncId}{fn:Func}{args:List Value}{ks:List Kind}{K:sU ks→ad→Prop}{h:ad}{p:Prop}(hf:PG.funcs[f]? =some fn) (hcall:∀(args:Array Value) (w:World),(callFunc f args).run PG w=.ok (.enter f args) w) (hp:p) (hb:fn.body=some (fn.body.getD .skip):=by rfl) (hl:vg args.length fn.ntmps=true:=by rfl) (e:p=Kr PG fn (fn.body.getD .skip) an args ks K h:=by kernel_rfl):HC PG f args ks K h:=HC.intro Tryz.mixed hf hb hcall (hE hl) (e▸hp)
theorem SW(an:Ann){f:FuncId}{fn:Func}{args:List Value}{ks:List Kind}{K:sU ks→ad→Prop}{h:ad}{p:Prop}(hf:PG.funcs[f]? =some fn) (hcall:∀(args:Array Value) (w:World),(callFunc f args).run PG w=.ok (.enter f args) w) (hp:p) (hb:fn.body=some (fn.body.getD .skip):=by rfl) (hl:vg args.length fn.ntmps=true:=by rfl) (e:p=H9 PG fn (fn.body.getD .skip) an args ks K h:=by kernel_rfl):HC PG f args ks K h:=HC.introM Tryz.mixed hf hb hcall (hE hl) (e▸hp)
theorem HEI(an:Ann){f:FuncId}{fn:Func}{args:List Value}{ks:List Kind}{K:sU ks→ad→Prop}{h:ad}{p:Prop}(hf:PG.funcs[f]? =some fn) (hcall:∀(args:Array Value) (w:World),(callFunc f args).run PG w=.ok (.enter f args) w) (hp:p) (hb:fn.body=some (fn.body.getD .skip):=by rfl) (hl:vg args.length fn.ntmps=true:=by rfl) (e:p=Kr PG fn (fn.body.getD .skip) an args ks K h:=by kernel_rfl):HE PG f args ks K h:=HE.intro Tryz.mixed hf hb hcall (hE hl) (e▸hp)
end Go.Proofs
