/- A part of the proof that the named laws of this program answer true, whatever the input. -/
import Derived.Test.YtakmnggbneeicaaGreatProg
import Derived.Test.YtakmnggbneeicaaGreatLift3
import Derived.KernelRfl
import Derived.Laws.Externs
set_option maxRecDepth 100000
set_option linter.unusedVariables false
open BitVec renaming ofInt→aA
open Go.Extern.SlicesOverlaps renaming overlaps→jz
open Go.IntKind renaming wrap→ac,bits→ak
open List renaming rec→eI
open Nat renaming ble→vU,le_of_ble_eq_true→fV
namespace Go.Proofs
open Go.Lift
noncomputable abbrev PG:Program:=Tryz.prog
theorem Tryz.mixed:PG.follows .mixedOrders=true:=by kernel_rfl
theorem Kk(args:Array Value)(w:World):(callFunc 138 args).run PG w=((Extern.MapsClone.clone args).run PG w).andThen fun v w=>.ok (.value v) w:=run_callFunc_extern (P:=PG) Tryz.func138 (by kernel_rfl) (by kernel_rfl) (by kernel_rfl) (by kernel_rfl) args w
theorem pj(args:Array Value)(w:World):(callFunc 232 args).run PG w=((jz #[254,254] #[4] args).run PG w).andThen fun v w=>.ok (.value v) w:=run_callFunc_extern (P:=PG) Tryz.func232 (by kernel_rfl) (by kernel_rfl) (by kernel_rfl) (by kernel_rfl) args w
theorem rl(args:Array Value)(w:World):(callFunc 288 args).run PG w=((jz #[256,256] #[4] args).run PG w).andThen fun v w=>.ok (.value v) w:=run_callFunc_extern (P:=PG) Tryz.func288 (by kernel_rfl) (by kernel_rfl) (by kernel_rfl) (by kernel_rfl) args w
theorem p7(args:Array Value)(w:World):(callFunc 290 args).run PG w=((jz #[258,258] #[4] args).run PG w).andThen fun v w=>.ok (.value v) w:=run_callFunc_extern (P:=PG) Tryz.func290 (by kernel_rfl) (by kernel_rfl) (by kernel_rfl) (by kernel_rfl) args w
noncomputable def nn(n:Nat)(a:Ann):Ann:=Nat.rec a (fun _ r=>.node .nil r) n
abbrev cB(h:ad)(a:Addr)(i:Nat)(v:Value):Prop:=aK h (adr a i)=some v
abbrev fQ(i:Int)(n:Nat):Prop:=(0:Int)≤i∧i<(n:Int)
abbrev T6:=Int×Int×Int×Int×(Option Addr)×(Option Addr)
abbrev kd6:Kind:=.agg [.int .i64,.int .u64,.int .u64,.int .u64,.ptr,.ptr]
noncomputable def YP(l:List Nat):Nat:=eI 0 (fun i _ s=>Nat.add (Nat.pow 2 i) s) l
noncomputable def dn(a f l:List Nat)(d n:Nat):DM:=.mk (YP a) (Nat.sub (Nat.sub (Nat.pow 2 n) 1) (YP f)) (YP l) (match d with|0=>0|d+1=>Nat.pow 2 d)
noncomputable def dm(a l:List Nat)(d n:Nat):DM:=dn a a l d n
noncomputable def dl(n:Nat)(l:List (Nat→DM)):List DM:=eI [] (fun f _ r=>f n::r) l
noncomputable def Ma(i n:Nat)(a:DA):DA:=Nat.rec (fun _=>a) (fun _ r i=>.take i (r (Nat.succ i))) n i
noncomputable def Yc(l:List Nat)(a:DA):DA:=eI a (fun i _ r=>.take i r) l
abbrev te(h:ad)(a:Addr)(i:Nat)(v:Int):Prop:=aK h (adr a i)=some (.int .i64 v)
abbrev aY(h g:ad)(i:Nat)(v:Int):Prop:=aK h (adr (aL g) i)=some (.int .i64 v)
abbrev aj(h g:ad)(i:Nat)(v:Int):Prop:=aK h (adr (aL g) i)=some (.int .u64 v)
abbrev Pb(h:ad)(a:Addr)(i:Nat)(v:Int):Prop:=aK h (adr a i)=some (.int .u8 v)
abbrev rG(h g:ad)(i:Nat)(v:Int):Prop:=aK h (adr (aL g) i)=some (.int .u8 v)
abbrev dR(h:ad)(a:Addr)(i:Nat)(v:Int):Prop:=aK h (adr a i)=some (.int .u32 v)
abbrev gn(h g:ad)(i:Nat)(v:Int):Prop:=aK h (adr (aL g) i)=some (.int .u32 v)
abbrev dg(h:ad)(a:Addr)(i:Nat)(v:Option Addr):Prop:=aK h (adr a i)=some (.pointer v)
abbrev cZ(h:ad)(a:Addr)(i:Nat)(v:ByteArray):Prop:=aK h (adr a i)=some (.string v)
abbrev bi(h g:ad)(i:Nat)(v:ByteArray):Prop:=aK h (adr (aL g) i)=some (.string v)
abbrev gl(h:ad)(a:Addr)(i:Nat)(v:Bool):Prop:=aK h (adr a i)=some (.bool v)
abbrev gI(h g:ad)(i:Nat)(v:Bool):Prop:=aK h (adr (aL g) i)=some (.bool v)
abbrev dt(h g:ad)(l:List Value)(k:ad→Prop):Prop:=pk h (some (aL g)) 0 l∧At (eN h (aL g) 0 l) k
abbrev nv(h:ad)(z:List Value)(t:TypeId)(l:List Value)(k:ad→Prop):Prop:=At (hnew h z t) fun g=>pk g (some (aL h)) 0 l∧At (eN g (aL h) 0 l) k
abbrev Ei(x:Int×Int×Int):List Value:= [.int .u64 x.1,.int .u64 x.2.1,.int .u64 x.2.2]
abbrev BG(x0:Int)(x1:Int)(x2:Int):Value:=.agg #[.int .u64 x0,.int .u64 x1,.int .u64 x2]
abbrev zl1:List Value:= [.int .u8 0,.string (⟨#[]⟩:ByteArray),.string (⟨#[]⟩:ByteArray),.int .u8 0,.int .u8 0,.int .u32 0,.string (⟨#[]⟩:ByteArray),.string (⟨#[]⟩:ByteArray),.bool false,.int .i64 0]
abbrev vl1(x0:Int)(x1:ByteArray)(x2:ByteArray)(x3:Int)(x4:Int)(x5:Int)(x6:ByteArray)(x7:ByteArray)(x8:Bool)(x9:Int):List Value:= [.int .u8 x0,.string x1,.string x2,.int .u8 x3,.int .u8 x4,.int .u32 x5,.string x6,.string x7,.bool x8,.int .i64 x9]
abbrev X5(x0:Int)(x1:ByteArray)(x2:ByteArray)(x3:Int)(x4:Int)(x5:Int)(x6:ByteArray)(x7:ByteArray)(x8:Bool)(x9:Int):Value:=.agg #[.int .u8 x0,.string x1,.string x2,.int .u8 x3,.int .u8 x4,.int .u32 x5,.string x6,.string x7,.bool x8,.int .i64 x9]
abbrev Ez:List Value:= [.string (⟨#[]⟩:ByteArray),.int .u32 0]
abbrev Rl(x0:ByteArray)(x1:Int):List Value:= [.string x0,.int .u32 x1]
abbrev Ef(x0:Option Addr)(x1:Int)(x2:Int):List Value:= [.pointer x0,.int .u32 x1,.int .u32 x2]
abbrev sL(x0:Option Addr)(x1:Int):List Value:= [.pointer x0,.int .u32 x1]
abbrev ux:List Value:= [.int .i64 0,.int .u64 0,.int .u64 0,.int .u64 0,.pointer none,.pointer none]
abbrev tf(x:Int×Int×Int×Int×(Option Addr)×(Option Addr)):List Value:= [.int .i64 x.1,.int .u64 x.2.1,.int .u64 x.2.2.1,.int .u64 x.2.2.2.1,.pointer x.2.2.2.2.1,.pointer x.2.2.2.2.2]
abbrev RD(x0:SliceV)(x1:Int):List Value:= [.slice x0.a x0.len x0.cap,.int .u32 x1]
abbrev YH:List Kind:= [.agg [.int .i64,.int .u64,.int .u64,.int .u64,.ptr,.ptr],.c (.int .i64)]
abbrev fI(f:FuncId)(a:List Value)(K:Bool→ad→Prop)(h:ad):Prop:=HC PG f a [.c .bool] K h
abbrev eT(f:FuncId)(a:List Value)(K:(Option Addr)→ad→Prop)(h:ad):Prop:=HC PG f a [.c .ptr] K h
abbrev eP(f:FuncId)(a:List Value)(K:SliceV→ad→Prop)(h:ad):Prop:=HC PG f a [.c .slice] K h
abbrev MJ(f:FuncId)(a:List Value)(K:((T6)×Int)→ad→Prop)(h:ad):Prop:=HC PG f a YH K h
abbrev pg0(x:Int×Int×Int):Value:=.agg #[.int .u64 x.1,.int .u64 x.2.1,.int .u64 x.2.2]
abbrev aD(h g:ad)(i:Nat)(v:Option Addr):Prop:=aK h (adr (aL g) i)=some (.pointer v)
abbrev WX:Value:=.agg #[.int .u64 0,.int .u64 0,.int .u64 0]
abbrev Lw(x:Int×Int×Int×Int×(Option Addr)×(Option Addr)):Value:=.agg #[.int .i64 x.1,.int .u64 x.2.1,.int .u64 x.2.2.1,.int .u64 x.2.2.2.1,.pointer x.2.2.2.2.1,.pointer x.2.2.2.2.2]
abbrev oW(x0:ByteArray)(x1:ByteArray):Value:=.agg #[.string x0,.string x1]
abbrev sM(x0:Int)(x1:Int)(x2:Int)(x3:Int)(x4:Option Addr)(x5:Option Addr):Value:=.agg #[.int .i64 x0,.int .u64 x1,.int .u64 x2,.int .u64 x3,.pointer x4,.pointer x5]
abbrev VV(x0:Option Addr)(x1:ByteArray)(x2:ByteArray)(x3:Int):List Value:= [.pointer x0,.string x1,.string x2,.int .i64 x3]
abbrev Ri(x0:Option Addr)(x1:ByteArray)(x2:Int):List Value:= [.pointer x0,.string x1,.int .u32 x2]
abbrev YF:List Kind:= [.c .ptr,.c (.int .i64)]
abbrev YE:List Kind:= [.agg [.int .i64,.int .u64,.int .u64,.int .u64,.ptr,.ptr]]
abbrev YD:List Kind:= [.c (.int .u32),.c (.int .i64)]
abbrev YC:List Kind:= [.c (.int .u32),.c .slice,.c (.int .i64)]
abbrev wI:List Kind:= [.c (.int .i64)]
abbrev XJ(f:FuncId)(a:List Value)(K:((Option Addr)×Int)→ad→Prop)(h:ad):Prop:=HC PG f a YF K h
abbrev U4(f:FuncId)(a:List Value)(K:T6→ad→Prop)(h:ad):Prop:=HC PG f a YE K h
abbrev Eu(f:FuncId)(a:List Value)(K:(Int×Int)→ad→Prop)(h:ad):Prop:=HC PG f a YD K h
abbrev SR(f:FuncId)(a:List Value)(K:(Int×SliceV×Int)→ad→Prop)(h:ad):Prop:=HC PG f a YC K h
abbrev fH(f:FuncId)(a:List Value)(K:Int→ad→Prop)(h:ad):Prop:=HC PG f a wI K h
abbrev kq(x0:Option Addr)(x1:Option Addr):List Value:= [.pointer x0,.pointer x1]
abbrev YB:List Kind:= [.agg [.int .u64,.int .u64,.int .u64]]
abbrev Ya(f:FuncId)(a:List Value)(K:(Int×Int×Int)→ad→Prop)(h:ad):Prop:=HC PG f a YB K h
abbrev X8(x:Int×ByteArray×ByteArray×Int×Int×Int×ByteArray×ByteArray×Bool×Int):List Value:= [.int .u8 x.1,.string x.2.1,.string x.2.2.1,.int .u8 x.2.2.2.1,.int .u8 x.2.2.2.2.1,.int .u32 x.2.2.2.2.2.1,.string x.2.2.2.2.2.2.1,.string x.2.2.2.2.2.2.2.1,.bool x.2.2.2.2.2.2.2.2.1,.int .i64 x.2.2.2.2.2.2.2.2.2]
abbrev VZ(x0:ByteArray)(x1:Int):List Value:= [.string x0,.int .u8 x1]
abbrev fP(x0:Option Addr)(x1:ByteArray):List Value:= [.pointer x0,.string x1]
abbrev DE:List Value:= [.string (⟨#[]⟩:ByteArray),.string (⟨#[]⟩:ByteArray),.bool false,.string (⟨#[]⟩:ByteArray),.bool false,.string (⟨#[]⟩:ByteArray),.bool false]
abbrev DI(x0:ByteArray)(x1:ByteArray)(x2:Bool)(x3:ByteArray)(x4:Bool)(x5:ByteArray)(x6:Bool):List Value:= [.string x0,.string x1,.bool x2,.string x3,.bool x4,.string x5,.bool x6]
abbrev RF(x0:SliceV)(x1:SliceV):List Value:= [.slice x0.a x0.len x0.cap,.slice x1.a x1.len x1.cap]
abbrev AD(f:FuncId)(a:List Value)(K:ByteArray→ad→Prop)(h:ad):Prop:=HC PG f a [.c .str] K h
abbrev pg1(x:Int×ByteArray×ByteArray×Int×Int×Int×ByteArray×ByteArray×Bool×Int):Value:=.agg #[.int .u8 x.1,.string x.2.1,.string x.2.2.1,.int .u8 x.2.2.2.1,.int .u8 x.2.2.2.2.1,.int .u32 x.2.2.2.2.2.1,.string x.2.2.2.2.2.2.1,.string x.2.2.2.2.2.2.2.1,.bool x.2.2.2.2.2.2.2.2.1,.int .i64 x.2.2.2.2.2.2.2.2.2]
abbrev yR(x0:Option Addr)(x1:SliceV):List Value:= [.pointer x0,.slice x1.a x1.len x1.cap]
abbrev QG(f:FuncId)(a:List Value)(K:Value→ad→Prop)(h:ad):Prop:=HC PG f a [.c .raw] K h
abbrev N0(f:FuncId)(a:List Value)(K:(Option Nat)→ad→Prop)(h:ad):Prop:=HC PG f a [.c .map] K h
abbrev ge(h:ad)(a:Addr)(i:Nat)(v:Int):Prop:=aK h (adr a i)=some (.int .u64 v)
abbrev MV(x0:Int)(x1:Int)(x2:Int)(x3:Int)(x4:Option Addr)(x5:Option Addr):List Value:= [.int .i64 x0,.int .u64 x1,.int .u64 x2,.int .u64 x3,.pointer x4,.pointer x5]
abbrev T0:Value:=.agg #[.int .i64 0,.int .u64 0,.int .u64 0,.int .u64 0,.pointer none,.pointer none]
abbrev dM(h g:ad)(i:Nat)(v:SliceV):Prop:=aK h (adr (aL g) i)=some (.slice v.a v.len v.cap)
abbrev qR:List Value:= [.int .i64 0,.int .u64 0,.int .u64 0,.int .u64 0,.slice none 0 0]
abbrev mL(x:Int×Int×Int×Int×SliceV):List Value:= [.int .i64 x.1,.int .u64 x.2.1,.int .u64 x.2.2.1,.int .u64 x.2.2.2.1,.slice x.2.2.2.2.a x.2.2.2.2.len x.2.2.2.2.cap]
abbrev YA:List Kind:= [.agg [.int .i64,.int .u64,.int .u64,.int .u64,.slice],.c (.int .i64)]
abbrev T5:=Int×Int×Int×Int×SliceV
abbrev DR(f:FuncId)(a:List Value)(K:((T5)×Int)→ad→Prop)(h:ad):Prop:=HC PG f a YA K h
abbrev X3:List Value:= [.int .u64 0,.int .u64 0,.int .u64 0]
abbrev X4(x0:Int)(x1:Int)(x2:Int):List Value:= [.int .u64 x0,.int .u64 x1,.int .u64 x2]
abbrev cV(h:ad)(a:Addr)(v:Value)(k:ad→Prop):Prop:=Wr h a∧At (hset h a v) k
abbrev yg(x:ByteArray×ByteArray):List Value:= [.string x.1,.string x.2]
abbrev kJ(x0:ByteArray)(x1:ByteArray):List Value:= [.string x0,.string x1]
abbrev Yz:List Kind:= [.c .ptr,.c .bool]
abbrev rP(f:FuncId)(a:List Value)(K:((Option Addr)×Bool)→ad→Prop)(h:ad):Prop:=HC PG f a Yz K h
abbrev Xj(x:ByteArray×ByteArray):Value:=.agg #[.string x.1,.string x.2]
abbrev Yy:List Kind:= [.c (.int .u32),.c .bool]
abbrev G8(f:FuncId)(a:List Value)(K:(Int×Bool)→ad→Prop)(h:ad):Prop:=HC PG f a Yy K h
abbrev uB(x0:Int)(x1:Int):List Value:= [.int .u32 x0,.int .u32 x1]
abbrev XF:List Kind:= [.agg [.int .i64,.int .u64,.int .u64,.int .u64,.ptr,.ptr],.c .slice,.c (.int .i64)]
abbrev Wq(f:FuncId)(a:List Value)(K:((T6)×SliceV×Int)→ad→Prop)(h:ad):Prop:=HC PG f a XF K h
abbrev W6(x0:ByteArray)(x1:ByteArray)(x2:ByteArray)(x3:ByteArray):List Value:= [.string x0,.string x1,.string x2,.string x3]
abbrev cg(h:ad)(a:Addr)(i:Nat)(v:SliceV):Prop:=aK h (adr a i)=some (.slice v.a v.len v.cap)
abbrev RE(x0:Option Addr)(x1:SliceV)(x2:ByteArray)(x3:Int)(x4:Bool):List Value:= [.pointer x0,.slice x1.a x1.len x1.cap,.string x2,.int .u32 x3,.bool x4]
abbrev XE:List Kind:= [.c .slice,.c (.int .i64)]
abbrev G7(f:FuncId)(a:List Value)(K:(SliceV×Int)→ad→Prop)(h:ad):Prop:=HC PG f a XE K h
abbrev kR(x0:SliceV)(x1:ByteArray):List Value:= [.slice x0.a x0.len x0.cap,.string x1]
abbrev KK(x0:Option Addr)(x1:Int)(x2:Int):List Value:= [.pointer x0,.int .i64 x1,.int .u32 x2]
abbrev dd(f:FuncId)(a:List Value)(K:Unit→ad→Prop)(h:ad):Prop:=HC PG f a [] K h
abbrev nV(x0:Int)(x1:Int)(x2:Int)(x3:Int)(x4:SliceV):Value:=.agg #[.int .i64 x0,.int .u64 x1,.int .u64 x2,.int .u64 x3,.slice x4.a x4.len x4.cap]
abbrev XD:List Kind:= [.agg [.int .i64,.int .u64,.int .u64,.int .u64,.slice],.c .slice,.c (.int .i64)]
abbrev XL(f:FuncId)(a:List Value)(K:((T5)×SliceV×Int)→ad→Prop)(h:ad):Prop:=HC PG f a XD K h
abbrev mY:List Value:= [.string (⟨#[]⟩:ByteArray),.string (⟨#[]⟩:ByteArray)]
abbrev SM:List Kind:= [.agg [.str,.str]]
abbrev XK(f:FuncId)(a:List Value)(K:(ByteArray×ByteArray)→ad→Prop)(h:ad):Prop:=HC PG f a SM K h
abbrev Jb(x0:Int)(x1:Int)(x2:Int)(x3:Int)(x4:SliceV):List Value:= [.int .i64 x0,.int .u64 x1,.int .u64 x2,.int .u64 x3,.slice x4.a x4.len x4.cap]
abbrev Ud:List Value:= [.int .u32 0,.int .i64 0,.int .u64 0,.int .u64 0,.int .u64 0,.slice none 0 0]
abbrev Uo(x0:Int)(x1:Int)(x2:Int)(x3:Int)(x4:Int)(x5:SliceV):List Value:= [.int .u32 x0,.int .i64 x1,.int .u64 x2,.int .u64 x3,.int .u64 x4,.slice x5.a x5.len x5.cap]
abbrev Un(x0:Option Addr)(x1:Option Addr)(x2:ByteArray)(x3:ByteArray):List Value:= [.pointer x0,.pointer x1,.string x2,.string x3]
abbrev XC:List Kind:= [.c .ptr,.c .bool,.c .bool]
abbrev JQ(f:FuncId)(a:List Value)(K:((Option Addr)×Bool×Bool)→ad→Prop)(h:ad):Prop:=HC PG f a XC K h
abbrev VT:List Value:= [.int .u64 0,.int .u64 0,.int .u64 0,.pointer none,.string (⟨#[]⟩:ByteArray),.int .u64 0]
abbrev VY(x0:Int)(x1:Int)(x2:Int)(x3:Option Addr)(x4:ByteArray)(x5:Int):List Value:= [.int .u64 x0,.int .u64 x1,.int .u64 x2,.pointer x3,.string x4,.int .u64 x5]
abbrev yS(x0:Int)(x1:Int)(x2:Int)(x3:Option Addr)(x4:ByteArray)(x5:Int):Value:=.agg #[.int .u64 x0,.int .u64 x1,.int .u64 x2,.pointer x3,.string x4,.int .u64 x5]
abbrev XB:List Kind:= [.c (.int .u64)]
abbrev sO(f:FuncId)(a:List Value)(K:Int→ad→Prop)(h:ad):Prop:=HC PG f a XB K h
abbrev PW:List Value:= [.string (⟨#[]⟩:ByteArray),.string (⟨#[]⟩:ByteArray),.string (⟨#[]⟩:ByteArray),.bool false,.bool false]
abbrev DH(x0:ByteArray)(x1:ByteArray)(x2:ByteArray)(x3:Bool)(x4:Bool):List Value:= [.string x0,.string x1,.string x2,.bool x3,.bool x4]
abbrev Jc(x0:ByteArray)(x1:Bool):Value:=.agg #[.string x0,.bool x1]
abbrev DD:List Value:= [.string (⟨#[]⟩:ByteArray),.bool false]
abbrev wH(x:ByteArray×Bool):List Value:= [.string x.1,.bool x.2]
abbrev XA:List Kind:= [.agg [.str,.bool],.c .bool]
abbrev Xz:List Kind:= [.agg [.str,.bool]]
abbrev U5(f:FuncId)(a:List Value)(K:((ByteArray×Bool)×Bool)→ad→Prop)(h:ad):Prop:=HC PG f a XA K h
abbrev B8(f:FuncId)(a:List Value)(K:(ByteArray×Bool)→ad→Prop)(h:ad):Prop:=HC PG f a Xz K h
abbrev IS:List Value:= [.int .u32 0,.slice none 0 0]
abbrev MW(x0:Int)(x1:SliceV):List Value:= [.int .u32 x0,.slice x1.a x1.len x1.cap]
abbrev W5(x0:Int)(x1:Int)(x2:Int)(x3:Int)(x4:SliceV)(x5:Int)(x6:Int)(x7:Int)(x8:Int)(x9:SliceV)(x10:Int)(x11:Int)(x12:Int)(x13:Int)(x14:SliceV):List Value:= [.int .i64 x0,.int .u64 x1,.int .u64 x2,.int .u64 x3,.slice x4.a x4.len x4.cap,.int .i64 x5,.int .u64 x6,.int .u64 x7,.int .u64 x8,.slice x9.a x9.len x9.cap,.int .i64 x10,.int .u64 x11,.int .u64 x12,.int .u64 x13,.slice x14.a x14.len x14.cap]
abbrev Yt(x:Int×Int×Int×Int×SliceV):Value:=.agg #[.int .i64 x.1,.int .u64 x.2.1,.int .u64 x.2.2.1,.int .u64 x.2.2.2.1,.slice x.2.2.2.2.a x.2.2.2.2.len x.2.2.2.2.cap]
abbrev GS(x0:Option Addr)(x1:Option Addr)(x2:ByteArray):List Value:= [.pointer x0,.pointer x1,.string x2]
abbrev Xy:List Kind:= [.c .str,.c .bool]
abbrev q9(f:FuncId)(a:List Value)(K:(ByteArray×Bool)→ad→Prop)(h:ad):Prop:=HC PG f a Xy K h
abbrev DG(x0:SliceV)(x1:Int)(x2:Int)(x3:Int):List Value:= [.slice x0.a x0.len x0.cap,.int .i64 x1,.int .i64 x2,.int .i64 x3]
abbrev GR(x0:Option Addr)(x1:Int):List Value:= [.pointer x0,.int .u8 x1]
abbrev W4(x0:Option Addr)(x1:ByteArray)(x2:ByteArray):List Value:= [.pointer x0,.string x1,.string x2]
abbrev Ja(x0:Option Addr)(x1:Option Addr)(x2:Int):List Value:= [.pointer x0,.pointer x1,.int .i64 x2]
abbrev Xx:List Kind:= [.c (.int .i64),.c .bool]
abbrev xh(f:FuncId)(a:List Value)(K:(Int×Bool)→ad→Prop)(h:ad):Prop:=HC PG f a Xx K h
abbrev W7(x0:Int)(x1:Int):Value:=.agg #[.int .u64 x0,.int .u64 x1]
abbrev JA(x:Int×Int×Int×(Option Addr)×ByteArray×Int):List Value:= [.int .u64 x.1,.int .u64 x.2.1,.int .u64 x.2.2.1,.pointer x.2.2.2.1,.string x.2.2.2.2.1,.int .u64 x.2.2.2.2.2]
abbrev vr(x0:Int)(x1:Int):List Value:= [.int .u64 x0,.int .i64 x1]
abbrev jK(x0:Option Addr)(x1:Int):List Value:= [.pointer x0,.int .i64 x1]
abbrev EK(x0:Option Addr)(x1:Option Addr)(x2:Int)(x3:Option Addr):List Value:= [.pointer x0,.pointer x1,.int .i64 x2,.pointer x3]
abbrev Xw:List Kind:= [.agg [.str,.str],.c .bool]
abbrev FC(f:FuncId)(a:List Value)(K:((ByteArray×ByteArray)×Bool)→ad→Prop)(h:ad):Prop:=HC PG f a Xw K h
abbrev Wh(x:Int×Int×Int×(Option Addr)×ByteArray×Int):Value:=.agg #[.int .u64 x.1,.int .u64 x.2.1,.int .u64 x.2.2.1,.pointer x.2.2.2.1,.string x.2.2.2.2.1,.int .u64 x.2.2.2.2.2]
abbrev nZ(x0:Int)(x1:Int):List Value:= [.int .u32 x0,.int .i64 x1]
abbrev vl40(x0:Int)(x1:Int)(x2:Option Addr):List Value:= [.int .u32 x0,.int .i64 x1,.pointer x2]
abbrev KJ(x0:Option Addr)(x1:Option Addr)(x2:Option Addr)(x3:ByteArray):List Value:= [.pointer x0,.pointer x1,.pointer x2,.string x3]
abbrev P0(x0:Option Addr)(x1:Option Addr)(x2:Option Addr):List Value:= [.pointer x0,.pointer x1,.pointer x2]
abbrev VX(x0:ByteArray)(x1:Bool):List Value:= [.string x0,.bool x1]
abbrev pg27(x:ByteArray×Bool):Value:=.agg #[.string x.1,.bool x.2]
abbrev W3(x0:Option Addr)(x1:Int)(x2:SliceV):List Value:= [.pointer x0,.int .u32 x1,.slice x2.a x2.len x2.cap]
abbrev SL:List Kind:= [.c (.int .u32)]
abbrev z6(x0:SliceV)(x1:Int)(x2:Int):List Value:= [.slice x0.a x0.len x0.cap,.int .i64 x1,.int .i64 x2]
abbrev Xv:List Kind:= [.c (.int .i64),.c (.int .i64)]
abbrev QF(f:FuncId)(a:List Value)(K:(Int×Int)→ad→Prop)(h:ad):Prop:=HC PG f a Xv K h
abbrev KA:List Value:= [.string (⟨#[]⟩:ByteArray),.bool false,.string (⟨#[]⟩:ByteArray),.slice none 0 0,.pointer none]
abbrev W2(x0:ByteArray)(x1:Bool)(x2:ByteArray)(x3:SliceV)(x4:Option Addr):List Value:= [.string x0,.bool x1,.string x2,.slice x3.a x3.len x3.cap,.pointer x4]
abbrev vl47(x0:SliceV)(x1:Int)(x2:SliceV):List Value:= [.slice x0.a x0.len x0.cap,.int .i64 x1,.slice x2.a x2.len x2.cap]
abbrev Xh(x:Int×Int):List Value:= [.int .u64 x.1,.int .u64 x.2]
abbrev WW:List Value:= [.int .u64 0,.int .u64 0,.int .u64 0,.int .u64 0]
abbrev W0(x0:Int)(x1:Int)(x2:Int)(x3:Int):List Value:= [.int .u64 x0,.int .u64 x1,.int .u64 x2,.int .u64 x3]
abbrev Um(x0:Option Addr)(x1:Int):List Value:= [.pointer x0,.int .u64 x1]
abbrev pg35(x:Int×Int):Value:=.agg #[.int .u64 x.1,.int .u64 x.2]
abbrev xf(f:FuncId)(a:List Value)(K:Int→ad→Prop)(h:ad):Prop:=HC PG f a SL K h
abbrev DF(h:ad)(a:Addr)(l:List Value)(k:ad→Prop):Prop:=pk h (some a) 0 l∧At (eN h a 0 l) k
abbrev KI(x0:Option Addr)(x1:SliceV)(x2:SliceV):List Value:= [.pointer x0,.slice x1.a x1.len x1.cap,.slice x2.a x2.len x2.cap]
abbrev Wg(x:ByteArray×ByteArray×ByteArray×Bool×Bool):List Value:= [.string x.1,.string x.2.1,.string x.2.2.1,.bool x.2.2.2.1,.bool x.2.2.2.2]
abbrev pg26(x:ByteArray×ByteArray×ByteArray×Bool×Bool):Value:=.agg #[.string x.1,.string x.2.1,.string x.2.2.1,.bool x.2.2.2.1,.bool x.2.2.2.2]
abbrev Ul(x0:SliceV)(x1:Int)(x2:Int)(x3:Int)(x4:Option Addr):List Value:= [.slice x0.a x0.len x0.cap,.int .i64 x1,.int .i64 x2,.int .i64 x3,.pointer x4]
abbrev Uk(x0:SliceV)(x1:Int)(x2:Option Addr):List Value:= [.slice x0.a x0.len x0.cap,.int .i64 x1,.pointer x2]
abbrev Rq:List Value:= [.int .u32 0,.int .u32 0,.slice none 0 0,.slice none 0 0,.bool false,.pointer none]
abbrev VW(x0:Int)(x1:Int)(x2:SliceV)(x3:SliceV)(x4:Bool)(x5:Option Addr):List Value:= [.int .u32 x0,.int .u32 x1,.slice x2.a x2.len x2.cap,.slice x3.a x3.len x3.cap,.bool x4,.pointer x5]
abbrev vl54(x0:Int)(x1:Option Addr):List Value:= [.int .u32 x0,.pointer x1]
abbrev Uj(x0:SliceV)(x1:Int)(x2:Int)(x3:Option Addr):List Value:= [.slice x0.a x0.len x0.cap,.int .i64 x1,.int .i64 x2,.pointer x3]
abbrev KL(x0:ByteArray)(x1:ByteArray)(x2:ByteArray)(x3:Bool)(x4:Bool):Value:=.agg #[.string x0,.string x1,.string x2,.bool x3,.bool x4]
abbrev vl56(x0:SliceV)(x1:Int):List Value:= [.slice x0.a x0.len x0.cap,.int .i64 x1]
abbrev UI(x:SliceV×SliceV):List Value:= [.slice x.1.a x.1.len x.1.cap,.slice x.2.a x.2.len x.2.cap]
abbrev Xu:List Kind:= [.agg [.slice,.slice]]
abbrev SS(f:FuncId)(a:List Value)(K:(SliceV×SliceV)→ad→Prop)(h:ad):Prop:=HC PG f a Xu K h
abbrev Rr:List Value:= [.slice none 0 0,.slice none 0 0]
abbrev wL(a:ad)(b:ad)(k:Int→Int→Int→Int→Prop):Prop:=∃c,aY a b 0 c∧∃d,aj a b 1 d∧∃e,aj a b 2 e∧∃f,aj a b 3 f∧k c d e f
abbrev rz(a:Int)(b:SliceV)(c:ad)(k:Int→Prop):Prop:=fQ a b.len∧∃d,b.a=some d∧∃e,cB c d (a.toNat*1) (.int .u32 e)∧k e
abbrev Vx(a:Int)(b:SliceV)(c:ad)(k:ByteArray→ByteArray→ByteArray→Bool→Bool→Prop):Prop:=fQ a b.len∧∃d,b.a=some d∧∃e,cB c (adr d (a.toNat*5)) 0 (.string e)∧∃f,cB c (adr d (a.toNat*5)) 1 (.string f)∧∃g,cB c (adr d (a.toNat*5)) 2 (.string g)∧∃h,cB c (adr d (a.toNat*5)) 3 (.bool h)∧∃i,cB c (adr d (a.toNat*5)) 4 (.bool i)∧k e f g h i
abbrev nh(a:ad)(b:ad)(k:Int→Int→Int→Int→Option Addr→Option Addr→Prop):Prop:=wL a b (fun(c:Int) (d:Int) (e:Int) (f:Int)=>∃g,aD a b 4 g∧∃h,aD a b 5 h∧k c d e f g h)
abbrev Ey(a:Int)(b:SliceV)(c:ad)(d:Int)(k:ad→Prop):Prop:=rz a b c (fun(e:Int)=>rz d b c (fun(f:Int)=>fQ d b.len∧∃g,b.a=some g∧cV c (adr g (d.toNat*1)) (.int .u32 e) (fun h=>fQ a b.len∧∃i,b.a=some i∧cV h (adr i (a.toNat*1)) (.int .u32 f) (fun j=>k j))))
abbrev jA(a:Int)(b:SliceV)(k:Addr→Prop):Prop:=fQ a b.len∧∃c,b.a=some c∧k c
abbrev cH(a:Option Addr)(k:Addr→Prop):Prop:=∃b,a=some b∧k b
abbrev Hf(a:ad)(b:Addr)(k:ByteArray→ByteArray→Prop):Prop:=∃c,cZ a b 0 c∧∃d,cZ a b 1 d∧k c d
abbrev mF(a:ad)(b:ad)(k:ByteArray→ByteArray→Prop):Prop:=∃c,bi a b 0 c∧∃d,bi a b 1 d∧k c d
abbrev Ye(a:Int)(k:UInt8→Prop):Prop:=∃b,(0:Int)≤a∧(⟨#[0,1,1,2,1,2,2,3,1,2,2,3,2,3,3,4,1,2,2,3,2,3,3,4,2,3,3,4,3,4,4,5,1,2,2,3,2,3,3,4,2,3,3,4,3,4,4,5,2,3,3,4,3,4,4,5,3,4,4,5,4,5,5,6,1,2,2,3,2,3,3,4,2,3,3,4,3,4,4,5,2,3,3,4,3,4,4,5,3,4,4,5,4,5,5,6,2,3,3,4,3,4,4,5,3,4,4,5,4,5,5,6,3,4,4,5,4,5,5,6,4,5,5,6,5,6,6,7,1,2,2,3,2,3,3,4,2,3,3,4,3,4,4,5,2,3,3,4,3,4,4,5,3,4,4,5,4,5,5,6,2,3,3,4,3,4,4,5,3,4,4,5,4,5,5,6,3,4,4,5,4,5,5,6,4,5,5,6,5,6,6,7,2,3,3,4,3,4,4,5,3,4,4,5,4,5,5,6,3,4,4,5,4,5,5,6,4,5,5,6,5,6,6,7,3,4,4,5,4,5,5,6,4,5,5,6,5,6,6,7,4,5,5,6,5,6,6,7,5,6,6,7,6,7,7,8]⟩:ByteArray)[a.toNat]? =some b∧k b
abbrev Ot(a:Int)(b:SliceV)(c:ad)(k:ByteArray→ByteArray→ByteArray→Bool→Bool→Prop):Prop:=jA a b (fun(d:Addr)=>Hf c (adr d (a.toNat*5)) (fun(e:ByteArray) (f:ByteArray)=>∃g,cZ c (adr d (a.toNat*5)) 2 g∧∃h,gl c (adr d (a.toNat*5)) 3 h∧∃i,gl c (adr d (a.toNat*5)) 4 i∧k e f g h i))
abbrev sS(a:ad)(b:ad)(k:ByteArray→Bool→Prop):Prop:=∃c,bi a b 0 c∧∃d,gI a b 1 d∧k c d
abbrev jg(a:ad)(b:ad)(k:Int→Int→Int→Int→SliceV→Prop):Prop:=wL a b (fun(c:Int) (d:Int) (e:Int) (f:Int)=>∃g:SliceV,dM a b 4 g∧k c d e f g)
abbrev mc(a:ad)(b:ad)(k:Int→Int→Int→Prop):Prop:=∃c,aj a b 0 c∧∃d,aj a b 1 d∧∃e,aj a b 2 e∧k c d e
abbrev Mu(a:Int)(b:SliceV)(c:ad)(k:ByteArray→ByteArray→Prop):Prop:=jA a b (fun(d:Addr)=>∃e,cB c (adr d (a.toNat*2)) 0 (.string e)∧∃f,cB c (adr d (a.toNat*2)) 1 (.string f)∧k e f)
abbrev zE(a:Int)(b:Int)(k:Int→Prop):Prop:=Bd (ac .u64 (aA (ak .u64) a^^^aA (ak .u64) b).toNat:Int) (fun(c:Int)=>k c)
abbrev D4(a:SliceV)(b:ad)(k:Addr→Option Addr→Prop):Prop:=fQ 0 a.len∧∃c,a.a=some c∧∃d,cB b c ((0:Int).toNat*1) (.pointer d)∧k c d
abbrev l8(a:Int)(b:SliceV)(k:Prop):Prop:=((0:Int)≤a∧a≤((b.len:Nat):Int))∧k
abbrev xA(a:ad)(b:ad)(c:ad)(k:ad→Int→Int→Int→Int→Option Addr→Option Addr→Prop):Prop:=nh a b (fun(d:Int) (e:Int) (f:Int) (g:Int) (h:Option Addr) (i:Option Addr)=>dt a c (MV d e f g h i) (fun j=>nh j c (fun(l:Int) (m:Int) (n:Int) (o:Int) (p:Option Addr) (q:Option Addr)=>k j l m n o p q)))
abbrev rY(a:Int)(b:SliceV)(c:ad)(k:ByteArray→ByteArray→Prop):Prop:=jA a b (fun(d:Addr)=>Hf c (adr d (a.toNat*2)) (fun(e:ByteArray) (f:ByteArray)=>k e f))
abbrev xz(a:ad)(b:Addr)(k:Int→Int→Int→Int→Prop):Prop:=∃c,te a b 0 c∧∃d,ge a b 1 d∧∃e,ge a b 2 e∧∃f,ge a b 3 f∧k c d e f
abbrev gU(a:ad)(b:Addr)(c:SliceV)(k:ad→Prop):Prop:=cV a b (.slice c.a c.len c.cap) (fun d=>k d)
abbrev AY(a:ad)(b:ad)(k:Int→Int→Int→Prop):Prop:=∃c,ge a (adr (aL b) 1) 0 c∧∃d,ge a (adr (aL b) 1) 1 d∧∃e,ge a (adr (aL b) 1) 2 e∧k c d e
abbrev Gd(a:Int)(b:Int)(k:Int→Prop):Prop:=Bd (ac .u64 (aA (ak .u64) a|||aA (ak .u64) b).toNat:Int) (fun(c:Int)=>k c)
abbrev Kr(a:Int)(b:Int)(k:Int→Prop):Prop:=(0:Int)≤(1:Int)∧Bd (Int.fdiv (ac .u64 (ac .i64 (a+b))) (2^(min (1:Int).toNat (ak .u64))):Int) (fun(c:Int)=>k c)
abbrev sR(a:Int)(b:SliceV)(c:ad)(d:Int)(k:Bool→ad→Prop):Prop:=rz a b c (fun(e:Int)=>rz d b c (fun(f:Int)=>fI 211 (uB e f) (fun(g:Bool) h=>k g h) c))
abbrev mN(a:Int)(b:SliceV)(k:Prop):Prop:=((0:Int)≤a∧a≤((b.cap:Nat):Int))∧k
abbrev Vy(a:Int)(b:SliceV)(c:ad)(k:ad→Prop):Prop:=Vx (ac .i64 (a-1)) b c (fun(d:ByteArray) (e:ByteArray) (f:ByteArray) (g:Bool) (h:Bool)=>Ot a b c (fun(i:ByteArray) (j:ByteArray) (l:ByteArray) (m:Bool) (n:Bool)=>jA a b (fun(o:Addr)=>DF c (adr o (a.toNat*5)) (DH d e f g h) (fun p=>jA (ac .i64 (a-1)) b (fun(q:Addr)=>DF p (adr q ((ac .i64 (a-1)).toNat*5)) (DH i j l m n) (fun r=>k r))))))
abbrev Kq(a:Nat)(b:Int)(c:SliceV)(d:Nat)(k:Nat→Nat→Prop):Prop:=Bd (a-((ac .i64 (b+(c.len:Int))).toNat):Nat) (fun(e:Nat)=>Bd (d-((ac .i64 (b+(c.len:Int))).toNat):Nat) (fun(f:Nat)=>k e f))
abbrev xy(a:ad)(b:Addr)(k:ByteArray→Bool→Prop):Prop:=∃c,cZ a b 0 c∧∃d,gl a b 1 d∧k c d
abbrev Gc(a:SliceV)(k:Nat→Nat→Prop):Prop:=Bd (a.len-((1:Int).toNat):Nat) (fun(b:Nat)=>Bd (a.cap-((1:Int).toNat):Nat) (fun(c:Nat)=>k b c))
abbrev Ck(a:ad)(b:ad)(c:ad)(k:ad→ByteArray→Bool→Prop):Prop:=sS a b (fun(d:ByteArray) (e:Bool)=>dt a c (VX d e) (fun f=>sS f c (fun(g:ByteArray) (h:Bool)=>k f g h)))
abbrev D3(a:ad)(b:ad)(c:ad)(k:ad→Int→Int→Int→Int→SliceV→Prop):Prop:=jg a b (fun(d:Int) (e:Int) (f:Int) (g:Int) (h:SliceV)=>dt a c (Jb d e f g h) (fun i=>jg i c (fun(j:Int) (l:Int) (m:Int) (n:Int) (o:SliceV)=>k i j l m n o)))
abbrev yi(a:Int)(b:Nat)(k:Prop):Prop:=((0:Int)≤a∧a≤((b:Nat):Int))∧k
abbrev Ms(a:SliceV)(b:ad)(k:ByteArray→Prop):Prop:=fQ 0 a.len∧∃c,a.a=some c∧∃d,cZ b (adr c ((0:Int).toNat*2)) 0 d∧k d
abbrev Kp(a:Addr)(b:SliceV)(k:Addr→Prop):Prop:=∃c,some (adr a ((ac .i64 ((b.len:Int)-1)).toNat*2))=some c∧k c
abbrev yh(a:ad)(b:ad)(c:Int)(d:Int)(e:Int)(f:Int)(g:Option Addr)(h:Option Addr)(k:Prop):Prop:=(aY a b 0 c∧aj a b 1 d∧aj a b 2 e∧aj a b 3 f∧aD a b 4 g∧aD a b 5 h)∧k
abbrev Gb(a:Int)(b:SliceV)(c:ad)(d:List Value)(k:ad→Prop):Prop:=jA a b (fun(e:Addr)=>DF c (adr e (a.toNat*2)) d (fun f=>k f))
abbrev AX(a:SliceV)(k:Prop):Prop:=((0:Int)≤(1:Int)∧(1:Int)≤((a.len:Nat):Int))∧k
abbrev D2(a:SliceV)(b:Int)(k:Nat→Nat→Prop):Prop:=Bd (a.len-(b.toNat):Nat) (fun(c:Nat)=>Bd (a.cap-(b.toNat):Nat) (fun(d:Nat)=>k c d))
abbrev vN(a:Option Addr)(b:ad)(k:Addr→Option Addr→Prop):Prop:=cH a (fun(c:Addr)=>∃d,dg b c 0 d∧k c d)
abbrev Oq(a:SliceV)(b:ad)(k:ByteArray→Prop):Prop:=fQ 0 a.len∧∃c,a.a=some c∧∃d,cZ b (adr c ((0:Int).toNat*2)) 1 d∧k d
abbrev AW(a:ByteArray)(k:UInt8→Prop):Prop:=∃b,(0:Int)≤(0:Int)∧a[(0:Int).toNat]? =some b∧k b
abbrev zD(a:Int)(b:SliceV)(c:ad)(k:Option Addr→Prop):Prop:=jA a b (fun(d:Addr)=>∃e,cB c d (a.toNat*1) (.pointer e)∧k e)
abbrev pn(a:Option Addr)(b:ad)(k:Addr→SliceV→Prop):Prop:=cH a (fun(c:Addr)=>∃d:SliceV,cg b c 3 d∧k c d)
abbrev D1(a:Option Addr)(b:ad)(c:Int)(k:Int→Prop):Prop:=cH a (fun(d:Addr)=>∃e:SliceV,cg b d 7 e∧jA c e (fun(f:Addr)=>∃g,dR b (adr f (c.toNat*2)) 1 g∧k g))
abbrev Ko(a:ad)(b:Addr)(k:Int→Prop):Prop:=fQ (2:Int) 4∧∃c,cB a b ((2:Int).toNat*1) (.int .u64 c)∧k c
abbrev sQ(a:Option Addr)(b:ad)(k:Addr→SliceV→Prop):Prop:=cH a (fun(c:Addr)=>∃d:SliceV,cg b c 0 d∧k c d)
abbrev Mr(a:Option Addr)(b:ad)(k:Addr→Int→Prop):Prop:=cH a (fun(c:Addr)=>fQ 0 4∧∃d,cB b c ((0:Int).toNat*1) (.int .u64 d)∧k c d)
abbrev Hg(a:ad)(b:ad)(c:Int)(d:Int)(e:Int)(f:Int)(g:SliceV)(k:Prop):Prop:=(aY a b 0 c∧aj a b 1 d∧aj a b 2 e∧aj a b 3 f∧dM a b 4 g)∧k
abbrev Q7(a:Int)(b:SliceV)(c:ad)(k:ad→Int→Prop):Prop:=jA a b (fun(d:Addr)=>∃e,dR c (adr d (a.toNat*2)) 0 e∧∃f:SliceV,cg c (adr d (a.toNat*2)) 1 f∧nv c IS 129 (MW e f) (fun g=>∃h,gn g c 0 h∧k g h))
abbrev Mq(a:Option Nat)(b:ad)(k:ad→Prop):Prop:=∃c:Nat,(a=none∧c=0∨∃r es,a=some r∧b[r]? =some (.map es c))∧At (Array.push b (.mapIter a c #[] c)) (fun d=>k d)
abbrev Oo(a:Option Addr)(b:ad)(k:Int→Prop):Prop:=cH a (fun(c:Addr)=>fQ (3:Int) 4∧∃d,cB b c ((3:Int).toNat*1) (.int .u64 d)∧k d)
abbrev Q6(a:SliceV)(b:Int)(c:Int)(k:Prop):Prop:=((0:Int)≤(a.len:Int)∧(a.len:Int)≤((a.cap:Nat):Int))∧((0:Int)≤b∧b≤(((a.len:Int).toNat:Nat):Int))∧((0:Int)≤c∧c≤((b.toNat:Nat):Int))∧k
abbrev D0(a:ad)(b:ad)(k:Int→Int→Int→Option Addr→ByteArray→Int→Prop):Prop:=mc a b (fun(c:Int) (d:Int) (e:Int)=>∃f,aD a b 3 f∧∃g,bi a b 4 g∧∃h,aj a b 5 h∧k c d e f g h)
abbrev Q5(a:SliceV)(b:SliceV)(k:Prop):Prop:=((0:Int)≤(a.len:Int)∧(a.len:Int)≤((b.cap:Nat):Int))∧((0:Int)≤(b.len:Int)∧(b.len:Int)≤(((a.len:Int).toNat:Nat):Int))∧k
abbrev Mp(a:Option Addr)(b:ad)(k:Int→Prop):Prop:=cH a (fun(c:Addr)=>∃d,aK b c=some (.int .u64 d)∧k d)
abbrev Mo(a:Int)(b:SliceV)(c:ad)(k:ByteArray→Int→Prop):Prop:=jA a b (fun(d:Addr)=>∃e,cZ c (adr d (a.toNat*2)) 0 e∧∃f,dR c (adr d (a.toNat*2)) 1 f∧k e f)
abbrev l7(a:ad)(b:T6)(k:ad→Prop):Prop:=At (hnew a (tf b) 53) (fun c=>k c)
abbrev Q3(a:SliceV)(b:SliceV)(c:Int)(k:Nat→Nat→Prop):Prop:=Bd (((ac .i64 ((a.len:Int)+(b.len:Int))).toNat)-0:Nat) (fun(d:Nat)=>Bd (a.cap-0:Nat) (fun(e:Nat)=>yi (ac .i64 (c+(b.len:Int))) d (k d e)))
abbrev Q2(a:Int)(k:Int→Prop):Prop:=Bd (ac .i64 ((ac .i64 ((ac .i64 (2*a))+1))+1):Int) (fun(b:Int)=>k b)
abbrev Vw(a:Int)(b:SliceV)(c:ad)(d:Value)(k:Int→ad→Prop):Prop:=Ot a b c (fun(e:ByteArray) (f:ByteArray) (g:ByteArray) (h:Bool) (i:Bool)=>Vx (ac .i64 (a-1)) b c (fun(j:ByteArray) (l:ByteArray) (m:ByteArray) (n:Bool) (o:Bool)=>HV PG d [KL e f g h i,KL j l m n o] wI (fun(p:Int) q=>k p q) c))
abbrev DZ(a:Option Addr)(b:ad)(c:ByteArray)(d:Int)(k:ad→Prop):Prop:=cH a (fun(e:Addr)=>∃f:Option Nat,cB b e 8 (.map f)∧∃g:Nat,f=some g∧uS (.str) b g∧At (lY b g (.string c) (.int .u32 d)) (fun h=>k h))
abbrev Q1(a:Int)(b:Int)(k:Int→Prop):Prop:=Bd (ac .i64 (a+(ac .i64 ((ac .i64 (2*b))+1))):Int) (fun(c:Int)=>k c)
abbrev Ga(a:Int)(b:ByteArray)(k:UInt8→Prop):Prop:=∃c,(0:Int)≤a∧b[a.toNat]? =some c∧k c
abbrev F9(a:Option Addr)(b:ad)(k:Addr→Option Addr→Prop):Prop:=cH a (fun(c:Addr)=>∃d,dg b c 1 d∧k c d)
abbrev Vv(a:Int)(b:SliceV)(c:SliceV)(k:Int→Prop):Prop:=mN a b (Bd (ac .i64 ((ac .i64 ((b.len:Int)+(c.len:Int)))-a):Int) (fun(d:Int)=>((0:Int)≤d∧d*((8:Nat):Int)≤2^48∧d≤9223372036854775807∧(((a.toNat-0)+d.toNat:Nat):Int)≤9223372036854775807)∧k d))
abbrev qs(a:ad)(b:Int)(k:ad→Prop):Prop:=At (hnew a [.int .u32 b] 31) (fun c=>k c)
abbrev TU(a:Option Addr)(b:ad)(k:Int→Prop):Prop:=cH a (fun(c:Addr)=>fQ 1 4∧∃d,cB b c ((1:Int).toNat*1) (.int .u64 d)∧k d)
abbrev fY(a:ad)(b:ad)(k:ByteArray→Prop):Prop:=∃c,bi a b 0 c∧k c
abbrev TT(a:Int)(b:SliceV)(c:ad)(d:Int)(k:ad→Prop):Prop:=Mu a b c (fun(e:ByteArray) (f:ByteArray)=>rY d b c (fun(g:ByteArray) (h:ByteArray)=>Gb d b c (kJ e f) (fun(i:ad)=>Gb a b i (kJ g h) (fun(j:ad)=>k j))))
abbrev TS(a:ad)(b:ad)(c:ad)(k:Bool→ad→Prop):Prop:=nh a b (fun(d:Int) (e:Int) (f:Int) (g:Int) (h:Option Addr) (i:Option Addr)=>nh a c (fun(j:Int) (l:Int) (m:Int) (n:Int) (o:Option Addr) (p:Option Addr)=>fI 65 [sM d e f g h i,sM j l m n o p] (fun(q:Bool) r=>k q r) a))
abbrev zC(a:Option Addr)(b:ad)(k:Addr→Int→Prop):Prop:=cH a (fun(c:Addr)=>∃d,dR b c 1 d∧k c d)
abbrev WM(a:ByteArray)(b:ByteArray)(k:ByteArray→Prop):Prop:=((0:Int)≤(if 30<(a.size:Int)then 30 else(a.size:Int))∧(if 30<(a.size:Int)then 30 else(a.size:Int))≤((b.size:Nat):Int))∧Bd (b.extract 0 ((if 30<(a.size:Int)then 30 else(a.size:Int)).toNat):ByteArray) (fun(c:ByteArray)=>k c)
abbrev TR(a:Int)(b:Int)(k:Int→Prop):Prop:=(4:Int)≠0∧Bd (ac .i64 ((ac .i64 (Int.tdiv (ac .i64 (a-b)) 4))*2):Int) (fun(c:Int)=>k c)
abbrev Q0(a:SliceV)(b:SliceV)(k:Nat→Prop):Prop:=Bd (((a.len:Int).toNat)-((b.len:Int).toNat):Nat) (fun(c:Nat)=>Bd (b.cap-((b.len:Int).toNat):Nat) (fun(d:Nat)=>k c))
abbrev QZ(a:ad)(b:Addr)(k:ByteArray→ByteArray→Bool→ByteArray→Bool→ByteArray→Bool→Prop):Prop:=Hf a b (fun(c:ByteArray) (d:ByteArray)=>∃e,gl a b 2 e∧∃f,cZ a b 3 f∧∃g,gl a b 4 g∧∃h,cZ a b 5 h∧∃i,gl a b 6 i∧k c d e f g h i)
abbrev xx(a:Option Addr)(b:ad)(k:Addr→SliceV→Prop):Prop:=cH a (fun(c:Addr)=>∃d:SliceV,cg b (adr c 0) 2 d∧k c d)
abbrev xw(a:Option Addr)(b:ad)(k:Addr→ByteArray→Prop):Prop:=cH a (fun(c:Addr)=>∃d,cZ b c 0 d∧k c d)
abbrev AV(a:Option Addr)(b:ad)(k:Addr→Option Nat→Prop):Prop:=cH a (fun(c:Addr)=>∃d:Option Nat,cB b c 0 (.map d)∧k c d)
abbrev wJ(a:Option Addr)(b:ad)(k:Option Addr→Prop):Prop:=cH a (fun(c:Addr)=>∃d,dg b c 5 d∧k d)
abbrev TQ(a:ad)(b:ad)(c:Int)(k:Int→Prop):Prop:=∃(d:Int) (e:Bool),jv (.int .u32) (.int .i64 0) a (some (Array.size b)) (.int .u32 c) (.int .i64 d) e∧k d
abbrev p8(a:ad)(b:ByteArray×ByteArray)(k:ad→Prop):Prop:=At (hnew a (yg b) 33) (fun c=>k c)
abbrev Vu(a:ad)(b:ad)(k:Int→ByteArray→ByteArray→Int→Int→Int→ByteArray→ByteArray→Bool→Int→Prop):Prop:=∃c,rG a b 0 c∧∃d,bi a b 1 d∧∃e,bi a b 2 e∧∃f,rG a b 3 f∧∃g,rG a b 4 g∧∃h,gn a b 5 h∧∃i,bi a b 6 i∧∃j,bi a b 7 j∧∃l,gI a b 8 l∧∃m,aY a b 9 m∧k c d e f g h i j l m
abbrev AU(a:ad)(b:ad)(c:ad)(k:Option Addr→ByteArray→ByteArray→Prop):Prop:=∃d,aD a b 3 d∧mF a c (fun(e:ByteArray) (f:ByteArray)=>k d e f)
abbrev Vt(a:SliceV)(b:ad)(k:Int→Int→Prop):Prop:=fQ 0 a.len∧∃c,a.a=some c∧∃d,cB b c ((0:Int).toNat*1) (.int .u32 d)∧fQ 1 a.len∧∃e,a.a=some e∧∃f,cB b e ((1:Int).toNat*1) (.int .u32 f)∧k d f
abbrev Vs(a:SliceV)(b:ad)(c:SliceV)(k:UInt8→ad→UInt8→Prop):Prop:=D4 a b (fun(d:Addr) (e:Option Addr)=>D4 c b (fun(f:Addr) (g:Option Addr)=>AD 253 [.pointer e] (fun(h:ByteArray) i=>cB i f ((0:Int).toNat*1) (.pointer g)∧AW h (fun(j:UInt8)=>AD 253 [.pointer g] (fun(l:ByteArray) m=>AW l (fun(n:UInt8)=>k j m n)) i)) b))
abbrev uR(a:Option Addr)(b:ad)(k:Addr→SliceV→Prop):Prop:=cH a (fun(c:Addr)=>∃d:SliceV,cg b c 7 d∧k c d)
abbrev Km(a:Option Addr)(b:ad)(k:Addr→Int→Prop):Prop:=cH a (fun(c:Addr)=>∃d,dR b (adr c 0) 0 d∧k c d)
abbrev Kl(a:Option Addr)(b:ad)(k:Addr→Int→Prop):Prop:=cH a (fun(c:Addr)=>∃d,dR b (adr c 0) 1 d∧k c d)
abbrev gS(b:Nat):Value:=.pointer (some ⟨b,0,none⟩)
theorem nN(an:Ann){f:FuncId}{fn:Func}{args:List Value}{ks:List Kind}{K:sW ks→ad→Prop}{h:ad}{p:Prop}(hf:PG.funcs[f]? =some fn) (hcall:∀(args:Array Value) (w:World),(callFunc f args).run PG w=.ok (.enter f args) w) (hp:p) (hb:fn.body=some (fn.body.getD .skip):=by rfl) (hl:vU args.length fn.ntmps=true:=by rfl) (e:p=E0 PG fn (fn.body.getD .skip) an args ks K h:=by kernel_rfl):HC PG f args ks K h:=HC.intro Tryz.mixed hf hb hcall (fV hl) (e▸hp)
theorem X2(an:Ann){f:FuncId}{fn:Func}{args:List Value}{ks:List Kind}{K:sW ks→ad→Prop}{h:ad}{p:Prop}(hf:PG.funcs[f]? =some fn) (hcall:∀(args:Array Value) (w:World),(callFunc f args).run PG w=.ok (.enter f args) w) (hp:p) (hb:fn.body=some (fn.body.getD .skip):=by rfl) (hl:vU args.length fn.ntmps=true:=by rfl) (e:p=Nd PG fn (fn.body.getD .skip) an args ks K h:=by kernel_rfl):HC PG f args ks K h:=HC.introM Tryz.mixed hf hb hcall (fV hl) (e▸hp)
theorem HEI(an:Ann){f:FuncId}{fn:Func}{args:List Value}{ks:List Kind}{K:sW ks→ad→Prop}{h:ad}{p:Prop}(hf:PG.funcs[f]? =some fn) (hcall:∀(args:Array Value) (w:World),(callFunc f args).run PG w=.ok (.enter f args) w) (hp:p) (hb:fn.body=some (fn.body.getD .skip):=by rfl) (hl:vU args.length fn.ntmps=true:=by rfl) (e:p=E0 PG fn (fn.body.getD .skip) an args ks K h:=by kernel_rfl):HE PG f args ks K h:=HE.intro Tryz.mixed hf hb hcall (fV hl) (e▸hp)
theorem cW{f:FuncId}{fn:Func}{args:List Value}{ks:List Kind}{K:sW ks→ad→Prop}{h:ad}(F:(sW ks→ad→Prop)→ad→Prop)(an:Ann)(hf:PG.funcs[f]? =some fn) (hcall:∀(args:Array Value) (w:World),(callFunc f args).run PG w=.ok (.enter f args) w) (hp:F K h) (hb:fn.body=some (fn.body.getD .skip):=by rfl) (hl:vU args.length fn.ntmps=true:=by rfl) (e:F K h=E0 PG fn (fn.body.getD .skip) an args ks K h:=by kernel_rfl):HC PG f args ks K h:=HC.intro Tryz.mixed hf hb hcall (fV hl) (e▸hp)
end Go.Proofs
