/- A part of the proof that the named laws of this program answer true, whatever the input. -/
import Derived.Test.YtceikogjngfacaaGreatProg
import Derived.Test.YtceikogjngfacaaGreatLift3
import Derived.KernelRfl
import Derived.Laws.Externs
set_option maxRecDepth 100000
set_option linter.unusedVariables false
open BitVec renaming ofInt→az
open Go.IntKind renaming wrap→ac,bits→aj
open List renaming rec→fP
open Nat renaming ble→xE,le_of_ble_eq_true→gO
namespace Go.Proofs
open Go.Lift
noncomputable abbrev PG:Program:=Tryz.prog
theorem Tryz.mixed:PG.follows .mixedOrders=true:=by kernel_rfl
theorem L7(args:Array Value)(w:World):(callFunc 167 args).run PG w=((Extern.MapsClone.clone args).run PG w).andThen fun v w=>.ok (.value v) w:=run_callFunc_extern (P:=PG) Tryz.func167 (by kernel_rfl) (by kernel_rfl) (by kernel_rfl) (by kernel_rfl) args w
theorem sL(args:Array Value)(w:World):(callFunc 284 args).run PG w=((Extern.SlicesOverlaps.overlaps #[143,143] #[4] args).run PG w).andThen fun v w=>.ok (.value v) w:=run_callFunc_extern (P:=PG) Tryz.func284 (by kernel_rfl) (by kernel_rfl) (by kernel_rfl) (by kernel_rfl) args w
theorem qU(args:Array Value)(w:World):(callFunc 286 args).run PG w=((Extern.SlicesOverlaps.overlaps #[308,308] #[4] args).run PG w).andThen fun v w=>.ok (.value v) w:=run_callFunc_extern (P:=PG) Tryz.func286 (by kernel_rfl) (by kernel_rfl) (by kernel_rfl) (by kernel_rfl) args w
noncomputable def nn(n:Nat)(a:Ann):Ann:=Nat.rec a (fun _ r=>.node .nil r) n
abbrev cg(h:ae)(a:Addr)(i:Nat)(v:Value):Prop:=bh h (adr a i)=some v
abbrev ji(i:Int)(n:Nat):Prop:=(0:Int)≤i∧i<(n:Int)
abbrev T6:=Int×Int×Int×Int×(Option Addr)×(Option Addr)
abbrev kd6:Kind:=.agg [.int .i64,.int .u64,.int .u64,.int .u64,.ptr,.ptr]
noncomputable def aa9(l:List Nat):Nat:=fP 0 (fun i _ s=>Nat.add (Nat.pow 2 i) s) l
noncomputable def dn(a f l:List Nat)(d n:Nat):DM:=.mk (aa9 a) (Nat.sub (Nat.sub (Nat.pow 2 n) 1) (aa9 f)) (aa9 l) (match d with|0=>0|d+1=>Nat.pow 2 d)
noncomputable def dm(a l:List Nat)(d n:Nat):DM:=dn a a l d n
noncomputable def dl(n:Nat)(l:List (Nat→DM)):List DM:=fP [] (fun f _ r=>f n::r) l
noncomputable def dTr(i n:Nat)(a:DA):DA:=Nat.rec (fun _=>a) (fun _ r i=>.take i (r (Nat.succ i))) n i
noncomputable def dTk(l:List Nat)(a:DA):DA:=fP a (fun i _ r=>.take i r) l
abbrev aR(h g:ae)(i:Nat)(v:Int):Prop:=bh h (adr (aJ g) i)=some (.int .i64 v)
abbrev au(h g:ae)(i:Nat)(v:Int):Prop:=bh h (adr (aJ g) i)=some (.int .u64 v)
abbrev du(h g:ae)(i:Nat)(v:Int):Prop:=bh h (adr (aJ g) i)=some (.int .u32 v)
abbrev cq(h g:ae)(i:Nat)(v:SliceV):Prop:=bh h (adr (aJ g) i)=some (.slice v.a v.len v.cap)
abbrev eP(h g:ae)(l:List Value)(k:ae→Prop):Prop:=xw h (some (aJ g)) 0 l∧At (iw h (aJ g) 0 l) k
abbrev nv(h:ae)(z:List Value)(t:TypeId)(l:List Value)(k:ae→Prop):Prop:=At (hnew h z t) fun g=>xw g (some (aJ h)) 0 l∧At (iw g (aJ h) 0 l) k
abbrev F9:List Value:= [.int .i64 0,.int .u64 0,.int .u64 0,.int .u64 0,.int .u32 0,.slice none 0 0,.slice none 0 0,.slice none 0 0,.int .i64 0,.slice none 0 0]
abbrev QN(x:Int×Int×Int×Int×Int×SliceV×SliceV×SliceV×Int×SliceV):List Value:= [.int .i64 x.1,.int .u64 x.2.1,.int .u64 x.2.2.1,.int .u64 x.2.2.2.1,.int .u32 x.2.2.2.2.1,.slice x.2.2.2.2.2.1.a x.2.2.2.2.2.1.len x.2.2.2.2.2.1.cap,.slice x.2.2.2.2.2.2.1.a x.2.2.2.2.2.2.1.len x.2.2.2.2.2.2.1.cap,.slice x.2.2.2.2.2.2.2.1.a x.2.2.2.2.2.2.2.1.len x.2.2.2.2.2.2.2.1.cap,.int .i64 x.2.2.2.2.2.2.2.2.1,.slice x.2.2.2.2.2.2.2.2.2.a x.2.2.2.2.2.2.2.2.2.len x.2.2.2.2.2.2.2.2.2.cap]
abbrev Zd(x0:SliceV)(x1:SliceV):List Value:= [.slice x0.a x0.len x0.cap,.slice x1.a x1.len x1.cap]
abbrev Yi(x0:Int)(x1:Int)(x2:Int)(x3:Int)(x4:Int)(x5:SliceV)(x6:SliceV)(x7:SliceV)(x8:Int)(x9:SliceV):Value:=.agg #[.int .i64 x0,.int .u64 x1,.int .u64 x2,.int .u64 x3,.int .u32 x4,.slice x5.a x5.len x5.cap,.slice x6.a x6.len x6.cap,.slice x7.a x7.len x7.cap,.int .i64 x8,.slice x9.a x9.len x9.cap]
abbrev aaX:List Kind:= [.c .ptr,.c (.int .i64)]
abbrev aaW:List Kind:= [.agg [.int .i64,.int .u64,.int .u64,.int .u64,.int .u32,.slice,.slice,.slice,.int .i64,.slice],.c (.int .i64)]
abbrev f5(f:FuncId)(a:List Value)(K:Bool→ae→Prop)(h:ae):Prop:=HC PG f a [.c .bool] K h
abbrev Hd(f:FuncId)(a:List Value)(K:((Option Addr)×Int)→ae→Prop)(h:ae):Prop:=HC PG f a aaX K h
abbrev hK2(f:FuncId)(a:List Value)(K:((Int×Int×Int×Int×Int×SliceV×SliceV×SliceV×Int×SliceV)×Int)→ae→Prop)(h:ae):Prop:=HC PG f a aaW K h
abbrev fU(f:FuncId)(a:List Value)(K:SliceV→ae→Prop)(h:ae):Prop:=HC PG f a [.c .slice] K h
abbrev zg2:Value:=.agg #[.int .u64 0,.int .u64 0,.int .u64 0]
abbrev vl3(x0:Int)(x1:Int)(x2:Int)(x3:Int)(x4:Int)(x5:Int)(x6:Int)(x7:Int):List Value:= [.int .u8 x0,.int .u8 x1,.int .u8 x2,.int .u8 x3,.int .u8 x4,.int .u8 x5,.int .u8 x6,.int .u8 x7]
abbrev dg(h:ae)(a:Addr)(i:Nat)(v:Int):Prop:=bh h (adr a i)=some (.int .i64 v)
abbrev db(h:ae)(a:Addr)(i:Nat)(v:Int):Prop:=bh h (adr a i)=some (.int .u64 v)
abbrev jO(h g:ae)(i:Nat)(v:Bool):Prop:=bh h (adr (aJ g) i)=some (.bool v)
abbrev vz(h:ae)(a:Addr)(l:List Value)(k:ae→Prop):Prop:=xw h (some a) 0 l∧At (iw h a 0 l) k
abbrev dy(h:ae)(a:Addr)(v:Value)(k:ae→Prop):Prop:=Wr h a∧At (hset h a v) k
abbrev Qy(x0:SliceV)(x1:Int)(x2:Int):List Value:= [.slice x0.a x0.len x0.cap,.int .i64 x1,.int .i64 x2]
abbrev Du(x0:Option Addr)(x1:Int):List Value:= [.pointer x0,.int .u64 x1]
abbrev Zk:List Value:= [.int .u32 0,.slice none 0 0,.int .i64 0,.int .u64 0,.int .u64 0,.int .u64 0,.slice none 0 0]
abbrev BR(x0:Int)(x1:Int)(x2:Int):Value:=.agg #[.int .u64 x0,.int .u64 x1,.int .u64 x2]
abbrev V7(x:Int×Int×Int×Int×SliceV):List Value:= [.int .i64 x.1,.int .u64 x.2.1,.int .u64 x.2.2.1,.int .u64 x.2.2.2.1,.slice x.2.2.2.2.a x.2.2.2.2.len x.2.2.2.2.cap]
abbrev aan(x0:Int)(x1:SliceV)(x2:Int)(x3:Int)(x4:Int)(x5:Int)(x6:SliceV):List Value:= [.int .u32 x0,.slice x1.a x1.len x1.cap,.int .i64 x2,.int .u64 x3,.int .u64 x4,.int .u64 x5,.slice x6.a x6.len x6.cap]
abbrev Zj:List Value:= [.int .i64 0,.bool false,.int .i64 0,.int .u64 0,.int .u64 0,.int .u64 0,.slice none 0 0]
abbrev aam(x0:Int)(x1:Bool)(x2:Int)(x3:Int)(x4:Int)(x5:Int)(x6:SliceV):List Value:= [.int .i64 x0,.bool x1,.int .i64 x2,.int .u64 x3,.int .u64 x4,.int .u64 x5,.slice x6.a x6.len x6.cap]
abbrev sq(x0:Option Addr)(x1:Int):List Value:= [.pointer x0,.int .i64 x1]
abbrev Zy(x0:Int)(x1:Int)(x2:Int)(x3:Int)(x4:Int)(x5:SliceV)(x6:SliceV)(x7:SliceV)(x8:Int)(x9:SliceV):List Value:= [.int .i64 x0,.int .u64 x1,.int .u64 x2,.int .u64 x3,.int .u32 x4,.slice x5.a x5.len x5.cap,.slice x6.a x6.len x6.cap,.slice x7.a x7.len x7.cap,.int .i64 x8,.slice x9.a x9.len x9.cap]
abbrev Zc(x0:Int)(x1:Int)(x2:Int):List Value:= [.int .u64 x0,.int .u64 x1,.int .u64 x2]
abbrev aaV:List Kind:= [.c (.int .u8)]
abbrev aaU:List Kind:= [.c (.int .u64)]
abbrev aaT:List Kind:= [.agg [.int .i64,.int .u64,.int .u64,.int .u64,.slice]]
abbrev nU:List Kind:= [.c (.int .i64)]
abbrev T5:=Int×Int×Int×Int×SliceV
abbrev V9(f:FuncId)(a:List Value)(K:Int→ae→Prop)(h:ae):Prop:=HC PG f a aaV K h
abbrev qu(f:FuncId)(a:List Value)(K:Int→ae→Prop)(h:ae):Prop:=HC PG f a aaU K h
abbrev aat(f:FuncId)(a:List Value)(K:T5→ae→Prop)(h:ae):Prop:=HC PG f a aaT K h
abbrev eJ(f:FuncId)(a:List Value)(K:Unit→ae→Prop)(h:ae):Prop:=HC PG f a [] K h
abbrev iI(f:FuncId)(a:List Value)(K:Int→ae→Prop)(h:ae):Prop:=HC PG f a nU K h
abbrev eS(h:ae)(a:Addr)(i:Nat)(v:Int):Prop:=bh h (adr a i)=some (.int .u32 v)
abbrev ce(h:ae)(a:Addr)(i:Nat)(v:Option Addr):Prop:=bh h (adr a i)=some (.pointer v)
abbrev jI(h:ae)(a:Addr)(i:Nat)(v:Bool):Prop:=bh h (adr a i)=some (.bool v)
abbrev cf(h:ae)(a:Addr)(i:Nat)(v:SliceV):Prop:=bh h (adr a i)=some (.slice v.a v.len v.cap)
abbrev Ye(x0:Int)(x1:Int)(x2:Int)(x3:Int)(x4:SliceV):Value:=.agg #[.int .i64 x0,.int .u64 x1,.int .u64 x2,.int .u64 x3,.slice x4.a x4.len x4.cap]
abbrev Yd(x0:Option Addr)(x1:SliceV)(x2:Bool):List Value:= [.pointer x0,.slice x1.a x1.len x1.cap,.bool x2]
abbrev pg0(x:Int×Int×Int×Int×Int×SliceV×SliceV×SliceV×Int×SliceV):Value:=.agg #[.int .i64 x.1,.int .u64 x.2.1,.int .u64 x.2.2.1,.int .u64 x.2.2.2.1,.int .u32 x.2.2.2.2.1,.slice x.2.2.2.2.2.1.a x.2.2.2.2.2.1.len x.2.2.2.2.2.1.cap,.slice x.2.2.2.2.2.2.1.a x.2.2.2.2.2.2.1.len x.2.2.2.2.2.2.1.cap,.slice x.2.2.2.2.2.2.2.1.a x.2.2.2.2.2.2.2.1.len x.2.2.2.2.2.2.2.1.cap,.int .i64 x.2.2.2.2.2.2.2.2.1,.slice x.2.2.2.2.2.2.2.2.2.a x.2.2.2.2.2.2.2.2.2.len x.2.2.2.2.2.2.2.2.2.cap]
abbrev aaS:List Kind:= [.agg [.int .i64,.int .u64,.int .u64,.int .u64,.int .u32,.slice,.slice,.slice,.int .i64,.slice]]
abbrev aaY(f:FuncId)(a:List Value)(K:(Int×Int×Int×Int×Int×SliceV×SliceV×SliceV×Int×SliceV)→ae→Prop)(h:ae):Prop:=HC PG f a aaS K h
abbrev aG(h g:ae)(i:Nat)(v:Option Addr):Prop:=bh h (adr (aJ g) i)=some (.pointer v)
abbrev Zo:List Value:= [.pointer none,.int .i64 0,.int .u64 0,.int .u64 0,.int .u64 0]
abbrev Zx(x0:Option Addr)(x1:Int)(x2:Int)(x3:Int)(x4:Int):List Value:= [.pointer x0,.int .i64 x1,.int .u64 x2,.int .u64 x3,.int .u64 x4]
abbrev oX(x0:Option Addr)(x1:Int)(x2:Int)(x3:Int)(x4:Int):Value:=.agg #[.pointer x0,.int .i64 x1,.int .u64 x2,.int .u64 x3,.int .u64 x4]
abbrev SG:List Kind:= [.c (.int .u32)]
abbrev fh(f:FuncId)(a:List Value)(K:(Option Addr)→ae→Prop)(h:ae):Prop:=HC PG f a [.c .ptr] K h
abbrev sI(f:FuncId)(a:List Value)(K:Int→ae→Prop)(h:ae):Prop:=HC PG f a SG K h
abbrev EL(x:Int×Int×Int):List Value:= [.int .u64 x.1,.int .u64 x.2.1,.int .u64 x.2.2]
abbrev aaL(x:Int×Int×Int):Value:=.agg #[.int .u64 x.1,.int .u64 x.2.1,.int .u64 x.2.2]
abbrev Dw(x0:SliceV)(x1:Int):List Value:= [.slice x0.a x0.len x0.cap,.int .i64 x1]
abbrev aaR:List Kind:= [.c (.int .u64),.c (.int .i64)]
abbrev YL(f:FuncId)(a:List Value)(K:(Int×Int)→ae→Prop)(h:ae):Prop:=HC PG f a aaR K h
abbrev cE(h g:ae)(i:Nat)(v:ByteArray):Prop:=bh h (adr (aJ g) i)=some (.string v)
abbrev XM:List Value:= [.int .i64 0,.int .u64 0,.int .u64 0,.int .u64 0,.slice none 0 0]
abbrev AU(x0:Option Addr)(x1:Int)(x2:Int):List Value:= [.pointer x0,.int .i64 x1,.int .i64 x2]
abbrev ja:List Value:= [.string (⟨#[]⟩:ByteArray),.string (⟨#[]⟩:ByteArray)]
abbrev iR(x0:ByteArray)(x1:ByteArray):List Value:= [.string x0,.string x1]
abbrev vl7(x0:Int)(x1:Int)(x2:Int)(x3:Int)(x4:SliceV):List Value:= [.int .i64 x0,.int .u64 x1,.int .u64 x2,.int .u64 x3,.slice x4.a x4.len x4.cap]
abbrev ym(f:FuncId)(a:List Value)(K:ByteArray→ae→Prop)(h:ae):Prop:=HC PG f a [.c .str] K h
abbrev Fk(x0:ByteArray)(x1:Int):List Value:= [.string x0,.int .u32 x1]
abbrev AS:List Value:= [.string (⟨#[]⟩:ByteArray),.int .u32 0]
abbrev Ru(x0:Option Addr)(x1:Int)(x2:SliceV):List Value:= [.pointer x0,.int .u32 x1,.slice x2.a x2.len x2.cap]
abbrev Wb:List Value:= [.int .u32 0,.int .i64 0,.int .u64 0,.int .u64 0,.int .u64 0,.slice none 0 0]
abbrev Wo(x0:Int)(x1:Int)(x2:Int)(x3:Int)(x4:Int)(x5:SliceV):List Value:= [.int .u32 x0,.int .i64 x1,.int .u64 x2,.int .u64 x3,.int .u64 x4,.slice x5.a x5.len x5.cap]
abbrev pg7(x:Int×Int×Int×Int×SliceV):Value:=.agg #[.int .i64 x.1,.int .u64 x.2.1,.int .u64 x.2.2.1,.int .u64 x.2.2.2.1,.slice x.2.2.2.2.a x.2.2.2.2.len x.2.2.2.2.cap]
abbrev fG(h:ae)(a:Addr)(i:Nat)(v:ByteArray):Prop:=bh h (adr a i)=some (.string v)
abbrev uk(x0:Option Addr)(x1:Int):List Value:= [.pointer x0,.int .u32 x1]
abbrev Zw(x0:Int)(x1:Int):List Value:= [.int .u8 x0,.int .u8 x1]
abbrev F8:List Value:= [.int .u32 0,.slice none 0 0,.int .i64 0,.int .u64 0,.int .u64 0,.int .u64 0,.pointer none,.pointer none]
abbrev MI(x0:Int)(x1:SliceV)(x2:Int)(x3:Int)(x4:Int)(x5:Int)(x6:Option Addr)(x7:Option Addr):List Value:= [.int .u32 x0,.slice x1.a x1.len x1.cap,.int .i64 x2,.int .u64 x3,.int .u64 x4,.int .u64 x5,.pointer x6,.pointer x7]
abbrev yj(x0:Int)(x1:Int)(x2:Int)(x3:Int)(x4:Option Addr)(x5:Option Addr):Value:=.agg #[.int .i64 x0,.int .u64 x1,.int .u64 x2,.int .u64 x3,.pointer x4,.pointer x5]
abbrev Fj(x0:Option Addr)(x1:SliceV):List Value:= [.pointer x0,.slice x1.a x1.len x1.cap]
abbrev Ir:List Value:= [.int .i64 0,.bool false,.int .i64 0,.int .u64 0,.int .u64 0,.int .u64 0,.pointer none,.pointer none]
abbrev MH(x0:Int)(x1:Bool)(x2:Int)(x3:Int)(x4:Int)(x5:Int)(x6:Option Addr)(x7:Option Addr):List Value:= [.int .i64 x0,.bool x1,.int .i64 x2,.int .u64 x3,.int .u64 x4,.int .u64 x5,.pointer x6,.pointer x7]
abbrev js:List Value:= [.int .i64 0,.int .u64 0,.int .u64 0,.int .u64 0,.pointer none,.pointer none]
abbrev jP(x:Int×Int×Int×Int×(Option Addr)×(Option Addr)):List Value:= [.int .i64 x.1,.int .u64 x.2.1,.int .u64 x.2.2.1,.int .u64 x.2.2.2.1,.pointer x.2.2.2.2.1,.pointer x.2.2.2.2.2]
abbrev aaQ:List Kind:= [.agg [.int .i64,.int .u64,.int .u64,.int .u64,.ptr,.ptr],.c (.int .i64)]
abbrev ZZ:List Kind:= [.agg [.int .i64,.int .u64,.int .u64,.int .u64,.ptr,.ptr]]
abbrev ZY:List Kind:= [.agg [.int .u64,.int .u64,.int .u64]]
abbrev yl(f:FuncId)(a:List Value)(K:((T6)×Int)→ae→Prop)(h:ae):Prop:=HC PG f a aaQ K h
abbrev IK(f:FuncId)(a:List Value)(K:Value→ae→Prop)(h:ae):Prop:=HC PG f a [.c .raw] K h
abbrev xn(f:FuncId)(a:List Value)(K:T6→ae→Prop)(h:ae):Prop:=HC PG f a ZZ K h
abbrev UV(f:FuncId)(a:List Value)(K:(Int×Int×Int)→ae→Prop)(h:ae):Prop:=HC PG f a ZY K h
abbrev Cg(x:(Option Addr)×Int×Int×Int×Int):List Value:= [.pointer x.1,.int .i64 x.2.1,.int .u64 x.2.2.1,.int .u64 x.2.2.2.1,.int .u64 x.2.2.2.2]
abbrev aaN(x:(Option Addr)×Int×Int×Int×Int):Value:=.agg #[.pointer x.1,.int .i64 x.2.1,.int .u64 x.2.2.1,.int .u64 x.2.2.2.1,.int .u64 x.2.2.2.2]
abbrev Uo(x:Int×SliceV×Int×Int×Int×Int×(Option Addr)×(Option Addr)):List Value:= [.int .u32 x.1,.slice x.2.1.a x.2.1.len x.2.1.cap,.int .i64 x.2.2.1,.int .u64 x.2.2.2.1,.int .u64 x.2.2.2.2.1,.int .u64 x.2.2.2.2.2.1,.pointer x.2.2.2.2.2.2.1,.pointer x.2.2.2.2.2.2.2]
abbrev ZX:List Kind:= [.agg [.int .u32,.slice,.int .i64,.int .u64,.int .u64,.int .u64,.ptr,.ptr]]
abbrev Z8(f:FuncId)(a:List Value)(K:(Int×SliceV×T6)→ae→Prop)(h:ae):Prop:=HC PG f a ZX K h
abbrev td(x0:Option Addr)(x1:Option Addr):List Value:= [.pointer x0,.pointer x1]
abbrev Pz(x:ByteArray×Int):List Value:= [.string x.1,.int .u32 x.2]
abbrev ZW:List Kind:= [.agg [.str,.int .u32]]
abbrev YK(f:FuncId)(a:List Value)(K:(ByteArray×Int)→ae→Prop)(h:ae):Prop:=HC PG f a ZW K h
abbrev Un(x:Int×Bool×Int×Int×Int×Int×(Option Addr)×(Option Addr)):List Value:= [.int .i64 x.1,.bool x.2.1,.int .i64 x.2.2.1,.int .u64 x.2.2.2.1,.int .u64 x.2.2.2.2.1,.int .u64 x.2.2.2.2.2.1,.pointer x.2.2.2.2.2.2.1,.pointer x.2.2.2.2.2.2.2]
abbrev ZV:List Kind:= [.agg [.int .i64,.bool,.int .i64,.int .u64,.int .u64,.int .u64,.ptr,.ptr]]
abbrev Z7(f:FuncId)(a:List Value)(K:(Int×Bool×T6)→ae→Prop)(h:ae):Prop:=HC PG f a ZV K h
abbrev aav(x0:Option Addr)(x1:ByteArray)(x2:Int):List Value:= [.pointer x0,.string x1,.int .u32 x2]
abbrev Sz(x:Int×Int×Int×Int×(Option Addr)×(Option Addr)):Value:=.agg #[.int .i64 x.1,.int .u64 x.2.1,.int .u64 x.2.2.1,.int .u64 x.2.2.2.1,.pointer x.2.2.2.2.1,.pointer x.2.2.2.2.2]
abbrev ZU:List Kind:= [.agg [.int .i64,.int .u64,.int .u64,.int .u64,.slice],.c (.int .i64)]
abbrev Z6(f:FuncId)(a:List Value)(K:((T5)×Int)→ae→Prop)(h:ae):Prop:=HC PG f a ZU K h
abbrev Rm:List Value:= [.int .u32 0,.slice none 0 0]
abbrev Wn(x0:Int)(x1:SliceV):List Value:= [.int .u32 x0,.slice x1.a x1.len x1.cap]
abbrev Wm(x0:SliceV)(x1:Int):List Value:= [.slice x0.a x0.len x0.cap,.int .u64 x1]
abbrev Wl(x0:Option Addr)(x1:ByteArray):List Value:= [.pointer x0,.string x1]
abbrev Yx(x:ByteArray×ByteArray×Bool):Value:=.agg #[.string x.1,.string x.2.1,.bool x.2.2]
abbrev ZT:List Kind:= [.agg [.str,.str,.bool]]
abbrev aa0(f:FuncId)(a:List Value)(K:(ByteArray×ByteArray×Bool)→ae→Prop)(h:ae):Prop:=HC PG f a ZT K h
abbrev Dv(x0:Int)(x1:Int)(x2:Int)(x3:Int)(x4:Option Addr)(x5:Option Addr):List Value:= [.int .i64 x0,.int .u64 x1,.int .u64 x2,.int .u64 x3,.pointer x4,.pointer x5]
abbrev zl2:List Value:= [.int .u64 0,.int .u64 0,.int .u64 0]
abbrev Zq:Value:=.agg #[.int .i64 0,.int .u64 0,.int .u64 0,.int .u64 0,.pointer none,.pointer none]
abbrev ZS:List Kind:= [.agg [.int .i64,.int .u64,.int .u64,.int .u64,.ptr,.ptr],.c .bool]
abbrev YJ(f:FuncId)(a:List Value)(K:((T6)×Bool)→ae→Prop)(h:ae):Prop:=HC PG f a ZS K h
abbrev Yg(x0:Int)(x1:SliceV)(x2:Int)(x3:Int)(x4:Int)(x5:Int)(x6:Option Addr)(x7:Option Addr):Value:=.agg #[.int .u32 x0,.slice x1.a x1.len x1.cap,.int .i64 x2,.int .u64 x3,.int .u64 x4,.int .u64 x5,.pointer x6,.pointer x7]
abbrev aaK(x:Int×SliceV×Int×Int×Int×Int×(Option Addr)×(Option Addr)):Value:=.agg #[.int .u32 x.1,.slice x.2.1.a x.2.1.len x.2.1.cap,.int .i64 x.2.2.1,.int .u64 x.2.2.2.1,.int .u64 x.2.2.2.2.1,.int .u64 x.2.2.2.2.2.1,.pointer x.2.2.2.2.2.2.1,.pointer x.2.2.2.2.2.2.2]
abbrev Yh(x0:ByteArray)(x1:Int):Value:=.agg #[.string x0,.int .u32 x1]
abbrev aaM(x:ByteArray×Int):Value:=.agg #[.string x.1,.int .u32 x.2]
abbrev Yf(x0:Int)(x1:Bool)(x2:Int)(x3:Int)(x4:Int)(x5:Int)(x6:Option Addr)(x7:Option Addr):Value:=.agg #[.int .i64 x0,.bool x1,.int .i64 x2,.int .u64 x3,.int .u64 x4,.int .u64 x5,.pointer x6,.pointer x7]
abbrev aaJ(x:Int×Bool×Int×Int×Int×Int×(Option Addr)×(Option Addr)):Value:=.agg #[.int .i64 x.1,.bool x.2.1,.int .i64 x.2.2.1,.int .u64 x.2.2.2.1,.int .u64 x.2.2.2.2.1,.int .u64 x.2.2.2.2.2.1,.pointer x.2.2.2.2.2.2.1,.pointer x.2.2.2.2.2.2.2]
abbrev Zu(x0:Option Addr)(x1:Option Addr)(x2:Int)(x3:Int)(x4:Int)(x5:Int)(x6:Option Addr)(x7:Option Addr):List Value:= [.pointer x0,.pointer x1,.int .i64 x2,.int .u64 x3,.int .u64 x4,.int .u64 x5,.pointer x6,.pointer x7]
abbrev Wj(x0:SliceV)(x1:ByteArray):List Value:= [.slice x0.a x0.len x0.cap,.string x1]
abbrev IB(x:ByteArray×ByteArray×Bool):List Value:= [.string x.1,.string x.2.1,.bool x.2.2]
abbrev MJ(x0:ByteArray)(x1:ByteArray)(x2:Bool):Value:=.agg #[.string x0,.string x1,.bool x2]
abbrev Zn:List Value:= [.string (⟨#[]⟩:ByteArray),.string (⟨#[]⟩:ByteArray),.bool false]
abbrev Zv(x0:ByteArray)(x1:ByteArray)(x2:Bool):List Value:= [.string x0,.string x1,.bool x2]
abbrev aaZ(f:FuncId)(a:List Value)(K:(Option Nat)→ae→Prop)(h:ae):Prop:=HC PG f a [.c .map] K h
abbrev Fi(x0:SliceV)(x1:Int)(x2:Int)(x3:Int):List Value:= [.slice x0.a x0.len x0.cap,.int .i64 x1,.int .i64 x2,.int .i64 x3]
abbrev Wi(x0:ByteArray)(x1:Bool)(x2:ByteArray)(x3:SliceV):List Value:= [.string x0,.bool x1,.string x2,.slice x3.a x3.len x3.cap]
abbrev Fh(x0:ByteArray)(x1:ByteArray)(x2:Int):List Value:= [.string x0,.string x1,.int .u64 x2]
abbrev Oz:List Value:= [.string (⟨#[]⟩:ByteArray),.string (⟨#[]⟩:ByteArray),.int .u64 0]
abbrev Zm:List Value:= [.string (⟨#[]⟩:ByteArray),.bool false,.string (⟨#[]⟩:ByteArray),.slice none 0 0,.pointer none]
abbrev vl39(x0:Int)(x1:Option Addr):List Value:= [.int .u32 x0,.pointer x1]
abbrev xj(x:ByteArray×ByteArray):List Value:= [.string x.1,.string x.2]
abbrev XZ:List Kind:= [.agg [.str,.str]]
abbrev pN(x0:ByteArray)(x1:ByteArray):Value:=.agg #[.string x0,.string x1]
abbrev ZR:List Kind:= [.agg [.str,.str],.c .bool]
abbrev Xe(f:FuncId)(a:List Value)(K:((ByteArray×ByteArray)×Bool)→ae→Prop)(h:ae):Prop:=HC PG f a ZR K h
abbrev Iw(x0:Option Addr)(x1:ByteArray)(x2:Bool):List Value:= [.pointer x0,.string x1,.bool x2]
abbrev Oy:List Value:= [.pointer none,.string (⟨#[]⟩:ByteArray),.bool false]
abbrev ZA(x0:Option Addr)(x1:ByteArray)(x2:Bool):Value:=.agg #[.pointer x0,.string x1,.bool x2]
abbrev ZQ:List Kind:= [.c .str,.c .bool]
abbrev YI(f:FuncId)(a:List Value)(K:(ByteArray×Bool)→ae→Prop)(h:ae):Prop:=HC PG f a ZQ K h
abbrev ZI(x:ByteArray×ByteArray):Value:=.agg #[.string x.1,.string x.2]
abbrev aar(x:SliceV×SliceV):List Value:= [.slice x.1.a x.1.len x.1.cap,.slice x.2.a x.2.len x.2.cap]
abbrev ZP:List Kind:= [.agg [.slice,.slice]]
abbrev UU(f:FuncId)(a:List Value)(K:(SliceV×SliceV)→ae→Prop)(h:ae):Prop:=HC PG f a ZP K h
abbrev Zp:List Value:= [.slice none 0 0,.slice none 0 0]
abbrev Gi(x0:Int)(x1:Int):List Value:= [.int .u32 x0,.int .u32 x1]
abbrev ZO:List Kind:= [.c (.int .i64),.c (.int .i64)]
abbrev ZN:List Kind:= [.c (.int .i64),.c .bool]
abbrev SO(f:FuncId)(a:List Value)(K:(Int×Int)→ae→Prop)(h:ae):Prop:=HC PG f a ZO K h
abbrev SN(f:FuncId)(a:List Value)(K:(Int×Bool)→ae→Prop)(h:ae):Prop:=HC PG f a ZN K h
abbrev OI(x0:Int)(x1:Int):List Value:= [.int .i64 x0,.int .i64 x1]
abbrev Zz(x0:Int)(x1:Int):Value:=.agg #[.int .u64 x0,.int .u64 x1]
abbrev vA(x0:ByteArray)(x1:ByteArray)(x2:Int):Value:=.agg #[.string x0,.string x1,.int .u64 x2]
abbrev TH(x0:Option Addr)(x1:Option Addr)(x2:Int)(x3:Option Addr):List Value:= [.pointer x0,.pointer x1,.int .i64 x2,.pointer x3]
abbrev Ty:List Value:= [.int .u32 0,.int .u32 0,.slice none 0 0,.slice none 0 0,.bool false,.pointer none]
abbrev ZG(x:(Option Addr)×ByteArray×Bool):List Value:= [.pointer x.1,.string x.2.1,.bool x.2.2]
abbrev pg41(x:(Option Addr)×ByteArray×Bool):Value:=.agg #[.pointer x.1,.string x.2.1,.bool x.2.2]
abbrev Wh(x0:SliceV)(x1:Int)(x2:Int)(x3:Int)(x4:Option Addr):List Value:= [.slice x0.a x0.len x0.cap,.int .i64 x1,.int .i64 x2,.int .i64 x3,.pointer x4]
abbrev Wg(x0:SliceV)(x1:Int)(x2:Option Addr):List Value:= [.slice x0.a x0.len x0.cap,.int .i64 x1,.pointer x2]
abbrev ZF(x:Int×Int):List Value:= [.int .u64 x.1,.int .u64 x.2]
abbrev Zl:List Value:= [.int .u64 0,.int .u64 0,.int .u64 0,.int .u64 0]
abbrev Zt(x0:Int)(x1:Int)(x2:Int)(x3:Int):List Value:= [.int .u64 x0,.int .u64 x1,.int .u64 x2,.int .u64 x3]
abbrev pg44(x:Int×Int):Value:=.agg #[.int .u64 x.1,.int .u64 x.2]
abbrev Py(x:ByteArray×ByteArray×Int):List Value:= [.string x.1,.string x.2.1,.int .u64 x.2.2]
abbrev K0(x0:Int)(x1:Int):List Value:= [.int .u64 x0,.int .i64 x1]
abbrev pg37(x:ByteArray×ByteArray×Int):Value:=.agg #[.string x.1,.string x.2.1,.int .u64 x.2.2]
abbrev uj(x0:Int)(x1:Int):List Value:= [.int .u32 x0,.int .i64 x1]
abbrev Zs(x0:Option Addr)(x1:Option Addr)(x2:Int):List Value:= [.pointer x0,.pointer x1,.int .i64 x2]
abbrev Wf(x0:SliceV)(x1:Int)(x2:Int)(x3:Option Addr):List Value:= [.slice x0.a x0.len x0.cap,.int .i64 x1,.int .i64 x2,.pointer x3]
abbrev Yc(x0:Int)(x1:Int)(x2:SliceV)(x3:SliceV)(x4:Bool)(x5:Option Addr):List Value:= [.int .u32 x0,.int .u32 x1,.slice x2.a x2.len x2.cap,.slice x3.a x3.len x3.cap,.bool x4,.pointer x5]
abbrev vl54(x0:SliceV)(x1:Int)(x2:SliceV):List Value:= [.slice x0.a x0.len x0.cap,.int .i64 x1,.slice x2.a x2.len x2.cap]
abbrev ic(a:Int)(b:SliceV)(k:Addr→Prop):Prop:=ji a b.len∧∃c,b.a=some c∧k c
abbrev uN(a:ae)(b:ae)(k:Int→Int→Int→Int→Option Addr→Option Addr→Prop):Prop:=∃c,aR a b 0 c∧∃d,au a b 1 d∧∃e,au a b 2 e∧∃f,au a b 3 f∧∃g,aG a b 4 g∧∃h,aG a b 5 h∧k c d e f g h
abbrev F7(a:Int)(b:SliceV)(c:ae)(d:Int)(k:ae→Prop):Prop:=ic a b (fun(e:Addr)=>∃f,cg c e (a.toNat*1) (.int .u32 f)∧ic d b (fun(g:Addr)=>∃h,cg c g (d.toNat*1) (.int .u32 h)∧ic d b (fun(i:Addr)=>dy c (adr i (d.toNat*1)) (.int .u32 f) (fun j=>ic a b (fun(l:Addr)=>dy j (adr l (a.toNat*1)) (.int .u32 h) (fun m=>k m))))))
abbrev MC(a:ae)(b:ae)(k:Int→Int→Int→Int→Int→SliceV→SliceV→SliceV→Int→SliceV→Prop):Prop:=∃c,aR a b 0 c∧∃d,au a b 1 d∧∃e,au a b 2 e∧∃f,au a b 3 f∧∃g,du a b 4 g∧∃h:SliceV,cq a b 5 h∧∃i:SliceV,cq a b 6 i∧∃j:SliceV,cq a b 7 j∧∃l,aR a b 8 l∧∃m:SliceV,cq a b 9 m∧k c d e f g h i j l m
abbrev dq(a:Option Addr)(k:Addr→Prop):Prop:=∃b,a=some b∧k b
abbrev Iq(a:Int)(b:SliceV)(c:ae)(d:Int)(k:Bool→ae→Prop):Prop:=ic a b (fun(e:Addr)=>∃f,cg c e (a.toNat*1) (.int .u32 f)∧ic d b (fun(g:Addr)=>∃h,cg c g (d.toNat*1) (.int .u32 h)∧f5 211 (Gi f h) (fun(i:Bool) j=>k i j) c))
abbrev MB(a:ae)(b:Addr)(k:Int→Int→Int→Int→Prop):Prop:=∃c,dg a b 0 c∧∃d,db a b 1 d∧∃e,db a b 2 e∧∃f,db a b 3 f∧k c d e f
abbrev CS(a:ae)(b:Addr)(k:ByteArray→ByteArray→Prop):Prop:=∃c,fG a b 0 c∧∃d,fG a b 1 d∧k c d
abbrev IU(a:ae)(b:ae)(k:Option Addr→Int→Int→Int→Int→Prop):Prop:=∃c,aG a b 0 c∧∃d,aR a b 1 d∧∃e,au a b 2 e∧∃f,au a b 3 f∧∃g,au a b 4 g∧k c d e f g
abbrev X7(a:Int)(b:SliceV)(c:ae)(k:ByteArray→ByteArray→Int→Prop):Prop:=ic a b (fun(d:Addr)=>∃e,cg c (adr d (a.toNat*3)) 0 (.string e)∧∃f,cg c (adr d (a.toNat*3)) 1 (.string f)∧∃g,cg c (adr d (a.toNat*3)) 2 (.int .u64 g)∧k e f g)
abbrev XG(a:Int)(k:UInt8→Prop):Prop:=∃b,(0:Int)≤a∧(⟨#[0,1,1,2,1,2,2,3,1,2,2,3,2,3,3,4,1,2,2,3,2,3,3,4,2,3,3,4,3,4,4,5,1,2,2,3,2,3,3,4,2,3,3,4,3,4,4,5,2,3,3,4,3,4,4,5,3,4,4,5,4,5,5,6,1,2,2,3,2,3,3,4,2,3,3,4,3,4,4,5,2,3,3,4,3,4,4,5,3,4,4,5,4,5,5,6,2,3,3,4,3,4,4,5,3,4,4,5,4,5,5,6,3,4,4,5,4,5,5,6,4,5,5,6,5,6,6,7,1,2,2,3,2,3,3,4,2,3,3,4,3,4,4,5,2,3,3,4,3,4,4,5,3,4,4,5,4,5,5,6,2,3,3,4,3,4,4,5,3,4,4,5,4,5,5,6,3,4,4,5,4,5,5,6,4,5,5,6,5,6,6,7,2,3,3,4,3,4,4,5,3,4,4,5,4,5,5,6,3,4,4,5,4,5,5,6,4,5,5,6,5,6,6,7,3,4,4,5,4,5,5,6,4,5,5,6,5,6,6,7,4,5,5,6,5,6,6,7,5,6,6,7,6,7,7,8]⟩:ByteArray)[a.toNat]? =some b∧k b
abbrev I0(a:ae)(b:Addr)(c:Int)(k:Int→Int→Int→Int→Option Addr→Option Addr→Prop):Prop:=∃d,dg a (adr b (c.toNat*8)) 2 d∧∃e,db a (adr b (c.toNat*8)) 3 e∧∃f,db a (adr b (c.toNat*8)) 4 f∧∃g,db a (adr b (c.toNat*8)) 5 g∧∃h,ce a (adr b (c.toNat*8)) 6 h∧∃i,ce a (adr b (c.toNat*8)) 7 i∧k d e f g h i
abbrev FG(a:Int)(b:SliceV)(c:ae)(k:Int→Prop):Prop:=ic a b (fun(d:Addr)=>∃e,cg c d (a.toNat*1) (.int .i64 e)∧k e)
abbrev FF(a:Int)(b:Int)(k:Int→Prop):Prop:=(0:Int)≤(1:Int)∧Bd (Int.fdiv (ac .u64 (ac .i64 (a+b))) (2^(min (1:Int).toNat (aj .u64))):Int) (fun(c:Int)=>k c)
abbrev vJ(a:ae)(b:Addr)(k:Int→Int→Int→Prop):Prop:=∃c,db a b 0 c∧∃d,db a b 1 d∧∃e,db a b 2 e∧k c d e
abbrev Oj(a:Int)(b:SliceV)(c:ae)(k:ByteArray→ByteArray→Prop):Prop:=ic a b (fun(d:Addr)=>∃e,cg c (adr d (a.toNat*2)) 0 (.string e)∧∃f,cg c (adr d (a.toNat*2)) 1 (.string f)∧k e f)
abbrev CU(a:Int)(b:SliceV)(c:ae)(k:ByteArray→ByteArray→Int→Prop):Prop:=ic a b (fun(d:Addr)=>CS c (adr d (a.toNat*3)) (fun(e:ByteArray) (f:ByteArray)=>∃g,db c (adr d (a.toNat*3)) 2 g∧k e f g))
abbrev Bw(a:Int)(b:Int)(k:Int→Prop):Prop:=Bd (ac .u64 (az (aj .u64) a^^^az (aj .u64) b).toNat:Int) (fun(c:Int)=>k c)
abbrev Bv(a:Int)(b:Int)(k:Int→Prop):Prop:=Bd (ac .u64 (az (aj .u64) a|||az (aj .u64) b).toNat:Int) (fun(c:Int)=>k c)
abbrev iP(a:Option Addr)(b:ae)(k:Addr→SliceV→Prop):Prop:=dq a (fun(c:Addr)=>∃d:SliceV,cf b c 0 d∧k c d)
abbrev iv(a:ae)(b:Addr)(c:SliceV)(k:ae→Prop):Prop:=dy a b (.slice c.a c.len c.cap) (fun d=>k d)
abbrev mH(a:Option Addr)(b:ae)(k:Addr→Option Addr→Prop):Prop:=dq a (fun(c:Addr)=>∃d,ce b c 0 d∧k c d)
abbrev FE(a:ae)(b:ae)(k:Int→Int→Int→Int→SliceV→Prop):Prop:=∃c,aR a b 0 c∧∃d,au a b 1 d∧∃e,au a b 2 e∧∃f,au a b 3 f∧∃g:SliceV,cq a b 4 g∧k c d e f g
abbrev Tl(a:Int)(b:SliceV)(c:ae)(d:Int)(k:ae→Prop):Prop:=FG a b c (fun(e:Int)=>FG d b c (fun(f:Int)=>ic d b (fun(g:Addr)=>dy c (adr g (d.toNat*1)) (.int .i64 e) (fun h=>ic a b (fun(i:Addr)=>dy h (adr i (a.toNat*1)) (.int .i64 f) (fun j=>k j))))))
abbrev j5(a:ae)(b:ae)(k:ByteArray→ByteArray→Prop):Prop:=∃c,cE a b 0 c∧∃d,cE a b 1 d∧k c d
abbrev sM(a:Int)(b:SliceV)(c:ae)(k:ByteArray→ByteArray→Prop):Prop:=ic a b (fun(d:Addr)=>CS c (adr d (a.toNat*2)) (fun(e:ByteArray) (f:ByteArray)=>k e f))
abbrev Bu(a:ae)(b:Addr)(k:Int→Int→Int→Int→Option Addr→Option Addr→Prop):Prop:=MB a b (fun(c:Int) (d:Int) (e:Int) (f:Int)=>∃g,ce a b 4 g∧∃h,ce a b 5 h∧k c d e f g h)
abbrev vI(a:Int)(b:SliceV)(c:ae)(k:Int→Prop):Prop:=ic a b (fun(d:Addr)=>∃e,cg c d (a.toNat*1) (.int .u8 e)∧k e)
abbrev pR(a:ae)(b:ae)(k:Int→Int→Int→Prop):Prop:=∃c,au a b 0 c∧∃d,au a b 1 d∧∃e,au a b 2 e∧k c d e
abbrev pq(a:Int)(b:SliceV)(k:Prop):Prop:=((0:Int)≤a∧a≤((b.cap:Nat):Int))∧k
abbrev pQ(a:Int)(b:SliceV)(k:Prop):Prop:=((0:Int)≤a∧a≤((b.len:Nat):Int))∧k
abbrev Mc(a:Addr)(b:SliceV)(k:Addr→Prop):Prop:=∃c,some (adr a ((ac .i64 ((b.len:Int)-1)).toNat*2))=some c∧k c
abbrev pP(a:Option Addr)(b:ae)(k:Int→Prop):Prop:=dq a (fun(c:Addr)=>∃d,dg b c 1 d∧k d)
abbrev IZ(a:Int)(b:SliceV)(c:ae)(d:List Value)(k:ae→Prop):Prop:=ic a b (fun(e:Addr)=>vz c (adr e (a.toNat*3)) d (fun f=>k f))
abbrev HL(a:Int)(b:SliceV)(c:ae)(d:List Value)(k:ae→Prop):Prop:=ic a b (fun(e:Addr)=>vz c (adr e (a.toNat*2)) d (fun f=>k f))
abbrev Mb(a:ae)(b:ae)(k:Int→Int→Int→Int→Prop):Prop:=∃c,aR a b 2 c∧∃d,au a b 3 d∧∃e,au a b 4 e∧∃f,au a b 5 f∧k c d e f
abbrev IY(a:ae)(b:ae)(c:Int)(d:Int)(e:Int)(f:Int)(g:Option Addr)(h:Option Addr)(k:Prop):Prop:=(aR a b 0 c∧au a b 1 d∧au a b 2 e∧au a b 3 f∧aG a b 4 g∧aG a b 5 h)∧k
abbrev XF(a:ae)(b:Addr)(c:Int)(k:Int→Int→Int→Int→Option Addr→Option Addr→Prop):Prop:=∃d,cg a (adr b ((ac .i64 (c-1)).toNat*8)) 2 (.int .i64 d)∧∃e,cg a (adr b ((ac .i64 (c-1)).toNat*8)) 3 (.int .u64 e)∧∃f,cg a (adr b ((ac .i64 (c-1)).toNat*8)) 4 (.int .u64 f)∧∃g,cg a (adr b ((ac .i64 (c-1)).toNat*8)) 5 (.int .u64 g)∧∃h,cg a (adr b ((ac .i64 (c-1)).toNat*8)) 6 (.pointer h)∧∃i,cg a (adr b ((ac .i64 (c-1)).toNat*8)) 7 (.pointer i)∧k d e f g h i
abbrev FC(a:Int)(b:SliceV)(c:ae)(k:Addr→ByteArray→Prop):Prop:=ic a b (fun(d:Addr)=>∃e,cg c (adr d (a.toNat*2)) 0 (.string e)∧k d e)
abbrev IX(a:Nat)(b:Int)(c:SliceV)(k:Nat→Prop):Prop:=Bd (a-((ac .i64 (b+(c.len:Int))).toNat):Nat) (fun(d:Nat)=>k d)
abbrev Ma(a:ae)(b:Addr)(k:Int→Prop):Prop:=ji (2:Int) 4∧∃c,cg a b ((2:Int).toNat*1) (.int .u64 c)∧k c
abbrev Aj(a:ae)(b:Addr)(k:SliceV→Prop):Prop:=∃c:SliceV,bh a b=some (.slice c.a c.len c.cap)∧k c
abbrev Oi(a:Option Addr)(b:ae)(k:Addr→Int→Prop):Prop:=dq a (fun(c:Addr)=>ji 0 4∧∃d,cg b c ((0:Int).toNat*1) (.int .u64 d)∧k c d)
abbrev yU(a:SliceV)(k:Addr→Prop):Prop:=ji 0 a.len∧∃b,a.a=some b∧k b
abbrev Eb(a:Int)(b:SliceV)(c:ae)(k:Int→Prop):Prop:=ic a b (fun(d:Addr)=>∃e,cg c d (a.toNat*1) (.int .u32 e)∧k e)
abbrev Qf(a:Option Addr)(b:ae)(k:Int→Prop):Prop:=dq a (fun(c:Addr)=>ji (3:Int) 4∧∃d,cg b c ((3:Int).toNat*1) (.int .u64 d)∧k d)
abbrev FB(a:Int)(b:Nat)(k:Prop):Prop:=((0:Int)≤a∧a≤((b:Nat):Int))∧k
abbrev Bs(a:Int)(b:ByteArray)(k:UInt8→Prop):Prop:=∃c,(0:Int)≤a∧b[a.toNat]? =some c∧k c
abbrev Oh(a:Option Addr)(b:ae)(k:Int→Prop):Prop:=dq a (fun(c:Addr)=>∃d,bh b c=some (.int .u64 d)∧k d)
abbrev Og(a:ae)(b:Addr)(k:Option Addr→Int→Int→Int→Int→Prop):Prop:=∃c,ce a b 0 c∧∃d,dg a b 1 d∧∃e,db a b 2 e∧∃f,db a b 3 f∧∃g,db a b 4 g∧k c d e f g
abbrev XE(a:ae)(b:Addr)(c:Int)(d:Int)(e:Int)(f:Int)(g:Option Addr)(h:Option Addr)(k:Prop):Prop:=(cg a b 0 (.int .i64 c)∧cg a b 1 (.int .u64 d)∧cg a b 2 (.int .u64 e)∧cg a b 3 (.int .u64 f)∧cg a b 4 (.pointer g)∧cg a b 5 (.pointer h))∧k
abbrev Tk(a:Int)(k:Int→Prop):Prop:=Bd (ac .i64 ((ac .i64 ((ac .i64 (2*a))+1))+1):Int) (fun(b:Int)=>k b)
abbrev Y8(a:ae)(b:ae)(c:Option Addr)(k:Bool→ae→Prop):Prop:=MB a (adr (aJ b) 2) (fun(d:Int) (e:Int) (f:Int) (g:Int)=>∃h:SliceV,cf a (adr (aJ b) 2) 4 h∧mH c a (fun(i:Addr) (j:Option Addr)=>dq j (fun(l:Addr)=>MB a (adr l 0) (fun(m:Int) (n:Int) (o:Int) (p:Int)=>∃q:SliceV,cf a (adr l 0) 4 q∧f5 25 [Ye d e f g h,Ye m n o p q] (fun(r:Bool) s=>ce s i 0 j∧k r s) a))))
abbrev XD(a:ae)(b:Addr)(c:ae)(k:ae→Prop):Prop:=MB a b (fun(d:Int) (e:Int) (f:Int) (g:Int)=>∃h,eS a b 4 h∧∃i:SliceV,cf a b 5 i∧∃j:SliceV,cf a b 6 j∧∃l:SliceV,cf a b 7 l∧∃m,dg a b 8 m∧∃n:SliceV,cf a b 9 n∧eP a c (Zy d e f g h i j l m n) (fun o=>k o))
abbrev Of(a:SliceV)(b:Int)(k:Nat→Nat→Prop):Prop:=Bd (a.len-(b.toNat):Nat) (fun(c:Nat)=>Bd (a.cap-(b.toNat):Nat) (fun(d:Nat)=>k c d))
abbrev xx(a:ae)(b:Addr)(k:Int→Prop):Prop:=∃c,bh a b=some (.int .i64 c)∧k c
abbrev Tj(a:Int)(b:Int)(k:Int→Prop):Prop:=Bd (ac .i64 (a+(ac .i64 ((ac .i64 (2*b))+1))):Int) (fun(c:Int)=>k c)
abbrev VR(a:Int)(b:SliceV)(c:ae)(d:Int)(k:ae→Prop):Prop:=X7 a b c (fun(e:ByteArray) (f:ByteArray) (g:Int)=>CU d b c (fun(h:ByteArray) (i:ByteArray) (j:Int)=>IZ d b c (Fh e f g) (fun(l:ae)=>IZ a b l (Fh h i j) (fun(m:ae)=>k m))))
abbrev L9(a:ae)(b:ae)(c:ae)(k:ae→Int→Int→Int→Int→Option Addr→Option Addr→Prop):Prop:=uN a b (fun(d:Int) (e:Int) (f:Int) (g:Int) (h:Option Addr) (i:Option Addr)=>eP a c (Dv d e f g h i) (fun j=>uN j c (fun(l:Int) (m:Int) (n:Int) (o:Int) (p:Option Addr) (q:Option Addr)=>k j l m n o p q)))
abbrev Qe(a:Int)(b:SliceV)(c:ae)(k:Addr→ByteArray→Int→Prop):Prop:=ic a b (fun(d:Addr)=>∃e,fG c (adr d (a.toNat*2)) 0 e∧∃f,eS c (adr d (a.toNat*2)) 1 f∧k d e f)
abbrev VQ(a:Option Addr)(b:ae)(k:Int→Prop):Prop:=dq a (fun(c:Addr)=>ji 1 4∧∃d,cg b c ((1:Int).toNat*1) (.int .u64 d)∧k d)
abbrev kR(a:ae)(b:ae)(k:Int→Prop):Prop:=∃c,aR a b 0 c∧k c
abbrev VP(a:Int)(b:SliceV)(c:ae)(d:Int)(k:ae→Prop):Prop:=Oj a b c (fun(e:ByteArray) (f:ByteArray)=>sM d b c (fun(g:ByteArray) (h:ByteArray)=>HL d b c (iR e f) (fun(i:ae)=>HL a b i (iR g h) (fun(j:ae)=>k j))))
abbrev Ti(a:Option Nat)(b:ae)(k:ae→Prop):Prop:=∃c:Nat,(a=none∧c=0∨∃r es,a=some r∧b[r]? =some (.map es c))∧At (Array.push b (.mapIter a c #[] c)) (fun d=>k d)
abbrev VO(a:Int)(b:Int)(k:Int→Prop):Prop:=(4:Int)≠0∧Bd (ac .i64 ((ac .i64 (Int.tdiv (ac .i64 (a-b)) 4))*2):Int) (fun(c:Int)=>k c)
abbrev Th(a:Int)(b:Int)(c:Int)(k:Int→Prop):Prop:=Bd (ac .i64 ((ac .i64 ((ac .i64 a)+b))-c):Int) (fun(d:Int)=>k d)
abbrev Y7(a:ae)(b:Addr)(k:Int→Int→Int→Int→Option Addr→Option Addr→Prop):Prop:=∃c,cg a b 0 (.int .i64 c)∧∃d,cg a b 1 (.int .u64 d)∧∃e,cg a b 2 (.int .u64 e)∧∃f,cg a b 3 (.int .u64 f)∧∃g,cg a b 4 (.pointer g)∧∃h,cg a b 5 (.pointer h)∧k c d e f g h
abbrev CT(a:ae)(k:Addr→Prop):Prop:=∃b,some (aJ a)=some b∧k b
abbrev Oe(a:SliceV)(b:ae)(k:Addr→ByteArray→Prop):Prop:=yU a (fun(c:Addr)=>∃d,fG b (adr c ((0:Int).toNat*2)) 0 d∧k c d)
abbrev XC(a:Int)(b:SliceV)(c:ae)(k:ae→Prop):Prop:=ic a b (fun(d:Addr)=>∃e,dg c (adr d (a.toNat*8)) 0 e∧∃f,jI c (adr d (a.toNat*8)) 1 f∧I0 c d a (fun(g:Int) (h:Int) (i:Int) (j:Int) (l:Option Addr) (m:Option Addr)=>nv c Ir 110 (MH e f g h i j l m) (fun n=>k n)))
abbrev Tg(a:ae)(b:Int)(c:ae)(k:ae→Prop):Prop:=eJ 56 (Du (some (aJ a)) (ac .u64 b)) (fun(d:Unit) e=>k e) c
abbrev IW(a:ae)(b:Addr)(k:Int→SliceV→Prop):Prop:=∃c,eS a b 0 c∧∃d:SliceV,cf a b 1 d∧k c d
abbrev Y6(a:ae)(b:Addr)(c:Int)(k:Int→Int→Int→Int→SliceV→Prop):Prop:=∃d,dg a (adr b (c.toNat*7)) 2 d∧∃e,db a (adr b (c.toNat*7)) 3 e∧∃f,db a (adr b (c.toNat*7)) 4 f∧∃g,db a (adr b (c.toNat*7)) 5 g∧∃h:SliceV,cf a (adr b (c.toNat*7)) 6 h∧k d e f g h
abbrev Ai(a:Option Addr)(b:ae)(k:Addr→Int→Prop):Prop:=dq a (fun(c:Addr)=>∃d,eS b c 1 d∧k c d)
abbrev L8(a:Option Addr)(b:ae)(k:ae→Prop):Prop:=dq a (fun(c:Addr)=>dy b (adr c 2) (.int .i64 9) (fun d=>k d))
abbrev IV(a:ae)(b:Addr)(c:SliceV)(k:ae→Prop):Prop:=Wr a b∧At (hset a b (.slice c.a c.len c.cap)) (fun d=>k d)
abbrev yn(a:Option Addr)(b:ae)(k:Addr→Int→Prop):Prop:=dq a (fun(c:Addr)=>∃d,dg b c 2 d∧k c d)
abbrev FA(a:Option Addr)(b:ae)(c:Int)(k:ae→Prop):Prop:=dq a (fun(d:Addr)=>dy b (adr d 1) (.int .i64 c) (fun e=>k e))
abbrev XB(a:SliceV)(b:Int)(c:Int)(k:Prop):Prop:=((0:Int)≤(a.len:Int)∧(a.len:Int)≤((a.cap:Nat):Int))∧((0:Int)≤b∧b≤(((a.len:Int).toNat:Nat):Int))∧((0:Int)≤c∧c≤((b.toNat:Nat):Int))∧k
abbrev Od(a:ae)(b:Addr)(c:ae)(k:ae→Prop):Prop:=Bu a b (fun(d:Int) (e:Int) (f:Int) (g:Int) (h:Option Addr) (i:Option Addr)=>eP a c (Dv d e f g h i) (fun j=>k j))
abbrev XA(a:Int)(b:SliceV)(c:ae)(k:Bool→ae→Prop):Prop:=FG a b c (fun(d:Int)=>FG (ac .i64 (a-1)) b c (fun(e:Int)=>f5 178 (OI d e) (fun(f:Bool) g=>k f g) c))
abbrev gF(b:Nat):Value:=.pointer (some ⟨b,0,none⟩)
theorem kD(an:Ann){f:FuncId}{fn:Func}{args:List Value}{ks:List Kind}{K:uO ks→ae→Prop}{h:ae}{p:Prop}(hf:PG.funcs[f]? =some fn) (hcall:∀(args:Array Value) (w:World),(callFunc f args).run PG w=.ok (.enter f args) w) (hp:p) (hb:fn.body=some (fn.body.getD .skip):=by rfl) (hl:xE args.length fn.ntmps=true:=by rfl) (e:p=Gv PG fn (fn.body.getD .skip) an args ks K h:=by kernel_rfl):HC PG f args ks K h:=HC.intro Tryz.mixed hf hb hcall (gO hl) (e▸hp)
theorem Zb(an:Ann){f:FuncId}{fn:Func}{args:List Value}{ks:List Kind}{K:uO ks→ae→Prop}{h:ae}{p:Prop}(hf:PG.funcs[f]? =some fn) (hcall:∀(args:Array Value) (w:World),(callFunc f args).run PG w=.ok (.enter f args) w) (hp:p) (hb:fn.body=some (fn.body.getD .skip):=by rfl) (hl:xE args.length fn.ntmps=true:=by rfl) (e:p=O3 PG fn (fn.body.getD .skip) an args ks K h:=by kernel_rfl):HC PG f args ks K h:=HC.introM Tryz.mixed hf hb hcall (gO hl) (e▸hp)
theorem XK(an:Ann){f:FuncId}{fn:Func}{args:List Value}{ks:List Kind}{K:uO ks→ae→Prop}{h:ae}{p:Prop}(hf:PG.funcs[f]? =some fn) (hcall:∀(args:Array Value) (w:World),(callFunc f args).run PG w=.ok (.enter f args) w) (hp:p) (hb:fn.body=some (fn.body.getD .skip):=by rfl) (hl:xE args.length fn.ntmps=true:=by rfl) (e:p=Gv PG fn (fn.body.getD .skip) an args ks K h:=by kernel_rfl):HE PG f args ks K h:=HE.intro Tryz.mixed hf hb hcall (gO hl) (e▸hp)
theorem eM{f:FuncId}{fn:Func}{args:List Value}{ks:List Kind}{K:uO ks→ae→Prop}{h:ae}(F:(uO ks→ae→Prop)→ae→Prop)(an:Ann)(hf:PG.funcs[f]? =some fn) (hcall:∀(args:Array Value) (w:World),(callFunc f args).run PG w=.ok (.enter f args) w) (hp:F K h) (hb:fn.body=some (fn.body.getD .skip):=by rfl) (hl:xE args.length fn.ntmps=true:=by rfl) (e:F K h=Gv PG fn (fn.body.getD .skip) an args ks K h:=by kernel_rfl):HC PG f args ks K h:=HC.intro Tryz.mixed hf hb hcall (gO hl) (e▸hp)
end Go.Proofs
