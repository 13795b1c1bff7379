/- A part of the proof that the named laws of this program answer true, whatever the input. -/
import Derived.OrdersIn
import Derived.Below
import Derived.WalkKit
import Derived.RangeFuncRecord
import Derived.DefersIn
open BitVec renaming ofInt→ah
open Iff renaming rfl→ut
open List renaming rec→fq,replicate→dE,length_cons→aN
open Nat renaming succ→fJ,beq→bF,ble→uo,min→dL,blt→wm,land→iP,lor→cO,pred→vL,eq_of_beq_eq_true→aZ
open Option renaming some→bv
namespace Go.Lift
abbrev ad:=Array Obj
def aM(h:ad)(a:Addr):Option Value:=
 match h[a.block]? with
 |some (.cells c _ _)=>if a.spot.isSome then none else c[a.off]?
 |_=>none
def B8(h:ad)(a:Addr):Bool:=
 match h[a.block]? with
 |some (.cells _ _ (lo,hi))=>lo≤a.off&&a.off<hi
 |_=>false
def hset(h:ad)(a:Addr)(v:Value):ad:=
 h.modify a.block fun
  | .cells c elem frozen=>.cells (if a.spot.isSome then c else c.setIfInBounds a.off v) elem frozen
  |o=>o
noncomputable def adr(a:Addr)(n:Nat):Addr:=Nat.rec (motive:=fun _=>Addr) a (fun n _=>⟨a.block,a.off+fJ n,none⟩) n
def Wr(h:ad)(a:Addr):Prop:=(∃v,aM h a=some v)∧B8 h a=false
structure Tame(w w':World):Prop where
 os:w'.os=w.os
 tape:w'.tape=w.tape
 output:w'.output=w.output
structure SliceV where
 a:Option Addr
 len:Nat
 cap:Nat
def Gw:IntKind→IntKind→Bool
 | .i8,.i8=>true| .i16,.i16=>true| .i32,.i32=>true| .i64,.i64=>true
 | .u8,.u8=>true| .u16,.u16=>true| .u32,.u32=>true| .u64,.u64=>true
 |_,_=>false
inductive CK where
 |int (k:IntKind)|bool|str|ptr|slice|map|chan|raw|adr
def CK.den:CK→Type
 | .int _=>Int| .bool=>Bool| .str=>ByteArray| .ptr=>Option Addr| .slice=>SliceV| .map=>Option Nat| .chan=>Option Nat| .raw=>Value| .adr=>Addr
def CK.enc:(c:CK)→c.den→Value
 | .int k,n=>.int k n
 | .bool,b=>.bool b
 | .str,s=>.string s
 | .ptr,p=>.pointer p
 | .slice,s=>.slice s.a s.len s.cap
 | .map,r=>.map r
 | .chan,r=>.chan r
 | .raw,v=>v
 | .adr,a=>.pointer (some a)
def CK.dec:(c:CK)→Value→(c.den→Prop)→Prop
 | .int k,.int k' n,f=>bif Gw k' k then f n else False
 | .bool,.bool b,f=>f b
 | .str,.string s,f=>f s
 | .ptr,.pointer p,f=>f p
 | .slice,.slice a l c,f=>f ⟨a,l,c⟩
 | .map,.map r,f=>f r
 | .chan,.chan r,f=>f r
 | .raw,v,f=>f v
 | .adr,.pointer (some a),f=>f a
 |_,_,_=>False
def P6:List CK→Type
 | []=>Unit
 | [c]=>c.den
 |c::d::cs=>c.den×P6 (d::cs)
def PJ:(cs:List CK)→P6 cs→List Value
 | [],_=> []
 | [c],x=> [c.enc x]
 |c::d::cs,(x,t)=>c.enc x::PJ (d::cs) t
def Mr:(cs:List CK)→List Value→(P6 cs→Prop)→Prop
 | [],[],f=>f ()
 | [c],[v],f=>c.dec v f
 |c::d::cs,v::u::vs,f=>c.dec v fun x=>Mr (d::cs) (u::vs) fun t=>f (x,t)
 |_,_,_=>False
inductive Kind where
 |c (k:CK)
 |agg (cs:List CK)
def Kind.den:Kind→Type
 | .c k=>k.den
 | .agg cs=>P6 cs
def Kind.enc:(k:Kind)→k.den→Value
 | .c k,x=>k.enc x
 | .agg cs,t=>.agg (PJ cs t).toArray
def Kind.dec:(k:Kind)→Value→(k.den→Prop)→Prop
 | .c k,v,f=>k.dec v f
 | .agg cs,.agg vs,f=>Mr cs vs.toList f
 |_,_,_=>False
def sU:List Kind→Type
 | []=>Unit
 | [k]=>k.den
 |k::l::ks=>k.den×sU (l::ks)
def me:(ks:List Kind)→sU ks→List Value
 | [],_=> []
 | [k],x=> [k.enc x]
 |k::l::ks,(x,t)=>k.enc x::me (l::ks) t
def BL:(ks:List Kind)→List Value→(sU ks→Prop)→Prop
 | [],[],f=>f ()
 | [k],[v],f=>k.dec v f
 |k::l::ks,v::u::vs,f=>k.dec v fun x=>BL (l::ks) (u::vs) fun t=>f (x,t)
 |_,_,_=>False
def BF(ks:List Kind)(vs:List Value):Value:=
 match ks,vs with
 | [_],[v]=>v
 |_,vs=>.tuple vs.toArray
def SX:Value→Option CK
 | .int k _=>some (.int k)
 | .bool _=>some .bool
 | .string _=>some .str
 | .pointer _=>some .ptr
 | .slice .. =>some .slice
 | .map _=>some .map
 | .chan _=>some .chan
 | .nilFunc=>some .raw
 | .nilIface=>some .raw
 |_=>none
def Dl:List Value→Option (List CK)
 | []=>some []
 |v::vs=>match SX v,Dl vs with
  |some c,some cs=>some (c::cs)
  |_,_=>none
def ul(P:Program)(t:TypeId):Bool:=
 match P.underlying t with
 |some (.struct _)|some (.array _ _)=>true
 |_=>false
def bS(P:Program)(t:TypeId):Nat:=match P.info? t with|some i=>i.size|none=>0
def pE(P:Program)(t:TypeId):Nat:=match P.info? t with|some i=>i.bytes|none=>0
def wG(P:Program)(t:TypeId):Option Value:=match P.info? t with|some i=>i.zero|none=>none
def L4(P:Program)(t:TypeId):Option Kind:=
 match wG P t with
 |some (.agg vs)=>bif ul P t&&bF vs.toList.length (bS P t)then(match Dl vs.toList with|some cs=>some (.agg cs)|none=>none)else none
 |some v=>bif ul P t then none else(match SX v with|some c=>some (.c c)|none=>none)
 |none=>none
def CX(P:Program)(t:TypeId):Option Kind:=
 match P.underlying t with
 |none=>none
 |some _=>L4 P t
structure HC(P:Program)(f:FuncId)(args:List Value)(ks:List Kind)(K:sU ks→ad→Prop)(h:ad):Prop where
 run:∀w:World,w.heap=h→
  ((callFunc f args.toArray).run P w=.ok (.enter f args.toArray) w∧
   Calls P f args.toArray w fun e w'=>Tame w w'∧∃t:sU ks,e=.returned (BF ks (me ks t))∧K t w'.heap)∨
  (∃v w',(callFunc f args.toArray).run P w=.ok (.value v) w'∧Tame w w'∧∃t:sU ks,v=BF ks (me ks t)∧K t w'.heap)
structure HE(P:Program)(f:FuncId)(args:List Value)(ks:List Kind)(K:sU ks→ad→Prop)(h:ad):Prop where
 run:∀w:World,w.heap=h→(∀(args:Array Value) (w:World),(callFunc f args).run P w=.ok (.enter f args) w)∧
  Calls P f args.toArray w fun e w'=>Tame w w'∧∃t:sU ks,e=.returned (BF ks (me ks t))∧K t w'.heap
theorem HE.hc{P:Program}{f:FuncId}{args:List Value}{ks:List Kind}{K:sU ks→ad→Prop}{h:ad}(e:HE P f args ks K h):HC P f args ks K h:=
 ⟨fun w a=>.inl ⟨(e.run w a).1 _ w,(e.run w a).2⟩⟩
structure HY(P:Program)(l:Nat)(args:List Value)(K:Bool→ad→Prop)(h:ad):Prop where
 run:∀w:World,w.heap=h→∃fn tmps assign body,(Instr.yield l args.toArray).run P w=.ok (.round l fn tmps assign body) w∧
  ∀(c:Frame) (cs:List Frame),∃b w',Tame w w'∧K b w'.heap∧Steps P (lone (Frame.round l fn tmps assign body .normal) (c::cs) w) (lone (c.finish (.bool b)) cs w')
structure HV(P:Program)(fv:Value)(args:List Value)(ks:List Kind)(K:sU ks→ad→Prop)(h:ad):Prop where
 run:(∃f first cap,fv=.func (.func f) first cap∧HC P f (first.toList++args++cap.toList) ks K h)∨
  (∃l,fv=.func (.yield l) #[] #[]∧HY P l args (fun b h'=>BL ks [.bool b] fun t=>K t h') h)
noncomputable def CondP(b:Bool)(t e:Prop):Prop:=Bool.rec (motive:=fun _=>Prop) e t b
theorem CondP.yes{b:Bool}{t e:Prop}(h:CondP b t e)(a:b=true):t:=by subst a;exact h
theorem CondP.no{b:Bool}{t e:Prop}(h:CondP b t e)(a:b=false):e:=by subst a;exact h
theorem CondP.intro{b:Bool}{t e:Prop}(a:b=true→t)(c:b=false→e):CondP b t e:=by cases b;exact c rfl;exact a rfl
theorem aA{t e:Prop}:CondP true t e↔t:=ut
theorem aj{t e:Prop}:CondP false t e↔e:=ut
attribute [irreducible] CondP
def At(h:ad)(k:ad→Prop):Prop:=k h
def Bd{T:Type}(x:T)(k:T→Prop):Prop:=k x
structure Join{T:Type}(rest:T→ad→Prop)(k:(T→ad→Prop)→Prop):Prop where
 run:k rest
structure LoopP{T:Type}(F:(T→ad→Prop)→T→ad→Prop)(t:T)(h:ad):Prop where
 run:∀I:T→ad→Prop,(∀t h,F I t h→I t h)→I t h
abbrev cA:=List (Nat×Value)
noncomputable def jE(r:cA)(t:Nat):Option Value:=
 fq (motive:=fun _=>Option Value) none (fun a _ b=>bif bF a.1 t then some a.2 else b) r
theorem CH(k:Nat)(v:Value)(r:cA)(t:Nat):jE ((k,v)::r) t=bif bF k t then some v else jE r t:=rfl
noncomputable def dh(r:cA):Operand→Option Value
 | .tmp t=>jE r t
 | .const v=>some v
 | .global g=>some (.pointer (some ⟨g,0,none⟩))
 | .func f=>some (.func (.func f) #[] #[])
noncomputable def mV(r:cA):List Operand→Option (List Value)
 | []=>some []
 |o::os=>match dh r o,mV r os with
  |some v,some vs=>some (v::vs)
  |_,_=>none
noncomputable def GC:List CK→Nat→Addr→ad→(List Value→Prop)→Prop
 | [],_,_,_,k=>k []
 |c::cs,i,a,h,k=>∃x:c.den,aM h (adr a i)=some (c.enc x)∧GC cs (i+1) a h fun vs=>k (c.enc x::vs)
noncomputable def rv:List Value→Nat→Addr→ad→Prop
 | [],_,_,_=>True
 | [v],i,a,h=>aM h (adr a i)=some v
 |v::u::vs,i,a,h=>aM h (adr a i)=some v∧rv (u::vs) (i+1) a h
abbrev RK:=Value→Option (ad→Prop)→Prop
noncomputable def HH(P:Program)(t:TypeId)(v:Value)(K:RK)(h:ad):Prop:=
 match v with
 | .pointer (some a)=>
  match CX P t with
  |some (.c c)=>∃x:c.den,aM h a=some (c.enc x)∧K (c.enc x) (some fun b=>aM b a=some (c.enc x))
  |some (.agg cs)=>GC cs 0 a h fun vs=>K (.agg vs.toArray) (some fun b=>rv vs 0 a b)
  |none=>False
 |_=>False
def vo(P:Program)(t:TypeId)(f:Nat):Option (TypeId×Nat):=
 match P.underlying t with
 |some (.struct fs)=>match fs.toList[f]? with
  |some g=>some (g.type,g.offset)
  |none=>none
 |_=>none
def uz(P:Program)(t:TypeId):Option TypeId:=
 match P.underlying t with
 |some (.slice e)=>some e
 |_=>none
def Ju(c:BinOp)(k:IntKind)(a b:Int)(K:RK):Prop:=
 match c with
 | .shl=>0≤b∧K (.int k (k.wrap (a*2^(min b.toNat k.bits)))) none
 | .shr=>0≤b∧K (.int k (a.fdiv (2^(min b.toNat k.bits)))) none
 |_=>False
def Sy(c:BinOp)(k:IntKind)(a b:Int)(K:RK):Prop:=
 match c with
 | .add=>K (.int k (k.wrap (a+b))) none
 | .sub=>K (.int k (k.wrap (a-b))) none
 | .mul=>K (.int k (k.wrap (a*b))) none
 | .quo=>b≠0∧K (.int k (k.wrap (a.tdiv b))) none
 | .rem=>b≠0∧K (.int k (a.tmod b)) none
 | .and=>K (.int k (k.wrap (ah k.bits a&&&ah k.bits b).toNat)) none
 | .or=>K (.int k (k.wrap (ah k.bits a|||ah k.bits b).toNat)) none
 | .xor=>K (.int k (k.wrap (ah k.bits a^^^ah k.bits b).toNat)) none
 | .andNot=>K (.int k (k.wrap (ah k.bits a&&& ~~~ah k.bits b).toNat)) none
 | .eql=>K (.bool (a==b)) none
 | .neq=>K (.bool (a !=b)) none
 | .lss=>K (.bool (decide (a<b))) none
 | .leq=>K (.bool (decide (a≤b))) none
 | .gtr=>K (.bool (decide (a>b))) none
 | .geq=>K (.bool (decide (a≥b))) none
 |_=>False
def R9(c:BinOp)(a b:ByteArray)(K:RK):Prop:=
 match c with
 | .add=>((a.size+b.size:Nat):Int)≤9223372036854775807∧K (.string (a++b)) none
 | .eql=>K (.bool (a.toList==b.toList)) none
 | .neq=>K (.bool (!(a.toList==b.toList))) none
 | .lss=>K (.bool (Op.bytesLess a.toList b.toList)) none
 | .leq=>K (.bool (Op.bytesLess a.toList b.toList||a.toList==b.toList)) none
 | .gtr=>K (.bool (!(Op.bytesLess a.toList b.toList||a.toList==b.toList))) none
 | .geq=>K (.bool (!(Op.bytesLess a.toList b.toList))) none
 |_=>False
def d9(h:ad)(a:Addr):Prop:=(∃c e,h[a.block]? =some (.cells c e (0,0))∧0<c.size)
def QR(P:Program)(t:TypeId)(neg:Bool)(x y:Value)(K:RK):Prop:=
 match P.underlying t,x,y with
 |some (.pointer _),.pointer a,.pointer none=>K (.bool (bif neg then !a.isNone else a.isNone)) none
 |some (.map _ _),.map a,.map none=>K (.bool (bif neg then !a.isNone else a.isNone)) none
 |some (.slice _),.slice a _ _,.slice none _ _=>K (.bool (bif neg then !a.isNone else a.isNone)) none
 |_,_,_=>False
def Sx:Operand→Bool
 | .const (.pointer none)=>true
 | .const (.map none)=>true
 | .const (.slice none 0 0)=>true
 |_=>false
def RE(P:Program)(t:TypeId)(neg:Bool)(x y:Value)(K:RK)(h:ad):Prop:=
 match P.underlying t,x,y with
 |some .bool,.bool a,.bool b=>K (.bool (bif neg then !(a==b)else a==b)) none
 |some (.pointer e),.pointer a,.pointer b=>
  (bif bF (bS P e) 0 then False else True)∧
  (∀x y,a=some x→b=some y→d9 h x∧d9 h y)∧
  K (.bool (bif neg then !(a==b)else a==b)) (some fun c=>∀x y,a=some x→b=some y→d9 c x∧d9 c y)
 |_,_,_=>False
def Sh(P:Program)(c:BinOp)(t:TypeId)(x y:Value)(K:RK)(h:ad):Prop:=
 match x,y with
 | .int k a,.int k' b=>
  match c with
  | .shl=>Ju .shl k a b K
  | .shr=>Ju .shr k a b K
  |c=>bif Gw k' k then Sy c k a b K else False
 | .string a,.string b=>R9 c a b K
 |x,y=>match c with
  | .eql=>RE P t false x y K h
  | .neq=>RE P t true x y K h
  |_=>False
def qs(h:ad):List (Option Addr×Option Addr)→Prop
 | []=>True
 |(a,b)::l=>(∀x y,a=some x→b=some y→d9 h x∧d9 h y)∧qs h l
def Pb(P:Program)(t:TypeId)(x y:Value):Option (Bool×List (Option Addr×Option Addr)):=
 match P.underlying t,x,y with
 |some (.int _),.int k a,.int k' b=>bif Gw k' k then some (a==b,[])else none
 |some .bool,.bool a,.bool b=>some (a==b,[])
 |some .string,.string a,.string b=>some (a.toList==b.toList,[])
 |some (.pointer e),.pointer a,.pointer b=>bif bF (bS P e) 0 then none else some (a==b,[(a,b)])
 |_,_,_=>none
def Rb(P:Program)(rec:TypeId→List Value→List Value→Option (Bool×List (Option Addr×Option Addr)))(xs ys:List Value):List Field→Option (Bool×List (Option Addr×Option Addr))
 | []=>some (true,[])
 |f::fs=>
  if f.name= "_" then none else
  bif (P.underlying f.type).isSome&&(P.info? f.type).isSome then
   match(bif ul P f.type then rec f.type ((xs.drop f.offset).take (bS P f.type)) ((ys.drop f.offset).take (bS P f.type))
    else match xs[f.offset]?,ys[f.offset]? with|some x,some y=>Pb P f.type x y|_,_=>none),Rb P rec xs ys fs with
   |some (b,l),some (c,m)=>some (b&&c,l++m)
   |_,_=>none
  else none
def Pc(P:Program):Nat→TypeId→List Value→List Value→Option (Bool×List (Option Addr×Option Addr))
 |0,_,_,_=>none
 |d+1,t,xs,ys=>match P.underlying t with
  |some (.struct fs)=>bif P.stoodInHeld t then none else Rb P (Pc P d) xs ys fs.toList
  |_=>none
def UA(neg b:Bool)(K:RK)(h:ad):List (Option Addr×Option Addr)→Prop
 | []=>K (.bool (bif neg then !b else b)) none
 |p::l=>qs h (p::l)∧K (.bool (bif neg then !b else b)) (some fun a=>qs a (p::l))
def Sj(P:Program)(a:BinOp)(t:TypeId)(xs ys:List Value)(K:RK)(h:ad):Prop:=
 bif P.eqGuardType P.depth t then False else
 match a with
 | .eql=>(match Pc P 10 t xs ys with|some (b,l)=>UA false b K h l|none=>False)
 | .neq=>(match Pc P 10 t xs ys with|some (b,l)=>UA true b K h l|none=>False)
 |_=>False
def Uh(a:UnOp)(x:Value)(K:RK):Prop:=
 match a,x with
 | .neg,.int k n=>K (.int k (k.wrap (0-n))) none
 | .xor,.int k n=>K (.int k (k.wrap (ah k.bits (if k.signed then-1 else k.max)^^^ah k.bits n).toNat)) none
 | .not,.bool b=>K (.bool (!b)) none
 |_,_=>False
def dD(s:ByteArray):List Value:=s.data.toList.map fun b=>.int .u8 b.toNat
noncomputable def Row(h:ad)(a:Addr)(vs:List Value):Prop:=∀i v,vs[i]? =some v→aM h (adr a i)=some v
noncomputable def SRow(h:ad)(a:Option Addr)(n:Nat)(vs:List Value):Prop:=vs.length=n∧(vs= []∨∃b,a=some b∧Row h b vs)
def Kj(P:Program)(e:TypeId):Bool:=match P.underlying e with|some (.int .u8)=>true|_=>false
def Sw(P:Program)(s d:TypeId):Bool:=
 match P.underlying s,P.underlying d with
 |some .string,some (.slice e)=>Kj P e
 |_,_=>false
def ByP(e:TypeId)(s:ByteArray)(h:ad)(K:Nat→ad→Prop):Prop:=
 ∀c,s.size≤c→K c (h.push (.cells (dD s++dE (c-s.size) (Value.int .u8 0)).toArray e (c,c+1)))
noncomputable def OI(P:Program)(b c:TypeId)(x:Value)(K:RK)(h:ad):Prop:=
 match P.underlying b,P.underlying c,x with
 |some (.int _),some (.int k),.int _ n=>K (.int k (k.wrap n)) none
 |some .string,some .string,.string s=>K (.string s) none
 |some (.slice e),some .string,.slice a n _=>bif Kj P e then∃s:ByteArray,SRow h a n (dD s)∧K (.string s) (some fun d=>SRow d a n (dD s))else False
 |_,_,_=>False
def PO(v:Option Value)(d y:Nat)(K:Nat→Prop):Prop:=
 match v with
 |none=>K d
 |some (.int _ i)=>(0≤i∧i≤y)∧K i.toNat
 |_=>False
noncomputable def bh(a:Option Addr)(l m size:Nat):Option Addr:=if m=l then a else a.map (adr · (l*size))
def OV(P:Program)(t:TypeId)(K:Prop):Prop:=match P.info? t with|some _=>K|none=>False
noncomputable def JH(P:Program)(t:TypeId)(x:Value)(lo hi b:Option Value)(K:RK):Prop:=
 match P.underlying t,x with
 |some .string,.string s=>match b with
  |some _=>False
  |none=>PO hi s.size s.size fun h=>PO lo 0 h fun l=>K (.string (s.extract l h)) none
 |some (.slice e),.slice a len cap=>OV P e (
  match b with
  |none=>PO hi len cap fun h=>PO lo 0 h fun l=>K (.slice (bh a l cap (bS P e)) (h-l) (cap-l)) none
  |some m=>match hi with
   |none=>False
   |some hi=>PO (some m) 0 cap fun m=>PO (some hi) 0 m fun h=>PO lo 0 h fun l=>K (.slice (bh a l m (bS P e)) (h-l) (m-l)) none)
 |some (.array n e),.pointer (some a)=>OV P e (
  match b with
  |none=>PO hi n n fun h=>PO lo 0 h fun l=>K (.slice (bh (some a) l n (bS P e)) (h-l) (n-l)) none
  |some _=>False)
 |_,_=>False
noncomputable def E2(r:cA):Option Operand→Option (Option Value)
 |none=>some none
 |some o=>match dh r o with
  |some v=>some (some v)
  |none=>none
noncomputable def xr(P:Program)(t:TypeId)(x i:Value)(K:RK):Prop:=
 match P.underlying t,x,i with
 |some (.array n e),.pointer (some a),.int _ i=>OV P e ((0≤i∧i<n)∧K (.pointer (some (adr a (i.toNat*bS P e)))) none)
 |some (.slice e),.slice b len _,.int _ i=>OV P e ((0≤i∧i<len)∧∃a,b=some a∧K (.pointer (some (adr a (i.toNat*bS P e)))) none)
 |_,_,_=>False
def JJ(P:Program)(t:TypeId)(x i:Value)(K:RK):Prop:=
 match P.underlying t,x,i with
 |some .string,.string s,.int _ i=>∃b:UInt8,0≤i∧s[i.toNat]? =some b∧K (.int .u8 b.toNat) none
 |_,_,_=>False
noncomputable def JK(P:Program)(t:TypeId)(x:Value)(f:Nat)(K:RK):Prop:=
 match vo P t f,x with
 |some (u,off),.agg cs=>bif (P.underlying u).isSome&&(P.info? u).isSome then(bif ul P u then K (.agg ((cs.toList.drop off).take (bS P u)).toArray) none
  else(match cs.toList[off]? with|some v=>K v none|none=>False))else False
 |_,_=>False
def Rx(c a b:Value)(K:RK):Prop:=
 match c with
 | .bool c=>(match a,b with
  | .bool x,.bool y=>K (.bool (bif c then x else y)) none
  |_,_=>(match c with|true=>K a none|false=>K b none))
 |_=>False
def gD:Value→Value→Bool
 | .int _ a,.int _ b=>a==b
 | .string a,.string b=>a==b
 | .bool a,.bool b=>a==b
 |_,_=>false
def Ii(k:Value):List MapEntry→Option Value
 | []=>none
 |e::es=>if gD k e.key then some e.val else Ii k es
def CY(c:CK)(es:List MapEntry):Prop:=∀e∈es,∃x:c.den,e.key=c.enc x
def KZ(c:CK)(z:Value)(h:ad)(m:Option Nat)(k v:Value)(a:Bool):Prop:=
 match m with
 |none=>v=z∧a=false
 |some r=>∃es clock,h[r]? =some (.map es clock)∧CY c es.toList∧
  (match Ii k es.toList with|some u=>v=u∧a=true|none=>v=z∧a=false)
def H5(P:Program)(t:TypeId):Option (CK×TypeId):=
 match P.underlying t with
 |some (.map k e)=>match P.underlying k with
  |some (.int i)=>some (.int i,e)
  |some .string=>some (.str,e)
  |some .bool=>some (.bool,e)
  |_=>none
 |_=>none
def Gd(P:Program)(t:TypeId)(x k:Value)(d:Bool)(K:RK)(h:ad):Prop:=
 match H5 P t,x with
 |some (c,e),.map m=>c.dec k fun _=>
  (match CX P e,wG P e with
   |some ek,some z=>∃(y:ek.den) (b:Bool),KZ c z h m k (ek.enc y) b∧
    K (bif d then .tuple #[ek.enc y,.bool b]else ek.enc y) (some fun a=>KZ c z a m k (ek.enc y) b)
   |_,_=>False)
 |_,_=>False
def P1(h:ad)(m:Option Nat)(n:Nat):Prop:=
 match m with
 |none=>n=0
 |some r=>∃es clock,h[r]? =some (.map es clock)∧n=es.size
def FR(c:Bool)(h:ad)(m:Option Nat)(n:Nat):Prop:=
 match m with
 |none=>n=0
 |some r=>∃cap buf cl s q,h[r]? =some (.chan cap buf cl s q false)∧n=bif c then cap else buf.size
def Sf(P:Program)(t:TypeId)(x:Value)(K:RK)(h:ad):Prop:=
 match P.underlying t,x with
 |some .string,.string s=>K (.int .i64 s.size) none
 |some (.array n _),_=>K (.int .i64 n) none
 |some (.slice _),.slice _ n _=>K (.int .i64 n) none
 |some (.map _ _),.map m=>∃n:Nat,P1 h m n∧K (.int .i64 n) (some fun a=>P1 a m n)
 |some (.chan _ _),.chan m=>∃n:Nat,FR false h m n∧K (.int .i64 n) (some fun a=>FR false a m n)
 |_,_=>False
def Sg(P:Program)(t:TypeId)(x:Value)(K:RK)(h:ad):Prop:=
 match P.underlying t,x with
 |some (.slice _),.slice _ _ n=>K (.int .i64 n) none
 |some (.chan _ _),.chan m=>∃n:Nat,FR true h m n∧K (.int .i64 n) (some fun a=>FR true a m n)
 |_,_=>False
def Gs(c:Bool)(k:IntKind):Int→List Value→(Value→Prop)→Prop
 |a,[],f=>f (.int k a)
 |a,.int k' b::vs,f=>bif Gw k' k then Gs c k (bif c then(if b>a then b else a)else(if b<a then b else a)) vs f else False
 |_,_,_=>False
def B4(b:Bool)(vs:List Value)(f:Value→Prop):Prop:=
 match vs with
 | .int k a::vs=>Gs b k a vs f
 |_=>False
def K2(h:ad)(i:Nat)(e:MapEntry):Prop:=
 ∃m since seen last stamp es,h[i]? =some (.mapIter (some m) since seen last)∧seen.back? =some stamp∧h[m]? =some (.map es last)∧es.find? (fun e=>e.born==stamp)=some e
def pg(P:Program)(t:TypeId):Bool:=match P.underlying t with|some (.interface _)=>false|some _=>true|none=>false
def LU(P:Program)(t:TypeId)(x:Value)(K:RK):Prop:=
 bif pg P t then(match CX P t with
  |some k=>∃y:k.den,x=.iface t (k.enc y)∧K (k.enc y) none
  |none=>False)else False
def HO(cs:List Value)(off:Nat)(vs:List Value):List Value:=cs.take off++vs++cs.drop (off+vs.length)
def Bh(a:Nat→Option (Nat×Nat)):List Value→List (Nat×Value)→Option (List Value)
 |cs,[]=>some cs
 |cs,(i,v)::rest=>match a i with
  |none=>none
  |some (off,size)=>bif bF v.cells.toList.length size&&uo (off+v.cells.toList.length) cs.length then Bh a (HO cs off v.cells.toList) rest else none
noncomputable def pe(r:cA):List (Nat×Operand)→Option (List (Nat×Value))
 | []=>some []
 |(i,o)::ps=>match dh r o,pe r ps with
  |some v,some vs=>some ((i,v)::vs)
  |_,_=>none
def pz(P:Program)(t:TypeId):Option (List Value):=match wG P t with|some z=>some z.cells.toList|none=>none
def dy(n:Nat)(z:List Value):List Value:=(dE n z).flatten
def vW(P:Program)(t:TypeId):Bool:=match P.info? t with|some _=>true|none=>false
def yY(P:Program):List Field→Bool
 | []=>true
 |f::fs=>bif vW P f.type then yY P fs else false
def JU(P:Program)(a:List Field)(i:Nat):Option (Nat×Nat):=match a[i]? with|some f=>some (f.offset,bS P f.type)|none=>none
def GL(P:Program)(t:TypeId)(a:List (Nat×Value)):Option (List Value):=
 match P.underlying t,pz P t with
 |some (.struct fs),some z=>bif yY P fs.toList then Bh (JU P fs.toList) z a else none
 |some (.array _ e),some z=>bif vW P e then Bh (fun i=>some (i*bS P e,bS P e)) z a else none
 |_,_=>none
noncomputable def zN(P:Program)(ek:Option (Kind×Kind))(o:Op)(r:cA)(K:RK)(h:ad):Prop:=
 match o with
 | .entry it=>match dh r it,ek with
  |some (.pointer (some a)),some (kk,vk)=>a.off=0∧∃(e:MapEntry) (x:kk.den) (y:vk.den),K2 h a.block e∧e.key=kk.enc x∧e.val=vk.enc y∧
    K (.tuple #[kk.enc x,vk.enc y]) (some fun g=>K2 g a.block e)
  |_,_=>False
 | .move x| .assign x=>match dh r x with|some v=>K v none|none=>False
 | .load t a=>match dh r a with|some v=>HH P t v K h|none=>False
 | .nilCheck x=>match dh r x with|some (.pointer p)=>∃a,p=some a∧K (.pointer (some a)) none|_=>False
 | .binOp op t x y _=>match dh r x,dh r y with
  |some (.agg v),some (.agg u)=>Sj P op t v.toList u.toList K h
  |some v,some u=>(match op,Sx y with
   | .eql,true=>QR P t false v u K
   | .neq,true=>QR P t true v u K
   |op,_=>Sh P op t v u K h)
  |_,_=>False
 | .unOp op _ x=>match dh r x with|some v=>Uh op v K|none=>False
 | .convert s d x=>match dh r x with|some v=>OI P s d v K h|none=>False
 | .pick c a b=>match dh r c,dh r a,dh r b with|some c,some a,some b=>Rx c a b K|_,_,_=>False
 | .extract x i=>match dh r x with
  |some (.tuple vs)=>(match vs.toList[i]? with|some v=>K v none|none=>False)
  |_=>False
 | .fieldAddr t x f=>match dh r x,vo P t f with
  |some (.pointer (some a)),some (u,off)=>bif bF (bS P u) 0 then False else K (.pointer (some (adr a off))) none
  |_,_=>False
 | .field t x f=>match dh r x with|some v=>JK P t v f K|none=>False
 | .indexAddr t x i=>match dh r x,dh r i with|some v,some u=>xr P t v u K|_,_=>False
 | .index t x i=>match dh r x,dh r i with|some v,some u=>JJ P t v u K|_,_=>False
 | .slice t x lo hi mx=>match dh r x,E2 r lo,E2 r hi,E2 r mx with
  |some v,some l,some g,some m=>JH P t v l g m K
  |_,_,_,_=>False
 | .lookup t x k ok=>match dh r x,dh r k with|some v,some u=>Gd P t v u ok K h|_,_=>False
 | .makeInterface t x=>match dh r x with|some v=>bif pg P t then K (.iface t v) none else False|none=>False
 | .typeAssert x _ t ok=>match dh r x with|some v=>bif ok then False else LU P t v K|none=>False
 | .build t ps=>match pe r ps.toList with
  |some vs=>(match GL P t vs with|some cs=>K (.agg cs.toArray) none|none=>False)
  |none=>False
 | .makeFunc fn first cap=>match mV r first.toList,mV r cap.toList with
  |some vs,some us=>K (.func fn vs.toArray us.toArray) none
  |_,_=>False
 | .call c=>match c.callee,mV r c.args.toList,c.argTypes.toList with
  | .builtin .len,some [v],[t]=>Sf P t v K h
  | .builtin .cap,some [v],[t]=>Sg P t v K h
  | .builtin .min,some vs,_=>B4 false vs fun v=>K v none
  | .builtin .max,some vs,_=>B4 true vs fun v=>K v none
  |_,_,_=>False
 |_=>False
abbrev WK:=Value→ad→Prop
def aC(h:ad):Addr:=⟨h.size,0,none⟩
def hnew(h:ad)(cs:List Value)(t:TypeId):ad:=h.push (.cells cs.toArray t (0,0))
def ce:List Value→Bool
 | []=>true
 |v::vs=>(match v with| .agg _=>false| .tuple _=>false|_=>true)&&ce vs
noncomputable def gT(h:ad)(a:Addr):Nat→List Value→ad
 |_,[]=>h
 |i,v::vs=>gT (hset h (adr a i) v) a (i+1) vs
noncomputable def fF(h:ad)(a:Option Addr)(i:Nat)(vs:List Value):ad:=match a with|some a=>gT h a i vs|none=>h
noncomputable def sS(h:ad)(a:Option Addr)(i:Nat)(vs:List Value):Prop:=vs= []∨∃b,a=some b∧∀j,j<vs.length→Wr h (adr b (i+j))
noncomputable def Jm(P:Program)(t:TypeId)(a v:Value)(K:WK)(h:ad):Prop:=
 match a with
 | .pointer (some a)=>bif bF v.cells.toList.length (bS P t)&&ce v.cells.toList then OV P t
   (match v.cells.toList with
    | [v]=>Wr h a∧K undef (hset h a v)
    |vs=>sS h (some a) 0 vs∧K undef (gT h a 0 vs))
  else False
 |_=>False
noncomputable def PS(P:Program)(e:TypeId)(a:Option Addr)(sl c b:Nat)(xs:List Value)(K:WK)(h:ad):Prop:=
 (sl+b≤c→sS h a (sl*bS P e) xs∧ce xs=true∧K (.slice a (sl+b) c) (fF h a (sl*bS P e) xs))∧
 (c<sl+b→∃old z,SRow h a (sl*bS P e) old∧pz P e=some z∧0<pE P e∧Builtin.nextslicecap (sl+b) c*pE P e≤2^48∧
  ∀nc,sl+b≤nc→K (.slice (some (aC h)) (sl+b) nc) (hnew h (old++xs++dy (nc-(sl+b)) z) e))
noncomputable def BT(P:Program)(t:TypeId)(s x:Value)(K:WK)(h:ad):Prop:=
 match uz P t,s,x with
 |some e,.slice b sl sc,.slice a xl _=>OV P e (∃xs,SRow h a (xl*bS P e) xs∧PS P e b sl sc xl xs K h)
 |some e,.slice b sl sc,.string x=>bif bF (bS P e) 1 then PS P e b sl sc x.size (dD x) K h else False
 |_,_,_=>False
noncomputable def Cl(P:Program)(t:TypeId)(s x:Value)(K:WK)(h:ad):Prop:=
 match uz P t,s,x with
 |some e,.slice b sl sc,.int _ l=>(match pz P e with
  |some z=>bif bF z.length (bS P e)then(0≤l∧l*pE P e≤2^48∧l≤9223372036854775807∧((sl+l.toNat:Nat):Int)≤9223372036854775807)∧PS P e b sl sc l.toNat (dy l.toNat z) K h else False
  |none=>False)
 |_,_,_=>False
noncomputable def Jn(P:Program)(t:TypeId)(x:Value)(K:WK)(h:ad):Prop:=
 match uz P t,x with
 |some e,.slice a n _=>(match pz P e with
  |some z=>bif ce z then sS h a 0 (dy n z)∧K (.tuple #[]) (fF h a 0 (dy n z))else False
  |none=>False)
 |_,_=>False
noncomputable def N9(P:Program)(t:TypeId)(d s:Value)(K:WK)(h:ad):Prop:=
 match uz P t,d,s with
 |some e,.slice b dl _,.slice a sl _=>OV P e (∃xs,SRow h a (dL sl dl*bS P e) xs∧sS h b 0 xs∧ce xs=true∧K (.int .i64 (dL sl dl)) (fF h b 0 xs))
 |some e,.slice b dl _,.string x=>bif bF (bS P e) 1 then sS h b 0 ((dD x).take dl)∧K (.int .i64 (dL x.size dl)) (fF h b 0 ((dD x).take dl))else False
 |_,_,_=>False
def JP(k v:Value)(a:Nat):List MapEntry→List MapEntry×Nat
 | []=>([{key:=k,val:=v,born:=a}],a+1)
 |e::es=>if gD k e.key then({e with key:=k,val:=v}::es,a)else let r:=JP k v a es;(e::r.1,r.2)
def Is(k:Value):List MapEntry→List MapEntry
 | []=> []
 |e::es=>if gD k e.key then es else e::Is k es
def My(c:CK)(h:ad)(r:Nat):Prop:=∃es clock,h[r]? =some (.map es clock)∧CY c es.toList
def QT(h:ad)(r:Nat)(k v:Value):ad:=
 match h[r]? with
 |some (.map es clock)=>h.setIfInBounds r (.map (JP k v clock es.toList).1.toArray (JP k v clock es.toList).2)
 |_=>h
def L2(h:ad)(r:Nat)(k:Value):ad:=
 match h[r]? with
 |some (.map es clock)=>h.setIfInBounds r (.map (Is k es.toList).toArray clock)
 |_=>h
def BS(P:Program)(t:TypeId)(m k v:Value)(K:WK)(h:ad):Prop:=
 match H5 P t,m with
 |some (c,_),.map m=>c.dec k fun _=>∃r,m=some r∧My c h r∧K undef (QT h r k v)
 |_,_=>False
def Cj(P:Program)(t:TypeId)(m k:Value)(K:WK)(h:ad):Prop:=
 match H5 P t,m with
 |some (c,_),.map m=>c.dec k fun _=>(m=none∧K (.tuple #[]) h)∨(∃r,m=some r∧My c h r∧K (.tuple #[]) (L2 h r k))
 |_,_=>False
def OC(P:Program):List TypeId→Option (List Kind)
 | []=>some []
 |t::ts=>match CX P t,OC P ts with
  |some k,some ks=>some (k::ks)
  |_,_=>none
def OD(P:Program)(t:TypeId):Option (List Kind):=
 match P.underlying t with
 |some (.tuple ts)=>OC P ts.toList
 |_=>OC P [t]
noncomputable def Rn(P:Program)(f:Operand)(r:cA)(args:List Value)(t:TypeId)(K:WK)(h:ad):Prop:=
 match OD P t with
 |none=>False
 |some ks=>match f with
  | .func f=>HC P f args ks (fun x a=>K (BF ks (me ks x)) a) h
  |f=>match dh r f with
   |some fv=>HV P fv args ks (fun x a=>K (BF ks (me ks x)) a) h
   |none=>False
def N8(it:Value)(K:WK)(h:ad):Prop:=
 match it with
 | .pointer (some a)=>a.off=0∧
  ∃m since seen last,h[a.block]? =some (.mapIter m since seen last)∧
   ((m=none∧K (.tuple #[.bool false]) h)∨
    (∃r es clock,m=some r∧h[r]? =some (.map es clock)∧(seen.isEmpty=true∨es.isEmpty=true∨es.all (fun e=>decide (e.born≥last))=false)∧
     ((∀e∈es.toList,e.born<since→seen.contains e.born=true)→K (.tuple #[.bool false]) h)∧
     (∀e∈es.toList,seen.contains e.born=false→K (.tuple #[.bool true,e.key,e.val]) (h.setIfInBounds a.block (.mapIter (some r) since (seen.push e.born) clock)))))
 |_=>False
noncomputable def D6(P:Program)(o:Oper)(r:cA)(K:WK)(h:ad):Prop:=
 match o.op with
 | .alloc t=>(match pz P t with|some z=>K (.pointer (some (aC h))) (hnew h z t)|none=>False)
 | .box t x=>(match dh r x with|some v=>K (.pointer (some (aC h))) (hnew h v.cells.toList t)|none=>False)
 | .build t ps=>(match pe r ps.toList with
  |some vs=>(match GL P t vs with|some cs=>K (.agg cs.toArray) h|none=>False)
  |none=>False)
 | .buildSlice t n ps=>(match uz P t,pe r ps.toList with
  |some e,some vs=>(match pz P e with
   |some z=>bif uo (n*bS P e) 16777216&&bF z.length (bS P e)then
     (match Bh (fun i=>some (i*bS P e,bS P e)) (dy n z) vs with|some cs=>K (.slice (some (aC h)) n n) (hnew h cs e)|none=>False)
    else False
   |none=>False)
  |_,_=>False)
 | .store t a x=>(match dh r a,dh r x with|some a,some v=>Jm P t a v K h|_,_=>False)
 | .mapUpdate t m k x=>(match dh r m,dh r k,dh r x with|some m,some k,some v=>BS P t m k v K h|_,_,_=>False)
 | .insert t m k x=>(match dh r m,dh r k,dh r x with|some m,some k,some v=>BS P t m k v K h|_,_,_=>False)
 | .makeMap t n=>(match n with
  |none=>K (.map (some h.size)) (h.push (.map #[] 0))
  |some n=>(match dh r n,P.underlying t with|some (.int _ _),some (.map _ _)=>K (.map (some h.size)) (h.push (.map #[] 0))|_,_=>False))
 | .makeSlice t l c=>(match uz P t,dh r l,dh r c with
  |some e,some (.int _ l),some (.int _ c)=>(match pz P e with
   |some z=>bif bF z.length (bS P e)then(0≤l∧l≤c∧c≤9223372036854775807∧pE P e*c≤2^48)∧K (.slice (some (aC h)) l.toNat c.toNat) (hnew h (dy c.toNat z) e)else False
   |none=>False)
  |_,_,_=>False)
 | .convert s d x=>(match P.underlying s,P.underlying d,dh r x with
  |some .string,some (.slice e),some (.string v)=>bif Kj P e then ByP e v h (fun c b=>K (.slice (some (aC h)) v.size c) b)else False
  |_,_,_=>False)
 | .range t x=>(match P.underlying t,dh r x with
  |some (.map _ _),some (.map m)=>∃clock,(m=none∧clock=0∨∃r es,m=some r∧h[r]? =some (.map es clock))∧K (.pointer (some (aC h))) (h.push (.mapIter m clock #[] clock))
  |_,_=>False)
 | .next it false=>(match dh r it with|some it=>N8 it K h|none=>False)
 | .call c=>(match c.callee,mV r c.args.toList with
  | .builtin .append,some [s,x]=>(match c.argTypes.toList with| [t,u]=>(match P.underlying u with|some (.slice _)=>BT P t s x K h|some .string=>BT P t s x K h|some (.int _)=>Cl P t s x K h|_=>False)|_=>False)
  | .builtin .clear,some [x]=>(match c.argTypes.toList with| [t]=>Jn P t x K h|_=>False)
  | .builtin .copy,some [d,s]=>(match c.argTypes.toList with| [t,_]=>N9 P t d s K h|_=>False)
  | .builtin .delete,some [m,k]=>(match c.argTypes.toList with| [t,_]=>Cj P t m k K h|_=>False)
  | .value f,some args=>Rn P f r args o.type K h
  |_,_=>False)
 |_=>False
def uA(P:Program):Op→Bool
 | .convert s d _=> !Sw P s d
 | .alloc _| .box .. | .buildSlice .. | .store .. | .mapUpdate .. | .insert .. | .makeMap .. | .makeSlice .. | .range .. | .next .. =>false
 | .call c=>match c.callee with
  | .builtin .len| .builtin .cap| .builtin .min| .builtin .max=>true
  |_=>false
 |_=>true
def xH(N:Nat)(o:Oper)(v:Value)(r:cA)(K:cA→Prop):Prop:=
 match o.dst with
 |none=>K r
 |some d=>bif wm d N then K ((d,v)::r)else False
noncomputable def Tg(P:Program)(N:Nat)(ek:Option (Kind×Kind))(o:Oper)(r:cA)(K:cA→ad→Prop)(h:ad):Prop:=
 bif uA P o.op then zN P ek o.op r (fun v _=>xH N o v r fun a=>K a h) h
 else D6 P o r (fun v b=>xH N o v r fun a=>K a b) h
inductive DV where
 |f|t|u|x
abbrev tD:=List (Nat×DV)
noncomputable def pP(d:tD)(t:Nat):DV:=
 fq (motive:=fun _=>DV) .x (fun a _ b=>bif bF a.1 t then a.2 else b) d
noncomputable def yR(d:tD):Operand→DV
 | .tmp t=>pP d t
 | .const (.bool true)=>.t
 | .const (.bool false)=>.f
 |_=>.x
noncomputable def Hh(d:tD):Op→DV
 | .move x=>yR d x
 | .assign x=>yR d x
 | .pick c a b=>match yR d c with
  | .t=>yR d a
  | .f=>yR d b
  |_=>.x
 | .unOp .not _ x=>match yR d x with
  | .t=>.f
  | .f=>.t
  |_=>.x
 |_=>.x
def qc(d:tD)(o:Oper)(v:DV):tD:=match o.dst with|some t=>(t,v)::d|none=>d
noncomputable def iv(ops:List Oper)(d:tD)(o:Oper):Option Bool:=
 match o.guard with
 |none=>some true
 |some (j,want)=>match ops[j]? with
  |none=>none
  |some oj=>match oj.dst with
   |none=>none
   |some t=>match pP d t with
    | .t=>some want
    | .f=>some (!want)
    | .u=>some false
    | .x=>none
def C5(ops:List Oper)(o:Oper):Option Nat:=
 match o.guard with
 |none=>none
 |some (j,_)=>match ops[j]? with
  |none=>none
  |some oj=>oj.dst
noncomputable def EO(P:Program)(N:Nat)(ek:Option (Kind×Kind))(ops:List Oper)(o:Oper)(d:tD)(r:cA)(h:ad)(K:tD→cA→ad→Prop):Prop:=
 match iv ops d o with
 |some true=>Tg P N ek o r (K (qc d o (Hh d o.op))) h
 |some false=>xH N o undef r fun a=>K (qc d o .u) a h
 |none=>False
noncomputable def Cz(P:Program)(N:Nat)(ek:Option (Kind×Kind))(ops:List Oper)(l:List Oper):tD→(cA→ad→Prop)→cA→ad→Prop:=
 fq (motive:=fun _=>tD→(cA→ad→Prop)→cA→ad→Prop) (fun _ K r h=>K r h)
  (fun o _ e d K r h=>
  match iv ops d o with
  |some true=>Tg P N ek o r (fun a c=>e (qc d o (Hh d o.op)) K a c) h
  |some false=>xH N o undef r fun a=>e (qc d o .u) K a h
  |none=>match C5 ops o with
   |none=>False
   |some t=>match jE r t with
    |some (.bool b)=>CondP b
     (EO P N ek ops o ((t,.t)::d) ((t,.bool true)::r) h fun f a c=>e f K a c)
     (EO P N ek ops o ((t,.f)::d) ((t,.bool false)::r) h fun f a c=>e f K a c)
    |_=>False) l
inductive DA where
 |done
 |take (i:Nat) (rest:DA)
 |all (l:DA)
 |pick (i:Nat) (rest more:DA)
 |last (i:Nat) (rest:DA)
 |lastT (i:Nat) (rest:DA)
 |split (t:Nat) (yes no:DA)
abbrev pG:=List (Nat×(ad→Prop))
def tb(m i:Nat):Bool:=bF (iP (Nat.shiftRight m i) 1) 1
def gv(i:Nat):Nat:=Nat.pow 2 i
inductive DM where
 |mk (am fr lk ds:Nat)
def DM.am:DM→Nat| .mk a _ _ _=>a
def DM.fr:DM→Nat| .mk _ f _ _=>f
def DM.lk:DM→Nat| .mk _ _ l _=>l
def DM.ds:DM→Nat| .mk _ _ _ d=>d
def iw(o:Oper)(i:Nat):Bool:=o.after.toList.any fun e=>bF e.on i&&Region.binds .any e
noncomputable def lQ(l:List Edge):Nat:=
 fq (motive:=fun _=>Nat) 0 (fun e _ a=>bif Region.binds .any e then cO (gv e.on) a else a) l
noncomputable def kQ(l:List Operand):Nat:=
 fq (motive:=fun _=>Nat) 0 (fun o _ a=>match o with| .tmp t=>cO (gv t) a|_=>a) l
def mN(o:Oper):Nat:=match o.dst with|some d=>gv d|none=>0
noncomputable def np(ops:List Oper)(o:Oper):Nat:=
 cO (kQ o.op.operands.toList) (match o.guard with
  |some (g,_)=>(match ops[g]? with|some og=>mN og|none=>0)
  |none=>0)
noncomputable def uY(ops:List Oper)(l:List Oper):List DM→Bool:=
 fq (motive:=fun _=>List DM→Bool) (fun ms=>match ms with| []=>true|_=>false)
  (fun o _ a ms=>match ms with
   |m::ms=>bF (lQ o.after.toList) m.am&&bF (np ops o) m.lk&&bF (mN o) m.ds&&a ms
   | []=>false) l
def AA(x y:DM):Bool:=bF (iP x.ds (cO y.lk y.ds)) 0&&bF (iP y.ds x.lk) 0
noncomputable def Fp(i:Nat)(m:DM)(l:List DM):Nat→Bool:=
 fq (motive:=fun _=>Nat→Bool) (fun _=>true)
  (fun n _ a j=>(!(tb m.fr j)||bF j i||tb n.am i||AA m n)&&a (fJ j)) l
noncomputable def yK(a:List DM)(l:List DM):Nat→Bool:=
 fq (motive:=fun _=>Nat→Bool) (fun _=>true) (fun m _ b i=>Fp i m a 0&&b (fJ i)) l
def H2:List Oper→Bool
 | []=>true
 |o::os=>(match o.op with| .select .. =>false| .defer _=>false|_=>true)&&H2 os
noncomputable def B6(ops:List Oper)(ms:List DM):Bool:=uY ops ops ms&&yK ms ms 0&&H2 ops
def nD(o:Oper):pG→pG
 | []=> []
 |(k,S)::l=>bif iw o k then nD o l else(k,S)::nD o l
def qu:pG→ad→Prop→Prop
 | [],_,R=>R
 |(_,S)::l,h,R=>S h∧qu l h R
def EX(m:DM)(ls:Nat):Bool:=bF (iP m.am ls) m.am
noncomputable def kT(ls:Nat)(l:List DM):Nat→List Nat:=
 fq (motive:=fun _=>Nat→List Nat) (fun _=> []) (fun m _ a j=>bif !(tb ls j)&&EX m ls then j::a (fJ j)else a (fJ j)) l
def Cr(m:DM)(i ls n:Nat):Bool:= !(tb ls i)&&EX m ls&&bF (iP (cO ls m.fr) (vL (gv n))) (vL (gv n))
def tO:List Nat→List Nat→Bool
 | [],[]=>true
 |a::as,b::bs=>bF a b&&tO as bs
 |_,_=>false
def Al:DA→List Nat
 | .pick i _ l=>i::Al l
 | .last i _=> [i]
 | .lastT i _=> [i]
 |_=> []
noncomputable def MR(P:Program)(N:Nat)(ops:List Oper)(i:Nat)(L:pG)(d:tD)(r:cA)(h:ad)(K:pG→tD→cA→ad→Prop):Prop:=
 match ops[i]? with
 |none=>False
 |some o=>match iv ops d o with
  |some true=>bif uA P o.op then zN P none o.op r (fun v _=>xH N o v r fun a=>qu (nD o L) h (K (nD o L) (qc d o .x) a h)) h else D6 P o r (fun v b=>xH N o v r fun a=>qu (nD o L) b (K (nD o L) (qc d o .x) a b)) h
  |_=>False
noncomputable def upM(m:Nat)(l:List DM):Nat→Nat:=
 fq (motive:=fun _=>Nat→Nat) (fun _=>m) (fun n _ a j=>bif tb m j then cO n.am (a (fJ j))else a (fJ j)) l
noncomputable def yS(ms:List DM)(m:Nat):Nat:=upM (upM (upM (upM m ms 0) ms 0) ms 0) ms 0
def GS(ms:List DM)(i:Nat):Nat:=match ms[i]? with|some m=>m.am|none=>0
def yu(m:Nat):pG→pG
 | []=> []
 |(k,S)::l=>bif tb m k then yu m l else(k,S)::yu m l
noncomputable def LR(P:Program)(N:Nat)(ops:List Oper)(ms:List DM)(i:Nat)(L:pG)(d:tD)(r:cA)(h:ad)(K:pG→tD→cA→ad→Prop):Prop:=
 match ops[i]? with
 |none=>False
 |some o=>match iv ops d o with
  |some true=>bif uA P o.op then False else D6 P o r (fun v a=>xH N o v r fun b=>qu (yu (yS ms (GS ms i)) L) a (K (yu (yS ms (GS ms i)) L) (qc d o .x) b a)) h
  |_=>False
noncomputable def mr(P:Program)(N:Nat)(ops:List Oper)(ms:List DM)(k:DA):Bool→Nat→pG→tD→(cA→ad→Prop)→cA→ad→Prop:=
 DA.rec (motive:=fun _=>Bool→Nat→pG→tD→(cA→ad→Prop)→cA→ad→Prop)
  (fun m ls _ _ K r h=>bif !m&&tO (kT ls ms 0) []then K r h else False)
  (fun i _ c m ls L d K r h=>
   match ops[i]?,ms[i]? with
   |some o,some mi=>bif !m&&Cr mi i ls ops.length then
     (match iv ops d o with
      |none=>False
      |some false=>xH N o undef r fun a=>c false (cO ls (gv i)) L (qc d o .u) K a h
      |some true=>bif uA P o.op then
       zN P none o.op r (fun v S=>xH N o v r fun a=>match S with
        |none=>c false (cO ls (gv i)) L (qc d o (Hh d o.op)) K a h
        |some S=>c false (cO ls (gv i)) ((i,S)::L) (qc d o (Hh d o.op)) K a h) h
       else False)
    else False
   |_,_=>False)
  (fun l c m ls L d K r h=>bif !m&&tO (kT ls ms 0) (Al l)then c true ls L d K r h else False)
  (fun i _ _ f e m ls L d K r h=>bif m then MR P N ops i L d r h (fun L' j a g=>f false (cO ls (gv i)) L' j K a g)∧e true ls L d K r h else False)
  (fun i _ c m ls L d K r h=>bif m then MR P N ops i L d r h (fun L' j a g=>c false (cO ls (gv i)) L' j K a g)else False)
  (fun i _ c m ls L d K r h=>bif m then LR P N ops ms i L d r h (fun L' j a g=>c false (cO ls (gv i)) L' j K a g)else False)
  (fun t _ _ f e m ls L d K r h=>
   bif m then False else match jE r t with
   |some (.bool b)=>CondP b (f false ls L ((t,.t)::d) K ((t,.bool true)::r) h) (e false ls L ((t,.f)::d) K ((t,.bool false)::r) h)
   |_=>False)
  k
noncomputable def Uy(b:Oper)(i:Nat)(ds lk:Nat)(ops:List Oper)(l:List Oper):Nat→Nat:=
 fq (motive:=fun _=>Nat→Nat) (fun _=>0) (fun p _ a j=>bif (bF j i||iw p i||(bF (iP ds (cO (np ops p) (mN p))) 0&&bF (iP (mN p) lk) 0))then cO (gv j) (a (fJ j))else a (fJ j)) l
noncomputable def Um(ops:List Oper)(l:List Oper):Nat→List DM:=
 fq (motive:=fun _=>Nat→List DM) (fun _=> []) (fun o _ a i=>.mk (lQ o.after.toList) (Uy o i (mN o) (np ops o) ops ops 0) (np ops o) (mN o)::a (fJ i)) l
def To(P:Program)(w:Option Bool)(o:Oper):Bool:=match w with|some false=>true|some true=>uA P o.op|none=>false
noncomputable def SC(P:Program)(ops:List Oper)(d:tD)(ls n:Nat)(l:List Oper):List DM→Nat→Option (Nat×Oper):=
 fq (motive:=fun _=>List DM→Nat→Option (Nat×Oper)) (fun _ _=>none)
  (fun o _ a ms j=>match ms with
   | []=>none
   |m::ms=>bif Cr m j ls n&&To P (iv ops d o) o then some (j,o)else a ms (fJ j)) l
noncomputable def SD(ops:List Oper)(d:tD)(ls:Nat)(l:List Oper):List DM→Nat→Option Nat:=
 fq (motive:=fun _=>List DM→Nat→Option Nat) (fun _ _=>none)
  (fun o _ a ms j=>match ms with
   | []=>none
   |m::ms=>match bif !(tb ls j)&&EX m ls then(match iv ops d o with|none=>C5 ops o|some _=>none)else none with
    |some t=>some t
    |none=>a ms (fJ j)) l
noncomputable def TH(ops:List Oper)(k:Nat→tD→DA)(ls:Nat)(d:tD)(l:List Nat):DA:=
 fq (motive:=fun _=>DA) .done (fun i a b=>match ops[i]? with
  |none=>.done
  |some o=>match a with
   | []=>.last i (k (cO ls (gv i)) (qc d o .x))
   |_=>.pick i (k (cO ls (gv i)) (qc d o .x)) b) l
noncomputable def S1(P:Program)(ops:List Oper)(ms:List DM)(fuel:Nat):Nat→tD→DA:=
 Nat.rec (motive:=fun _=>Nat→tD→DA) (fun _ _=>.done) (fun _ a ls d=>
  match SC P ops d ls ops.length ops ms 0 with
  |some (i,o)=>.take i (a (cO ls (gv i)) (match iv ops d o with|some false=>qc d o .u|_=>qc d o (Hh d o.op)))
  |none=>match SD ops d ls ops ms 0 with
   |some t=>.split t (a ls ((t,.t)::d)) (a ls ((t,.f)::d))
   |none=>match kT ls ms 0 with
    | []=>.done
    |l=>.all (TH ops a ls d l)) fuel
noncomputable def L0(ops:List Oper):List DM:=Um ops ops 0
inductive Ex where
 |exit (id:Nat)
 |ret
abbrev St:=List (Nat×Kind)
def xm:St→List Kind
 | []=> []
 |(_,k)::l=>k::xm l
noncomputable def Cu(r:cA):St→Option (List Value)
 | []=>some []
 |(i,_)::l=>match jE r i,Cu r l with
  |some v,some vs=>some (v::vs)
  |_,_=>none
noncomputable def AY(a:St)(r:cA)(f:sU (xm a)→Prop):Prop:=
 match Cu r a with
 |some vs=>BL (xm a) vs f
 |none=>False
def mJ:St→List Value→cA→cA
 |(i,_)::l,v::vs,r=>(i,v)::mJ l vs r
 |_,_,r=>r
noncomputable def L5(r:cA)(l:List Nat):Option cA:=
 fq (motive:=fun _=>Option cA) (some []) (fun t _ a=>match jE r t,a with
  |some v,some l=>some ((t,v)::l)
  |_,_=>none) l
noncomputable def kP(t:Nat)(l:List Oper):Bool:=
 fq (motive:=fun _=>Bool) false (fun o _ a=>match o.dst with|some d=>bif bF d t then true else a|none=>a) l
noncomputable def gb(t:Nat)(c:Code):Bool:=
 Code.rec (motive:=fun _=>Bool) false (fun _ ops _=>kP t ops.toList) (fun _ _ a b=>bif a then true else b) (fun _ _ _ a b=>bif a then true else b)
  (fun _ _ b=>b) (fun _ b=>b) (fun _ _ _ _ _ _=>true) (fun _=>false) (fun _ b=>b) (fun _=>false) (fun _=>false) false (fun _=>false) c
inductive Ann where
 |nil
 |node (a b:Ann)
 |join (st:St) (a b:Ann)
 |loop (st:St) (b:Ann)
 |draw (d:DA)
 |kinds (k v:Kind)
 |reg (keep:List Nat) (inner:Ann)
 |rf (ks:List Kind) (a b:Ann)
def Ann.l:Ann→Ann
 | .node a _=>a
 | .rf _ a _=>a
 |_=>.nil
def Ann.r:Ann→Ann
 | .node _ b=>b
 | .rf _ _ b=>b
 |_=>.nil
noncomputable def N7(l:List Oper):Nat:=fq (motive:=fun _=>Nat) 0 (fun o _ a=>cO (mN o) a) l
def TI:Option Nat→Option Nat→Option Nat
 |some a,some b=>some (cO a b)
 |_,_=>none
noncomputable def wI(c:Code):Option Nat:=
 Code.rec (motive:=fun _=>Option Nat) (some 0) (fun _ ops _=>some (N7 ops.toList)) (fun _ _ a b=>TI a b) (fun _ _ _ a b=>TI a b)
  (fun _ _ b=>b) (fun _ b=>b) (fun _ _ _ _ _ _=>none) (fun _=>some 0) (fun _ b=>b) (fun _=>some 0) (fun _=>some 0) (some 0) (fun _=>some 0) c
noncomputable def ve(m:Nat)(r:cA):cA:=fq (motive:=fun _=>cA) [] (fun b _ a=>bif tb m b.1 then a else b::a) r
noncomputable def zV(P:Program)(N:Nat)(ops:List Oper)(b:Bool)(a:Ann)(Kn:cA→ad→Prop)(r:cA)(h:ad):Prop:=
 match b with
 |false=>(match a with
  | .kinds kk vk=>Cz P N (some (kk,vk)) ops ops [] Kn r h
  |_=>Cz P N none ops ops [] Kn r h)
 |true=>bif B6 ops (L0 ops)then mr P N ops (L0 ops) (match a with| .draw da=>da|_=>S1 P ops (L0 ops) (Nat.add (Nat.add ops.length ops.length) 2) 0 []) false 0 [] [] Kn r h else False
noncomputable def j2(P:Program)(N:Nat)(c:Code):Ann→(cA→ad→Prop)→(Ex→cA→ad→Prop)→cA→ad→Prop:=
 Code.rec (motive:=fun _=>Ann→(cA→ad→Prop)→(Ex→cA→ad→Prop)→cA→ad→Prop)
  (fun _ Kn _ r h=>Kn r h)
  (fun _ ops q d Kn _ r h=>match d with
   | .reg keep d=>zV P N ops.toList q d (fun g f=>match L5 g keep with|some r0=>Kn r0 f|none=>False) r h
   |d=>zV P N ops.toList q d Kn r h)
  (fun a _ k j d Kn Kx r h=>match d with
   | .join st aa ab=>(match wI a with
     |none=>False
     |some m=>Join (T:=sU (xm st)) (fun t f=>j ab Kn Kx (mJ st (me (xm st) t) (ve m r)) f)
      fun J=>k aa (fun g f=>AY st g fun t=>J t f) Kx r h)
   |d=>k d.l (fun g f=>j d.r Kn Kx g f) Kx r h)
  (fun c _ _ k j d Kn Kx r h=>match dh r c with
   |some (.bool t)=>CondP t (k d.l Kn Kx r h) (j d.r Kn Kx r h)
   |_=>False)
  (fun id _ p d Kn Kx r h=>p d Kn (fun e g f=>match e with
    | .exit i=>bif bF i id then Kn g f else Kx (.exit i) g f
    | .ret=>Kx .ret g f) r h)
  (fun b p d _ Kx r h=>match d with
   | .loop st ab=>(match wI b with
     |none=>False
     |some m=>AY st r fun s=>LoopP (T:=sU (xm st)) (fun n t f=>p ab (fun g o=>AY st g fun u=>n u o) Kx (mJ st (me (xm st) t) (ve m r)) f) s h)
   |_=>False)
  (fun _ _ _ _ _ _ _ _ _ _ _=>False)
  (fun id _ _ Kx r h=>Kx (.exit id) r h)
  (fun _ _ _ _ _ _ _=>False)
  (fun _ _ Kn _ r h=>Kn r h)
  (fun _ _ _ _ _ _=>False)
  (fun _ _ Kx r h=>Kx .ret r h)
  (fun _ _ _ _ _ _=>False)
  c
noncomputable def mK(P:Program)(r:cA)(h:ad):List ResultVar→(List Value→Prop)→Prop
 | [],K=>K []
 | .tmp t::l,K=>(match jE r t with|some v=>mK P r h l fun vs=>K (v::vs)|none=>False)
 | .cell a t::l,K=>(match jE r a with
  |some v=>HH P t v (fun x _=>mK P r h l fun vs=>K (x::vs)) h
  |none=>False)
def o5:Nat→List Value→cA
 |_,[]=> []
 |i,v::vs=>(i,v)::o5 (i+1) vs
noncomputable def CA(P:Program)(fn:Func)(c:Code)(b:Ann)(args:List Value)(ks:List Kind)(K:sU ks→ad→Prop)(h:ad):Prop:=
 j2 P fn.ntmps c b
  (fun r a=>mK P r a fn.results.toList fun vs=>BL ks vs fun t=>K t a)
  (fun e r a=>match e with
   | .ret=>mK P r a fn.results.toList fun vs=>BL ks vs fun t=>K t a
   | .exit _=>False)
  (o5 0 args) h
def Dh:List Oper→Option (Oper×Oper×Operand×Nat×FuncId×List Operand)
 | [m,o]=>match m.op,m.guard,m.dst,o.op,o.dst,o.guard with
  | .move x,none,some d,.defer c,none,none=>(match c.callee with
   | .value (.func f)=>some (m,o,x,d,f,c.args.toList)
   |_=>none)
  |_,_,_,_,_,_=>none
 |_=>none
inductive Mk where
 |it (n:Nat)
 |call (f:FuncId) (vs:List Value)
def HD(P:Program)(f:FuncId)(args:List Value)(K:ad→Prop)(h:ad):Prop:=
 ∀w:World,w.heap=h→(∀(args:Array Value) (w:World),(callFunc f args).run P w=.ok (.enter f args) w)∧∀n:Nat,CallsDIn {fn:=fun _=>True,depth:=none,alive:=false,round:=none} n P f args.toArray .returning w fun e u w'=>u=.returning∧Tame w w'∧(∃v,e=.returned v)∧K w'.heap
noncomputable def qv(c:Code):Bool:=
 Code.rec (motive:=fun _=>Bool) false (fun _ ops _=>(Dh ops.toList).isSome) (fun _ _ a b=>bif a then true else b) (fun _ _ _ a b=>bif a then true else b)
  (fun _ _ b=>b) (fun _ b=>b) (fun _ _ _ _ _ _=>true) (fun _=>false) (fun _ b=>b) (fun _=>false) (fun _=>false) false (fun _=>false) c
def GB:Option Ex→Option Code
 |none=>none
 |some (.exit i)=>some (.exit i)
 |some .ret=>some .ret
def Uz(N:ad→Prop)(X:Nat→ad→Prop)(R:ad→Prop):Option Ex→ad→Prop
 |none=>N
 |some (.exit i)=>X i
 |some .ret=>R
structure RangeP(P:Program)(fv:Value)(ks:List Kind)(h:ad)(RT:Obj→Obj→sU ks→(Option Ex→ad→Prop)→ad→Prop)(N:ad→Prop)(X:Nat→ad→Prop)(R:ad→Prop):Prop where
 run:∀lo:LoopState→Option Ex→Obj,(∀s j,∃r,lo s j=.loop r)→
  (∀x h' K,h'[h.size+1]? =some (lo .ready none)→
   RT (lo .ready none) (lo .busy none) x (fun j h2=>h2[h.size+1]? =some (lo .busy none)∧K j.isNone (h2.setIfInBounds (h.size+1) (lo (if j.isNone then .ready else .done) j))) h'→
   HV P (.func (.yield (h.size+1)) #[] #[]) (me ks x) [.c .bool] K h')→
  ∃f first cap,fv=.func (.func f) first cap∧HE P f (first.toList++ [.func (.yield (h.size+1)) #[] #[]]++cap.toList) []
   (fun _ h2=>∃s j,s≠ .busy∧h2[h.size+1]? =some (lo s j)∧Uz N X R j (h2.setIfInBounds (h.size+1) (lo .exhausted j))) ((h.push (.deferred (some []))).push (lo .ready none))
def Qj:List Nat→List Value→cA→cA
 |i::l,v::vs,r=>Qj l vs ((i,v)::r)
 |_,_,r=>r
noncomputable def Jv(P:Program)(N:Nat)(ps:List Nat)(ks:List Kind)(assign body:Code)(b:Ann)(r:cA)(l:Nat)(EX f:Obj)(x:sU ks)(k:Option Ex→ad→Prop)(h:ad):Prop:=
 j2 P N assign b.l (fun d c=>c[l]? =some EX∧j2 P N body b.r (fun _ a=>k none a) (fun e _ a=>k (some e) a) d (c.setIfInBounds l f)) (fun _ _ _=>False) (Qj ps (me ks x) r) h
def xx(N:Nat):List Nat→Bool
 | []=>true
 |n::l=>wm n N&&xx N l
noncomputable def xq(P:Program)(N:Nat)(c:Code):Ann→(List Mk→cA→ad→Prop)→(Ex→List Mk→cA→ad→Prop)→List Mk→cA→ad→Prop:=
 Code.rec (motive:=fun _=>Ann→(List Mk→cA→ad→Prop)→(Ex→List Mk→cA→ad→Prop)→List Mk→cA→ad→Prop)
  (fun j Kn Kx ms r h=>j2 P N .skip j (Kn ms) (fun e=>Kx e ms) r h)
  (fun id ops q j Kn Kx ms r h=>match Dh ops.toList with
   |none=>j2 P N (.region id ops q) j (Kn ms) (fun e=>Kx e ms) r h
   |some (_,_,x,d,f,as)=>bif q then False else match dh r x with
    |some v=>bif wm d N then(match mV ((d,v)::r) as with|some vs=>Kn (.call f vs::ms) ((d,v)::r) h|none=>False)else False
    |none=>False)
  (fun a b o n j Kn Kx ms r h=>bif (bif qv a then true else qv b)then o j.l (fun ms p m=>n j.r Kn Kx ms p m) Kx ms r h
   else j2 P N (.seq a b) j (Kn ms) (fun e=>Kx e ms) r h)
  (fun c a b o n j Kn Kx ms r h=>bif (bif qv a then true else qv b)then
    (match dh r c with
     |some (.bool t)=>CondP t (o j.l Kn Kx ms r h) (n j.r Kn Kx ms r h)
     |_=>False)
   else j2 P N (.cond c a b) j (Kn ms) (fun e=>Kx e ms) r h)
  (fun id b s j Kn Kx ms r h=>bif qv b then s j Kn (fun e ms p m=>match e with
    | .exit i=>bif bF i id then Kn ms p m else Kx (.exit i) ms p m
    | .ret=>Kx .ret ms p m) ms r h
   else j2 P N (.block id b) j (Kn ms) (fun e=>Kx e ms) r h)
  (fun b _ j Kn Kx ms r h=>j2 P N (.loop b) j (Kn ms) (fun e=>Kx e ms) r h)
  (fun g ps assign body _ _ j Kn Kx ms r h=>match j with
   | .rf ks aa ab=>bif xx N ps.toList&&bF ps.toList.length ks.length then
    (match dh r g with
     |some fv=>RangeP P fv ks h (fun EX u x k m=>Jv P N ps.toList ks assign body (.node aa ab) r (h.size+1) EX u x k m)
      (fun m=>Kn (.it h.size::ms) r m) (fun i m=>Kx (.exit i) (.it h.size::ms) r m) (fun m=>Kx .ret (.it h.size::ms) r m)
     |none=>False)else False
   |_=>False)
  (fun id j Kn Kx ms r h=>j2 P N (.exit id) j (Kn ms) (fun e=>Kx e ms) r h)
  (fun _ _ _ _ _ _ _ _=>False)
  (fun l j Kn Kx ms r h=>j2 P N (.label l) j (Kn ms) (fun e=>Kx e ms) r h)
  (fun _ _ _ _ _ _ _=>False)
  (fun j Kn Kx ms r h=>j2 P N .ret j (Kn ms) (fun e=>Kx e ms) r h)
  (fun _ _ _ _ _ _ _=>False)
  c
def Hv(P:Program):List Mk→(ad→Prop)→ad→Prop
 | [],K,h=>K h
 | .it D::ms,K,h=>h[D]? =some (.deferred (some []))∧Hv P ms K (h.setIfInBounds D (.deferred none))
 | .call f vs::ms,K,h=>HD P f vs (fun a=>Hv P ms K a) h
noncomputable def Jw(P:Program)(fn:Func)(c:Code)(b:Ann)(args:List Value)(ks:List Kind)(K:sU ks→ad→Prop)(h:ad):Prop:=
 xq P fn.ntmps c b
  (fun ms r a=>Hv P ms (fun a=>mK P r a fn.results.toList fun vs=>BL ks vs fun t=>K t a) a)
  (fun e ms r a=>match e with
   | .ret=>Hv P ms (fun a=>mK P r a fn.results.toList fun vs=>BL ks vs fun t=>K t a) a
   | .exit _=>False)
  [] (o5 0 args) h
end Go.Lift
namespace Go.Lift
open Go
theorem Dx(a:Addr):adr a 0=a:=rfl
theorem y2(a:Addr)(n:Nat):adr a (n+1)=⟨a.block,a.off+(n+1),none⟩:=rfl
theorem sB(a:Addr)(n:Nat):adr a n=a.add n:=by
 cases n with
 |zero=>simp[Dx,Addr.add]
 |succ n=>simp[y2,Addr.add]
theorem y3(a:Addr)(m n:Nat):adr (adr a m) n=adr a (m+n):=by
 cases n with
 |zero=>rfl
 |succ n=>cases m with
  |zero=>simp[Dx]
  |succ m=>rw[y2,y2,show m+1+(n+1)=(m+1+n)+1 from rfl,y2];simp;omega
theorem Tame.refl(w:World):Tame w w:=⟨rfl,rfl,rfl⟩
theorem Tame.trans{a b c:World}(h:Tame a b)(k:Tame b c):Tame a c:=⟨k.os.trans h.os,k.tape.trans h.tape,k.output.trans h.output⟩
theorem yH{a b:IntKind}(h:Gw a b=true):a=b:=by cases a<;>cases b<;>first|rfl|cases h
theorem CK.dec_sound{c:CK}{v:Value}{f:c.den→Prop}(h:c.dec v f):∃x,v=c.enc x∧f x:=by
 cases c<;>cases v<;>try simp only[CK.dec]at h
 case int.int k k' n=>
  cases hk:Gw k' k with
  |false=>rw[hk]at h;exact h.elim
  |true=>rw[hk]at h;have:=yH hk;subst this;exact⟨n,rfl,h⟩
 case adr.pointer p=>cases p with
  |none=>exact h.elim
  |some a=>exact⟨a,rfl,h⟩
 all_goals first|exact h.elim|exact⟨_,rfl,h⟩
theorem Bj:∀{cs:List CK} {vs:List Value} {f:P6 cs→Prop},Mr cs vs f→∃t,vs=PJ cs t∧f t
 | [],[],f,h=>⟨(),rfl,h⟩
 | [],_::_,f,h=>h.elim
 | [c],[v],f,h=>by obtain⟨x,rfl,a⟩:=CK.dec_sound h;exact⟨x,rfl,a⟩
 | [c],[],f,h=>h.elim
 | [c],_::_::_,f,h=>h.elim
 |c::d::cs,[],f,h=>h.elim
 |c::d::cs,[_],f,h=>h.elim
 |c::d::cs,v::u::vs,f,h=>by
  have b:c.dec v fun x=>Mr (d::cs) (u::vs) fun t=>f (x,t):=h
  obtain⟨x,hx,e⟩:=CK.dec_sound b;obtain⟨t,i,g⟩:=Bj (cs:=d::cs) (vs:=u::vs) e;exact⟨(x,t),by rw[i,hx];rfl,g⟩
theorem Kind.dec_sound{k:Kind}{v:Value}{f:k.den→Prop}(h:k.dec v f):∃x,v=k.enc x∧f x:=by
 cases k with
 |c k=>exact CK.dec_sound h
 |agg cs=>
  cases v<;>simp only[Kind.dec]at h
  case agg vs=>
   obtain⟨t,b,a⟩:=Bj h;exact⟨t,by simp only[Kind.enc,←b],a⟩
theorem qB:∀{ks:List Kind} {vs:List Value} {f:sU ks→Prop},BL ks vs f→∃t,vs=me ks t∧f t
 | [],[],f,h=>⟨(),rfl,h⟩
 | [],_::_,f,h=>h.elim
 | [c],[v],f,h=>by obtain⟨x,rfl,a⟩:=Kind.dec_sound h;exact⟨x,rfl,a⟩
 | [c],[],f,h=>h.elim
 | [c],_::_::_,f,h=>h.elim
 |c::d::cs,[],f,h=>h.elim
 |c::d::cs,[_],f,h=>h.elim
 |c::d::cs,v::u::vs,f,h=>by
  have b:c.dec v fun x=>BL (d::cs) (u::vs) fun t=>f (x,t):=h
  obtain⟨x,hx,e⟩:=Kind.dec_sound b;obtain⟨t,i,g⟩:=qB (ks:=d::cs) (vs:=u::vs) e;exact⟨(x,t),by rw[i,hx];rfl,g⟩
theorem rq:∀(ks:List Kind) (t:sU ks),(me ks t).length=ks.length
 | [],_=>rfl
 | [_],_=>rfl
 |_::l::ks,(_,t)=>by simp only[me,aN,rq (l::ks) t]
structure Agree(N:Nat)(r:cA)(a:Act):Prop where
 size:a.tmps.size=N
 look:∀t v,jE r t=some v→a.tmps.getD t undef=v
theorem g6(k:Nat)(v:Value)(r:cA):jE ((k,v)::r) k=some v:=by rw[CH,show bF k k=true from Nat.beq_refl k];rfl
theorem gw{k t:Nat}(v:Value)(r:cA)(h:k≠t):jE ((k,v)::r) t=jE r t:=by
 rw[CH];have:bF k t=false:=Bool.eq_false_iff.2 fun e=>h (aZ e)
 rw[this];rfl
theorem Agree.put{N:Nat}{r:cA}{a:Act}(h:Agree N r a)(d:Nat)(v:Value)(hd:d<N):Agree N ((d,v)::r) (a.put (some d) v):=by
 refine⟨by simp[Act.put,h.size],fun t u b=>?_⟩
 by_cases e:d=t
 ·subst e
  rw[g6]at b;cases b;simp[Act.put,h.size,hd]
 ·rw[gw v r e]at b
  have:=h.look t u b;simpa[Act.put,Array.getElem?_setIfInBounds_ne e]using this
theorem Agree.known{N:Nat}{r:cA}{a:Act}(h:Agree N r a){t:Nat}{v:Value}(hv:jE r t=some v):Agree N ((t,v)::r) a:=by
 refine⟨h.size,fun s u b=>?_⟩
 by_cases e:t=s
 ·subst e;rw[g6]at b;cases b;exact h.look t v hv
 ·rw[gw v r e]at b;exact h.look s u b
theorem jF{N:Nat}{r:cA}{a:Act}(h:Agree N r a){o:Operand}{v:Value}(hv:dh r o=some v):a.eval o=v:=by
 cases o with
 |tmp t=>exact h.look t v hv
 |const c=>simp[dh]at hv;subst hv;rfl
 |global g=>simp[dh]at hv;subst hv;rfl
 |func f=>simp[dh]at hv;subst hv;rfl
theorem lF{N:Nat}{r:cA}{a:Act}(h:Agree N r a):∀{os:List Operand} {vs:List Value},mV r os=some vs→os.map a.eval=vs
 | [],vs,hv=>by simp[mV]at hv;subst hv;rfl
 |o::os,vs,hv=>by
  simp only[mV]at hv;cases ho:dh r o with
  |none=>simp[ho]at hv
  |some v=>cases hos:mV r os with
   |none=>simp[ho,hos]at hv
   |some us=>simp[ho,hos]at hv;subst hv;simp[jF h ho,lF h hos]
theorem ax{P:Program}{t:TypeId}{d:TypeDesc}(h:P.underlying t=some d)(w:World):(underlying t).run P w=.ok d w:=by
 simp only[underlying,program,bind,Sem.bind,Sem.run,h,pure]
theorem cM{P:Program}{t:TypeId}{i:TypeInfo}(h:P.info? t=some i)(w:World):(typeInfo t).run P w=.ok i w:=by
 simp only[typeInfo,program,bind,Sem.bind,Sem.run,h,pure]
theorem iA{P:Program}{s:Sem Value}{v:Value}{w w':World}(h:s.run P w=.ok v w'):(do pure (Next.value (←s)):Sem Next).run P w=.ok (.value v) w':=by
 simp[h]
theorem OA{P:Program}{s:Sem Unit}{w w':World}(h:s.run P w=.ok () w'):(do s;pure Next.skip:Sem Next).run P w=.ok .skip w':=by
 simp[h]
theorem yr{P:Program}{w:World}{a:Addr}{v:Value}(h:aM w.heap a=some v):(load a).run P w=.ok v w:=by
 have b:w.cell? a=some v:=h;simp[b]
theorem yV{v:Value}{vs:List Value}{i:Nat}{a:Addr}{h:ad}:rv (v::vs) i a h↔aM h (adr a i)=some v∧rv vs (i+1) a h:=by
 cases vs with
 |nil=>simp[rv]
 |cons u us=>rfl
theorem q9{P:Program}{w:World}{a:Addr}:∀(vs:List Value) (i:Nat) (acc:Array Value),rv vs i a w.heap→
  (loadCellsFrom a i vs.length acc).run P w=.ok (acc++vs.toArray) w
 | [],i,acc,_=>by simp[loadCellsFrom]
 |v::vs,i,acc,h=>by
  obtain⟨b,c⟩:=yV.1 h;rw[sB]at b;have:=q9 (P:=P) (w:=w) (a:=a) vs (i+1) (acc.push v) c;simp only[aN,loadCellsFrom,Sem.run_bind,yr b,Result.andThen_ok,this];simp
theorem D9{P:Program}{w:World}{a:Addr}{vs:List Value}(h:rv vs 0 a w.heap):(loadCells a vs.length).run P w=.ok vs.toArray w:=by
 have:=q9 (P:=P) (w:=w) (a:=a) vs 0 #[] h;simpa[loadCells]using this
theorem wQ:∀(cs:List CK) (i:Nat) (a:Addr) (h:ad) (k:List Value→Prop),GC cs i a h k→∃vs,vs.length=cs.length∧rv vs i a h∧k vs
 | [],i,a,h,k,b=>⟨[],rfl,trivial,b⟩
 |c::cs,i,a,h,k,b=>by
  obtain⟨x,hx,b⟩:=b;obtain⟨vs,d,hc,b⟩:=wQ cs (i+1) a h _ b;exact⟨c.enc x::vs,by simp[d],yV.2 ⟨hx,hc⟩,b⟩
theorem yT:∀{vs:List Value} {cs:List CK},Dl vs=some cs→cs.length=vs.length
 | [],cs,h=>by simp[Dl]at h;subst h;rfl
 |v::vs,cs,h=>by
  simp only[Dl]at h;cases h1:SX v with
  |none=>simp[h1]at h
  |some c=>cases h2:Dl vs with
   |none=>simp[h1,h2]at h
   |some ds=>simp[h1,h2]at h;subst h;simp[yT h2]
def P2(P:Program)(t:TypeId)(i:TypeInfo):Kind→Prop
 | .c _=>ul P t=false
 | .agg cs=>ul P t=true∧i.size=cs.length
theorem Kd{P:Program}{t:TypeId}{k:Kind}(h:L4 P t=some k):∃i,P.info? t=some i∧P2 P t i k:=by
 unfold L4 wG at h;cases hi:P.info? t with
 |none=>simp[hi]at h
 |some i=>
  refine⟨i,rfl,?_⟩;cases hz:i.zero with
  |none=>simp[hi,hz]at h
  |some z=>
   rw[hi]at h;simp only[hz]at h;cases z;case agg vs=>
    simp only at h;cases hb:(ul P t&&bF vs.toList.length (bS P t))with
    |false=>rw[hb]at h;simp at h
    |true=>
     rw[hb]at h;simp only[cond_true]at h;simp only[Bool.and_eq_true]at hb;have a:=aZ hb.2;cases hd:Dl vs.toList with
     |none=>rw[hd]at h;simp at h
     |some ds=>
      rw[hd]at h;simp only[bv.injEq]at h;subst h;exact⟨hb.1,by rw[yT hd,a];simp[bS,hi]⟩
   all_goals
    simp only at h;cases ha:ul P t
    ·rw[ha]at h
     simp only[cond_false]at h;split at h
     ·simp only[bv.injEq]at h;subst h;exact ha
     ·simp at h
    ·rw[ha]at h;simp at h
theorem Ke{P:Program}{t:TypeId}{k:Kind}(h:CX P t=some k):(∀w,(isAgg t).run P w=.ok (ul P t) w)∧L4 P t=some k:=by
 unfold CX at h;cases hu:P.underlying t with
 |none=>simp[hu]at h
 |some d=>
  simp only[hu]at h;refine⟨fun w=>?_,h⟩
  simp only[isAgg,Sem.run_bind,ax hu,Result.andThen_ok];unfold ul;rw[hu];cases d<;>rfl
theorem A7{P:Program}{t:TypeId}{v:Value}{K:RK}{h:ad}(d:HH P t v K h):
  ∃u S,K u (some S)∧S h∧∀w:World,S w.heap→(Instr.loadAt t v).run P w=.ok u w:=by
 unfold HH at d;cases v with
 |pointer p=>
  cases p with
  |none=>exact d.elim
  |some a=>
   simp only at d;cases hk:CX P t with
   |none=>simp[hk]at d
   |some k=>
    obtain⟨b,hz⟩:=Ke hk;obtain⟨i,hi,hc⟩:=Kd hz;rw[hk]at d;cases k with
    |c c=>
     obtain⟨x,hx,f⟩:=d;refine⟨_,_,f,hx,fun w j=>?_⟩
     have hc:ul P t=false:=hc;simp only[Instr.loadAt,Instr.sureAddr,loadVar,Sem.run_bind,Sem.run_pure,Result.andThen_ok,b,hc];simp[yr j]
    |agg cs=>
     obtain⟨vs,e,g,f⟩:=wQ cs 0 a h _ d;obtain⟨m,n⟩:ul P t=true∧i.size=cs.length:=hc;refine⟨_,_,f,g,fun w j=>?_⟩
     have hz:(sizeOf t).run P w=.ok vs.length w:=by simp[sizeOf,cM hi,n,e]
     simp only[Instr.loadAt,Instr.sureAddr,loadVar,Sem.run_bind,Sem.run_pure,Result.andThen_ok,b,m];simp[hz,D9 j]
 |_=>exact d.elim
end Go.Lift
