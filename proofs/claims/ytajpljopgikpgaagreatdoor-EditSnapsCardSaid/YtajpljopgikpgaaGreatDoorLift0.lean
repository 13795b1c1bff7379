/- A part of the proof that the named laws of this program answer true, whatever the input. -/
import Derived.OrdersIn
import Derived.Below
import Derived.WalkKit
import Derived.RangeFuncRecord
import Derived.DefersIn
open BitVec renaming ofInt→ai
open Iff renaming rfl→tO
open List renaming rec→d9,replicate→gi,length_cons→aO
open Nat renaming succ→eB,beq→aY,ble→tN,min→cP,blt→tM,land→gJ,lor→ce,pred→tw,eq_of_beq_eq_true→aI
open Option renaming some→bi
namespace Go.Lift
abbrev ad:=Array Obj
def aG(h:ad)(a:Addr):Option Value:=
 match h[a.block]? with
 |some (.cells c _ _)=>if a.spot.isSome then none else c[a.off]?
 |_=>none
def zo(h:ad)(a:Addr):Bool:=
 match h[a.block]? with
 |some (.cells _ _ (lo,hi))=>lo≤a.off&&a.off<hi
 |_=>false
def hset(h:ad)(a:Addr)(v:Value):ad:=
 h.modify a.block fun
  | .cells c elem frozen=>.cells (if a.spot.isSome then c else c.setIfInBounds a.off v) elem frozen
  |o=>o
noncomputable def adr(a:Addr)(n:Nat):Addr:=Nat.rec (motive:=fun _=>Addr) a (fun n _=>⟨a.block,a.off+eB n,none⟩) n
def Wr(h:ad)(a:Addr):Prop:=(∃v,aG h a=some v)∧zo h a=false
structure Tame(w w':World):Prop where
 os:w'.os=w.os
 tape:w'.tape=w.tape
 output:w'.output=w.output
structure SliceV where
 a:Option Addr
 len:Nat
 cap:Nat
def Dm:IntKind→IntKind→Bool
 | .i8,.i8=>true| .i16,.i16=>true| .i32,.i32=>true| .i64,.i64=>true
 | .u8,.u8=>true| .u16,.u16=>true| .u32,.u32=>true| .u64,.u64=>true
 |_,_=>false
inductive CK where
 |int (k:IntKind)|bool|str|ptr|slice|map|chan|raw|adr
def CK.den:CK→Type
 | .int _=>Int| .bool=>Bool| .str=>ByteArray| .ptr=>Option Addr| .slice=>SliceV| .map=>Option Nat| .chan=>Option Nat| .raw=>Value| .adr=>Addr
def CK.enc:(c:CK)→c.den→Value
 | .int k,n=>.int k n
 | .bool,b=>.bool b
 | .str,s=>.string s
 | .ptr,p=>.pointer p
 | .slice,s=>.slice s.a s.len s.cap
 | .map,r=>.map r
 | .chan,r=>.chan r
 | .raw,v=>v
 | .adr,a=>.pointer (some a)
def CK.dec:(c:CK)→Value→(c.den→Prop)→Prop
 | .int k,.int k' n,f=>bif Dm k' k then f n else False
 | .bool,.bool b,f=>f b
 | .str,.string s,f=>f s
 | .ptr,.pointer p,f=>f p
 | .slice,.slice a l c,f=>f ⟨a,l,c⟩
 | .map,.map r,f=>f r
 | .chan,.chan r,f=>f r
 | .raw,v,f=>f v
 | .adr,.pointer (some a),f=>f a
 |_,_,_=>False
def Ll:List CK→Type
 | []=>Unit
 | [c]=>c.den
 |c::d::cs=>c.den×Ll (d::cs)
def K3:(cs:List CK)→Ll cs→List Value
 | [],_=> []
 | [c],x=> [c.enc x]
 |c::d::cs,(x,t)=>c.enc x::K3 (d::cs) t
def HP:(cs:List CK)→List Value→(Ll cs→Prop)→Prop
 | [],[],f=>f ()
 | [c],[v],f=>c.dec v f
 |c::d::cs,v::u::vs,f=>c.dec v fun x=>HP (d::cs) (u::vs) fun t=>f (x,t)
 |_,_,_=>False
inductive Kind where
 |c (k:CK)
 |agg (cs:List CK)
def Kind.den:Kind→Type
 | .c k=>k.den
 | .agg cs=>Ll cs
def Kind.enc:(k:Kind)→k.den→Value
 | .c k,x=>k.enc x
 | .agg cs,t=>.agg (K3 cs t).toArray
def Kind.dec:(k:Kind)→Value→(k.den→Prop)→Prop
 | .c k,v,f=>k.dec v f
 | .agg cs,.agg vs,f=>HP cs vs.toList f
 |_,_,_=>False
def qI:List Kind→Type
 | []=>Unit
 | [k]=>k.den
 |k::l::ks=>k.den×qI (l::ks)
def ki:(ks:List Kind)→qI ks→List Value
 | [],_=> []
 | [k],x=> [k.enc x]
 |k::l::ks,(x,t)=>k.enc x::ki (l::ks) t
def yX:(ks:List Kind)→List Value→(qI ks→Prop)→Prop
 | [],[],f=>f ()
 | [k],[v],f=>k.dec v f
 |k::l::ks,v::u::vs,f=>k.dec v fun x=>yX (l::ks) (u::vs) fun t=>f (x,t)
 |_,_,_=>False
def yS(ks:List Kind)(vs:List Value):Value:=
 match ks,vs with
 | [_],[v]=>v
 |_,vs=>.tuple vs.toArray
def Np:Value→Option CK
 | .int k _=>some (.int k)
 | .bool _=>some .bool
 | .string _=>some .str
 | .pointer _=>some .ptr
 | .slice .. =>some .slice
 | .map _=>some .map
 | .chan _=>some .chan
 | .nilFunc=>some .raw
 | .nilIface=>some .raw
 |_=>none
def AO:List Value→Option (List CK)
 | []=>some []
 |v::vs=>match Np v,AO vs with
  |some c,some cs=>some (c::cs)
  |_,_=>none
def rI(P:Program)(t:TypeId):Bool:=
 match P.underlying t with
 |some (.struct _)|some (.array _ _)=>true
 |_=>false
def bA(P:Program)(t:TypeId):Nat:=match P.info? t with|some i=>i.size|none=>0
def nD(P:Program)(t:TypeId):Nat:=match P.info? t with|some i=>i.bytes|none=>0
def ua(P:Program)(t:TypeId):Option Value:=match P.info? t with|some i=>i.zero|none=>none
def Hy(P:Program)(t:TypeId):Option Kind:=
 match ua P t with
 |some (.agg vs)=>bif rI P t&&aY vs.toList.length (bA P t)then(match AO vs.toList with|some cs=>some (.agg cs)|none=>none)else none
 |some v=>bif rI P t then none else(match Np v with|some c=>some (.c c)|none=>none)
 |none=>none
def As(P:Program)(t:TypeId):Option Kind:=
 match P.underlying t with
 |none=>none
 |some _=>Hy P t
structure HC(P:Program)(f:FuncId)(args:List Value)(ks:List Kind)(K:qI ks→ad→Prop)(h:ad):Prop where
 run:∀w:World,w.heap=h→
  ((callFunc f args.toArray).run P w=.ok (.enter f args.toArray) w∧
   Calls P f args.toArray w fun e w'=>Tame w w'∧∃t:qI ks,e=.returned (yS ks (ki ks t))∧K t w'.heap)∨
  (∃v w',(callFunc f args.toArray).run P w=.ok (.value v) w'∧Tame w w'∧∃t:qI ks,v=yS ks (ki ks t)∧K t w'.heap)
structure HE(P:Program)(f:FuncId)(args:List Value)(ks:List Kind)(K:qI ks→ad→Prop)(h:ad):Prop where
 run:∀w:World,w.heap=h→(∀(args:Array Value) (w:World),(callFunc f args).run P w=.ok (.enter f args) w)∧
  Calls P f args.toArray w fun e w'=>Tame w w'∧∃t:qI ks,e=.returned (yS ks (ki ks t))∧K t w'.heap
theorem HE.hc{P:Program}{f:FuncId}{args:List Value}{ks:List Kind}{K:qI ks→ad→Prop}{h:ad}(e:HE P f args ks K h):HC P f args ks K h:=
 ⟨fun w a=>.inl ⟨(e.run w a).1 _ w,(e.run w a).2⟩⟩
structure HY(P:Program)(l:Nat)(args:List Value)(K:Bool→ad→Prop)(h:ad):Prop where
 run:∀w:World,w.heap=h→∃fn tmps assign body,(Instr.yield l args.toArray).run P w=.ok (.round l fn tmps assign body) w∧
  ∀(c:Frame) (cs:List Frame),∃b w',Tame w w'∧K b w'.heap∧Steps P (lone (Frame.round l fn tmps assign body .normal) (c::cs) w) (lone (c.finish (.bool b)) cs w')
structure HV(P:Program)(fv:Value)(args:List Value)(ks:List Kind)(K:qI ks→ad→Prop)(h:ad):Prop where
 run:(∃f first cap,fv=.func (.func f) first cap∧HC P f (first.toList++args++cap.toList) ks K h)∨
  (∃l,fv=.func (.yield l) #[] #[]∧HY P l args (fun b h'=>yX ks [.bool b] fun t=>K t h') h)
noncomputable def CondP(b:Bool)(t e:Prop):Prop:=Bool.rec (motive:=fun _=>Prop) e t b
theorem CondP.yes{b:Bool}{t e:Prop}(h:CondP b t e)(a:b=true):t:=by subst a;exact h
theorem CondP.no{b:Bool}{t e:Prop}(h:CondP b t e)(a:b=false):e:=by subst a;exact h
theorem CondP.intro{b:Bool}{t e:Prop}(c:b=true→t)(a:b=false→e):CondP b t e:=by cases b;exact a rfl;exact c rfl
theorem az{t e:Prop}:CondP true t e↔t:=tO
theorem ah{t e:Prop}:CondP false t e↔e:=tO
attribute [irreducible] CondP
def At(h:ad)(k:ad→Prop):Prop:=k h
def Bd{T:Type}(x:T)(k:T→Prop):Prop:=k x
structure Join{T:Type}(rest:T→ad→Prop)(k:(T→ad→Prop)→Prop):Prop where
 run:k rest
structure LoopP{T:Type}(F:(T→ad→Prop)→T→ad→Prop)(t:T)(h:ad):Prop where
 run:∀I:T→ad→Prop,(∀t h,F I t h→I t h)→I t h
abbrev bP:=List (Nat×Value)
noncomputable def il(r:bP)(t:Nat):Option Value:=
 d9 (motive:=fun _=>Option Value) none (fun a _ b=>bif aY a.1 t then some a.2 else b) r
theorem Ad(k:Nat)(v:Value)(r:bP)(t:Nat):il ((k,v)::r) t=bif aY k t then some v else il r t:=rfl
noncomputable def cA(r:bP):Operand→Option Value
 | .tmp t=>il r t
 | .const v=>some v
 | .global g=>some (.pointer (some ⟨g,0,none⟩))
 | .func f=>some (.func (.func f) #[] #[])
noncomputable def lg(r:bP):List Operand→Option (List Value)
 | []=>some []
 |o::os=>match cA r o,lg r os with
  |some v,some vs=>some (v::vs)
  |_,_=>none
noncomputable def Dt:List CK→Nat→Addr→ad→(List Value→Prop)→Prop
 | [],_,_,_,k=>k []
 |c::cs,i,a,h,k=>∃x:c.den,aG h (adr a i)=some (c.enc x)∧Dt cs (i+1) a h fun vs=>k (c.enc x::vs)
noncomputable def pF:List Value→Nat→Addr→ad→Prop
 | [],_,_,_=>True
 | [v],i,a,h=>aG h (adr a i)=some v
 |v::u::vs,i,a,h=>aG h (adr a i)=some v∧pF (u::vs) (i+1) a h
abbrev RK:=Value→Option (ad→Prop)→Prop
noncomputable def Et(P:Program)(t:TypeId)(v:Value)(K:RK)(h:ad):Prop:=
 match v with
 | .pointer (some a)=>
  match As P t with
  |some (.c c)=>∃x:c.den,aG h a=some (c.enc x)∧K (c.enc x) (some fun b=>aG b a=some (c.enc x))
  |some (.agg cs)=>Dt cs 0 a h fun vs=>K (.agg vs.toArray) (some fun b=>pF vs 0 a b)
  |none=>False
 |_=>False
def sS(P:Program)(t:TypeId)(f:Nat):Option (TypeId×Nat):=
 match P.underlying t with
 |some (.struct fs)=>match fs.toList[f]? with
  |some g=>some (g.type,g.offset)
  |none=>none
 |_=>none
def rU(P:Program)(t:TypeId):Option TypeId:=
 match P.underlying t with
 |some (.slice e)=>some e
 |_=>none
def FH(c:BinOp)(k:IntKind)(a b:Int)(K:RK):Prop:=
 match c with
 | .shl=>0≤b∧K (.int k (k.wrap (a*2^(min b.toNat k.bits)))) none
 | .shr=>0≤b∧K (.int k (a.fdiv (2^(min b.toNat k.bits)))) none
 |_=>False
def M5(c:BinOp)(k:IntKind)(a b:Int)(K:RK):Prop:=
 match c with
 | .add=>K (.int k (k.wrap (a+b))) none
 | .sub=>K (.int k (k.wrap (a-b))) none
 | .mul=>K (.int k (k.wrap (a*b))) none
 | .quo=>b≠0∧K (.int k (k.wrap (a.tdiv b))) none
 | .rem=>b≠0∧K (.int k (a.tmod b)) none
 | .and=>K (.int k (k.wrap (ai k.bits a&&&ai k.bits b).toNat)) none
 | .or=>K (.int k (k.wrap (ai k.bits a|||ai k.bits b).toNat)) none
 | .xor=>K (.int k (k.wrap (ai k.bits a^^^ai k.bits b).toNat)) none
 | .andNot=>K (.int k (k.wrap (ai k.bits a&&& ~~~ai k.bits b).toNat)) none
 | .eql=>K (.bool (a==b)) none
 | .neq=>K (.bool (a !=b)) none
 | .lss=>K (.bool (decide (a<b))) none
 | .leq=>K (.bool (decide (a≤b))) none
 | .gtr=>K (.bool (decide (a>b))) none
 | .geq=>K (.bool (decide (a≥b))) none
 |_=>False
def MN(c:BinOp)(a b:ByteArray)(K:RK):Prop:=
 match c with
 | .add=>((a.size+b.size:Nat):Int)≤9223372036854775807∧K (.string (a++b)) none
 | .eql=>K (.bool (a.toList==b.toList)) none
 | .neq=>K (.bool (!(a.toList==b.toList))) none
 | .lss=>K (.bool (Op.bytesLess a.toList b.toList)) none
 | .leq=>K (.bool (Op.bytesLess a.toList b.toList||a.toList==b.toList)) none
 | .gtr=>K (.bool (!(Op.bytesLess a.toList b.toList||a.toList==b.toList))) none
 | .geq=>K (.bool (!(Op.bytesLess a.toList b.toList))) none
 |_=>False
def du(h:ad)(a:Addr):Prop:=(∃c e,h[a.block]? =some (.cells c e (0,0))∧0<c.size)
def LP(P:Program)(t:TypeId)(neg:Bool)(x y:Value)(K:RK):Prop:=
 match P.underlying t,x,y with
 |some (.pointer _),.pointer a,.pointer none=>K (.bool (bif neg then !a.isNone else a.isNone)) none
 |some (.map _ _),.map a,.map none=>K (.bool (bif neg then !a.isNone else a.isNone)) none
 |some (.slice _),.slice a _ _,.slice none _ _=>K (.bool (bif neg then !a.isNone else a.isNone)) none
 |_,_,_=>False
def M4:Operand→Bool
 | .const (.pointer none)=>true
 | .const (.map none)=>true
 | .const (.slice none 0 0)=>true
 |_=>false
def Ms(P:Program)(t:TypeId)(neg:Bool)(x y:Value)(K:RK)(h:ad):Prop:=
 match P.underlying t,x,y with
 |some .bool,.bool a,.bool b=>K (.bool (bif neg then !(a==b)else a==b)) none
 |some (.pointer e),.pointer a,.pointer b=>
  (bif aY (bA P e) 0 then False else True)∧
  (∀x y,a=some x→b=some y→du h x∧du h y)∧
  K (.bool (bif neg then !(a==b)else a==b)) (some fun c=>∀x y,a=some x→b=some y→du c x∧du c y)
 |_,_,_=>False
def MU(P:Program)(c:BinOp)(t:TypeId)(x y:Value)(K:RK)(h:ad):Prop:=
 match x,y with
 | .int k a,.int k' b=>
  match c with
  | .shl=>FH .shl k a b K
  | .shr=>FH .shr k a b K
  |c=>bif Dm k' k then M5 c k a b K else False
 | .string a,.string b=>MN c a b K
 |x,y=>match c with
  | .eql=>Ms P t false x y K h
  | .neq=>Ms P t true x y K h
  |_=>False
def oF(h:ad):List (Option Addr×Option Addr)→Prop
 | []=>True
 |(a,b)::l=>(∀x y,a=some x→b=some y→du h x∧du h y)∧oF h l
def Kv(P:Program)(t:TypeId)(x y:Value):Option (Bool×List (Option Addr×Option Addr)):=
 match P.underlying t,x,y with
 |some (.int _),.int k a,.int k' b=>bif Dm k' k then some (a==b,[])else none
 |some .bool,.bool a,.bool b=>some (a==b,[])
 |some .string,.string a,.string b=>some (a.toList==b.toList,[])
 |some (.pointer e),.pointer a,.pointer b=>bif aY (bA P e) 0 then none else some (a==b,[(a,b)])
 |_,_,_=>none
def L3(P:Program)(rec:TypeId→List Value→List Value→Option (Bool×List (Option Addr×Option Addr)))(xs ys:List Value):List Field→Option (Bool×List (Option Addr×Option Addr))
 | []=>some (true,[])
 |f::fs=>
  if f.name= "_" then none else
  bif (P.underlying f.type).isSome&&(P.info? f.type).isSome then
   match(bif rI P f.type then rec f.type ((xs.drop f.offset).take (bA P f.type)) ((ys.drop f.offset).take (bA P f.type))
    else match xs[f.offset]?,ys[f.offset]? with|some x,some y=>Kv P f.type x y|_,_=>none),L3 P rec xs ys fs with
   |some (b,l),some (c,m)=>some (b&&c,l++m)
   |_,_=>none
  else none
def Kw(P:Program):Nat→TypeId→List Value→List Value→Option (Bool×List (Option Addr×Option Addr))
 |0,_,_,_=>none
 |d+1,t,xs,ys=>match P.underlying t with
  |some (.struct fs)=>bif P.stoodInHeld t then none else L3 P (Kw P d) xs ys fs.toList
  |_=>none
def OI(neg b:Bool)(K:RK)(h:ad):List (Option Addr×Option Addr)→Prop
 | []=>K (.bool (bif neg then !b else b)) none
 |p::l=>oF h (p::l)∧K (.bool (bif neg then !b else b)) (some fun a=>oF a (p::l))
def MV(P:Program)(a:BinOp)(t:TypeId)(xs ys:List Value)(K:RK)(h:ad):Prop:=
 bif P.eqGuardType P.depth t then False else
 match a with
 | .eql=>(match Kw P 10 t xs ys with|some (b,l)=>OI false b K h l|none=>False)
 | .neq=>(match Kw P 10 t xs ys with|some (b,l)=>OI true b K h l|none=>False)
 |_=>False
def Oo(a:UnOp)(x:Value)(K:RK):Prop:=
 match a,x with
 | .neg,.int k n=>K (.int k (k.wrap (0-n))) none
 | .xor,.int k n=>K (.int k (k.wrap (ai k.bits (if k.signed then-1 else k.max)^^^ai k.bits n).toNat)) none
 | .not,.bool b=>K (.bool (!b)) none
 |_,_=>False
def cT(s:ByteArray):List Value:=s.data.toList.map fun b=>.int .u8 b.toNat
noncomputable def Row(h:ad)(a:Addr)(vs:List Value):Prop:=∀i v,vs[i]? =some v→aG h (adr a i)=some v
noncomputable def SRow(h:ad)(a:Option Addr)(n:Nat)(vs:List Value):Prop:=vs.length=n∧(vs= []∨∃b,a=some b∧Row h b vs)
def Gp(P:Program)(e:TypeId):Bool:=match P.underlying e with|some (.int .u8)=>true|_=>false
def M3(P:Program)(s d:TypeId):Bool:=
 match P.underlying s,P.underlying d with
 |some .string,some (.slice e)=>Gp P e
 |_,_=>false
def ByP(e:TypeId)(s:ByteArray)(h:ad)(K:Nat→ad→Prop):Prop:=
 ∀c,s.size≤c→K c (h.push (.cells (cT s++gi (c-s.size) (Value.int .u8 0)).toArray e (c,c+1)))
noncomputable def JU(P:Program)(c b:TypeId)(x:Value)(K:RK)(h:ad):Prop:=
 match P.underlying c,P.underlying b,x with
 |some (.int _),some (.int k),.int _ n=>K (.int k (k.wrap n)) none
 |some .string,some .string,.string s=>K (.string s) none
 |some (.slice e),some .string,.slice a n _=>bif Gp P e then∃s:ByteArray,SRow h a n (cT s)∧K (.string s) (some fun d=>SRow d a n (cT s))else False
 |_,_,_=>False
def K6(v:Option Value)(d y:Nat)(K:Nat→Prop):Prop:=
 match v with
 |none=>K d
 |some (.int _ i)=>(0≤i∧i≤y)∧K i.toNat
 |_=>False
noncomputable def aK(a:Option Addr)(l m size:Nat):Option Addr:=if m=l then a else a.map (adr · (l*size))
def Kd(P:Program)(t:TypeId)(K:Prop):Prop:=match P.info? t with|some _=>K|none=>False
noncomputable def FY(P:Program)(t:TypeId)(x:Value)(lo hi b:Option Value)(K:RK):Prop:=
 match P.underlying t,x with
 |some .string,.string s=>match b with
  |some _=>False
  |none=>K6 hi s.size s.size fun h=>K6 lo 0 h fun l=>K (.string (s.extract l h)) none
 |some (.slice e),.slice a len cap=>Kd P e (
  match b with
  |none=>K6 hi len cap fun h=>K6 lo 0 h fun l=>K (.slice (aK a l cap (bA P e)) (h-l) (cap-l)) none
  |some m=>match hi with
   |none=>False
   |some hi=>K6 (some m) 0 cap fun m=>K6 (some hi) 0 m fun h=>K6 lo 0 h fun l=>K (.slice (aK a l m (bA P e)) (h-l) (m-l)) none)
 |some (.array n e),.pointer (some a)=>Kd P e (
  match b with
  |none=>K6 hi n n fun h=>K6 lo 0 h fun l=>K (.slice (aK (some a) l n (bA P e)) (h-l) (n-l)) none
  |some _=>False)
 |_,_=>False
noncomputable def Cj(r:bP):Option Operand→Option (Option Value)
 |none=>some none
 |some o=>match cA r o with
  |some v=>some (some v)
  |none=>none
noncomputable def uP(P:Program)(t:TypeId)(x i:Value)(K:RK):Prop:=
 match P.underlying t,x,i with
 |some (.array n e),.pointer (some a),.int _ i=>Kd P e ((0≤i∧i<n)∧K (.pointer (some (adr a (i.toNat*bA P e)))) none)
 |some (.slice e),.slice b len _,.int _ i=>Kd P e ((0≤i∧i<len)∧∃a,b=some a∧K (.pointer (some (adr a (i.toNat*bA P e)))) none)
 |_,_,_=>False
def F0(P:Program)(t:TypeId)(x i:Value)(K:RK):Prop:=
 match P.underlying t,x,i with
 |some .string,.string s,.int _ i=>∃b:UInt8,0≤i∧s[i.toNat]? =some b∧K (.int .u8 b.toNat) none
 |_,_,_=>False
noncomputable def F1(P:Program)(t:TypeId)(x:Value)(f:Nat)(K:RK):Prop:=
 match sS P t f,x with
 |some (u,off),.agg cs=>bif (P.underlying u).isSome&&(P.info? u).isSome then(bif rI P u then K (.agg ((cs.toList.drop off).take (bA P u)).toArray) none
  else(match cs.toList[off]? with|some v=>K v none|none=>False))else False
 |_,_=>False
def Mm(c a b:Value)(K:RK):Prop:=
 match c with
 | .bool c=>(match a,b with
  | .bool x,.bool y=>K (.bool (bif c then x else y)) none
  |_,_=>(match c with|true=>K a none|false=>K b none))
 |_=>False
def fI:Value→Value→Bool
 | .int _ a,.int _ b=>a==b
 | .string a,.string b=>a==b
 | .bool a,.bool b=>a==b
 |_,_=>false
def EX(k:Value):List MapEntry→Option Value
 | []=>none
 |e::es=>if fI k e.key then some e.val else EX k es
def Au(c:CK)(es:List MapEntry):Prop:=∀e∈es,∃x:c.den,e.key=c.enc x
def GS(c:CK)(z:Value)(h:ad)(m:Option Nat)(k v:Value)(a:Bool):Prop:=
 match m with
 |none=>v=z∧a=false
 |some r=>∃es clock,h[r]? =some (.map es clock)∧Au c es.toList∧
  (match EX k es.toList with|some u=>v=u∧a=true|none=>v=z∧a=false)
def EN(P:Program)(t:TypeId):Option (CK×TypeId):=
 match P.underlying t with
 |some (.map k e)=>match P.underlying k with
  |some (.int i)=>some (.int i,e)
  |some .string=>some (.str,e)
  |some .bool=>some (.bool,e)
  |_=>none
 |_=>none
def C4(P:Program)(t:TypeId)(x k:Value)(d:Bool)(K:RK)(h:ad):Prop:=
 match EN P t,x with
 |some (c,e),.map m=>c.dec k fun _=>
  (match As P e,ua P e with
   |some ek,some z=>∃(y:ek.den) (b:Bool),GS c z h m k (ek.enc y) b∧
    K (bif d then .tuple #[ek.enc y,.bool b]else ek.enc y) (some fun a=>GS c z a m k (ek.enc y) b)
   |_,_=>False)
 |_,_=>False
def Lj(h:ad)(m:Option Nat)(n:Nat):Prop:=
 match m with
 |none=>n=0
 |some r=>∃es clock,h[r]? =some (.map es clock)∧n=es.size
def CM(c:Bool)(h:ad)(m:Option Nat)(n:Nat):Prop:=
 match m with
 |none=>n=0
 |some r=>∃cap buf cl s q,h[r]? =some (.chan cap buf cl s q false)∧n=bif c then cap else buf.size
def MR(P:Program)(t:TypeId)(x:Value)(K:RK)(h:ad):Prop:=
 match P.underlying t,x with
 |some .string,.string s=>K (.int .i64 s.size) none
 |some (.array n _),_=>K (.int .i64 n) none
 |some (.slice _),.slice _ n _=>K (.int .i64 n) none
 |some (.map _ _),.map m=>∃n:Nat,Lj h m n∧K (.int .i64 n) (some fun a=>Lj a m n)
 |some (.chan _ _),.chan m=>∃n:Nat,CM false h m n∧K (.int .i64 n) (some fun a=>CM false a m n)
 |_,_=>False
def MS(P:Program)(t:TypeId)(x:Value)(K:RK)(h:ad):Prop:=
 match P.underlying t,x with
 |some (.slice _),.slice _ _ n=>K (.int .i64 n) none
 |some (.chan _ _),.chan m=>∃n:Nat,CM true h m n∧K (.int .i64 n) (some fun a=>CM true a m n)
 |_,_=>False
def Dh(c:Bool)(k:IntKind):Int→List Value→(Value→Prop)→Prop
 |a,[],f=>f (.int k a)
 |a,.int k' b::vs,f=>bif Dm k' k then Dh c k (bif c then(if b>a then b else a)else(if b<a then b else a)) vs f else False
 |_,_,_=>False
def zk(b:Bool)(vs:List Value)(f:Value→Prop):Prop:=
 match vs with
 | .int k a::vs=>Dh b k a vs f
 |_=>False
def GT(h:ad)(i:Nat)(e:MapEntry):Prop:=
 ∃m since seen last stamp es,h[i]? =some (.mapIter (some m) since seen last)∧seen.back? =some stamp∧h[m]? =some (.map es last)∧es.find? (fun e=>e.born==stamp)=some e
def nf(P:Program)(t:TypeId):Bool:=match P.underlying t with|some (.interface _)=>false|some _=>true|none=>false
def Hn(P:Program)(t:TypeId)(x:Value)(K:RK):Prop:=
 bif nf P t then(match As P t with
  |some k=>∃y:k.den,x=.iface t (k.enc y)∧K (k.enc y) none
  |none=>False)else False
def Ey(cs:List Value)(off:Nat)(vs:List Value):List Value:=cs.take off++vs++cs.drop (off+vs.length)
def yB(a:Nat→Option (Nat×Nat)):List Value→List (Nat×Value)→Option (List Value)
 |cs,[]=>some cs
 |cs,(i,v)::rest=>match a i with
  |none=>none
  |some (off,size)=>bif aY v.cells.toList.length size&&tN (off+v.cells.toList.length) cs.length then yB a (Ey cs off v.cells.toList) rest else none
noncomputable def m9(r:bP):List (Nat×Operand)→Option (List (Nat×Value))
 | []=>some []
 |(i,o)::ps=>match cA r o,m9 r ps with
  |some v,some vs=>some ((i,v)::vs)
  |_,_=>none
def nz(P:Program)(t:TypeId):Option (List Value):=match ua P t with|some z=>some z.cells.toList|none=>none
def cI(n:Nat)(z:List Value):List Value:=(gi n z).flatten
def tG(P:Program)(t:TypeId):Bool:=match P.info? t with|some _=>true|none=>false
def wz(P:Program):List Field→Bool
 | []=>true
 |f::fs=>bif tG P f.type then wz P fs else false
def Gb(P:Program)(a:List Field)(i:Nat):Option (Nat×Nat):=match a[i]? with|some f=>some (f.offset,bA P f.type)|none=>none
def DD(P:Program)(t:TypeId)(a:List (Nat×Value)):Option (List Value):=
 match P.underlying t,nz P t with
 |some (.struct fs),some z=>bif wz P fs.toList then yB (Gb P fs.toList) z a else none
 |some (.array _ e),some z=>bif tG P e then yB (fun i=>some (i*bA P e,bA P e)) z a else none
 |_,_=>none
noncomputable def xh(P:Program)(ek:Option (Kind×Kind))(o:Op)(r:bP)(K:RK)(h:ad):Prop:=
 match o with
 | .entry it=>match cA r it,ek with
  |some (.pointer (some a)),some (kk,vk)=>a.off=0∧∃(e:MapEntry) (x:kk.den) (y:vk.den),GT h a.block e∧e.key=kk.enc x∧e.val=vk.enc y∧
    K (.tuple #[kk.enc x,vk.enc y]) (some fun g=>GT g a.block e)
  |_,_=>False
 | .move x| .assign x=>match cA r x with|some v=>K v none|none=>False
 | .load t a=>match cA r a with|some v=>Et P t v K h|none=>False
 | .nilCheck x=>match cA r x with|some (.pointer p)=>∃a,p=some a∧K (.pointer (some a)) none|_=>False
 | .binOp op t x y _=>match cA r x,cA r y with
  |some (.agg v),some (.agg u)=>MV P op t v.toList u.toList K h
  |some v,some u=>(match op,M4 y with
   | .eql,true=>LP P t false v u K
   | .neq,true=>LP P t true v u K
   |op,_=>MU P op t v u K h)
  |_,_=>False
 | .unOp op _ x=>match cA r x with|some v=>Oo op v K|none=>False
 | .convert s d x=>match cA r x with|some v=>JU P s d v K h|none=>False
 | .pick c a b=>match cA r c,cA r a,cA r b with|some c,some a,some b=>Mm c a b K|_,_,_=>False
 | .extract x i=>match cA r x with
  |some (.tuple vs)=>(match vs.toList[i]? with|some v=>K v none|none=>False)
  |_=>False
 | .fieldAddr t x f=>match cA r x,sS P t f with
  |some (.pointer (some a)),some (u,off)=>bif aY (bA P u) 0 then False else K (.pointer (some (adr a off))) none
  |_,_=>False
 | .field t x f=>match cA r x with|some v=>F1 P t v f K|none=>False
 | .indexAddr t x i=>match cA r x,cA r i with|some v,some u=>uP P t v u K|_,_=>False
 | .index t x i=>match cA r x,cA r i with|some v,some u=>F0 P t v u K|_,_=>False
 | .slice t x lo hi mx=>match cA r x,Cj r lo,Cj r hi,Cj r mx with
  |some v,some l,some g,some m=>FY P t v l g m K
  |_,_,_,_=>False
 | .lookup t x k ok=>match cA r x,cA r k with|some v,some u=>C4 P t v u ok K h|_,_=>False
 | .makeInterface t x=>match cA r x with|some v=>bif nf P t then K (.iface t v) none else False|none=>False
 | .typeAssert x _ t ok=>match cA r x with|some v=>bif ok then False else Hn P t v K|none=>False
 | .build t ps=>match m9 r ps.toList with
  |some vs=>(match DD P t vs with|some cs=>K (.agg cs.toArray) none|none=>False)
  |none=>False
 | .makeFunc fn first cap=>match lg r first.toList,lg r cap.toList with
  |some vs,some us=>K (.func fn vs.toArray us.toArray) none
  |_,_=>False
 | .call c=>match c.callee,lg r c.args.toList,c.argTypes.toList with
  | .builtin .len,some [v],[t]=>MR P t v K h
  | .builtin .cap,some [v],[t]=>MS P t v K h
  | .builtin .min,some vs,_=>zk false vs fun v=>K v none
  | .builtin .max,some vs,_=>zk true vs fun v=>K v none
  |_,_,_=>False
 |_=>False
abbrev WK:=Value→ad→Prop
def aC(h:ad):Addr:=⟨h.size,0,none⟩
def hnew(h:ad)(cs:List Value)(t:TypeId):ad:=h.push (.cells cs.toArray t (0,0))
def bH:List Value→Bool
 | []=>true
 |v::vs=>(match v with| .agg _=>false| .tuple _=>false|_=>true)&&bH vs
noncomputable def gd(h:ad)(a:Addr):Nat→List Value→ad
 |_,[]=>h
 |i,v::vs=>gd (hset h (adr a i) v) a (i+1) vs
noncomputable def ey(h:ad)(a:Option Addr)(i:Nat)(vs:List Value):ad:=match a with|some a=>gd h a i vs|none=>h
noncomputable def rc(h:ad)(a:Option Addr)(i:Nat)(vs:List Value):Prop:=vs= []∨∃b,a=some b∧∀j,j<vs.length→Wr h (adr b (i+j))
noncomputable def Fx(P:Program)(t:TypeId)(a v:Value)(K:WK)(h:ad):Prop:=
 match a with
 | .pointer (some a)=>bif aY v.cells.toList.length (bA P t)&&bH v.cells.toList then Kd P t
   (match v.cells.toList with
    | [v]=>Wr h a∧K undef (hset h a v)
    |vs=>rc h (some a) 0 vs∧K undef (gd h a 0 vs))
  else False
 |_=>False
noncomputable def Lb(P:Program)(e:TypeId)(a:Option Addr)(sl c b:Nat)(xs:List Value)(K:WK)(h:ad):Prop:=
 (sl+b≤c→rc h a (sl*bA P e) xs∧bH xs=true∧K (.slice a (sl+b) c) (ey h a (sl*bA P e) xs))∧
 (c<sl+b→∃old z,SRow h a (sl*bA P e) old∧nz P e=some z∧0<nD P e∧Builtin.nextslicecap (sl+b) c*nD P e≤2^48∧
  ∀nc,sl+b≤nc→K (.slice (some (aC h)) (sl+b) nc) (hnew h (old++xs++cI (nc-(sl+b)) z) e))
noncomputable def y8(P:Program)(t:TypeId)(s x:Value)(K:WK)(h:ad):Prop:=
 match rU P t,s,x with
 |some e,.slice b sl sc,.slice a xl _=>Kd P e (∃xs,SRow h a (xl*bA P e) xs∧Lb P e b sl sc xl xs K h)
 |some e,.slice b sl sc,.string x=>bif aY (bA P e) 1 then Lb P e b sl sc x.size (cT x) K h else False
 |_,_,_=>False
noncomputable def zF(P:Program)(t:TypeId)(s x:Value)(K:WK)(h:ad):Prop:=
 match rU P t,s,x with
 |some e,.slice b sl sc,.int _ l=>(match nz P e with
  |some z=>bif aY z.length (bA P e)then(0≤l∧l*nD P e≤2^48∧l≤9223372036854775807∧((sl+l.toNat:Nat):Int)≤9223372036854775807)∧Lb P e b sl sc l.toNat (cI l.toNat z) K h else False
  |none=>False)
 |_,_,_=>False
noncomputable def Fy(P:Program)(t:TypeId)(x:Value)(K:WK)(h:ad):Prop:=
 match rU P t,x with
 |some e,.slice a n _=>(match nz P e with
  |some z=>bif bH z then rc h a 0 (cI n z)∧K (.tuple #[]) (ey h a 0 (cI n z))else False
  |none=>False)
 |_,_=>False
noncomputable def Jx(P:Program)(t:TypeId)(d s:Value)(K:WK)(h:ad):Prop:=
 match rU P t,d,s with
 |some e,.slice b dl _,.slice a sl _=>Kd P e (∃xs,SRow h a (cP sl dl*bA P e) xs∧rc h b 0 xs∧bH xs=true∧K (.int .i64 (cP sl dl)) (ey h b 0 xs))
 |some e,.slice b dl _,.string x=>bif aY (bA P e) 1 then rc h b 0 ((cT x).take dl)∧K (.int .i64 (cP x.size dl)) (ey h b 0 ((cT x).take dl))else False
 |_,_,_=>False
def F6(k v:Value)(a:Nat):List MapEntry→List MapEntry×Nat
 | []=>([{key:=k,val:=v,born:=a}],a+1)
 |e::es=>if fI k e.key then({e with key:=k,val:=v}::es,a)else let r:=F6 k v a es;(e::r.1,r.2)
def E2(k:Value):List MapEntry→List MapEntry
 | []=> []
 |e::es=>if fI k e.key then es else e::E2 k es
def HU(c:CK)(h:ad)(r:Nat):Prop:=∃es clock,h[r]? =some (.map es clock)∧Au c es.toList
def LR(h:ad)(r:Nat)(k v:Value):ad:=
 match h[r]? with
 |some (.map es clock)=>h.setIfInBounds r (.map (F6 k v clock es.toList).1.toArray (F6 k v clock es.toList).2)
 |_=>h
def Hw(h:ad)(r:Nat)(k:Value):ad:=
 match h[r]? with
 |some (.map es clock)=>h.setIfInBounds r (.map (E2 k es.toList).toArray clock)
 |_=>h
def y7(P:Program)(t:TypeId)(m k v:Value)(K:WK)(h:ad):Prop:=
 match EN P t,m with
 |some (c,_),.map m=>c.dec k fun _=>∃r,m=some r∧HU c h r∧K undef (LR h r k v)
 |_,_=>False
def zD(P:Program)(t:TypeId)(m k:Value)(K:WK)(h:ad):Prop:=
 match EN P t,m with
 |some (c,_),.map m=>c.dec k fun _=>(m=none∧K (.tuple #[]) h)∨(∃r,m=some r∧HU c h r∧K (.tuple #[]) (Hw h r k))
 |_,_=>False
def JS(P:Program):List TypeId→Option (List Kind)
 | []=>some []
 |t::ts=>match As P t,JS P ts with
  |some k,some ks=>some (k::ks)
  |_,_=>none
def JT(P:Program)(t:TypeId):Option (List Kind):=
 match P.underlying t with
 |some (.tuple ts)=>JS P ts.toList
 |_=>JS P [t]
noncomputable def Mf(P:Program)(f:Operand)(r:bP)(args:List Value)(t:TypeId)(K:WK)(h:ad):Prop:=
 match JT P t with
 |none=>False
 |some ks=>match f with
  | .func f=>HC P f args ks (fun x a=>K (yS ks (ki ks x)) a) h
  |f=>match cA r f with
   |some fv=>HV P fv args ks (fun x a=>K (yS ks (ki ks x)) a) h
   |none=>False
def Jw(it:Value)(K:WK)(h:ad):Prop:=
 match it with
 | .pointer (some a)=>a.off=0∧
  ∃m since seen last,h[a.block]? =some (.mapIter m since seen last)∧
   ((m=none∧K (.tuple #[.bool false]) h)∨
    (∃r es clock,m=some r∧h[r]? =some (.map es clock)∧(seen.isEmpty=true∨es.isEmpty=true∨es.all (fun e=>decide (e.born≥last))=false)∧
     ((∀e∈es.toList,e.born<since→seen.contains e.born=true)→K (.tuple #[.bool false]) h)∧
     (∀e∈es.toList,seen.contains e.born=false→K (.tuple #[.bool true,e.key,e.val]) (h.setIfInBounds a.block (.mapIter (some r) since (seen.push e.born) clock)))))
 |_=>False
noncomputable def Bh(P:Program)(o:Oper)(r:bP)(K:WK)(h:ad):Prop:=
 match o.op with
 | .alloc t=>(match nz P t with|some z=>K (.pointer (some (aC h))) (hnew h z t)|none=>False)
 | .box t x=>(match cA r x with|some v=>K (.pointer (some (aC h))) (hnew h v.cells.toList t)|none=>False)
 | .build t ps=>(match m9 r ps.toList with
  |some vs=>(match DD P t vs with|some cs=>K (.agg cs.toArray) h|none=>False)
  |none=>False)
 | .buildSlice t n ps=>(match rU P t,m9 r ps.toList with
  |some e,some vs=>(match nz P e with
   |some z=>bif tN (n*bA P e) 16777216&&aY z.length (bA P e)then
     (match yB (fun i=>some (i*bA P e,bA P e)) (cI n z) vs with|some cs=>K (.slice (some (aC h)) n n) (hnew h cs e)|none=>False)
    else False
   |none=>False)
  |_,_=>False)
 | .store t a x=>(match cA r a,cA r x with|some a,some v=>Fx P t a v K h|_,_=>False)
 | .mapUpdate t m k x=>(match cA r m,cA r k,cA r x with|some m,some k,some v=>y7 P t m k v K h|_,_,_=>False)
 | .insert t m k x=>(match cA r m,cA r k,cA r x with|some m,some k,some v=>y7 P t m k v K h|_,_,_=>False)
 | .makeMap t n=>(match n with
  |none=>K (.map (some h.size)) (h.push (.map #[] 0))
  |some n=>(match cA r n,P.underlying t with|some (.int _ _),some (.map _ _)=>K (.map (some h.size)) (h.push (.map #[] 0))|_,_=>False))
 | .makeSlice t l c=>(match rU P t,cA r l,cA r c with
  |some e,some (.int _ l),some (.int _ c)=>(match nz P e with
   |some z=>bif aY z.length (bA P e)then(0≤l∧l≤c∧c≤9223372036854775807∧nD P e*c≤2^48)∧K (.slice (some (aC h)) l.toNat c.toNat) (hnew h (cI c.toNat z) e)else False
   |none=>False)
  |_,_,_=>False)
 | .convert s d x=>(match P.underlying s,P.underlying d,cA r x with
  |some .string,some (.slice e),some (.string v)=>bif Gp P e then ByP e v h (fun c b=>K (.slice (some (aC h)) v.size c) b)else False
  |_,_,_=>False)
 | .range t x=>(match P.underlying t,cA r x with
  |some (.map _ _),some (.map m)=>∃clock,(m=none∧clock=0∨∃r es,m=some r∧h[r]? =some (.map es clock))∧K (.pointer (some (aC h))) (h.push (.mapIter m clock #[] clock))
  |_,_=>False)
 | .next it false=>(match cA r it with|some it=>Jw it K h|none=>False)
 | .call c=>(match c.callee,lg r c.args.toList with
  | .builtin .append,some [s,x]=>(match c.argTypes.toList with| [t,u]=>(match P.underlying u with|some (.slice _)=>y8 P t s x K h|some .string=>y8 P t s x K h|some (.int _)=>zF P t s x K h|_=>False)|_=>False)
  | .builtin .clear,some [x]=>(match c.argTypes.toList with| [t]=>Fy P t x K h|_=>False)
  | .builtin .copy,some [d,s]=>(match c.argTypes.toList with| [t,_]=>Jx P t d s K h|_=>False)
  | .builtin .delete,some [m,k]=>(match c.argTypes.toList with| [t,_]=>zD P t m k K h|_=>False)
  | .value f,some args=>Mf P f r args o.type K h
  |_,_=>False)
 |_=>False
def rW(P:Program):Op→Bool
 | .convert s d _=> !M3 P s d
 | .alloc _| .box .. | .buildSlice .. | .store .. | .mapUpdate .. | .insert .. | .makeMap .. | .makeSlice .. | .range .. | .next .. =>false
 | .call c=>match c.callee with
  | .builtin .len| .builtin .cap| .builtin .min| .builtin .max=>true
  |_=>false
 |_=>true
def ve(N:Nat)(o:Oper)(v:Value)(r:bP)(K:bP→Prop):Prop:=
 match o.dst with
 |none=>K r
 |some d=>bif tM d N then K ((d,v)::r)else False
noncomputable def Ny(P:Program)(N:Nat)(ek:Option (Kind×Kind))(o:Oper)(r:bP)(K:bP→ad→Prop)(h:ad):Prop:=
 bif rW P o.op then xh P ek o.op r (fun v _=>ve N o v r fun a=>K a h) h
 else Bh P o r (fun v b=>ve N o v r fun a=>K a b) h
inductive DV where
 |f|t|u|x
abbrev q9:=List (Nat×DV)
noncomputable def nP(d:q9)(t:Nat):DV:=
 d9 (motive:=fun _=>DV) .x (fun a _ b=>bif aY a.1 t then a.2 else b) d
noncomputable def wm(d:q9):Operand→DV
 | .tmp t=>nP d t
 | .const (.bool true)=>.t
 | .const (.bool false)=>.f
 |_=>.x
noncomputable def D6(d:q9):Op→DV
 | .move x=>wm d x
 | .assign x=>wm d x
 | .pick c a b=>match wm d c with
  | .t=>wm d a
  | .f=>wm d b
  |_=>.x
 | .unOp .not _ x=>match wm d x with
  | .t=>.f
  | .f=>.t
  |_=>.x
 |_=>.x
def ol(d:q9)(o:Oper)(v:DV):q9:=match o.dst with|some t=>(t,v)::d|none=>d
noncomputable def gl(ops:List Oper)(d:q9)(o:Oper):Option Bool:=
 match o.guard with
 |none=>some true
 |some (j,want)=>match ops[j]? with
  |none=>none
  |some oj=>match oj.dst with
   |none=>none
   |some t=>match nP d t with
    | .t=>some want
    | .f=>some (!want)
    | .u=>some false
    | .x=>none
def AA(ops:List Oper)(o:Oper):Option Nat:=
 match o.guard with
 |none=>none
 |some (j,_)=>match ops[j]? with
  |none=>none
  |some oj=>oj.dst
noncomputable def B5(P:Program)(N:Nat)(ek:Option (Kind×Kind))(ops:List Oper)(o:Oper)(d:q9)(r:bP)(h:ad)(K:q9→bP→ad→Prop):Prop:=
 match gl ops d o with
 |some true=>Ny P N ek o r (K (ol d o (D6 d o.op))) h
 |some false=>ve N o undef r fun a=>K (ol d o .u) a h
 |none=>False
noncomputable def zY(P:Program)(N:Nat)(ek:Option (Kind×Kind))(ops:List Oper)(l:List Oper):q9→(bP→ad→Prop)→bP→ad→Prop:=
 d9 (motive:=fun _=>q9→(bP→ad→Prop)→bP→ad→Prop) (fun _ K r h=>K r h)
  (fun o _ e d K r h=>
  match gl ops d o with
  |some true=>Ny P N ek o r (fun a c=>e (ol d o (D6 d o.op)) K a c) h
  |some false=>ve N o undef r fun a=>e (ol d o .u) K a h
  |none=>match AA ops o with
   |none=>False
   |some t=>match il r t with
    |some (.bool b)=>CondP b
     (B5 P N ek ops o ((t,.t)::d) ((t,.bool true)::r) h fun f a c=>e f K a c)
     (B5 P N ek ops o ((t,.f)::d) ((t,.bool false)::r) h fun f a c=>e f K a c)
    |_=>False) l
inductive DA where
 |done
 |take (i:Nat) (rest:DA)
 |all (l:DA)
 |pick (i:Nat) (rest more:DA)
 |last (i:Nat) (rest:DA)
 |lastT (i:Nat) (rest:DA)
 |split (t:Nat) (yes no:DA)
abbrev nG:=List (Nat×(ad→Prop))
def tb(m i:Nat):Bool:=aY (gJ (Nat.shiftRight m i) 1) 1
def fw(i:Nat):Nat:=Nat.pow 2 i
inductive DM where
 |mk (am fr lk ds:Nat)
def DM.am:DM→Nat| .mk a _ _ _=>a
def DM.fr:DM→Nat| .mk _ f _ _=>f
def DM.lk:DM→Nat| .mk _ _ l _=>l
def DM.ds:DM→Nat| .mk _ _ _ d=>d
def gn(o:Oper)(i:Nat):Bool:=o.after.toList.any fun e=>aY e.on i&&Region.binds .any e
noncomputable def jZ(l:List Edge):Nat:=
 d9 (motive:=fun _=>Nat) 0 (fun e _ a=>bif Region.binds .any e then ce (fw e.on) a else a) l
noncomputable def jt(l:List Operand):Nat:=
 d9 (motive:=fun _=>Nat) 0 (fun o _ a=>match o with| .tmp t=>ce (fw t) a|_=>a) l
def kU(o:Oper):Nat:=match o.dst with|some d=>fw d|none=>0
noncomputable def lF(ops:List Oper)(o:Oper):Nat:=
 ce (jt o.op.operands.toList) (match o.guard with
  |some (g,_)=>(match ops[g]? with|some og=>kU og|none=>0)
  |none=>0)
noncomputable def sI(ops:List Oper)(l:List Oper):List DM→Bool:=
 d9 (motive:=fun _=>List DM→Bool) (fun ms=>match ms with| []=>true|_=>false)
  (fun o _ a ms=>match ms with
   |m::ms=>aY (jZ o.after.toList) m.am&&aY (lF ops o) m.lk&&aY (kU o) m.ds&&a ms
   | []=>false) l
def xN(x y:DM):Bool:=aY (gJ x.ds (ce y.lk y.ds)) 0&&aY (gJ y.ds x.lk) 0
noncomputable def Cw(i:Nat)(m:DM)(l:List DM):Nat→Bool:=
 d9 (motive:=fun _=>Nat→Bool) (fun _=>true)
  (fun n _ a j=>(!(tb m.fr j)||aY j i||tb n.am i||xN m n)&&a (eB j)) l
noncomputable def wh(a:List DM)(l:List DM):Nat→Bool:=
 d9 (motive:=fun _=>Nat→Bool) (fun _=>true) (fun m _ b i=>Cw i m a 0&&b (eB i)) l
def EK:List Oper→Bool
 | []=>true
 |o::os=>(match o.op with| .select .. =>false| .defer _=>false|_=>true)&&EK os
noncomputable def zm(ops:List Oper)(ms:List DM):Bool:=sI ops ops ms&&wh ms ms 0&&EK ops
def lN(o:Oper):nG→nG
 | []=> []
 |(k,S)::l=>bif gn o k then lN o l else(k,S)::lN o l
def oI:nG→ad→Prop→Prop
 | [],_,R=>R
 |(_,S)::l,h,R=>S h∧oI l h R
def Ce(m:DM)(ls:Nat):Bool:=aY (gJ m.am ls) m.am
noncomputable def jx(ls:Nat)(l:List DM):Nat→List Nat:=
 d9 (motive:=fun _=>Nat→List Nat) (fun _=> []) (fun m _ a j=>bif !(tb ls j)&&Ce m ls then j::a (eB j)else a (eB j)) l
def zO(m:DM)(i ls n:Nat):Bool:= !(tb ls i)&&Ce m ls&&aY (gJ (ce ls m.fr) (tw (fw n))) (tw (fw n))
def rt:List Nat→List Nat→Bool
 | [],[]=>true
 |a::as,b::bs=>aY a b&&rt as bs
 |_,_=>false
def xz:DA→List Nat
 | .pick i _ l=>i::xz l
 | .last i _=> [i]
 | .lastT i _=> [i]
 |_=> []
noncomputable def Ic(P:Program)(N:Nat)(ops:List Oper)(i:Nat)(L:nG)(d:q9)(r:bP)(h:ad)(K:nG→q9→bP→ad→Prop):Prop:=
 match ops[i]? with
 |none=>False
 |some o=>match gl ops d o with
  |some true=>bif rW P o.op then xh P none o.op r (fun v _=>ve N o v r fun a=>oI (lN o L) h (K (lN o L) (ol d o .x) a h)) h else Bh P o r (fun v b=>ve N o v r fun a=>oI (lN o L) b (K (lN o L) (ol d o .x) a b)) h
  |_=>False
noncomputable def upM(m:Nat)(l:List DM):Nat→Nat:=
 d9 (motive:=fun _=>Nat→Nat) (fun _=>m) (fun n _ a j=>bif tb m j then ce n.am (a (eB j))else a (eB j)) l
noncomputable def wp(ms:List DM)(m:Nat):Nat:=upM (upM (upM (upM m ms 0) ms 0) ms 0) ms 0
def DK(ms:List DM)(i:Nat):Nat:=match ms[i]? with|some m=>m.am|none=>0
def vS(m:Nat):nG→nG
 | []=> []
 |(k,S)::l=>bif tb m k then vS m l else(k,S)::vS m l
noncomputable def Hl(P:Program)(N:Nat)(ops:List Oper)(ms:List DM)(i:Nat)(L:nG)(d:q9)(r:bP)(h:ad)(K:nG→q9→bP→ad→Prop):Prop:=
 match ops[i]? with
 |none=>False
 |some o=>match gl ops d o with
  |some true=>bif rW P o.op then False else Bh P o r (fun v a=>ve N o v r fun b=>oI (vS (wp ms (DK ms i)) L) a (K (vS (wp ms (DK ms i)) L) (ol d o .x) b a)) h
  |_=>False
noncomputable def kE(P:Program)(N:Nat)(ops:List Oper)(ms:List DM)(k:DA):Bool→Nat→nG→q9→(bP→ad→Prop)→bP→ad→Prop:=
 DA.rec (motive:=fun _=>Bool→Nat→nG→q9→(bP→ad→Prop)→bP→ad→Prop)
  (fun m ls _ _ K r h=>bif !m&&rt (jx ls ms 0) []then K r h else False)
  (fun i _ c m ls L d K r h=>
   match ops[i]?,ms[i]? with
   |some o,some mi=>bif !m&&zO mi i ls ops.length then
     (match gl ops d o with
      |none=>False
      |some false=>ve N o undef r fun a=>c false (ce ls (fw i)) L (ol d o .u) K a h
      |some true=>bif rW P o.op then
       xh P none o.op r (fun v S=>ve N o v r fun a=>match S with
        |none=>c false (ce ls (fw i)) L (ol d o (D6 d o.op)) K a h
        |some S=>c false (ce ls (fw i)) ((i,S)::L) (ol d o (D6 d o.op)) K a h) h
       else False)
    else False
   |_,_=>False)
  (fun l c m ls L d K r h=>bif !m&&rt (jx ls ms 0) (xz l)then c true ls L d K r h else False)
  (fun i _ _ f e m ls L d K r h=>bif m then Ic P N ops i L d r h (fun L' g a j=>f false (ce ls (fw i)) L' g K a j)∧e true ls L d K r h else False)
  (fun i _ c m ls L d K r h=>bif m then Ic P N ops i L d r h (fun L' g a j=>c false (ce ls (fw i)) L' g K a j)else False)
  (fun i _ c m ls L d K r h=>bif m then Hl P N ops ms i L d r h (fun L' g a j=>c false (ce ls (fw i)) L' g K a j)else False)
  (fun t _ _ f e m ls L d K r h=>
   bif m then False else match il r t with
   |some (.bool b)=>CondP b (f false ls L ((t,.t)::d) K ((t,.bool true)::r) h) (e false ls L ((t,.f)::d) K ((t,.bool false)::r) h)
   |_=>False)
  k
noncomputable def OG(b:Oper)(i:Nat)(ds lk:Nat)(ops:List Oper)(l:List Oper):Nat→Nat:=
 d9 (motive:=fun _=>Nat→Nat) (fun _=>0) (fun p _ a j=>bif (aY j i||gn p i||(aY (gJ ds (ce (lF ops p) (kU p))) 0&&aY (gJ (kU p) lk) 0))then ce (fw j) (a (eB j))else a (eB j)) l
noncomputable def Ow(ops:List Oper)(l:List Oper):Nat→List DM:=
 d9 (motive:=fun _=>Nat→List DM) (fun _=> []) (fun o _ a i=>.mk (jZ o.after.toList) (OG o i (kU o) (lF ops o) ops ops 0) (lF ops o) (kU o)::a (eB i)) l
def NH(P:Program)(w:Option Bool)(o:Oper):Bool:=match w with|some false=>true|some true=>rW P o.op|none=>false
noncomputable def M9(P:Program)(ops:List Oper)(d:q9)(ls n:Nat)(l:List Oper):List DM→Nat→Option (Nat×Oper):=
 d9 (motive:=fun _=>List DM→Nat→Option (Nat×Oper)) (fun _ _=>none)
  (fun o _ a ms j=>match ms with
   | []=>none
   |m::ms=>bif zO m j ls n&&NH P (gl ops d o) o then some (j,o)else a ms (eB j)) l
noncomputable def Na(ops:List Oper)(d:q9)(ls:Nat)(l:List Oper):List DM→Nat→Option Nat:=
 d9 (motive:=fun _=>List DM→Nat→Option Nat) (fun _ _=>none)
  (fun o _ a ms j=>match ms with
   | []=>none
   |m::ms=>match bif !(tb ls j)&&Ce m ls then(match gl ops d o with|none=>AA ops o|some _=>none)else none with
    |some t=>some t
    |none=>a ms (eB j)) l
noncomputable def NU(ops:List Oper)(k:Nat→q9→DA)(ls:Nat)(d:q9)(l:List Nat):DA:=
 d9 (motive:=fun _=>DA) .done (fun i a b=>match ops[i]? with
  |none=>.done
  |some o=>match a with
   | []=>.last i (k (ce ls (fw i)) (ol d o .x))
   |_=>.pick i (k (ce ls (fw i)) (ol d o .x)) b) l
noncomputable def Nr(P:Program)(ops:List Oper)(ms:List DM)(fuel:Nat):Nat→q9→DA:=
 Nat.rec (motive:=fun _=>Nat→q9→DA) (fun _ _=>.done) (fun _ a ls d=>
  match M9 P ops d ls ops.length ops ms 0 with
  |some (i,o)=>.take i (a (ce ls (fw i)) (match gl ops d o with|some false=>ol d o .u|_=>ol d o (D6 d o.op)))
  |none=>match Na ops d ls ops ms 0 with
   |some t=>.split t (a ls ((t,.t)::d)) (a ls ((t,.f)::d))
   |none=>match jx ls ms 0 with
    | []=>.done
    |l=>.all (NU ops a ls d l)) fuel
noncomputable def Hu(ops:List Oper):List DM:=Ow ops ops 0
inductive Ex where
 |exit (id:Nat)
 |ret
abbrev St:=List (Nat×Kind)
def uK:St→List Kind
 | []=> []
 |(_,k)::l=>k::uK l
noncomputable def zT(r:bP):St→Option (List Value)
 | []=>some []
 |(i,_)::l=>match il r i,zT r l with
  |some v,some vs=>some (v::vs)
  |_,_=>none
noncomputable def ym(a:St)(r:bP)(f:qI (uK a)→Prop):Prop:=
 match zT r a with
 |some vs=>yX (uK a) vs f
 |none=>False
def kR:St→List Value→bP→bP
 |(i,_)::l,v::vs,r=>(i,v)::kR l vs r
 |_,_,r=>r
noncomputable def Hz(r:bP)(l:List Nat):Option bP:=
 d9 (motive:=fun _=>Option bP) (some []) (fun t _ a=>match il r t,a with
  |some v,some l=>some ((t,v)::l)
  |_,_=>none) l
noncomputable def js(t:Nat)(l:List Oper):Bool:=
 d9 (motive:=fun _=>Bool) false (fun o _ a=>match o.dst with|some d=>bif aY d t then true else a|none=>a) l
noncomputable def fa(t:Nat)(c:Code):Bool:=
 Code.rec (motive:=fun _=>Bool) false (fun _ ops _=>js t ops.toList) (fun _ _ a b=>bif a then true else b) (fun _ _ _ a b=>bif a then true else b)
  (fun _ _ b=>b) (fun _ b=>b) (fun _ _ _ _ _ _=>true) (fun _=>false) (fun _ b=>b) (fun _=>false) (fun _=>false) false (fun _=>false) c
inductive Ann where
 |nil
 |node (a b:Ann)
 |join (st:St) (a b:Ann)
 |loop (st:St) (b:Ann)
 |draw (d:DA)
 |kinds (k v:Kind)
 |reg (keep:List Nat) (inner:Ann)
 |rf (ks:List Kind) (a b:Ann)
def Ann.l:Ann→Ann
 | .node a _=>a
 | .rf _ a _=>a
 |_=>.nil
def Ann.r:Ann→Ann
 | .node _ b=>b
 | .rf _ _ b=>b
 |_=>.nil
noncomputable def Ju(l:List Oper):Nat:=d9 (motive:=fun _=>Nat) 0 (fun o _ a=>ce (kU o) a) l
def NV:Option Nat→Option Nat→Option Nat
 |some a,some b=>some (ce a b)
 |_,_=>none
noncomputable def uc(c:Code):Option Nat:=
 Code.rec (motive:=fun _=>Option Nat) (some 0) (fun _ ops _=>some (Ju ops.toList)) (fun _ _ a b=>NV a b) (fun _ _ _ a b=>NV a b)
  (fun _ _ b=>b) (fun _ b=>b) (fun _ _ _ _ _ _=>none) (fun _=>some 0) (fun _ b=>b) (fun _=>some 0) (fun _=>some 0) (some 0) (fun _=>some 0) c
noncomputable def sM(m:Nat)(r:bP):bP:=d9 (motive:=fun _=>bP) [] (fun b _ a=>bif tb m b.1 then a else b::a) r
noncomputable def xn(P:Program)(N:Nat)(ops:List Oper)(b:Bool)(a:Ann)(Kn:bP→ad→Prop)(r:bP)(h:ad):Prop:=
 match b with
 |false=>(match a with
  | .kinds kk vk=>zY P N (some (kk,vk)) ops ops [] Kn r h
  |_=>zY P N none ops ops [] Kn r h)
 |true=>bif zm ops (Hu ops)then kE P N ops (Hu ops) (match a with| .draw da=>da|_=>Nr P ops (Hu ops) (Nat.add (Nat.add ops.length ops.length) 2) 0 []) false 0 [] [] Kn r h else False
noncomputable def iL(P:Program)(N:Nat)(c:Code):Ann→(bP→ad→Prop)→(Ex→bP→ad→Prop)→bP→ad→Prop:=
 Code.rec (motive:=fun _=>Ann→(bP→ad→Prop)→(Ex→bP→ad→Prop)→bP→ad→Prop)
  (fun _ Kn _ r h=>Kn r h)
  (fun _ ops q d Kn _ r h=>match d with
   | .reg keep d=>xn P N ops.toList q d (fun g f=>match Hz g keep with|some r0=>Kn r0 f|none=>False) r h
   |d=>xn P N ops.toList q d Kn r h)
  (fun a _ k j d Kn Kx r h=>match d with
   | .join st aa ab=>(match uc a with
     |none=>False
     |some m=>Join (T:=qI (uK st)) (fun t f=>j ab Kn Kx (kR st (ki (uK st) t) (sM m r)) f)
      fun J=>k aa (fun g f=>ym st g fun t=>J t f) Kx r h)
   |d=>k d.l (fun g f=>j d.r Kn Kx g f) Kx r h)
  (fun c _ _ k j d Kn Kx r h=>match cA r c with
   |some (.bool t)=>CondP t (k d.l Kn Kx r h) (j d.r Kn Kx r h)
   |_=>False)
  (fun id _ o d Kn Kx r h=>o d Kn (fun e g f=>match e with
    | .exit i=>bif aY i id then Kn g f else Kx (.exit i) g f
    | .ret=>Kx .ret g f) r h)
  (fun b o d _ Kx r h=>match d with
   | .loop st ab=>(match uc b with
     |none=>False
     |some m=>ym st r fun u=>LoopP (T:=qI (uK st)) (fun n t f=>o ab (fun g p=>ym st g fun s=>n s p) Kx (kR st (ki (uK st) t) (sM m r)) f) u h)
   |_=>False)
  (fun _ _ _ _ _ _ _ _ _ _ _=>False)
  (fun id _ _ Kx r h=>Kx (.exit id) r h)
  (fun _ _ _ _ _ _ _=>False)
  (fun _ _ Kn _ r h=>Kn r h)
  (fun _ _ _ _ _ _=>False)
  (fun _ _ Kx r h=>Kx .ret r h)
  (fun _ _ _ _ _ _=>False)
  c
noncomputable def kS(P:Program)(r:bP)(h:ad):List ResultVar→(List Value→Prop)→Prop
 | [],K=>K []
 | .tmp t::l,K=>(match il r t with|some v=>kS P r h l fun vs=>K (v::vs)|none=>False)
 | .cell a t::l,K=>(match il r a with
  |some v=>Et P t v (fun x _=>kS P r h l fun vs=>K (x::vs)) h
  |none=>False)
def mZ:Nat→List Value→bP
 |_,[]=> []
 |i,v::vs=>(i,v)::mZ (i+1) vs
noncomputable def B6(P:Program)(fn:Func)(c:Code)(b:Ann)(args:List Value)(ks:List Kind)(K:qI ks→ad→Prop)(h:ad):Prop:=
 iL P fn.ntmps c b
  (fun r a=>kS P r a fn.results.toList fun vs=>yX ks vs fun t=>K t a)
  (fun e r a=>match e with
   | .ret=>kS P r a fn.results.toList fun vs=>yX ks vs fun t=>K t a
   | .exit _=>False)
  (mZ 0 args) h
def AM:List Oper→Option (Oper×Oper×Operand×Nat×FuncId×List Operand)
 | [m,o]=>match m.op,m.guard,m.dst,o.op,o.dst,o.guard with
  | .move x,none,some d,.defer c,none,none=>(match c.callee with
   | .value (.func f)=>some (m,o,x,d,f,c.args.toList)
   |_=>none)
  |_,_,_,_,_,_=>none
 |_=>none
inductive Mk where
 |it (n:Nat)
 |call (f:FuncId) (vs:List Value)
def HD(P:Program)(f:FuncId)(args:List Value)(K:ad→Prop)(h:ad):Prop:=
 ∀w:World,w.heap=h→(∀(args:Array Value) (w:World),(callFunc f args).run P w=.ok (.enter f args) w)∧∀n:Nat,CallsDIn {fn:=fun _=>True,depth:=none,alive:=false,round:=none} n P f args.toArray .returning w fun e u w'=>u=.returning∧Tame w w'∧(∃v,e=.returned v)∧K w'.heap
noncomputable def oJ(c:Code):Bool:=
 Code.rec (motive:=fun _=>Bool) false (fun _ ops _=>(AM ops.toList).isSome) (fun _ _ a b=>bif a then true else b) (fun _ _ _ a b=>bif a then true else b)
  (fun _ _ b=>b) (fun _ b=>b) (fun _ _ _ _ _ _=>true) (fun _=>false) (fun _ b=>b) (fun _=>false) (fun _=>false) false (fun _=>false) c
def Ds:Option Ex→Option Code
 |none=>none
 |some (.exit i)=>some (.exit i)
 |some .ret=>some .ret
def OH(N:ad→Prop)(X:Nat→ad→Prop)(R:ad→Prop):Option Ex→ad→Prop
 |none=>N
 |some (.exit i)=>X i
 |some .ret=>R
structure RangeP(P:Program)(fv:Value)(ks:List Kind)(h:ad)(RT:Obj→Obj→qI ks→(Option Ex→ad→Prop)→ad→Prop)(N:ad→Prop)(X:Nat→ad→Prop)(R:ad→Prop):Prop where
 run:∀lo:LoopState→Option Ex→Obj,(∀s j,∃r,lo s j=.loop r)→
  (∀x h' K,h'[h.size+1]? =some (lo .ready none)→
   RT (lo .ready none) (lo .busy none) x (fun j h2=>h2[h.size+1]? =some (lo .busy none)∧K j.isNone (h2.setIfInBounds (h.size+1) (lo (if j.isNone then .ready else .done) j))) h'→
   HV P (.func (.yield (h.size+1)) #[] #[]) (ki ks x) [.c .bool] K h')→
  ∃f first cap,fv=.func (.func f) first cap∧HE P f (first.toList++ [.func (.yield (h.size+1)) #[] #[]]++cap.toList) []
   (fun _ h2=>∃s j,s≠ .busy∧h2[h.size+1]? =some (lo s j)∧OH N X R j (h2.setIfInBounds (h.size+1) (lo .exhausted j))) ((h.push (.deferred (some []))).push (lo .ready none))
def Lr:List Nat→List Value→bP→bP
 |i::l,v::vs,r=>Lr l vs ((i,v)::r)
 |_,_,r=>r
noncomputable def FI(P:Program)(N:Nat)(ps:List Nat)(ks:List Kind)(assign body:Code)(b:Ann)(r:bP)(l:Nat)(Ce d:Obj)(x:qI ks)(k:Option Ex→ad→Prop)(h:ad):Prop:=
 iL P N assign b.l (fun f c=>c[l]? =some Ce∧iL P N body b.r (fun _ a=>k none a) (fun e _ a=>k (some e) a) f (c.setIfInBounds l d)) (fun _ _ _=>False) (Lr ps (ki ks x) r) h
def uU(N:Nat):List Nat→Bool
 | []=>true
 |n::l=>tM n N&&uU N l
noncomputable def uO(P:Program)(N:Nat)(c:Code):Ann→(List Mk→bP→ad→Prop)→(Ex→List Mk→bP→ad→Prop)→List Mk→bP→ad→Prop:=
 Code.rec (motive:=fun _=>Ann→(List Mk→bP→ad→Prop)→(Ex→List Mk→bP→ad→Prop)→List Mk→bP→ad→Prop)
  (fun j Kn Kx ms r h=>iL P N .skip j (Kn ms) (fun e=>Kx e ms) r h)
  (fun id ops q j Kn Kx ms r h=>match AM ops.toList with
   |none=>iL P N (.region id ops q) j (Kn ms) (fun e=>Kx e ms) r h
   |some (_,_,x,d,f,as)=>bif q then False else match cA r x with
    |some v=>bif tM d N then(match lg ((d,v)::r) as with|some vs=>Kn (.call f vs::ms) ((d,v)::r) h|none=>False)else False
    |none=>False)
  (fun a b o n j Kn Kx ms r h=>bif (bif oJ a then true else oJ b)then o j.l (fun ms p m=>n j.r Kn Kx ms p m) Kx ms r h
   else iL P N (.seq a b) j (Kn ms) (fun e=>Kx e ms) r h)
  (fun c a b o n j Kn Kx ms r h=>bif (bif oJ a then true else oJ b)then
    (match cA r c with
     |some (.bool t)=>CondP t (o j.l Kn Kx ms r h) (n j.r Kn Kx ms r h)
     |_=>False)
   else iL P N (.cond c a b) j (Kn ms) (fun e=>Kx e ms) r h)
  (fun id b s j Kn Kx ms r h=>bif oJ b then s j Kn (fun e ms p m=>match e with
    | .exit i=>bif aY i id then Kn ms p m else Kx (.exit i) ms p m
    | .ret=>Kx .ret ms p m) ms r h
   else iL P N (.block id b) j (Kn ms) (fun e=>Kx e ms) r h)
  (fun b _ j Kn Kx ms r h=>iL P N (.loop b) j (Kn ms) (fun e=>Kx e ms) r h)
  (fun g ps assign body _ _ j Kn Kx ms r h=>match j with
   | .rf ks aa ab=>bif uU N ps.toList&&aY ps.toList.length ks.length then
    (match cA r g with
     |some fv=>RangeP P fv ks h (fun Ce u x k m=>FI P N ps.toList ks assign body (.node aa ab) r (h.size+1) Ce u x k m)
      (fun m=>Kn (.it h.size::ms) r m) (fun i m=>Kx (.exit i) (.it h.size::ms) r m) (fun m=>Kx .ret (.it h.size::ms) r m)
     |none=>False)else False
   |_=>False)
  (fun id j Kn Kx ms r h=>iL P N (.exit id) j (Kn ms) (fun e=>Kx e ms) r h)
  (fun _ _ _ _ _ _ _ _=>False)
  (fun l j Kn Kx ms r h=>iL P N (.label l) j (Kn ms) (fun e=>Kx e ms) r h)
  (fun _ _ _ _ _ _ _=>False)
  (fun j Kn Kx ms r h=>iL P N .ret j (Kn ms) (fun e=>Kx e ms) r h)
  (fun _ _ _ _ _ _ _=>False)
  c
def Ei(P:Program):List Mk→(ad→Prop)→ad→Prop
 | [],K,h=>K h
 | .it D::ms,K,h=>h[D]? =some (.deferred (some []))∧Ei P ms K (h.setIfInBounds D (.deferred none))
 | .call f vs::ms,K,h=>HD P f vs (fun a=>Ei P ms K a) h
noncomputable def FJ(P:Program)(fn:Func)(c:Code)(b:Ann)(args:List Value)(ks:List Kind)(K:qI ks→ad→Prop)(h:ad):Prop:=
 uO P fn.ntmps c b
  (fun ms r a=>Ei P ms (fun a=>kS P r a fn.results.toList fun vs=>yX ks vs fun t=>K t a) a)
  (fun e ms r a=>match e with
   | .ret=>Ei P ms (fun a=>kS P r a fn.results.toList fun vs=>yX ks vs fun t=>K t a) a
   | .exit _=>False)
  [] (mZ 0 args) h
end Go.Lift
namespace Go.Lift
open Go
theorem AY(a:Addr):adr a 0=a:=rfl
theorem wB(a:Addr)(n:Nat):adr a (n+1)=⟨a.block,a.off+(n+1),none⟩:=rfl
theorem qo(a:Addr)(n:Nat):adr a n=a.add n:=by
 cases n with
 |zero=>simp[AY,Addr.add]
 |succ n=>simp[wB,Addr.add]
theorem wC(a:Addr)(m n:Nat):adr (adr a m) n=adr a (m+n):=by
 cases n with
 |zero=>rfl
 |succ n=>cases m with
  |zero=>simp[AY]
  |succ m=>rw[wB,wB,show m+1+(n+1)=(m+1+n)+1 from rfl,wB];simp;omega
theorem Tame.refl(w:World):Tame w w:=⟨rfl,rfl,rfl⟩
theorem Tame.trans{a b c:World}(h:Tame a b)(k:Tame b c):Tame a c:=⟨k.os.trans h.os,k.tape.trans h.tape,k.output.trans h.output⟩
theorem wc{a b:IntKind}(h:Dm a b=true):a=b:=by cases a<;>cases b<;>first|rfl|cases h
theorem CK.dec_sound{c:CK}{v:Value}{f:c.den→Prop}(h:c.dec v f):∃x,v=c.enc x∧f x:=by
 cases c<;>cases v<;>try simp only[CK.dec]at h
 case int.int k k' n=>
  cases hk:Dm k' k with
  |false=>rw[hk]at h;exact h.elim
  |true=>rw[hk]at h;have:=wc hk;subst this;exact⟨n,rfl,h⟩
 case adr.pointer p=>cases p with
  |none=>exact h.elim
  |some a=>exact⟨a,rfl,h⟩
 all_goals first|exact h.elim|exact⟨_,rfl,h⟩
theorem yE:∀{cs:List CK} {vs:List Value} {f:Ll cs→Prop},HP cs vs f→∃t,vs=K3 cs t∧f t
 | [],[],f,h=>⟨(),rfl,h⟩
 | [],_::_,f,h=>h.elim
 | [c],[v],f,h=>by obtain⟨x,rfl,e⟩:=CK.dec_sound h;exact⟨x,rfl,e⟩
 | [c],[],f,h=>h.elim
 | [c],_::_::_,f,h=>h.elim
 |c::d::cs,[],f,h=>h.elim
 |c::d::cs,[_],f,h=>h.elim
 |c::d::cs,v::u::vs,f,h=>by
  have i:c.dec v fun x=>HP (d::cs) (u::vs) fun t=>f (x,t):=h
  obtain⟨x,hx,a⟩:=CK.dec_sound i;obtain⟨t,b,g⟩:=yE (cs:=d::cs) (vs:=u::vs) a;exact⟨(x,t),by rw[b,hx];rfl,g⟩
theorem Kind.dec_sound{k:Kind}{v:Value}{f:k.den→Prop}(h:k.dec v f):∃x,v=k.enc x∧f x:=by
 cases k with
 |c k=>exact CK.dec_sound h
 |agg cs=>
  cases v<;>simp only[Kind.dec]at h
  case agg vs=>
   obtain⟨t,a,b⟩:=yE h;exact⟨t,by simp only[Kind.enc,←a],b⟩
theorem oQ:∀{ks:List Kind} {vs:List Value} {f:qI ks→Prop},yX ks vs f→∃t,vs=ki ks t∧f t
 | [],[],f,h=>⟨(),rfl,h⟩
 | [],_::_,f,h=>h.elim
 | [c],[v],f,h=>by obtain⟨x,rfl,e⟩:=Kind.dec_sound h;exact⟨x,rfl,e⟩
 | [c],[],f,h=>h.elim
 | [c],_::_::_,f,h=>h.elim
 |c::d::cs,[],f,h=>h.elim
 |c::d::cs,[_],f,h=>h.elim
 |c::d::cs,v::u::vs,f,h=>by
  have i:c.dec v fun x=>yX (d::cs) (u::vs) fun t=>f (x,t):=h
  obtain⟨x,hx,a⟩:=Kind.dec_sound i;obtain⟨t,b,g⟩:=oQ (ks:=d::cs) (vs:=u::vs) a;exact⟨(x,t),by rw[b,hx];rfl,g⟩
theorem pD:∀(ks:List Kind) (t:qI ks),(ki ks t).length=ks.length
 | [],_=>rfl
 | [_],_=>rfl
 |_::l::ks,(_,t)=>by simp only[ki,aO,pD (l::ks) t]
structure Agree(N:Nat)(r:bP)(a:Act):Prop where
 size:a.tmps.size=N
 look:∀t v,il r t=some v→a.tmps.getD t undef=v
theorem f3(k:Nat)(v:Value)(r:bP):il ((k,v)::r) k=some v:=by rw[Ad,show aY k k=true from Nat.beq_refl k];rfl
theorem fx{k t:Nat}(v:Value)(r:bP)(h:k≠t):il ((k,v)::r) t=il r t:=by
 rw[Ad];have:aY k t=false:=Bool.eq_false_iff.2 fun e=>h (aI e)
 rw[this];rfl
theorem Agree.put{N:Nat}{r:bP}{a:Act}(h:Agree N r a)(d:Nat)(v:Value)(hd:d<N):Agree N ((d,v)::r) (a.put (some d) v):=by
 refine⟨by simp[Act.put,h.size],fun t u b=>?_⟩
 by_cases e:d=t
 ·subst e
  rw[f3]at b;cases b;simp[Act.put,h.size,hd]
 ·rw[fx v r e]at b
  have:=h.look t u b;simpa[Act.put,Array.getElem?_setIfInBounds_ne e]using this
theorem Agree.known{N:Nat}{r:bP}{a:Act}(h:Agree N r a){t:Nat}{v:Value}(hv:il r t=some v):Agree N ((t,v)::r) a:=by
 refine⟨h.size,fun s u b=>?_⟩
 by_cases e:t=s
 ·subst e;rw[f3]at b;cases b;exact h.look t v hv
 ·rw[fx v r e]at b;exact h.look s u b
theorem im{N:Nat}{r:bP}{a:Act}(h:Agree N r a){o:Operand}{v:Value}(hv:cA r o=some v):a.eval o=v:=by
 cases o with
 |tmp t=>exact h.look t v hv
 |const c=>simp[cA]at hv;subst hv;rfl
 |global g=>simp[cA]at hv;subst hv;rfl
 |func f=>simp[cA]at hv;subst hv;rfl
theorem jL{N:Nat}{r:bP}{a:Act}(h:Agree N r a):∀{os:List Operand} {vs:List Value},lg r os=some vs→os.map a.eval=vs
 | [],vs,hv=>by simp[lg]at hv;subst hv;rfl
 |o::os,vs,hv=>by
  simp only[lg]at hv;cases ho:cA r o with
  |none=>simp[ho]at hv
  |some v=>cases hos:lg r os with
   |none=>simp[ho,hos]at hv
   |some us=>simp[ho,hos]at hv;subst hv;simp[im h ho,jL h hos]
theorem ao{P:Program}{t:TypeId}{d:TypeDesc}(h:P.underlying t=some d)(w:World):(underlying t).run P w=.ok d w:=by
 simp only[underlying,program,bind,Sem.bind,Sem.run,h,pure]
theorem bZ{P:Program}{t:TypeId}{i:TypeInfo}(h:P.info? t=some i)(w:World):(typeInfo t).run P w=.ok i w:=by
 simp only[typeInfo,program,bind,Sem.bind,Sem.run,h,pure]
theorem gv{P:Program}{s:Sem Value}{v:Value}{w w':World}(h:s.run P w=.ok v w'):(do pure (Next.value (←s)):Sem Next).run P w=.ok (.value v) w':=by
 simp[h]
theorem JQ{P:Program}{s:Sem Unit}{w w':World}(h:s.run P w=.ok () w'):(do s;pure Next.skip:Sem Next).run P w=.ok .skip w':=by
 simp[h]
theorem vR{P:Program}{w:World}{a:Addr}{v:Value}(h:aG w.heap a=some v):(load a).run P w=.ok v w:=by
 have b:w.cell? a=some v:=h;simp[b]
theorem wx{v:Value}{vs:List Value}{i:Nat}{a:Addr}{h:ad}:pF (v::vs) i a h↔aG h (adr a i)=some v∧pF vs (i+1) a h:=by
 cases vs with
 |nil=>simp[pF]
 |cons u us=>rfl
theorem po{P:Program}{w:World}{a:Addr}:∀(vs:List Value) (i:Nat) (acc:Array Value),pF vs i a w.heap→
  (loadCellsFrom a i vs.length acc).run P w=.ok (acc++vs.toArray) w
 | [],i,acc,_=>by simp[loadCellsFrom]
 |v::vs,i,acc,h=>by
  obtain⟨b,c⟩:=wx.1 h;rw[qo]at b;have:=po (P:=P) (w:=w) (a:=a) vs (i+1) (acc.push v) c;simp only[aO,loadCellsFrom,Sem.run_bind,vR b,Result.andThen_ok,this];simp
theorem Bk{P:Program}{w:World}{a:Addr}{vs:List Value}(h:pF vs 0 a w.heap):(loadCells a vs.length).run P w=.ok vs.toArray w:=by
 have:=po (P:=P) (w:=w) (a:=a) vs 0 #[] h;simpa[loadCells]using this
theorem ul:∀(cs:List CK) (i:Nat) (a:Addr) (h:ad) (k:List Value→Prop),Dt cs i a h k→∃vs,vs.length=cs.length∧pF vs i a h∧k vs
 | [],i,a,h,k,b=>⟨[],rfl,trivial,b⟩
 |c::cs,i,a,h,k,b=>by
  obtain⟨x,hx,b⟩:=b;obtain⟨vs,d,hc,b⟩:=ul cs (i+1) a h _ b;exact⟨c.enc x::vs,by simp[d],wx.2 ⟨hx,hc⟩,b⟩
theorem wq:∀{vs:List Value} {cs:List CK},AO vs=some cs→cs.length=vs.length
 | [],cs,h=>by simp[AO]at h;subst h;rfl
 |v::vs,cs,h=>by
  simp only[AO]at h;cases h1:Np v with
  |none=>simp[h1]at h
  |some c=>cases h2:AO vs with
   |none=>simp[h1,h2]at h
   |some ds=>simp[h1,h2]at h;subst h;simp[wq h2]
def Lk(P:Program)(t:TypeId)(i:TypeInfo):Kind→Prop
 | .c _=>rI P t=false
 | .agg cs=>rI P t=true∧i.size=cs.length
theorem Gk{P:Program}{t:TypeId}{k:Kind}(h:Hy P t=some k):∃i,P.info? t=some i∧Lk P t i k:=by
 unfold Hy ua at h;cases hi:P.info? t with
 |none=>simp[hi]at h
 |some i=>
  refine⟨i,rfl,?_⟩;cases hz:i.zero with
  |none=>simp[hi,hz]at h
  |some z=>
   rw[hi]at h;simp only[hz]at h;cases z;case agg vs=>
    simp only at h;cases hb:(rI P t&&aY vs.toList.length (bA P t))with
    |false=>rw[hb]at h;simp at h
    |true=>
     rw[hb]at h;simp only[cond_true]at h;simp only[Bool.and_eq_true]at hb;have a:=aI hb.2;cases hd:AO vs.toList with
     |none=>rw[hd]at h;simp at h
     |some ds=>
      rw[hd]at h;simp only[bi.injEq]at h;subst h;exact⟨hb.1,by rw[wq hd,a];simp[bA,hi]⟩
   all_goals
    simp only at h;cases ha:rI P t
    ·rw[ha]at h
     simp only[cond_false]at h;split at h
     ·simp only[bi.injEq]at h;subst h;exact ha
     ·simp at h
    ·rw[ha]at h;simp at h
theorem Gl{P:Program}{t:TypeId}{k:Kind}(h:As P t=some k):(∀w,(isAgg t).run P w=.ok (rI P t) w)∧Hy P t=some k:=by
 unfold As at h;cases hu:P.underlying t with
 |none=>simp[hu]at h
 |some d=>
  simp only[hu]at h;refine⟨fun w=>?_,h⟩
  simp only[isAgg,Sem.run_bind,ao hu,Result.andThen_ok];unfold rI;rw[hu];cases d<;>rfl
theorem yu{P:Program}{t:TypeId}{v:Value}{K:RK}{h:ad}(d:Et P t v K h):
  ∃u S,K u (some S)∧S h∧∀w:World,S w.heap→(Instr.loadAt t v).run P w=.ok u w:=by
 unfold Et at d;cases v with
 |pointer p=>
  cases p with
  |none=>exact d.elim
  |some a=>
   simp only at d;cases hk:As P t with
   |none=>simp[hk]at d
   |some k=>
    obtain⟨b,hz⟩:=Gl hk;obtain⟨i,hi,hc⟩:=Gk hz;rw[hk]at d;cases k with
    |c c=>
     obtain⟨x,hx,j⟩:=d;refine⟨_,_,j,hx,fun w f=>?_⟩
     have hc:rI P t=false:=hc;simp only[Instr.loadAt,Instr.sureAddr,loadVar,Sem.run_bind,Sem.run_pure,Result.andThen_ok,b,hc];simp[vR f]
    |agg cs=>
     obtain⟨vs,e,g,j⟩:=ul cs 0 a h _ d;obtain⟨m,n⟩:rI P t=true∧i.size=cs.length:=hc;refine⟨_,_,j,g,fun w f=>?_⟩
     have hz:(sizeOf t).run P w=.ok vs.length w:=by simp[sizeOf,bZ hi,n,e]
     simp only[Instr.loadAt,Instr.sureAddr,loadVar,Sem.run_bind,Sem.run_pure,Result.andThen_ok,b,m];simp[hz,Bk f]
 |_=>exact d.elim
end Go.Lift
