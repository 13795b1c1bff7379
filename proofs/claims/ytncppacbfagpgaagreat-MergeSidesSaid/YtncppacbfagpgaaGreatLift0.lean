/- A part of the proof that the named laws of this program answer true, whatever the input. -/
import Derived.OrdersIn
import Derived.Below
import Derived.WalkKit
import Derived.RangeFuncRecord
open BitVec renaming ofInt→ar
open Iff renaming rfl→xb
open List renaming rec→fW,replicate→kM,length_cons→ak
open Nat renaming succ→gm,beq→bP,ble→yC,min→dT,land→j9,lor→cX,pred→yn,eq_of_beq_eq_true→aX
open Option renaming some→bO
namespace Go.Lift
abbrev ad:=Array Obj
def aP(h:ad)(a:Addr):Option Value:=
 match h[a.block]? with
 |some (.cells c _ _)=>if a.spot.isSome then none else c[a.off]?
 |_=>none
def En(h:ad)(a:Addr):Bool:=
 match h[a.block]? with
 |some (.cells _ _ (lo,hi))=>lo≤a.off&&a.off<hi
 |_=>false
def hset(h:ad)(a:Addr)(v:Value):ad:=
 h.modify a.block fun
  | .cells c elem frozen=>.cells (if a.spot.isSome then c else c.setIfInBounds a.off v) elem frozen
  |o=>o
noncomputable def adr(a:Addr)(n:Nat):Addr:=Nat.rec (motive:=fun _=>Addr) a (fun n _=>⟨a.block,a.off+gm n,none⟩) n
def Wr(h:ad)(a:Addr):Prop:=(∃v,aP h a=some v)∧En h a=false
structure Tame(w w':World):Prop where
 os:w'.os=w.os
 tape:w'.tape=w.tape
 output:w'.output=w.output
structure SliceV where
 a:Option Addr
 len:Nat
 cap:Nat
def IX:IntKind→IntKind→Bool
 | .i8,.i8=>true| .i16,.i16=>true| .i32,.i32=>true| .i64,.i64=>true
 | .u8,.u8=>true| .u16,.u16=>true| .u32,.u32=>true| .u64,.u64=>true
 |_,_=>false
inductive CK where
 |int (k:IntKind)|bool|str|ptr|slice|map|chan|raw|adr
def CK.den:CK→Type
 | .int _=>Int| .bool=>Bool| .str=>ByteArray| .ptr=>Option Addr| .slice=>SliceV| .map=>Option Nat| .chan=>Option Nat| .raw=>Value| .adr=>Addr
def CK.enc:(c:CK)→c.den→Value
 | .int k,n=>.int k n
 | .bool,b=>.bool b
 | .str,s=>.string s
 | .ptr,p=>.pointer p
 | .slice,s=>.slice s.a s.len s.cap
 | .map,r=>.map r
 | .chan,r=>.chan r
 | .raw,v=>v
 | .adr,a=>.pointer (some a)
def CK.dec:(c:CK)→Value→(c.den→Prop)→Prop
 | .int k,.int k' n,f=>bif IX k' k then f n else False
 | .bool,.bool b,f=>f b
 | .str,.string s,f=>f s
 | .ptr,.pointer p,f=>f p
 | .slice,.slice a l c,f=>f ⟨a,l,c⟩
 | .map,.map r,f=>f r
 | .chan,.chan r,f=>f r
 | .raw,v,f=>f v
 | .adr,.pointer (some a),f=>f a
 |_,_,_=>False
def Sr:List CK→Type
 | []=>Unit
 | [c]=>c.den
 |c::d::cs=>c.den×Sr (d::cs)
def RY:(cs:List CK)→Sr cs→List Value
 | [],_=> []
 | [c],x=> [c.enc x]
 |c::d::cs,(x,t)=>c.enc x::RY (d::cs) t
def O5:(cs:List CK)→List Value→(Sr cs→Prop)→Prop
 | [],[],f=>f ()
 | [c],[v],f=>c.dec v f
 |c::d::cs,v::u::vs,f=>c.dec v fun x=>O5 (d::cs) (u::vs) fun t=>f (x,t)
 |_,_,_=>False
inductive Kind where
 |c (k:CK)
 |agg (cs:List CK)
def Kind.den:Kind→Type
 | .c k=>k.den
 | .agg cs=>Sr cs
def Kind.enc:(k:Kind)→k.den→Value
 | .c k,x=>k.enc x
 | .agg cs,t=>.agg (RY cs t).toArray
def Kind.dec:(k:Kind)→Value→(k.den→Prop)→Prop
 | .c k,v,f=>k.dec v f
 | .agg cs,.agg vs,f=>O5 cs vs.toList f
 |_,_,_=>False
def cN:List Kind→Type
 | []=>Unit
 | [k]=>k.den
 |k::l::ks=>k.den×cN (l::ks)
def oG:(ks:List Kind)→cN ks→List Value
 | [],_=> []
 | [k],x=> [k.enc x]
 |k::l::ks,(x,t)=>k.enc x::oG (l::ks) t
def D3:(ks:List Kind)→List Value→(cN ks→Prop)→Prop
 | [],[],f=>f ()
 | [k],[v],f=>k.dec v f
 |k::l::ks,v::u::vs,f=>k.dec v fun x=>D3 (l::ks) (u::vs) fun t=>f (x,t)
 |_,_,_=>False
def E5(ks:List Kind)(vs:List Value):Value:=
 match ks,vs with
 | [_],[v]=>v
 |_,vs=>.tuple vs.toArray
def US:Value→Option CK
 | .int k _=>some (.int k)
 | .bool _=>some .bool
 | .string _=>some .str
 | .pointer _=>some .ptr
 | .slice .. =>some .slice
 | .map _=>some .map
 | .chan _=>some .chan
 | .nilFunc=>some .raw
 | .nilIface=>some .raw
 |_=>none
def FI:List Value→Option (List CK)
 | []=>some []
 |v::vs=>match US v,FI vs with
  |some c,some cs=>some (c::cs)
  |_,_=>none
def wU(P:Program)(t:TypeId):Bool:=
 match P.underlying t with
 |some (.struct _)|some (.array _ _)=>true
 |_=>false
def cf(P:Program)(t:TypeId):Nat:=match P.info? t with|some i=>i.size|none=>0
def su(P:Program)(t:TypeId):Nat:=match P.info? t with|some i=>i.bytes|none=>0
def yN(P:Program)(t:TypeId):Option Value:=match P.info? t with|some i=>i.zero|none=>none
def ON(P:Program)(t:TypeId):Option Kind:=
 match yN P t with
 |some (.agg vs)=>bif wU P t&&bP vs.toList.length (cf P t)then(match FI vs.toList with|some cs=>some (.agg cs)|none=>none)else none
 |some v=>bif wU P t then none else(match US v with|some c=>some (.c c)|none=>none)
 |none=>none
def Fj(P:Program)(t:TypeId):Option Kind:=
 match P.underlying t with
 |none=>none
 |some _=>ON P t
structure HC(P:Program)(f:FuncId)(args:List Value)(ks:List Kind)(K:cN ks→ad→Prop)(h:ad):Prop where
 run:∀w:World,w.heap=h→
  ((callFunc f args.toArray).run P w=.ok (.enter f args.toArray) w∧
   Calls P f args.toArray w fun e w'=>Tame w w'∧∃t:cN ks,e=.returned (E5 ks (oG ks t))∧K t w'.heap)∨
  (∃v w',(callFunc f args.toArray).run P w=.ok (.value v) w'∧Tame w w'∧∃t:cN ks,v=E5 ks (oG ks t)∧K t w'.heap)
structure HE(P:Program)(f:FuncId)(args:List Value)(ks:List Kind)(K:cN ks→ad→Prop)(h:ad):Prop where
 run:∀w:World,w.heap=h→(∀(args:Array Value) (w:World),(callFunc f args).run P w=.ok (.enter f args) w)∧
  Calls P f args.toArray w fun e w'=>Tame w w'∧∃t:cN ks,e=.returned (E5 ks (oG ks t))∧K t w'.heap
theorem HE.hc{P:Program}{f:FuncId}{args:List Value}{ks:List Kind}{K:cN ks→ad→Prop}{h:ad}(e:HE P f args ks K h):HC P f args ks K h:=
 ⟨fun w hw=>.inl ⟨(e.run w hw).1 _ w,(e.run w hw).2⟩⟩
structure HY(P:Program)(l:Nat)(args:List Value)(K:Bool→ad→Prop)(h:ad):Prop where
 run:∀w:World,w.heap=h→∃fn tmps assign body,(Instr.yield l args.toArray).run P w=.ok (.round l fn tmps assign body) w∧
  ∀(c:Frame) (cs:List Frame),∃b w',Tame w w'∧K b w'.heap∧Steps P (lone (Frame.round l fn tmps assign body .normal) (c::cs) w) (lone (c.finish (.bool b)) cs w')
structure HV(P:Program)(fv:Value)(args:List Value)(ks:List Kind)(K:cN ks→ad→Prop)(h:ad):Prop where
 run:(∃f first cap,fv=.func (.func f) first cap∧HC P f (first.toList++args++cap.toList) ks K h)∨
  (∃l,fv=.func (.yield l) #[] #[]∧HY P l args (fun b h'=>D3 ks [.bool b] fun t=>K t h') h)
noncomputable def CondP(b:Bool)(t e:Prop):Prop:=Bool.rec (motive:=fun _=>Prop) e t b
theorem CondP.yes{b:Bool}{t e:Prop}(h:CondP b t e)(hb:b=true):t:=by subst hb;exact h
theorem CondP.no{b:Bool}{t e:Prop}(h:CondP b t e)(hb:b=false):e:=by subst hb;exact h
theorem CondP.intro{b:Bool}{t e:Prop}(h1:b=true→t)(h2:b=false→e):CondP b t e:=by cases b;exact h2 rfl;exact h1 rfl
theorem ax{t e:Prop}:CondP true t e↔t:=xb
theorem ag{t e:Prop}:CondP false t e↔e:=xb
attribute [irreducible] CondP
def At(h:ad)(k:ad→Prop):Prop:=k h
def Bd{T:Type}(x:T)(k:T→Prop):Prop:=k x
structure Join{T:Type}(rest:T→ad→Prop)(k:(T→ad→Prop)→Prop):Prop where
 run:k rest
structure LoopP{T:Type}(F:(T→ad→Prop)→T→ad→Prop)(t:T)(h:ad):Prop where
 run:∀I:T→ad→Prop,(∀t h,F I t h→I t h)→I t h
abbrev cE:=List (Nat×Value)
noncomputable def kV(r:cE)(t:Nat):Option Value:=
 fW (motive:=fun _=>Option Value) none (fun kv _ ih=>bif bP kv.1 t then some kv.2 else ih) r
theorem E2(k:Nat)(v:Value)(r:cE)(t:Nat):kV ((k,v)::r) t=bif bP k t then some v else kV r t:=rfl
noncomputable def dD(r:cE):Operand→Option Value
 | .tmp t=>kV r t
 | .const v=>some v
 | .global g=>some (.pointer (some ⟨g,0,none⟩))
 | .func f=>some (.func (.func f) #[] #[])
noncomputable def si(r:cE):List Operand→Option (List Value)
 | []=>some []
 |o::os=>match dD r o,si r os with
  |some v,some vs=>some (v::vs)
  |_,_=>none
noncomputable def Jd:List CK→Nat→Addr→ad→(List Value→Prop)→Prop
 | [],_,_,_,k=>k []
 |c::cs,i,a,h,k=>∃x:c.den,aP h (adr a i)=some (c.enc x)∧Jd cs (i+1) a h fun vs=>k (c.enc x::vs)
noncomputable def ut:List Value→Nat→Addr→ad→Prop
 | [],_,_,_=>True
 | [v],i,a,h=>aP h (adr a i)=some v
 |v::u::vs,i,a,h=>aP h (adr a i)=some v∧ut (u::vs) (i+1) a h
abbrev RK:=Value→Option (ad→Prop)→Prop
noncomputable def Kp(P:Program)(t:TypeId)(v:Value)(K:RK)(h:ad):Prop:=
 match v with
 | .pointer (some a)=>
  match Fj P t with
  |some (.c c)=>∃x:c.den,aP h a=some (c.enc x)∧K (c.enc x) (some fun h'=>aP h' a=some (c.enc x))
  |some (.agg cs)=>Jd cs 0 a h fun vs=>K (.agg vs.toArray) (some fun h'=>ut vs 0 a h')
  |none=>False
 |_=>False
def xQ(P:Program)(t:TypeId)(f:Nat):Option (TypeId×Nat):=
 match P.underlying t with
 |some (.struct fs)=>match fs.toList[f]? with
  |some g=>some (g.type,g.offset)
  |none=>none
 |_=>none
def xe(P:Program)(t:TypeId):Option TypeId:=
 match P.underlying t with
 |some (.slice e)=>some e
 |_=>none
def Mr(op:BinOp)(k:IntKind)(a b:Int)(K:RK):Prop:=
 match op with
 | .shl=>0≤b∧K (.int k (k.wrap (a*2^(min b.toNat k.bits)))) none
 | .shr=>0≤b∧K (.int k (a.fdiv (2^(min b.toNat k.bits)))) none
 |_=>False
def UK(op:BinOp)(k:IntKind)(a b:Int)(K:RK):Prop:=
 match op with
 | .add=>K (.int k (k.wrap (a+b))) none
 | .sub=>K (.int k (k.wrap (a-b))) none
 | .mul=>K (.int k (k.wrap (a*b))) none
 | .quo=>b≠0∧K (.int k (k.wrap (a.tdiv b))) none
 | .rem=>b≠0∧K (.int k (a.tmod b)) none
 | .and=>K (.int k (k.wrap (ar k.bits a&&&ar k.bits b).toNat)) none
 | .or=>K (.int k (k.wrap (ar k.bits a|||ar k.bits b).toNat)) none
 | .xor=>K (.int k (k.wrap (ar k.bits a^^^ar k.bits b).toNat)) none
 | .andNot=>K (.int k (k.wrap (ar k.bits a&&& ~~~ar k.bits b).toNat)) none
 | .eql=>K (.bool (a==b)) none
 | .neq=>K (.bool (a !=b)) none
 | .lss=>K (.bool (decide (a<b))) none
 | .leq=>K (.bool (decide (a≤b))) none
 | .gtr=>K (.bool (decide (a>b))) none
 | .geq=>K (.bool (decide (a≥b))) none
 |_=>False
def Uq(op:BinOp)(a b:ByteArray)(K:RK):Prop:=
 match op with
 | .add=>((a.size+b.size:Nat):Int)≤9223372036854775807∧K (.string (a++b)) none
 | .eql=>K (.bool (a.toList==b.toList)) none
 | .neq=>K (.bool (!(a.toList==b.toList))) none
 | .lss=>K (.bool (Op.bytesLess a.toList b.toList)) none
 | .leq=>K (.bool (Op.bytesLess a.toList b.toList||a.toList==b.toList)) none
 | .gtr=>K (.bool (!(Op.bytesLess a.toList b.toList||a.toList==b.toList))) none
 | .geq=>K (.bool (!(Op.bytesLess a.toList b.toList))) none
 |_=>False
def fQ(h:ad)(a:Addr):Prop:=(∃c e,h[a.block]? =some (.cells c e (0,0))∧0<c.size)
def Th(P:Program)(t:TypeId)(neg:Bool)(x y:Value)(K:RK):Prop:=
 match P.underlying t,x,y with
 |some (.pointer _),.pointer a,.pointer none=>K (.bool (bif neg then !a.isNone else a.isNone)) none
 |some (.map _ _),.map a,.map none=>K (.bool (bif neg then !a.isNone else a.isNone)) none
 |some (.slice _),.slice a _ _,.slice none _ _=>K (.bool (bif neg then !a.isNone else a.isNone)) none
 |_,_,_=>False
def UJ:Operand→Bool
 | .const (.pointer none)=>true
 | .const (.map none)=>true
 | .const (.slice none 0 0)=>true
 |_=>false
def VQ(P:Program)(t:TypeId)(neg:Bool)(x y:Value)(K:RK)(h:ad):Prop:=
 match P.underlying t,x,y with
 |some .bool,.bool a,.bool b=>K (.bool (bif neg then !(a==b)else a==b)) none
 |some (.pointer e),.pointer a,.pointer b=>
  (bif bP (cf P e) 0 then False else True)∧
  (∀x y,a=some x→b=some y→fQ h x∧fQ h y)∧
  K (.bool (bif neg then !(a==b)else a==b)) (some fun h'=>∀x y,a=some x→b=some y→fQ h' x∧fQ h' y)
 |_,_,_=>False
def Uy(P:Program)(op:BinOp)(t:TypeId)(x y:Value)(K:RK)(h:ad):Prop:=
 match x,y with
 | .int k a,.int k' b=>
  match op with
  | .shl=>Mr .shl k a b K
  | .shr=>Mr .shr k a b K
  |op=>bif IX k' k then UK op k a b K else False
 | .string a,.string b=>Uq op a b K
 |x,y=>match op with
  | .eql=>VQ P t false x y K h
  | .neq=>VQ P t true x y K h
  |_=>False
def tg(h:ad):List (Option Addr×Option Addr)→Prop
 | []=>True
 |(a,b)::l=>(∀x y,a=some x→b=some y→fQ h x∧fQ h y)∧tg h l
def RJ(P:Program)(t:TypeId)(x y:Value):Option (Bool×List (Option Addr×Option Addr)):=
 match P.underlying t,x,y with
 |some (.int _),.int k a,.int k' b=>bif IX k' k then some (a==b,[])else none
 |some .bool,.bool a,.bool b=>some (a==b,[])
 |some .string,.string a,.string b=>some (a.toList==b.toList,[])
 |some (.pointer e),.pointer a,.pointer b=>bif bP (cf P e) 0 then none else some (a==b,[(a,b)])
 |_,_,_=>none
def TB(P:Program)(rec:TypeId→List Value→List Value→Option (Bool×List (Option Addr×Option Addr)))(xs ys:List Value):List Field→Option (Bool×List (Option Addr×Option Addr))
 | []=>some (true,[])
 |f::fs=>
  if f.name= "_" then none else
  bif (P.underlying f.type).isSome&&(P.info? f.type).isSome then
   match(bif wU P f.type then rec f.type ((xs.drop f.offset).take (cf P f.type)) ((ys.drop f.offset).take (cf P f.type))
    else match xs[f.offset]?,ys[f.offset]? with|some x,some y=>RJ P f.type x y|_,_=>none),TB P rec xs ys fs with
   |some (b,l),some (c,m)=>some (b&&c,l++m)
   |_,_=>none
  else none
def RL(P:Program):Nat→TypeId→List Value→List Value→Option (Bool×List (Option Addr×Option Addr))
 |0,_,_,_=>none
 |d+1,t,xs,ys=>match P.underlying t with
  |some (.struct fs)=>bif P.stoodInHeld t then none else TB P (RL P d) xs ys fs.toList
  |_=>none
def We(neg b:Bool)(K:RK)(h:ad):List (Option Addr×Option Addr)→Prop
 | []=>K (.bool (bif neg then !b else b)) none
 |p::l=>tg h (p::l)∧K (.bool (bif neg then !b else b)) (some fun h'=>tg h' (p::l))
def Uz(P:Program)(op:BinOp)(t:TypeId)(xs ys:List Value)(K:RK)(h:ad):Prop:=
 bif P.eqGuardType P.depth t then False else
 match op with
 | .eql=>(match RL P 10 t xs ys with|some (b,l)=>We false b K h l|none=>False)
 | .neq=>(match RL P 10 t xs ys with|some (b,l)=>We true b K h l|none=>False)
 |_=>False
def V6(op:UnOp)(x:Value)(K:RK):Prop:=
 match op,x with
 | .neg,.int k n=>K (.int k (k.wrap (0-n))) none
 | .xor,.int k n=>K (.int k (k.wrap (ar k.bits (if k.signed then-1 else k.max)^^^ar k.bits n).toNat)) none
 | .not,.bool b=>K (.bool (!b)) none
 |_,_=>False
def eo(s:ByteArray):List Value:=s.data.toList.map fun b=>.int .u8 b.toNat
noncomputable def Row(h:ad)(a:Addr)(vs:List Value):Prop:=∀i v,vs[i]? =some v→aP h (adr a i)=some v
noncomputable def SRow(h:ad)(a:Option Addr)(n:Nat)(vs:List Value):Prop:=vs.length=n∧(vs= []∨∃b,a=some b∧Row h b vs)
def M9(P:Program)(e:TypeId):Bool:=match P.underlying e with|some (.int .u8)=>true|_=>false
def UI(P:Program)(s d:TypeId):Bool:=
 match P.underlying s,P.underlying d with
 |some .string,some (.slice e)=>M9 P e
 |_,_=>false
def ByP(e:TypeId)(s:ByteArray)(h:ad)(K:Nat→ad→Prop):Prop:=
 ∀c,s.size≤c→K c (h.push (.cells (eo s++kM (c-s.size) (Value.int .u8 0)).toArray e (c,c+1)))
noncomputable def Re(P:Program)(src dst:TypeId)(x:Value)(K:RK)(h:ad):Prop:=
 match P.underlying src,P.underlying dst,x with
 |some (.int _),some (.int k),.int _ n=>K (.int k (k.wrap n)) none
 |some .string,some .string,.string s=>K (.string s) none
 |some (.slice e),some .string,.slice a n _=>bif M9 P e then∃s:ByteArray,SRow h a n (eo s)∧K (.string s) (some fun h'=>SRow h' a n (eo s))else False
 |_,_,_=>False
def R8(v:Option Value)(d y:Nat)(K:Nat→Prop):Prop:=
 match v with
 |none=>K d
 |some (.int _ i)=>(0≤i∧i≤y)∧K i.toNat
 |_=>False
noncomputable def aU(a:Option Addr)(l m size:Nat):Option Addr:=if m=l then a else a.map (adr · (l*size))
def Rm(P:Program)(t:TypeId)(K:Prop):Prop:=match P.info? t with|some _=>K|none=>False
noncomputable def ME(P:Program)(t:TypeId)(x:Value)(lo hi mx:Option Value)(K:RK):Prop:=
 match P.underlying t,x with
 |some .string,.string s=>match mx with
  |some _=>False
  |none=>R8 hi s.size s.size fun h=>R8 lo 0 h fun l=>K (.string (s.extract l h)) none
 |some (.slice e),.slice a len cap=>Rm P e (
  match mx with
  |none=>R8 hi len cap fun h=>R8 lo 0 h fun l=>K (.slice (aU a l cap (cf P e)) (h-l) (cap-l)) none
  |some m=>match hi with
   |none=>False
   |some hi=>R8 (some m) 0 cap fun m=>R8 (some hi) 0 m fun h=>R8 lo 0 h fun l=>K (.slice (aU a l m (cf P e)) (h-l) (m-l)) none)
 |some (.array n e),.pointer (some a)=>Rm P e (
  match mx with
  |none=>R8 hi n n fun h=>R8 lo 0 h fun l=>K (.slice (aU (some a) l n (cf P e)) (h-l) (n-l)) none
  |some _=>False)
 |_,_=>False
noncomputable def Hq(r:cE):Option Operand→Option (Option Value)
 |none=>some none
 |some o=>match dD r o with
  |some v=>some (some v)
  |none=>none
noncomputable def zB(P:Program)(t:TypeId)(x i:Value)(K:RK):Prop:=
 match P.underlying t,x,i with
 |some (.array n e),.pointer (some a),.int _ i=>Rm P e ((0≤i∧i<n)∧K (.pointer (some (adr a (i.toNat*cf P e)))) none)
 |some (.slice e),.slice b len _,.int _ i=>Rm P e ((0≤i∧i<len)∧∃a,b=some a∧K (.pointer (some (adr a (i.toNat*cf P e)))) none)
 |_,_,_=>False
def MG(P:Program)(t:TypeId)(x i:Value)(K:RK):Prop:=
 match P.underlying t,x,i with
 |some .string,.string s,.int _ i=>∃b:UInt8,0≤i∧s[i.toNat]? =some b∧K (.int .u8 b.toNat) none
 |_,_,_=>False
noncomputable def MH(P:Program)(t:TypeId)(x:Value)(f:Nat)(K:RK):Prop:=
 match xQ P t f,x with
 |some (u,off),.agg cs=>bif (P.underlying u).isSome&&(P.info? u).isSome then(bif wU P u then K (.agg ((cs.toList.drop off).take (cf P u)).toArray) none
  else(match cs.toList[off]? with|some v=>K v none|none=>False))else False
 |_,_=>False
def T0(c a b:Value)(K:RK):Prop:=
 match c with
 | .bool c=>(match a,b with
  | .bool x,.bool y=>K (.bool (bif c then x else y)) none
  |_,_=>(match c with|true=>K a none|false=>K b none))
 |_=>False
def iH:Value→Value→Bool
 | .int _ a,.int _ b=>a==b
 | .string a,.string b=>a==b
 | .bool a,.bool b=>a==b
 |_,_=>false
def Lm(k:Value):List MapEntry→Option Value
 | []=>none
 |e::es=>if iH k e.key then some e.val else Lm k es
def Fl(c:CK)(es:List MapEntry):Prop:=∀e∈es,∃x:c.den,e.key=c.enc x
def NG(c:CK)(z:Value)(h:ad)(m:Option Nat)(k v:Value)(ok:Bool):Prop:=
 match m with
 |none=>v=z∧ok=false
 |some r=>∃es clock,h[r]? =some (.map es clock)∧Fl c es.toList∧
  (match Lm k es.toList with|some u=>v=u∧ok=true|none=>v=z∧ok=false)
def KW(P:Program)(t:TypeId):Option (CK×TypeId):=
 match P.underlying t with
 |some (.map k e)=>match P.underlying k with
  |some (.int i)=>some (.int i,e)
  |some .string=>some (.str,e)
  |some .bool=>some (.bool,e)
  |_=>none
 |_=>none
def IE(P:Program)(t:TypeId)(x k:Value)(ok:Bool)(K:RK)(h:ad):Prop:=
 match KW P t,x with
 |some (c,e),.map m=>c.dec k fun _=>
  (match Fj P e,yN P e with
   |some ek,some z=>∃(y:ek.den) (b:Bool),NG c z h m k (ek.enc y) b∧
    K (bif ok then .tuple #[ek.enc y,.bool b]else ek.enc y) (some fun h'=>NG c z h' m k (ek.enc y) b)
   |_,_=>False)
 |_,_=>False
def Sp(h:ad)(m:Option Nat)(n:Nat):Prop:=
 match m with
 |none=>n=0
 |some r=>∃es clock,h[r]? =some (.map es clock)∧n=es.size
def Uw(P:Program)(t:TypeId)(x:Value)(K:RK)(h:ad):Prop:=
 match P.underlying t,x with
 |some .string,.string s=>K (.int .i64 s.size) none
 |some (.array n _),_=>K (.int .i64 n) none
 |some (.slice _),.slice _ n _=>K (.int .i64 n) none
 |some (.map _ _),.map m=>∃n:Nat,Sp h m n∧K (.int .i64 n) (some fun h'=>Sp h' m n)
 |_,_=>False
def Ux(P:Program)(t:TypeId)(x:Value)(K:RK):Prop:=
 match P.underlying t,x with
 |some (.slice _),.slice _ _ n=>K (.int .i64 n) none
 |_,_=>False
def IT(mx:Bool)(k:IntKind):Int→List Value→(Value→Prop)→Prop
 |a,[],f=>f (.int k a)
 |a,.int k' b::vs,f=>bif IX k' k then IT mx k (bif mx then(if b>a then b else a)else(if b<a then b else a)) vs f else False
 |_,_,_=>False
def Ej(mx:Bool)(vs:List Value)(f:Value→Prop):Prop:=
 match vs with
 | .int k a::vs=>IT mx k a vs f
 |_=>False
def NH(h:ad)(i:Nat)(e:MapEntry):Prop:=
 ∃m since seen last stamp es,h[i]? =some (.mapIter (some m) since seen last)∧seen.back? =some stamp∧h[m]? =some (.map es last)∧es.find? (fun e=>e.born==stamp)=some e
def rL(P:Program)(t:TypeId):Bool:=match P.underlying t with|some (.interface _)=>false|some _=>true|none=>false
def Oy(P:Program)(t:TypeId)(x:Value)(K:RK):Prop:=
 bif rL P t then(match Fj P t with
  |some k=>∃y:k.den,x=.iface t (k.enc y)∧K (k.enc y) none
  |none=>False)else False
def Kv(cs:List Value)(off:Nat)(vs:List Value):List Value:=cs.take off++vs++cs.drop (off+vs.length)
def Dv(place:Nat→Option (Nat×Nat)):List Value→List (Nat×Value)→Option (List Value)
 |cs,[]=>some cs
 |cs,(i,v)::rest=>match place i with
  |none=>none
  |some (off,size)=>bif bP v.cells.toList.length size&&yC (off+v.cells.toList.length) cs.length then Dv place (Kv cs off v.cells.toList) rest else none
noncomputable def rK(r:cE):List (Nat×Operand)→Option (List (Nat×Value))
 | []=>some []
 |(i,o)::ps=>match dD r o,rK r ps with
  |some v,some vs=>some ((i,v)::vs)
  |_,_=>none
def r9(P:Program)(t:TypeId):Option (List Value):=match yN P t with|some z=>some z.cells.toList|none=>none
def dJ(n:Nat)(z:List Value):List Value:=(kM n z).flatten
def yA(P:Program)(t:TypeId):Bool:=match P.info? t with|some _=>true|none=>false
def A5(P:Program):List Field→Bool
 | []=>true
 |f::fs=>bif yA P f.type then A5 P fs else false
def MO(P:Program)(fs:List Field)(i:Nat):Option (Nat×Nat):=match fs[i]? with|some f=>some (f.offset,cf P f.type)|none=>none
def Jj(P:Program)(t:TypeId)(parts:List (Nat×Value)):Option (List Value):=
 match P.underlying t,r9 P t with
 |some (.struct fs),some z=>bif A5 P fs.toList then Dv (MO P fs.toList) z parts else none
 |some (.array _ e),some z=>bif yA P e then Dv (fun i=>some (i*cf P e,cf P e)) z parts else none
 |_,_=>none
noncomputable def B9(P:Program)(ek:Option (Kind×Kind))(o:Op)(r:cE)(K:RK)(h:ad):Prop:=
 match o with
 | .entry it=>match dD r it,ek with
  |some (.pointer (some a)),some (kk,vk)=>a.off=0∧∃(e:MapEntry) (x:kk.den) (y:vk.den),NH h a.block e∧e.key=kk.enc x∧e.val=vk.enc y∧
    K (.tuple #[kk.enc x,vk.enc y]) (some fun h'=>NH h' a.block e)
  |_,_=>False
 | .move x| .assign x=>match dD r x with|some v=>K v none|none=>False
 | .load t a=>match dD r a with|some v=>Kp P t v K h|none=>False
 | .nilCheck x=>match dD r x with|some (.pointer p)=>∃a,p=some a∧K (.pointer (some a)) none|_=>False
 | .binOp op t x y _=>match dD r x,dD r y with
  |some (.agg v),some (.agg u)=>Uz P op t v.toList u.toList K h
  |some v,some u=>(match op,UJ y with
   | .eql,true=>Th P t false v u K
   | .neq,true=>Th P t true v u K
   |op,_=>Uy P op t v u K h)
  |_,_=>False
 | .unOp op _ x=>match dD r x with|some v=>V6 op v K|none=>False
 | .convert s d x=>match dD r x with|some v=>Re P s d v K h|none=>False
 | .pick c a b=>match dD r c,dD r a,dD r b with|some c,some a,some b=>T0 c a b K|_,_,_=>False
 | .extract x i=>match dD r x with
  |some (.tuple vs)=>(match vs.toList[i]? with|some v=>K v none|none=>False)
  |_=>False
 | .fieldAddr t x f=>match dD r x,xQ P t f with
  |some (.pointer (some a)),some (u,off)=>bif bP (cf P u) 0 then False else K (.pointer (some (adr a off))) none
  |_,_=>False
 | .field t x f=>match dD r x with|some v=>MH P t v f K|none=>False
 | .indexAddr t x i=>match dD r x,dD r i with|some v,some u=>zB P t v u K|_,_=>False
 | .index t x i=>match dD r x,dD r i with|some v,some u=>MG P t v u K|_,_=>False
 | .slice t x lo hi mx=>match dD r x,Hq r lo,Hq r hi,Hq r mx with
  |some v,some l,some h',some m=>ME P t v l h' m K
  |_,_,_,_=>False
 | .lookup t x k ok=>match dD r x,dD r k with|some v,some u=>IE P t v u ok K h|_,_=>False
 | .makeInterface t x=>match dD r x with|some v=>bif rL P t then K (.iface t v) none else False|none=>False
 | .typeAssert x _ t ok=>match dD r x with|some v=>bif ok then False else Oy P t v K|none=>False
 | .build t ps=>match rK r ps.toList with
  |some vs=>(match Jj P t vs with|some cs=>K (.agg cs.toArray) none|none=>False)
  |none=>False
 | .makeFunc fn first cap=>match si r first.toList,si r cap.toList with
  |some vs,some us=>K (.func fn vs.toArray us.toArray) none
  |_,_=>False
 | .call c=>match c.callee,si r c.args.toList,c.argTypes.toList with
  | .builtin .len,some [v],[t]=>Uw P t v K h
  | .builtin .cap,some [v],[t]=>Ux P t v K
  | .builtin .min,some vs,_=>Ej false vs fun v=>K v none
  | .builtin .max,some vs,_=>Ej true vs fun v=>K v none
  |_,_,_=>False
 |_=>False
abbrev WK:=Value→ad→Prop
def aj(h:ad):Addr:=⟨h.size,0,none⟩
def hnew(h:ad)(cs:List Value)(t:TypeId):ad:=h.push (.cells cs.toArray t (0,0))
def cr:List Value→Bool
 | []=>true
 |v::vs=>(match v with| .agg _=>false| .tuple _=>false|_=>true)&&cr vs
noncomputable def ff(h:ad)(a:Addr):Nat→List Value→ad
 |_,[]=>h
 |i,v::vs=>ff (hset h (adr a i) v) a (i+1) vs
noncomputable def gg(h:ad)(a:Option Addr)(i:Nat)(vs:List Value):ad:=match a with|some a=>ff h a i vs|none=>h
noncomputable def qL(h:ad)(a:Option Addr)(i:Nat)(vs:List Value):Prop:=vs= []∨∃b,a=some b∧∀j,j<vs.length→Wr h (adr b (i+j))
noncomputable def Md(P:Program)(t:TypeId)(a v:Value)(K:WK)(h:ad):Prop:=
 match a with
 | .pointer (some a)=>bif bP v.cells.toList.length (cf P t)&&cr v.cells.toList then Rm P t
   (match v.cells.toList with
    | [v]=>Wr h a∧K undef (hset h a v)
    |vs=>qL h (some a) 0 vs∧K undef (ff h a 0 vs))
  else False
 |_=>False
noncomputable def Sg(P:Program)(e:TypeId)(base:Option Addr)(sl sc xl:Nat)(xs:List Value)(K:WK)(h:ad):Prop:=
 (sl+xl≤sc→qL h base (sl*cf P e) xs∧cr xs=true∧K (.slice base (sl+xl) sc) (gg h base (sl*cf P e) xs))∧
 (sc<sl+xl→∃old z,SRow h base (sl*cf P e) old∧r9 P e=some z∧0<su P e∧Builtin.nextslicecap (sl+xl) sc*su P e≤2^48∧
  ∀nc,sl+xl≤nc→K (.slice (some (aj h)) (sl+xl) nc) (hnew h (old++xs++dJ (nc-(sl+xl)) z) e))
noncomputable def Ee(P:Program)(t:TypeId)(s x:Value)(K:WK)(h:ad):Prop:=
 match xe P t,s,x with
 |some e,.slice b sl sc,.slice a xl _=>Rm P e (∃xs,SRow h a (xl*cf P e) xs∧Sg P e b sl sc xl xs K h)
 |some e,.slice b sl sc,.string x=>bif bP (cf P e) 1 then Sg P e b sl sc x.size (eo x) K h else False
 |_,_,_=>False
noncomputable def EC(P:Program)(t:TypeId)(s x:Value)(K:WK)(h:ad):Prop:=
 match xe P t,s,x with
 |some e,.slice b sl sc,.int _ l=>(match r9 P e with
  |some z=>bif bP z.length (cf P e)then(0≤l∧l*su P e≤2^48∧l≤9223372036854775807∧((sl+l.toNat:Nat):Int)≤9223372036854775807)∧Sg P e b sl sc l.toNat (dJ l.toNat z) K h else False
  |none=>False)
 |_,_,_=>False
noncomputable def Me(P:Program)(t:TypeId)(x:Value)(K:WK)(h:ad):Prop:=
 match xe P t,x with
 |some e,.slice a n _=>(match r9 P e with
  |some z=>bif cr z then qL h a 0 (dJ n z)∧K (.tuple #[]) (gg h a 0 (dJ n z))else False
  |none=>False)
 |_,_=>False
noncomputable def QD(P:Program)(t:TypeId)(d s:Value)(K:WK)(h:ad):Prop:=
 match xe P t,d,s with
 |some e,.slice b dl _,.slice a sl _=>Rm P e (∃xs,SRow h a (dT sl dl*cf P e) xs∧qL h b 0 xs∧cr xs=true∧K (.int .i64 (dT sl dl)) (gg h b 0 xs))
 |some e,.slice b dl _,.string x=>bif bP (cf P e) 1 then qL h b 0 ((eo x).take dl)∧K (.int .i64 (dT x.size dl)) (gg h b 0 ((eo x).take dl))else False
 |_,_,_=>False
def ML(k v:Value)(clock:Nat):List MapEntry→List MapEntry×Nat
 | []=>([{key:=k,val:=v,born:=clock}],clock+1)
 |e::es=>if iH k e.key then({e with key:=k,val:=v}::es,clock)else let r:=ML k v clock es;(e::r.1,r.2)
def Lp(k:Value):List MapEntry→List MapEntry
 | []=> []
 |e::es=>if iH k e.key then es else e::Lp k es
def Pb(c:CK)(h:ad)(r:Nat):Prop:=∃es clock,h[r]? =some (.map es clock)∧Fl c es.toList
def Tl(h:ad)(r:Nat)(k v:Value):ad:=
 match h[r]? with
 |some (.map es clock)=>h.setIfInBounds r (.map (ML k v clock es.toList).1.toArray (ML k v clock es.toList).2)
 |_=>h
def OL(h:ad)(r:Nat)(k:Value):ad:=
 match h[r]? with
 |some (.map es clock)=>h.setIfInBounds r (.map (Lp k es.toList).toArray clock)
 |_=>h
def Ed(P:Program)(t:TypeId)(m k v:Value)(K:WK)(h:ad):Prop:=
 match KW P t,m with
 |some (c,_),.map m=>c.dec k fun _=>∃r,m=some r∧Pb c h r∧K undef (Tl h r k v)
 |_,_=>False
def EA(P:Program)(t:TypeId)(m k:Value)(K:WK)(h:ad):Prop:=
 match KW P t,m with
 |some (c,_),.map m=>c.dec k fun _=>(m=none∧K (.tuple #[]) h)∨(∃r,m=some r∧Pb c h r∧K (.tuple #[]) (OL h r k))
 |_,_=>False
def Q9(P:Program):List TypeId→Option (List Kind)
 | []=>some []
 |t::ts=>match Fj P t,Q9 P ts with
  |some k,some ks=>some (k::ks)
  |_,_=>none
def Ra(P:Program)(t:TypeId):Option (List Kind):=
 match P.underlying t with
 |some (.tuple ts)=>Q9 P ts.toList
 |_=>Q9 P [t]
noncomputable def TQ(P:Program)(f:Operand)(r:cE)(args:List Value)(t:TypeId)(K:WK)(h:ad):Prop:=
 match Ra P t with
 |none=>False
 |some ks=>match f with
  | .func f=>HC P f args ks (fun x h'=>K (E5 ks (oG ks x)) h') h
  |f=>match dD r f with
   |some fv=>HV P fv args ks (fun x h'=>K (E5 ks (oG ks x)) h') h
   |none=>False
def QC(it:Value)(K:WK)(h:ad):Prop:=
 match it with
 | .pointer (some a)=>a.off=0∧
  ∃m since seen last,h[a.block]? =some (.mapIter m since seen last)∧
   ((m=none∧K (.tuple #[.bool false]) h)∨
    (∃r es clock,m=some r∧h[r]? =some (.map es clock)∧(seen.isEmpty=true∨es.isEmpty=true∨es.all (fun e=>decide (e.born≥last))=false)∧
     ((∀e∈es.toList,e.born<since→seen.contains e.born=true)→K (.tuple #[.bool false]) h)∧
     (∀e∈es.toList,seen.contains e.born=false→K (.tuple #[.bool true,e.key,e.val]) (h.setIfInBounds a.block (.mapIter (some r) since (seen.push e.born) clock)))))
 |_=>False
noncomputable def Gk(P:Program)(o:Oper)(r:cE)(K:WK)(h:ad):Prop:=
 match o.op with
 | .alloc t=>(match r9 P t with|some z=>K (.pointer (some (aj h))) (hnew h z t)|none=>False)
 | .box t x=>(match dD r x with|some v=>K (.pointer (some (aj h))) (hnew h v.cells.toList t)|none=>False)
 | .build t ps=>(match rK r ps.toList with
  |some vs=>(match Jj P t vs with|some cs=>K (.agg cs.toArray) h|none=>False)
  |none=>False)
 | .buildSlice t n ps=>(match xe P t,rK r ps.toList with
  |some e,some vs=>(match r9 P e with
   |some z=>bif yC (n*cf P e) 16777216&&bP z.length (cf P e)then
     (match Dv (fun i=>some (i*cf P e,cf P e)) (dJ n z) vs with|some cs=>K (.slice (some (aj h)) n n) (hnew h cs e)|none=>False)
    else False
   |none=>False)
  |_,_=>False)
 | .store t a x=>(match dD r a,dD r x with|some a,some v=>Md P t a v K h|_,_=>False)
 | .mapUpdate t m k x=>(match dD r m,dD r k,dD r x with|some m,some k,some v=>Ed P t m k v K h|_,_,_=>False)
 | .insert t m k x=>(match dD r m,dD r k,dD r x with|some m,some k,some v=>Ed P t m k v K h|_,_,_=>False)
 | .makeMap t n=>(match n with
  |none=>K (.map (some h.size)) (h.push (.map #[] 0))
  |some n=>(match dD r n,P.underlying t with|some (.int _ _),some (.map _ _)=>K (.map (some h.size)) (h.push (.map #[] 0))|_,_=>False))
 | .makeSlice t l c=>(match xe P t,dD r l,dD r c with
  |some e,some (.int _ l),some (.int _ c)=>(match r9 P e with
   |some z=>bif bP z.length (cf P e)then(0≤l∧l≤c∧c≤9223372036854775807∧su P e*c≤2^48)∧K (.slice (some (aj h)) l.toNat c.toNat) (hnew h (dJ c.toNat z) e)else False
   |none=>False)
  |_,_,_=>False)
 | .convert s d x=>(match P.underlying s,P.underlying d,dD r x with
  |some .string,some (.slice e),some (.string v)=>bif M9 P e then ByP e v h (fun c h'=>K (.slice (some (aj h)) v.size c) h')else False
  |_,_,_=>False)
 | .range t x=>(match P.underlying t,dD r x with
  |some (.map _ _),some (.map m)=>∃clock,(m=none∧clock=0∨∃r es,m=some r∧h[r]? =some (.map es clock))∧K (.pointer (some (aj h))) (h.push (.mapIter m clock #[] clock))
  |_,_=>False)
 | .next it false=>(match dD r it with|some it=>QC it K h|none=>False)
 | .call c=>(match c.callee,si r c.args.toList with
  | .builtin .append,some [s,x]=>(match c.argTypes.toList with| [t,u]=>(match P.underlying u with|some (.slice _)=>Ee P t s x K h|some .string=>Ee P t s x K h|some (.int _)=>EC P t s x K h|_=>False)|_=>False)
  | .builtin .clear,some [x]=>(match c.argTypes.toList with| [t]=>Me P t x K h|_=>False)
  | .builtin .copy,some [d,s]=>(match c.argTypes.toList with| [t,_]=>QD P t d s K h|_=>False)
  | .builtin .delete,some [m,k]=>(match c.argTypes.toList with| [t,_]=>EA P t m k K h|_=>False)
  | .value f,some args=>TQ P f r args o.type K h
  |_,_=>False)
 |_=>False
def xf(P:Program):Op→Bool
 | .convert s d _=> !UI P s d
 | .alloc _| .box .. | .buildSlice .. | .store .. | .mapUpdate .. | .insert .. | .makeMap .. | .makeSlice .. | .range .. | .next .. =>false
 | .call c=>match c.callee with
  | .builtin .len| .builtin .cap| .builtin .min| .builtin .max=>true
  |_=>false
 |_=>true
def AV(N:Nat)(o:Oper)(v:Value)(r:cE)(K:cE→Prop):Prop:=
 match o.dst with
 |none=>K r
 |some d=>bif Nat.blt d N then K ((d,v)::r)else False
noncomputable def U0(P:Program)(N:Nat)(ek:Option (Kind×Kind))(o:Oper)(r:cE)(K:cE→ad→Prop)(h:ad):Prop:=
 bif xf P o.op then B9 P ek o.op r (fun v _=>AV N o v r fun r'=>K r' h) h
 else Gk P o r (fun v h'=>AV N o v r fun r'=>K r' h') h
inductive DV where
 |f|t|u|x
abbrev vZ:=List (Nat×DV)
noncomputable def sH(d:vZ)(t:Nat):DV:=
 fW (motive:=fun _=>DV) .x (fun kv _ ih=>bif bP kv.1 t then kv.2 else ih) d
noncomputable def AW(d:vZ):Operand→DV
 | .tmp t=>sH d t
 | .const (.bool true)=>.t
 | .const (.bool false)=>.f
 |_=>.x
noncomputable def JJ(d:vZ):Op→DV
 | .move x=>AW d x
 | .assign x=>AW d x
 | .pick c a b=>match AW d c with
  | .t=>AW d a
  | .f=>AW d b
  |_=>.x
 | .unOp .not _ x=>match AW d x with
  | .t=>.f
  | .f=>.t
  |_=>.x
 |_=>.x
def tF(d:vZ)(o:Oper)(v:DV):vZ:=match o.dst with|some t=>(t,v)::d|none=>d
noncomputable def jA(ops:List Oper)(d:vZ)(o:Oper):Option Bool:=
 match o.guard with
 |none=>some true
 |some (j,want)=>match ops[j]? with
  |none=>none
  |some oj=>match oj.dst with
   |none=>none
   |some t=>match sH d t with
    | .t=>some want
    | .f=>some (!want)
    | .u=>some false
    | .x=>none
def Fv(ops:List Oper)(o:Oper):Option Nat:=
 match o.guard with
 |none=>none
 |some (j,_)=>match ops[j]? with
  |none=>none
  |some oj=>oj.dst
noncomputable def He(P:Program)(N:Nat)(ek:Option (Kind×Kind))(ops:List Oper)(o:Oper)(d:vZ)(r:cE)(h:ad)(K:vZ→cE→ad→Prop):Prop:=
 match jA ops d o with
 |some true=>U0 P N ek o r (K (tF d o (JJ d o.op))) h
 |some false=>AV N o undef r fun r'=>K (tF d o .u) r' h
 |none=>False
noncomputable def EY(P:Program)(N:Nat)(ek:Option (Kind×Kind))(ops:List Oper)(l:List Oper):vZ→(cE→ad→Prop)→cE→ad→Prop:=
 fW (motive:=fun _=>vZ→(cE→ad→Prop)→cE→ad→Prop) (fun _ K r h=>K r h)
  (fun o _ ih d K r h=>
  match jA ops d o with
  |some true=>U0 P N ek o r (fun r' h'=>ih (tF d o (JJ d o.op)) K r' h') h
  |some false=>AV N o undef r fun r'=>ih (tF d o .u) K r' h
  |none=>match Fv ops o with
   |none=>False
   |some t=>match kV r t with
    |some (.bool b)=>CondP b
     (He P N ek ops o ((t,.t)::d) ((t,.bool true)::r) h fun d' r' h'=>ih d' K r' h')
     (He P N ek ops o ((t,.f)::d) ((t,.bool false)::r) h fun d' r' h'=>ih d' K r' h')
    |_=>False) l
inductive DA where
 |done
 |take (i:Nat) (rest:DA)
 |all (l:DA)
 |pick (i:Nat) (rest more:DA)
 |last (i:Nat) (rest:DA)
 |lastT (i:Nat) (rest:DA)
 |split (t:Nat) (yes no:DA)
abbrev sx:=List (Nat×(ad→Prop))
def tb(m i:Nat):Bool:=bP (j9 (Nat.shiftRight m i) 1) 1
def is(i:Nat):Nat:=Nat.pow 2 i
inductive DM where
 |mk (am fr lk ds:Nat)
def DM.am:DM→Nat| .mk a _ _ _=>a
def DM.fr:DM→Nat| .mk _ f _ _=>f
def DM.lk:DM→Nat| .mk _ _ l _=>l
def DM.ds:DM→Nat| .mk _ _ _ d=>d
def jN(o:Oper)(i:Nat):Bool:=o.after.toList.any fun e=>bP e.on i&&Region.binds .any e
noncomputable def nL(l:List Edge):Nat:=
 fW (motive:=fun _=>Nat) 0 (fun e _ ih=>bif Region.binds .any e then cX (is e.on) ih else ih) l
noncomputable def mO(l:List Operand):Nat:=
 fW (motive:=fun _=>Nat) 0 (fun o _ ih=>match o with| .tmp t=>cX (is t) ih|_=>ih) l
def o8(o:Oper):Nat:=match o.dst with|some d=>is d|none=>0
noncomputable def pK(ops:List Oper)(o:Oper):Nat:=
 cX (mO o.op.operands.toList) (match o.guard with
  |some (g,_)=>(match ops[g]? with|some og=>o8 og|none=>0)
  |none=>0)
noncomputable def xF(ops:List Oper)(l:List Oper):List DM→Bool:=
 fW (motive:=fun _=>List DM→Bool) (fun ms=>match ms with| []=>true|_=>false)
  (fun o _ ih ms=>match ms with
   |m::ms=>bP (nL o.after.toList) m.am&&bP (pK ops o) m.lk&&bP (o8 o) m.ds&&ih ms
   | []=>false) l
def Cz(x y:DM):Bool:=bP (j9 x.ds (cX y.lk y.ds)) 0&&bP (j9 y.ds x.lk) 0
noncomputable def HP(i:Nat)(m:DM)(l:List DM):Nat→Bool:=
 fW (motive:=fun _=>Nat→Bool) (fun _=>true)
  (fun n _ ih j=>(!(tb m.fr j)||bP j i||tb n.am i||Cz m n)&&ih (gm j)) l
noncomputable def AR(all:List DM)(l:List DM):Nat→Bool:=
 fW (motive:=fun _=>Nat→Bool) (fun _=>true) (fun m _ ih i=>HP i m all 0&&ih (gm i)) l
def KI:List Oper→Bool
 | []=>true
 |o::os=>(match o.op with| .select .. =>false| .defer _=>false|_=>true)&&KI os
noncomputable def Ek(ops:List Oper)(ms:List DM):Bool:=xF ops ops ms&&AR ms ms 0&&KI ops
def ug(o:Oper):sx→sx
 | []=> []
 |(k,S)::l=>bif jN o k then ug o l else(k,S)::ug o l
def vu:sx→ad→Prop→Prop
 | [],_,R=>R
 |(_,S)::l,h,R=>S h∧vu l h R
def JH(m:DM)(ls:Nat):Bool:=bP (j9 m.am ls) m.am
noncomputable def mU(ls:Nat)(l:List DM):Nat→List Nat:=
 fW (motive:=fun _=>Nat→List Nat) (fun _=> []) (fun m _ ih j=>bif !(tb ls j)&&JH m ls then j::ih (gm j)else ih (gm j)) l
def EK(m:DM)(i ls n:Nat):Bool:= !(tb ls i)&&JH m ls&&bP (j9 (cX ls m.fr) (yn (is n))) (yn (is n))
def wz:List Nat→List Nat→Bool
 | [],[]=>true
 |a::as,b::bs=>bP a b&&wz as bs
 |_,_=>false
def Ck:DA→List Nat
 | .pick i _ l=>i::Ck l
 | .last i _=> [i]
 | .lastT i _=> [i]
 |_=> []
noncomputable def Ps(P:Program)(N:Nat)(ops:List Oper)(i:Nat)(L:sx)(d:vZ)(r:cE)(h:ad)(K:sx→vZ→cE→ad→Prop):Prop:=
 match ops[i]? with
 |none=>False
 |some o=>match jA ops d o with
  |some true=>bif xf P o.op then False else Gk P o r (fun v h'=>AV N o v r fun r'=>vu (ug o L) h' (K (ug o L) (tF d o .x) r' h')) h
  |_=>False
noncomputable def Qq(m:Nat)(l:List DM):Nat→Nat:=
 fW (motive:=fun _=>Nat→Nat) (fun _=>m) (fun n _ ih j=>bif tb m j then cX n.am (ih (gm j))else ih (gm j)) l
noncomputable def AX(ms:List DM)(m:Nat):Nat:=Qq (Qq (Qq (Qq m ms 0) ms 0) ms 0) ms 0
def Jq(ms:List DM)(i:Nat):Nat:=match ms[i]? with|some m=>m.am|none=>0
def Ax(m:Nat):sx→sx
 | []=> []
 |(k,S)::l=>bif tb m k then Ax m l else(k,S)::Ax m l
noncomputable def Ot(P:Program)(N:Nat)(ops:List Oper)(ms:List DM)(i:Nat)(L:sx)(d:vZ)(r:cE)(h:ad)(K:sx→vZ→cE→ad→Prop):Prop:=
 match ops[i]? with
 |none=>False
 |some o=>match jA ops d o with
  |some true=>bif xf P o.op then False else Gk P o r (fun v h'=>AV N o v r fun r'=>vu (Ax (AX ms (Jq ms i)) L) h' (K (Ax (AX ms (Jq ms i)) L) (tF d o .x) r' h')) h
  |_=>False
noncomputable def oB(P:Program)(N:Nat)(ops:List Oper)(ms:List DM)(da:DA):Bool→Nat→sx→vZ→(cE→ad→Prop)→cE→ad→Prop:=
 DA.rec (motive:=fun _=>Bool→Nat→sx→vZ→(cE→ad→Prop)→cE→ad→Prop)
  (fun m ls _ _ K r h=>bif !m&&wz (mU ls ms 0) []then K r h else False)
  (fun i _ ih m ls L d K r h=>
   match ops[i]?,ms[i]? with
   |some o,some mi=>bif !m&&EK mi i ls ops.length then
     (match jA ops d o with
      |none=>False
      |some false=>AV N o undef r fun r'=>ih false (cX ls (is i)) L (tF d o .u) K r' h
      |some true=>bif xf P o.op then
       B9 P none o.op r (fun v S=>AV N o v r fun r'=>match S with
        |none=>ih false (cX ls (is i)) L (tF d o (JJ d o.op)) K r' h
        |some S=>ih false (cX ls (is i)) ((i,S)::L) (tF d o (JJ d o.op)) K r' h) h
       else False)
    else False
   |_,_=>False)
  (fun l ih m ls L d K r h=>bif !m&&wz (mU ls ms 0) (Ck l)then ih true ls L d K r h else False)
  (fun i _ _ ih1 ih2 m ls L d K r h=>bif m then Ps P N ops i L d r h (fun L' d' r' h'=>ih1 false (cX ls (is i)) L' d' K r' h')∧ih2 true ls L d K r h else False)
  (fun i _ ih m ls L d K r h=>bif m then Ps P N ops i L d r h (fun L' d' r' h'=>ih false (cX ls (is i)) L' d' K r' h')else False)
  (fun i _ ih m ls L d K r h=>bif m then Ot P N ops ms i L d r h (fun L' d' r' h'=>ih false (cX ls (is i)) L' d' K r' h')else False)
  (fun t _ _ ih1 ih2 m ls L d K r h=>
   bif m then False else match kV r t with
   |some (.bool b)=>CondP b (ih1 false ls L ((t,.t)::d) K ((t,.bool true)::r) h) (ih2 false ls L ((t,.f)::d) K ((t,.bool false)::r) h)
   |_=>False)
  da
noncomputable def Wc(_o:Oper)(i:Nat)(ds lk:Nat)(ops:List Oper)(l:List Oper):Nat→Nat:=
 fW (motive:=fun _=>Nat→Nat) (fun _=>0) (fun p _ ih j=>bif (bP j i||jN p i||(bP (j9 ds (cX (pK ops p) (o8 p))) 0&&bP (j9 (o8 p) lk) 0))then cX (is j) (ih (gm j))else ih (gm j)) l
noncomputable def Wa(ops:List Oper)(l:List Oper):Nat→List DM:=
 fW (motive:=fun _=>Nat→List DM) (fun _=> []) (fun o _ ih i=>.mk (nL o.after.toList) (Wc o i (o8 o) (pK ops o) ops ops 0) (pK ops o) (o8 o)::ih (gm i)) l
def U8(P:Program)(w:Option Bool)(o:Oper):Bool:=match w with|some false=>true|some true=>xf P o.op|none=>false
noncomputable def UL(P:Program)(ops:List Oper)(d:vZ)(ls n:Nat)(l:List Oper):List DM→Nat→Option (Nat×Oper):=
 fW (motive:=fun _=>List DM→Nat→Option (Nat×Oper)) (fun _ _=>none)
  (fun o _ ih ms j=>match ms with
   | []=>none
   |m::ms=>bif EK m j ls n&&U8 P (jA ops d o) o then some (j,o)else ih ms (gm j)) l
noncomputable def UM(ops:List Oper)(d:vZ)(ls:Nat)(l:List Oper):List DM→Nat→Option Nat:=
 fW (motive:=fun _=>List DM→Nat→Option Nat) (fun _ _=>none)
  (fun o _ ih ms j=>match ms with
   | []=>none
   |m::ms=>match bif !(tb ls j)&&JH m ls then(match jA ops d o with|none=>Fv ops o|some _=>none)else none with
    |some t=>some t
    |none=>ih ms (gm j)) l
noncomputable def Vm(ops:List Oper)(k:Nat→vZ→DA)(ls:Nat)(d:vZ)(l:List Nat):DA:=
 fW (motive:=fun _=>DA) .done (fun i rest ih=>match ops[i]? with
  |none=>.done
  |some o=>match rest with
   | []=>.last i (k (cX ls (is i)) (tF d o .x))
   |_=>.pick i (k (cX ls (is i)) (tF d o .x)) ih) l
noncomputable def UT(P:Program)(ops:List Oper)(ms:List DM)(fuel:Nat):Nat→vZ→DA:=
 Nat.rec (motive:=fun _=>Nat→vZ→DA) (fun _ _=>.done) (fun _ ih ls d=>
  match UL P ops d ls ops.length ops ms 0 with
  |some (i,o)=>.take i (ih (cX ls (is i)) (match jA ops d o with|some false=>tF d o .u|_=>tF d o (JJ d o.op)))
  |none=>match UM ops d ls ops ms 0 with
   |some t=>.split t (ih ls ((t,.t)::d)) (ih ls ((t,.f)::d))
   |none=>match mU ls ms 0 with
    | []=>.done
    |l=>.all (Vm ops ih ls d l)) fuel
noncomputable def OI(ops:List Oper):List DM:=Wa ops ops 0
inductive Ex where
 |exit (id:Nat)
 |ret
abbrev St:=List (Nat×Kind)
def zv:St→List Kind
 | []=> []
 |(_,k)::l=>k::zv l
noncomputable def ES(r:cE):St→Option (List Value)
 | []=>some []
 |(i,_)::l=>match kV r i,ES r l with
  |some v,some vs=>some (v::vs)
  |_,_=>none
noncomputable def Dc(st:St)(r:cE)(f:cN (zv st)→Prop):Prop:=
 match ES r st with
 |some vs=>D3 (zv st) vs f
 |none=>False
def oU:St→List Value→cE→cE
 |(i,_)::l,v::vs,r=>(i,v)::oU l vs r
 |_,_,r=>r
noncomputable def OQ(r:cE)(l:List Nat):Option cE:=
 fW (motive:=fun _=>Option cE) (some []) (fun t _ ih=>match kV r t,ih with
  |some v,some l=>some ((t,v)::l)
  |_,_=>none) l
noncomputable def mM(t:Nat)(l:List Oper):Bool:=
 fW (motive:=fun _=>Bool) false (fun o _ ih=>match o.dst with|some d=>bif bP d t then true else ih|none=>ih) l
noncomputable def g7(t:Nat)(c:Code):Bool:=
 Code.rec (motive:=fun _=>Bool) false (fun _ ops _=>mM t ops.toList) (fun _ _ a b=>bif a then true else b) (fun _ _ _ a b=>bif a then true else b)
  (fun _ _ b=>b) (fun _ b=>b) (fun _ _ _ _ _ _=>true) (fun _=>false) (fun _ b=>b) (fun _=>false) (fun _=>false) false (fun _=>false) c
inductive Ann where
 |nil
 |node (a b:Ann)
 |join (st:St) (a b:Ann)
 |loop (st:St) (b:Ann)
 |draw (d:DA)
 |kinds (k v:Kind)
 |reg (keep:List Nat) (inner:Ann)
 |rf (ks:List Kind) (a b:Ann)
def Ann.l:Ann→Ann
 | .node a _=>a
 | .rf _ a _=>a
 |_=>.nil
def Ann.r:Ann→Ann
 | .node _ b=>b
 | .rf _ _ b=>b
 |_=>.nil
noncomputable def QB(l:List Oper):Nat:=fW (motive:=fun _=>Nat) 0 (fun o _ ih=>cX (o8 o) ih) l
def Vp:Option Nat→Option Nat→Option Nat
 |some a,some b=>some (cX a b)
 |_,_=>none
noncomputable def yO(c:Code):Option Nat:=
 Code.rec (motive:=fun _=>Option Nat) (some 0) (fun _ ops _=>some (QB ops.toList)) (fun _ _ a b=>Vp a b) (fun _ _ _ a b=>Vp a b)
  (fun _ _ b=>b) (fun _ b=>b) (fun _ _ _ _ _ _=>none) (fun _=>some 0) (fun _ b=>b) (fun _=>some 0) (fun _=>some 0) (some 0) (fun _=>some 0) c
noncomputable def xI(m:Nat)(r:cE):cE:=fW (motive:=fun _=>cE) [] (fun kv _ ih=>bif tb m kv.1 then ih else kv::ih) r
noncomputable def BZ(P:Program)(N:Nat)(ops:List Oper)(dr:Bool)(an:Ann)(Kn:cE→ad→Prop)(r:cE)(h:ad):Prop:=
 match dr with
 |false=>(match an with
  | .kinds kk vk=>EY P N (some (kk,vk)) ops ops [] Kn r h
  |_=>EY P N none ops ops [] Kn r h)
 |true=>bif Ek ops (OI ops)then oB P N ops (OI ops) (match an with| .draw da=>da|_=>UT P ops (OI ops) (Nat.add (Nat.add ops.length ops.length) 2) 0 []) false 0 [] [] Kn r h else False
noncomputable def mo(P:Program)(N:Nat)(c:Code):Ann→(cE→ad→Prop)→(Ex→cE→ad→Prop)→cE→ad→Prop:=
 Code.rec (motive:=fun _=>Ann→(cE→ad→Prop)→(Ex→cE→ad→Prop)→cE→ad→Prop)
  (fun _ Kn _ r h=>Kn r h)
  (fun _ ops dr an Kn _ r h=>match an with
   | .reg keep an=>BZ P N ops.toList dr an (fun r' h'=>match OQ r' keep with|some r0=>Kn r0 h'|none=>False) r h
   |an=>BZ P N ops.toList dr an Kn r h)
  (fun a _ iha ihb an Kn Kx r h=>match an with
   | .join st aa ab=>(match yO a with
     |none=>False
     |some m=>Join (T:=cN (zv st)) (fun t h'=>ihb ab Kn Kx (oU st (oG (zv st) t) (xI m r)) h')
      fun J=>iha aa (fun r' h'=>Dc st r' fun t=>J t h') Kx r h)
   |an=>iha an.l (fun r' h'=>ihb an.r Kn Kx r' h') Kx r h)
  (fun c _ _ iha ihb an Kn Kx r h=>match dD r c with
   |some (.bool t)=>CondP t (iha an.l Kn Kx r h) (ihb an.r Kn Kx r h)
   |_=>False)
  (fun id _ ih an Kn Kx r h=>ih an Kn (fun e r' h'=>match e with
    | .exit i=>bif bP i id then Kn r' h' else Kx (.exit i) r' h'
    | .ret=>Kx .ret r' h') r h)
  (fun b ih an _ Kx r h=>match an with
   | .loop st ab=>(match yO b with
     |none=>False
     |some m=>Dc st r fun t0=>LoopP (T:=cN (zv st)) (fun self t h'=>ih ab (fun r' h''=>Dc st r' fun t'=>self t' h'') Kx (oU st (oG (zv st) t) (xI m r)) h') t0 h)
   |_=>False)
  (fun _ _ _ _ _ _ _ _ _ _ _=>False)
  (fun id _ _ Kx r h=>Kx (.exit id) r h)
  (fun _ _ _ _ _ _ _=>False)
  (fun _ _ Kn _ r h=>Kn r h)
  (fun _ _ _ _ _ _=>False)
  (fun _ _ Kx r h=>Kx .ret r h)
  (fun _ _ _ _ _ _=>False)
  c
noncomputable def oW(P:Program)(r:cE)(h:ad):List ResultVar→(List Value→Prop)→Prop
 | [],K=>K []
 | .tmp t::l,K=>(match kV r t with|some v=>oW P r h l fun vs=>K (v::vs)|none=>False)
 | .cell a t::l,K=>(match kV r a with
  |some v=>Kp P t v (fun x _=>oW P r h l fun vs=>K (x::vs)) h
  |none=>False)
def rE:Nat→List Value→cE
 |_,[]=> []
 |i,v::vs=>(i,v)::rE (i+1) vs
noncomputable def Ou(P:Program)(fn:Func)(c:Code)(an:Ann)(args:List Value)(ks:List Kind)(K:cN ks→ad→Prop)(h:ad):Prop:=
 mo P fn.ntmps c an
  (fun r h'=>oW P r h' fn.results.toList fun vs=>D3 ks vs fun t=>K t h')
  (fun e r h'=>match e with
   | .ret=>oW P r h' fn.results.toList fun vs=>D3 ks vs fun t=>K t h'
   | .exit _=>False)
  (rE 0 args) h
noncomputable def tx(c:Code):Bool:=
 Code.rec (motive:=fun _=>Bool) false (fun _ _ _=>false) (fun _ _ a b=>bif a then true else b) (fun _ _ _ a b=>bif a then true else b)
  (fun _ _ b=>b) (fun _ b=>b) (fun _ _ _ _ _ _=>true) (fun _=>false) (fun _ b=>b) (fun _=>false) (fun _=>false) false (fun _=>false) c
def Jc:Option Ex→Option Code
 |none=>none
 |some (.exit i)=>some (.exit i)
 |some .ret=>some .ret
def Wd(N:ad→Prop)(X:Nat→ad→Prop)(R:ad→Prop):Option Ex→ad→Prop
 |none=>N
 |some (.exit i)=>X i
 |some .ret=>R
structure RangeP(P:Program)(fv:Value)(ks:List Kind)(h:ad)(RT:Obj→Obj→cN ks→(Option Ex→ad→Prop)→ad→Prop)(N:ad→Prop)(X:Nat→ad→Prop)(R:ad→Prop):Prop where
 run:∀lo:LoopState→Option Ex→Obj,(∀s j,∃r,lo s j=.loop r)→
  (∀x h' K,h'[h.size+1]? =some (lo .ready none)→
   RT (lo .ready none) (lo .busy none) x (fun j h2=>h2[h.size+1]? =some (lo .busy none)∧K j.isNone (h2.setIfInBounds (h.size+1) (lo (if j.isNone then .ready else .done) j))) h'→
   HV P (.func (.yield (h.size+1)) #[] #[]) (oG ks x) [.c .bool] K h')→
  ∃f first cap,fv=.func (.func f) first cap∧HE P f (first.toList++ [.func (.yield (h.size+1)) #[] #[]]++cap.toList) []
   (fun _ h2=>∃s j,s≠ .busy∧h2[h.size+1]? =some (lo s j)∧Wd N X R j (h2.setIfInBounds (h.size+1) (lo .exhausted j))) ((h.push (.deferred (some []))).push (lo .ready none))
def SE:List Nat→List Value→cE→cE
 |i::l,v::vs,r=>SE l vs ((i,v)::r)
 |_,_,r=>r
noncomputable def Mu(P:Program)(N:Nat)(ps:List Nat)(ks:List Kind)(assign body:Code)(an:Ann)(r:cE)(l:Nat)(JH bz:Obj)(x:cN ks)(k:Option Ex→ad→Prop)(h:ad):Prop:=
 mo P N assign an.l (fun r1 h1=>h1[l]? =some JH∧mo P N body an.r (fun _ h2=>k none h2) (fun e _ h2=>k (some e) h2) r1 (h1.setIfInBounds l bz)) (fun _ _ _=>False) (SE ps (oG ks x) r) h
def zE(N:Nat):List Nat→Bool
 | []=>true
 |n::l=>Nat.blt n N&&zE N l
noncomputable def zA(P:Program)(N:Nat)(c:Code):Ann→(List Nat→cE→ad→Prop)→(Ex→List Nat→cE→ad→Prop)→List Nat→cE→ad→Prop:=
 Code.rec (motive:=fun _=>Ann→(List Nat→cE→ad→Prop)→(Ex→List Nat→cE→ad→Prop)→List Nat→cE→ad→Prop)
  (fun an Kn Kx ms r h=>mo P N .skip an (Kn ms) (fun e=>Kx e ms) r h)
  (fun id ops dr an Kn Kx ms r h=>mo P N (.region id ops dr) an (Kn ms) (fun e=>Kx e ms) r h)
  (fun a b iha ihb an Kn Kx ms r h=>bif (bif tx a then true else tx b)then iha an.l (fun ms r' h'=>ihb an.r Kn Kx ms r' h') Kx ms r h
   else mo P N (.seq a b) an (Kn ms) (fun e=>Kx e ms) r h)
  (fun c a b iha ihb an Kn Kx ms r h=>bif (bif tx a then true else tx b)then
    (match dD r c with
     |some (.bool t)=>CondP t (iha an.l Kn Kx ms r h) (ihb an.r Kn Kx ms r h)
     |_=>False)
   else mo P N (.cond c a b) an (Kn ms) (fun e=>Kx e ms) r h)
  (fun id b ih an Kn Kx ms r h=>bif tx b then ih an Kn (fun e ms r' h'=>match e with
    | .exit i=>bif bP i id then Kn ms r' h' else Kx (.exit i) ms r' h'
    | .ret=>Kx .ret ms r' h') ms r h
   else mo P N (.block id b) an (Kn ms) (fun e=>Kx e ms) r h)
  (fun b _ an Kn Kx ms r h=>mo P N (.loop b) an (Kn ms) (fun e=>Kx e ms) r h)
  (fun g ps assign body _ _ an Kn Kx ms r h=>match an with
   | .rf ks aa ab=>bif zE N ps.toList&&bP ps.toList.length ks.length then
    (match dD r g with
     |some fv=>RangeP P fv ks h (fun JH bz x k h'=>Mu P N ps.toList ks assign body (.node aa ab) r (h.size+1) JH bz x k h')
      (fun h'=>Kn (h.size::ms) r h') (fun i h'=>Kx (.exit i) (h.size::ms) r h') (fun h'=>Kx .ret (h.size::ms) r h')
     |none=>False)else False
   |_=>False)
  (fun id an Kn Kx ms r h=>mo P N (.exit id) an (Kn ms) (fun e=>Kx e ms) r h)
  (fun _ _ _ _ _ _ _ _=>False)
  (fun l an Kn Kx ms r h=>mo P N (.label l) an (Kn ms) (fun e=>Kx e ms) r h)
  (fun _ _ _ _ _ _ _=>False)
  (fun an Kn Kx ms r h=>mo P N .ret an (Kn ms) (fun e=>Kx e ms) r h)
  (fun _ _ _ _ _ _ _=>False)
  c
def Oq:List Nat→(ad→Prop)→ad→Prop
 | [],K,h=>K h
 |D::ms,K,h=>h[D]? =some (.deferred (some []))∧Oq ms K (h.setIfInBounds D (.deferred none))
noncomputable def Mv(P:Program)(fn:Func)(c:Code)(an:Ann)(args:List Value)(ks:List Kind)(K:cN ks→ad→Prop)(h:ad):Prop:=
 zA P fn.ntmps c an
  (fun ms r h'=>Oq ms (fun h'=>oW P r h' fn.results.toList fun vs=>D3 ks vs fun t=>K t h') h')
  (fun e ms r h'=>match e with
   | .ret=>Oq ms (fun h'=>oW P r h' fn.results.toList fun vs=>D3 ks vs fun t=>K t h') h'
   | .exit _=>False)
  [] (rE 0 args) h
end Go.Lift
namespace Go.Lift
open Go
theorem FT(a:Addr):adr a 0=a:=rfl
theorem A7(a:Addr)(n:Nat):adr a (n+1)=⟨a.block,a.off+(n+1),none⟩:=rfl
theorem u9(a:Addr)(n:Nat):adr a n=a.add n:=by
 cases n with
 |zero=>simp[FT,Addr.add]
 |succ n=>simp[A7,Addr.add]
theorem wV(a:Addr)(m n:Nat):adr (adr a m) n=adr a (m+n):=by
 cases n with
 |zero=>rfl
 |succ n=>cases m with
  |zero=>simp[FT]
  |succ m=>rw[A7,A7,show m+1+(n+1)=(m+1+n)+1 from rfl,A7];simp;omega
theorem Tame.refl(w:World):Tame w w:=⟨rfl,rfl,rfl⟩
theorem Tame.trans{a b c:World}(h:Tame a b)(k:Tame b c):Tame a c:=⟨k.os.trans h.os,k.tape.trans h.tape,k.output.trans h.output⟩
theorem AO{a b:IntKind}(h:IX a b=true):a=b:=by cases a<;>cases b<;>first|rfl|cases h
theorem CK.dec_sound{c:CK}{v:Value}{f:c.den→Prop}(h:c.dec v f):∃x,v=c.enc x∧f x:=by
 cases c<;>cases v<;>try simp only[CK.dec]at h
 case int.int k k' n=>
  cases hk:IX k' k with
  |false=>rw[hk]at h;exact h.elim
  |true=>rw[hk]at h;have:=AO hk;subst this;exact⟨n,rfl,h⟩
 case adr.pointer p=>cases p with
  |none=>exact h.elim
  |some a=>exact⟨a,rfl,h⟩
 all_goals first|exact h.elim|exact⟨_,rfl,h⟩
theorem Dy:∀{cs:List CK} {vs:List Value} {f:Sr cs→Prop},O5 cs vs f→∃t,vs=RY cs t∧f t
 | [],[],f,h=>⟨(),rfl,h⟩
 | [],_::_,f,h=>h.elim
 | [c],[v],f,h=>by obtain⟨x,rfl,hf⟩:=CK.dec_sound h;exact⟨x,rfl,hf⟩
 | [c],[],f,h=>h.elim
 | [c],_::_::_,f,h=>h.elim
 |c::d::cs,[],f,h=>h.elim
 |c::d::cs,[_],f,h=>h.elim
 |c::d::cs,v::u::vs,f,h=>by
  have h0:c.dec v fun x=>O5 (d::cs) (u::vs) fun t=>f (x,t):=h
  obtain⟨x,hx,h1⟩:=CK.dec_sound h0;obtain⟨t,ht,h2⟩:=Dy (cs:=d::cs) (vs:=u::vs) h1;exact⟨(x,t),by rw[ht,hx];rfl,h2⟩
theorem Kind.dec_sound{k:Kind}{v:Value}{f:k.den→Prop}(h:k.dec v f):∃x,v=k.enc x∧f x:=by
 cases k with
 |c k=>exact CK.dec_sound h
 |agg cs=>
  cases v<;>simp only[Kind.dec]at h
  case agg vs=>
   obtain⟨t,ht,hf⟩:=Dy h;exact⟨t,by simp only[Kind.enc,←ht],hf⟩
theorem tE:∀{ks:List Kind} {vs:List Value} {f:cN ks→Prop},D3 ks vs f→∃t,vs=oG ks t∧f t
 | [],[],f,h=>⟨(),rfl,h⟩
 | [],_::_,f,h=>h.elim
 | [c],[v],f,h=>by obtain⟨x,rfl,hf⟩:=Kind.dec_sound h;exact⟨x,rfl,hf⟩
 | [c],[],f,h=>h.elim
 | [c],_::_::_,f,h=>h.elim
 |c::d::cs,[],f,h=>h.elim
 |c::d::cs,[_],f,h=>h.elim
 |c::d::cs,v::u::vs,f,h=>by
  have h0:c.dec v fun x=>D3 (d::cs) (u::vs) fun t=>f (x,t):=h
  obtain⟨x,hx,h1⟩:=Kind.dec_sound h0;obtain⟨t,ht,h2⟩:=tE (ks:=d::cs) (vs:=u::vs) h1;exact⟨(x,t),by rw[ht,hx];rfl,h2⟩
theorem uo:∀(ks:List Kind) (t:cN ks),(oG ks t).length=ks.length
 | [],_=>rfl
 | [_],_=>rfl
 |_::l::ks,(_,t)=>by simp only[oG,ak,uo (l::ks) t]
structure Agree(N:Nat)(r:cE)(a:Act):Prop where
 size:a.tmps.size=N
 look:∀t v,kV r t=some v→a.tmps.getD t undef=v
theorem je(k:Nat)(v:Value)(r:cE):kV ((k,v)::r) k=some v:=by rw[E2,show bP k k=true from Nat.beq_refl k];rfl
theorem ix{k t:Nat}(v:Value)(r:cE)(h:k≠t):kV ((k,v)::r) t=kV r t:=by
 rw[E2];have:bP k t=false:=Bool.eq_false_iff.2 fun e=>h (aX e)
 rw[this];rfl
theorem Agree.put{N:Nat}{r:cE}{a:Act}(h:Agree N r a)(d:Nat)(v:Value)(hd:d<N):Agree N ((d,v)::r) (a.put (some d) v):=by
 refine⟨by simp[Act.put,h.size],fun t u hu=>?_⟩
 by_cases e:d=t
 ·subst e
  rw[je]at hu;cases hu;simp[Act.put,h.size,hd]
 ·rw[ix v r e]at hu
  have:=h.look t u hu;simpa[Act.put,Array.getElem?_setIfInBounds_ne e]using this
theorem Agree.known{N:Nat}{r:cE}{a:Act}(h:Agree N r a){t:Nat}{v:Value}(hv:kV r t=some v):Agree N ((t,v)::r) a:=by
 refine⟨h.size,fun s u hu=>?_⟩
 by_cases e:t=s
 ·subst e;rw[je]at hu;cases hu;exact h.look t v hv
 ·rw[ix v r e]at hu;exact h.look s u hu
theorem mS{N:Nat}{r:cE}{a:Act}(h:Agree N r a){o:Operand}{v:Value}(hv:dD r o=some v):a.eval o=v:=by
 cases o with
 |tmp t=>exact h.look t v hv
 |const c=>simp[dD]at hv;subst hv;rfl
 |global g=>simp[dD]at hv;subst hv;rfl
 |func f=>simp[dD]at hv;subst hv;rfl
theorem pX{N:Nat}{r:cE}{a:Act}(h:Agree N r a):∀{os:List Operand} {vs:List Value},si r os=some vs→os.map a.eval=vs
 | [],vs,hv=>by simp[si]at hv;subst hv;rfl
 |o::os,vs,hv=>by
  simp only[si]at hv;cases ho:dD r o with
  |none=>simp[ho]at hv
  |some v=>cases hos:si r os with
   |none=>simp[ho,hos]at hv
   |some us=>simp[ho,hos]at hv;subst hv;simp[mS h ho,pX h hos]
theorem aE{P:Program}{t:TypeId}{d:TypeDesc}(h:P.underlying t=some d)(w:World):(underlying t).run P w=.ok d w:=by
 simp only[underlying,program,bind,Sem.bind,Sem.run,h,pure]
theorem cV{P:Program}{t:TypeId}{i:TypeInfo}(h:P.info? t=some i)(w:World):(typeInfo t).run P w=.ok i w:=by
 simp only[typeInfo,program,bind,Sem.bind,Sem.run,h,pure]
theorem jH{P:Program}{s:Sem Value}{v:Value}{w w':World}(h:s.run P w=.ok v w'):(do pure (Next.value (←s)):Sem Next).run P w=.ok (.value v) w':=by
 simp[h]
theorem Q6{P:Program}{s:Sem Unit}{w w':World}(h:s.run P w=.ok () w'):(do s;pure Next.skip:Sem Next).run P w=.ok .skip w':=by
 simp[h]
theorem Aw{P:Program}{w:World}{a:Addr}{v:Value}(h:aP w.heap a=some v):(load a).run P w=.ok v w:=by
 have h':w.cell? a=some v:=h;simp[h']
theorem A0{v:Value}{vs:List Value}{i:Nat}{a:Addr}{h:ad}:ut (v::vs) i a h↔aP h (adr a i)=some v∧ut vs (i+1) a h:=by
 cases vs with
 |nil=>simp[ut]
 |cons u us=>rfl
theorem uf{P:Program}{w:World}{a:Addr}:∀(vs:List Value) (i:Nat) (acc:Array Value),ut vs i a w.heap→
  (loadCellsFrom a i vs.length acc).run P w=.ok (acc++vs.toArray) w
 | [],i,acc,_=>by simp[loadCellsFrom]
 |v::vs,i,acc,h=>by
  obtain⟨h1,h2⟩:=A0.1 h;rw[u9]at h1;have:=uf (P:=P) (w:=w) (a:=a) vs (i+1) (acc.push v) h2;simp only[ak,loadCellsFrom,Sem.run_bind,Aw h1,Result.andThen_ok,this];simp
theorem Gp{P:Program}{w:World}{a:Addr}{vs:List Value}(h:ut vs 0 a w.heap):(loadCells a vs.length).run P w=.ok vs.toArray w:=by
 have:=uf (P:=P) (w:=w) (a:=a) vs 0 #[] h;simpa[loadCells]using this
theorem yW:∀(cs:List CK) (i:Nat) (a:Addr) (h:ad) (k:List Value→Prop),Jd cs i a h k→∃vs,vs.length=cs.length∧ut vs i a h∧k vs
 | [],i,a,h,k,hk=>⟨[],rfl,trivial,hk⟩
 |c::cs,i,a,h,k,hk=>by
  obtain⟨x,hx,hk⟩:=hk;obtain⟨vs,hl,hc,hk⟩:=yW cs (i+1) a h _ hk;exact⟨c.enc x::vs,by simp[hl],A0.2 ⟨hx,hc⟩,hk⟩
theorem AY:∀{vs:List Value} {cs:List CK},FI vs=some cs→cs.length=vs.length
 | [],cs,h=>by simp[FI]at h;subst h;rfl
 |v::vs,cs,h=>by
  simp only[FI]at h;cases h1:US v with
  |none=>simp[h1]at h
  |some c=>cases h2:FI vs with
   |none=>simp[h1,h2]at h
   |some ds=>simp[h1,h2]at h;subst h;simp[AY h2]
def Sq(P:Program)(t:TypeId)(i:TypeInfo):Kind→Prop
 | .c _=>wU P t=false
 | .agg cs=>wU P t=true∧i.size=cs.length
theorem M6{P:Program}{t:TypeId}{k:Kind}(h:ON P t=some k):∃i,P.info? t=some i∧Sq P t i k:=by
 unfold ON yN at h;cases hi:P.info? t with
 |none=>simp[hi]at h
 |some i=>
  refine⟨i,rfl,?_⟩;cases hz:i.zero with
  |none=>simp[hi,hz]at h
  |some z=>
   rw[hi]at h;simp only[hz]at h;cases z;case agg vs=>
    simp only at h;cases hb:(wU P t&&bP vs.toList.length (cf P t))with
    |false=>rw[hb]at h;simp at h
    |true=>
     rw[hb]at h;simp only[cond_true]at h;simp only[Bool.and_eq_true]at hb;have hs:=aX hb.2;cases hd:FI vs.toList with
     |none=>rw[hd]at h;simp at h
     |some ds=>
      rw[hd]at h;simp only[bO.injEq]at h;subst h;exact⟨hb.1,by rw[AY hd,hs];simp[cf,hi]⟩
   all_goals
    simp only at h;cases ha:wU P t
    ·rw[ha]at h
     simp only[cond_false]at h;split at h
     ·simp only[bO.injEq]at h;subst h;exact ha
     ·simp at h
    ·rw[ha]at h;simp at h
theorem M7{P:Program}{t:TypeId}{k:Kind}(h:Fj P t=some k):(∀w,(isAgg t).run P w=.ok (wU P t) w)∧ON P t=some k:=by
 unfold Fj at h;cases hu:P.underlying t with
 |none=>simp[hu]at h
 |some d=>
  simp only[hu]at h;refine⟨fun w=>?_,h⟩
  simp only[isAgg,Sem.run_bind,aE hu,Result.andThen_ok];unfold wU;rw[hu];cases d<;>rfl
theorem Di{P:Program}{t:TypeId}{v:Value}{K:RK}{h:ad}(hl:Kp P t v K h):
  ∃u S,K u (some S)∧S h∧∀w:World,S w.heap→(Instr.loadAt t v).run P w=.ok u w:=by
 unfold Kp at hl;cases v with
 |pointer p=>
  cases p with
  |none=>exact hl.elim
  |some a=>
   simp only at hl;cases hk:Fj P t with
   |none=>simp[hk]at hl
   |some k=>
    obtain⟨hagg,hz⟩:=M7 hk;obtain⟨i,hi,hc⟩:=M6 hz;rw[hk]at hl;cases k with
    |c c=>
     obtain⟨x,hx,hK⟩:=hl;refine⟨_,_,hK,hx,fun w hw=>?_⟩
     have hc:wU P t=false:=hc;simp only[Instr.loadAt,Instr.sureAddr,loadVar,Sem.run_bind,Sem.run_pure,Result.andThen_ok,hagg,hc];simp[Aw hw]
    |agg cs=>
     obtain⟨vs,hlen,hcs,hK⟩:=yW cs 0 a h _ hl;obtain⟨h1,h2⟩:wU P t=true∧i.size=cs.length:=hc;refine⟨_,_,hK,hcs,fun w hw=>?_⟩
     have hz:(sizeOf t).run P w=.ok vs.length w:=by simp[sizeOf,cV hi,h2,hlen]
     simp only[Instr.loadAt,Instr.sureAddr,loadVar,Sem.run_bind,Sem.run_pure,Result.andThen_ok,hagg,h1];simp[hz,Gp hw]
 |_=>exact hl.elim
end Go.Lift
