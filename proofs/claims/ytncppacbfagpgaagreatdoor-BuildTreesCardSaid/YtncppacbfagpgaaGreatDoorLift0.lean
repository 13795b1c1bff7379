/- A part of the proof that the named laws of this program answer true, whatever the input. -/
import Derived.OrdersIn
import Derived.Below
import Derived.WalkKit
import Derived.RangeFuncRecord
open BitVec renaming ofInt→af
open List renaming rec→eS,replicate→dJ,length_cons→ap
open Nat renaming succ→ff,beq→bE,ble→ul,min→fl,land→iB,lor→cP,pred→tU,eq_of_beq_eq_true→aP
open Option renaming some→bF
namespace Go.Lift
abbrev ad:=Array Obj
def aO(h:ad)(a:Addr):Option Value:=
 match h[a.block]? with
 |some (.cells c _ _)=>if a.spot.isSome then none else c[a.off]?
 |_=>none
def zT(h:ad)(a:Addr):Bool:=
 match h[a.block]? with
 |some (.cells _ _ (lo,hi))=>lo≤a.off&&a.off<hi
 |_=>false
def hset(h:ad)(a:Addr)(v:Value):ad:=
 h.modify a.block fun
  | .cells c elem frozen=>.cells (if a.spot.isSome then c else c.setIfInBounds a.off v) elem frozen
  |o=>o
noncomputable def adr(a:Addr)(n:Nat):Addr:=Nat.rec (motive:=fun _=>Addr) a (fun n _=>⟨a.block,a.off+ff n,none⟩) n
def Wr(h:ad)(a:Addr):Prop:=(∃v,aO h a=some v)∧zT h a=false
structure Tame(w w':World):Prop where
 os:w'.os=w.os
 tape:w'.tape=w.tape
 output:w'.output=w.output
structure SliceV where
 a:Option Addr
 len:Nat
 cap:Nat
def Em:IntKind→IntKind→Bool
 | .i8,.i8=>true| .i16,.i16=>true| .i32,.i32=>true| .i64,.i64=>true
 | .u8,.u8=>true| .u16,.u16=>true| .u32,.u32=>true| .u64,.u64=>true
 |_,_=>false
inductive CK where
 |int (k:IntKind)|bool|str|ptr|slice|map|chan|raw|adr
def CK.den:CK→Type
 | .int _=>Int| .bool=>Bool| .str=>ByteArray| .ptr=>Option Addr| .slice=>SliceV| .map=>Option Nat| .chan=>Option Nat| .raw=>Value| .adr=>Addr
def CK.enc:(c:CK)→c.den→Value
 | .int k,n=>.int k n
 | .bool,b=>.bool b
 | .str,s=>.string s
 | .ptr,p=>.pointer p
 | .slice,s=>.slice s.a s.len s.cap
 | .map,r=>.map r
 | .chan,r=>.chan r
 | .raw,v=>v
 | .adr,a=>.pointer (some a)
def CK.dec:(c:CK)→Value→(c.den→Prop)→Prop
 | .int k,.int k' n,f=>bif Em k' k then f n else False
 | .bool,.bool b,f=>f b
 | .str,.string s,f=>f s
 | .ptr,.pointer p,f=>f p
 | .slice,.slice a l c,f=>f ⟨a,l,c⟩
 | .map,.map r,f=>f r
 | .chan,.chan r,f=>f r
 | .raw,v,f=>f v
 | .adr,.pointer (some a),f=>f a
 |_,_,_=>False
def M1:List CK→Type
 | []=>Unit
 | [c]=>c.den
 |c::d::cs=>c.den×M1 (d::cs)
def MK:(cs:List CK)→M1 cs→List Value
 | [],_=> []
 | [c],x=> [c.enc x]
 |c::d::cs,(x,t)=>c.enc x::MK (d::cs) t
def JE:(cs:List CK)→List Value→(M1 cs→Prop)→Prop
 | [],[],f=>f ()
 | [c],[v],f=>c.dec v f
 |c::d::cs,v::u::vs,f=>c.dec v fun x=>JE (d::cs) (u::vs) fun t=>f (x,t)
 |_,_,_=>False
inductive Kind where
 |c (k:CK)
 |agg (cs:List CK)
def Kind.den:Kind→Type
 | .c k=>k.den
 | .agg cs=>M1 cs
def Kind.enc:(k:Kind)→k.den→Value
 | .c k,x=>k.enc x
 | .agg cs,t=>.agg (MK cs t).toArray
def Kind.dec:(k:Kind)→Value→(k.den→Prop)→Prop
 | .c k,v,f=>k.dec v f
 | .agg cs,.agg vs,f=>JE cs vs.toList f
 |_,_,_=>False
def cT:List Kind→Type
 | []=>Unit
 | [k]=>k.den
 |k::l::ks=>k.den×cT (l::ks)
def lM:(ks:List Kind)→cT ks→List Value
 | [],_=> []
 | [k],x=> [k.enc x]
 |k::l::ks,(x,t)=>k.enc x::lM (l::ks) t
def zw:(ks:List Kind)→List Value→(cT ks→Prop)→Prop
 | [],[],f=>f ()
 | [k],[v],f=>k.dec v f
 |k::l::ks,v::u::vs,f=>k.dec v fun x=>zw (l::ks) (u::vs) fun t=>f (x,t)
 |_,_,_=>False
def AG(ks:List Kind)(vs:List Value):Value:=
 match ks,vs with
 | [_],[v]=>v
 |_,vs=>.tuple vs.toArray
def Po:Value→Option CK
 | .int k _=>some (.int k)
 | .bool _=>some .bool
 | .string _=>some .str
 | .pointer _=>some .ptr
 | .slice .. =>some .slice
 | .map _=>some .map
 | .chan _=>some .chan
 | .nilFunc=>some .raw
 | .nilIface=>some .raw
 |_=>none
def Bc:List Value→Option (List CK)
 | []=>some []
 |v::vs=>match Po v,Bc vs with
  |some c,some cs=>some (c::cs)
  |_,_=>none
def rX(P:Program)(t:TypeId):Bool:=
 match P.underlying t with
 |some (.struct _)|some (.array _ _)=>true
 |_=>false
def bT(P:Program)(t:TypeId):Nat:=match P.info? t with|some i=>i.size|none=>0
def oK(P:Program)(t:TypeId):Nat:=match P.info? t with|some i=>i.bytes|none=>0
def uC(P:Program)(t:TypeId):Option Value:=match P.info? t with|some i=>i.zero|none=>none
def Jn(P:Program)(t:TypeId):Option Kind:=
 match uC P t with
 |some (.agg vs)=>bif rX P t&&bE vs.toList.length (bT P t)then(match Bc vs.toList with|some cs=>some (.agg cs)|none=>none)else none
 |some v=>bif rX P t then none else(match Po v with|some c=>some (.c c)|none=>none)
 |none=>none
def AU(P:Program)(t:TypeId):Option Kind:=
 match P.underlying t with
 |none=>none
 |some _=>Jn P t
structure HC(P:Program)(f:FuncId)(args:List Value)(ks:List Kind)(K:cT ks→ad→Prop)(h:ad):Prop where
 run:∀w:World,w.heap=h→
  ((callFunc f args.toArray).run P w=.ok (.enter f args.toArray) w∧
   Calls P f args.toArray w fun e w'=>Tame w w'∧∃t:cT ks,e=.returned (AG ks (lM ks t))∧K t w'.heap)∨
  (∃v w',(callFunc f args.toArray).run P w=.ok (.value v) w'∧Tame w w'∧∃t:cT ks,v=AG ks (lM ks t)∧K t w'.heap)
structure HE(P:Program)(f:FuncId)(args:List Value)(ks:List Kind)(K:cT ks→ad→Prop)(h:ad):Prop where
 run:∀w:World,w.heap=h→(∀(args:Array Value) (w:World),(callFunc f args).run P w=.ok (.enter f args) w)∧
  Calls P f args.toArray w fun e w'=>Tame w w'∧∃t:cT ks,e=.returned (AG ks (lM ks t))∧K t w'.heap
theorem HE.hc{P:Program}{f:FuncId}{args:List Value}{ks:List Kind}{K:cT ks→ad→Prop}{h:ad}(e:HE P f args ks K h):HC P f args ks K h:=
 ⟨fun w hw=>.inl ⟨(e.run w hw).1 _ w,(e.run w hw).2⟩⟩
structure HY(P:Program)(l:Nat)(args:List Value)(K:Bool→ad→Prop)(h:ad):Prop where
 run:∀w:World,w.heap=h→∃fn tmps assign body,(Instr.yield l args.toArray).run P w=.ok (.round l fn tmps assign body) w∧
  ∀(c:Frame) (cs:List Frame),∃b w',Tame w w'∧K b w'.heap∧Steps P (lone (Frame.round l fn tmps assign body .normal) (c::cs) w) (lone (c.finish (.bool b)) cs w')
structure HV(P:Program)(fv:Value)(args:List Value)(ks:List Kind)(K:cT ks→ad→Prop)(h:ad):Prop where
 run:(∃f first cap,fv=.func (.func f) first cap∧HC P f (first.toList++args++cap.toList) ks K h)∨
  (∃l,fv=.func (.yield l) #[] #[]∧HY P l args (fun b h'=>zw ks [.bool b] fun t=>K t h') h)
noncomputable def CondP(b:Bool)(t e:Prop):Prop:=Bool.rec (motive:=fun _=>Prop) e t b
theorem CondP.yes{b:Bool}{t e:Prop}(h:CondP b t e)(hb:b=true):t:=by subst hb;exact h
theorem CondP.no{b:Bool}{t e:Prop}(h:CondP b t e)(hb:b=false):e:=by subst hb;exact h
theorem CondP.intro{b:Bool}{t e:Prop}(h1:b=true→t)(h2:b=false→e):CondP b t e:=by cases b;exact h2 rfl;exact h1 rfl
theorem aB{t e:Prop}:CondP true t e↔t:=Iff.rfl
theorem aj{t e:Prop}:CondP false t e↔e:=Iff.rfl
attribute [irreducible] CondP
def At(h:ad)(k:ad→Prop):Prop:=k h
def Bd{T:Type}(x:T)(k:T→Prop):Prop:=k x
structure Join{T:Type}(rest:T→ad→Prop)(k:(T→ad→Prop)→Prop):Prop where
 run:k rest
structure LoopP{T:Type}(F:(T→ad→Prop)→T→ad→Prop)(t:T)(h:ad):Prop where
 run:∀I:T→ad→Prop,(∀t h,F I t h→I t h)→I t h
abbrev cA:=List (Nat×Value)
noncomputable def jh(r:cA)(t:Nat):Option Value:=
 eS (motive:=fun _=>Option Value) none (fun kv _ ih=>bif bE kv.1 t then some kv.2 else ih) r
theorem AE(k:Nat)(v:Value)(r:cA)(t:Nat):jh ((k,v)::r) t=bif bE k t then some v else jh r t:=rfl
noncomputable def du(r:cA):Operand→Option Value
 | .tmp t=>jh r t
 | .const v=>some v
 | .global g=>some (.pointer (some ⟨g,0,none⟩))
 | .func f=>some (.func (.func f) #[] #[])
noncomputable def oF(r:cA):List Operand→Option (List Value)
 | []=>some []
 |o::os=>match du r o,oF r os with
  |some v,some vs=>some (v::vs)
  |_,_=>none
noncomputable def Ev:List CK→Nat→Addr→ad→(List Value→Prop)→Prop
 | [],_,_,_,k=>k []
 |c::cs,i,a,h,k=>∃x:c.den,aO h (adr a i)=some (c.enc x)∧Ev cs (i+1) a h fun vs=>k (c.enc x::vs)
noncomputable def qk:List Value→Nat→Addr→ad→Prop
 | [],_,_,_=>True
 | [v],i,a,h=>aO h (adr a i)=some v
 |v::u::vs,i,a,h=>aO h (adr a i)=some v∧qk (u::vs) (i+1) a h
abbrev RK:=Value→Option (ad→Prop)→Prop
noncomputable def Fv(P:Program)(t:TypeId)(v:Value)(K:RK)(h:ad):Prop:=
 match v with
 | .pointer (some a)=>
  match AU P t with
  |some (.c c)=>∃x:c.den,aO h a=some (c.enc x)∧K (c.enc x) (some fun h'=>aO h' a=some (c.enc x))
  |some (.agg cs)=>Ev cs 0 a h fun vs=>K (.agg vs.toArray) (some fun h'=>qk vs 0 a h')
  |none=>False
 |_=>False
def tm(P:Program)(t:TypeId)(f:Nat):Option (TypeId×Nat):=
 match P.underlying t with
 |some (.struct fs)=>match fs.toList[f]? with
  |some g=>some (g.type,g.offset)
  |none=>none
 |_=>none
def sm(P:Program)(t:TypeId):Option TypeId:=
 match P.underlying t with
 |some (.slice e)=>some e
 |_=>none
def G6(op:BinOp)(k:IntKind)(a b:Int)(K:RK):Prop:=
 match op with
 | .shl=>0≤b∧K (.int k (k.wrap (a*2^(min b.toNat k.bits)))) none
 | .shr=>0≤b∧K (.int k (a.fdiv (2^(min b.toNat k.bits)))) none
 |_=>False
def Pf(op:BinOp)(k:IntKind)(a b:Int)(K:RK):Prop:=
 match op with
 | .add=>K (.int k (k.wrap (a+b))) none
 | .sub=>K (.int k (k.wrap (a-b))) none
 | .mul=>K (.int k (k.wrap (a*b))) none
 | .quo=>b≠0∧K (.int k (k.wrap (a.tdiv b))) none
 | .rem=>b≠0∧K (.int k (a.tmod b)) none
 | .and=>K (.int k (k.wrap (af k.bits a&&&af k.bits b).toNat)) none
 | .or=>K (.int k (k.wrap (af k.bits a|||af k.bits b).toNat)) none
 | .xor=>K (.int k (k.wrap (af k.bits a^^^af k.bits b).toNat)) none
 | .andNot=>K (.int k (k.wrap (af k.bits a&&& ~~~af k.bits b).toNat)) none
 | .eql=>K (.bool (a==b)) none
 | .neq=>K (.bool (a !=b)) none
 | .lss=>K (.bool (decide (a<b))) none
 | .leq=>K (.bool (decide (a≤b))) none
 | .gtr=>K (.bool (decide (a>b))) none
 | .geq=>K (.bool (decide (a≥b))) none
 |_=>False
def OY(op:BinOp)(a b:ByteArray)(K:RK):Prop:=
 match op with
 | .add=>((a.size+b.size:Nat):Int)≤9223372036854775807∧K (.string (a++b)) none
 | .eql=>K (.bool (a.toList==b.toList)) none
 | .neq=>K (.bool (!(a.toList==b.toList))) none
 | .lss=>K (.bool (Op.bytesLess a.toList b.toList)) none
 | .leq=>K (.bool (Op.bytesLess a.toList b.toList||a.toList==b.toList)) none
 | .gtr=>K (.bool (!(Op.bytesLess a.toList b.toList||a.toList==b.toList))) none
 | .geq=>K (.bool (!(Op.bytesLess a.toList b.toList))) none
 |_=>False
def gX(h:ad)(a:Addr):Prop:=(∃c e,h[a.block]? =some (.cells c e (0,0))∧0<c.size)
def NV(P:Program)(t:TypeId)(neg:Bool)(x y:Value)(K:RK):Prop:=
 match P.underlying t,x,y with
 |some (.pointer _),.pointer a,.pointer none=>K (.bool (bif neg then !a.isNone else a.isNone)) none
 |some (.map _ _),.map a,.map none=>K (.bool (bif neg then !a.isNone else a.isNone)) none
 |some (.slice _),.slice a _ _,.slice none _ _=>K (.bool (bif neg then !a.isNone else a.isNone)) none
 |_,_,_=>False
def Pe:Operand→Bool
 | .const (.pointer none)=>true
 | .const (.map none)=>true
 | .const (.slice none 0 0)=>true
 |_=>false
def Qi(P:Program)(t:TypeId)(neg:Bool)(x y:Value)(K:RK)(h:ad):Prop:=
 match P.underlying t,x,y with
 |some .bool,.bool a,.bool b=>K (.bool (bif neg then !(a==b)else a==b)) none
 |some (.pointer e),.pointer a,.pointer b=>
  (bif bE (bT P e) 0 then False else True)∧
  (∀x y,a=some x→b=some y→gX h x∧gX h y)∧
  K (.bool (bif neg then !(a==b)else a==b)) (some fun h'=>∀x y,a=some x→b=some y→gX h' x∧gX h' y)
 |_,_,_=>False
def O3(P:Program)(op:BinOp)(t:TypeId)(x y:Value)(K:RK)(h:ad):Prop:=
 match x,y with
 | .int k a,.int k' b=>
  match op with
  | .shl=>G6 .shl k a b K
  | .shr=>G6 .shr k a b K
  |op=>bif Em k' k then Pf op k a b K else False
 | .string a,.string b=>OY op a b K
 |x,y=>match op with
  | .eql=>Qi P t false x y K h
  | .neq=>Qi P t true x y K h
  |_=>False
def px(h:ad):List (Option Addr×Option Addr)→Prop
 | []=>True
 |(a,b)::l=>(∀x y,a=some x→b=some y→gX h x∧gX h y)∧px h l
def MA(P:Program)(t:TypeId)(x y:Value):Option (Bool×List (Option Addr×Option Addr)):=
 match P.underlying t,x,y with
 |some (.int _),.int k a,.int k' b=>bif Em k' k then some (a==b,[])else none
 |some .bool,.bool a,.bool b=>some (a==b,[])
 |some .string,.string a,.string b=>some (a.toList==b.toList,[])
 |some (.pointer e),.pointer a,.pointer b=>bif bE (bT P e) 0 then none else some (a==b,[(a,b)])
 |_,_,_=>none
def Oc(P:Program)(rec:TypeId→List Value→List Value→Option (Bool×List (Option Addr×Option Addr)))(xs ys:List Value):List Field→Option (Bool×List (Option Addr×Option Addr))
 | []=>some (true,[])
 |f::fs=>
  if f.name= "_" then none else
  bif (P.underlying f.type).isSome&&(P.info? f.type).isSome then
   match(bif rX P f.type then rec f.type ((xs.drop f.offset).take (bT P f.type)) ((ys.drop f.offset).take (bT P f.type))
    else match xs[f.offset]?,ys[f.offset]? with|some x,some y=>MA P f.type x y|_,_=>none),Oc P rec xs ys fs with
   |some (b,l),some (c,m)=>some (b&&c,l++m)
   |_,_=>none
  else none
def MB(P:Program):Nat→TypeId→List Value→List Value→Option (Bool×List (Option Addr×Option Addr))
 |0,_,_,_=>none
 |d+1,t,xs,ys=>match P.underlying t with
  |some (.struct fs)=>bif P.stoodInHeld t then none else Oc P (MB P d) xs ys fs.toList
  |_=>none
def Qx(neg b:Bool)(K:RK)(h:ad):List (Option Addr×Option Addr)→Prop
 | []=>K (.bool (bif neg then !b else b)) none
 |p::l=>px h (p::l)∧K (.bool (bif neg then !b else b)) (some fun h'=>px h' (p::l))
def O5(P:Program)(op:BinOp)(t:TypeId)(xs ys:List Value)(K:RK)(h:ad):Prop:=
 bif P.eqGuardType P.depth t then False else
 match op with
 | .eql=>(match MB P 10 t xs ys with|some (b,l)=>Qx false b K h l|none=>False)
 | .neq=>(match MB P 10 t xs ys with|some (b,l)=>Qx true b K h l|none=>False)
 |_=>False
def Qq(op:UnOp)(x:Value)(K:RK):Prop:=
 match op,x with
 | .neg,.int k n=>K (.int k (k.wrap (0-n))) none
 | .xor,.int k n=>K (.int k (k.wrap (af k.bits (if k.signed then-1 else k.max)^^^af k.bits n).toNat)) none
 | .not,.bool b=>K (.bool (!b)) none
 |_,_=>False
def dd(s:ByteArray):List Value:=s.data.toList.map fun b=>.int .u8 b.toNat
noncomputable def Row(h:ad)(a:Addr)(vs:List Value):Prop:=∀i v,vs[i]? =some v→aO h (adr a i)=some v
noncomputable def SRow(h:ad)(a:Option Addr)(n:Nat)(vs:List Value):Prop:=vs.length=n∧(vs= []∨∃b,a=some b∧Row h b vs)
def HR(P:Program)(e:TypeId):Bool:=match P.underlying e with|some (.int .u8)=>true|_=>false
def Pd(P:Program)(s d:TypeId):Bool:=
 match P.underlying s,P.underlying d with
 |some .string,some (.slice e)=>HR P e
 |_,_=>false
def ByP(e:TypeId)(s:ByteArray)(h:ad)(K:Nat→ad→Prop):Prop:=
 ∀c,s.size≤c→K c (h.push (.cells (dd s++dJ (c-s.size) (Value.int .u8 0)).toArray e (c,c+1)))
noncomputable def L3(P:Program)(src dst:TypeId)(x:Value)(K:RK)(h:ad):Prop:=
 match P.underlying src,P.underlying dst,x with
 |some (.int _),some (.int k),.int _ n=>K (.int k (k.wrap n)) none
 |some .string,some .string,.string s=>K (.string s) none
 |some (.slice e),some .string,.slice a n _=>bif HR P e then∃s:ByteArray,SRow h a n (dd s)∧K (.string s) (some fun h'=>SRow h' a n (dd s))else False
 |_,_,_=>False
def MM(v:Option Value)(d y:Nat)(K:Nat→Prop):Prop:=
 match v with
 |none=>K d
 |some (.int _ i)=>(0≤i∧i≤y)∧K i.toNat
 |_=>False
noncomputable def aZ(a:Option Addr)(l m size:Nat):Option Addr:=if m=l then a else a.map (adr · (l*size))
def Me(P:Program)(t:TypeId)(K:Prop):Prop:=match P.info? t with|some _=>K|none=>False
noncomputable def Hj(P:Program)(t:TypeId)(x:Value)(lo hi mx:Option Value)(K:RK):Prop:=
 match P.underlying t,x with
 |some .string,.string s=>match mx with
  |some _=>False
  |none=>MM hi s.size s.size fun h=>MM lo 0 h fun l=>K (.string (s.extract l h)) none
 |some (.slice e),.slice a len cap=>Me P e (
  match mx with
  |none=>MM hi len cap fun h=>MM lo 0 h fun l=>K (.slice (aZ a l cap (bT P e)) (h-l) (cap-l)) none
  |some m=>match hi with
   |none=>False
   |some hi=>MM (some m) 0 cap fun m=>MM (some hi) 0 m fun h=>MM lo 0 h fun l=>K (.slice (aZ a l m (bT P e)) (h-l) (m-l)) none)
 |some (.array n e),.pointer (some a)=>Me P e (
  match mx with
  |none=>MM hi n n fun h=>MM lo 0 h fun l=>K (.slice (aZ (some a) l n (bT P e)) (h-l) (n-l)) none
  |some _=>False)
 |_,_=>False
noncomputable def Dh(r:cA):Option Operand→Option (Option Value)
 |none=>some none
 |some o=>match du r o with
  |some v=>some (some v)
  |none=>none
noncomputable def vt(P:Program)(t:TypeId)(x i:Value)(K:RK):Prop:=
 match P.underlying t,x,i with
 |some (.array n e),.pointer (some a),.int _ i=>Me P e ((0≤i∧i<n)∧K (.pointer (some (adr a (i.toNat*bT P e)))) none)
 |some (.slice e),.slice b len _,.int _ i=>Me P e ((0≤i∧i<len)∧∃a,b=some a∧K (.pointer (some (adr a (i.toNat*bT P e)))) none)
 |_,_,_=>False
def Hm(P:Program)(t:TypeId)(x i:Value)(K:RK):Prop:=
 match P.underlying t,x,i with
 |some .string,.string s,.int _ i=>∃b:UInt8,0≤i∧s[i.toNat]? =some b∧K (.int .u8 b.toNat) none
 |_,_,_=>False
noncomputable def Hn(P:Program)(t:TypeId)(x:Value)(f:Nat)(K:RK):Prop:=
 match tm P t f,x with
 |some (u,off),.agg cs=>bif (P.underlying u).isSome&&(P.info? u).isSome then(bif rX P u then K (.agg ((cs.toList.drop off).take (bT P u)).toArray) none
  else(match cs.toList[off]? with|some v=>K v none|none=>False))else False
 |_,_=>False
def OB(c a b:Value)(K:RK):Prop:=
 match c with
 | .bool c=>(match a,b with
  | .bool x,.bool y=>K (.bool (bif c then x else y)) none
  |_,_=>(match c with|true=>K a none|false=>K b none))
 |_=>False
def f7:Value→Value→Bool
 | .int _ a,.int _ b=>a==b
 | .string a,.string b=>a==b
 | .bool a,.bool b=>a==b
 |_,_=>false
def F6(k:Value):List MapEntry→Option Value
 | []=>none
 |e::es=>if f7 k e.key then some e.val else F6 k es
def AV(c:CK)(es:List MapEntry):Prop:=∀e∈es,∃x:c.den,e.key=c.enc x
def Ij(c:CK)(z:Value)(h:ad)(m:Option Nat)(k v:Value)(ok:Bool):Prop:=
 match m with
 |none=>v=z∧ok=false
 |some r=>∃es clock,h[r]? =some (.map es clock)∧AV c es.toList∧
  (match F6 k es.toList with|some u=>v=u∧ok=true|none=>v=z∧ok=false)
def FR(P:Program)(t:TypeId):Option (CK×TypeId):=
 match P.underlying t with
 |some (.map k e)=>match P.underlying k with
  |some (.int i)=>some (.int i,e)
  |some .string=>some (.str,e)
  |some .bool=>some (.bool,e)
  |_=>none
 |_=>none
def Ec(P:Program)(t:TypeId)(x k:Value)(ok:Bool)(K:RK)(h:ad):Prop:=
 match FR P t,x with
 |some (c,e),.map m=>c.dec k fun _=>
  (match AU P e,uC P e with
   |some ek,some z=>∃(y:ek.den) (b:Bool),Ij c z h m k (ek.enc y) b∧
    K (bif ok then .tuple #[ek.enc y,.bool b]else ek.enc y) (some fun h'=>Ij c z h' m k (ek.enc y) b)
   |_,_=>False)
 |_,_=>False
def MW(h:ad)(m:Option Nat)(n:Nat):Prop:=
 match m with
 |none=>n=0
 |some r=>∃es clock,h[r]? =some (.map es clock)∧n=es.size
def O1(P:Program)(t:TypeId)(x:Value)(K:RK)(h:ad):Prop:=
 match P.underlying t,x with
 |some .string,.string s=>K (.int .i64 s.size) none
 |some (.array n _),_=>K (.int .i64 n) none
 |some (.slice _),.slice _ n _=>K (.int .i64 n) none
 |some (.map _ _),.map m=>∃n:Nat,MW h m n∧K (.int .i64 n) (some fun h'=>MW h' m n)
 |_,_=>False
def O2(P:Program)(t:TypeId)(x:Value)(K:RK):Prop:=
 match P.underlying t,x with
 |some (.slice _),.slice _ _ n=>K (.int .i64 n) none
 |_,_=>False
def Ej(mx:Bool)(k:IntKind):Int→List Value→(Value→Prop)→Prop
 |a,[],f=>f (.int k a)
 |a,.int k' b::vs,f=>bif Em k' k then Ej mx k (bif mx then(if b>a then b else a)else(if b<a then b else a)) vs f else False
 |_,_,_=>False
def zR(mx:Bool)(vs:List Value)(f:Value→Prop):Prop:=
 match vs with
 | .int k a::vs=>Ej mx k a vs f
 |_=>False
def Ik(h:ad)(i:Nat)(e:MapEntry):Prop:=
 ∃m since seen last stamp es,h[i]? =some (.mapIter (some m) since seen last)∧seen.back? =some stamp∧h[m]? =some (.map es last)∧es.find? (fun e=>e.born==stamp)=some e
def oc(P:Program)(t:TypeId):Bool:=match P.underlying t with|some (.interface _)=>false|some _=>true|none=>false
def Jd(P:Program)(t:TypeId)(x:Value)(K:RK):Prop:=
 bif oc P t then(match AU P t with
  |some k=>∃y:k.den,x=.iface t (k.enc y)∧K (k.enc y) none
  |none=>False)else False
def FA(cs:List Value)(off:Nat)(vs:List Value):List Value:=cs.take off++vs++cs.drop (off+vs.length)
def y6(place:Nat→Option (Nat×Nat)):List Value→List (Nat×Value)→Option (List Value)
 |cs,[]=>some cs
 |cs,(i,v)::rest=>match place i with
  |none=>none
  |some (off,size)=>bif bE v.cells.toList.length size&&ul (off+v.cells.toList.length) cs.length then y6 place (FA cs off v.cells.toList) rest else none
noncomputable def oa(r:cA):List (Nat×Operand)→Option (List (Nat×Value))
 | []=>some []
 |(i,o)::ps=>match du r o,oa r ps with
  |some v,some vs=>some ((i,v)::vs)
  |_,_=>none
def oB(P:Program)(t:TypeId):Option (List Value):=match uC P t with|some z=>some z.cells.toList|none=>none
def dR(n:Nat)(z:List Value):List Value:=(dJ n z).flatten
def uc(P:Program)(t:TypeId):Bool:=match P.info? t with|some _=>true|none=>false
def w9(P:Program):List Field→Bool
 | []=>true
 |f::fs=>bif uc P f.type then w9 P fs else false
def Hx(P:Program)(fs:List Field)(i:Nat):Option (Nat×Nat):=match fs[i]? with|some f=>some (f.offset,bT P f.type)|none=>none
def EE(P:Program)(t:TypeId)(parts:List (Nat×Value)):Option (List Value):=
 match P.underlying t,oB P t with
 |some (.struct fs),some z=>bif w9 P fs.toList then y6 (Hx P fs.toList) z parts else none
 |some (.array _ e),some z=>bif uc P e then y6 (fun i=>some (i*bT P e,bT P e)) z parts else none
 |_,_=>none
noncomputable def x8(P:Program)(ek:Option (Kind×Kind))(o:Op)(r:cA)(K:RK)(h:ad):Prop:=
 match o with
 | .entry it=>match du r it,ek with
  |some (.pointer (some a)),some (kk,vk)=>a.off=0∧∃(e:MapEntry) (x:kk.den) (y:vk.den),Ik h a.block e∧e.key=kk.enc x∧e.val=vk.enc y∧
    K (.tuple #[kk.enc x,vk.enc y]) (some fun h'=>Ik h' a.block e)
  |_,_=>False
 | .move x| .assign x=>match du r x with|some v=>K v none|none=>False
 | .load t a=>match du r a with|some v=>Fv P t v K h|none=>False
 | .nilCheck x=>match du r x with|some (.pointer p)=>∃a,p=some a∧K (.pointer (some a)) none|_=>False
 | .binOp op t x y _=>match du r x,du r y with
  |some (.agg v),some (.agg u)=>O5 P op t v.toList u.toList K h
  |some v,some u=>(match op,Pe y with
   | .eql,true=>NV P t false v u K
   | .neq,true=>NV P t true v u K
   |op,_=>O3 P op t v u K h)
  |_,_=>False
 | .unOp op _ x=>match du r x with|some v=>Qq op v K|none=>False
 | .convert s d x=>match du r x with|some v=>L3 P s d v K h|none=>False
 | .pick c a b=>match du r c,du r a,du r b with|some c,some a,some b=>OB c a b K|_,_,_=>False
 | .extract x i=>match du r x with
  |some (.tuple vs)=>(match vs.toList[i]? with|some v=>K v none|none=>False)
  |_=>False
 | .fieldAddr t x f=>match du r x,tm P t f with
  |some (.pointer (some a)),some (u,off)=>bif bE (bT P u) 0 then False else K (.pointer (some (adr a off))) none
  |_,_=>False
 | .field t x f=>match du r x with|some v=>Hn P t v f K|none=>False
 | .indexAddr t x i=>match du r x,du r i with|some v,some u=>vt P t v u K|_,_=>False
 | .index t x i=>match du r x,du r i with|some v,some u=>Hm P t v u K|_,_=>False
 | .slice t x lo hi mx=>match du r x,Dh r lo,Dh r hi,Dh r mx with
  |some v,some l,some h',some m=>Hj P t v l h' m K
  |_,_,_,_=>False
 | .lookup t x k ok=>match du r x,du r k with|some v,some u=>Ec P t v u ok K h|_,_=>False
 | .makeInterface t x=>match du r x with|some v=>bif oc P t then K (.iface t v) none else False|none=>False
 | .typeAssert x _ t ok=>match du r x with|some v=>bif ok then False else Jd P t v K|none=>False
 | .build t ps=>match oa r ps.toList with
  |some vs=>(match EE P t vs with|some cs=>K (.agg cs.toArray) none|none=>False)
  |none=>False
 | .makeFunc fn first cap=>match oF r first.toList,oF r cap.toList with
  |some vs,some us=>K (.func fn vs.toArray us.toArray) none
  |_,_=>False
 | .call c=>match c.callee,oF r c.args.toList,c.argTypes.toList with
  | .builtin .len,some [v],[t]=>O1 P t v K h
  | .builtin .cap,some [v],[t]=>O2 P t v K
  | .builtin .min,some vs,_=>zR false vs fun v=>K v none
  | .builtin .max,some vs,_=>zR true vs fun v=>K v none
  |_,_,_=>False
 |_=>False
abbrev WK:=Value→ad→Prop
def aC(h:ad):Addr:=⟨h.size,0,none⟩
def hnew(h:ad)(cs:List Value)(t:TypeId):ad:=h.push (.cells cs.toArray t (0,0))
def cq:List Value→Bool
 | []=>true
 |v::vs=>(match v with| .agg _=>false| .tuple _=>false|_=>true)&&cq vs
noncomputable def iM(h:ad)(a:Addr):Nat→List Value→ad
 |_,[]=>h
 |i,v::vs=>iM (hset h (adr a i) v) a (i+1) vs
noncomputable def fV(h:ad)(a:Option Addr)(i:Nat)(vs:List Value):ad:=match a with|some a=>iM h a i vs|none=>h
noncomputable def uv(h:ad)(a:Option Addr)(i:Nat)(vs:List Value):Prop:=vs= []∨∃b,a=some b∧∀j,j<vs.length→Wr h (adr b (i+j))
noncomputable def GT(P:Program)(t:TypeId)(a v:Value)(K:WK)(h:ad):Prop:=
 match a with
 | .pointer (some a)=>bif bE v.cells.toList.length (bT P t)&&cq v.cells.toList then Me P t
   (match v.cells.toList with
    | [v]=>Wr h a∧K undef (hset h a v)
    |vs=>uv h (some a) 0 vs∧K undef (iM h a 0 vs))
  else False
 |_=>False
noncomputable def MP(P:Program)(e:TypeId)(base:Option Addr)(sl sc xl:Nat)(xs:List Value)(K:WK)(h:ad):Prop:=
 (sl+xl≤sc→uv h base (sl*bT P e) xs∧cq xs=true∧K (.slice base (sl+xl) sc) (fV h base (sl*bT P e) xs))∧
 (sc<sl+xl→∃old z,SRow h base (sl*bT P e) old∧oB P e=some z∧0<oK P e∧Builtin.nextslicecap (sl+xl) sc*oK P e≤2^48∧
  ∀nc,sl+xl≤nc→K (.slice (some (aC h)) (sl+xl) nc) (hnew h (old++xs++dR (nc-(sl+xl)) z) e))
noncomputable def zJ(P:Program)(t:TypeId)(s x:Value)(K:WK)(h:ad):Prop:=
 match sm P t,s,x with
 |some e,.slice b sl sc,.slice a xl _=>Me P e (∃xs,SRow h a (xl*bT P e) xs∧MP P e b sl sc xl xs K h)
 |some e,.slice b sl sc,.string x=>bif bE (bT P e) 1 then MP P e b sl sc x.size (dd x) K h else False
 |_,_,_=>False
noncomputable def Ah(P:Program)(t:TypeId)(s x:Value)(K:WK)(h:ad):Prop:=
 match sm P t,s,x with
 |some e,.slice b sl sc,.int _ l=>(match oB P e with
  |some z=>bif bE z.length (bT P e)then(0≤l∧l*oK P e≤2^48∧l≤9223372036854775807∧((sl+l.toNat:Nat):Int)≤9223372036854775807)∧MP P e b sl sc l.toNat (dR l.toNat z) K h else False
  |none=>False)
 |_,_,_=>False
noncomputable def GU(P:Program)(t:TypeId)(x:Value)(K:WK)(h:ad):Prop:=
 match sm P t,x with
 |some e,.slice a n _=>(match oB P e with
  |some z=>bif cq z then uv h a 0 (dR n z)∧K (.tuple #[]) (fV h a 0 (dR n z))else False
  |none=>False)
 |_,_=>False
noncomputable def Lr(P:Program)(t:TypeId)(d s:Value)(K:WK)(h:ad):Prop:=
 match sm P t,d,s with
 |some e,.slice b dl _,.slice a sl _=>Me P e (∃xs,SRow h a (fl sl dl*bT P e) xs∧uv h b 0 xs∧cq xs=true∧K (.int .i64 (fl sl dl)) (fV h b 0 xs))
 |some e,.slice b dl _,.string x=>bif bE (bT P e) 1 then uv h b 0 ((dd x).take dl)∧K (.int .i64 (fl x.size dl)) (fV h b 0 ((dd x).take dl))else False
 |_,_,_=>False
def Hu(k v:Value)(clock:Nat):List MapEntry→List MapEntry×Nat
 | []=>([{key:=k,val:=v,born:=clock}],clock+1)
 |e::es=>if f7 k e.key then({e with key:=k,val:=v}::es,clock)else let r:=Hu k v clock es;(e::r.1,r.2)
def F9(k:Value):List MapEntry→List MapEntry
 | []=> []
 |e::es=>if f7 k e.key then es else e::F9 k es
def JL(c:CK)(h:ad)(r:Nat):Prop:=∃es clock,h[r]? =some (.map es clock)∧AV c es.toList
def NY(h:ad)(r:Nat)(k v:Value):ad:=
 match h[r]? with
 |some (.map es clock)=>h.setIfInBounds r (.map (Hu k v clock es.toList).1.toArray (Hu k v clock es.toList).2)
 |_=>h
def Jl(h:ad)(r:Nat)(k:Value):ad:=
 match h[r]? with
 |some (.map es clock)=>h.setIfInBounds r (.map (F9 k es.toList).toArray clock)
 |_=>h
def zI(P:Program)(t:TypeId)(m k v:Value)(K:WK)(h:ad):Prop:=
 match FR P t,m with
 |some (c,_),.map m=>c.dec k fun _=>∃r,m=some r∧JL c h r∧K undef (NY h r k v)
 |_,_=>False
def Af(P:Program)(t:TypeId)(m k:Value)(K:WK)(h:ad):Prop:=
 match FR P t,m with
 |some (c,_),.map m=>c.dec k fun _=>(m=none∧K (.tuple #[]) h)∨(∃r,m=some r∧JL c h r∧K (.tuple #[]) (Jl h r k))
 |_,_=>False
def LW(P:Program):List TypeId→Option (List Kind)
 | []=>some []
 |t::ts=>match AU P t,LW P ts with
  |some k,some ks=>some (k::ks)
  |_,_=>none
def LX(P:Program)(t:TypeId):Option (List Kind):=
 match P.underlying t with
 |some (.tuple ts)=>LW P ts.toList
 |_=>LW P [t]
noncomputable def Ot(P:Program)(f:Operand)(r:cA)(args:List Value)(t:TypeId)(K:WK)(h:ad):Prop:=
 match LX P t with
 |none=>False
 |some ks=>match f with
  | .func f=>HC P f args ks (fun x h'=>K (AG ks (lM ks x)) h') h
  |f=>match du r f with
   |some fv=>HV P fv args ks (fun x h'=>K (AG ks (lM ks x)) h') h
   |none=>False
def Lq(it:Value)(K:WK)(h:ad):Prop:=
 match it with
 | .pointer (some a)=>a.off=0∧
  ∃m since seen last,h[a.block]? =some (.mapIter m since seen last)∧
   ((m=none∧K (.tuple #[.bool false]) h)∨
    (∃r es clock,m=some r∧h[r]? =some (.map es clock)∧(seen.isEmpty=true∨es.isEmpty=true∨es.all (fun e=>decide (e.born≥last))=false)∧
     ((∀e∈es.toList,e.born<since→seen.contains e.born=true)→K (.tuple #[.bool false]) h)∧
     (∀e∈es.toList,seen.contains e.born=false→K (.tuple #[.bool true,e.key,e.val]) (h.setIfInBounds a.block (.mapIter (some r) since (seen.push e.born) clock)))))
 |_=>False
noncomputable def B9(P:Program)(o:Oper)(r:cA)(K:WK)(h:ad):Prop:=
 match o.op with
 | .alloc t=>(match oB P t with|some z=>K (.pointer (some (aC h))) (hnew h z t)|none=>False)
 | .box t x=>(match du r x with|some v=>K (.pointer (some (aC h))) (hnew h v.cells.toList t)|none=>False)
 | .build t ps=>(match oa r ps.toList with
  |some vs=>(match EE P t vs with|some cs=>K (.agg cs.toArray) h|none=>False)
  |none=>False)
 | .buildSlice t n ps=>(match sm P t,oa r ps.toList with
  |some e,some vs=>(match oB P e with
   |some z=>bif ul (n*bT P e) 16777216&&bE z.length (bT P e)then
     (match y6 (fun i=>some (i*bT P e,bT P e)) (dR n z) vs with|some cs=>K (.slice (some (aC h)) n n) (hnew h cs e)|none=>False)
    else False
   |none=>False)
  |_,_=>False)
 | .store t a x=>(match du r a,du r x with|some a,some v=>GT P t a v K h|_,_=>False)
 | .mapUpdate t m k x=>(match du r m,du r k,du r x with|some m,some k,some v=>zI P t m k v K h|_,_,_=>False)
 | .insert t m k x=>(match du r m,du r k,du r x with|some m,some k,some v=>zI P t m k v K h|_,_,_=>False)
 | .makeMap t n=>(match n with
  |none=>K (.map (some h.size)) (h.push (.map #[] 0))
  |some n=>(match du r n,P.underlying t with|some (.int _ _),some (.map _ _)=>K (.map (some h.size)) (h.push (.map #[] 0))|_,_=>False))
 | .makeSlice t l c=>(match sm P t,du r l,du r c with
  |some e,some (.int _ l),some (.int _ c)=>(match oB P e with
   |some z=>bif bE z.length (bT P e)then(0≤l∧l≤c∧c≤9223372036854775807∧oK P e*c≤2^48)∧K (.slice (some (aC h)) l.toNat c.toNat) (hnew h (dR c.toNat z) e)else False
   |none=>False)
  |_,_,_=>False)
 | .convert s d x=>(match P.underlying s,P.underlying d,du r x with
  |some .string,some (.slice e),some (.string v)=>bif HR P e then ByP e v h (fun c h'=>K (.slice (some (aC h)) v.size c) h')else False
  |_,_,_=>False)
 | .range t x=>(match P.underlying t,du r x with
  |some (.map _ _),some (.map m)=>∃clock,(m=none∧clock=0∨∃r es,m=some r∧h[r]? =some (.map es clock))∧K (.pointer (some (aC h))) (h.push (.mapIter m clock #[] clock))
  |_,_=>False)
 | .next it false=>(match du r it with|some it=>Lq it K h|none=>False)
 | .call c=>(match c.callee,oF r c.args.toList with
  | .builtin .append,some [s,x]=>(match c.argTypes.toList with| [t,u]=>(match P.underlying u with|some (.slice _)=>zJ P t s x K h|some .string=>zJ P t s x K h|some (.int _)=>Ah P t s x K h|_=>False)|_=>False)
  | .builtin .clear,some [x]=>(match c.argTypes.toList with| [t]=>GU P t x K h|_=>False)
  | .builtin .copy,some [d,s]=>(match c.argTypes.toList with| [t,_]=>Lr P t d s K h|_=>False)
  | .builtin .delete,some [m,k]=>(match c.argTypes.toList with| [t,_]=>Af P t m k K h|_=>False)
  | .value f,some args=>Ot P f r args o.type K h
  |_,_=>False)
 |_=>False
def sq(P:Program):Op→Bool
 | .convert s d _=> !Pd P s d
 | .alloc _| .box .. | .buildSlice .. | .store .. | .mapUpdate .. | .insert .. | .makeMap .. | .makeSlice .. | .range .. | .next .. =>false
 | .call c=>match c.callee with
  | .builtin .len| .builtin .cap| .builtin .min| .builtin .max=>true
  |_=>false
 |_=>true
def wW(N:Nat)(o:Oper)(v:Value)(r:cA)(K:cA→Prop):Prop:=
 match o.dst with
 |none=>K r
 |some d=>bif Nat.blt d N then K ((d,v)::r)else False
noncomputable def PA(P:Program)(N:Nat)(ek:Option (Kind×Kind))(o:Oper)(r:cA)(K:cA→ad→Prop)(h:ad):Prop:=
 bif sq P o.op then x8 P ek o.op r (fun v _=>wW N o v r fun r'=>K r' h) h
 else B9 P o r (fun v h'=>wW N o v r fun r'=>K r' h') h
inductive DV where
 |f|t|u|x
abbrev ru:=List (Nat×DV)
noncomputable def oY(d:ru)(t:Nat):DV:=
 eS (motive:=fun _=>DV) .x (fun kv _ ih=>bif bE kv.1 t then kv.2 else ih) d
noncomputable def wX(d:ru):Operand→DV
 | .tmp t=>oY d t
 | .const (.bool true)=>.t
 | .const (.bool false)=>.f
 |_=>.x
noncomputable def E9(d:ru):Op→DV
 | .move x=>wX d x
 | .assign x=>wX d x
 | .pick c a b=>match wX d c with
  | .t=>wX d a
  | .f=>wX d b
  |_=>.x
 | .unOp .not _ x=>match wX d x with
  | .t=>.f
  | .f=>.t
  |_=>.x
 |_=>.x
def pL(d:ru)(o:Oper)(v:DV):ru:=match o.dst with|some t=>(t,v)::d|none=>d
noncomputable def g8(ops:List Oper)(d:ru)(o:Oper):Option Bool:=
 match o.guard with
 |none=>some true
 |some (j,want)=>match ops[j]? with
  |none=>none
  |some oj=>match oj.dst with
   |none=>none
   |some t=>match oY d t with
    | .t=>some want
    | .f=>some (!want)
    | .u=>some false
    | .x=>none
def A0(ops:List Oper)(o:Oper):Option Nat:=
 match o.guard with
 |none=>none
 |some (j,_)=>match ops[j]? with
  |none=>none
  |some oj=>oj.dst
noncomputable def C2(P:Program)(N:Nat)(ek:Option (Kind×Kind))(ops:List Oper)(o:Oper)(d:ru)(r:cA)(h:ad)(K:ru→cA→ad→Prop):Prop:=
 match g8 ops d o with
 |some true=>PA P N ek o r (K (pL d o (E9 d o.op))) h
 |some false=>wW N o undef r fun r'=>K (pL d o .u) r' h
 |none=>False
noncomputable def Ax(P:Program)(N:Nat)(ek:Option (Kind×Kind))(ops:List Oper)(l:List Oper):ru→(cA→ad→Prop)→cA→ad→Prop:=
 eS (motive:=fun _=>ru→(cA→ad→Prop)→cA→ad→Prop) (fun _ K r h=>K r h)
  (fun o _ ih d K r h=>
  match g8 ops d o with
  |some true=>PA P N ek o r (fun r' h'=>ih (pL d o (E9 d o.op)) K r' h') h
  |some false=>wW N o undef r fun r'=>ih (pL d o .u) K r' h
  |none=>match A0 ops o with
   |none=>False
   |some t=>match jh r t with
    |some (.bool b)=>CondP b
     (C2 P N ek ops o ((t,.t)::d) ((t,.bool true)::r) h fun d' r' h'=>ih d' K r' h')
     (C2 P N ek ops o ((t,.f)::d) ((t,.bool false)::r) h fun d' r' h'=>ih d' K r' h')
    |_=>False) l
inductive DA where
 |done
 |take (i:Nat) (rest:DA)
 |all (l:DA)
 |pick (i:Nat) (rest more:DA)
 |last (i:Nat) (rest:DA)
 |lastT (i:Nat) (rest:DA)
 |split (t:Nat) (yes no:DA)
abbrev oM:=List (Nat×(ad→Prop))
def tb(m i:Nat):Bool:=bE (iB (Nat.shiftRight m i) 1) 1
def fQ(i:Nat):Nat:=Nat.pow 2 i
inductive DM where
 |mk (am fr lk ds:Nat)
def DM.am:DM→Nat| .mk a _ _ _=>a
def DM.fr:DM→Nat| .mk _ f _ _=>f
def DM.lk:DM→Nat| .mk _ _ l _=>l
def DM.ds:DM→Nat| .mk _ _ _ d=>d
def iu(o:Oper)(i:Nat):Bool:=o.after.toList.any fun e=>bE e.on i&&Region.binds .any e
noncomputable def lc(l:List Edge):Nat:=
 eS (motive:=fun _=>Nat) 0 (fun e _ ih=>bif Region.binds .any e then cP (fQ e.on) ih else ih) l
noncomputable def km(l:List Operand):Nat:=
 eS (motive:=fun _=>Nat) 0 (fun o _ ih=>match o with| .tmp t=>cP (fQ t) ih|_=>ih) l
def l7(o:Oper):Nat:=match o.dst with|some d=>fQ d|none=>0
noncomputable def mB(ops:List Oper)(o:Oper):Nat:=
 cP (km o.op.operands.toList) (match o.guard with
  |some (g,_)=>(match ops[g]? with|some og=>l7 og|none=>0)
  |none=>0)
noncomputable def sX(ops:List Oper)(l:List Oper):List DM→Bool:=
 eS (motive:=fun _=>List DM→Bool) (fun ms=>match ms with| []=>true|_=>false)
  (fun o _ ih ms=>match ms with
   |m::ms=>bE (lc o.after.toList) m.am&&bE (mB ops o) m.lk&&bE (l7 o) m.ds&&ih ms
   | []=>false) l
def yr(x y:DM):Bool:=bE (iB x.ds (cP y.lk y.ds)) 0&&bE (iB y.ds x.lk) 0
noncomputable def Dz(i:Nat)(m:DM)(l:List DM):Nat→Bool:=
 eS (motive:=fun _=>Nat→Bool) (fun _=>true)
  (fun n _ ih j=>(!(tb m.fr j)||bE j i||tb n.am i||yr m n)&&ih (ff j)) l
noncomputable def wP(all:List DM)(l:List DM):Nat→Bool:=
 eS (motive:=fun _=>Nat→Bool) (fun _=>true) (fun m _ ih i=>Dz i m all 0&&ih (ff i)) l
def FJ:List Oper→Bool
 | []=>true
 |o::os=>(match o.op with| .select .. =>false| .defer _=>false|_=>true)&&FJ os
noncomputable def zS(ops:List Oper)(ms:List DM):Bool:=sX ops ops ms&&wP ms ms 0&&FJ ops
def qa(o:Oper):oM→oM
 | []=> []
 |(k,S)::l=>bif iu o k then qa o l else(k,S)::qa o l
def re:oM→ad→Prop→Prop
 | [],_,R=>R
 |(_,S)::l,h,R=>S h∧re l h R
def Da(m:DM)(ls:Nat):Bool:=bE (iB m.am ls) m.am
noncomputable def kz(ls:Nat)(l:List DM):Nat→List Nat:=
 eS (motive:=fun _=>Nat→List Nat) (fun _=> []) (fun m _ ih j=>bif !(tb ls j)&&Da m ls then j::ih (ff j)else ih (ff j)) l
def An(m:DM)(i ls n:Nat):Bool:= !(tb ls i)&&Da m ls&&bE (iB (cP ls m.fr) (tU (fQ n))) (tU (fQ n))
def rG:List Nat→List Nat→Bool
 | [],[]=>true
 |a::as,b::bs=>bE a b&&rG as bs
 |_,_=>false
def ye:DA→List Nat
 | .pick i _ l=>i::ye l
 | .last i _=> [i]
 | .lastT i _=> [i]
 |_=> []
noncomputable def Kb(P:Program)(N:Nat)(ops:List Oper)(i:Nat)(L:oM)(d:ru)(r:cA)(h:ad)(K:oM→ru→cA→ad→Prop):Prop:=
 match ops[i]? with
 |none=>False
 |some o=>match g8 ops d o with
  |some true=>bif sq P o.op then False else B9 P o r (fun v h'=>wW N o v r fun r'=>re (qa o L) h' (K (qa o L) (pL d o .x) r' h')) h
  |_=>False
noncomputable def Lc(m:Nat)(l:List DM):Nat→Nat:=
 eS (motive:=fun _=>Nat→Nat) (fun _=>m) (fun n _ ih j=>bif tb m j then cP n.am (ih (ff j))else ih (ff j)) l
noncomputable def wZ(ms:List DM)(m:Nat):Nat:=Lc (Lc (Lc (Lc m ms 0) ms 0) ms 0) ms 0
def EK(ms:List DM)(i:Nat):Nat:=match ms[i]? with|some m=>m.am|none=>0
def wx(m:Nat):oM→oM
 | []=> []
 |(k,S)::l=>bif tb m k then wx m l else(k,S)::wx m l
noncomputable def Jb(P:Program)(N:Nat)(ops:List Oper)(ms:List DM)(i:Nat)(L:oM)(d:ru)(r:cA)(h:ad)(K:oM→ru→cA→ad→Prop):Prop:=
 match ops[i]? with
 |none=>False
 |some o=>match g8 ops d o with
  |some true=>bif sq P o.op then False else B9 P o r (fun v h'=>wW N o v r fun r'=>re (wx (wZ ms (EK ms i)) L) h' (K (wx (wZ ms (EK ms i)) L) (pL d o .x) r' h')) h
  |_=>False
noncomputable def lH(P:Program)(N:Nat)(ops:List Oper)(ms:List DM)(da:DA):Bool→Nat→oM→ru→(cA→ad→Prop)→cA→ad→Prop:=
 DA.rec (motive:=fun _=>Bool→Nat→oM→ru→(cA→ad→Prop)→cA→ad→Prop)
  (fun m ls _ _ K r h=>bif !m&&rG (kz ls ms 0) []then K r h else False)
  (fun i _ ih m ls L d K r h=>
   match ops[i]?,ms[i]? with
   |some o,some mi=>bif !m&&An mi i ls ops.length then
     (match g8 ops d o with
      |none=>False
      |some false=>wW N o undef r fun r'=>ih false (cP ls (fQ i)) L (pL d o .u) K r' h
      |some true=>bif sq P o.op then
       x8 P none o.op r (fun v S=>wW N o v r fun r'=>match S with
        |none=>ih false (cP ls (fQ i)) L (pL d o (E9 d o.op)) K r' h
        |some S=>ih false (cP ls (fQ i)) ((i,S)::L) (pL d o (E9 d o.op)) K r' h) h
       else False)
    else False
   |_,_=>False)
  (fun l ih m ls L d K r h=>bif !m&&rG (kz ls ms 0) (ye l)then ih true ls L d K r h else False)
  (fun i _ _ ih1 ih2 m ls L d K r h=>bif m then Kb P N ops i L d r h (fun L' d' r' h'=>ih1 false (cP ls (fQ i)) L' d' K r' h')∧ih2 true ls L d K r h else False)
  (fun i _ ih m ls L d K r h=>bif m then Kb P N ops i L d r h (fun L' d' r' h'=>ih false (cP ls (fQ i)) L' d' K r' h')else False)
  (fun i _ ih m ls L d K r h=>bif m then Jb P N ops ms i L d r h (fun L' d' r' h'=>ih false (cP ls (fQ i)) L' d' K r' h')else False)
  (fun t _ _ ih1 ih2 m ls L d K r h=>
   bif m then False else match jh r t with
   |some (.bool b)=>CondP b (ih1 false ls L ((t,.t)::d) K ((t,.bool true)::r) h) (ih2 false ls L ((t,.f)::d) K ((t,.bool false)::r) h)
   |_=>False)
  da
noncomputable def Qv(_o:Oper)(i:Nat)(ds lk:Nat)(ops:List Oper)(l:List Oper):Nat→Nat:=
 eS (motive:=fun _=>Nat→Nat) (fun _=>0) (fun p _ ih j=>bif (bE j i||iu p i||(bE (iB ds (cP (mB ops p) (l7 p))) 0&&bE (iB (l7 p) lk) 0))then cP (fQ j) (ih (ff j))else ih (ff j)) l
noncomputable def Qt(ops:List Oper)(l:List Oper):Nat→List DM:=
 eS (motive:=fun _=>Nat→List DM) (fun _=> []) (fun o _ ih i=>.mk (lc o.after.toList) (Qv o i (l7 o) (mB ops o) ops ops 0) (mB ops o) (l7 o)::ih (ff i)) l
def PH(P:Program)(w:Option Bool)(o:Oper):Bool:=match w with|some false=>true|some true=>sq P o.op|none=>false
noncomputable def Ph(P:Program)(ops:List Oper)(d:ru)(ls n:Nat)(l:List Oper):List DM→Nat→Option (Nat×Oper):=
 eS (motive:=fun _=>List DM→Nat→Option (Nat×Oper)) (fun _ _=>none)
  (fun o _ ih ms j=>match ms with
   | []=>none
   |m::ms=>bif An m j ls n&&PH P (g8 ops d o) o then some (j,o)else ih ms (ff j)) l
noncomputable def Pi(ops:List Oper)(d:ru)(ls:Nat)(l:List Oper):List DM→Nat→Option Nat:=
 eS (motive:=fun _=>List DM→Nat→Option Nat) (fun _ _=>none)
  (fun o _ ih ms j=>match ms with
   | []=>none
   |m::ms=>match bif !(tb ls j)&&Da m ls then(match g8 ops d o with|none=>A0 ops o|some _=>none)else none with
    |some t=>some t
    |none=>ih ms (ff j)) l
noncomputable def PZ(ops:List Oper)(k:Nat→ru→DA)(ls:Nat)(d:ru)(l:List Nat):DA:=
 eS (motive:=fun _=>DA) .done (fun i rest ih=>match ops[i]? with
  |none=>.done
  |some o=>match rest with
   | []=>.last i (k (cP ls (fQ i)) (pL d o .x))
   |_=>.pick i (k (cP ls (fQ i)) (pL d o .x)) ih) l
noncomputable def Ps(P:Program)(ops:List Oper)(ms:List DM)(fuel:Nat):Nat→ru→DA:=
 Nat.rec (motive:=fun _=>Nat→ru→DA) (fun _ _=>.done) (fun _ ih ls d=>
  match Ph P ops d ls ops.length ops ms 0 with
  |some (i,o)=>.take i (ih (cP ls (fQ i)) (match g8 ops d o with|some false=>pL d o .u|_=>pL d o (E9 d o.op)))
  |none=>match Pi ops d ls ops ms 0 with
   |some t=>.split t (ih ls ((t,.t)::d)) (ih ls ((t,.f)::d))
   |none=>match kz ls ms 0 with
    | []=>.done
    |l=>.all (PZ ops ih ls d l)) fuel
noncomputable def Jj(ops:List Oper):List DM:=Qt ops ops 0
inductive Ex where
 |exit (id:Nat)
 |ret
abbrev St:=List (Nat×Kind)
def vl:St→List Kind
 | []=> []
 |(_,k)::l=>k::vl l
noncomputable def Aq(r:cA):St→Option (List Value)
 | []=>some []
 |(i,_)::l=>match jh r i,Aq r l with
  |some v,some vs=>some (v::vs)
  |_,_=>none
noncomputable def yO(st:St)(r:cA)(f:cT (vl st)→Prop):Prop:=
 match Aq r st with
 |some vs=>zw (vl st) vs f
 |none=>False
def lZ:St→List Value→cA→cA
 |(i,_)::l,v::vs,r=>(i,v)::lZ l vs r
 |_,_,r=>r
noncomputable def Jp(r:cA)(l:List Nat):Option cA:=
 eS (motive:=fun _=>Option cA) (some []) (fun t _ ih=>match jh r t,ih with
  |some v,some l=>some ((t,v)::l)
  |_,_=>none) l
noncomputable def ki(t:Nat)(l:List Oper):Bool:=
 eS (motive:=fun _=>Bool) false (fun o _ ih=>match o.dst with|some d=>bif bE d t then true else ih|none=>ih) l
noncomputable def fC(t:Nat)(c:Code):Bool:=
 Code.rec (motive:=fun _=>Bool) false (fun _ ops _=>ki t ops.toList) (fun _ _ a b=>bif a then true else b) (fun _ _ _ a b=>bif a then true else b)
  (fun _ _ b=>b) (fun _ b=>b) (fun _ _ _ _ _ _=>true) (fun _=>false) (fun _ b=>b) (fun _=>false) (fun _=>false) false (fun _=>false) c
inductive Ann where
 |nil
 |node (a b:Ann)
 |join (st:St) (a b:Ann)
 |loop (st:St) (b:Ann)
 |draw (d:DA)
 |kinds (k v:Kind)
 |reg (keep:List Nat) (inner:Ann)
 |rf (ks:List Kind) (a b:Ann)
def Ann.l:Ann→Ann
 | .node a _=>a
 | .rf _ a _=>a
 |_=>.nil
def Ann.r:Ann→Ann
 | .node _ b=>b
 | .rf _ _ b=>b
 |_=>.nil
noncomputable def Lp(l:List Oper):Nat:=eS (motive:=fun _=>Nat) 0 (fun o _ ih=>cP (l7 o) ih) l
def P0:Option Nat→Option Nat→Option Nat
 |some a,some b=>some (cP a b)
 |_,_=>none
noncomputable def uE(c:Code):Option Nat:=
 Code.rec (motive:=fun _=>Option Nat) (some 0) (fun _ ops _=>some (Lp ops.toList)) (fun _ _ a b=>P0 a b) (fun _ _ _ a b=>P0 a b)
  (fun _ _ b=>b) (fun _ b=>b) (fun _ _ _ _ _ _=>none) (fun _=>some 0) (fun _ b=>b) (fun _=>some 0) (fun _=>some 0) (some 0) (fun _=>some 0) c
noncomputable def tc(m:Nat)(r:cA):cA:=eS (motive:=fun _=>cA) [] (fun kv _ ih=>bif tb m kv.1 then ih else kv::ih) r
noncomputable def xY(P:Program)(N:Nat)(ops:List Oper)(dr:Bool)(an:Ann)(Kn:cA→ad→Prop)(r:cA)(h:ad):Prop:=
 match dr with
 |false=>(match an with
  | .kinds kk vk=>Ax P N (some (kk,vk)) ops ops [] Kn r h
  |_=>Ax P N none ops ops [] Kn r h)
 |true=>bif zS ops (Jj ops)then lH P N ops (Jj ops) (match an with| .draw da=>da|_=>Ps P ops (Jj ops) (Nat.add (Nat.add ops.length ops.length) 2) 0 []) false 0 [] [] Kn r h else False
noncomputable def jZ(P:Program)(N:Nat)(c:Code):Ann→(cA→ad→Prop)→(Ex→cA→ad→Prop)→cA→ad→Prop:=
 Code.rec (motive:=fun _=>Ann→(cA→ad→Prop)→(Ex→cA→ad→Prop)→cA→ad→Prop)
  (fun _ Kn _ r h=>Kn r h)
  (fun _ ops dr an Kn _ r h=>match an with
   | .reg keep an=>xY P N ops.toList dr an (fun r' h'=>match Jp r' keep with|some r0=>Kn r0 h'|none=>False) r h
   |an=>xY P N ops.toList dr an Kn r h)
  (fun a _ iha ihb an Kn Kx r h=>match an with
   | .join st aa ab=>(match uE a with
     |none=>False
     |some m=>Join (T:=cT (vl st)) (fun t h'=>ihb ab Kn Kx (lZ st (lM (vl st) t) (tc m r)) h')
      fun J=>iha aa (fun r' h'=>yO st r' fun t=>J t h') Kx r h)
   |an=>iha an.l (fun r' h'=>ihb an.r Kn Kx r' h') Kx r h)
  (fun c _ _ iha ihb an Kn Kx r h=>match du r c with
   |some (.bool t)=>CondP t (iha an.l Kn Kx r h) (ihb an.r Kn Kx r h)
   |_=>False)
  (fun id _ ih an Kn Kx r h=>ih an Kn (fun e r' h'=>match e with
    | .exit i=>bif bE i id then Kn r' h' else Kx (.exit i) r' h'
    | .ret=>Kx .ret r' h') r h)
  (fun b ih an _ Kx r h=>match an with
   | .loop st ab=>(match uE b with
     |none=>False
     |some m=>yO st r fun t0=>LoopP (T:=cT (vl st)) (fun self t h'=>ih ab (fun r' h''=>yO st r' fun t'=>self t' h'') Kx (lZ st (lM (vl st) t) (tc m r)) h') t0 h)
   |_=>False)
  (fun _ _ _ _ _ _ _ _ _ _ _=>False)
  (fun id _ _ Kx r h=>Kx (.exit id) r h)
  (fun _ _ _ _ _ _ _=>False)
  (fun _ _ Kn _ r h=>Kn r h)
  (fun _ _ _ _ _ _=>False)
  (fun _ _ Kx r h=>Kx .ret r h)
  (fun _ _ _ _ _ _=>False)
  c
noncomputable def l0(P:Program)(r:cA)(h:ad):List ResultVar→(List Value→Prop)→Prop
 | [],K=>K []
 | .tmp t::l,K=>(match jh r t with|some v=>l0 P r h l fun vs=>K (v::vs)|none=>False)
 | .cell a t::l,K=>(match jh r a with
  |some v=>Fv P t v (fun x _=>l0 P r h l fun vs=>K (x::vs)) h
  |none=>False)
def nX:Nat→List Value→cA
 |_,[]=> []
 |i,v::vs=>(i,v)::nX (i+1) vs
noncomputable def Jc(P:Program)(fn:Func)(c:Code)(an:Ann)(args:List Value)(ks:List Kind)(K:cT ks→ad→Prop)(h:ad):Prop:=
 jZ P fn.ntmps c an
  (fun r h'=>l0 P r h' fn.results.toList fun vs=>zw ks vs fun t=>K t h')
  (fun e r h'=>match e with
   | .ret=>l0 P r h' fn.results.toList fun vs=>zw ks vs fun t=>K t h'
   | .exit _=>False)
  (nX 0 args) h
noncomputable def pE(c:Code):Bool:=
 Code.rec (motive:=fun _=>Bool) false (fun _ _ _=>false) (fun _ _ a b=>bif a then true else b) (fun _ _ _ a b=>bif a then true else b)
  (fun _ _ b=>b) (fun _ b=>b) (fun _ _ _ _ _ _=>true) (fun _=>false) (fun _ b=>b) (fun _=>false) (fun _=>false) false (fun _=>false) c
def Eu:Option Ex→Option Code
 |none=>none
 |some (.exit i)=>some (.exit i)
 |some .ret=>some .ret
def Qw(N:ad→Prop)(X:Nat→ad→Prop)(R:ad→Prop):Option Ex→ad→Prop
 |none=>N
 |some (.exit i)=>X i
 |some .ret=>R
structure RangeP(P:Program)(fv:Value)(ks:List Kind)(h:ad)(RT:Obj→Obj→cT ks→(Option Ex→ad→Prop)→ad→Prop)(N:ad→Prop)(X:Nat→ad→Prop)(R:ad→Prop):Prop where
 run:∀lo:LoopState→Option Ex→Obj,(∀s j,∃r,lo s j=.loop r)→
  (∀x h' K,h'[h.size+1]? =some (lo .ready none)→
   RT (lo .ready none) (lo .busy none) x (fun j h2=>h2[h.size+1]? =some (lo .busy none)∧K j.isNone (h2.setIfInBounds (h.size+1) (lo (if j.isNone then .ready else .done) j))) h'→
   HV P (.func (.yield (h.size+1)) #[] #[]) (lM ks x) [.c .bool] K h')→
  ∃f first cap,fv=.func (.func f) first cap∧HE P f (first.toList++ [.func (.yield (h.size+1)) #[] #[]]++cap.toList) []
   (fun _ h2=>∃s j,s≠ .busy∧h2[h.size+1]? =some (lo s j)∧Qw N X R j (h2.setIfInBounds (h.size+1) (lo .exhausted j))) ((h.push (.deferred (some []))).push (lo .ready none))
def Nk:List Nat→List Value→cA→cA
 |i::l,v::vs,r=>Nk l vs ((i,v)::r)
 |_,_,r=>r
noncomputable def G8(P:Program)(N:Nat)(ps:List Nat)(ks:List Kind)(assign body:Code)(an:Ann)(r:cA)(l:Nat)(Da bz:Obj)(x:cT ks)(k:Option Ex→ad→Prop)(h:ad):Prop:=
 jZ P N assign an.l (fun r1 h1=>h1[l]? =some Da∧jZ P N body an.r (fun _ h2=>k none h2) (fun e _ h2=>k (some e) h2) r1 (h1.setIfInBounds l bz)) (fun _ _ _=>False) (Nk ps (lM ks x) r) h
def vz(N:Nat):List Nat→Bool
 | []=>true
 |n::l=>Nat.blt n N&&vz N l
noncomputable def vq(P:Program)(N:Nat)(c:Code):Ann→(List Nat→cA→ad→Prop)→(Ex→List Nat→cA→ad→Prop)→List Nat→cA→ad→Prop:=
 Code.rec (motive:=fun _=>Ann→(List Nat→cA→ad→Prop)→(Ex→List Nat→cA→ad→Prop)→List Nat→cA→ad→Prop)
  (fun an Kn Kx ms r h=>jZ P N .skip an (Kn ms) (fun e=>Kx e ms) r h)
  (fun id ops dr an Kn Kx ms r h=>jZ P N (.region id ops dr) an (Kn ms) (fun e=>Kx e ms) r h)
  (fun a b iha ihb an Kn Kx ms r h=>bif (bif pE a then true else pE b)then iha an.l (fun ms r' h'=>ihb an.r Kn Kx ms r' h') Kx ms r h
   else jZ P N (.seq a b) an (Kn ms) (fun e=>Kx e ms) r h)
  (fun c a b iha ihb an Kn Kx ms r h=>bif (bif pE a then true else pE b)then
    (match du r c with
     |some (.bool t)=>CondP t (iha an.l Kn Kx ms r h) (ihb an.r Kn Kx ms r h)
     |_=>False)
   else jZ P N (.cond c a b) an (Kn ms) (fun e=>Kx e ms) r h)
  (fun id b ih an Kn Kx ms r h=>bif pE b then ih an Kn (fun e ms r' h'=>match e with
    | .exit i=>bif bE i id then Kn ms r' h' else Kx (.exit i) ms r' h'
    | .ret=>Kx .ret ms r' h') ms r h
   else jZ P N (.block id b) an (Kn ms) (fun e=>Kx e ms) r h)
  (fun b _ an Kn Kx ms r h=>jZ P N (.loop b) an (Kn ms) (fun e=>Kx e ms) r h)
  (fun g ps assign body _ _ an Kn Kx ms r h=>match an with
   | .rf ks aa ab=>bif vz N ps.toList&&bE ps.toList.length ks.length then
    (match du r g with
     |some fv=>RangeP P fv ks h (fun Da bz x k h'=>G8 P N ps.toList ks assign body (.node aa ab) r (h.size+1) Da bz x k h')
      (fun h'=>Kn (h.size::ms) r h') (fun i h'=>Kx (.exit i) (h.size::ms) r h') (fun h'=>Kx .ret (h.size::ms) r h')
     |none=>False)else False
   |_=>False)
  (fun id an Kn Kx ms r h=>jZ P N (.exit id) an (Kn ms) (fun e=>Kx e ms) r h)
  (fun _ _ _ _ _ _ _ _=>False)
  (fun l an Kn Kx ms r h=>jZ P N (.label l) an (Kn ms) (fun e=>Kx e ms) r h)
  (fun _ _ _ _ _ _ _=>False)
  (fun an Kn Kx ms r h=>jZ P N .ret an (Kn ms) (fun e=>Kx e ms) r h)
  (fun _ _ _ _ _ _ _=>False)
  c
def Ja:List Nat→(ad→Prop)→ad→Prop
 | [],K,h=>K h
 |D::ms,K,h=>h[D]? =some (.deferred (some []))∧Ja ms K (h.setIfInBounds D (.deferred none))
noncomputable def G9(P:Program)(fn:Func)(c:Code)(an:Ann)(args:List Value)(ks:List Kind)(K:cT ks→ad→Prop)(h:ad):Prop:=
 vq P fn.ntmps c an
  (fun ms r h'=>Ja ms (fun h'=>l0 P r h' fn.results.toList fun vs=>zw ks vs fun t=>K t h') h')
  (fun e ms r h'=>match e with
   | .ret=>Ja ms (fun h'=>l0 P r h' fn.results.toList fun vs=>zw ks vs fun t=>K t h') h'
   | .exit _=>False)
  [] (nX 0 args) h
end Go.Lift
namespace Go.Lift
open Go
theorem Bq(a:Addr):adr a 0=a:=rfl
theorem xb(a:Addr)(n:Nat):adr a (n+1)=⟨a.block,a.off+(n+1),none⟩:=rfl
theorem qR(a:Addr)(n:Nat):adr a n=a.add n:=by
 cases n with
 |zero=>simp[Bq,Addr.add]
 |succ n=>simp[xb,Addr.add]
theorem xd(a:Addr)(m n:Nat):adr (adr a m) n=adr a (m+n):=by
 cases n with
 |zero=>rfl
 |succ n=>cases m with
  |zero=>simp[Bq]
  |succ m=>rw[xb,xb,show m+1+(n+1)=(m+1+n)+1 from rfl,xb];simp;omega
theorem Tame.refl(w:World):Tame w w:=⟨rfl,rfl,rfl⟩
theorem Tame.trans{a b c:World}(h:Tame a b)(k:Tame b c):Tame a c:=⟨k.os.trans h.os,k.tape.trans h.tape,k.output.trans h.output⟩
theorem wN{a b:IntKind}(h:Em a b=true):a=b:=by cases a<;>cases b<;>first|rfl|cases h
theorem CK.dec_sound{c:CK}{v:Value}{f:c.den→Prop}(h:c.dec v f):∃x,v=c.enc x∧f x:=by
 cases c<;>cases v<;>try simp only[CK.dec]at h
 case int.int k k' n=>
  cases hk:Em k' k with
  |false=>rw[hk]at h;exact h.elim
  |true=>rw[hk]at h;have:=wN hk;subst this;exact⟨n,rfl,h⟩
 case adr.pointer p=>cases p with
  |none=>exact h.elim
  |some a=>exact⟨a,rfl,h⟩
 all_goals first|exact h.elim|exact⟨_,rfl,h⟩
theorem y7:∀{cs:List CK} {vs:List Value} {f:M1 cs→Prop},JE cs vs f→∃t,vs=MK cs t∧f t
 | [],[],f,h=>⟨(),rfl,h⟩
 | [],_::_,f,h=>h.elim
 | [c],[v],f,h=>by obtain⟨x,rfl,hf⟩:=CK.dec_sound h;exact⟨x,rfl,hf⟩
 | [c],[],f,h=>h.elim
 | [c],_::_::_,f,h=>h.elim
 |c::d::cs,[],f,h=>h.elim
 |c::d::cs,[_],f,h=>h.elim
 |c::d::cs,v::u::vs,f,h=>by
  have h0:c.dec v fun x=>JE (d::cs) (u::vs) fun t=>f (x,t):=h
  obtain⟨x,hx,h1⟩:=CK.dec_sound h0;obtain⟨t,ht,h2⟩:=y7 (cs:=d::cs) (vs:=u::vs) h1;exact⟨(x,t),by rw[ht,hx];rfl,h2⟩
theorem Kind.dec_sound{k:Kind}{v:Value}{f:k.den→Prop}(h:k.dec v f):∃x,v=k.enc x∧f x:=by
 cases k with
 |c k=>exact CK.dec_sound h
 |agg cs=>
  cases v<;>simp only[Kind.dec]at h
  case agg vs=>
   obtain⟨t,ht,hf⟩:=y7 h;exact⟨t,by simp only[Kind.enc,←ht],hf⟩
theorem pK:∀{ks:List Kind} {vs:List Value} {f:cT ks→Prop},zw ks vs f→∃t,vs=lM ks t∧f t
 | [],[],f,h=>⟨(),rfl,h⟩
 | [],_::_,f,h=>h.elim
 | [c],[v],f,h=>by obtain⟨x,rfl,hf⟩:=Kind.dec_sound h;exact⟨x,rfl,hf⟩
 | [c],[],f,h=>h.elim
 | [c],_::_::_,f,h=>h.elim
 |c::d::cs,[],f,h=>h.elim
 |c::d::cs,[_],f,h=>h.elim
 |c::d::cs,v::u::vs,f,h=>by
  have h0:c.dec v fun x=>zw (d::cs) (u::vs) fun t=>f (x,t):=h
  obtain⟨x,hx,h1⟩:=Kind.dec_sound h0;obtain⟨t,ht,h2⟩:=pK (ks:=d::cs) (vs:=u::vs) h1;exact⟨(x,t),by rw[ht,hx];rfl,h2⟩
theorem qj:∀(ks:List Kind) (t:cT ks),(lM ks t).length=ks.length
 | [],_=>rfl
 | [_],_=>rfl
 |_::l::ks,(_,t)=>by simp only[lM,ap,qj (l::ks) t]
structure Agree(N:Nat)(r:cA)(a:Act):Prop where
 size:a.tmps.size=N
 look:∀t v,jh r t=some v→a.tmps.getD t undef=v
theorem gK(k:Nat)(v:Value)(r:cA):jh ((k,v)::r) k=some v:=by rw[AE,show bE k k=true from Nat.beq_refl k];rfl
theorem fS{k t:Nat}(v:Value)(r:cA)(h:k≠t):jh ((k,v)::r) t=jh r t:=by
 rw[AE];have:bE k t=false:=Bool.eq_false_iff.2 fun e=>h (aP e)
 rw[this];rfl
theorem Agree.put{N:Nat}{r:cA}{a:Act}(h:Agree N r a)(d:Nat)(v:Value)(hd:d<N):Agree N ((d,v)::r) (a.put (some d) v):=by
 refine⟨by simp[Act.put,h.size],fun t u hu=>?_⟩
 by_cases e:d=t
 ·subst e
  rw[gK]at hu;cases hu;simp[Act.put,h.size,hd]
 ·rw[fS v r e]at hu
  have:=h.look t u hu;simpa[Act.put,Array.getElem?_setIfInBounds_ne e]using this
theorem Agree.known{N:Nat}{r:cA}{a:Act}(h:Agree N r a){t:Nat}{v:Value}(hv:jh r t=some v):Agree N ((t,v)::r) a:=by
 refine⟨h.size,fun s u hu=>?_⟩
 by_cases e:t=s
 ·subst e;rw[gK]at hu;cases hu;exact h.look t v hv
 ·rw[fS v r e]at hu;exact h.look s u hu
theorem kw{N:Nat}{r:cA}{a:Act}(h:Agree N r a){o:Operand}{v:Value}(hv:du r o=some v):a.eval o=v:=by
 cases o with
 |tmp t=>exact h.look t v hv
 |const c=>simp[du]at hv;subst hv;rfl
 |global g=>simp[du]at hv;subst hv;rfl
 |func f=>simp[du]at hv;subst hv;rfl
theorem mL{N:Nat}{r:cA}{a:Act}(h:Agree N r a):∀{os:List Operand} {vs:List Value},oF r os=some vs→os.map a.eval=vs
 | [],vs,hv=>by simp[oF]at hv;subst hv;rfl
 |o::os,vs,hv=>by
  simp only[oF]at hv;cases ho:du r o with
  |none=>simp[ho]at hv
  |some v=>cases hos:oF r os with
   |none=>simp[ho,hos]at hv
   |some us=>simp[ho,hos]at hv;subst hv;simp[kw h ho,mL h hos]
theorem ay{P:Program}{t:TypeId}{d:TypeDesc}(h:P.underlying t=some d)(w:World):(underlying t).run P w=.ok d w:=by
 simp only[underlying,program,bind,Sem.bind,Sem.run,h,pure]
theorem cM{P:Program}{t:TypeId}{i:TypeInfo}(h:P.info? t=some i)(w:World):(typeInfo t).run P w=.ok i w:=by
 simp only[typeInfo,program,bind,Sem.bind,Sem.run,h,pure]
theorem hP{P:Program}{s:Sem Value}{v:Value}{w w':World}(h:s.run P w=.ok v w'):(do pure (Next.value (←s)):Sem Next).run P w=.ok (.value v) w':=by
 simp[h]
theorem LS{P:Program}{s:Sem Unit}{w w':World}(h:s.run P w=.ok () w'):(do s;pure Next.skip:Sem Next).run P w=.ok .skip w':=by
 simp[h]
theorem ww{P:Program}{w:World}{a:Addr}{v:Value}(h:aO w.heap a=some v):(load a).run P w=.ok v w:=by
 have h':w.cell? a=some v:=h;simp[h']
theorem w5{v:Value}{vs:List Value}{i:Nat}{a:Addr}{h:ad}:qk (v::vs) i a h↔aO h (adr a i)=some v∧qk vs (i+1) a h:=by
 cases vs with
 |nil=>simp[qk]
 |cons u us=>rfl
theorem p9{P:Program}{w:World}{a:Addr}:∀(vs:List Value) (i:Nat) (acc:Array Value),qk vs i a w.heap→
  (loadCellsFrom a i vs.length acc).run P w=.ok (acc++vs.toArray) w
 | [],i,acc,_=>by simp[loadCellsFrom]
 |v::vs,i,acc,h=>by
  obtain⟨h1,h2⟩:=w5.1 h;rw[qR]at h1;have:=p9 (P:=P) (w:=w) (a:=a) vs (i+1) (acc.push v) h2;simp only[ap,loadCellsFrom,Sem.run_bind,ww h1,Result.andThen_ok,this];simp
theorem Ce{P:Program}{w:World}{a:Addr}{vs:List Value}(h:qk vs 0 a w.heap):(loadCells a vs.length).run P w=.ok vs.toArray w:=by
 have:=p9 (P:=P) (w:=w) (a:=a) vs 0 #[] h;simpa[loadCells]using this
theorem uM:∀(cs:List CK) (i:Nat) (a:Addr) (h:ad) (k:List Value→Prop),Ev cs i a h k→∃vs,vs.length=cs.length∧qk vs i a h∧k vs
 | [],i,a,h,k,hk=>⟨[],rfl,trivial,hk⟩
 |c::cs,i,a,h,k,hk=>by
  obtain⟨x,hx,hk⟩:=hk;obtain⟨vs,hl,hc,hk⟩:=uM cs (i+1) a h _ hk;exact⟨c.enc x::vs,by simp[hl],w5.2 ⟨hx,hc⟩,hk⟩
theorem w4:∀{vs:List Value} {cs:List CK},Bc vs=some cs→cs.length=vs.length
 | [],cs,h=>by simp[Bc]at h;subst h;rfl
 |v::vs,cs,h=>by
  simp only[Bc]at h;cases h1:Po v with
  |none=>simp[h1]at h
  |some c=>cases h2:Bc vs with
   |none=>simp[h1,h2]at h
   |some ds=>simp[h1,h2]at h;subst h;simp[w4 h2]
def MX(P:Program)(t:TypeId)(i:TypeInfo):Kind→Prop
 | .c _=>rX P t=false
 | .agg cs=>rX P t=true∧i.size=cs.length
theorem HM{P:Program}{t:TypeId}{k:Kind}(h:Jn P t=some k):∃i,P.info? t=some i∧MX P t i k:=by
 unfold Jn uC at h;cases hi:P.info? t with
 |none=>simp[hi]at h
 |some i=>
  refine⟨i,rfl,?_⟩;cases hz:i.zero with
  |none=>simp[hi,hz]at h
  |some z=>
   rw[hi]at h;simp only[hz]at h;cases z;case agg vs=>
    simp only at h;cases hb:(rX P t&&bE vs.toList.length (bT P t))with
    |false=>rw[hb]at h;simp at h
    |true=>
     rw[hb]at h;simp only[cond_true]at h;simp only[Bool.and_eq_true]at hb;have hs:=aP hb.2;cases hd:Bc vs.toList with
     |none=>rw[hd]at h;simp at h
     |some ds=>
      rw[hd]at h;simp only[bF.injEq]at h;subst h;exact⟨hb.1,by rw[w4 hd,hs];simp[bT,hi]⟩
   all_goals
    simp only at h;cases ha:rX P t
    ·rw[ha]at h
     simp only[cond_false]at h;split at h
     ·simp only[bF.injEq]at h;subst h;exact ha
     ·simp at h
    ·rw[ha]at h;simp at h
theorem HN{P:Program}{t:TypeId}{k:Kind}(h:AU P t=some k):(∀w,(isAgg t).run P w=.ok (rX P t) w)∧Jn P t=some k:=by
 unfold AU at h;cases hu:P.underlying t with
 |none=>simp[hu]at h
 |some d=>
  simp only[hu]at h;refine⟨fun w=>?_,h⟩
  simp only[isAgg,Sem.run_bind,ay hu,Result.andThen_ok];unfold rX;rw[hu];cases d<;>rfl
theorem yT{P:Program}{t:TypeId}{v:Value}{K:RK}{h:ad}(hl:Fv P t v K h):
  ∃u S,K u (some S)∧S h∧∀w:World,S w.heap→(Instr.loadAt t v).run P w=.ok u w:=by
 unfold Fv at hl;cases v with
 |pointer p=>
  cases p with
  |none=>exact hl.elim
  |some a=>
   simp only at hl;cases hk:AU P t with
   |none=>simp[hk]at hl
   |some k=>
    obtain⟨hagg,hz⟩:=HN hk;obtain⟨i,hi,hc⟩:=HM hz;rw[hk]at hl;cases k with
    |c c=>
     obtain⟨x,hx,hK⟩:=hl;refine⟨_,_,hK,hx,fun w hw=>?_⟩
     have hc:rX P t=false:=hc;simp only[Instr.loadAt,Instr.sureAddr,loadVar,Sem.run_bind,Sem.run_pure,Result.andThen_ok,hagg,hc];simp[ww hw]
    |agg cs=>
     obtain⟨vs,hlen,hcs,hK⟩:=uM cs 0 a h _ hl;obtain⟨h1,h2⟩:rX P t=true∧i.size=cs.length:=hc;refine⟨_,_,hK,hcs,fun w hw=>?_⟩
     have hz:(sizeOf t).run P w=.ok vs.length w:=by simp[sizeOf,cM hi,h2,hlen]
     simp only[Instr.loadAt,Instr.sureAddr,loadVar,Sem.run_bind,Sem.run_pure,Result.andThen_ok,hagg,h1];simp[hz,Ce hw]
 |_=>exact hl.elim
end Go.Lift
