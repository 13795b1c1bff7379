/- A part of the proof that the named laws of this program answer true, whatever the input. -/
import Derived.OrdersIn
import Derived.Below
import Derived.WalkKit
import Derived.RangeFuncRecord
import Derived.DefersIn
open BitVec renaming ofInt→ae
open Iff renaming rfl→xu
open List renaming rec→eF,replicate→eE,length_cons→aX
open Nat renaming succ→eV,beq→aW,ble→xt,min→cX,blt→xr,land→iL,lor→ci,pred→xf,eq_of_beq_eq_true→aG
open Option renaming some→bD
namespace Go.Lift
abbrev ac:=Array Obj
def aB(h:ac)(a:Addr):Option Value:=
 match h[a.block]? with
 |some (.cells c _ _)=>if a.spot.isSome then none else c[a.off]?
 |_=>none
def CT(h:ac)(a:Addr):Bool:=
 match h[a.block]? with
 |some (.cells _ _ (lo,hi))=>lo≤a.off&&a.off<hi
 |_=>false
def hset(h:ac)(a:Addr)(v:Value):ac:=
 h.modify a.block fun
  | .cells c elem frozen=>.cells (if a.spot.isSome then c else c.setIfInBounds a.off v) elem frozen
  |o=>o
noncomputable def adr(a:Addr)(n:Nat):Addr:=Nat.rec (motive:=fun _=>Addr) a (fun n _=>⟨a.block,a.off+eV n,none⟩) n
def Wr(h:ac)(a:Addr):Prop:=(∃v,aB h a=some v)∧CT h a=false
structure Tame(w w':World):Prop where
 os:w'.os=w.os
 tape:w'.tape=w.tape
 output:w'.output=w.output
structure SliceV where
 a:Option Addr
 len:Nat
 cap:Nat
def F8:IntKind→IntKind→Bool
 | .i8,.i8=>true| .i16,.i16=>true| .i32,.i32=>true| .i64,.i64=>true
 | .u8,.u8=>true| .u16,.u16=>true| .u32,.u32=>true| .u64,.u64=>true
 |_,_=>false
inductive CK where
 |int (k:IntKind)|bool|str|ptr|slice|map|chan|raw|adr
def CK.den:CK→Type
 | .int _=>Int| .bool=>Bool| .str=>ByteArray| .ptr=>Option Addr| .slice=>SliceV| .map=>Option Nat| .chan=>Option Nat| .raw=>Value| .adr=>Addr
def CK.enc:(c:CK)→c.den→Value
 | .int k,n=>.int k n
 | .bool,b=>.bool b
 | .str,s=>.string s
 | .ptr,p=>.pointer p
 | .slice,s=>.slice s.a s.len s.cap
 | .map,r=>.map r
 | .chan,r=>.chan r
 | .raw,v=>v
 | .adr,a=>.pointer (some a)
def CK.dec:(c:CK)→Value→(c.den→Prop)→Prop
 | .int k,.int k' n,f=>bif F8 k' k then f n else False
 | .bool,.bool b,f=>f b
 | .str,.string s,f=>f s
 | .ptr,.pointer p,f=>f p
 | .slice,.slice a l c,f=>f ⟨a,l,c⟩
 | .map,.map r,f=>f r
 | .chan,.chan r,f=>f r
 | .raw,v,f=>f v
 | .adr,.pointer (some a),f=>f a
 |_,_,_=>False
def N0:List CK→Type
 | []=>Unit
 | [c]=>c.den
 |c::d::cs=>c.den×N0 (d::cs)
def NK:(cs:List CK)→N0 cs→List Value
 | [],_=> []
 | [c],x=> [c.enc x]
 |c::d::cs,(x,t)=>c.enc x::NK (d::cs) t
def KA:(cs:List CK)→List Value→(N0 cs→Prop)→Prop
 | [],[],f=>f ()
 | [c],[v],f=>c.dec v f
 |c::d::cs,v::u::vs,f=>c.dec v fun x=>KA (d::cs) (u::vs) fun t=>f (x,t)
 |_,_,_=>False
inductive Kind where
 |c (k:CK)
 |agg (cs:List CK)
def Kind.den:Kind→Type
 | .c k=>k.den
 | .agg cs=>N0 cs
def Kind.enc:(k:Kind)→k.den→Value
 | .c k,x=>k.enc x
 | .agg cs,t=>.agg (NK cs t).toArray
def Kind.dec:(k:Kind)→Value→(k.den→Prop)→Prop
 | .c k,v,f=>k.dec v f
 | .agg cs,.agg vs,f=>KA cs vs.toList f
 |_,_,_=>False
def un:List Kind→Type
 | []=>Unit
 | [k]=>k.den
 |k::l::ks=>k.den×un (l::ks)
def l4:(ks:List Kind)→un ks→List Value
 | [],_=> []
 | [k],x=> [k.enc x]
 |k::l::ks,(x,t)=>k.enc x::l4 (l::ks) t
def Cy:(ks:List Kind)→List Value→(un ks→Prop)→Prop
 | [],[],f=>f ()
 | [k],[v],f=>k.dec v f
 |k::l::ks,v::u::vs,f=>k.dec v fun x=>Cy (l::ks) (u::vs) fun t=>f (x,t)
 |_,_,_=>False
def Cs(ks:List Kind)(vs:List Value):Value:=
 match ks,vs with
 | [_],[v]=>v
 |_,vs=>.tuple vs.toArray
def Qs:Value→Option CK
 | .int k _=>some (.int k)
 | .bool _=>some .bool
 | .string _=>some .str
 | .pointer _=>some .ptr
 | .slice .. =>some .slice
 | .map _=>some .map
 | .chan _=>some .chan
 | .nilFunc=>some .raw
 | .nilIface=>some .raw
 |_=>none
def DU:List Value→Option (List CK)
 | []=>some []
 |v::vs=>match Qs v,DU vs with
  |some c,some cs=>some (c::cs)
  |_,_=>none
def vj(P:Program)(t:TypeId):Bool:=
 match P.underlying t with
 |some (.struct _)|some (.array _ _)=>true
 |_=>false
def bq(P:Program)(t:TypeId):Nat:=match P.info? t with|some i=>i.size|none=>0
def qt(P:Program)(t:TypeId):Nat:=match P.info? t with|some i=>i.bytes|none=>0
def xP(P:Program)(t:TypeId):Option Value:=match P.info? t with|some i=>i.zero|none=>none
def Kk(P:Program)(t:TypeId):Option Kind:=
 match xP P t with
 |some (.agg vs)=>bif vj P t&&aW vs.toList.length (bq P t)then(match DU vs.toList with|some cs=>some (.agg cs)|none=>none)else none
 |some v=>bif vj P t then none else(match Qs v with|some c=>some (.c c)|none=>none)
 |none=>none
def Dw(P:Program)(t:TypeId):Option Kind:=
 match P.underlying t with
 |none=>none
 |some _=>Kk P t
structure HC(P:Program)(f:FuncId)(args:List Value)(ks:List Kind)(K:un ks→ac→Prop)(h:ac):Prop where
 run:∀w:World,w.heap=h→
  ((callFunc f args.toArray).run P w=.ok (.enter f args.toArray) w∧
   Calls P f args.toArray w fun e w'=>Tame w w'∧∃t:un ks,e=.returned (Cs ks (l4 ks t))∧K t w'.heap)∨
  (∃v w',(callFunc f args.toArray).run P w=.ok (.value v) w'∧Tame w w'∧∃t:un ks,v=Cs ks (l4 ks t)∧K t w'.heap)
structure HE(P:Program)(f:FuncId)(args:List Value)(ks:List Kind)(K:un ks→ac→Prop)(h:ac):Prop where
 run:∀w:World,w.heap=h→(∀(args:Array Value) (w:World),(callFunc f args).run P w=.ok (.enter f args) w)∧
  Calls P f args.toArray w fun e w'=>Tame w w'∧∃t:un ks,e=.returned (Cs ks (l4 ks t))∧K t w'.heap
theorem HE.hc{P:Program}{f:FuncId}{args:List Value}{ks:List Kind}{K:un ks→ac→Prop}{h:ac}(e:HE P f args ks K h):HC P f args ks K h:=
 ⟨fun w b=>.inl ⟨(e.run w b).1 _ w,(e.run w b).2⟩⟩
structure HY(P:Program)(l:Nat)(args:List Value)(K:Bool→ac→Prop)(h:ac):Prop where
 run:∀w:World,w.heap=h→∃fn tmps assign body,(Instr.yield l args.toArray).run P w=.ok (.round l fn tmps assign body) w∧
  ∀(c:Frame) (cs:List Frame),∃b w',Tame w w'∧K b w'.heap∧Steps P (lone (Frame.round l fn tmps assign body .normal) (c::cs) w) (lone (c.finish (.bool b)) cs w')
structure HV(P:Program)(fv:Value)(args:List Value)(ks:List Kind)(K:un ks→ac→Prop)(h:ac):Prop where
 run:(∃f first cap,fv=.func (.func f) first cap∧HC P f (first.toList++args++cap.toList) ks K h)∨
  (∃l,fv=.func (.yield l) #[] #[]∧HY P l args (fun b h'=>Cy ks [.bool b] fun t=>K t h') h)
noncomputable def CondP(b:Bool)(t e:Prop):Prop:=Bool.rec (motive:=fun _=>Prop) e t b
theorem CondP.yes{b:Bool}{t e:Prop}(h:CondP b t e)(c:b=true):t:=by subst c;exact h
theorem CondP.no{b:Bool}{t e:Prop}(h:CondP b t e)(c:b=false):e:=by subst c;exact h
theorem CondP.intro{b:Bool}{t e:Prop}(d:b=true→t)(c:b=false→e):CondP b t e:=by cases b;exact c rfl;exact d rfl
theorem aK{t e:Prop}:CondP true t e↔t:=xu
theorem aq{t e:Prop}:CondP false t e↔e:=xu
attribute [irreducible] CondP
def At(h:ac)(k:ac→Prop):Prop:=k h
def Bd{T:Type}(x:T)(k:T→Prop):Prop:=k x
structure Join{T:Type}(rest:T→ac→Prop)(k:(T→ac→Prop)→Prop):Prop where
 run:k rest
structure LoopP{T:Type}(F:(T→ac→Prop)→T→ac→Prop)(t:T)(h:ac):Prop where
 run:∀I:T→ac→Prop,(∀t h,F I t h→I t h)→I t h
abbrev bP:=List (Nat×Value)
noncomputable def jr(r:bP)(t:Nat):Option Value:=
 eF (motive:=fun _=>Option Value) none (fun b _ c=>bif aW b.1 t then some b.2 else c) r
theorem Dk(k:Nat)(v:Value)(r:bP)(t:Nat):jr ((k,v)::r) t=bif aW k t then some v else jr r t:=rfl
noncomputable def cC(r:bP):Operand→Option Value
 | .tmp t=>jr r t
 | .const v=>some v
 | .global g=>some (.pointer (some ⟨g,0,none⟩))
 | .func f=>some (.func (.func f) #[] #[])
noncomputable def mV(r:bP):List Operand→Option (List Value)
 | []=>some []
 |o::os=>match cC r o,mV r os with
  |some v,some vs=>some (v::vs)
  |_,_=>none
noncomputable def Gd:List CK→Nat→Addr→ac→(List Value→Prop)→Prop
 | [],_,_,_,k=>k []
 |c::cs,i,a,h,k=>∃x:c.den,aB h (adr a i)=some (c.enc x)∧Gd cs (i+1) a h fun vs=>k (c.enc x::vs)
noncomputable def tl:List Value→Nat→Addr→ac→Prop
 | [],_,_,_=>True
 | [v],i,a,h=>aB h (adr a i)=some v
 |v::u::vs,i,a,h=>aB h (adr a i)=some v∧tl (u::vs) (i+1) a h
abbrev RK:=Value→Option (ac→Prop)→Prop
noncomputable def G7(P:Program)(t:TypeId)(v:Value)(K:RK)(h:ac):Prop:=
 match v with
 | .pointer (some a)=>
  match Dw P t with
  |some (.c c)=>∃x:c.den,aB h a=some (c.enc x)∧K (c.enc x) (some fun h'=>aB h' a=some (c.enc x))
  |some (.agg cs)=>Gd cs 0 a h fun vs=>K (.agg vs.toArray) (some fun h'=>tl vs 0 a h')
  |none=>False
 |_=>False
def ws(P:Program)(t:TypeId)(f:Nat):Option (TypeId×Nat):=
 match P.underlying t with
 |some (.struct fs)=>match fs.toList[f]? with
  |some g=>some (g.type,g.offset)
  |none=>none
 |_=>none
def vt(P:Program)(t:TypeId):Option TypeId:=
 match P.underlying t with
 |some (.slice e)=>some e
 |_=>none
def It(c:BinOp)(k:IntKind)(a b:Int)(K:RK):Prop:=
 match c with
 | .shl=>0≤b∧K (.int k (k.wrap (a*2^(min b.toNat k.bits)))) none
 | .shr=>0≤b∧K (.int k (a.fdiv (2^(min b.toNat k.bits)))) none
 |_=>False
def P7(c:BinOp)(k:IntKind)(a b:Int)(K:RK):Prop:=
 match c with
 | .add=>K (.int k (k.wrap (a+b))) none
 | .sub=>K (.int k (k.wrap (a-b))) none
 | .mul=>K (.int k (k.wrap (a*b))) none
 | .quo=>b≠0∧K (.int k (k.wrap (a.tdiv b))) none
 | .rem=>b≠0∧K (.int k (a.tmod b)) none
 | .and=>K (.int k (k.wrap (ae k.bits a&&&ae k.bits b).toNat)) none
 | .or=>K (.int k (k.wrap (ae k.bits a|||ae k.bits b).toNat)) none
 | .xor=>K (.int k (k.wrap (ae k.bits a^^^ae k.bits b).toNat)) none
 | .andNot=>K (.int k (k.wrap (ae k.bits a&&& ~~~ae k.bits b).toNat)) none
 | .eql=>K (.bool (a==b)) none
 | .neq=>K (.bool (a !=b)) none
 | .lss=>K (.bool (decide (a<b))) none
 | .leq=>K (.bool (decide (a≤b))) none
 | .gtr=>K (.bool (decide (a>b))) none
 | .geq=>K (.bool (decide (a≥b))) none
 |_=>False
def PL(c:BinOp)(a b:ByteArray)(K:RK):Prop:=
 match c with
 | .add=>((a.size+b.size:Nat):Int)≤9223372036854775807∧K (.string (a++b)) none
 | .eql=>K (.bool (a.toList==b.toList)) none
 | .neq=>K (.bool (!(a.toList==b.toList))) none
 | .lss=>K (.bool (Op.bytesLess a.toList b.toList)) none
 | .leq=>K (.bool (Op.bytesLess a.toList b.toList||a.toList==b.toList)) none
 | .gtr=>K (.bool (!(Op.bytesLess a.toList b.toList||a.toList==b.toList))) none
 | .geq=>K (.bool (!(Op.bytesLess a.toList b.toList))) none
 |_=>False
def fK(h:ac)(a:Addr):Prop:=(∃c e,h[a.block]? =some (.cells c e (0,0))∧0<c.size)
def P6:Value→Bool
 | .func _ _ _=>true
 | .nilFunc=>true
 |_=>false
def PZ:Value→Bool
 | .nilFunc=>true
 |_=>false
def OH(P:Program)(t:TypeId)(neg:Bool)(x y:Value)(K:RK):Prop:=
 match P.underlying t,x,y with
 |some (.pointer _),.pointer a,.pointer none=>K (.bool (bif neg then !a.isNone else a.isNone)) none
 |some (.map _ _),.map a,.map none=>K (.bool (bif neg then !a.isNone else a.isNone)) none
 |some (.slice _),.slice a _ _,.slice none _ _=>K (.bool (bif neg then !a.isNone else a.isNone)) none
 |some (.func _ _ _),x,.nilFunc=>P6 x=true∧K (.bool (bif neg then !(PZ x)else PZ x)) none
 |_,_,_=>False
def P5:Operand→Bool
 | .const (.pointer none)=>true
 | .const (.map none)=>true
 | .const (.slice none 0 0)=>true
 | .const .nilFunc=>true
 |_=>false
def Py(P:Program)(t:TypeId)(neg:Bool)(x y:Value)(K:RK)(h:ac):Prop:=
 match P.underlying t,x,y with
 |some .bool,.bool a,.bool b=>K (.bool (bif neg then !(a==b)else a==b)) none
 |some (.pointer e),.pointer a,.pointer b=>
  (bif aW (bq P e) 0 then False else True)∧
  (∀x y,a=some x→b=some y→fK h x∧fK h y)∧
  K (.bool (bif neg then !(a==b)else a==b)) (some fun h'=>∀x y,a=some x→b=some y→fK h' x∧fK h' y)
 |_,_,_=>False
def Ox(P:Program)(c:BinOp)(t:TypeId)(x y:Value)(K:RK)(h:ac):Prop:=
 match x,y with
 | .int k a,.int k' b=>
  match c with
  | .shl=>It .shl k a b K
  | .shr=>It .shr k a b K
  |c=>bif F8 k' k then P7 c k a b K else False
 | .string a,.string b=>PL c a b K
 |x,y=>match c with
  | .eql=>Py P t false x y K h
  | .neq=>Py P t true x y K h
  |_=>False
def rK(h:ac):List (Option Addr×Option Addr)→Prop
 | []=>True
 |(a,b)::l=>(∀x y,a=some x→b=some y→fK h x∧fK h y)∧rK h l
def Ng(P:Program)(t:TypeId)(x y:Value):Option (Bool×List (Option Addr×Option Addr)):=
 match P.underlying t,x,y with
 |some (.int _),.int k a,.int k' b=>bif F8 k' k then some (a==b,[])else none
 |some .bool,.bool a,.bool b=>some (a==b,[])
 |some .string,.string a,.string b=>some (a.toList==b.toList,[])
 |some (.pointer e),.pointer a,.pointer b=>bif aW (bq P e) 0 then none else some (a==b,[(a,b)])
 |_,_,_=>none
def O1(P:Program)(rec:TypeId→List Value→List Value→Option (Bool×List (Option Addr×Option Addr)))(xs ys:List Value):List Field→Option (Bool×List (Option Addr×Option Addr))
 | []=>some (true,[])
 |f::fs=>
  if f.name= "_" then none else
  bif (P.underlying f.type).isSome&&(P.info? f.type).isSome then
   match(bif vj P f.type then rec f.type ((xs.drop f.offset).take (bq P f.type)) ((ys.drop f.offset).take (bq P f.type))
    else match xs[f.offset]?,ys[f.offset]? with|some x,some y=>Ng P f.type x y|_,_=>none),O1 P rec xs ys fs with
   |some (b,l),some (c,m)=>some (b&&c,l++m)
   |_,_=>none
  else none
def Nh(P:Program):Nat→TypeId→List Value→List Value→Option (Bool×List (Option Addr×Option Addr))
 |0,_,_,_=>none
 |d+1,t,xs,ys=>match P.underlying t with
  |some (.struct fs)=>bif P.stoodInHeld t then none else O1 P (Nh P d) xs ys fs.toList
  |_=>none
def R0(neg b:Bool)(K:RK)(h:ac):List (Option Addr×Option Addr)→Prop
 | []=>K (.bool (bif neg then !b else b)) none
 |p::l=>rK h (p::l)∧K (.bool (bif neg then !b else b)) (some fun h'=>rK h' (p::l))
def PT(P:Program)(c:BinOp)(t:TypeId)(xs ys:List Value)(K:RK)(h:ac):Prop:=
 bif P.eqGuardType P.depth t then False else
 match c with
 | .eql=>(match Nh P 10 t xs ys with|some (b,l)=>R0 false b K h l|none=>False)
 | .neq=>(match Nh P 10 t xs ys with|some (b,l)=>R0 true b K h l|none=>False)
 |_=>False
def RL(c:UnOp)(x:Value)(K:RK):Prop:=
 match c,x with
 | .neg,.int k n=>K (.int k (k.wrap (0-n))) none
 | .xor,.int k n=>K (.int k (k.wrap (ae k.bits (if k.signed then-1 else k.max)^^^ae k.bits n).toNat)) none
 | .not,.bool b=>K (.bool (!b)) none
 |_,_=>False
def de(s:ByteArray):List Value:=s.data.toList.map fun b=>.int .u8 b.toNat
noncomputable def Row(h:ac)(a:Addr)(vs:List Value):Prop:=∀i v,vs[i]? =some v→aB h (adr a i)=some v
noncomputable def SRow(h:ac)(a:Option Addr)(n:Nat)(vs:List Value):Prop:=vs.length=n∧(vs= []∨∃b,a=some b∧Row h b vs)
def Jb(P:Program)(e:TypeId):Bool:=match P.underlying e with|some (.int .u8)=>true|_=>false
def P4(P:Program)(s d:TypeId):Bool:=
 match P.underlying s,P.underlying d with
 |some .string,some (.slice e)=>Jb P e
 |_,_=>false
def ByP(e:TypeId)(s:ByteArray)(h:ac)(K:Nat→ac→Prop):Prop:=
 ∀c,s.size≤c→K c (h.push (.cells (de s++eE (c-s.size) (Value.int .u8 0)).toArray e (c,c+1)))
noncomputable def MB(P:Program)(c b:TypeId)(x:Value)(K:RK)(h:ac):Prop:=
 match P.underlying c,P.underlying b,x with
 |some (.int _),some (.int k),.int _ n=>K (.int k (k.wrap n)) none
 |some .string,some .string,.string s=>K (.string s) none
 |some (.slice e),some .string,.slice a n _=>bif Jb P e then∃s:ByteArray,SRow h a n (de s)∧K (.string s) (some fun h'=>SRow h' a n (de s))else False
 |_,_,_=>False
def NO(v:Option Value)(d y:Nat)(K:Nat→Prop):Prop:=
 match v with
 |none=>K d
 |some (.int _ i)=>(0≤i∧i≤y)∧K i.toNat
 |_=>False
noncomputable def aS(a:Option Addr)(l m size:Nat):Option Addr:=if m=l then a else a.map (adr · (l*size))
def MK(P:Program)(t:TypeId)(K:Prop):Prop:=match P.info? t with|some _=>K|none=>False
noncomputable def IG(P:Program)(t:TypeId)(x:Value)(lo b c:Option Value)(K:RK):Prop:=
 match P.underlying t,x with
 |some .string,.string s=>match c with
  |some _=>False
  |none=>NO b s.size s.size fun h=>NO lo 0 h fun l=>K (.string (s.extract l h)) none
 |some (.slice e),.slice a len cap=>MK P e (
  match c with
  |none=>NO b len cap fun h=>NO lo 0 h fun l=>K (.slice (aS a l cap (bq P e)) (h-l) (cap-l)) none
  |some m=>match b with
   |none=>False
   |some b=>NO (some m) 0 cap fun m=>NO (some b) 0 m fun h=>NO lo 0 h fun l=>K (.slice (aS a l m (bq P e)) (h-l) (m-l)) none)
 |some (.array n e),.pointer (some a)=>MK P e (
  match c with
  |none=>NO b n n fun h=>NO lo 0 h fun l=>K (.slice (aS (some a) l n (bq P e)) (h-l) (n-l)) none
  |some _=>False)
 |_,_=>False
noncomputable def E3(r:bP):Option Operand→Option (Option Value)
 |none=>some none
 |some o=>match cC r o with
  |some v=>some (some v)
  |none=>none
noncomputable def yw(P:Program)(t:TypeId)(x i:Value)(K:RK):Prop:=
 match P.underlying t,x,i with
 |some (.array n e),.pointer (some a),.int _ i=>MK P e ((0≤i∧i<n)∧K (.pointer (some (adr a (i.toNat*bq P e)))) none)
 |some (.slice e),.slice b len _,.int _ i=>MK P e ((0≤i∧i<len)∧∃a,b=some a∧K (.pointer (some (adr a (i.toNat*bq P e)))) none)
 |_,_,_=>False
def II(P:Program)(t:TypeId)(x i:Value)(K:RK):Prop:=
 match P.underlying t,x,i with
 |some .string,.string s,.int _ i=>∃b:UInt8,0≤i∧s[i.toNat]? =some b∧K (.int .u8 b.toNat) none
 |_,_,_=>False
noncomputable def IJ(P:Program)(t:TypeId)(x:Value)(f:Nat)(K:RK):Prop:=
 match ws P t f,x with
 |some (u,off),.agg cs=>bif (P.underlying u).isSome&&(P.info? u).isSome then(bif vj P u then K (.agg ((cs.toList.drop off).take (bq P u)).toArray) none
  else(match cs.toList[off]? with|some v=>K v none|none=>False))else False
 |_,_=>False
def Pq(c a b:Value)(K:RK):Prop:=
 match c with
 | .bool c=>(match a,b with
  | .bool x,.bool y=>K (.bool (bif c then x else y)) none
  |_,_=>(match c with|true=>K a none|false=>K b none))
 |_=>False
def fg:Value→Value→Bool
 | .int _ a,.int _ b=>a==b
 | .string a,.string b=>a==b
 | .bool a,.bool b=>a==b
 |_,_=>false
def DF(k:Value):List MapEntry→Option Value
 | []=>none
 |e::es=>if fg k e.key then some e.val else DF k es
def keysOf(c:CK)(es:List MapEntry):Prop:=∀e∈es,∃x:c.den,e.key=c.enc x
def qu(c:CK)(z:Value)(h:ac)(m:Option Nat)(k v:Value)(b:Bool):Prop:=
 match m with
 |none=>v=z∧b=false
 |some r=>∃es clock,h[r]? =some (.map es clock)∧keysOf c es.toList∧
  (match DF k es.toList with|some u=>v=u∧b=true|none=>v=z∧b=false)
def Hp(P:Program)(t:TypeId):Option (CK×TypeId):=
 match P.underlying t with
 |some (.map k e)=>match P.underlying k with
  |some (.int i)=>some (.int i,e)
  |some .string=>some (.str,e)
  |some .bool=>some (.bool,e)
  |_=>none
 |_=>none
def FK(P:Program)(t:TypeId)(x k:Value)(d:Bool)(K:RK)(h:ac):Prop:=
 match Hp P t,x with
 |some (c,e),.map m=>c.dec k fun _=>
  (match Dw P e,xP P e with
   |some ek,some z=>∃(y:ek.den) (b:Bool),qu c z h m k (ek.enc y) b∧
    K (bif d then .tuple #[ek.enc y,.bool b]else ek.enc y) (some fun h'=>qu c z h' m k (ek.enc y) b)
   |_,_=>False)
 |_,_=>False
def wM(h:ac)(m:Option Nat)(n:Nat):Prop:=
 match m with
 |none=>n=0
 |some r=>∃es clock,h[r]? =some (.map es clock)∧n=es.size
def KF(c:Bool)(h:ac)(m:Option Nat)(n:Nat):Prop:=
 match m with
 |none=>n=0
 |some r=>∃cap buf cl s q,h[r]? =some (.chan cap buf cl s q false)∧n=bif c then cap else buf.size
def PR(P:Program)(t:TypeId)(x:Value)(K:RK)(h:ac):Prop:=
 match P.underlying t,x with
 |some .string,.string s=>K (.int .i64 s.size) none
 |some (.array n _),_=>K (.int .i64 n) none
 |some (.slice _),.slice _ n _=>K (.int .i64 n) none
 |some (.map _ _),.map m=>∃n:Nat,wM h m n∧K (.int .i64 n) (some fun h'=>wM h' m n)
 |some (.chan _ _),.chan m=>∃n:Nat,KF false h m n∧K (.int .i64 n) (some fun h'=>KF false h' m n)
 |_,_=>False
def PS(P:Program)(t:TypeId)(x:Value)(K:RK)(h:ac):Prop:=
 match P.underlying t,x with
 |some (.slice _),.slice _ _ n=>K (.int .i64 n) none
 |some (.chan _ _),.chan m=>∃n:Nat,KF true h m n∧K (.int .i64 n) (some fun h'=>KF true h' m n)
 |_,_=>False
def F0(c:Bool)(k:IntKind):Int→List Value→(Value→Prop)→Prop
 |a,[],f=>f (.int k a)
 |a,.int k' b::vs,f=>bif F8 k' k then F0 c k (bif c then(if b>a then b else a)else(if b<a then b else a)) vs f else False
 |_,_,_=>False
def CO(b:Bool)(vs:List Value)(f:Value→Prop):Prop:=
 match vs with
 | .int k a::vs=>F0 b k a vs f
 |_=>False
def wN(h:ac)(i:Nat)(e:MapEntry):Prop:=
 ∃m since seen last stamp es,h[i]? =some (.mapIter (some m) since seen last)∧seen.back? =some stamp∧h[m]? =some (.map es last)∧es.find? (fun e=>e.born==stamp)=some e
def pN(P:Program)(t:TypeId):Bool:=match P.underlying t with|some (.interface _)=>false|some _=>true|none=>false
def Kb(P:Program)(t:TypeId)(x:Value)(K:RK):Prop:=
 bif pN P t then(match Dw P t with
  |some k=>∃y:k.den,x=.iface t (k.enc y)∧K (k.enc y) none
  |none=>False)else False
def Hb(cs:List Value)(off:Nat)(vs:List Value):List Value:=cs.take off++vs++cs.drop (off+vs.length)
def B5(b:Nat→Option (Nat×Nat)):List Value→List (Nat×Value)→Option (List Value)
 |cs,[]=>some cs
 |cs,(i,v)::rest=>match b i with
  |none=>none
  |some (off,size)=>bif aW v.cells.toList.length size&&xt (off+v.cells.toList.length) cs.length then B5 b (Hb cs off v.cells.toList) rest else none
noncomputable def pM(r:bP):List (Nat×Operand)→Option (List (Nat×Value))
 | []=>some []
 |(i,o)::ps=>match cC r o,pM r ps with
  |some v,some vs=>some ((i,v)::vs)
  |_,_=>none
def qn(P:Program)(t:TypeId):Option (List Value):=match xP P t with|some z=>some z.cells.toList|none=>none
def cS(n:Nat)(z:List Value):List Value:=(eE n z).flatten
def xn(P:Program)(t:TypeId):Bool:=match P.info? t with|some _=>true|none=>false
def zV(P:Program):List Field→Bool
 | []=>true
 |f::fs=>bif xn P f.type then zV P fs else false
def IS(P:Program)(b:List Field)(i:Nat):Option (Nat×Nat):=match b[i]? with|some f=>some (f.offset,bq P f.type)|none=>none
def Gk(P:Program)(t:TypeId)(b:List (Nat×Value)):Option (List Value):=
 match P.underlying t,qn P t with
 |some (.struct fs),some z=>bif zV P fs.toList then B5 (IS P fs.toList) z b else none
 |some (.array _ e),some z=>bif xn P e then B5 (fun i=>some (i*bq P e,bq P e)) z b else none
 |_,_=>none
noncomputable def AG(P:Program)(ek:Option (Kind×Kind))(o:Op)(r:bP)(K:RK)(h:ac):Prop:=
 match o with
 | .entry it=>match cC r it,ek with
  |some (.pointer (some a)),some (kk,vk)=>a.off=0∧∃(e:MapEntry) (x:kk.den) (y:vk.den),wN h a.block e∧e.key=kk.enc x∧e.val=vk.enc y∧
    K (.tuple #[kk.enc x,vk.enc y]) (some fun h'=>wN h' a.block e)
  |_,_=>False
 | .move x| .assign x=>match cC r x with|some v=>K v none|none=>False
 | .load t a=>match cC r a with|some v=>G7 P t v K h|none=>False
 | .nilCheck x=>match cC r x with|some (.pointer p)=>∃a,p=some a∧K (.pointer (some a)) none|_=>False
 | .binOp op t x y _=>match P5 y,cC r x,cC r y with
  |true,some v,some u=>(match op with
   | .eql=>OH P t false v u K
   | .neq=>OH P t true v u K
   |op=>Ox P op t v u K h)
  |false,some (.agg v),some (.agg u)=>PT P op t v.toList u.toList K h
  |false,some v,some u=>Ox P op t v u K h
  |_,_,_=>False
 | .unOp op _ x=>match cC r x with|some v=>RL op v K|none=>False
 | .convert s d x=>match cC r x with|some v=>MB P s d v K h|none=>False
 | .pick c a b=>match cC r c,cC r a,cC r b with|some c,some a,some b=>Pq c a b K|_,_,_=>False
 | .extract x i=>match cC r x with
  |some (.tuple vs)=>(match vs.toList[i]? with|some v=>K v none|none=>False)
  |_=>False
 | .fieldAddr t x f=>match cC r x,ws P t f with
  |some (.pointer (some a)),some (u,off)=>bif aW (bq P u) 0 then False else K (.pointer (some (adr a off))) none
  |_,_=>False
 | .field t x f=>match cC r x with|some v=>IJ P t v f K|none=>False
 | .indexAddr t x i=>match cC r x,cC r i with|some v,some u=>yw P t v u K|_,_=>False
 | .index t x i=>match cC r x,cC r i with|some v,some u=>II P t v u K|_,_=>False
 | .slice t x lo hi mx=>match cC r x,E3 r lo,E3 r hi,E3 r mx with
  |some v,some l,some h',some m=>IG P t v l h' m K
  |_,_,_,_=>False
 | .lookup t x k ok=>match cC r x,cC r k with|some v,some u=>FK P t v u ok K h|_,_=>False
 | .makeInterface t x=>match cC r x with|some v=>bif pN P t then K (.iface t v) none else False|none=>False
 | .typeAssert x _ t ok=>match cC r x with|some v=>bif ok then False else Kb P t v K|none=>False
 | .build t ps=>match pM r ps.toList with
  |some vs=>(match Gk P t vs with|some cs=>K (.agg cs.toArray) none|none=>False)
  |none=>False
 | .makeFunc fn first cap=>match mV r first.toList,mV r cap.toList with
  |some vs,some us=>K (.func fn vs.toArray us.toArray) none
  |_,_=>False
 | .call c=>match c.callee,mV r c.args.toList,c.argTypes.toList with
  | .builtin .len,some [v],[t]=>PR P t v K h
  | .builtin .cap,some [v],[t]=>PS P t v K h
  | .builtin .min,some vs,_=>CO false vs fun v=>K v none
  | .builtin .max,some vs,_=>CO true vs fun v=>K v none
  |_,_,_=>False
 |_=>False
abbrev WK:=Value→ac→Prop
def aV(h:ac):Addr:=⟨h.size,0,none⟩
def hnew(h:ac)(cs:List Value)(t:TypeId):ac:=h.push (.cells cs.toArray t (0,0))
def bL:List Value→Bool
 | []=>true
 |v::vs=>(match v with| .agg _=>false| .tuple _=>false|_=>true)&&bL vs
noncomputable def ii(h:ac)(a:Addr):Nat→List Value→ac
 |_,[]=>h
 |i,v::vs=>ii (hset h (adr a i) v) a (i+1) vs
noncomputable def eM(h:ac)(a:Option Addr)(i:Nat)(vs:List Value):ac:=match a with|some a=>ii h a i vs|none=>h
noncomputable def uf(h:ac)(a:Option Addr)(i:Nat)(vs:List Value):Prop:=vs= []∨∃b,a=some b∧∀j,j<vs.length→Wr h (adr b (i+j))
noncomputable def Ic(P:Program)(t:TypeId)(a v:Value)(K:WK)(h:ac):Prop:=
 match a with
 | .pointer (some a)=>bif aW v.cells.toList.length (bq P t)&&bL v.cells.toList then MK P t
   (match v.cells.toList with
    | [v]=>Wr h a∧K undef (hset h a v)
    |vs=>uf h (some a) 0 vs∧K undef (ii h a 0 vs))
  else False
 |_=>False
noncomputable def NT(P:Program)(e:TypeId)(b:Option Addr)(sl d c:Nat)(xs:List Value)(K:WK)(h:ac):Prop:=
 (sl+c≤d→uf h b (sl*bq P e) xs∧bL xs=true∧K (.slice b (sl+c) d) (eM h b (sl*bq P e) xs))∧
 (d<sl+c→∃old z,SRow h b (sl*bq P e) old∧qn P e=some z∧0<qt P e∧Builtin.nextslicecap (sl+c) d*qt P e≤2^48∧
  ∀nc,sl+c≤nc→K (.slice (some (aV h)) (sl+c) nc) (hnew h (old++xs++cS (nc-(sl+c)) z) e))
noncomputable def CJ(P:Program)(t:TypeId)(s x:Value)(K:WK)(h:ac):Prop:=
 match vt P t,s,x with
 |some e,.slice b sl sc,.slice a xl _=>MK P e (∃xs,SRow h a (xl*bq P e) xs∧NT P e b sl sc xl xs K h)
 |some e,.slice b sl sc,.string x=>bif aW (bq P e) 1 then NT P e b sl sc x.size (de x) K h else False
 |_,_,_=>False
noncomputable def C3(P:Program)(t:TypeId)(s x:Value)(K:WK)(h:ac):Prop:=
 match vt P t,s,x with
 |some e,.slice b sl sc,.int _ l=>(match qn P e with
  |some z=>bif aW z.length (bq P e)then(0≤l∧l*qt P e≤2^48∧l≤9223372036854775807∧((sl+l.toNat:Nat):Int)≤9223372036854775807)∧NT P e b sl sc l.toNat (cS l.toNat z) K h else False
  |none=>False)
 |_,_,_=>False
noncomputable def Ie(P:Program)(t:TypeId)(x:Value)(K:WK)(h:ac):Prop:=
 match vt P t,x with
 |some e,.slice a n _=>(match qn P e with
  |some z=>bif bL z then uf h a 0 (cS n z)∧K (.tuple #[]) (eM h a 0 (cS n z))else False
  |none=>False)
 |_,_=>False
noncomputable def LY(P:Program)(t:TypeId)(d s:Value)(K:WK)(h:ac):Prop:=
 match vt P t,d,s with
 |some e,.slice b dl _,.slice a sl _=>MK P e (∃xs,SRow h a (cX sl dl*bq P e) xs∧uf h b 0 xs∧bL xs=true∧K (.int .i64 (cX sl dl)) (eM h b 0 xs))
 |some e,.slice b dl _,.string x=>bif aW (bq P e) 1 then uf h b 0 ((de x).take dl)∧K (.int .i64 (cX x.size dl)) (eM h b 0 ((de x).take dl))else False
 |_,_,_=>False
def FP(k v:Value)(b:Nat):List MapEntry→List MapEntry×Nat
 | []=>([{key:=k,val:=v,born:=b}],b+1)
 |e::es=>if fg k e.key then({e with key:=k,val:=v}::es,b)else let r:=FP k v b es;(e::r.1,r.2)
def DP(k:Value):List MapEntry→List MapEntry
 | []=> []
 |e::es=>if fg k e.key then es else e::DP k es
def vx(c:CK)(h:ac)(r:Nat):Prop:=∃es clock,h[r]? =some (.map es clock)∧keysOf c es.toList
def nJ(h:ac)(r:Nat)(k v:Value):ac:=
 match h[r]? with
 |some (.map es clock)=>h.setIfInBounds r (.map (FP k v clock es.toList).1.toArray (FP k v clock es.toList).2)
 |_=>h
def qJ(h:ac)(r:Nat)(k:Value):ac:=
 match h[r]? with
 |some (.map es clock)=>h.setIfInBounds r (.map (DP k es.toList).toArray clock)
 |_=>h
def CI(P:Program)(t:TypeId)(m k v:Value)(K:WK)(h:ac):Prop:=
 match Hp P t,m with
 |some (c,_),.map m=>c.dec k fun _=>∃r,m=some r∧vx c h r∧K undef (nJ h r k v)
 |_,_=>False
def C1(P:Program)(t:TypeId)(m k:Value)(K:WK)(h:ac):Prop:=
 match Hp P t,m with
 |some (c,_),.map m=>c.dec k fun _=>(m=none∧K (.tuple #[]) h)∨(∃r,m=some r∧vx c h r∧K (.tuple #[]) (qJ h r k))
 |_,_=>False
def Mz(P:Program):List TypeId→Option (List Kind)
 | []=>some []
 |t::ts=>match Dw P t,Mz P ts with
  |some k,some ks=>some (k::ks)
  |_,_=>none
def MA(P:Program)(t:TypeId):Option (List Kind):=
 match P.underlying t with
 |some (.tuple ts)=>Mz P ts.toList
 |_=>Mz P [t]
noncomputable def Ph(P:Program)(f:Operand)(r:bP)(args:List Value)(t:TypeId)(K:WK)(h:ac):Prop:=
 match MA P t with
 |none=>False
 |some ks=>match f with
  | .func f=>HC P f args ks (fun x h'=>K (Cs ks (l4 ks x)) h') h
  |f=>match cC r f with
   |some fv=>HV P fv args ks (fun x h'=>K (Cs ks (l4 ks x)) h') h
   |none=>False
def LX(b:Value)(K:WK)(h:ac):Prop:=
 match b with
 | .pointer (some a)=>a.off=0∧
  ∃m since seen last,h[a.block]? =some (.mapIter m since seen last)∧
   ((m=none∧K (.tuple #[.bool false]) h)∨
    (∃r es clock,m=some r∧h[r]? =some (.map es clock)∧(seen.isEmpty=true∨es.isEmpty=true∨es.all (fun e=>decide (e.born≥last))=false)∧
     ((∀e∈es.toList,e.born<since→seen.contains e.born=true)→K (.tuple #[.bool false]) h)∧
     (∀e∈es.toList,seen.contains e.born=false→K (.tuple #[.bool true,e.key,e.val]) (h.setIfInBounds a.block (.mapIter (some r) since (seen.push e.born) clock)))))
 |_=>False
noncomputable def Ei(P:Program)(o:Oper)(r:bP)(K:WK)(h:ac):Prop:=
 match o.op with
 | .alloc t=>(match qn P t with|some z=>K (.pointer (some (aV h))) (hnew h z t)|none=>False)
 | .box t x=>(match cC r x with|some v=>K (.pointer (some (aV h))) (hnew h v.cells.toList t)|none=>False)
 | .build t ps=>(match pM r ps.toList with
  |some vs=>(match Gk P t vs with|some cs=>K (.agg cs.toArray) h|none=>False)
  |none=>False)
 | .buildSlice t n ps=>(match vt P t,pM r ps.toList with
  |some e,some vs=>(match qn P e with
   |some z=>bif xt (n*bq P e) 16777216&&aW z.length (bq P e)then
     (match B5 (fun i=>some (i*bq P e,bq P e)) (cS n z) vs with|some cs=>K (.slice (some (aV h)) n n) (hnew h cs e)|none=>False)
    else False
   |none=>False)
  |_,_=>False)
 | .store t a x=>(match cC r a,cC r x with|some a,some v=>Ic P t a v K h|_,_=>False)
 | .mapUpdate t m k x=>(match cC r m,cC r k,cC r x with|some m,some k,some v=>CI P t m k v K h|_,_,_=>False)
 | .insert t m k x=>(match cC r m,cC r k,cC r x with|some m,some k,some v=>CI P t m k v K h|_,_,_=>False)
 | .makeMap t n=>(match n with
  |none=>K (.map (some h.size)) (h.push (.map #[] 0))
  |some n=>(match cC r n,P.underlying t with|some (.int _ _),some (.map _ _)=>K (.map (some h.size)) (h.push (.map #[] 0))|_,_=>False))
 | .makeSlice t l c=>(match vt P t,cC r l,cC r c with
  |some e,some (.int _ l),some (.int _ c)=>(match qn P e with
   |some z=>bif aW z.length (bq P e)then(0≤l∧l≤c∧c≤9223372036854775807∧qt P e*c≤2^48)∧K (.slice (some (aV h)) l.toNat c.toNat) (hnew h (cS c.toNat z) e)else False
   |none=>False)
  |_,_,_=>False)
 | .convert s d x=>(match P.underlying s,P.underlying d,cC r x with
  |some .string,some (.slice e),some (.string v)=>bif Jb P e then ByP e v h (fun c h'=>K (.slice (some (aV h)) v.size c) h')else False
  |_,_,_=>False)
 | .range t x=>(match P.underlying t,cC r x with
  |some (.map _ _),some (.map m)=>∃clock,(m=none∧clock=0∨∃r es,m=some r∧h[r]? =some (.map es clock))∧K (.pointer (some (aV h))) (h.push (.mapIter m clock #[] clock))
  |_,_=>False)
 | .next it false=>(match cC r it with|some it=>LX it K h|none=>False)
 | .call c=>(match c.callee,mV r c.args.toList with
  | .builtin .append,some [s,x]=>(match c.argTypes.toList with| [t,u]=>(match P.underlying u with|some (.slice _)=>CJ P t s x K h|some .string=>CJ P t s x K h|some (.int _)=>C3 P t s x K h|_=>False)|_=>False)
  | .builtin .clear,some [x]=>(match c.argTypes.toList with| [t]=>Ie P t x K h|_=>False)
  | .builtin .copy,some [d,s]=>(match c.argTypes.toList with| [t,_]=>LY P t d s K h|_=>False)
  | .builtin .delete,some [m,k]=>(match c.argTypes.toList with| [t,_]=>C1 P t m k K h|_=>False)
  | .value f,some args=>Ph P f r args o.type K h
  |_,_=>False)
 |_=>False
def vv(P:Program):Op→Bool
 | .convert s d _=> !P4 P s d
 | .alloc _| .box .. | .buildSlice .. | .store .. | .mapUpdate .. | .insert .. | .makeMap .. | .makeSlice .. | .range .. | .next .. =>false
 | .call c=>match c.callee with
  | .builtin .len| .builtin .cap| .builtin .min| .builtin .max=>true
  |_=>false
 |_=>true
def yG(N:Nat)(o:Oper)(v:Value)(r:bP)(K:bP→Prop):Prop:=
 match o.dst with
 |none=>K r
 |some d=>bif xr d N then K ((d,v)::r)else False
noncomputable def QE(P:Program)(N:Nat)(ek:Option (Kind×Kind))(o:Oper)(r:bP)(K:bP→ac→Prop)(h:ac):Prop:=
 bif vv P o.op then AG P ek o.op r (fun v _=>yG N o v r fun b=>K b h) h
 else Ei P o r (fun v h'=>yG N o v r fun b=>K b h') h
inductive DV where
 |f|t|u|x
abbrev uS:=List (Nat×DV)
noncomputable def qS(d:uS)(t:Nat):DV:=
 eF (motive:=fun _=>DV) .x (fun b _ c=>bif aW b.1 t then b.2 else c) d
noncomputable def zP(d:uS):Operand→DV
 | .tmp t=>qS d t
 | .const (.bool true)=>.t
 | .const (.bool false)=>.f
 |_=>.x
noncomputable def GD(d:uS):Op→DV
 | .move x=>zP d x
 | .assign x=>zP d x
 | .pick c a b=>match zP d c with
  | .t=>zP d a
  | .f=>zP d b
  |_=>.x
 | .unOp .not _ x=>match zP d x with
  | .t=>.f
  | .f=>.t
  |_=>.x
 |_=>.x
def rv(d:uS)(o:Oper)(v:DV):uS:=match o.dst with|some t=>(t,v)::d|none=>d
noncomputable def ia(ops:List Oper)(d:uS)(o:Oper):Option Bool:=
 match o.guard with
 |none=>some true
 |some (j,want)=>match ops[j]? with
  |none=>none
  |some oj=>match oj.dst with
   |none=>none
   |some t=>match qS d t with
    | .t=>some want
    | .f=>some (!want)
    | .u=>some false
    | .x=>none
def DC(ops:List Oper)(o:Oper):Option Nat:=
 match o.guard with
 |none=>none
 |some (j,_)=>match ops[j]? with
  |none=>none
  |some oj=>oj.dst
noncomputable def EP(P:Program)(N:Nat)(ek:Option (Kind×Kind))(ops:List Oper)(o:Oper)(d:uS)(r:bP)(h:ac)(K:uS→bP→ac→Prop):Prop:=
 match ia ops d o with
 |some true=>QE P N ek o r (K (rv d o (GD d o.op))) h
 |some false=>yG N o undef r fun b=>K (rv d o .u) b h
 |none=>False
noncomputable def Dg(P:Program)(N:Nat)(ek:Option (Kind×Kind))(ops:List Oper)(l:List Oper):uS→(bP→ac→Prop)→bP→ac→Prop:=
 eF (motive:=fun _=>uS→(bP→ac→Prop)→bP→ac→Prop) (fun _ K r h=>K r h)
  (fun o _ e d K r h=>
  match ia ops d o with
  |some true=>QE P N ek o r (fun c h'=>e (rv d o (GD d o.op)) K c h') h
  |some false=>yG N o undef r fun c=>e (rv d o .u) K c h
  |none=>match DC ops o with
   |none=>False
   |some t=>match jr r t with
    |some (.bool b)=>CondP b
     (EP P N ek ops o ((t,.t)::d) ((t,.bool true)::r) h fun f c h'=>e f K c h')
     (EP P N ek ops o ((t,.f)::d) ((t,.bool false)::r) h fun f c h'=>e f K c h')
    |_=>False) l
inductive DA where
 |done
 |take (i:Nat) (rest:DA)
 |all (l:DA)
 |pick (i:Nat) (rest more:DA)
 |last (i:Nat) (rest:DA)
 |lastT (i:Nat) (rest:DA)
 |split (t:Nat) (yes no:DA)
abbrev qv:=List (Nat×(ac→Prop))
def tb(m i:Nat):Bool:=aW (iL (Nat.shiftRight m i) 1) 1
def fY(i:Nat):Nat:=Nat.pow 2 i
inductive DM where
 |mk (am fr lk ds:Nat)
def DM.am:DM→Nat| .mk a _ _ _=>a
def DM.fr:DM→Nat| .mk _ f _ _=>f
def DM.lk:DM→Nat| .mk _ _ l _=>l
def DM.ds:DM→Nat| .mk _ _ _ d=>d
def ib(o:Oper)(i:Nat):Bool:=o.after.toList.any fun e=>aW e.on i&&Region.binds .any e
noncomputable def lK(l:List Edge):Nat:=
 eF (motive:=fun _=>Nat) 0 (fun e _ b=>bif Region.binds .any e then ci (fY e.on) b else b) l
noncomputable def kO(l:List Operand):Nat:=
 eF (motive:=fun _=>Nat) 0 (fun o _ b=>match o with| .tmp t=>ci (fY t) b|_=>b) l
def mM(o:Oper):Nat:=match o.dst with|some d=>fY d|none=>0
noncomputable def nC(ops:List Oper)(o:Oper):Nat:=
 ci (kO o.op.operands.toList) (match o.guard with
  |some (g,_)=>(match ops[g]? with|some og=>mM og|none=>0)
  |none=>0)
noncomputable def vV(ops:List Oper)(l:List Oper):List DM→Bool:=
 eF (motive:=fun _=>List DM→Bool) (fun ms=>match ms with| []=>true|_=>false)
  (fun o _ b ms=>match ms with
   |m::ms=>aW (lK o.after.toList) m.am&&aW (nC ops o) m.lk&&aW (mM o) m.ds&&b ms
   | []=>false) l
def Bi(x y:DM):Bool:=aW (iL x.ds (ci y.lk y.ds)) 0&&aW (iL y.ds x.lk) 0
noncomputable def Ff(i:Nat)(m:DM)(l:List DM):Nat→Bool:=
 eF (motive:=fun _=>Nat→Bool) (fun _=>true)
  (fun n _ b j=>(!(tb m.fr j)||aW j i||tb n.am i||Bi m n)&&b (eV j)) l
noncomputable def zN(b:List DM)(l:List DM):Nat→Bool:=
 eF (motive:=fun _=>Nat→Bool) (fun _=>true) (fun m _ c i=>Ff i m b 0&&c (eV i)) l
def Hj:List Oper→Bool
 | []=>true
 |o::os=>(match o.op with| .select .. =>false| .defer _=>false|_=>true)&&Hj os
noncomputable def CQ(ops:List Oper)(ms:List DM):Bool:=vV ops ops ms&&zN ms ms 0&&Hj ops
def nW(o:Oper):qv→qv
 | []=> []
 |(k,S)::l=>bif ib o k then nW o l else(k,S)::nW o l
def rN:qv→ac→Prop→Prop
 | [],_,R=>R
 |(_,S)::l,h,R=>S h∧rN l h R
def GB(m:DM)(ls:Nat):Bool:=aW (iL m.am ls) m.am
noncomputable def kS(ls:Nat)(l:List DM):Nat→List Nat:=
 eF (motive:=fun _=>Nat→List Nat) (fun _=> []) (fun m _ b j=>bif !(tb ls j)&&GB m ls then j::b (eV j)else b (eV j)) l
def C8(m:DM)(i ls n:Nat):Bool:= !(tb ls i)&&GB m ls&&aW (iL (ci ls m.fr) (xf (fY n))) (xf (fY n))
def uZ:List Nat→List Nat→Bool
 | [],[]=>true
 |a::as,b::bs=>aW a b&&uZ as bs
 |_,_=>false
def Ba:DA→List Nat
 | .pick i _ l=>i::Ba l
 | .last i _=> [i]
 | .lastT i _=> [i]
 |_=> []
noncomputable def KT(P:Program)(N:Nat)(ops:List Oper)(i:Nat)(L:qv)(d:uS)(r:bP)(h:ac)(K:qv→uS→bP→ac→Prop):Prop:=
 match ops[i]? with
 |none=>False
 |some o=>match ia ops d o with
  |some true=>bif vv P o.op then AG P none o.op r (fun v _=>yG N o v r fun b=>rN (nW o L) h (K (nW o L) (rv d o .x) b h)) h else Ei P o r (fun v h'=>yG N o v r fun b=>rN (nW o L) h' (K (nW o L) (rv d o .x) b h')) h
  |_=>False
noncomputable def LI(m:Nat)(l:List DM):Nat→Nat:=
 eF (motive:=fun _=>Nat→Nat) (fun _=>m) (fun n _ b j=>bif tb m j then ci n.am (b (eV j))else b (eV j)) l
noncomputable def zQ(ms:List DM)(m:Nat):Nat:=LI (LI (LI (LI m ms 0) ms 0) ms 0) ms 0
def Gs(ms:List DM)(i:Nat):Nat:=match ms[i]? with|some m=>m.am|none=>0
def zw(m:Nat):qv→qv
 | []=> []
 |(k,S)::l=>bif tb m k then zw m l else(k,S)::zw m l
noncomputable def Ka(P:Program)(N:Nat)(ops:List Oper)(ms:List DM)(i:Nat)(L:qv)(d:uS)(r:bP)(h:ac)(K:qv→uS→bP→ac→Prop):Prop:=
 match ops[i]? with
 |none=>False
 |some o=>match ia ops d o with
  |some true=>bif vv P o.op then False else Ei P o r (fun v h'=>yG N o v r fun b=>rN (zw (zQ ms (Gs ms i)) L) h' (K (zw (zQ ms (Gs ms i)) L) (rv d o .x) b h')) h
  |_=>False
noncomputable def mo(P:Program)(N:Nat)(ops:List Oper)(ms:List DM)(n:DA):Bool→Nat→qv→uS→(bP→ac→Prop)→bP→ac→Prop:=
 DA.rec (motive:=fun _=>Bool→Nat→qv→uS→(bP→ac→Prop)→bP→ac→Prop)
  (fun m ls _ _ K r h=>bif !m&&uZ (kS ls ms 0) []then K r h else False)
  (fun i _ e m ls L d K r h=>
   match ops[i]?,ms[i]? with
   |some o,some mi=>bif !m&&C8 mi i ls ops.length then
     (match ia ops d o with
      |none=>False
      |some false=>yG N o undef r fun c=>e false (ci ls (fY i)) L (rv d o .u) K c h
      |some true=>bif vv P o.op then
       AG P none o.op r (fun v S=>yG N o v r fun c=>match S with
        |none=>e false (ci ls (fY i)) L (rv d o (GD d o.op)) K c h
        |some S=>e false (ci ls (fY i)) ((i,S)::L) (rv d o (GD d o.op)) K c h) h
       else False)
    else False
   |_,_=>False)
  (fun l e m ls L d K r h=>bif !m&&uZ (kS ls ms 0) (Ba l)then e true ls L d K r h else False)
  (fun i _ _ f g m ls L d K r h=>bif m then KT P N ops i L d r h (fun k j c h'=>f false (ci ls (fY i)) k j K c h')∧g true ls L d K r h else False)
  (fun i _ e m ls L d K r h=>bif m then KT P N ops i L d r h (fun k j c h'=>e false (ci ls (fY i)) k j K c h')else False)
  (fun i _ e m ls L d K r h=>bif m then Ka P N ops ms i L d r h (fun k j c h'=>e false (ci ls (fY i)) k j K c h')else False)
  (fun t _ _ f g m ls L d K r h=>
   bif m then False else match jr r t with
   |some (.bool b)=>CondP b (f false ls L ((t,.t)::d) K ((t,.bool true)::r) h) (g false ls L ((t,.f)::d) K ((t,.bool false)::r) h)
   |_=>False)
  n
noncomputable def RY(c:Oper)(i:Nat)(ds lk:Nat)(ops:List Oper)(l:List Oper):Nat→Nat:=
 eF (motive:=fun _=>Nat→Nat) (fun _=>0) (fun p _ b j=>bif (aW j i||ib p i||(aW (iL ds (ci (nC ops p) (mM p))) 0&&aW (iL (mM p) lk) 0))then ci (fY j) (b (eV j))else b (eV j)) l
noncomputable def RN(ops:List Oper)(l:List Oper):Nat→List DM:=
 eF (motive:=fun _=>Nat→List DM) (fun _=> []) (fun o _ b i=>.mk (lK o.after.toList) (RY o i (mM o) (nC ops o) ops ops 0) (nC ops o) (mM o)::b (eV i)) l
def QI(P:Program)(w:Option Bool)(o:Oper):Bool:=match w with|some false=>true|some true=>vv P o.op|none=>false
noncomputable def Qc(P:Program)(ops:List Oper)(d:uS)(ls n:Nat)(l:List Oper):List DM→Nat→Option (Nat×Oper):=
 eF (motive:=fun _=>List DM→Nat→Option (Nat×Oper)) (fun _ _=>none)
  (fun o _ b ms j=>match ms with
   | []=>none
   |m::ms=>bif C8 m j ls n&&QI P (ia ops d o) o then some (j,o)else b ms (eV j)) l
noncomputable def Qd(ops:List Oper)(d:uS)(ls:Nat)(l:List Oper):List DM→Nat→Option Nat:=
 eF (motive:=fun _=>List DM→Nat→Option Nat) (fun _ _=>none)
  (fun o _ b ms j=>match ms with
   | []=>none
   |m::ms=>match bif !(tb ls j)&&GB m ls then(match ia ops d o with|none=>DC ops o|some _=>none)else none with
    |some t=>some t
    |none=>b ms (eV j)) l
noncomputable def QX(ops:List Oper)(k:Nat→uS→DA)(ls:Nat)(d:uS)(l:List Nat):DA:=
 eF (motive:=fun _=>DA) .done (fun i b c=>match ops[i]? with
  |none=>.done
  |some o=>match b with
   | []=>.last i (k (ci ls (fY i)) (rv d o .x))
   |_=>.pick i (k (ci ls (fY i)) (rv d o .x)) c) l
noncomputable def Qu(P:Program)(ops:List Oper)(ms:List DM)(fuel:Nat):Nat→uS→DA:=
 Nat.rec (motive:=fun _=>Nat→uS→DA) (fun _ _=>.done) (fun _ b ls d=>
  match Qc P ops d ls ops.length ops ms 0 with
  |some (i,o)=>.take i (b (ci ls (fY i)) (match ia ops d o with|some false=>rv d o .u|_=>rv d o (GD d o.op)))
  |none=>match Qd ops d ls ops ms 0 with
   |some t=>.split t (b ls ((t,.t)::d)) (b ls ((t,.f)::d))
   |none=>match kS ls ms 0 with
    | []=>.done
    |l=>.all (QX ops b ls d l)) fuel
noncomputable def Kg(ops:List Oper):List DM:=RN ops ops 0
inductive Ex where
 |exit (id:Nat)
 |ret
abbrev St:=List (Nat×Kind)
def yp:St→List Kind
 | []=> []
 |(_,k)::l=>k::yp l
noncomputable def Dc(r:bP):St→Option (List Value)
 | []=>some []
 |(i,_)::l=>match jr r i,Dc r l with
  |some v,some vs=>some (v::vs)
  |_,_=>none
noncomputable def BR(st:St)(r:bP)(f:un (yp st)→Prop):Prop:=
 match Dc r st with
 |some vs=>Cy (yp st) vs f
 |none=>False
def mE:St→List Value→bP→bP
 |(i,_)::l,v::vs,r=>(i,v)::mE l vs r
 |_,_,r=>r
noncomputable def Kl(r:bP)(l:List Nat):Option bP:=
 eF (motive:=fun _=>Option bP) (some []) (fun t _ b=>match jr r t,b with
  |some v,some l=>some ((t,v)::l)
  |_,_=>none) l
noncomputable def kM(t:Nat)(l:List Oper):Bool:=
 eF (motive:=fun _=>Bool) false (fun o _ b=>match o.dst with|some d=>bif aW d t then true else b|none=>b) l
noncomputable def fE(t:Nat)(c:Code):Bool:=
 Code.rec (motive:=fun _=>Bool) false (fun _ ops _=>kM t ops.toList) (fun _ _ a b=>bif a then true else b) (fun _ _ _ a b=>bif a then true else b)
  (fun _ _ b=>b) (fun _ b=>b) (fun _ _ _ _ _ _=>true) (fun _=>false) (fun _ b=>b) (fun _=>false) (fun _=>false) false (fun _=>false) c
inductive Ann where
 |nil
 |node (a b:Ann)
 |join (st:St) (a b:Ann)
 |loop (st:St) (b:Ann)
 |draw (d:DA)
 |kinds (k v:Kind)
 |reg (keep:List Nat) (inner:Ann)
 |rf (ks:List Kind) (a b:Ann)
def Ann.l:Ann→Ann
 | .node a _=>a
 | .rf _ a _=>a
 |_=>.nil
def Ann.r:Ann→Ann
 | .node _ b=>b
 | .rf _ _ b=>b
 |_=>.nil
noncomputable def LW(l:List Oper):Nat:=eF (motive:=fun _=>Nat) 0 (fun o _ b=>ci (mM o) b) l
def Q0:Option Nat→Option Nat→Option Nat
 |some a,some b=>some (ci a b)
 |_,_=>none
noncomputable def xQ(c:Code):Option Nat:=
 Code.rec (motive:=fun _=>Option Nat) (some 0) (fun _ ops _=>some (LW ops.toList)) (fun _ _ a b=>Q0 a b) (fun _ _ _ a b=>Q0 a b)
  (fun _ _ b=>b) (fun _ b=>b) (fun _ _ _ _ _ _=>none) (fun _=>some 0) (fun _ b=>b) (fun _=>some 0) (fun _=>some 0) (some 0) (fun _=>some 0) c
noncomputable def vZ(m:Nat)(r:bP):bP:=eF (motive:=fun _=>bP) [] (fun b _ c=>bif tb m b.1 then c else b::c) r
noncomputable def AS(P:Program)(N:Nat)(ops:List Oper)(c:Bool)(b:Ann)(Kn:bP→ac→Prop)(r:bP)(h:ac):Prop:=
 match c with
 |false=>(match b with
  | .kinds kk vk=>Dg P N (some (kk,vk)) ops ops [] Kn r h
  |_=>Dg P N none ops ops [] Kn r h)
 |true=>bif CQ ops (Kg ops)then mo P N ops (Kg ops) (match b with| .draw da=>da|_=>Qu P ops (Kg ops) (Nat.add (Nat.add ops.length ops.length) 2) 0 []) false 0 [] [] Kn r h else False
noncomputable def jM(P:Program)(N:Nat)(c:Code):Ann→(bP→ac→Prop)→(Ex→bP→ac→Prop)→bP→ac→Prop:=
 Code.rec (motive:=fun _=>Ann→(bP→ac→Prop)→(Ex→bP→ac→Prop)→bP→ac→Prop)
  (fun _ Kn _ r h=>Kn r h)
  (fun _ ops p d Kn _ r h=>match d with
   | .reg keep d=>AS P N ops.toList p d (fun f h'=>match Kl f keep with|some r0=>Kn r0 h'|none=>False) r h
   |d=>AS P N ops.toList p d Kn r h)
  (fun a _ j g d Kn Kx r h=>match d with
   | .join st aa ab=>(match xQ a with
     |none=>False
     |some m=>Join (T:=un (yp st)) (fun t h'=>g ab Kn Kx (mE st (l4 (yp st) t) (vZ m r)) h')
      fun J=>j aa (fun f h'=>BR st f fun t=>J t h') Kx r h)
   |d=>j d.l (fun f h'=>g d.r Kn Kx f h') Kx r h)
  (fun c _ _ j g d Kn Kx r h=>match cC r c with
   |some (.bool t)=>CondP t (j d.l Kn Kx r h) (g d.r Kn Kx r h)
   |_=>False)
  (fun id _ n d Kn Kx r h=>n d Kn (fun e f h'=>match e with
    | .exit i=>bif aW i id then Kn f h' else Kx (.exit i) f h'
    | .ret=>Kx .ret f h') r h)
  (fun b n d _ Kx r h=>match d with
   | .loop st ab=>(match xQ b with
     |none=>False
     |some m=>BR st r fun s=>LoopP (T:=un (yp st)) (fun k t h'=>n ab (fun f o=>BR st f fun q=>k q o) Kx (mE st (l4 (yp st) t) (vZ m r)) h') s h)
   |_=>False)
  (fun _ _ _ _ _ _ _ _ _ _ _=>False)
  (fun id _ _ Kx r h=>Kx (.exit id) r h)
  (fun _ _ _ _ _ _ _=>False)
  (fun _ _ Kn _ r h=>Kn r h)
  (fun _ _ _ _ _ _=>False)
  (fun _ _ Kx r h=>Kx .ret r h)
  (fun _ _ _ _ _ _=>False)
  c
noncomputable def mF(P:Program)(r:bP)(h:ac):List ResultVar→(List Value→Prop)→Prop
 | [],K=>K []
 | .tmp t::l,K=>(match jr r t with|some v=>mF P r h l fun vs=>K (v::vs)|none=>False)
 | .cell a t::l,K=>(match jr r a with
  |some v=>G7 P t v (fun x _=>mF P r h l fun vs=>K (x::vs)) h
  |none=>False)
def pH:Nat→List Value→bP
 |_,[]=> []
 |i,v::vs=>(i,v)::pH (i+1) vs
noncomputable def ER(P:Program)(fn:Func)(c:Code)(b:Ann)(args:List Value)(ks:List Kind)(K:un ks→ac→Prop)(h:ac):Prop:=
 jM P fn.ntmps c b
  (fun r h'=>mF P r h' fn.results.toList fun vs=>Cy ks vs fun t=>K t h')
  (fun e r h'=>match e with
   | .ret=>mF P r h' fn.results.toList fun vs=>Cy ks vs fun t=>K t h'
   | .exit _=>False)
  (pH 0 args) h
def DR:List Oper→Option (Oper×Oper×Operand×Nat×FuncId×List Operand)
 | [m,o]=>match m.op,m.guard,m.dst,o.op,o.dst,o.guard with
  | .move x,none,some d,.defer c,none,none=>(match c.callee with
   | .value (.func f)=>some (m,o,x,d,f,c.args.toList)
   |_=>none)
  |_,_,_,_,_,_=>none
 |_=>none
inductive Mk where
 |it (n:Nat)
 |call (f:FuncId) (vs:List Value)
def HD(P:Program)(f:FuncId)(args:List Value)(K:ac→Prop)(h:ac):Prop:=
 ∀w:World,w.heap=h→(∀(args:Array Value) (w:World),(callFunc f args).run P w=.ok (.enter f args) w)∧∀n:Nat,CallsDIn {fn:=fun _=>True,depth:=none,alive:=false,round:=none} n P f args.toArray .returning w fun e u w'=>u=.returning∧Tame w w'∧(∃v,e=.returned v)∧K w'.heap
noncomputable def rO(c:Code):Bool:=
 Code.rec (motive:=fun _=>Bool) false (fun _ ops _=>(DR ops.toList).isSome) (fun _ _ a b=>bif a then true else b) (fun _ _ _ a b=>bif a then true else b)
  (fun _ _ b=>b) (fun _ b=>b) (fun _ _ _ _ _ _=>true) (fun _=>false) (fun _ b=>b) (fun _=>false) (fun _=>false) false (fun _=>false) c
def Gc:Option Ex→Option Code
 |none=>none
 |some (.exit i)=>some (.exit i)
 |some .ret=>some .ret
def RZ(N:ac→Prop)(X:Nat→ac→Prop)(R:ac→Prop):Option Ex→ac→Prop
 |none=>N
 |some (.exit i)=>X i
 |some .ret=>R
structure RangeP(P:Program)(fv:Value)(ks:List Kind)(h:ac)(RT:Obj→Obj→un ks→(Option Ex→ac→Prop)→ac→Prop)(N:ac→Prop)(X:Nat→ac→Prop)(R:ac→Prop):Prop where
 run:∀lo:LoopState→Option Ex→Obj,(∀s j,∃r,lo s j=.loop r)→
  (∀x h' K,h'[h.size+1]? =some (lo .ready none)→
   RT (lo .ready none) (lo .busy none) x (fun j h2=>h2[h.size+1]? =some (lo .busy none)∧K j.isNone (h2.setIfInBounds (h.size+1) (lo (if j.isNone then .ready else .done) j))) h'→
   HV P (.func (.yield (h.size+1)) #[] #[]) (l4 ks x) [.c .bool] K h')→
  ∃f first cap,fv=.func (.func f) first cap∧HE P f (first.toList++ [.func (.yield (h.size+1)) #[] #[]]++cap.toList) []
   (fun _ h2=>∃s j,s≠ .busy∧h2[h.size+1]? =some (lo s j)∧RZ N X R j (h2.setIfInBounds (h.size+1) (lo .exhausted j))) ((h.push (.deferred (some []))).push (lo .ready none))
def Oc:List Nat→List Value→bP→bP
 |i::l,v::vs,r=>Oc l vs ((i,v)::r)
 |_,_,r=>r
noncomputable def Iu(P:Program)(N:Nat)(ps:List Nat)(ks:List Kind)(assign body:Code)(c:Ann)(r:bP)(l:Nat)(GB f:Obj)(x:un ks)(k:Option Ex→ac→Prop)(h:ac):Prop:=
 jM P N assign c.l (fun g d=>d[l]? =some GB∧jM P N body c.r (fun _ b=>k none b) (fun e _ b=>k (some e) b) g (d.setIfInBounds l f)) (fun _ _ _=>False) (Oc ps (l4 ks x) r) h
def yz(N:Nat):List Nat→Bool
 | []=>true
 |n::l=>xr n N&&yz N l
noncomputable def yu(P:Program)(N:Nat)(c:Code):Ann→(List Mk→bP→ac→Prop)→(Ex→List Mk→bP→ac→Prop)→List Mk→bP→ac→Prop:=
 Code.rec (motive:=fun _=>Ann→(List Mk→bP→ac→Prop)→(Ex→List Mk→bP→ac→Prop)→List Mk→bP→ac→Prop)
  (fun j Kn Kx ms r h=>jM P N .skip j (Kn ms) (fun e=>Kx e ms) r h)
  (fun id ops p j Kn Kx ms r h=>match DR ops.toList with
   |none=>jM P N (.region id ops p) j (Kn ms) (fun e=>Kx e ms) r h
   |some (_,_,x,d,f,as)=>bif p then False else match cC r x with
    |some v=>bif xr d N then(match mV ((d,v)::r) as with|some vs=>Kn (.call f vs::ms) ((d,v)::r) h|none=>False)else False
    |none=>False)
  (fun a b n m j Kn Kx ms r h=>bif (bif rO a then true else rO b)then n j.l (fun ms o h'=>m j.r Kn Kx ms o h') Kx ms r h
   else jM P N (.seq a b) j (Kn ms) (fun e=>Kx e ms) r h)
  (fun c a b n m j Kn Kx ms r h=>bif (bif rO a then true else rO b)then
    (match cC r c with
     |some (.bool t)=>CondP t (n j.l Kn Kx ms r h) (m j.r Kn Kx ms r h)
     |_=>False)
   else jM P N (.cond c a b) j (Kn ms) (fun e=>Kx e ms) r h)
  (fun id b s j Kn Kx ms r h=>bif rO b then s j Kn (fun e ms o h'=>match e with
    | .exit i=>bif aW i id then Kn ms o h' else Kx (.exit i) ms o h'
    | .ret=>Kx .ret ms o h') ms r h
   else jM P N (.block id b) j (Kn ms) (fun e=>Kx e ms) r h)
  (fun b _ j Kn Kx ms r h=>jM P N (.loop b) j (Kn ms) (fun e=>Kx e ms) r h)
  (fun g ps assign body _ _ j Kn Kx ms r h=>match j with
   | .rf ks aa ab=>bif yz N ps.toList&&aW ps.toList.length ks.length then
    (match cC r g with
     |some fv=>RangeP P fv ks h (fun GB q x k h'=>Iu P N ps.toList ks assign body (.node aa ab) r (h.size+1) GB q x k h')
      (fun h'=>Kn (.it h.size::ms) r h') (fun i h'=>Kx (.exit i) (.it h.size::ms) r h') (fun h'=>Kx .ret (.it h.size::ms) r h')
     |none=>False)else False
   |_=>False)
  (fun id j Kn Kx ms r h=>jM P N (.exit id) j (Kn ms) (fun e=>Kx e ms) r h)
  (fun _ _ _ _ _ _ _ _=>False)
  (fun l j Kn Kx ms r h=>jM P N (.label l) j (Kn ms) (fun e=>Kx e ms) r h)
  (fun _ _ _ _ _ _ _=>False)
  (fun j Kn Kx ms r h=>jM P N .ret j (Kn ms) (fun e=>Kx e ms) r h)
  (fun _ _ _ _ _ _ _=>False)
  c
def GV(P:Program):List Mk→(ac→Prop)→ac→Prop
 | [],K,h=>K h
 | .it D::ms,K,h=>h[D]? =some (.deferred (some []))∧GV P ms K (h.setIfInBounds D (.deferred none))
 | .call f vs::ms,K,h=>HD P f vs (fun h'=>GV P ms K h') h
noncomputable def Iw(P:Program)(fn:Func)(c:Code)(b:Ann)(args:List Value)(ks:List Kind)(K:un ks→ac→Prop)(h:ac):Prop:=
 yu P fn.ntmps c b
  (fun ms r h'=>GV P ms (fun h'=>mF P r h' fn.results.toList fun vs=>Cy ks vs fun t=>K t h') h')
  (fun e ms r h'=>match e with
   | .ret=>GV P ms (fun h'=>mF P r h' fn.results.toList fun vs=>Cy ks vs fun t=>K t h') h'
   | .exit _=>False)
  [] (pH 0 args) h
end Go.Lift
namespace Go.Lift
open Go
theorem D3(a:Addr):adr a 0=a:=rfl
theorem zX(a:Addr)(n:Nat):adr a (n+1)=⟨a.block,a.off+(n+1),none⟩:=rfl
theorem ue(a:Addr)(n:Nat):adr a n=a.add n:=by
 cases n with
 |zero=>simp[D3,Addr.add]
 |succ n=>simp[zX,Addr.add]
theorem zY(a:Addr)(m n:Nat):adr (adr a m) n=adr a (m+n):=by
 cases n with
 |zero=>rfl
 |succ n=>cases m with
  |zero=>simp[D3]
  |succ m=>rw[zX,zX,show m+1+(n+1)=(m+1+n)+1 from rfl,zX];simp;omega
theorem Tame.refl(w:World):Tame w w:=⟨rfl,rfl,rfl⟩
theorem Tame.trans{a b c:World}(h:Tame a b)(k:Tame b c):Tame a c:=⟨k.os.trans h.os,k.tape.trans h.tape,k.output.trans h.output⟩
theorem zI{a b:IntKind}(h:F8 a b=true):a=b:=by cases a<;>cases b<;>first|rfl|cases h
theorem CK.dec_sound{c:CK}{v:Value}{f:c.den→Prop}(h:c.dec v f):∃x,v=c.enc x∧f x:=by
 cases c<;>cases v<;>try simp only[CK.dec]at h
 case int.int k k' n=>
  cases hk:F8 k' k with
  |false=>rw[hk]at h;exact h.elim
  |true=>rw[hk]at h;have:=zI hk;subst this;exact⟨n,rfl,h⟩
 case adr.pointer p=>cases p with
  |none=>exact h.elim
  |some a=>exact⟨a,rfl,h⟩
 all_goals first|exact h.elim|exact⟨_,rfl,h⟩
theorem B8:∀{cs:List CK} {vs:List Value} {f:N0 cs→Prop},KA cs vs f→∃t,vs=NK cs t∧f t
 | [],[],f,h=>⟨(),rfl,h⟩
 | [],_::_,f,h=>h.elim
 | [c],[v],f,h=>by obtain⟨x,rfl,g⟩:=CK.dec_sound h;exact⟨x,rfl,g⟩
 | [c],[],f,h=>h.elim
 | [c],_::_::_,f,h=>h.elim
 |c::d::cs,[],f,h=>h.elim
 |c::d::cs,[_],f,h=>h.elim
 |c::d::cs,v::u::vs,f,h=>by
  have b:c.dec v fun x=>KA (d::cs) (u::vs) fun t=>f (x,t):=h
  obtain⟨x,hx,i⟩:=CK.dec_sound b;obtain⟨t,e,j⟩:=B8 (cs:=d::cs) (vs:=u::vs) i;exact⟨(x,t),by rw[e,hx];rfl,j⟩
theorem Kind.dec_sound{k:Kind}{v:Value}{f:k.den→Prop}(h:k.dec v f):∃x,v=k.enc x∧f x:=by
 cases k with
 |c k=>exact CK.dec_sound h
 |agg cs=>
  cases v<;>simp only[Kind.dec]at h
  case agg vs=>
   obtain⟨t,d,b⟩:=B8 h;exact⟨t,by simp only[Kind.enc,←d],b⟩
theorem r8:∀{ks:List Kind} {vs:List Value} {f:un ks→Prop},Cy ks vs f→∃t,vs=l4 ks t∧f t
 | [],[],f,h=>⟨(),rfl,h⟩
 | [],_::_,f,h=>h.elim
 | [c],[v],f,h=>by obtain⟨x,rfl,g⟩:=Kind.dec_sound h;exact⟨x,rfl,g⟩
 | [c],[],f,h=>h.elim
 | [c],_::_::_,f,h=>h.elim
 |c::d::cs,[],f,h=>h.elim
 |c::d::cs,[_],f,h=>h.elim
 |c::d::cs,v::u::vs,f,h=>by
  have b:c.dec v fun x=>Cy (d::cs) (u::vs) fun t=>f (x,t):=h
  obtain⟨x,hx,i⟩:=Kind.dec_sound b;obtain⟨t,e,j⟩:=r8 (ks:=d::cs) (vs:=u::vs) i;exact⟨(x,t),by rw[e,hx];rfl,j⟩
theorem tf:∀(ks:List Kind) (t:un ks),(l4 ks t).length=ks.length
 | [],_=>rfl
 | [_],_=>rfl
 |_::l::ks,(_,t)=>by simp only[l4,aX,tf (l::ks) t]
structure Agree(N:Nat)(r:bP)(a:Act):Prop where
 size:a.tmps.size=N
 look:∀t v,jr r t=some v→a.tmps.getD t undef=v
theorem gK(k:Nat)(v:Value)(r:bP):jr ((k,v)::r) k=some v:=by rw[Dk,show aW k k=true from Nat.beq_refl k];rfl
theorem fZ{k t:Nat}(v:Value)(r:bP)(h:k≠t):jr ((k,v)::r) t=jr r t:=by
 rw[Dk];have:aW k t=false:=Bool.eq_false_iff.2 fun e=>h (aG e)
 rw[this];rfl
theorem Agree.put{N:Nat}{r:bP}{a:Act}(h:Agree N r a)(d:Nat)(v:Value)(hd:d<N):Agree N ((d,v)::r) (a.put (some d) v):=by
 refine⟨by simp[Act.put,h.size],fun t u b=>?_⟩
 by_cases e:d=t
 ·subst e
  rw[gK]at b;cases b;simp[Act.put,h.size,hd]
 ·rw[fZ v r e]at b
  have:=h.look t u b;simpa[Act.put,Array.getElem?_setIfInBounds_ne e]using this
theorem Agree.known{N:Nat}{r:bP}{a:Act}(h:Agree N r a){t:Nat}{v:Value}(c:jr r t=some v):Agree N ((t,v)::r) a:=by
 refine⟨h.size,fun s u b=>?_⟩
 by_cases e:t=s
 ·subst e;rw[gK]at b;cases b;exact h.look t v c
 ·rw[fZ v r e]at b;exact h.look s u b
theorem js{N:Nat}{r:bP}{a:Act}(h:Agree N r a){o:Operand}{v:Value}(b:cC r o=some v):a.eval o=v:=by
 cases o with
 |tmp t=>exact h.look t v b
 |const c=>simp[cC]at b;subst b;rfl
 |global g=>simp[cC]at b;subst b;rfl
 |func f=>simp[cC]at b;subst b;rfl
theorem lA{N:Nat}{r:bP}{a:Act}(h:Agree N r a):∀{os:List Operand} {vs:List Value},mV r os=some vs→os.map a.eval=vs
 | [],vs,hv=>by simp[mV]at hv;subst hv;rfl
 |o::os,vs,hv=>by
  simp only[mV]at hv;cases ho:cC r o with
  |none=>simp[ho]at hv
  |some v=>cases hos:mV r os with
   |none=>simp[ho,hos]at hv
   |some us=>simp[ho,hos]at hv;subst hv;simp[js h ho,lA h hos]
theorem aj{P:Program}{t:TypeId}{d:TypeDesc}(h:P.underlying t=some d)(w:World):(underlying t).run P w=.ok d w:=by
 simp only[underlying,program,bind,Sem.bind,Sem.run,h,pure]
theorem cf{P:Program}{t:TypeId}{i:TypeInfo}(h:P.info? t=some i)(w:World):(typeInfo t).run P w=.ok i w:=by
 simp only[typeInfo,program,bind,Sem.bind,Sem.run,h,pure]
theorem iy{P:Program}{s:Sem Value}{v:Value}{w w':World}(h:s.run P w=.ok v w'):(do pure (Next.value (←s)):Sem Next).run P w=.ok (.value v) w':=by
 simp[h]
theorem Mx{P:Program}{s:Sem Unit}{w w':World}(h:s.run P w=.ok () w'):(do s;pure Next.skip:Sem Next).run P w=.ok .skip w':=by
 simp[h]
theorem zu{P:Program}{w:World}{a:Addr}{v:Value}(h:aB w.heap a=some v):(load a).run P w=.ok v w:=by
 have h':w.cell? a=some v:=h;simp[h']
theorem zS{v:Value}{vs:List Value}{i:Nat}{a:Addr}{h:ac}:tl (v::vs) i a h↔aB h (adr a i)=some v∧tl vs (i+1) a h:=by
 cases vs with
 |nil=>simp[tl]
 |cons u us=>rfl
theorem sW{P:Program}{w:World}{a:Addr}:∀(vs:List Value) (i:Nat) (acc:Array Value),tl vs i a w.heap→
  (loadCellsFrom a i vs.length acc).run P w=.ok (acc++vs.toArray) w
 | [],i,acc,_=>by simp[loadCellsFrom]
 |v::vs,i,acc,h=>by
  obtain⟨b,c⟩:=zS.1 h;rw[ue]at b;have:=sW (P:=P) (w:=w) (a:=a) vs (i+1) (acc.push v) c;simp only[aX,loadCellsFrom,Sem.run_bind,zu b,Result.andThen_ok,this];simp
theorem Eo{P:Program}{w:World}{a:Addr}{vs:List Value}(h:tl vs 0 a w.heap):(loadCells a vs.length).run P w=.ok vs.toArray w:=by
 have:=sW (P:=P) (w:=w) (a:=a) vs 0 #[] h;simpa[loadCells]using this
theorem xV:∀(cs:List CK) (i:Nat) (a:Addr) (h:ac) (k:List Value→Prop),Gd cs i a h k→∃vs,vs.length=cs.length∧tl vs i a h∧k vs
 | [],i,a,h,k,b=>⟨[],rfl,trivial,b⟩
 |c::cs,i,a,h,k,b=>by
  obtain⟨x,hx,b⟩:=b;obtain⟨vs,d,hc,b⟩:=xV cs (i+1) a h _ b;exact⟨c.enc x::vs,by simp[d],zS.2 ⟨hx,hc⟩,b⟩
theorem zR:∀{vs:List Value} {cs:List CK},DU vs=some cs→cs.length=vs.length
 | [],cs,h=>by simp[DU]at h;subst h;rfl
 |v::vs,cs,h=>by
  simp only[DU]at h;cases h1:Qs v with
  |none=>simp[h1]at h
  |some c=>cases h2:DU vs with
   |none=>simp[h1,h2]at h
   |some ds=>simp[h1,h2]at h;subst h;simp[zR h2]
def NZ(P:Program)(t:TypeId)(i:TypeInfo):Kind→Prop
 | .c _=>vj P t=false
 | .agg cs=>vj P t=true∧i.size=cs.length
theorem I8{P:Program}{t:TypeId}{k:Kind}(h:Kk P t=some k):∃i,P.info? t=some i∧NZ P t i k:=by
 unfold Kk xP at h;cases hi:P.info? t with
 |none=>simp[hi]at h
 |some i=>
  refine⟨i,rfl,?_⟩;cases hz:i.zero with
  |none=>simp[hi,hz]at h
  |some z=>
   rw[hi]at h;simp only[hz]at h;cases z;case agg vs=>
    simp only at h;cases hb:(vj P t&&aW vs.toList.length (bq P t))with
    |false=>rw[hb]at h;simp at h
    |true=>
     rw[hb]at h;simp only[cond_true]at h;simp only[Bool.and_eq_true]at hb;have b:=aG hb.2;cases hd:DU vs.toList with
     |none=>rw[hd]at h;simp at h
     |some ds=>
      rw[hd]at h;simp only[bD.injEq]at h;subst h;exact⟨hb.1,by rw[zR hd,b];simp[bq,hi]⟩
   all_goals
    simp only at h;cases ha:vj P t
    ·rw[ha]at h
     simp only[cond_false]at h;split at h
     ·simp only[bD.injEq]at h;subst h;exact ha
     ·simp at h
    ·rw[ha]at h;simp at h
theorem Ja{P:Program}{t:TypeId}{k:Kind}(h:Dw P t=some k):(∀w,(isAgg t).run P w=.ok (vj P t) w)∧Kk P t=some k:=by
 unfold Dw at h;cases hu:P.underlying t with
 |none=>simp[hu]at h
 |some d=>
  simp only[hu]at h;refine⟨fun w=>?_,h⟩
  simp only[isAgg,Sem.run_bind,aj hu,Result.andThen_ok];unfold vj;rw[hu];cases d<;>rfl
theorem BX{P:Program}{t:TypeId}{v:Value}{K:RK}{h:ac}(b:G7 P t v K h):
  ∃u S,K u (some S)∧S h∧∀w:World,S w.heap→(Instr.loadAt t v).run P w=.ok u w:=by
 unfold G7 at b;cases v with
 |pointer p=>
  cases p with
  |none=>exact b.elim
  |some a=>
   simp only at b;cases hk:Dw P t with
   |none=>simp[hk]at b
   |some k=>
    obtain⟨d,m⟩:=Ja hk;obtain⟨i,n,hc⟩:=I8 m;rw[hk]at b;cases k with
    |c c=>
     obtain⟨x,hx,g⟩:=b;refine⟨_,_,g,hx,fun w f=>?_⟩
     have hc:vj P t=false:=hc;simp only[Instr.loadAt,Instr.sureAddr,loadVar,Sem.run_bind,Sem.run_pure,Result.andThen_ok,d,hc];simp[zu f]
    |agg cs=>
     obtain⟨vs,e,j,g⟩:=xV cs 0 a h _ b;obtain⟨o,q⟩:vj P t=true∧i.size=cs.length:=hc;refine⟨_,_,g,j,fun w f=>?_⟩
     have m:(sizeOf t).run P w=.ok vs.length w:=by simp[sizeOf,cf n,q,e]
     simp only[Instr.loadAt,Instr.sureAddr,loadVar,Sem.run_bind,Sem.run_pure,Result.andThen_ok,d,o];simp[m,Eo f]
 |_=>exact b.elim
end Go.Lift
