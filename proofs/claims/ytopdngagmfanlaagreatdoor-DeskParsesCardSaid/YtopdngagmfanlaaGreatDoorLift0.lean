/- A part of the proof that the named laws of this program answer true, whatever the input. -/
import Derived.OrdersIn
import Derived.Below
import Derived.WalkKit
import Derived.RangeFuncRecord
import Derived.DefersIn
open BitVec renaming ofInt→aq
open Go.Instr renaming sureAddr→mH
open Go.Op renaming bytesLess→cW
open Go.Result renaming andThen_ok→aC
open Go.Sem renaming run→ou,run_bind→aU,run_pure→bK
open Iff renaming rfl→zY
open List renaming rec→fL,replicate→bC,length_cons→ay
open Nat renaming succ→fX,beq→av,ble→zX,min→dN,blt→zW,land→jW,lor→cX,pred→zD,eq_of_beq_eq_true→aX
open Option renaming some→bp
namespace Go.Lift
abbrev ad:=Array Obj
def aD(h:ad)(a:Addr):Option Value:=
 match h[a.block]? with
 |some (.cells c _ _)=>if a.spot.isSome then none else c[a.off]?
 |_=>none
def F1(h:ad)(a:Addr):Bool:=
 match h[a.block]? with
 |some (.cells _ _ (lo,hi))=>lo≤a.off&&a.off<hi
 |_=>false
def hset(h:ad)(a:Addr)(v:Value):ad:=
 h.modify a.block fun
  | .cells c elem frozen=>.cells (if a.spot.isSome then c else c.setIfInBounds a.off v) elem frozen
  |o=>o
noncomputable def adr(a:Addr)(n:Nat):Addr:=Nat.rec (motive:=fun _=>Addr) a (fun n _=>⟨a.block,a.off+fX n,none⟩) n
def Wr(h:ad)(a:Addr):Prop:=(∃v,aD h a=some v)∧F1 h a=false
structure Tame(w w':World):Prop where
 os:w'.os=w.os
 tape:w'.tape=w.tape
 output:w'.output=w.output
structure SliceV where
 a:Option Addr
 len:Nat
 cap:Nat
def Lh:IntKind→IntKind→Bool
 | .i8,.i8=>true| .i16,.i16=>true| .i32,.i32=>true| .i64,.i64=>true
 | .u8,.u8=>true| .u16,.u16=>true| .u32,.u32=>true| .u64,.u64=>true
 |_,_=>false
inductive CK where
 |int (k:IntKind)|bool|str|ptr|slice|map|chan|raw|adr
def CK.den:CK→Type
 | .int _=>Int| .bool=>Bool| .str=>ByteArray| .ptr=>Option Addr| .slice=>SliceV| .map=>Option Nat| .chan=>Option Nat| .raw=>Value| .adr=>Addr
def CK.enc:(c:CK)→c.den→Value
 | .int k,n=>.int k n
 | .bool,b=>.bool b
 | .str,s=>.string s
 | .ptr,p=>.pointer p
 | .slice,s=>.slice s.a s.len s.cap
 | .map,r=>.map r
 | .chan,r=>.chan r
 | .raw,v=>v
 | .adr,a=>.pointer (some a)
def CK.dec:(c:CK)→Value→(c.den→Prop)→Prop
 | .int k,.int k' n,f=>bif Lh k' k then f n else False
 | .bool,.bool b,f=>f b
 | .str,.string s,f=>f s
 | .ptr,.pointer p,f=>f p
 | .slice,.slice a l c,f=>f ⟨a,l,c⟩
 | .map,.map r,f=>f r
 | .chan,.chan r,f=>f r
 | .raw,v,f=>f v
 | .adr,.pointer (some a),f=>f a
 |_,_,_=>False
def VY:List CK→Type
 | []=>Unit
 | [c]=>c.den
 |c::d::cs=>c.den×VY (d::cs)
def VE:(cs:List CK)→VY cs→List Value
 | [],_=> []
 | [c],x=> [c.enc x]
 |c::d::cs,(x,t)=>c.enc x::VE (d::cs) t
def RD:(cs:List CK)→List Value→(VY cs→Prop)→Prop
 | [],[],f=>f ()
 | [c],[v],f=>c.dec v f
 |c::d::cs,v::u::vs,f=>c.dec v fun x=>RD (d::cs) (u::vs) fun t=>f (x,t)
 |_,_,_=>False
inductive Kind where
 |c (k:CK)
 |agg (cs:List CK)
def Kind.den:Kind→Type
 | .c k=>k.den
 | .agg cs=>VY cs
def Kind.enc:(k:Kind)→k.den→Value
 | .c k,x=>k.enc x
 | .agg cs,t=>.agg (VE cs t).toArray
def Kind.dec:(k:Kind)→Value→(k.den→Prop)→Prop
 | .c k,v,f=>k.dec v f
 | .agg cs,.agg vs,f=>RD cs vs.toList f
 |_,_,_=>False
def uC:List Kind→Type
 | []=>Unit
 | [k]=>k.den
 |k::l::ks=>k.den×uC (l::ks)
def mB:(ks:List Kind)→uC ks→List Value
 | [],_=> []
 | [k],x=> [k.enc x]
 |k::l::ks,(x,t)=>k.enc x::mB (l::ks) t
def Fw:(ks:List Kind)→List Value→(uC ks→Prop)→Prop
 | [],[],f=>f ()
 | [k],[v],f=>k.dec v f
 |k::l::ks,v::u::vs,f=>k.dec v fun x=>Fw (l::ks) (u::vs) fun t=>f (x,t)
 |_,_,_=>False
def B9(ks:List Kind)(vs:List Value):Value:=
 match ks,vs with
 | [_],[v]=>v
 |_,vs=>.tuple vs.toArray
def Ys:Value→Option CK
 | .int k _=>some (.int k)
 | .bool _=>some .bool
 | .string _=>some .str
 | .pointer _=>some .ptr
 | .slice .. =>some .slice
 | .map _=>some .map
 | .chan _=>some .chan
 | .nilFunc=>some .raw
 | .nilIface=>some .raw
 |_=>none
def Hu:List Value→Option (List CK)
 | []=>some []
 |v::vs=>match Ys v,Hu vs with
  |some c,some cs=>some (c::cs)
  |_,_=>none
def xo(P:Program)(t:TypeId):Bool:=
 match P.underlying t with
 |some (.struct _)|some (.array _ _)=>true
 |_=>false
def cd(P:Program)(t:TypeId):Nat:=match P.info? t with|some i=>i.size|none=>0
def rK(P:Program)(t:TypeId):Nat:=match P.info? t with|some i=>i.bytes|none=>0
def Aq(P:Program)(t:TypeId):Option Value:=match P.info? t with|some i=>i.zero|none=>none
def Rn(P:Program)(t:TypeId):Option Kind:=
 match Aq P t with
 |some (.agg vs)=>bif xo P t&&av vs.toList.length (cd P t)then(match Hu vs.toList with|some cs=>some (.agg cs)|none=>none)else none
 |some v=>bif xo P t then none else(match Ys v with|some c=>some (.c c)|none=>none)
 |none=>none
def GZ(P:Program)(t:TypeId):Option Kind:=
 match P.underlying t with
 |none=>none
 |some _=>Rn P t
structure HC(P:Program)(f:FuncId)(args:List Value)(ks:List Kind)(K:uC ks→ad→Prop)(h:ad):Prop where
 run:∀w:World,w.heap=h→
  ((callFunc f args.toArray).run P w=.ok (.enter f args.toArray) w∧
   Calls P f args.toArray w fun e w'=>Tame w w'∧∃t:uC ks,e=.returned (B9 ks (mB ks t))∧K t w'.heap)∨
  (∃v w',(callFunc f args.toArray).run P w=.ok (.value v) w'∧Tame w w'∧∃t:uC ks,v=B9 ks (mB ks t)∧K t w'.heap)
structure HE(P:Program)(f:FuncId)(args:List Value)(ks:List Kind)(K:uC ks→ad→Prop)(h:ad):Prop where
 run:∀w:World,w.heap=h→(∀(args:Array Value) (w:World),(callFunc f args).run P w=.ok (.enter f args) w)∧
  Calls P f args.toArray w fun e w'=>Tame w w'∧∃t:uC ks,e=.returned (B9 ks (mB ks t))∧K t w'.heap
theorem HE.hc{P:Program}{f:FuncId}{args:List Value}{ks:List Kind}{K:uC ks→ad→Prop}{h:ad}(e:HE P f args ks K h):HC P f args ks K h:=
 ⟨fun w a=>.inl ⟨(e.run w a).1 _ w,(e.run w a).2⟩⟩
structure HY(P:Program)(l:Nat)(args:List Value)(K:Bool→ad→Prop)(h:ad):Prop where
 run:∀w:World,w.heap=h→∃fn tmps assign body,(Instr.yield l args.toArray).run P w=.ok (.round l fn tmps assign body) w∧
  ∀(c:Frame) (cs:List Frame),∃b w',Tame w w'∧K b w'.heap∧Steps P (lone (Frame.round l fn tmps assign body .normal) (c::cs) w) (lone (c.finish (.bool b)) cs w')
structure HV(P:Program)(fv:Value)(args:List Value)(ks:List Kind)(K:uC ks→ad→Prop)(h:ad):Prop where
 run:(∃f first cap,fv=.func (.func f) first cap∧HC P f (first.toList++args++cap.toList) ks K h)∨
  (∃l,fv=.func (.yield l) #[] #[]∧HY P l args (fun b h'=>Fw ks [.bool b] fun t=>K t h') h)
noncomputable def CondP(b:Bool)(t e:Prop):Prop:=Bool.rec (motive:=fun _=>Prop) e t b
theorem CondP.yes{b:Bool}{t e:Prop}(h:CondP b t e)(a:b=true):t:=by subst a;exact h
theorem CondP.no{b:Bool}{t e:Prop}(h:CondP b t e)(a:b=false):e:=by subst a;exact h
theorem CondP.intro{b:Bool}{t e:Prop}(c:b=true→t)(a:b=false→e):CondP b t e:=by cases b;exact a rfl;exact c rfl
theorem aA{t e:Prop}:CondP true t e↔t:=zY
theorem af{t e:Prop}:CondP false t e↔e:=zY
attribute [irreducible] CondP
def At(h:ad)(k:ad→Prop):Prop:=k h
def Bd{T:Type}(x:T)(k:T→Prop):Prop:=k x
structure Join{T:Type}(rest:T→ad→Prop)(k:(T→ad→Prop)→Prop):Prop where
 run:k rest
structure LoopP{T:Type}(F:(T→ad→Prop)→T→ad→Prop)(t:T)(h:ad):Prop where
 run:∀I:T→ad→Prop,(∀t h,F I t h→I t h)→I t h
abbrev cI:=List (Nat×Value)
noncomputable def kJ(r:cI)(t:Nat):Option Value:=
 fL (motive:=fun _=>Option Value) none (fun a _ b=>bif av a.1 t then some a.2 else b) r
theorem GB(k:Nat)(v:Value)(r:cI)(t:Nat):kJ ((k,v)::r) t=bif av k t then some v else kJ r t:=rfl
noncomputable def dq(r:cI):Operand→Option Value
 | .tmp t=>kJ r t
 | .const v=>some v
 | .global g=>some (.pointer (some ⟨g,0,none⟩))
 | .func f=>some (.func (.func f) #[] #[])
noncomputable def oA(r:cI):List Operand→Option (List Value)
 | []=>some []
 |o::os=>match dq r o,oA r os with
  |some v,some vs=>some (v::vs)
  |_,_=>none
noncomputable def Ls:List CK→Nat→Addr→ad→(List Value→Prop)→Prop
 | [],_,_,_,k=>k []
 |c::cs,i,a,h,k=>∃x:c.den,aD h (adr a i)=some (c.enc x)∧Ls cs (i+1) a h fun vs=>k (c.enc x::vs)
noncomputable def uB:List Value→Nat→Addr→ad→Prop
 | [],_,_,_=>True
 | [v],i,a,h=>aD h (adr a i)=some v
 |v::u::vs,i,a,h=>aD h (adr a i)=some v∧uB (u::vs) (i+1) a h
abbrev RK:=Value→Option (ad→Prop)→Prop
noncomputable def MS(P:Program)(t:TypeId)(v:Value)(K:RK)(h:ad):Prop:=
 match v with
 | .pointer (some a)=>
  match GZ P t with
  |some (.c c)=>∃x:c.den,aD h a=some (c.enc x)∧K (c.enc x) (some fun h'=>aD h' a=some (c.enc x))
  |some (.agg cs)=>Ls cs 0 a h fun vs=>K (.agg vs.toArray) (some fun h'=>uB vs 0 a h')
  |none=>False
 |_=>False
def yF(P:Program)(t:TypeId)(f:Nat):Option (TypeId×Nat):=
 match P.underlying t with
 |some (.struct fs)=>match fs.toList[f]? with
  |some g=>some (g.type,g.offset)
  |none=>none
 |_=>none
def xF(P:Program)(t:TypeId):Option TypeId:=
 match P.underlying t with
 |some (.slice e)=>some e
 |_=>none
def Pb(op:BinOp)(k:IntKind)(a b:Int)(K:RK):Prop:=
 match op with
 | .shl=>0≤b∧K (.int k (k.wrap (a*2^(min b.toNat k.bits)))) none
 | .shr=>0≤b∧K (.int k (a.fdiv (2^(min b.toNat k.bits)))) none
 |_=>False
def Yf(op:BinOp)(k:IntKind)(a b:Int)(K:RK):Prop:=
 match op with
 | .add=>K (.int k (k.wrap (a+b))) none
 | .sub=>K (.int k (k.wrap (a-b))) none
 | .mul=>K (.int k (k.wrap (a*b))) none
 | .quo=>b≠0∧K (.int k (k.wrap (a.tdiv b))) none
 | .rem=>b≠0∧K (.int k (a.tmod b)) none
 | .and=>K (.int k (k.wrap (aq k.bits a&&&aq k.bits b).toNat)) none
 | .or=>K (.int k (k.wrap (aq k.bits a|||aq k.bits b).toNat)) none
 | .xor=>K (.int k (k.wrap (aq k.bits a^^^aq k.bits b).toNat)) none
 | .andNot=>K (.int k (k.wrap (aq k.bits a&&& ~~~aq k.bits b).toNat)) none
 | .eql=>K (.bool (a==b)) none
 | .neq=>K (.bool (a !=b)) none
 | .lss=>K (.bool (decide (a<b))) none
 | .leq=>K (.bool (decide (a≤b))) none
 | .gtr=>K (.bool (decide (a>b))) none
 | .geq=>K (.bool (decide (a≥b))) none
 |_=>False
def X0(op:BinOp)(a b:ByteArray)(K:RK):Prop:=
 match op with
 | .add=>((a.size+b.size:Nat):Int)≤9223372036854775807∧K (.string (a++b)) none
 | .eql=>K (.bool (a.toList==b.toList)) none
 | .neq=>K (.bool (!(a.toList==b.toList))) none
 | .lss=>K (.bool (cW a.toList b.toList)) none
 | .leq=>K (.bool (cW a.toList b.toList||a.toList==b.toList)) none
 | .gtr=>K (.bool (!(cW a.toList b.toList||a.toList==b.toList))) none
 | .geq=>K (.bool (!(cW a.toList b.toList))) none
 |_=>False
def hT(h:ad)(a:Addr):Prop:=(∃c e,h[a.block]? =some (.cells c e (0,0))∧0<c.size)
def Ye:Value→Bool
 | .func _ _ _=>true
 | .nilFunc=>true
 |_=>false
def Yb:Value→Bool
 | .nilFunc=>true
 |_=>false
def W2:Value→Bool
 | .iface _ _=>true
 | .nilIface=>true
 |_=>false
def SE:Value→Bool
 | .nilIface=>true
 |_=>false
def WQ(P:Program)(t:TypeId)(neg:Bool)(x y:Value)(K:RK):Prop:=
 match P.underlying t,x,y with
 |some (.pointer _),.pointer a,.pointer none=>K (.bool (bif neg then !a.isNone else a.isNone)) none
 |some (.map _ _),.map a,.map none=>K (.bool (bif neg then !a.isNone else a.isNone)) none
 |some (.slice _),.slice a _ _,.slice none _ _=>K (.bool (bif neg then !a.isNone else a.isNone)) none
 |some (.func _ _ _),x,.nilFunc=>Ye x=true∧K (.bool (bif neg then !(Yb x)else Yb x)) none
 |some (.interface _),x,.nilIface=>W2 x=true∧K (.bool (bif neg then !(SE x)else SE x)) none
 |_,_,_=>False
def U0:Operand→Bool
 | .const (.pointer none)=>true
 | .const (.map none)=>true
 | .const (.slice none 0 0)=>true
 | .const .nilFunc=>true
 | .const .nilIface=>true
 |_=>false
def ZI(P:Program)(t:TypeId)(neg:Bool)(x y:Value)(K:RK)(h:ad):Prop:=
 match P.underlying t,x,y with
 |some .bool,.bool a,.bool b=>K (.bool (bif neg then !(a==b)else a==b)) none
 |some (.pointer e),.pointer a,.pointer b=>
  (bif av (cd P e) 0 then False else True)∧
  (∀x y,a=some x→b=some y→hT h x∧hT h y)∧
  K (.bool (bif neg then !(a==b)else a==b)) (some fun h'=>∀x y,a=some x→b=some y→hT h' x∧hT h' y)
 |_,_,_=>False
def WG(P:Program)(op:BinOp)(t:TypeId)(x y:Value)(K:RK)(h:ad):Prop:=
 match x,y with
 | .int k a,.int k' b=>
  match op with
  | .shl=>Pb .shl k a b K
  | .shr=>Pb .shr k a b K
  |op=>bif Lh k' k then Yf op k a b K else False
 | .string a,.string b=>X0 op a b K
 |x,y=>match op with
  | .eql=>ZI P t false x y K h
  | .neq=>ZI P t true x y K h
  |_=>False
def sZ(h:ad):List (Option Addr×Option Addr)→Prop
 | []=>True
 |(a,b)::l=>(∀x y,a=some x→b=some y→hT h x∧hT h y)∧sZ h l
def Vh(P:Program)(t:TypeId)(x y:Value):Option (Bool×List (Option Addr×Option Addr)):=
 match P.underlying t,x,y with
 |some (.int _),.int k a,.int k' b=>bif Lh k' k then some (a==b,[])else none
 |some .bool,.bool a,.bool b=>some (a==b,[])
 |some .string,.string a,.string b=>some (a.toList==b.toList,[])
 |some (.pointer e),.pointer a,.pointer b=>bif av (cd P e) 0 then none else some (a==b,[(a,b)])
 |_,_,_=>none
def Xe(P:Program)(rec:TypeId→List Value→List Value→Option (Bool×List (Option Addr×Option Addr)))(xs ys:List Value):List Field→Option (Bool×List (Option Addr×Option Addr))
 | []=>some (true,[])
 |f::fs=>
  if f.name= "_" then none else
  bif (P.underlying f.type).isSome&&(P.info? f.type).isSome then
   match(bif xo P f.type then rec f.type ((xs.drop f.offset).take (cd P f.type)) ((ys.drop f.offset).take (cd P f.type))
    else match xs[f.offset]?,ys[f.offset]? with|some x,some y=>Vh P f.type x y|_,_=>none),Xe P rec xs ys fs with
   |some (b,l),some (c,m)=>some (b&&c,l++m)
   |_,_=>none
  else none
def Vi(P:Program):Nat→TypeId→List Value→List Value→Option (Bool×List (Option Addr×Option Addr))
 |0,_,_,_=>none
 |d+1,t,xs,ys=>match P.underlying t with
  |some (.struct fs)=>bif P.stoodInHeld t then none else Xe P (Vi P d) xs ys fs.toList
  |_=>none
def aaI(neg b:Bool)(K:RK)(h:ad):List (Option Addr×Option Addr)→Prop
 | []=>K (.bool (bif neg then !b else b)) none
 |p::l=>sZ h (p::l)∧K (.bool (bif neg then !b else b)) (some fun h'=>sZ h' (p::l))
def X7(P:Program)(op:BinOp)(t:TypeId)(xs ys:List Value)(K:RK)(h:ad):Prop:=
 bif P.eqGuardType P.depth t then False else
 match op with
 | .eql=>(match Vi P 10 t xs ys with|some (b,l)=>aaI false b K h l|none=>False)
 | .neq=>(match Vi P 10 t xs ys with|some (b,l)=>aaI true b K h l|none=>False)
 |_=>False
def Z3(op:UnOp)(x:Value)(K:RK):Prop:=
 match op,x with
 | .neg,.int k n=>K (.int k (k.wrap (0-n))) none
 | .xor,.int k n=>K (.int k (k.wrap (aq k.bits (if k.signed then-1 else k.max)^^^aq k.bits n).toNat)) none
 | .not,.bool b=>K (.bool (!b)) none
 |_,_=>False
def cL(s:ByteArray):List Value:=s.data.toList.map fun b=>.int .u8 b.toNat
noncomputable def Row(h:ad)(a:Addr)(vs:List Value):Prop:=∀i v,vs[i]? =some v→aD h (adr a i)=some v
noncomputable def SRow(h:ad)(a:Option Addr)(n:Nat)(vs:List Value):Prop:=vs.length=n∧(vs= []∨∃b,a=some b∧Row h b vs)
def PU(P:Program)(e:TypeId):Bool:=match P.underlying e with|some (.int .u8)=>true|_=>false
def Yd(P:Program)(s d:TypeId):Bool:=
 match P.underlying s,P.underlying d with
 |some .string,some (.slice e)=>PU P e
 |_,_=>false
def ZK(e:TypeId)(s:ByteArray)(h:ad)(K:Nat→ad→Prop):Prop:=
 ∀c,s.size≤c→K c (h.push (.cells (cL s++bC (c-s.size) (Value.int .u8 0)).toArray e (c,c+1)))
noncomputable def UC(P:Program)(c b:TypeId)(x:Value)(K:RK)(h:ad):Prop:=
 match P.underlying c,P.underlying b,x with
 |some (.int _),some (.int k),.int _ n=>K (.int k (k.wrap n)) none
 |some .string,some .string,.string s=>K (.string s) none
 |some (.slice e),some .string,.slice a n _=>bif PU P e then∃s:ByteArray,SRow h a n (cL s)∧K (.string s) (some fun h'=>SRow h' a n (cL s))else False
 |_,_,_=>False
def bnd(v:Option Value)(d y:Nat)(K:Nat→Prop):Prop:=
 match v with
 |none=>K d
 |some (.int _ i)=>(0≤i∧i≤y)∧K i.toNat
 |_=>False
noncomputable def aV(a:Option Addr)(l m size:Nat):Option Addr:=if m=l then a else a.map (adr · (l*size))
def UO(P:Program)(t:TypeId)(K:Prop):Prop:=match P.info? t with|some _=>K|none=>False
noncomputable def Pp(P:Program)(t:TypeId)(x:Value)(lo hi b:Option Value)(K:RK):Prop:=
 match P.underlying t,x with
 |some .string,.string s=>match b with
  |some _=>False
  |none=>bnd hi s.size s.size fun h=>bnd lo 0 h fun l=>K (.string (s.extract l h)) none
 |some (.slice e),.slice a len cap=>UO P e (
  match b with
  |none=>bnd hi len cap fun h=>bnd lo 0 h fun l=>K (.slice (aV a l cap (cd P e)) (h-l) (cap-l)) none
  |some m=>match hi with
   |none=>False
   |some hi=>bnd (some m) 0 cap fun m=>bnd (some hi) 0 m fun h=>bnd lo 0 h fun l=>K (.slice (aV a l m (cd P e)) (h-l) (m-l)) none)
 |some (.array n e),.pointer (some a)=>UO P e (
  match b with
  |none=>bnd hi n n fun h=>bnd lo 0 h fun l=>K (.slice (aV (some a) l n (cd P e)) (h-l) (n-l)) none
  |some _=>False)
 |_,_=>False
noncomputable def JA(r:cI):Option Operand→Option (Option Value)
 |none=>some none
 |some o=>match dq r o with
  |some v=>some (some v)
  |none=>none
noncomputable def A9(P:Program)(t:TypeId)(x i:Value)(K:RK):Prop:=
 match P.underlying t,x,i with
 |some (.array n e),.pointer (some a),.int _ i=>UO P e ((0≤i∧i<n)∧K (.pointer (some (adr a (i.toNat*cd P e)))) none)
 |some (.slice e),.slice b len _,.int _ i=>UO P e ((0≤i∧i<len)∧∃a,b=some a∧K (.pointer (some (adr a (i.toNat*cd P e)))) none)
 |_,_,_=>False
def Pt(P:Program)(t:TypeId)(x i:Value)(K:RK):Prop:=
 match P.underlying t,x,i with
 |some .string,.string s,.int _ i=>∃b:UInt8,0≤i∧s[i.toNat]? =some b∧K (.int .u8 b.toNat) none
 |_,_,_=>False
noncomputable def Pv(P:Program)(t:TypeId)(x:Value)(f:Nat)(K:RK):Prop:=
 match yF P t f,x with
 |some (u,off),.agg cs=>bif (P.underlying u).isSome&&(P.info? u).isSome then(bif xo P u then K (.agg ((cs.toList.drop off).take (cd P u)).toArray) none
  else(match cs.toList[off]? with|some v=>K v none|none=>False))else False
 |_,_=>False
def XB(c a b:Value)(K:RK):Prop:=
 match c with
 | .bool c=>(match a,b with
  | .bool x,.bool y=>K (.bool (bif c then x else y)) none
  |_,_=>(match c with|true=>K a none|false=>K b none))
 |_=>False
def f9:Value→Value→Bool
 | .int _ a,.int _ b=>a==b
 | .string a,.string b=>a==b
 | .bool a,.bool b=>a==b
 |_,_=>false
def Hb(k:Value):List MapEntry→Option Value
 | []=>none
 |e::es=>if f9 k e.key then some e.val else Hb k es
def keysOf(c:CK)(es:List MapEntry):Prop:=∀e∈es,∃x:c.den,e.key=c.enc x
def xq(c:CK)(z:Value)(h:ad)(m:Option Nat)(k v:Value)(ok:Bool):Prop:=
 match m with
 |none=>v=z∧ok=false
 |some r=>∃es clock,h[r]? =some (.map es clock)∧keysOf c es.toList∧
  (match Hb k es.toList with|some u=>v=u∧ok=true|none=>v=z∧ok=false)
def Ns(P:Program)(t:TypeId):Option (CK×TypeId):=
 match P.underlying t with
 |some (.map k e)=>match P.underlying k with
  |some (.int i)=>some (.int i,e)
  |some .string=>some (.str,e)
  |some .bool=>some (.bool,e)
  |_=>none
 |_=>none
def KS(P:Program)(t:TypeId)(x k:Value)(ok:Bool)(K:RK)(h:ad):Prop:=
 match Ns P t,x with
 |some (c,e),.map m=>c.dec k fun _=>
  (match GZ P e,Aq P e with
   |some ek,some z=>∃(y:ek.den) (b:Bool),xq c z h m k (ek.enc y) b∧
    K (bif ok then .tuple #[ek.enc y,.bool b]else ek.enc y) (some fun h'=>xq c z h' m k (ek.enc y) b)
   |_,_=>False)
 |_,_=>False
def HL(h:ad)(m:Option Nat)(n:Nat):Prop:=
 match m with
 |none=>n=0
 |some r=>∃es clock,h[r]? =some (.map es clock)∧n=es.size
def RJ(c:Bool)(h:ad)(m:Option Nat)(n:Nat):Prop:=
 match m with
 |none=>n=0
 |some r=>∃cap buf cl s q,h[r]? =some (.chan cap buf cl s q false)∧n=bif c then cap else buf.size
def X5(P:Program)(t:TypeId)(x:Value)(K:RK)(h:ad):Prop:=
 match P.underlying t,x with
 |some .string,.string s=>K (.int .i64 s.size) none
 |some (.array n _),_=>K (.int .i64 n) none
 |some (.slice _),.slice _ n _=>K (.int .i64 n) none
 |some (.map _ _),.map m=>∃n:Nat,HL h m n∧K (.int .i64 n) (some fun h'=>HL h' m n)
 |some (.chan _ _),.chan m=>∃n:Nat,RJ false h m n∧K (.int .i64 n) (some fun h'=>RJ false h' m n)
 |_,_=>False
def X6(P:Program)(t:TypeId)(x:Value)(K:RK)(h:ad):Prop:=
 match P.underlying t,x with
 |some (.slice _),.slice _ _ n=>K (.int .i64 n) none
 |some (.chan _ _),.chan m=>∃n:Nat,RJ true h m n∧K (.int .i64 n) (some fun h'=>RJ true h' m n)
 |_,_=>False
def K8(c:Bool)(k:IntKind):Int→List Value→(Value→Prop)→Prop
 |a,[],f=>f (.int k a)
 |a,.int k' b::vs,f=>bif Lh k' k then K8 c k (bif c then(if b>a then b else a)else(if b<a then b else a)) vs f else False
 |_,_,_=>False
def FU(b:Bool)(vs:List Value)(f:Value→Prop):Prop:=
 match vs with
 | .int k a::vs=>K8 b k a vs f
 |_=>False
def Qu(h:ad)(i:Nat)(e:MapEntry):Prop:=
 ∃m since seen last stamp es,h[i]? =some (.mapIter (some m) since seen last)∧seen.back? =some stamp∧h[m]? =some (.map es last)∧es.find? (fun e=>e.born==stamp)=some e
def qR(P:Program)(t:TypeId):Bool:=match P.underlying t with|some (.interface _)=>false|some _=>true|none=>false
def Rc(P:Program)(t:TypeId)(x:Value)(K:RK):Prop:=
 bif qR P t then(match GZ P t with
  |some k=>∃y:k.den,x=.iface t (k.enc y)∧K (k.enc y) none
  |none=>False)else False
def M0(cs:List Value)(off:Nat)(vs:List Value):List Value:=cs.take off++vs++cs.drop (off+vs.length)
def EO(a:Nat→Option (Nat×Nat)):List Value→List (Nat×Value)→Option (List Value)
 |cs,[]=>some cs
 |cs,(i,v)::rest=>match a i with
  |none=>none
  |some (off,size)=>bif av v.cells.toList.length size&&zX (off+v.cells.toList.length) cs.length then EO a (M0 cs off v.cells.toList) rest else none
noncomputable def qQ(r:cI):List (Nat×Operand)→Option (List (Nat×Value))
 | []=>some []
 |(i,o)::ps=>match dq r o,qQ r ps with
  |some v,some vs=>some ((i,v)::vs)
  |_,_=>none
def rC(P:Program)(t:TypeId):Option (List Value):=match Aq P t with|some z=>some z.cells.toList|none=>none
def du(n:Nat)(z:List Value):List Value:=(bC n z).flatten
def zQ(P:Program)(t:TypeId):Bool:=match P.info? t with|some _=>true|none=>false
def CJ(P:Program):List Field→Bool
 | []=>true
 |f::fs=>bif zQ P f.type then CJ P fs else false
def PD(P:Program)(a:List Field)(i:Nat):Option (Nat×Nat):=match a[i]? with|some f=>some (f.offset,cd P f.type)|none=>none
def LB(P:Program)(t:TypeId)(a:List (Nat×Value)):Option (List Value):=
 match P.underlying t,rC P t with
 |some (.struct fs),some z=>bif CJ P fs.toList then EO (PD P fs.toList) z a else none
 |some (.array _ e),some z=>bif zQ P e then EO (fun i=>some (i*cd P e,cd P e)) z a else none
 |_,_=>none
def Pq(v:Value)(K:RK):Prop:=
 match v with
 | .slice a _ c=>(a=none∨c≠0)∧K (.pointer a) none
 |_=>False
noncomputable def Dy(P:Program)(ek:Option (Kind×Kind))(o:Op)(r:cI)(K:RK)(h:ad):Prop:=
 match o with
 | .entry it=>match dq r it,ek with
  |some (.pointer (some a)),some (kk,vk)=>a.off=0∧∃(e:MapEntry) (x:kk.den) (y:vk.den),Qu h a.block e∧e.key=kk.enc x∧e.val=vk.enc y∧
    K (.tuple #[kk.enc x,vk.enc y]) (some fun h'=>Qu h' a.block e)
  |_,_=>False
 | .move x| .assign x=>match dq r x with|some v=>K v none|none=>False
 | .load t a=>match dq r a with|some v=>MS P t v K h|none=>False
 | .nilCheck x=>match dq r x with|some (.pointer p)=>∃a,p=some a∧K (.pointer (some a)) none|_=>False
 | .binOp op t x y _=>match U0 y,dq r x,dq r y with
  |true,some v,some u=>(match op with
   | .eql=>WQ P t false v u K
   | .neq=>WQ P t true v u K
   |op=>WG P op t v u K h)
  |false,some (.agg v),some (.agg u)=>X7 P op t v.toList u.toList K h
  |false,some v,some u=>WG P op t v u K h
  |_,_,_=>False
 | .unOp op _ x=>match dq r x with|some v=>Z3 op v K|none=>False
 | .convert s d x=>match dq r x with|some v=>UC P s d v K h|none=>False
 | .pick c a b=>match dq r c,dq r a,dq r b with|some c,some a,some b=>XB c a b K|_,_,_=>False
 | .extract x i=>match dq r x with
  |some (.tuple vs)=>(match vs.toList[i]? with|some v=>K v none|none=>False)
  |_=>False
 | .fieldAddr t x f=>match dq r x,yF P t f with
  |some (.pointer (some a)),some (u,off)=>bif av (cd P u) 0 then False else K (.pointer (some (adr a off))) none
  |_,_=>False
 | .field t x f=>match dq r x with|some v=>Pv P t v f K|none=>False
 | .indexAddr t x i=>match dq r x,dq r i with|some v,some u=>A9 P t v u K|_,_=>False
 | .index t x i=>match dq r x,dq r i with|some v,some u=>Pt P t v u K|_,_=>False
 | .slice t x lo hi mx=>match dq r x,JA r lo,JA r hi,JA r mx with
  |some v,some l,some h',some m=>Pp P t v l h' m K
  |_,_,_,_=>False
 | .lookup t x k ok=>match dq r x,dq r k with|some v,some u=>KS P t v u ok K h|_,_=>False
 | .makeInterface t x=>match dq r x with|some v=>bif qR P t then K (.iface t v) none else False|none=>False
 | .typeAssert x _ t ok=>match dq r x with|some v=>bif ok then False else Rc P t v K|none=>False
 | .build t ps=>match qQ r ps.toList with
  |some vs=>(match LB P t vs with|some cs=>K (.agg cs.toArray) none|none=>False)
  |none=>False
 | .makeFunc fn first cap=>match oA r first.toList,oA r cap.toList with
  |some vs,some us=>K (.func fn vs.toArray us.toArray) none
  |_,_=>False
 | .call c=>match c.callee,oA r c.args.toList,c.argTypes.toList with
  | .builtin .len,some [v],[t]=>X5 P t v K h
  | .builtin .cap,some [v],[t]=>X6 P t v K h
  | .builtin .min,some vs,_=>FU false vs fun v=>K v none
  | .builtin .max,some vs,_=>FU true vs fun v=>K v none
  | .builtin .unsafeSliceData,some [v],_=>Pq v K
  |_,_,_=>False
 |_=>False
abbrev WK:=Value→ad→Prop
def aH(h:ad):Addr:=⟨h.size,0,none⟩
def hnew(h:ad)(cs:List Value)(t:TypeId):ad:=h.push (.cells cs.toArray t (0,0))
def cu:List Value→Bool
 | []=>true
 |v::vs=>(match v with| .agg _=>false| .tuple _=>false|_=>true)&&cu vs
noncomputable def ib(h:ad)(a:Addr):Nat→List Value→ad
 |_,[]=>h
 |i,v::vs=>ib (hset h (adr a i) v) a (i+1) vs
noncomputable def fI(h:ad)(a:Option Addr)(i:Nat)(vs:List Value):ad:=match a with|some a=>ib h a i vs|none=>h
noncomputable def sN(h:ad)(a:Option Addr)(i:Nat)(vs:List Value):Prop:=vs= []∨∃b,a=some b∧∀j,j<vs.length→Wr h (adr b (i+j))
noncomputable def OV(P:Program)(t:TypeId)(a v:Value)(K:WK)(h:ad):Prop:=
 match a with
 | .pointer (some a)=>bif av v.cells.toList.length (cd P t)&&cu v.cells.toList then UO P t
   (match v.cells.toList with
    | [v]=>Wr h a∧K undef (hset h a v)
    |vs=>sN h (some a) 0 vs∧K undef (ib h a 0 vs))
  else False
 |_=>False
noncomputable def VP(P:Program)(e:TypeId)(a:Option Addr)(sl c b:Nat)(xs:List Value)(K:WK)(h:ad):Prop:=
 (sl+b≤c→sN h a (sl*cd P e) xs∧cu xs=true∧K (.slice a (sl+b) c) (fI h a (sl*cd P e) xs))∧
 (c<sl+b→∃old z,SRow h a (sl*cd P e) old∧rC P e=some z∧0<rK P e∧Builtin.nextslicecap (sl+b) c*rK P e≤2^48∧
  ∀nc,sl+b≤nc→K (.slice (some (aH h)) (sl+b) nc) (hnew h (old++xs++du (nc-(sl+b)) z) e))
noncomputable def FK(P:Program)(t:TypeId)(s x:Value)(K:WK)(h:ad):Prop:=
 match xF P t,s,x with
 |some e,.slice b sl sc,.slice a xl _=>UO P e (∃xs,SRow h a (xl*cd P e) xs∧VP P e b sl sc xl xs K h)
 |some e,.slice b sl sc,.string x=>bif av (cd P e) 1 then VP P e b sl sc x.size (cL x) K h else False
 |_,_,_=>False
noncomputable def Gh(P:Program)(t:TypeId)(s x:Value)(K:WK)(h:ad):Prop:=
 match xF P t,s,x with
 |some e,.slice b sl sc,.int _ l=>(match rC P e with
  |some z=>bif av z.length (cd P e)then(0≤l∧l*rK P e≤2^48∧l≤9223372036854775807∧((sl+l.toNat:Nat):Int)≤9223372036854775807)∧VP P e b sl sc l.toNat (du l.toNat z) K h else False
  |none=>False)
 |_,_,_=>False
noncomputable def OX(P:Program)(t:TypeId)(x:Value)(K:WK)(h:ad):Prop:=
 match xF P t,x with
 |some e,.slice a n _=>(match rC P e with
  |some z=>bif cu z then sN h a 0 (du n z)∧K (.tuple #[]) (fI h a 0 (du n z))else False
  |none=>False)
 |_,_=>False
noncomputable def TT(P:Program)(t:TypeId)(d s:Value)(K:WK)(h:ad):Prop:=
 match xF P t,d,s with
 |some e,.slice b dl _,.slice a sl _=>UO P e (∃xs,SRow h a (dN sl dl*cd P e) xs∧sN h b 0 xs∧cu xs=true∧K (.int .i64 (dN sl dl)) (fI h b 0 xs))
 |some e,.slice b dl _,.string x=>bif av (cd P e) 1 then sN h b 0 ((cL x).take dl)∧K (.int .i64 (dN x.size dl)) (fI h b 0 ((cL x).take dl))else False
 |_,_,_=>False
def KW(k v:Value)(a:Nat):List MapEntry→List MapEntry×Nat
 | []=>([{key:=k,val:=v,born:=a}],a+1)
 |e::es=>if f9 k e.key then({e with key:=k,val:=v}::es,a)else let r:=KW k v a es;(e::r.1,r.2)
def Ho(k:Value):List MapEntry→List MapEntry
 | []=> []
 |e::es=>if f9 k e.key then es else e::Ho k es
def za(c:CK)(h:ad)(r:Nat):Prop:=∃es clock,h[r]? =some (.map es clock)∧keysOf c es.toList
def mR(h:ad)(r:Nat)(k v:Value):ad:=
 match h[r]? with
 |some (.map es clock)=>h.setIfInBounds r (.map (KW k v clock es.toList).1.toArray (KW k v clock es.toList).2)
 |_=>h
def GR(h:ad)(r:Nat)(k:Value):ad:=
 match h[r]? with
 |some (.map es clock)=>h.setIfInBounds r (.map (Ho k es.toList).toArray clock)
 |_=>h
def FJ(P:Program)(t:TypeId)(m k v:Value)(K:WK)(h:ad):Prop:=
 match Ns P t,m with
 |some (c,_),.map m=>c.dec k fun _=>∃r,m=some r∧za c h r∧K undef (mR h r k v)
 |_,_=>False
def Gf(P:Program)(t:TypeId)(m k:Value)(K:WK)(h:ad):Prop:=
 match Ns P t,m with
 |some (c,_),.map m=>c.dec k fun _=>(m=none∧K (.tuple #[]) h)∨(∃r,m=some r∧za c h r∧K (.tuple #[]) (GR h r k))
 |_,_=>False
def Uv(P:Program):List TypeId→Option (List Kind)
 | []=>some []
 |t::ts=>match GZ P t,Uv P ts with
  |some k,some ks=>some (k::ks)
  |_,_=>none
def Uw(P:Program)(t:TypeId):Option (List Kind):=
 match P.underlying t with
 |some (.tuple ts)=>Uv P ts.toList
 |_=>Uv P [t]
noncomputable def Xu(P:Program)(f:Operand)(r:cI)(args:List Value)(t:TypeId)(K:WK)(h:ad):Prop:=
 match Uw P t with
 |none=>False
 |some ks=>match f with
  | .func f=>HC P f args ks (fun x h'=>K (B9 ks (mB ks x)) h') h
  |f=>match dq r f with
   |some fv=>HV P fv args ks (fun x h'=>K (B9 ks (mB ks x)) h') h
   |none=>False
def TS(b:Value)(K:WK)(h:ad):Prop:=
 match b with
 | .pointer (some a)=>a.off=0∧
  ∃m since seen last,h[a.block]? =some (.mapIter m since seen last)∧
   ((m=none∧K (.tuple #[.bool false]) h)∨
    (∃r es clock,m=some r∧h[r]? =some (.map es clock)∧(seen.isEmpty=true∨es.isEmpty=true∨es.all (fun e=>decide (e.born≥last))=false)∧
     ((∀e∈es.toList,e.born<since→seen.contains e.born=true)→K (.tuple #[.bool false]) h)∧
     (∀e∈es.toList,seen.contains e.born=false→K (.tuple #[.bool true,e.key,e.val]) (h.setIfInBounds a.block (.mapIter (some r) since (seen.push e.born) clock)))))
 |_=>False
def OW(c:Value)(K:WK)(h:ad):Prop:=
 match c with
 | .pointer (some a)=>a.off=0∧∃s pos,h[a.block]? =some (.stringIter s pos)∧
  ((s.size≤pos∧K (.tuple #[.bool false]) h)∨
   (∃b:UInt8,s[pos]? =some b∧b.toNat<128∧K (.tuple #[.bool true,.int .i64 pos,.int .i32 b.toNat]) (h.setIfInBounds a.block (.stringIter s (pos+1)))))
 |_=>False
def hfreeze(h:ad)(g n:Nat):ad:=
 h.modify g fun
  | .cells c elem (lo,hi)=>.cells c elem (if lo==hi then(0,0+n)else(min lo 0,max hi (0+n)))
  |o=>o
def XI(e:TypeId)(a:Option Addr)(n:Int)(h:ad)(K:ByteArray→ad→Prop):Prop:=
 (n=0∧K ⟨#[]⟩ h)∨∃(l:List UInt8) (g:Nat) (cs:Array Value),a=some ⟨g,0,none⟩∧n=l.length∧l≠[]∧l.length≤9223372036854775807∧h[g]? =some (.cells cs e (0,0))∧l.length≤cs.size∧
  (∀(j:Nat) (x:UInt8),l[j]? =some x→cs[j]? =some (.int .u8 x.toNat))∧K ⟨l.toArray⟩ (hfreeze h g l.length)
def TR(P:Program)(t:TypeId)(p n:Value)(K:WK)(h:ad):Prop:=
 match P.underlying t,p,n with
 |some (.pointer e),.pointer a,.int .i64 n=>bif av (P.cellsOf e) 1 then XI e a n h (fun s h'=>K (.string s) h')else False
 |_,_,_=>False
noncomputable def Ia(P:Program)(o:Oper)(r:cI)(K:WK)(h:ad):Prop:=
 match o.op with
 | .alloc t=>(match rC P t with|some z=>K (.pointer (some (aH h))) (hnew h z t)|none=>False)
 | .box t x=>(match dq r x with|some v=>K (.pointer (some (aH h))) (hnew h v.cells.toList t)|none=>False)
 | .build t ps=>(match qQ r ps.toList with
  |some vs=>(match LB P t vs with|some cs=>K (.agg cs.toArray) h|none=>False)
  |none=>False)
 | .buildSlice t n ps=>(match xF P t,qQ r ps.toList with
  |some e,some vs=>(match rC P e with
   |some z=>bif zX (n*cd P e) 16777216&&av z.length (cd P e)then
     (match EO (fun i=>some (i*cd P e,cd P e)) (du n z) vs with|some cs=>K (.slice (some (aH h)) n n) (hnew h cs e)|none=>False)
    else False
   |none=>False)
  |_,_=>False)
 | .store t a x=>(match dq r a,dq r x with|some a,some v=>OV P t a v K h|_,_=>False)
 | .mapUpdate t m k x=>(match dq r m,dq r k,dq r x with|some m,some k,some v=>FJ P t m k v K h|_,_,_=>False)
 | .insert t m k x=>(match dq r m,dq r k,dq r x with|some m,some k,some v=>FJ P t m k v K h|_,_,_=>False)
 | .makeMap t n=>(match n with
  |none=>K (.map (some h.size)) (h.push (.map #[] 0))
  |some n=>(match dq r n,P.underlying t with|some (.int _ _),some (.map _ _)=>K (.map (some h.size)) (h.push (.map #[] 0))|_,_=>False))
 | .makeSlice t l c=>(match xF P t,dq r l,dq r c with
  |some e,some (.int _ l),some (.int _ c)=>(match rC P e with
   |some z=>bif av z.length (cd P e)then(0≤l∧l≤c∧c≤9223372036854775807∧rK P e*c≤2^48)∧K (.slice (some (aH h)) l.toNat c.toNat) (hnew h (du c.toNat z) e)else False
   |none=>False)
  |_,_,_=>False)
 | .convert s d x=>(match P.underlying s,P.underlying d,dq r x with
  |some .string,some (.slice e),some (.string v)=>bif PU P e then ZK e v h (fun c h'=>K (.slice (some (aH h)) v.size c) h')else False
  |_,_,_=>False)
 | .range t x=>(match P.underlying t,dq r x with
  |some (.map _ _),some (.map m)=>∃clock,(m=none∧clock=0∨∃r es,m=some r∧h[r]? =some (.map es clock))∧K (.pointer (some (aH h))) (h.push (.mapIter m clock #[] clock))
  |some .string,some (.string s)=>K (.pointer (some (aH h))) (h.push (.stringIter s 0))
  |_,_=>False)
 | .next it false=>(match dq r it with|some it=>TS it K h|none=>False)
 | .next it true=>(match dq r it with|some it=>OW it K h|none=>False)
 | .call c=>(match c.callee,oA r c.args.toList with
  | .builtin .append,some [s,x]=>(match c.argTypes.toList with| [t,u]=>(match P.underlying u with|some (.slice _)=>FK P t s x K h|some .string=>FK P t s x K h|some (.int _)=>Gh P t s x K h|_=>False)|_=>False)
  | .builtin .clear,some [x]=>(match c.argTypes.toList with| [t]=>OX P t x K h|_=>False)
  | .builtin .copy,some [d,s]=>(match c.argTypes.toList with| [t,_]=>TT P t d s K h|_=>False)
  | .builtin .unsafeString,some [p,n]=>(match c.argTypes.toList with| [t,_]=>TR P t p n K h|_=>False)
  | .builtin .delete,some [m,k]=>(match c.argTypes.toList with| [t,_]=>Gf P t m k K h|_=>False)
  | .value f,some args=>Xu P f r args o.type K h
  |_,_=>False)
 |_=>False
def xH(P:Program):Op→Bool
 | .convert s d _=> !Yd P s d
 | .alloc _| .box .. | .buildSlice .. | .store .. | .mapUpdate .. | .insert .. | .makeMap .. | .makeSlice .. | .range .. | .next .. =>false
 | .call c=>match c.callee with
  | .builtin .len| .builtin .cap| .builtin .min| .builtin .max| .builtin .unsafeSliceData=>true
  |_=>false
 |_=>true
def Bo(N:Nat)(o:Oper)(v:Value)(r:cI)(K:cI→Prop):Prop:=
 match o.dst with
 |none=>K r
 |some d=>bif zW d N then K ((d,v)::r)else False
noncomputable def YA(P:Program)(N:Nat)(ek:Option (Kind×Kind))(o:Oper)(r:cI)(K:cI→ad→Prop)(h:ad):Prop:=
 bif xH P o.op then Dy P ek o.op r (fun v _=>Bo N o v r fun a=>K a h) h
 else Ia P o r (fun v h'=>Bo N o v r fun a=>K a h') h
inductive DV where
 |f|t|u|x
abbrev wL:=List (Nat×DV)
noncomputable def sf(d:wL)(t:Nat):DV:=
 fL (motive:=fun _=>DV) .x (fun a _ b=>bif av a.1 t then a.2 else b) d
noncomputable def CD(d:wL):Operand→DV
 | .tmp t=>sf d t
 | .const (.bool true)=>.t
 | .const (.bool false)=>.f
 |_=>.x
noncomputable def Ma(d:wL):Op→DV
 | .move x=>CD d x
 | .assign x=>CD d x
 | .pick c a b=>match CD d c with
  | .t=>CD d a
  | .f=>CD d b
  |_=>.x
 | .unOp .not _ x=>match CD d x with
  | .t=>.f
  | .f=>.t
  |_=>.x
 |_=>.x
def sK(d:wL)(o:Oper)(v:DV):wL:=match o.dst with|some t=>(t,v)::d|none=>d
noncomputable def jn(ops:List Oper)(d:wL)(o:Oper):Option Bool:=
 match o.guard with
 |none=>some true
 |some (j,want)=>match ops[j]? with
  |none=>none
  |some oj=>match oj.dst with
   |none=>none
   |some t=>match sf d t with
    | .t=>some want
    | .f=>some (!want)
    | .u=>some false
    | .x=>none
def G8(ops:List Oper)(o:Oper):Option Nat:=
 match o.guard with
 |none=>none
 |some (j,_)=>match ops[j]? with
  |none=>none
  |some oj=>oj.dst
noncomputable def Ji(P:Program)(N:Nat)(ek:Option (Kind×Kind))(ops:List Oper)(o:Oper)(d:wL)(r:cI)(h:ad)(K:wL→cI→ad→Prop):Prop:=
 match jn ops d o with
 |some true=>YA P N ek o r (K (sK d o (Ma d o.op))) h
 |some false=>Bo N o undef r fun a=>K (sK d o .u) a h
 |none=>False
noncomputable def Gy(P:Program)(N:Nat)(ek:Option (Kind×Kind))(ops:List Oper)(l:List Oper):wL→(cI→ad→Prop)→cI→ad→Prop:=
 fL (motive:=fun _=>wL→(cI→ad→Prop)→cI→ad→Prop) (fun _ K r h=>K r h)
  (fun o _ c d K r h=>
  match jn ops d o with
  |some true=>YA P N ek o r (fun a h'=>c (sK d o (Ma d o.op)) K a h') h
  |some false=>Bo N o undef r fun a=>c (sK d o .u) K a h
  |none=>match G8 ops o with
   |none=>False
   |some t=>match kJ r t with
    |some (.bool b)=>CondP b
     (Ji P N ek ops o ((t,.t)::d) ((t,.bool true)::r) h fun d' a h'=>c d' K a h')
     (Ji P N ek ops o ((t,.f)::d) ((t,.bool false)::r) h fun d' a h'=>c d' K a h')
    |_=>False) l
inductive DA where
 |done
 |take (i:Nat) (rest:DA)
 |all (l:DA)
 |pick (i:Nat) (rest more:DA)
 |last (i:Nat) (rest:DA)
 |lastT (i:Nat) (rest:DA)
 |split (t:Nat) (yes no:DA)
abbrev rL:=List (Nat×(ad→Prop))
def tb(m i:Nat):Bool:=av (jW (Nat.shiftRight m i) 1) 1
def gT(i:Nat):Nat:=Nat.pow 2 i
inductive DM where
 |mk (am fr lk ds:Nat)
def DM.am:DM→Nat| .mk a _ _ _=>a
def DM.fr:DM→Nat| .mk _ f _ _=>f
def DM.lk:DM→Nat| .mk _ _ l _=>l
def DM.ds:DM→Nat| .mk _ _ _ d=>d
def jq(o:Oper)(i:Nat):Bool:=o.after.toList.any fun e=>av e.on i&&Region.binds .any e
noncomputable def m6(l:List Edge):Nat:=
 fL (motive:=fun _=>Nat) 0 (fun e _ a=>bif Region.binds .any e then cX (gT e.on) a else a) l
noncomputable def mg(l:List Operand):Nat:=
 fL (motive:=fun _=>Nat) 0 (fun o _ a=>match o with| .tmp t=>cX (gT t) a|_=>a) l
def oq(o:Oper):Nat:=match o.dst with|some d=>gT d|none=>0
noncomputable def oN(ops:List Oper)(o:Oper):Nat:=
 cX (mg o.op.operands.toList) (match o.guard with
  |some (g,_)=>(match ops[g]? with|some og=>oq og|none=>0)
  |none=>0)
noncomputable def yu(ops:List Oper)(l:List Oper):List DM→Bool:=
 fL (motive:=fun _=>List DM→Bool) (fun ms=>match ms with| []=>true|_=>false)
  (fun o _ a ms=>match ms with
   |m::ms=>av (m6 o.after.toList) m.am&&av (oN ops o) m.lk&&av (oq o) m.ds&&a ms
   | []=>false) l
def Ea(x y:DM):Bool:=av (jW x.ds (cX y.lk y.ds)) 0&&av (jW y.ds x.lk) 0
noncomputable def JW(i:Nat)(m:DM)(l:List DM):Nat→Bool:=
 fL (motive:=fun _=>Nat→Bool) (fun _=>true)
  (fun n _ a j=>(!(tb m.fr j)||av j i||tb n.am i||Ea m n)&&a (fX j)) l
noncomputable def Cw(a:List DM)(l:List DM):Nat→Bool:=
 fL (motive:=fun _=>Nat→Bool) (fun _=>true) (fun m _ b i=>JW i m a 0&&b (fX i)) l
def Nh:List Oper→Bool
 | []=>true
 |o::os=>(match o.op with| .select .. =>false| .defer _=>false|_=>true)&&Nh os
noncomputable def FX(ops:List Oper)(ms:List DM):Bool:=yu ops ops ms&&Cw ms ms 0&&Nh ops
def pm(o:Oper):rL→rL
 | []=> []
 |(k,S)::l=>bif jq o k then pm o l else(k,S)::pm o l
def te:rL→ad→Prop→Prop
 | [],_,R=>R
 |(_,S)::l,h,R=>S h∧te l h R
def Jp(m:DM)(ls:Nat):Bool:=av (jW m.am ls) m.am
noncomputable def mn(ls:Nat)(l:List DM):Nat→List Nat:=
 fL (motive:=fun _=>Nat→List Nat) (fun _=> []) (fun m _ a j=>bif !(tb ls j)&&Jp m ls then j::a (fX j)else a (fX j)) l
def Gr(m:DM)(i ls n:Nat):Bool:= !(tb ls i)&&Jp m ls&&av (jW (cX ls m.fr) (zD (gT n))) (zD (gT n))
def wW:List Nat→List Nat→Bool
 | [],[]=>true
 |a::as,b::bs=>av a b&&wW as bs
 |_,_=>false
def D4:DA→List Nat
 | .pick i _ l=>i::D4 l
 | .last i _=> [i]
 | .lastT i _=> [i]
 |_=> []
noncomputable def Sc(P:Program)(N:Nat)(ops:List Oper)(i:Nat)(L:rL)(d:wL)(r:cI)(h:ad)(K:rL→wL→cI→ad→Prop):Prop:=
 match ops[i]? with
 |none=>False
 |some o=>match jn ops d o with
  |some true=>bif xH P o.op then Dy P none o.op r (fun v _=>Bo N o v r fun a=>te (pm o L) h (K (pm o L) (sK d o .x) a h)) h else Ia P o r (fun v h'=>Bo N o v r fun a=>te (pm o L) h' (K (pm o L) (sK d o .x) a h')) h
  |_=>False
noncomputable def Tx(m:Nat)(l:List DM):Nat→Nat:=
 fL (motive:=fun _=>Nat→Nat) (fun _=>m) (fun n _ a j=>bif tb m j then cX n.am (a (fX j))else a (fX j)) l
noncomputable def CF(ms:List DM)(m:Nat):Nat:=Tx (Tx (Tx (Tx m ms 0) ms 0) ms 0) ms 0
def LJ(ms:List DM)(i:Nat):Nat:=match ms[i]? with|some m=>m.am|none=>0
def Cb(m:Nat):rL→rL
 | []=> []
 |(k,S)::l=>bif tb m k then Cb m l else(k,S)::Cb m l
noncomputable def Ra(P:Program)(N:Nat)(ops:List Oper)(ms:List DM)(i:Nat)(L:rL)(d:wL)(r:cI)(h:ad)(K:rL→wL→cI→ad→Prop):Prop:=
 match ops[i]? with
 |none=>False
 |some o=>match jn ops d o with
  |some true=>bif xH P o.op then False else Ia P o r (fun v h'=>Bo N o v r fun a=>te (Cb (CF ms (LJ ms i)) L) h' (K (Cb (CF ms (LJ ms i)) L) (sK d o .x) a h')) h
  |_=>False
noncomputable def nP(P:Program)(N:Nat)(ops:List Oper)(ms:List DM)(j:DA):Bool→Nat→rL→wL→(cI→ad→Prop)→cI→ad→Prop:=
 DA.rec (motive:=fun _=>Bool→Nat→rL→wL→(cI→ad→Prop)→cI→ad→Prop)
  (fun m ls _ _ K r h=>bif !m&&wW (mn ls ms 0) []then K r h else False)
  (fun i _ c m ls L d K r h=>
   match ops[i]?,ms[i]? with
   |some o,some mi=>bif !m&&Gr mi i ls ops.length then
     (match jn ops d o with
      |none=>False
      |some false=>Bo N o undef r fun a=>c false (cX ls (gT i)) L (sK d o .u) K a h
      |some true=>bif xH P o.op then
       Dy P none o.op r (fun v S=>Bo N o v r fun a=>match S with
        |none=>c false (cX ls (gT i)) L (sK d o (Ma d o.op)) K a h
        |some S=>c false (cX ls (gT i)) ((i,S)::L) (sK d o (Ma d o.op)) K a h) h
       else False)
    else False
   |_,_=>False)
  (fun l c m ls L d K r h=>bif !m&&wW (mn ls ms 0) (D4 l)then c true ls L d K r h else False)
  (fun i _ _ f e m ls L d K r h=>bif m then Sc P N ops i L d r h (fun g d' a h'=>f false (cX ls (gT i)) g d' K a h')∧e true ls L d K r h else False)
  (fun i _ c m ls L d K r h=>bif m then Sc P N ops i L d r h (fun g d' a h'=>c false (cX ls (gT i)) g d' K a h')else False)
  (fun i _ c m ls L d K r h=>bif m then Ra P N ops ms i L d r h (fun g d' a h'=>c false (cX ls (gT i)) g d' K a h')else False)
  (fun t _ _ f e m ls L d K r h=>
   bif m then False else match kJ r t with
   |some (.bool b)=>CondP b (f false ls L ((t,.t)::d) K ((t,.bool true)::r) h) (e false ls L ((t,.f)::d) K ((t,.bool false)::r) h)
   |_=>False)
  j
noncomputable def aaG(b:Oper)(i:Nat)(ds lk:Nat)(ops:List Oper)(l:List Oper):Nat→Nat:=
 fL (motive:=fun _=>Nat→Nat) (fun _=>0) (fun p _ a j=>bif (av j i||jq p i||(av (jW ds (cX (oN ops p) (oq p))) 0&&av (jW (oq p) lk) 0))then cX (gT j) (a (fX j))else a (fX j)) l
noncomputable def Z9(ops:List Oper)(l:List Oper):Nat→List DM:=
 fL (motive:=fun _=>Nat→List DM) (fun _=> []) (fun o _ a i=>.mk (m6 o.after.toList) (aaG o i (oq o) (oN ops o) ops ops 0) (oN ops o) (oq o)::a (fX i)) l
def YI(P:Program)(w:Option Bool)(o:Oper):Bool:=match w with|some false=>true|some true=>xH P o.op|none=>false
noncomputable def Yj(P:Program)(ops:List Oper)(d:wL)(ls n:Nat)(l:List Oper):List DM→Nat→Option (Nat×Oper):=
 fL (motive:=fun _=>List DM→Nat→Option (Nat×Oper)) (fun _ _=>none)
  (fun o _ a ms j=>match ms with
   | []=>none
   |m::ms=>bif Gr m j ls n&&YI P (jn ops d o) o then some (j,o)else a ms (fX j)) l
noncomputable def Yk(ops:List Oper)(d:wL)(ls:Nat)(l:List Oper):List DM→Nat→Option Nat:=
 fL (motive:=fun _=>List DM→Nat→Option Nat) (fun _ _=>none)
  (fun o _ a ms j=>match ms with
   | []=>none
   |m::ms=>match bif !(tb ls j)&&Jp m ls then(match jn ops d o with|none=>G8 ops o|some _=>none)else none with
    |some t=>some t
    |none=>a ms (fX j)) l
noncomputable def Y3(ops:List Oper)(k:Nat→wL→DA)(ls:Nat)(d:wL)(l:List Nat):DA:=
 fL (motive:=fun _=>DA) .done (fun i a b=>match ops[i]? with
  |none=>.done
  |some o=>match a with
   | []=>.last i (k (cX ls (gT i)) (sK d o .x))
   |_=>.pick i (k (cX ls (gT i)) (sK d o .x)) b) l
noncomputable def Yt(P:Program)(ops:List Oper)(ms:List DM)(a:Nat):Nat→wL→DA:=
 Nat.rec (motive:=fun _=>Nat→wL→DA) (fun _ _=>.done) (fun _ b ls d=>
  match Yj P ops d ls ops.length ops ms 0 with
  |some (i,o)=>.take i (b (cX ls (gT i)) (match jn ops d o with|some false=>sK d o .u|_=>sK d o (Ma d o.op)))
  |none=>match Yk ops d ls ops ms 0 with
   |some t=>.split t (b ls ((t,.t)::d)) (b ls ((t,.f)::d))
   |none=>match mn ls ms 0 with
    | []=>.done
    |l=>.all (Y3 ops b ls d l)) a
noncomputable def Rj(ops:List Oper):List DM:=Z9 ops ops 0
inductive Ex where
 |exit (id:Nat)
 |ret
abbrev St:=List (Nat×Kind)
def A1:St→List Kind
 | []=> []
 |(_,k)::l=>k::A1 l
noncomputable def Gv(r:cI):St→Option (List Value)
 | []=>some []
 |(i,_)::l=>match kJ r i,Gv r l with
  |some v,some vs=>some (v::vs)
  |_,_=>none
noncomputable def Ew(st:St)(r:cI)(f:uC (A1 st)→Prop):Prop:=
 match Gv r st with
 |some vs=>Fw (A1 st) vs f
 |none=>False
def ol:St→List Value→cI→cI
 |(i,_)::l,v::vs,r=>(i,v)::ol l vs r
 |_,_,r=>r
noncomputable def Ro(r:cI)(l:List Nat):Option cI:=
 fL (motive:=fun _=>Option cI) (some []) (fun t _ a=>match kJ r t,a with
  |some v,some l=>some ((t,v)::l)
  |_,_=>none) l
noncomputable def me(t:Nat)(l:List Oper):Bool:=
 fL (motive:=fun _=>Bool) false (fun o _ a=>match o.dst with|some d=>bif av d t then true else a|none=>a) l
noncomputable def gx(t:Nat)(c:Code):Bool:=
 Code.rec (motive:=fun _=>Bool) false (fun _ ops _=>me t ops.toList) (fun _ _ a b=>bif a then true else b) (fun _ _ _ a b=>bif a then true else b)
  (fun _ _ b=>b) (fun _ b=>b) (fun _ _ _ _ _ _=>true) (fun _=>false) (fun _ b=>b) (fun _=>false) (fun _=>false) false (fun _=>false) c
inductive Ann where
 |nil
 |node (a b:Ann)
 |join (st:St) (a b:Ann)
 |loop (st:St) (b:Ann)
 |draw (d:DA)
 |kinds (k v:Kind)
 |reg (keep:List Nat) (inner:Ann)
 |rf (ks:List Kind) (a b:Ann)
def Ann.l:Ann→Ann
 | .node a _=>a
 | .rf _ a _=>a
 |_=>.nil
def Ann.r:Ann→Ann
 | .node _ b=>b
 | .rf _ _ b=>b
 |_=>.nil
noncomputable def TP(l:List Oper):Nat:=fL (motive:=fun _=>Nat) 0 (fun o _ a=>cX (oq o) a) l
def Y5:Option Nat→Option Nat→Option Nat
 |some a,some b=>some (cX a b)
 |_,_=>none
noncomputable def Ar(c:Code):Option Nat:=
 Code.rec (motive:=fun _=>Option Nat) (some 0) (fun _ ops _=>some (TP ops.toList)) (fun _ _ a b=>Y5 a b) (fun _ _ _ a b=>Y5 a b)
  (fun _ _ b=>b) (fun _ b=>b) (fun _ _ _ _ _ _=>none) (fun _=>some 0) (fun _ b=>b) (fun _=>some 0) (fun _=>some 0) (some 0) (fun _=>some 0) c
noncomputable def yA(m:Nat)(r:cI):cI:=fL (motive:=fun _=>cI) [] (fun b _ a=>bif tb m b.1 then a else b::a) r
noncomputable def DH(P:Program)(N:Nat)(ops:List Oper)(b:Bool)(a:Ann)(Kn:cI→ad→Prop)(r:cI)(h:ad):Prop:=
 match b with
 |false=>(match a with
  | .kinds kk vk=>Gy P N (some (kk,vk)) ops ops [] Kn r h
  |_=>Gy P N none ops ops [] Kn r h)
 |true=>bif FX ops (Rj ops)then nP P N ops (Rj ops) (match a with| .draw da=>da|_=>Yt P ops (Rj ops) (Nat.add (Nat.add ops.length ops.length) 2) 0 []) false 0 [] [] Kn r h else False
noncomputable def ll(P:Program)(N:Nat)(c:Code):Ann→(cI→ad→Prop)→(Ex→cI→ad→Prop)→cI→ad→Prop:=
 Code.rec (motive:=fun _=>Ann→(cI→ad→Prop)→(Ex→cI→ad→Prop)→cI→ad→Prop)
  (fun _ Kn _ r h=>Kn r h)
  (fun _ ops p d Kn _ r h=>match d with
   | .reg keep d=>DH P N ops.toList p d (fun f h'=>match Ro f keep with|some r0=>Kn r0 h'|none=>False) r h
   |d=>DH P N ops.toList p d Kn r h)
  (fun a _ g j d Kn Kx r h=>match d with
   | .join st aa ab=>(match Ar a with
     |none=>False
     |some m=>Join (T:=uC (A1 st)) (fun t h'=>j ab Kn Kx (ol st (mB (A1 st) t) (yA m r)) h')
      fun J=>g aa (fun f h'=>Ew st f fun t=>J t h') Kx r h)
   |d=>g d.l (fun f h'=>j d.r Kn Kx f h') Kx r h)
  (fun c _ _ g j d Kn Kx r h=>match dq r c with
   |some (.bool t)=>CondP t (g d.l Kn Kx r h) (j d.r Kn Kx r h)
   |_=>False)
  (fun id _ n d Kn Kx r h=>n d Kn (fun e f h'=>match e with
    | .exit i=>bif av i id then Kn f h' else Kx (.exit i) f h'
    | .ret=>Kx .ret f h') r h)
  (fun b n d _ Kx r h=>match d with
   | .loop st ab=>(match Ar b with
     |none=>False
     |some m=>Ew st r fun q=>LoopP (T:=uC (A1 st)) (fun k t h'=>n ab (fun f o=>Ew st f fun s=>k s o) Kx (ol st (mB (A1 st) t) (yA m r)) h') q h)
   |_=>False)
  (fun _ _ _ _ _ _ _ _ _ _ _=>False)
  (fun id _ _ Kx r h=>Kx (.exit id) r h)
  (fun _ _ _ _ _ _ _=>False)
  (fun _ _ Kn _ r h=>Kn r h)
  (fun _ _ _ _ _ _=>False)
  (fun _ _ Kx r h=>Kx .ret r h)
  (fun _ _ _ _ _ _=>False)
  c
noncomputable def om(P:Program)(r:cI)(h:ad):List ResultVar→(List Value→Prop)→Prop
 | [],K=>K []
 | .tmp t::l,K=>(match kJ r t with|some v=>om P r h l fun vs=>K (v::vs)|none=>False)
 | .cell a t::l,K=>(match kJ r a with
  |some v=>MS P t v (fun x _=>om P r h l fun vs=>K (x::vs)) h
  |none=>False)
def qI:Nat→List Value→cI
 |_,[]=> []
 |i,v::vs=>(i,v)::qI (i+1) vs
noncomputable def Jj(P:Program)(fn:Func)(c:Code)(a:Ann)(args:List Value)(ks:List Kind)(K:uC ks→ad→Prop)(h:ad):Prop:=
 ll P fn.ntmps c a
  (fun r h'=>om P r h' fn.results.toList fun vs=>Fw ks vs fun t=>K t h')
  (fun e r h'=>match e with
   | .ret=>om P r h' fn.results.toList fun vs=>Fw ks vs fun t=>K t h'
   | .exit _=>False)
  (qI 0 args) h
def Hr:List Oper→Option (Oper×Oper×Operand×Nat×FuncId×List Operand)
 | [m,o]=>match m.op,m.guard,m.dst,o.op,o.dst,o.guard with
  | .move x,none,some d,.defer c,none,none=>(match c.callee with
   | .value (.func f)=>some (m,o,x,d,f,c.args.toList)
   |_=>none)
  |_,_,_,_,_,_=>none
 |_=>none
inductive Mk where
 |it (n:Nat)
 |call (f:FuncId) (vs:List Value)
def HD(P:Program)(f:FuncId)(args:List Value)(K:ad→Prop)(h:ad):Prop:=
 ∀w:World,w.heap=h→(∀(args:Array Value) (w:World),(callFunc f args).run P w=.ok (.enter f args) w)∧∀n:Nat,CallsDIn {fn:=fun _=>True,depth:=none,alive:=false,round:=none} n P f args.toArray .returning w fun e u w'=>u=.returning∧Tame w w'∧(∃v,e=.returned v)∧K w'.heap
noncomputable def tg(c:Code):Bool:=
 Code.rec (motive:=fun _=>Bool) false (fun _ ops _=>(Hr ops.toList).isSome) (fun _ _ a b=>bif a then true else b) (fun _ _ _ a b=>bif a then true else b)
  (fun _ _ b=>b) (fun _ b=>b) (fun _ _ _ _ _ _=>true) (fun _=>false) (fun _ b=>b) (fun _=>false) (fun _=>false) false (fun _=>false) c
def Lr:Option Ex→Option Code
 |none=>none
 |some (.exit i)=>some (.exit i)
 |some .ret=>some .ret
def aaH(N:ad→Prop)(X:Nat→ad→Prop)(R:ad→Prop):Option Ex→ad→Prop
 |none=>N
 |some (.exit i)=>X i
 |some .ret=>R
structure RangeP(P:Program)(fv:Value)(ks:List Kind)(h:ad)(RT:Obj→Obj→uC ks→(Option Ex→ad→Prop)→ad→Prop)(N:ad→Prop)(X:Nat→ad→Prop)(R:ad→Prop):Prop where
 run:∀lo:LoopState→Option Ex→Obj,(∀s j,∃r,lo s j=.loop r)→
  (∀x h' K,h'[h.size+1]? =some (lo .ready none)→
   RT (lo .ready none) (lo .busy none) x (fun j h2=>h2[h.size+1]? =some (lo .busy none)∧K j.isNone (h2.setIfInBounds (h.size+1) (lo (if j.isNone then .ready else .done) j))) h'→
   HV P (.func (.yield (h.size+1)) #[] #[]) (mB ks x) [.c .bool] K h')→
  ∃f first cap,fv=.func (.func f) first cap∧HE P f (first.toList++ [.func (.yield (h.size+1)) #[] #[]]++cap.toList) []
   (fun _ h2=>∃s j,s≠ .busy∧h2[h.size+1]? =some (lo s j)∧aaH N X R j (h2.setIfInBounds (h.size+1) (lo .exhausted j))) ((h.push (.deferred (some []))).push (lo .ready none))
def Wf:List Nat→List Value→cI→cI
 |i::l,v::vs,r=>Wf l vs ((i,v)::r)
 |_,_,r=>r
noncomputable def Pc(P:Program)(N:Nat)(ps:List Nat)(ks:List Kind)(assign body:Code)(b:Ann)(r:cI)(l:Nat)(Jp f:Obj)(x:uC ks)(k:Option Ex→ad→Prop)(h:ad):Prop:=
 ll P N assign b.l (fun d c=>c[l]? =some Jp∧ll P N body b.r (fun _ a=>k none a) (fun e _ a=>k (some e) a) d (c.setIfInBounds l f)) (fun _ _ _=>False) (Wf ps (mB ks x) r) h
def Bc(N:Nat):List Nat→Bool
 | []=>true
 |n::l=>zW n N&&Bc N l
noncomputable def A5(P:Program)(N:Nat)(c:Code):Ann→(List Mk→cI→ad→Prop)→(Ex→List Mk→cI→ad→Prop)→List Mk→cI→ad→Prop:=
 Code.rec (motive:=fun _=>Ann→(List Mk→cI→ad→Prop)→(Ex→List Mk→cI→ad→Prop)→List Mk→cI→ad→Prop)
  (fun j Kn Kx ms r h=>ll P N .skip j (Kn ms) (fun e=>Kx e ms) r h)
  (fun id ops p j Kn Kx ms r h=>match Hr ops.toList with
   |none=>ll P N (.region id ops p) j (Kn ms) (fun e=>Kx e ms) r h
   |some (_,_,x,d,f,as)=>bif p then False else match dq r x with
    |some v=>bif zW d N then(match oA ((d,v)::r) as with|some vs=>Kn (.call f vs::ms) ((d,v)::r) h|none=>False)else False
    |none=>False)
  (fun a b m n j Kn Kx ms r h=>bif (bif tg a then true else tg b)then m j.l (fun ms o h'=>n j.r Kn Kx ms o h') Kx ms r h
   else ll P N (.seq a b) j (Kn ms) (fun e=>Kx e ms) r h)
  (fun c a b m n j Kn Kx ms r h=>bif (bif tg a then true else tg b)then
    (match dq r c with
     |some (.bool t)=>CondP t (m j.l Kn Kx ms r h) (n j.r Kn Kx ms r h)
     |_=>False)
   else ll P N (.cond c a b) j (Kn ms) (fun e=>Kx e ms) r h)
  (fun id b s j Kn Kx ms r h=>bif tg b then s j Kn (fun e ms o h'=>match e with
    | .exit i=>bif av i id then Kn ms o h' else Kx (.exit i) ms o h'
    | .ret=>Kx .ret ms o h') ms r h
   else ll P N (.block id b) j (Kn ms) (fun e=>Kx e ms) r h)
  (fun b _ j Kn Kx ms r h=>ll P N (.loop b) j (Kn ms) (fun e=>Kx e ms) r h)
  (fun g ps assign body _ _ j Kn Kx ms r h=>match j with
   | .rf ks aa ab=>bif Bc N ps.toList&&av ps.toList.length ks.length then
    (match dq r g with
     |some fv=>RangeP P fv ks h (fun Jp q x k h'=>Pc P N ps.toList ks assign body (.node aa ab) r (h.size+1) Jp q x k h')
      (fun h'=>Kn (.it h.size::ms) r h') (fun i h'=>Kx (.exit i) (.it h.size::ms) r h') (fun h'=>Kx .ret (.it h.size::ms) r h')
     |none=>False)else False
   |_=>False)
  (fun id j Kn Kx ms r h=>ll P N (.exit id) j (Kn ms) (fun e=>Kx e ms) r h)
  (fun _ _ _ _ _ _ _ _=>False)
  (fun l j Kn Kx ms r h=>ll P N (.label l) j (Kn ms) (fun e=>Kx e ms) r h)
  (fun _ _ _ _ _ _ _=>False)
  (fun j Kn Kx ms r h=>ll P N .ret j (Kn ms) (fun e=>Kx e ms) r h)
  (fun _ _ _ _ _ _ _=>False)
  c
def MF(P:Program):List Mk→(ad→Prop)→ad→Prop
 | [],K,h=>K h
 | .it D::ms,K,h=>h[D]? =some (.deferred (some []))∧MF P ms K (h.setIfInBounds D (.deferred none))
 | .call f vs::ms,K,h=>HD P f vs (fun h'=>MF P ms K h') h
noncomputable def Pd(P:Program)(fn:Func)(c:Code)(a:Ann)(args:List Value)(ks:List Kind)(K:uC ks→ad→Prop)(h:ad):Prop:=
 A5 P fn.ntmps c a
  (fun ms r h'=>MF P ms (fun h'=>om P r h' fn.results.toList fun vs=>Fw ks vs fun t=>K t h') h')
  (fun e ms r h'=>match e with
   | .ret=>MF P ms (fun h'=>om P r h' fn.results.toList fun vs=>Fw ks vs fun t=>K t h') h'
   | .exit _=>False)
  [] (qI 0 args) h
end Go.Lift
namespace Go.Lift
open Go
theorem HJ(a:Addr):adr a 0=a:=rfl
theorem CM(a:Addr)(n:Nat):adr a (n+1)=⟨a.block,a.off+(n+1),none⟩:=rfl
theorem vD(a:Addr)(n:Nat):adr a n=a.add n:=by
 cases n with
 |zero=>simp[HJ,Addr.add]
 |succ n=>simp[CM,Addr.add]
theorem F7(a:Addr)(m n:Nat):adr (adr a m) n=adr a (m+n):=by
 cases n with
 |zero=>rfl
 |succ n=>cases m with
  |zero=>simp[HJ]
  |succ m=>rw[CM,CM,show m+1+(n+1)=(m+1+n)+1 from rfl,CM];simp;omega
theorem Tame.refl(w:World):Tame w w:=⟨rfl,rfl,rfl⟩
theorem Tame.trans{a b c:World}(h:Tame a b)(k:Tame b c):Tame a c:=⟨k.os.trans h.os,k.tape.trans h.tape,k.output.trans h.output⟩
theorem Cs{a b:IntKind}(h:Lh a b=true):a=b:=by cases a<;>cases b<;>first|rfl|cases h
theorem CK.dec_sound{c:CK}{v:Value}{f:c.den→Prop}(h:c.dec v f):∃x,v=c.enc x∧f x:=by
 cases c<;>cases v<;>try simp only[CK.dec]at h
 case int.int k k' n=>
  cases hk:Lh k' k with
  |false=>rw[hk]at h;exact h.elim
  |true=>rw[hk]at h;have:=Cs hk;subst this;exact⟨n,rfl,h⟩
 case adr.pointer p=>cases p with
  |none=>exact h.elim
  |some a=>exact⟨a,rfl,h⟩
 all_goals first|exact h.elim|exact⟨_,rfl,h⟩
theorem ES:∀{cs:List CK} {vs:List Value} {f:VY cs→Prop},RD cs vs f→∃t,vs=VE cs t∧f t
 | [],[],f,h=>⟨(),rfl,h⟩
 | [],_::_,f,h=>h.elim
 | [c],[v],f,h=>by obtain⟨x,rfl,b⟩:=CK.dec_sound h;exact⟨x,rfl,b⟩
 | [c],[],f,h=>h.elim
 | [c],_::_::_,f,h=>h.elim
 |c::d::cs,[],f,h=>h.elim
 |c::d::cs,[_],f,h=>h.elim
 |c::d::cs,v::u::vs,f,h=>by
  have a:c.dec v fun x=>RD (d::cs) (u::vs) fun t=>f (x,t):=h
  obtain⟨x,hx,g⟩:=CK.dec_sound a;obtain⟨t,e,i⟩:=ES (cs:=d::cs) (vs:=u::vs) g;exact⟨(x,t),by rw[e,hx];rfl,i⟩
theorem Kind.dec_sound{k:Kind}{v:Value}{f:k.den→Prop}(h:k.dec v f):∃x,v=k.enc x∧f x:=by
 cases k with
 |c k=>exact CK.dec_sound h
 |agg cs=>
  cases v<;>simp only[Kind.dec]at h
  case agg vs=>
   obtain⟨t,b,a⟩:=ES h;exact⟨t,by simp only[Kind.enc,←b],a⟩
theorem tH:∀{ks:List Kind} {vs:List Value} {f:uC ks→Prop},Fw ks vs f→∃t,vs=mB ks t∧f t
 | [],[],f,h=>⟨(),rfl,h⟩
 | [],_::_,f,h=>h.elim
 | [c],[v],f,h=>by obtain⟨x,rfl,b⟩:=Kind.dec_sound h;exact⟨x,rfl,b⟩
 | [c],[],f,h=>h.elim
 | [c],_::_::_,f,h=>h.elim
 |c::d::cs,[],f,h=>h.elim
 |c::d::cs,[_],f,h=>h.elim
 |c::d::cs,v::u::vs,f,h=>by
  have a:c.dec v fun x=>Fw (d::cs) (u::vs) fun t=>f (x,t):=h
  obtain⟨x,hx,g⟩:=Kind.dec_sound a;obtain⟨t,e,i⟩:=tH (ks:=d::cs) (vs:=u::vs) g;exact⟨(x,t),by rw[e,hx];rfl,i⟩
theorem uz:∀(ks:List Kind) (t:uC ks),(mB ks t).length=ks.length
 | [],_=>rfl
 | [_],_=>rfl
 |_::l::ks,(_,t)=>by simp only[mB,ay,uz (l::ks) t]
structure Agree(N:Nat)(r:cI)(a:Act):Prop where
 size:a.tmps.size=N
 look:∀t v,kJ r t=some v→a.tmps.getD t undef=v
theorem iU(k:Nat)(v:Value)(r:cI):kJ ((k,v)::r) k=some v:=by rw[GB,show av k k=true from Nat.beq_refl k];rfl
theorem gX{k t:Nat}(v:Value)(r:cI)(h:k≠t):kJ ((k,v)::r) t=kJ r t:=by
 rw[GB];have:av k t=false:=Bool.eq_false_iff.2 fun e=>h (aX e)
 rw[this];rfl
theorem Agree.put{N:Nat}{r:cI}{a:Act}(h:Agree N r a)(d:Nat)(v:Value)(hd:d<N):Agree N ((d,v)::r) (a.put (some d) v):=by
 refine⟨by simp[Act.put,h.size],fun t u b=>?_⟩
 by_cases e:d=t
 ·subst e
  rw[iU]at b;cases b;simp[Act.put,h.size,hd]
 ·rw[gX v r e]at b
  have:=h.look t u b;simpa[Act.put,Array.getElem?_setIfInBounds_ne e]using this
theorem Agree.known{N:Nat}{r:cI}{a:Act}(h:Agree N r a){t:Nat}{v:Value}(c:kJ r t=some v):Agree N ((t,v)::r) a:=by
 refine⟨h.size,fun s u b=>?_⟩
 by_cases e:t=s
 ·subst e;rw[iU]at b;cases b;exact h.look t v c
 ·rw[gX v r e]at b;exact h.look s u b
theorem kK{N:Nat}{r:cI}{a:Act}(h:Agree N r a){o:Operand}{v:Value}(b:dq r o=some v):a.eval o=v:=by
 cases o with
 |tmp t=>exact h.look t v b
 |const c=>simp[dq]at b;subst b;rfl
 |global g=>simp[dq]at b;subst b;rfl
 |func f=>simp[dq]at b;subst b;rfl
theorem mN{N:Nat}{r:cI}{a:Act}(h:Agree N r a):∀{os:List Operand} {vs:List Value},oA r os=some vs→os.map a.eval=vs
 | [],vs,hv=>by simp[oA]at hv;subst hv;rfl
 |o::os,vs,hv=>by
  simp only[oA]at hv;cases ho:dq r o with
  |none=>simp[ho]at hv
  |some v=>cases hos:oA r os with
   |none=>simp[ho,hos]at hv
   |some us=>simp[ho,hos]at hv;subst hv;simp[kK h ho,mN h hos]
theorem aB{P:Program}{t:TypeId}{d:TypeDesc}(h:P.underlying t=some d)(w:World):(underlying t).run P w=.ok d w:=by
 simp only[underlying,program,bind,Sem.bind,ou,h,pure]
theorem cT{P:Program}{t:TypeId}{i:TypeInfo}(h:P.info? t=some i)(w:World):(typeInfo t).run P w=.ok i w:=by
 simp only[typeInfo,program,bind,Sem.bind,ou,h,pure]
theorem iZ{P:Program}{s:Sem Value}{v:Value}{w w':World}(h:s.run P w=.ok v w'):(do pure (Next.value (←s)):Sem Next).run P w=.ok (.value v) w':=by
 simp[h]
theorem Ur{P:Program}{s:Sem Unit}{w w':World}(h:s.run P w=.ok () w'):(do s;pure Next.skip:Sem Next).run P w=.ok .skip w':=by
 simp[h]
theorem B8{P:Program}{w:World}{a:Addr}{v:Value}(h:aD w.heap a=some v):(load a).run P w=.ok v w:=by
 have h':w.cell? a=some v:=h;simp[h']
theorem CH{v:Value}{vs:List Value}{i:Nat}{a:Addr}{h:ad}:uB (v::vs) i a h↔aD h (adr a i)=some v∧uB vs (i+1) a h:=by
 cases vs with
 |nil=>simp[uB]
 |cons u us=>rfl
theorem ui{P:Program}{w:World}{a:Addr}:∀(vs:List Value) (i:Nat) (acc:Array Value),uB vs i a w.heap→
  (loadCellsFrom a i vs.length acc).run P w=.ok (acc++vs.toArray) w
 | [],i,acc,_=>by simp[loadCellsFrom]
 |v::vs,i,acc,h=>by
  obtain⟨b,c⟩:=CH.1 h;rw[vD]at b;have:=ui (P:=P) (w:=w) (a:=a) vs (i+1) (acc.push v) c;simp only[ay,loadCellsFrom,aU,B8 b,aC,this];simp
theorem Ic{P:Program}{w:World}{a:Addr}{vs:List Value}(h:uB vs 0 a w.heap):(loadCells a vs.length).run P w=.ok vs.toArray w:=by
 have:=ui (P:=P) (w:=w) (a:=a) vs 0 #[] h;simpa[loadCells]using this
theorem AB:∀(cs:List CK) (i:Nat) (a:Addr) (h:ad) (k:List Value→Prop),Ls cs i a h k→∃vs,vs.length=cs.length∧uB vs i a h∧k vs
 | [],i,a,h,k,b=>⟨[],rfl,trivial,b⟩
 |c::cs,i,a,h,k,b=>by
  obtain⟨x,hx,b⟩:=b;obtain⟨vs,d,hc,b⟩:=AB cs (i+1) a h _ b;exact⟨c.enc x::vs,by simp[d],CH.2 ⟨hx,hc⟩,b⟩
theorem CG:∀{vs:List Value} {cs:List CK},Hu vs=some cs→cs.length=vs.length
 | [],cs,h=>by simp[Hu]at h;subst h;rfl
 |v::vs,cs,h=>by
  simp only[Hu]at h;cases h1:Ys v with
  |none=>simp[h1]at h
  |some c=>cases h2:Hu vs with
   |none=>simp[h1,h2]at h
   |some ds=>simp[h1,h2]at h;subst h;simp[CG h2]
def VW(P:Program)(t:TypeId)(i:TypeInfo):Kind→Prop
 | .c _=>xo P t=false
 | .agg cs=>xo P t=true∧i.size=cs.length
theorem PS{P:Program}{t:TypeId}{k:Kind}(h:Rn P t=some k):∃i,P.info? t=some i∧VW P t i k:=by
 unfold Rn Aq at h;cases hi:P.info? t with
 |none=>simp[hi]at h
 |some i=>
  refine⟨i,rfl,?_⟩;cases hz:i.zero with
  |none=>simp[hi,hz]at h
  |some z=>
   rw[hi]at h;simp only[hz]at h;cases z;case agg vs=>
    simp only at h;cases hb:(xo P t&&av vs.toList.length (cd P t))with
    |false=>rw[hb]at h;simp at h
    |true=>
     rw[hb]at h;simp only[cond_true]at h;simp only[Bool.and_eq_true]at hb;have a:=aX hb.2;cases hd:Hu vs.toList with
     |none=>rw[hd]at h;simp at h
     |some ds=>
      rw[hd]at h;simp only[bp.injEq]at h;subst h;exact⟨hb.1,by rw[CG hd,a];simp[cd,hi]⟩
   all_goals
    simp only at h;cases ha:xo P t
    ·rw[ha]at h
     simp only[cond_false]at h;split at h
     ·simp only[bp.injEq]at h;subst h;exact ha
     ·simp at h
    ·rw[ha]at h;simp at h
theorem PT{P:Program}{t:TypeId}{k:Kind}(h:GZ P t=some k):(∀w,(isAgg t).run P w=.ok (xo P t) w)∧Rn P t=some k:=by
 unfold GZ at h;cases hu:P.underlying t with
 |none=>simp[hu]at h
 |some d=>
  simp only[hu]at h;refine⟨fun w=>?_,h⟩
  simp only[isAgg,aU,aB hu,aC];unfold xo;rw[hu];cases d<;>rfl
theorem ED{P:Program}{t:TypeId}{v:Value}{K:RK}{h:ad}(d:MS P t v K h):
  ∃u S,K u (some S)∧S h∧∀w:World,S w.heap→(Instr.loadAt t v).run P w=.ok u w:=by
 unfold MS at d;cases v with
 |pointer p=>
  cases p with
  |none=>exact d.elim
  |some a=>
   simp only at d;cases hk:GZ P t with
   |none=>simp[hk]at d
   |some k=>
    obtain⟨b,g⟩:=PT hk;obtain⟨i,hi,hc⟩:=PS g;rw[hk]at d;cases k with
    |c c=>
     obtain⟨x,hx,f⟩:=d;refine⟨_,_,f,hx,fun w m=>?_⟩
     have hc:xo P t=false:=hc;simp only[Instr.loadAt,mH,loadVar,aU,bK,aC,b,hc];simp[B8 m]
    |agg cs=>
     obtain⟨vs,e,j,f⟩:=AB cs 0 a h _ d;obtain⟨n,o⟩:xo P t=true∧i.size=cs.length:=hc;refine⟨_,_,f,j,fun w m=>?_⟩
     have g:(sizeOf t).run P w=.ok vs.length w:=by simp[sizeOf,cT hi,o,e]
     simp only[Instr.loadAt,mH,loadVar,aU,bK,aC,b,n];simp[g,Ic m]
 |_=>exact d.elim
end Go.Lift
