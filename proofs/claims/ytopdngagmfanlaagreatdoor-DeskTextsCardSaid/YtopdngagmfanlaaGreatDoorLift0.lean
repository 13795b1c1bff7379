/- A part of the proof that the named laws of this program answer true, whatever the input. -/
import Derived.OrdersIn
import Derived.Below
import Derived.WalkKit
import Derived.RangeFuncRecord
import Derived.DefersIn
open BitVec renaming ofInt→au
open Go.Instr renaming sureAddr→mR
open Go.Op renaming bytesLess→cX
open Go.Result renaming andThen_ok→aC
open Go.Sem renaming run→oK,run_bind→aW,run_pure→bQ
open Iff renaming rfl→AE
open List renaming rec→fP,replicate→bF,length_cons→ay
open Nat renaming succ→gb,beq→az,ble→AD,min→dQ,blt→AC,land→j6,lor→cY,pred→Ah,eq_of_beq_eq_true→bd
open Option renaming some→bq
namespace Go.Lift
abbrev ad:=Array Obj
def aD(h:ad)(a:Addr):Option Value:=
 match h[a.block]? with
 |some (.cells c _ _)=>if a.spot.isSome then none else c[a.off]?
 |_=>none
def Gz(h:ad)(a:Addr):Bool:=
 match h[a.block]? with
 |some (.cells _ _ (lo,hi))=>lo≤a.off&&a.off<hi
 |_=>false
def hset(h:ad)(a:Addr)(v:Value):ad:=
 h.modify a.block fun
  | .cells c elem frozen=>.cells (if a.spot.isSome then c else c.setIfInBounds a.off v) elem frozen
  |o=>o
noncomputable def adr(a:Addr)(n:Nat):Addr:=Nat.rec (motive:=fun _=>Addr) a (fun n _=>⟨a.block,a.off+gb n,none⟩) n
def Wr(h:ad)(a:Addr):Prop:=(∃v,aD h a=some v)∧Gz h a=false
structure Tame(w w':World):Prop where
 os:w'.os=w.os
 tape:w'.tape=w.tape
 output:w'.output=w.output
structure SliceV where
 a:Option Addr
 len:Nat
 cap:Nat
def LS:IntKind→IntKind→Bool
 | .i8,.i8=>true| .i16,.i16=>true| .i32,.i32=>true| .i64,.i64=>true
 | .u8,.u8=>true| .u16,.u16=>true| .u32,.u32=>true| .u64,.u64=>true
 |_,_=>false
inductive CK where
 |int (k:IntKind)|bool|str|ptr|slice|map|chan|raw|adr
def CK.den:CK→Type
 | .int _=>Int| .bool=>Bool| .str=>ByteArray| .ptr=>Option Addr| .slice=>SliceV| .map=>Option Nat| .chan=>Option Nat| .raw=>Value| .adr=>Addr
def CK.enc:(c:CK)→c.den→Value
 | .int k,n=>.int k n
 | .bool,b=>.bool b
 | .str,s=>.string s
 | .ptr,p=>.pointer p
 | .slice,s=>.slice s.a s.len s.cap
 | .map,r=>.map r
 | .chan,r=>.chan r
 | .raw,v=>v
 | .adr,a=>.pointer (some a)
def CK.dec:(c:CK)→Value→(c.den→Prop)→Prop
 | .int k,.int k' n,f=>bif LS k' k then f n else False
 | .bool,.bool b,f=>f b
 | .str,.string s,f=>f s
 | .ptr,.pointer p,f=>f p
 | .slice,.slice a l c,f=>f ⟨a,l,c⟩
 | .map,.map r,f=>f r
 | .chan,.chan r,f=>f r
 | .raw,v,f=>f v
 | .adr,.pointer (some a),f=>f a
 |_,_,_=>False
def WM:List CK→Type
 | []=>Unit
 | [c]=>c.den
 |c::d::cs=>c.den×WM (d::cs)
def Wp:(cs:List CK)→WM cs→List Value
 | [],_=> []
 | [c],x=> [c.enc x]
 |c::d::cs,(x,t)=>c.enc x::Wp (d::cs) t
def Sv:(cs:List CK)→List Value→(WM cs→Prop)→Prop
 | [],[],f=>f ()
 | [c],[v],f=>c.dec v f
 |c::d::cs,v::u::vs,f=>c.dec v fun x=>Sv (d::cs) (u::vs) fun t=>f (x,t)
 |_,_,_=>False
inductive Kind where
 |c (k:CK)
 |agg (cs:List CK)
def Kind.den:Kind→Type
 | .c k=>k.den
 | .agg cs=>WM cs
def Kind.enc:(k:Kind)→k.den→Value
 | .c k,x=>k.enc x
 | .agg cs,t=>.agg (Wp cs t).toArray
def Kind.dec:(k:Kind)→Value→(k.den→Prop)→Prop
 | .c k,v,f=>k.dec v f
 | .agg cs,.agg vs,f=>Sv cs vs.toList f
 |_,_,_=>False
def uS:List Kind→Type
 | []=>Unit
 | [k]=>k.den
 |k::l::ks=>k.den×uS (l::ks)
def mN:(ks:List Kind)→uS ks→List Value
 | [],_=> []
 | [k],x=> [k.enc x]
 |k::l::ks,(x,t)=>k.enc x::mN (l::ks) t
def F5:(ks:List Kind)→List Value→(uS ks→Prop)→Prop
 | [],[],f=>f ()
 | [k],[v],f=>k.dec v f
 |k::l::ks,v::u::vs,f=>k.dec v fun x=>F5 (l::ks) (u::vs) fun t=>f (x,t)
 |_,_,_=>False
def CB(ks:List Kind)(vs:List Value):Value:=
 match ks,vs with
 | [_],[v]=>v
 |_,vs=>.tuple vs.toArray
def Zh:Value→Option CK
 | .int k _=>some (.int k)
 | .bool _=>some .bool
 | .string _=>some .str
 | .pointer _=>some .ptr
 | .slice .. =>some .slice
 | .map _=>some .map
 | .chan _=>some .chan
 | .nilFunc=>some .raw
 | .nilIface=>some .raw
 |_=>none
def H6:List Value→Option (List CK)
 | []=>some []
 |v::vs=>match Zh v,H6 vs with
  |some c,some cs=>some (c::cs)
  |_,_=>none
def xS(P:Program)(t:TypeId):Bool:=
 match P.underlying t with
 |some (.struct _)|some (.array _ _)=>true
 |_=>false
def cg(P:Program)(t:TypeId):Nat:=match P.info? t with|some i=>i.size|none=>0
def rY(P:Program)(t:TypeId):Nat:=match P.info? t with|some i=>i.bytes|none=>0
def AV(P:Program)(t:TypeId):Option Value:=match P.info? t with|some i=>i.zero|none=>none
def Sa(P:Program)(t:TypeId):Option Kind:=
 match AV P t with
 |some (.agg vs)=>bif xS P t&&az vs.toList.length (cg P t)then(match H6 vs.toList with|some cs=>some (.agg cs)|none=>none)else none
 |some v=>bif xS P t then none else(match Zh v with|some c=>some (.c c)|none=>none)
 |none=>none
def Hw(P:Program)(t:TypeId):Option Kind:=
 match P.underlying t with
 |none=>none
 |some _=>Sa P t
structure HC(P:Program)(f:FuncId)(args:List Value)(ks:List Kind)(K:uS ks→ad→Prop)(h:ad):Prop where
 run:∀w:World,w.heap=h→
  ((callFunc f args.toArray).run P w=.ok (.enter f args.toArray) w∧
   Calls P f args.toArray w fun e w'=>Tame w w'∧∃t:uS ks,e=.returned (CB ks (mN ks t))∧K t w'.heap)∨
  (∃v w',(callFunc f args.toArray).run P w=.ok (.value v) w'∧Tame w w'∧∃t:uS ks,v=CB ks (mN ks t)∧K t w'.heap)
structure HE(P:Program)(f:FuncId)(args:List Value)(ks:List Kind)(K:uS ks→ad→Prop)(h:ad):Prop where
 run:∀w:World,w.heap=h→(∀(args:Array Value) (w:World),(callFunc f args).run P w=.ok (.enter f args) w)∧
  Calls P f args.toArray w fun e w'=>Tame w w'∧∃t:uS ks,e=.returned (CB ks (mN ks t))∧K t w'.heap
theorem HE.hc{P:Program}{f:FuncId}{args:List Value}{ks:List Kind}{K:uS ks→ad→Prop}{h:ad}(e:HE P f args ks K h):HC P f args ks K h:=
 ⟨fun w a=>.inl ⟨(e.run w a).1 _ w,(e.run w a).2⟩⟩
structure HY(P:Program)(l:Nat)(args:List Value)(K:Bool→ad→Prop)(h:ad):Prop where
 run:∀w:World,w.heap=h→∃fn tmps assign body,(Instr.yield l args.toArray).run P w=.ok (.round l fn tmps assign body) w∧
  ∀(c:Frame) (cs:List Frame),∃b w',Tame w w'∧K b w'.heap∧Steps P (lone (Frame.round l fn tmps assign body .normal) (c::cs) w) (lone (c.finish (.bool b)) cs w')
structure HV(P:Program)(fv:Value)(args:List Value)(ks:List Kind)(K:uS ks→ad→Prop)(h:ad):Prop where
 run:(∃f first cap,fv=.func (.func f) first cap∧HC P f (first.toList++args++cap.toList) ks K h)∨
  (∃l,fv=.func (.yield l) #[] #[]∧HY P l args (fun b h'=>F5 ks [.bool b] fun t=>K t h') h)
noncomputable def CondP(b:Bool)(t e:Prop):Prop:=Bool.rec (motive:=fun _=>Prop) e t b
theorem CondP.yes{b:Bool}{t e:Prop}(h:CondP b t e)(a:b=true):t:=by subst a;exact h
theorem CondP.no{b:Bool}{t e:Prop}(h:CondP b t e)(a:b=false):e:=by subst a;exact h
theorem CondP.intro{b:Bool}{t e:Prop}(a:b=true→t)(c:b=false→e):CondP b t e:=by cases b;exact c rfl;exact a rfl
theorem aA{t e:Prop}:CondP true t e↔t:=AE
theorem af{t e:Prop}:CondP false t e↔e:=AE
attribute [irreducible] CondP
def At(h:ad)(k:ad→Prop):Prop:=k h
def Bd{T:Type}(x:T)(k:T→Prop):Prop:=k x
structure Join{T:Type}(rest:T→ad→Prop)(k:(T→ad→Prop)→Prop):Prop where
 run:k rest
structure LoopP{T:Type}(F:(T→ad→Prop)→T→ad→Prop)(t:T)(h:ad):Prop where
 run:∀I:T→ad→Prop,(∀t h,F I t h→I t h)→I t h
abbrev cJ:=List (Nat×Value)
noncomputable def kV(r:cJ)(t:Nat):Option Value:=
 fP (motive:=fun _=>Option Value) none (fun a _ b=>bif az a.1 t then some a.2 else b) r
theorem G5(k:Nat)(v:Value)(r:cJ)(t:Nat):kV ((k,v)::r) t=bif az k t then some v else kV r t:=rfl
noncomputable def dq(r:cJ):Operand→Option Value
 | .tmp t=>kV r t
 | .const v=>some v
 | .global g=>some (.pointer (some ⟨g,0,none⟩))
 | .func f=>some (.func (.func f) #[] #[])
noncomputable def oN(r:cJ):List Operand→Option (List Value)
 | []=>some []
 |o::os=>match dq r o,oN r os with
  |some v,some vs=>some (v::vs)
  |_,_=>none
noncomputable def L4:List CK→Nat→Addr→ad→(List Value→Prop)→Prop
 | [],_,_,_,k=>k []
 |c::cs,i,a,h,k=>∃x:c.den,aD h (adr a i)=some (c.enc x)∧L4 cs (i+1) a h fun vs=>k (c.enc x::vs)
noncomputable def uR:List Value→Nat→Addr→ad→Prop
 | [],_,_,_=>True
 | [v],i,a,h=>aD h (adr a i)=some v
 |v::u::vs,i,a,h=>aD h (adr a i)=some v∧uR (u::vs) (i+1) a h
abbrev RK:=Value→Option (ad→Prop)→Prop
noncomputable def Nx(P:Program)(t:TypeId)(v:Value)(K:RK)(h:ad):Prop:=
 match v with
 | .pointer (some a)=>
  match Hw P t with
  |some (.c c)=>∃x:c.den,aD h a=some (c.enc x)∧K (c.enc x) (some fun h'=>aD h' a=some (c.enc x))
  |some (.agg cs)=>L4 cs 0 a h fun vs=>K (.agg vs.toArray) (some fun h'=>uR vs 0 a h')
  |none=>False
 |_=>False
def zm(P:Program)(t:TypeId)(f:Nat):Option (TypeId×Nat):=
 match P.underlying t with
 |some (.struct fs)=>match fs.toList[f]? with
  |some g=>some (g.type,g.offset)
  |none=>none
 |_=>none
def yj(P:Program)(t:TypeId):Option TypeId:=
 match P.underlying t with
 |some (.slice e)=>some e
 |_=>none
def PP(op:BinOp)(k:IntKind)(a b:Int)(K:RK):Prop:=
 match op with
 | .shl=>0≤b∧K (.int k (k.wrap (a*2^(min b.toNat k.bits)))) none
 | .shr=>0≤b∧K (.int k (a.fdiv (2^(min b.toNat k.bits)))) none
 |_=>False
def Y4(op:BinOp)(k:IntKind)(a b:Int)(K:RK):Prop:=
 match op with
 | .add=>K (.int k (k.wrap (a+b))) none
 | .sub=>K (.int k (k.wrap (a-b))) none
 | .mul=>K (.int k (k.wrap (a*b))) none
 | .quo=>b≠0∧K (.int k (k.wrap (a.tdiv b))) none
 | .rem=>b≠0∧K (.int k (a.tmod b)) none
 | .and=>K (.int k (k.wrap (au k.bits a&&&au k.bits b).toNat)) none
 | .or=>K (.int k (k.wrap (au k.bits a|||au k.bits b).toNat)) none
 | .xor=>K (.int k (k.wrap (au k.bits a^^^au k.bits b).toNat)) none
 | .andNot=>K (.int k (k.wrap (au k.bits a&&& ~~~au k.bits b).toNat)) none
 | .eql=>K (.bool (a==b)) none
 | .neq=>K (.bool (a !=b)) none
 | .lss=>K (.bool (decide (a<b))) none
 | .leq=>K (.bool (decide (a≤b))) none
 | .gtr=>K (.bool (decide (a>b))) none
 | .geq=>K (.bool (decide (a≥b))) none
 |_=>False
def YO(op:BinOp)(a b:ByteArray)(K:RK):Prop:=
 match op with
 | .add=>((a.size+b.size:Nat):Int)≤9223372036854775807∧K (.string (a++b)) none
 | .eql=>K (.bool (a.toList==b.toList)) none
 | .neq=>K (.bool (!(a.toList==b.toList))) none
 | .lss=>K (.bool (cX a.toList b.toList)) none
 | .leq=>K (.bool (cX a.toList b.toList||a.toList==b.toList)) none
 | .gtr=>K (.bool (!(cX a.toList b.toList||a.toList==b.toList))) none
 | .geq=>K (.bool (!(cX a.toList b.toList))) none
 |_=>False
def ip(h:ad)(a:Addr):Prop:=(∃c e,h[a.block]? =some (.cells c e (0,0))∧0<c.size)
def Y3:Value→Bool
 | .func _ _ _=>true
 | .nilFunc=>true
 |_=>false
def YZ:Value→Bool
 | .nilFunc=>true
 |_=>false
def XP:Value→Bool
 | .iface _ _=>true
 | .nilIface=>true
 |_=>false
def Tm:Value→Bool
 | .nilIface=>true
 |_=>false
def XE(P:Program)(t:TypeId)(neg:Bool)(x y:Value)(K:RK):Prop:=
 match P.underlying t,x,y with
 |some (.pointer _),.pointer a,.pointer none=>K (.bool (bif neg then !a.isNone else a.isNone)) none
 |some (.map _ _),.map a,.map none=>K (.bool (bif neg then !a.isNone else a.isNone)) none
 |some (.slice _),.slice a _ _,.slice none _ _=>K (.bool (bif neg then !a.isNone else a.isNone)) none
 |some (.func _ _ _),x,.nilFunc=>Y3 x=true∧K (.bool (bif neg then !(YZ x)else YZ x)) none
 |some (.interface _),x,.nilIface=>XP x=true∧K (.bool (bif neg then !(Tm x)else Tm x)) none
 |_,_,_=>False
def VJ:Operand→Bool
 | .const (.pointer none)=>true
 | .const (.map none)=>true
 | .const (.slice none 0 0)=>true
 | .const .nilFunc=>true
 | .const .nilIface=>true
 |_=>false
def aaA(P:Program)(t:TypeId)(neg:Bool)(x y:Value)(K:RK)(h:ad):Prop:=
 match P.underlying t,x,y with
 |some .bool,.bool a,.bool b=>K (.bool (bif neg then !(a==b)else a==b)) none
 |some (.pointer e),.pointer a,.pointer b=>
  (bif az (cg P e) 0 then False else True)∧
  (∀x y,a=some x→b=some y→ip h x∧ip h y)∧
  K (.bool (bif neg then !(a==b)else a==b)) (some fun h'=>∀x y,a=some x→b=some y→ip h' x∧ip h' y)
 |_,_,_=>False
def Xu(P:Program)(op:BinOp)(t:TypeId)(x y:Value)(K:RK)(h:ad):Prop:=
 match x,y with
 | .int k a,.int k' b=>
  match op with
  | .shl=>PP .shl k a b K
  | .shr=>PP .shr k a b K
  |op=>bif LS k' k then Y4 op k a b K else False
 | .string a,.string b=>YO op a b K
 |x,y=>match op with
  | .eql=>aaA P t false x y K h
  | .neq=>aaA P t true x y K h
  |_=>False
def tB(h:ad):List (Option Addr×Option Addr)→Prop
 | []=>True
 |(a,b)::l=>(∀x y,a=some x→b=some y→ip h x∧ip h y)∧tB h l
def V2(P:Program)(t:TypeId)(x y:Value):Option (Bool×List (Option Addr×Option Addr)):=
 match P.underlying t,x,y with
 |some (.int _),.int k a,.int k' b=>bif LS k' k then some (a==b,[])else none
 |some .bool,.bool a,.bool b=>some (a==b,[])
 |some .string,.string a,.string b=>some (a.toList==b.toList,[])
 |some (.pointer e),.pointer a,.pointer b=>bif az (cg P e) 0 then none else some (a==b,[(a,b)])
 |_,_,_=>none
def X1(P:Program)(rec:TypeId→List Value→List Value→Option (Bool×List (Option Addr×Option Addr)))(xs ys:List Value):List Field→Option (Bool×List (Option Addr×Option Addr))
 | []=>some (true,[])
 |f::fs=>
  if f.name= "_" then none else
  bif (P.underlying f.type).isSome&&(P.info? f.type).isSome then
   match(bif xS P f.type then rec f.type ((xs.drop f.offset).take (cg P f.type)) ((ys.drop f.offset).take (cg P f.type))
    else match xs[f.offset]?,ys[f.offset]? with|some x,some y=>V2 P f.type x y|_,_=>none),X1 P rec xs ys fs with
   |some (b,l),some (c,m)=>some (b&&c,l++m)
   |_,_=>none
  else none
def V3(P:Program):Nat→TypeId→List Value→List Value→Option (Bool×List (Option Addr×Option Addr))
 |0,_,_,_=>none
 |d+1,t,xs,ys=>match P.underlying t with
  |some (.struct fs)=>bif P.stoodInHeld t then none else X1 P (V3 P d) xs ys fs.toList
  |_=>none
def abB(neg b:Bool)(K:RK)(h:ad):List (Option Addr×Option Addr)→Prop
 | []=>K (.bool (bif neg then !b else b)) none
 |p::l=>tB h (p::l)∧K (.bool (bif neg then !b else b)) (some fun h'=>tB h' (p::l))
def YV(P:Program)(op:BinOp)(t:TypeId)(xs ys:List Value)(K:RK)(h:ad):Prop:=
 bif P.eqGuardType P.depth t then False else
 match op with
 | .eql=>(match V3 P 10 t xs ys with|some (b,l)=>abB false b K h l|none=>False)
 | .neq=>(match V3 P 10 t xs ys with|some (b,l)=>abB true b K h l|none=>False)
 |_=>False
def aaW(op:UnOp)(x:Value)(K:RK):Prop:=
 match op,x with
 | .neg,.int k n=>K (.int k (k.wrap (0-n))) none
 | .xor,.int k n=>K (.int k (k.wrap (au k.bits (if k.signed then-1 else k.max)^^^au k.bits n).toNat)) none
 | .not,.bool b=>K (.bool (!b)) none
 |_,_=>False
def cL(s:ByteArray):List Value:=s.data.toList.map fun b=>.int .u8 b.toNat
noncomputable def Row(h:ad)(a:Addr)(vs:List Value):Prop:=∀i v,vs[i]? =some v→aD h (adr a i)=some v
noncomputable def SRow(h:ad)(a:Option Addr)(n:Nat)(vs:List Value):Prop:=vs.length=n∧(vs= []∨∃b,a=some b∧Row h b vs)
def Qu(P:Program)(e:TypeId):Bool:=match P.underlying e with|some (.int .u8)=>true|_=>false
def Y2(P:Program)(s d:TypeId):Bool:=
 match P.underlying s,P.underlying d with
 |some .string,some (.slice e)=>Qu P e
 |_,_=>false
def aaC(e:TypeId)(s:ByteArray)(h:ad)(K:Nat→ad→Prop):Prop:=
 ∀c,s.size≤c→K c (h.push (.cells (cL s++bF (c-s.size) (Value.int .u8 0)).toArray e (c,c+1)))
noncomputable def Vl(P:Program)(b c:TypeId)(x:Value)(K:RK)(h:ad):Prop:=
 match P.underlying b,P.underlying c,x with
 |some (.int _),some (.int k),.int _ n=>K (.int k (k.wrap n)) none
 |some .string,some .string,.string s=>K (.string s) none
 |some (.slice e),some .string,.slice a n _=>bif Qu P e then∃s:ByteArray,SRow h a n (cL s)∧K (.string s) (some fun h'=>SRow h' a n (cL s))else False
 |_,_,_=>False
def bnd(v:Option Value)(d y:Nat)(K:Nat→Prop):Prop:=
 match v with
 |none=>K d
 |some (.int _ i)=>(0≤i∧i≤y)∧K i.toNat
 |_=>False
noncomputable def aY(a:Option Addr)(l m size:Nat):Option Addr:=if m=l then a else a.map (adr · (l*size))
def Vy(P:Program)(t:TypeId)(K:Prop):Prop:=match P.info? t with|some _=>K|none=>False
noncomputable def P5(P:Program)(t:TypeId)(x:Value)(lo hi b:Option Value)(K:RK):Prop:=
 match P.underlying t,x with
 |some .string,.string s=>match b with
  |some _=>False
  |none=>bnd hi s.size s.size fun h=>bnd lo 0 h fun l=>K (.string (s.extract l h)) none
 |some (.slice e),.slice a len cap=>Vy P e (
  match b with
  |none=>bnd hi len cap fun h=>bnd lo 0 h fun l=>K (.slice (aY a l cap (cg P e)) (h-l) (cap-l)) none
  |some m=>match hi with
   |none=>False
   |some hi=>bnd (some m) 0 cap fun m=>bnd (some hi) 0 m fun h=>bnd lo 0 h fun l=>K (.slice (aY a l m (cg P e)) (h-l) (m-l)) none)
 |some (.array n e),.pointer (some a)=>Vy P e (
  match b with
  |none=>bnd hi n n fun h=>bnd lo 0 h fun l=>K (.slice (aY (some a) l n (cg P e)) (h-l) (n-l)) none
  |some _=>False)
 |_,_=>False
noncomputable def Ki(r:cJ):Option Operand→Option (Option Value)
 |none=>some none
 |some o=>match dq r o with
  |some v=>some (some v)
  |none=>none
noncomputable def BF(P:Program)(t:TypeId)(x i:Value)(K:RK):Prop:=
 match P.underlying t,x,i with
 |some (.array n e),.pointer (some a),.int _ i=>Vy P e ((0≤i∧i<n)∧K (.pointer (some (adr a (i.toNat*cg P e)))) none)
 |some (.slice e),.slice b len _,.int _ i=>Vy P e ((0≤i∧i<len)∧∃a,b=some a∧K (.pointer (some (adr a (i.toNat*cg P e)))) none)
 |_,_,_=>False
def P8(P:Program)(t:TypeId)(x i:Value)(K:RK):Prop:=
 match P.underlying t,x,i with
 |some .string,.string s,.int _ i=>∃b:UInt8,0≤i∧s[i.toNat]? =some b∧K (.int .u8 b.toNat) none
 |_,_,_=>False
noncomputable def P9(P:Program)(t:TypeId)(x:Value)(f:Nat)(K:RK):Prop:=
 match zm P t f,x with
 |some (u,off),.agg cs=>bif (P.underlying u).isSome&&(P.info? u).isSome then(bif xS P u then K (.agg ((cs.toList.drop off).take (cg P u)).toArray) none
  else(match cs.toList[off]? with|some v=>K v none|none=>False))else False
 |_,_=>False
def Yn(c a b:Value)(K:RK):Prop:=
 match c with
 | .bool c=>(match a,b with
  | .bool x,.bool y=>K (.bool (bif c then x else y)) none
  |_,_=>(match c with|true=>K a none|false=>K b none))
 |_=>False
def gk:Value→Value→Bool
 | .int _ a,.int _ b=>a==b
 | .string a,.string b=>a==b
 | .bool a,.bool b=>a==b
 |_,_=>false
def HN(k:Value):List MapEntry→Option Value
 | []=>none
 |e::es=>if gk k e.key then some e.val else HN k es
def keysOf(c:CK)(es:List MapEntry):Prop:=∀e∈es,∃x:c.den,e.key=c.enc x
def xT(c:CK)(z:Value)(h:ad)(m:Option Nat)(k v:Value)(ok:Bool):Prop:=
 match m with
 |none=>v=z∧ok=false
 |some r=>∃es clock,h[r]? =some (.map es clock)∧keysOf c es.toList∧
  (match HN k es.toList with|some u=>v=u∧ok=true|none=>v=z∧ok=false)
def N6(P:Program)(t:TypeId):Option (CK×TypeId):=
 match P.underlying t with
 |some (.map k e)=>match P.underlying k with
  |some (.int i)=>some (.int i,e)
  |some .string=>some (.str,e)
  |some .bool=>some (.bool,e)
  |_=>none
 |_=>none
def Ls(P:Program)(t:TypeId)(x k:Value)(ok:Bool)(K:RK)(h:ad):Prop:=
 match N6 P t,x with
 |some (c,e),.map m=>c.dec k fun _=>
  (match Hw P e,AV P e with
   |some ek,some z=>∃(y:ek.den) (b:Bool),xT c z h m k (ek.enc y) b∧
    K (bif ok then .tuple #[ek.enc y,.bool b]else ek.enc y) (some fun h'=>xT c z h' m k (ek.enc y) b)
   |_,_=>False)
 |_,_=>False
def Im(h:ad)(m:Option Nat)(n:Nat):Prop:=
 match m with
 |none=>n=0
 |some r=>∃es clock,h[r]? =some (.map es clock)∧n=es.size
def SD(c:Bool)(h:ad)(m:Option Nat)(n:Nat):Prop:=
 match m with
 |none=>n=0
 |some r=>∃cap buf cl s q,h[r]? =some (.chan cap buf cl s q false)∧n=bif c then cap else buf.size
def YT(P:Program)(t:TypeId)(x:Value)(K:RK)(h:ad):Prop:=
 match P.underlying t,x with
 |some .string,.string s=>K (.int .i64 s.size) none
 |some (.array n _),_=>K (.int .i64 n) none
 |some (.slice _),.slice _ n _=>K (.int .i64 n) none
 |some (.map _ _),.map m=>∃n:Nat,Im h m n∧K (.int .i64 n) (some fun h'=>Im h' m n)
 |some (.chan _ _),.chan m=>∃n:Nat,SD false h m n∧K (.int .i64 n) (some fun h'=>SD false h' m n)
 |_,_=>False
def YU(P:Program)(t:TypeId)(x:Value)(K:RK)(h:ad):Prop:=
 match P.underlying t,x with
 |some (.slice _),.slice _ _ n=>K (.int .i64 n) none
 |some (.chan _ _),.chan m=>∃n:Nat,SD true h m n∧K (.int .i64 n) (some fun h'=>SD true h' m n)
 |_,_=>False
def LK(c:Bool)(k:IntKind):Int→List Value→(Value→Prop)→Prop
 |a,[],f=>f (.int k a)
 |a,.int k' b::vs,f=>bif LS k' k then LK c k (bif c then(if b>a then b else a)else(if b<a then b else a)) vs f else False
 |_,_,_=>False
def Gt(b:Bool)(vs:List Value)(f:Value→Prop):Prop:=
 match vs with
 | .int k a::vs=>LK b k a vs f
 |_=>False
def Q7(h:ad)(i:Nat)(e:MapEntry):Prop:=
 ∃m since seen last stamp es,h[i]? =some (.mapIter (some m) since seen last)∧seen.back? =some stamp∧h[m]? =some (.map es last)∧es.find? (fun e=>e.born==stamp)=some e
def ri(P:Program)(t:TypeId):Bool:=match P.underlying t with|some (.interface _)=>false|some _=>true|none=>false
def RR(P:Program)(t:TypeId)(x:Value)(K:RK):Prop:=
 bif ri P t then(match Hw P t with
  |some k=>∃y:k.den,x=.iface t (k.enc y)∧K (k.enc y) none
  |none=>False)else False
def NF(cs:List Value)(off:Nat)(vs:List Value):List Value:=cs.take off++vs++cs.drop (off+vs.length)
def Fj(a:Nat→Option (Nat×Nat)):List Value→List (Nat×Value)→Option (List Value)
 |cs,[]=>some cs
 |cs,(i,v)::rest=>match a i with
  |none=>none
  |some (off,size)=>bif az v.cells.toList.length size&&AD (off+v.cells.toList.length) cs.length then Fj a (NF cs off v.cells.toList) rest else none
noncomputable def rh(r:cJ):List (Nat×Operand)→Option (List (Nat×Value))
 | []=>some []
 |(i,o)::ps=>match dq r o,rh r ps with
  |some v,some vs=>some ((i,v)::vs)
  |_,_=>none
def rP(P:Program)(t:TypeId):Option (List Value):=match AV P t with|some z=>some z.cells.toList|none=>none
def dw(n:Nat)(z:List Value):List Value:=(bF n z).flatten
def Aw(P:Program)(t:TypeId):Bool:=match P.info? t with|some _=>true|none=>false
def Dc(P:Program):List Field→Bool
 | []=>true
 |f::fs=>bif Aw P f.type then Dc P fs else false
def Qg(P:Program)(a:List Field)(i:Nat):Option (Nat×Nat):=match a[i]? with|some f=>some (f.offset,cg P f.type)|none=>none
def Me(P:Program)(t:TypeId)(a:List (Nat×Value)):Option (List Value):=
 match P.underlying t,rP P t with
 |some (.struct fs),some z=>bif Dc P fs.toList then Fj (Qg P fs.toList) z a else none
 |some (.array _ e),some z=>bif Aw P e then Fj (fun i=>some (i*cg P e,cg P e)) z a else none
 |_,_=>none
def P6(v:Value)(K:RK):Prop:=
 match v with
 | .slice a _ c=>(a=none∨c≠0)∧K (.pointer a) none
 |_=>False
noncomputable def D5(P:Program)(ek:Option (Kind×Kind))(o:Op)(r:cJ)(K:RK)(h:ad):Prop:=
 match o with
 | .entry it=>match dq r it,ek with
  |some (.pointer (some a)),some (kk,vk)=>a.off=0∧∃(e:MapEntry) (x:kk.den) (y:vk.den),Q7 h a.block e∧e.key=kk.enc x∧e.val=vk.enc y∧
    K (.tuple #[kk.enc x,vk.enc y]) (some fun h'=>Q7 h' a.block e)
  |_,_=>False
 | .move x| .assign x=>match dq r x with|some v=>K v none|none=>False
 | .load t a=>match dq r a with|some v=>Nx P t v K h|none=>False
 | .nilCheck x=>match dq r x with|some (.pointer p)=>∃a,p=some a∧K (.pointer (some a)) none|_=>False
 | .binOp op t x y _=>match VJ y,dq r x,dq r y with
  |true,some v,some u=>(match op with
   | .eql=>XE P t false v u K
   | .neq=>XE P t true v u K
   |op=>Xu P op t v u K h)
  |false,some (.agg v),some (.agg u)=>YV P op t v.toList u.toList K h
  |false,some v,some u=>Xu P op t v u K h
  |_,_,_=>False
 | .unOp op _ x=>match dq r x with|some v=>aaW op v K|none=>False
 | .convert s d x=>match dq r x with|some v=>Vl P s d v K h|none=>False
 | .pick c a b=>match dq r c,dq r a,dq r b with|some c,some a,some b=>Yn c a b K|_,_,_=>False
 | .extract x i=>match dq r x with
  |some (.tuple vs)=>(match vs.toList[i]? with|some v=>K v none|none=>False)
  |_=>False
 | .fieldAddr t x f=>match dq r x,zm P t f with
  |some (.pointer (some a)),some (u,off)=>bif az (cg P u) 0 then False else K (.pointer (some (adr a off))) none
  |_,_=>False
 | .field t x f=>match dq r x with|some v=>P9 P t v f K|none=>False
 | .indexAddr t x i=>match dq r x,dq r i with|some v,some u=>BF P t v u K|_,_=>False
 | .index t x i=>match dq r x,dq r i with|some v,some u=>P8 P t v u K|_,_=>False
 | .slice t x lo hi mx=>match dq r x,Ki r lo,Ki r hi,Ki r mx with
  |some v,some l,some h',some m=>P5 P t v l h' m K
  |_,_,_,_=>False
 | .lookup t x k ok=>match dq r x,dq r k with|some v,some u=>Ls P t v u ok K h|_,_=>False
 | .makeInterface t x=>match dq r x with|some v=>bif ri P t then K (.iface t v) none else False|none=>False
 | .typeAssert x _ t ok=>match dq r x with|some v=>bif ok then False else RR P t v K|none=>False
 | .build t ps=>match rh r ps.toList with
  |some vs=>(match Me P t vs with|some cs=>K (.agg cs.toArray) none|none=>False)
  |none=>False
 | .makeFunc fn first cap=>match oN r first.toList,oN r cap.toList with
  |some vs,some us=>K (.func fn vs.toArray us.toArray) none
  |_,_=>False
 | .call c=>match c.callee,oN r c.args.toList,c.argTypes.toList with
  | .builtin .len,some [v],[t]=>YT P t v K h
  | .builtin .cap,some [v],[t]=>YU P t v K h
  | .builtin .min,some vs,_=>Gt false vs fun v=>K v none
  | .builtin .max,some vs,_=>Gt true vs fun v=>K v none
  | .builtin .unsafeSliceData,some [v],_=>P6 v K
  |_,_,_=>False
 |_=>False
abbrev WK:=Value→ad→Prop
def aH(h:ad):Addr:=⟨h.size,0,none⟩
def hnew(h:ad)(cs:List Value)(t:TypeId):ad:=h.push (.cells cs.toArray t (0,0))
def cx:List Value→Bool
 | []=>true
 |v::vs=>(match v with| .agg _=>false| .tuple _=>false|_=>true)&&cx vs
noncomputable def ir(h:ad)(a:Addr):Nat→List Value→ad
 |_,[]=>h
 |i,v::vs=>ir (hset h (adr a i) v) a (i+1) vs
noncomputable def fL(h:ad)(a:Option Addr)(i:Nat)(vs:List Value):ad:=match a with|some a=>ir h a i vs|none=>h
noncomputable def tc(h:ad)(a:Option Addr)(i:Nat)(vs:List Value):Prop:=vs= []∨∃b,a=some b∧∀j,j<vs.length→Wr h (adr b (i+j))
noncomputable def Py(P:Program)(t:TypeId)(a v:Value)(K:WK)(h:ad):Prop:=
 match a with
 | .pointer (some a)=>bif az v.cells.toList.length (cg P t)&&cx v.cells.toList then Vy P t
   (match v.cells.toList with
    | [v]=>Wr h a∧K undef (hset h a v)
    |vs=>tc h (some a) 0 vs∧K undef (ir h a 0 vs))
  else False
 |_=>False
noncomputable def WD(P:Program)(e:TypeId)(a:Option Addr)(sl c b:Nat)(xs:List Value)(K:WK)(h:ad):Prop:=
 (sl+b≤c→tc h a (sl*cg P e) xs∧cx xs=true∧K (.slice a (sl+b) c) (fL h a (sl*cg P e) xs))∧
 (c<sl+b→∃old z,SRow h a (sl*cg P e) old∧rP P e=some z∧0<rY P e∧Builtin.nextslicecap (sl+b) c*rY P e≤2^48∧
  ∀nc,sl+b≤nc→K (.slice (some (aH h)) (sl+b) nc) (hnew h (old++xs++dw (nc-(sl+b)) z) e))
noncomputable def Gj(P:Program)(t:TypeId)(s x:Value)(K:WK)(h:ad):Prop:=
 match yj P t,s,x with
 |some e,.slice b sl sc,.slice a xl _=>Vy P e (∃xs,SRow h a (xl*cg P e) xs∧WD P e b sl sc xl xs K h)
 |some e,.slice b sl sc,.string x=>bif az (cg P e) 1 then WD P e b sl sc x.size (cL x) K h else False
 |_,_,_=>False
noncomputable def GL(P:Program)(t:TypeId)(s x:Value)(K:WK)(h:ad):Prop:=
 match yj P t,s,x with
 |some e,.slice b sl sc,.int _ l=>(match rP P e with
  |some z=>bif az z.length (cg P e)then(0≤l∧l*rY P e≤2^48∧l≤9223372036854775807∧((sl+l.toNat:Nat):Int)≤9223372036854775807)∧WD P e b sl sc l.toNat (dw l.toNat z) K h else False
  |none=>False)
 |_,_,_=>False
noncomputable def PA(P:Program)(t:TypeId)(x:Value)(K:WK)(h:ad):Prop:=
 match yj P t,x with
 |some e,.slice a n _=>(match rP P e with
  |some z=>bif cx z then tc h a 0 (dw n z)∧K (.tuple #[]) (fL h a 0 (dw n z))else False
  |none=>False)
 |_,_=>False
noncomputable def UC(P:Program)(t:TypeId)(d s:Value)(K:WK)(h:ad):Prop:=
 match yj P t,d,s with
 |some e,.slice b dl _,.slice a sl _=>Vy P e (∃xs,SRow h a (dQ sl dl*cg P e) xs∧tc h b 0 xs∧cx xs=true∧K (.int .i64 (dQ sl dl)) (fL h b 0 xs))
 |some e,.slice b dl _,.string x=>bif az (cg P e) 1 then tc h b 0 ((cL x).take dl)∧K (.int .i64 (dQ x.size dl)) (fL h b 0 ((cL x).take dl))else False
 |_,_,_=>False
def Lx(k v:Value)(a:Nat):List MapEntry→List MapEntry×Nat
 | []=>([{key:=k,val:=v,born:=a}],a+1)
 |e::es=>if gk k e.key then({e with key:=k,val:=v}::es,a)else let r:=Lx k v a es;(e::r.1,r.2)
def H1(k:Value):List MapEntry→List MapEntry
 | []=> []
 |e::es=>if gk k e.key then es else e::H1 k es
def zR(c:CK)(h:ad)(r:Nat):Prop:=∃es clock,h[r]? =some (.map es clock)∧keysOf c es.toList
def m9(h:ad)(r:Nat)(k v:Value):ad:=
 match h[r]? with
 |some (.map es clock)=>h.setIfInBounds r (.map (Lx k v clock es.toList).1.toArray (Lx k v clock es.toList).2)
 |_=>h
def Hn(h:ad)(r:Nat)(k:Value):ad:=
 match h[r]? with
 |some (.map es clock)=>h.setIfInBounds r (.map (H1 k es.toList).toArray clock)
 |_=>h
def Gi(P:Program)(t:TypeId)(m k v:Value)(K:WK)(h:ad):Prop:=
 match N6 P t,m with
 |some (c,_),.map m=>c.dec k fun _=>∃r,m=some r∧zR c h r∧K undef (m9 h r k v)
 |_,_=>False
def GJ(P:Program)(t:TypeId)(m k:Value)(K:WK)(h:ad):Prop:=
 match N6 P t,m with
 |some (c,_),.map m=>c.dec k fun _=>(m=none∧K (.tuple #[]) h)∨(∃r,m=some r∧zR c h r∧K (.tuple #[]) (Hn h r k))
 |_,_=>False
def Ve(P:Program):List TypeId→Option (List Kind)
 | []=>some []
 |t::ts=>match Hw P t,Ve P ts with
  |some k,some ks=>some (k::ks)
  |_,_=>none
def Vf(P:Program)(t:TypeId):Option (List Kind):=
 match P.underlying t with
 |some (.tuple ts)=>Ve P ts.toList
 |_=>Ve P [t]
noncomputable def Yh(P:Program)(f:Operand)(r:cJ)(args:List Value)(t:TypeId)(K:WK)(h:ad):Prop:=
 match Vf P t with
 |none=>False
 |some ks=>match f with
  | .func f=>HC P f args ks (fun x h'=>K (CB ks (mN ks x)) h') h
  |f=>match dq r f with
   |some fv=>HV P fv args ks (fun x h'=>K (CB ks (mN ks x)) h') h
   |none=>False
def UB(b:Value)(K:WK)(h:ad):Prop:=
 match b with
 | .pointer (some a)=>a.off=0∧
  ∃m since seen last,h[a.block]? =some (.mapIter m since seen last)∧
   ((m=none∧K (.tuple #[.bool false]) h)∨
    (∃r es clock,m=some r∧h[r]? =some (.map es clock)∧(seen.isEmpty=true∨es.isEmpty=true∨es.all (fun e=>decide (e.born≥last))=false)∧
     ((∀e∈es.toList,e.born<since→seen.contains e.born=true)→K (.tuple #[.bool false]) h)∧
     (∀e∈es.toList,seen.contains e.born=false→K (.tuple #[.bool true,e.key,e.val]) (h.setIfInBounds a.block (.mapIter (some r) since (seen.push e.born) clock)))))
 |_=>False
def Pz(c:Value)(K:WK)(h:ad):Prop:=
 match c with
 | .pointer (some a)=>a.off=0∧∃s pos,h[a.block]? =some (.stringIter s pos)∧
  ((s.size≤pos∧K (.tuple #[.bool false]) h)∨
   (∃b:UInt8,s[pos]? =some b∧b.toNat<128∧K (.tuple #[.bool true,.int .i64 pos,.int .i32 b.toNat]) (h.setIfInBounds a.block (.stringIter s (pos+1)))))
 |_=>False
def hfreeze(h:ad)(g n:Nat):ad:=
 h.modify g fun
  | .cells c elem (lo,hi)=>.cells c elem (if lo==hi then(0,0+n)else(min lo 0,max hi (0+n)))
  |o=>o
def Yw(e:TypeId)(a:Option Addr)(n:Int)(h:ad)(K:ByteArray→ad→Prop):Prop:=
 (n=0∧K ⟨#[]⟩ h)∨∃(l:List UInt8) (g:Nat) (cs:Array Value),a=some ⟨g,0,none⟩∧n=l.length∧l≠[]∧l.length≤9223372036854775807∧h[g]? =some (.cells cs e (0,0))∧l.length≤cs.size∧
  (∀(j:Nat) (x:UInt8),l[j]? =some x→cs[j]? =some (.int .u8 x.toNat))∧K ⟨l.toArray⟩ (hfreeze h g l.length)
def UA(P:Program)(t:TypeId)(p n:Value)(K:WK)(h:ad):Prop:=
 match P.underlying t,p,n with
 |some (.pointer e),.pointer a,.int .i64 n=>bif az (P.cellsOf e) 1 then Yw e a n h (fun s h'=>K (.string s) h')else False
 |_,_,_=>False
noncomputable def IR(P:Program)(o:Oper)(r:cJ)(K:WK)(h:ad):Prop:=
 match o.op with
 | .alloc t=>(match rP P t with|some z=>K (.pointer (some (aH h))) (hnew h z t)|none=>False)
 | .box t x=>(match dq r x with|some v=>K (.pointer (some (aH h))) (hnew h v.cells.toList t)|none=>False)
 | .build t ps=>(match rh r ps.toList with
  |some vs=>(match Me P t vs with|some cs=>K (.agg cs.toArray) h|none=>False)
  |none=>False)
 | .buildSlice t n ps=>(match yj P t,rh r ps.toList with
  |some e,some vs=>(match rP P e with
   |some z=>bif AD (n*cg P e) 16777216&&az z.length (cg P e)then
     (match Fj (fun i=>some (i*cg P e,cg P e)) (dw n z) vs with|some cs=>K (.slice (some (aH h)) n n) (hnew h cs e)|none=>False)
    else False
   |none=>False)
  |_,_=>False)
 | .store t a x=>(match dq r a,dq r x with|some a,some v=>Py P t a v K h|_,_=>False)
 | .mapUpdate t m k x=>(match dq r m,dq r k,dq r x with|some m,some k,some v=>Gi P t m k v K h|_,_,_=>False)
 | .insert t m k x=>(match dq r m,dq r k,dq r x with|some m,some k,some v=>Gi P t m k v K h|_,_,_=>False)
 | .makeMap t n=>(match n with
  |none=>K (.map (some h.size)) (h.push (.map #[] 0))
  |some n=>(match dq r n,P.underlying t with|some (.int _ _),some (.map _ _)=>K (.map (some h.size)) (h.push (.map #[] 0))|_,_=>False))
 | .makeSlice t l c=>(match yj P t,dq r l,dq r c with
  |some e,some (.int _ l),some (.int _ c)=>(match rP P e with
   |some z=>bif az z.length (cg P e)then(0≤l∧l≤c∧c≤9223372036854775807∧rY P e*c≤2^48)∧K (.slice (some (aH h)) l.toNat c.toNat) (hnew h (dw c.toNat z) e)else False
   |none=>False)
  |_,_,_=>False)
 | .convert s d x=>(match P.underlying s,P.underlying d,dq r x with
  |some .string,some (.slice e),some (.string v)=>bif Qu P e then aaC e v h (fun c h'=>K (.slice (some (aH h)) v.size c) h')else False
  |_,_,_=>False)
 | .range t x=>(match P.underlying t,dq r x with
  |some (.map _ _),some (.map m)=>∃clock,(m=none∧clock=0∨∃r es,m=some r∧h[r]? =some (.map es clock))∧K (.pointer (some (aH h))) (h.push (.mapIter m clock #[] clock))
  |some .string,some (.string s)=>K (.pointer (some (aH h))) (h.push (.stringIter s 0))
  |_,_=>False)
 | .next it false=>(match dq r it with|some it=>UB it K h|none=>False)
 | .next it true=>(match dq r it with|some it=>Pz it K h|none=>False)
 | .call c=>(match c.callee,oN r c.args.toList with
  | .builtin .append,some [s,x]=>(match c.argTypes.toList with| [t,u]=>(match P.underlying u with|some (.slice _)=>Gj P t s x K h|some .string=>Gj P t s x K h|some (.int _)=>GL P t s x K h|_=>False)|_=>False)
  | .builtin .clear,some [x]=>(match c.argTypes.toList with| [t]=>PA P t x K h|_=>False)
  | .builtin .copy,some [d,s]=>(match c.argTypes.toList with| [t,_]=>UC P t d s K h|_=>False)
  | .builtin .unsafeString,some [p,n]=>(match c.argTypes.toList with| [t,_]=>UA P t p n K h|_=>False)
  | .builtin .delete,some [m,k]=>(match c.argTypes.toList with| [t,_]=>GJ P t m k K h|_=>False)
  | .value f,some args=>Yh P f r args o.type K h
  |_,_=>False)
 |_=>False
def ym(P:Program):Op→Bool
 | .convert s d _=> !Y2 P s d
 | .alloc _| .box .. | .buildSlice .. | .store .. | .mapUpdate .. | .insert .. | .makeMap .. | .makeSlice .. | .range .. | .next .. =>false
 | .call c=>match c.callee with
  | .builtin .len| .builtin .cap| .builtin .min| .builtin .max| .builtin .unsafeSliceData=>true
  |_=>false
 |_=>true
def BS(N:Nat)(o:Oper)(v:Value)(r:cJ)(K:cJ→Prop):Prop:=
 match o.dst with
 |none=>K r
 |some d=>bif AC d N then K ((d,v)::r)else False
noncomputable def Zq(P:Program)(N:Nat)(ek:Option (Kind×Kind))(o:Oper)(r:cJ)(K:cJ→ad→Prop)(h:ad):Prop:=
 bif ym P o.op then D5 P ek o.op r (fun v _=>BS N o v r fun a=>K a h) h
 else IR P o r (fun v h'=>BS N o v r fun a=>K a h') h
inductive DV where
 |f|t|u|x
abbrev w9:=List (Nat×DV)
noncomputable def sE(d:w9)(t:Nat):DV:=
 fP (motive:=fun _=>DV) .x (fun a _ b=>bif az a.1 t then a.2 else b) d
noncomputable def C6(d:w9):Operand→DV
 | .tmp t=>sE d t
 | .const (.bool true)=>.t
 | .const (.bool false)=>.f
 |_=>.x
noncomputable def MO(d:w9):Op→DV
 | .move x=>C6 d x
 | .assign x=>C6 d x
 | .pick c a b=>match C6 d c with
  | .t=>C6 d a
  | .f=>C6 d b
  |_=>.x
 | .unOp .not _ x=>match C6 d x with
  | .t=>.f
  | .f=>.t
  |_=>.x
 |_=>.x
def sZ(d:w9)(o:Oper)(v:DV):w9:=match o.dst with|some t=>(t,v)::d|none=>d
noncomputable def jw(ops:List Oper)(d:w9)(o:Oper):Option Bool:=
 match o.guard with
 |none=>some true
 |some (j,want)=>match ops[j]? with
  |none=>none
  |some oj=>match oj.dst with
   |none=>none
   |some t=>match sE d t with
    | .t=>some want
    | .f=>some (!want)
    | .u=>some false
    | .x=>none
def HJ(ops:List Oper)(o:Oper):Option Nat:=
 match o.guard with
 |none=>none
 |some (j,_)=>match ops[j]? with
  |none=>none
  |some oj=>oj.dst
noncomputable def JQ(P:Program)(N:Nat)(ek:Option (Kind×Kind))(ops:List Oper)(o:Oper)(d:w9)(r:cJ)(h:ad)(K:w9→cJ→ad→Prop):Prop:=
 match jw ops d o with
 |some true=>Zq P N ek o r (K (sZ d o (MO d o.op))) h
 |some false=>BS N o undef r fun a=>K (sZ d o .u) a h
 |none=>False
noncomputable def G2(P:Program)(N:Nat)(ek:Option (Kind×Kind))(ops:List Oper)(l:List Oper):w9→(cJ→ad→Prop)→cJ→ad→Prop:=
 fP (motive:=fun _=>w9→(cJ→ad→Prop)→cJ→ad→Prop) (fun _ K r h=>K r h)
  (fun o _ c d K r h=>
  match jw ops d o with
  |some true=>Zq P N ek o r (fun a h'=>c (sZ d o (MO d o.op)) K a h') h
  |some false=>BS N o undef r fun a=>c (sZ d o .u) K a h
  |none=>match HJ ops o with
   |none=>False
   |some t=>match kV r t with
    |some (.bool b)=>CondP b
     (JQ P N ek ops o ((t,.t)::d) ((t,.bool true)::r) h fun d' a h'=>c d' K a h')
     (JQ P N ek ops o ((t,.f)::d) ((t,.bool false)::r) h fun d' a h'=>c d' K a h')
    |_=>False) l
inductive DA where
 |done
 |take (i:Nat) (rest:DA)
 |all (l:DA)
 |pick (i:Nat) (rest more:DA)
 |last (i:Nat) (rest:DA)
 |lastT (i:Nat) (rest:DA)
 |split (t:Nat) (yes no:DA)
abbrev rZ:=List (Nat×(ad→Prop))
def tb(m i:Nat):Bool:=az (j6 (Nat.shiftRight m i) 1) 1
def ib(i:Nat):Nat:=Nat.pow 2 i
inductive DM where
 |mk (am fr lk ds:Nat)
def DM.am:DM→Nat| .mk a _ _ _=>a
def DM.fr:DM→Nat| .mk _ f _ _=>f
def DM.lk:DM→Nat| .mk _ _ l _=>l
def DM.ds:DM→Nat| .mk _ _ _ d=>d
def jz(o:Oper)(i:Nat):Bool:=o.after.toList.any fun e=>az e.on i&&Region.binds .any e
noncomputable def nr(l:List Edge):Nat:=
 fP (motive:=fun _=>Nat) 0 (fun e _ a=>bif Region.binds .any e then cY (ib e.on) a else a) l
noncomputable def mA(l:List Operand):Nat:=
 fP (motive:=fun _=>Nat) 0 (fun o _ a=>match o with| .tmp t=>cY (ib t) a|_=>a) l
def oI(o:Oper):Nat:=match o.dst with|some d=>ib d|none=>0
noncomputable def pg(ops:List Oper)(o:Oper):Nat:=
 cY (mA o.op.operands.toList) (match o.guard with
  |some (g,_)=>(match ops[g]? with|some og=>oI og|none=>0)
  |none=>0)
noncomputable def yX(ops:List Oper)(l:List Oper):List DM→Bool:=
 fP (motive:=fun _=>List DM→Bool) (fun ms=>match ms with| []=>true|_=>false)
  (fun o _ a ms=>match ms with
   |m::ms=>az (nr o.after.toList) m.am&&az (pg ops o) m.lk&&az (oI o) m.ds&&a ms
   | []=>false) l
def EG(x y:DM):Bool:=az (j6 x.ds (cY y.lk y.ds)) 0&&az (j6 y.ds x.lk) 0
noncomputable def KH(i:Nat)(m:DM)(l:List DM):Nat→Bool:=
 fP (motive:=fun _=>Nat→Bool) (fun _=>true)
  (fun n _ a j=>(!(tb m.fr j)||az j i||tb n.am i||EG m n)&&a (gb j)) l
noncomputable def CX(a:List DM)(l:List DM):Nat→Bool:=
 fP (motive:=fun _=>Nat→Bool) (fun _=>true) (fun m _ b i=>KH i m a 0&&b (gb i)) l
def NV:List Oper→Bool
 | []=>true
 |o::os=>(match o.op with| .select .. =>false| .defer _=>false|_=>true)&&NV os
noncomputable def Gv(ops:List Oper)(ms:List DM):Bool:=yX ops ops ms&&CX ms ms 0&&NV ops
def pA(o:Oper):rZ→rZ
 | []=> []
 |(k,S)::l=>bif jz o k then pA o l else(k,S)::pA o l
def tF:rZ→ad→Prop→Prop
 | [],_,R=>R
 |(_,S)::l,h,R=>S h∧tF l h R
def JX(m:DM)(ls:Nat):Bool:=az (j6 m.am ls) m.am
noncomputable def mE(ls:Nat)(l:List DM):Nat→List Nat:=
 fP (motive:=fun _=>Nat→List Nat) (fun _=> []) (fun m _ a j=>bif !(tb ls j)&&JX m ls then j::a (gb j)else a (gb j)) l
def GV(m:DM)(i ls n:Nat):Bool:= !(tb ls i)&&JX m ls&&az (j6 (cY ls m.fr) (Ah (ib n))) (Ah (ib n))
def xA:List Nat→List Nat→Bool
 | [],[]=>true
 |a::as,b::bs=>az a b&&xA as bs
 |_,_=>false
def Ez:DA→List Nat
 | .pick i _ l=>i::Ez l
 | .last i _=> [i]
 | .lastT i _=> [i]
 |_=> []
noncomputable def SY(P:Program)(N:Nat)(ops:List Oper)(i:Nat)(L:rZ)(d:w9)(r:cJ)(h:ad)(K:rZ→w9→cJ→ad→Prop):Prop:=
 match ops[i]? with
 |none=>False
 |some o=>match jw ops d o with
  |some true=>bif ym P o.op then D5 P none o.op r (fun v _=>BS N o v r fun a=>tF (pA o L) h (K (pA o L) (sZ d o .x) a h)) h else IR P o r (fun v h'=>BS N o v r fun a=>tF (pA o L) h' (K (pA o L) (sZ d o .x) a h')) h
  |_=>False
noncomputable def Ui(m:Nat)(l:List DM):Nat→Nat:=
 fP (motive:=fun _=>Nat→Nat) (fun _=>m) (fun n _ a j=>bif tb m j then cY n.am (a (gb j))else a (gb j)) l
noncomputable def C8(ms:List DM)(m:Nat):Nat:=Ui (Ui (Ui (Ui m ms 0) ms 0) ms 0) ms 0
def Mm(ms:List DM)(i:Nat):Nat:=match ms[i]? with|some m=>m.am|none=>0
def CD(m:Nat):rZ→rZ
 | []=> []
 |(k,S)::l=>bif tb m k then CD m l else(k,S)::CD m l
noncomputable def RP(P:Program)(N:Nat)(ops:List Oper)(ms:List DM)(i:Nat)(L:rZ)(d:w9)(r:cJ)(h:ad)(K:rZ→w9→cJ→ad→Prop):Prop:=
 match ops[i]? with
 |none=>False
 |some o=>match jw ops d o with
  |some true=>bif ym P o.op then False else IR P o r (fun v h'=>BS N o v r fun a=>tF (CD (C8 ms (Mm ms i)) L) h' (K (CD (C8 ms (Mm ms i)) L) (sZ d o .x) a h')) h
  |_=>False
noncomputable def od(P:Program)(N:Nat)(ops:List Oper)(ms:List DM)(j:DA):Bool→Nat→rZ→w9→(cJ→ad→Prop)→cJ→ad→Prop:=
 DA.rec (motive:=fun _=>Bool→Nat→rZ→w9→(cJ→ad→Prop)→cJ→ad→Prop)
  (fun m ls _ _ K r h=>bif !m&&xA (mE ls ms 0) []then K r h else False)
  (fun i _ c m ls L d K r h=>
   match ops[i]?,ms[i]? with
   |some o,some mi=>bif !m&&GV mi i ls ops.length then
     (match jw ops d o with
      |none=>False
      |some false=>BS N o undef r fun a=>c false (cY ls (ib i)) L (sZ d o .u) K a h
      |some true=>bif ym P o.op then
       D5 P none o.op r (fun v S=>BS N o v r fun a=>match S with
        |none=>c false (cY ls (ib i)) L (sZ d o (MO d o.op)) K a h
        |some S=>c false (cY ls (ib i)) ((i,S)::L) (sZ d o (MO d o.op)) K a h) h
       else False)
    else False
   |_,_=>False)
  (fun l c m ls L d K r h=>bif !m&&xA (mE ls ms 0) (Ez l)then c true ls L d K r h else False)
  (fun i _ _ f e m ls L d K r h=>bif m then SY P N ops i L d r h (fun g d' a h'=>f false (cY ls (ib i)) g d' K a h')∧e true ls L d K r h else False)
  (fun i _ c m ls L d K r h=>bif m then SY P N ops i L d r h (fun g d' a h'=>c false (cY ls (ib i)) g d' K a h')else False)
  (fun i _ c m ls L d K r h=>bif m then RP P N ops ms i L d r h (fun g d' a h'=>c false (cY ls (ib i)) g d' K a h')else False)
  (fun t _ _ f e m ls L d K r h=>
   bif m then False else match kV r t with
   |some (.bool b)=>CondP b (f false ls L ((t,.t)::d) K ((t,.bool true)::r) h) (e false ls L ((t,.f)::d) K ((t,.bool false)::r) h)
   |_=>False)
  j
noncomputable def abz(_:Oper)(i:Nat)(ds lk:Nat)(ops:List Oper)(l:List Oper):Nat→Nat:=
 fP (motive:=fun _=>Nat→Nat) (fun _=>0) (fun p _ a j=>bif (az j i||jz p i||(az (j6 ds (cY (pg ops p) (oI p))) 0&&az (j6 (oI p) lk) 0))then cY (ib j) (a (gb j))else a (gb j)) l
noncomputable def aa2(ops:List Oper)(l:List Oper):Nat→List DM:=
 fP (motive:=fun _=>Nat→List DM) (fun _=> []) (fun o _ a i=>.mk (nr o.after.toList) (abz o i (oI o) (pg ops o) ops ops 0) (pg ops o) (oI o)::a (gb i)) l
def Zw(P:Program)(w:Option Bool)(o:Oper):Bool:=match w with|some false=>true|some true=>ym P o.op|none=>false
noncomputable def Y8(P:Program)(ops:List Oper)(d:w9)(ls n:Nat)(l:List Oper):List DM→Nat→Option (Nat×Oper):=
 fP (motive:=fun _=>List DM→Nat→Option (Nat×Oper)) (fun _ _=>none)
  (fun o _ a ms j=>match ms with
   | []=>none
   |m::ms=>bif GV m j ls n&&Zw P (jw ops d o) o then some (j,o)else a ms (gb j)) l
noncomputable def Y9(ops:List Oper)(d:w9)(ls:Nat)(l:List Oper):List DM→Nat→Option Nat:=
 fP (motive:=fun _=>List DM→Nat→Option Nat) (fun _ _=>none)
  (fun o _ a ms j=>match ms with
   | []=>none
   |m::ms=>match bif !(tb ls j)&&JX m ls then(match jw ops d o with|none=>HJ ops o|some _=>none)else none with
    |some t=>some t
    |none=>a ms (gb j)) l
noncomputable def ZS(ops:List Oper)(k:Nat→w9→DA)(ls:Nat)(d:w9)(l:List Nat):DA:=
 fP (motive:=fun _=>DA) .done (fun i a b=>match ops[i]? with
  |none=>.done
  |some o=>match a with
   | []=>.last i (k (cY ls (ib i)) (sZ d o .x))
   |_=>.pick i (k (cY ls (ib i)) (sZ d o .x)) b) l
noncomputable def Zk(P:Program)(ops:List Oper)(ms:List DM)(a:Nat):Nat→w9→DA:=
 Nat.rec (motive:=fun _=>Nat→w9→DA) (fun _ _=>.done) (fun _ b ls d=>
  match Y8 P ops d ls ops.length ops ms 0 with
  |some (i,o)=>.take i (b (cY ls (ib i)) (match jw ops d o with|some false=>sZ d o .u|_=>sZ d o (MO d o.op)))
  |none=>match Y9 ops d ls ops ms 0 with
   |some t=>.split t (b ls ((t,.t)::d)) (b ls ((t,.f)::d))
   |none=>match mE ls ms 0 with
    | []=>.done
    |l=>.all (ZS ops b ls d l)) a
noncomputable def RZ(ops:List Oper):List DM:=aa2 ops ops 0
inductive Ex where
 |exit (id:Nat)
 |ret
abbrev St:=List (Nat×Kind)
def Bx:St→List Kind
 | []=> []
 |(_,k)::l=>k::Bx l
noncomputable def GZ(r:cJ):St→Option (List Value)
 | []=>some []
 |(i,_)::l=>match kV r i,GZ r l with
  |some v,some vs=>some (v::vs)
  |_,_=>none
noncomputable def E2(st:St)(r:cJ)(f:uS (Bx st)→Prop):Prop:=
 match GZ r st with
 |some vs=>F5 (Bx st) vs f
 |none=>False
def oD:St→List Value→cJ→cJ
 |(i,_)::l,v::vs,r=>(i,v)::oD l vs r
 |_,_,r=>r
noncomputable def Sb(r:cJ)(l:List Nat):Option cJ:=
 fP (motive:=fun _=>Option cJ) (some []) (fun t _ a=>match kV r t,a with
  |some v,some l=>some ((t,v)::l)
  |_,_=>none) l
noncomputable def mw(t:Nat)(l:List Oper):Bool:=
 fP (motive:=fun _=>Bool) false (fun o _ a=>match o.dst with|some d=>bif az d t then true else a|none=>a) l
noncomputable def gL(t:Nat)(c:Code):Bool:=
 Code.rec (motive:=fun _=>Bool) false (fun _ ops _=>mw t ops.toList) (fun _ _ a b=>bif a then true else b) (fun _ _ _ a b=>bif a then true else b)
  (fun _ _ b=>b) (fun _ b=>b) (fun _ _ _ _ _ _=>true) (fun _=>false) (fun _ b=>b) (fun _=>false) (fun _=>false) false (fun _=>false) c
inductive Ann where
 |nil
 |node (a b:Ann)
 |join (st:St) (a b:Ann)
 |loop (st:St) (b:Ann)
 |draw (d:DA)
 |kinds (k v:Kind)
 |reg (keep:List Nat) (inner:Ann)
 |rf (ks:List Kind) (a b:Ann)
def Ann.l:Ann→Ann
 | .node a _=>a
 | .rf _ a _=>a
 |_=>.nil
def Ann.r:Ann→Ann
 | .node _ b=>b
 | .rf _ _ b=>b
 |_=>.nil
noncomputable def Uy(l:List Oper):Nat:=fP (motive:=fun _=>Nat) 0 (fun o _ a=>cY (oI o) a) l
def ZU:Option Nat→Option Nat→Option Nat
 |some a,some b=>some (cY a b)
 |_,_=>none
noncomputable def AW(c:Code):Option Nat:=
 Code.rec (motive:=fun _=>Option Nat) (some 0) (fun _ ops _=>some (Uy ops.toList)) (fun _ _ a b=>ZU a b) (fun _ _ _ a b=>ZU a b)
  (fun _ _ b=>b) (fun _ b=>b) (fun _ _ _ _ _ _=>none) (fun _=>some 0) (fun _ b=>b) (fun _=>some 0) (fun _=>some 0) (some 0) (fun _=>some 0) c
noncomputable def za(m:Nat)(r:cJ):cJ:=fP (motive:=fun _=>cJ) [] (fun a _ b=>bif tb m a.1 then b else a::b) r
noncomputable def Ed(P:Program)(N:Nat)(ops:List Oper)(b:Bool)(a:Ann)(Kn:cJ→ad→Prop)(r:cJ)(h:ad):Prop:=
 match b with
 |false=>(match a with
  | .kinds kk vk=>G2 P N (some (kk,vk)) ops ops [] Kn r h
  |_=>G2 P N none ops ops [] Kn r h)
 |true=>bif Gv ops (RZ ops)then od P N ops (RZ ops) (match a with| .draw da=>da|_=>Zk P ops (RZ ops) (Nat.add (Nat.add ops.length ops.length) 2) 0 []) false 0 [] [] Kn r h else False
noncomputable def lC(P:Program)(N:Nat)(c:Code):Ann→(cJ→ad→Prop)→(Ex→cJ→ad→Prop)→cJ→ad→Prop:=
 Code.rec (motive:=fun _=>Ann→(cJ→ad→Prop)→(Ex→cJ→ad→Prop)→cJ→ad→Prop)
  (fun _ Kn _ r h=>Kn r h)
  (fun _ ops p d Kn _ r h=>match d with
   | .reg keep d=>Ed P N ops.toList p d (fun f h'=>match Sb f keep with|some r0=>Kn r0 h'|none=>False) r h
   |d=>Ed P N ops.toList p d Kn r h)
  (fun a _ j g d Kn Kx r h=>match d with
   | .join st aa ab=>(match AW a with
     |none=>False
     |some m=>Join (T:=uS (Bx st)) (fun t h'=>g ab Kn Kx (oD st (mN (Bx st) t) (za m r)) h')
      fun J=>j aa (fun f h'=>E2 st f fun t=>J t h') Kx r h)
   |d=>j d.l (fun f h'=>g d.r Kn Kx f h') Kx r h)
  (fun c _ _ j g d Kn Kx r h=>match dq r c with
   |some (.bool t)=>CondP t (j d.l Kn Kx r h) (g d.r Kn Kx r h)
   |_=>False)
  (fun id _ o d Kn Kx r h=>o d Kn (fun e f h'=>match e with
    | .exit i=>bif az i id then Kn f h' else Kx (.exit i) f h'
    | .ret=>Kx .ret f h') r h)
  (fun b o d _ Kx r h=>match d with
   | .loop st ab=>(match AW b with
     |none=>False
     |some m=>E2 st r fun s=>LoopP (T:=uS (Bx st)) (fun k t h'=>o ab (fun f n=>E2 st f fun q=>k q n) Kx (oD st (mN (Bx st) t) (za m r)) h') s h)
   |_=>False)
  (fun _ _ _ _ _ _ _ _ _ _ _=>False)
  (fun id _ _ Kx r h=>Kx (.exit id) r h)
  (fun _ _ _ _ _ _ _=>False)
  (fun _ _ Kn _ r h=>Kn r h)
  (fun _ _ _ _ _ _=>False)
  (fun _ _ Kx r h=>Kx .ret r h)
  (fun _ _ _ _ _ _=>False)
  c
noncomputable def oG(P:Program)(r:cJ)(h:ad):List ResultVar→(List Value→Prop)→Prop
 | [],K=>K []
 | .tmp t::l,K=>(match kV r t with|some v=>oG P r h l fun vs=>K (v::vs)|none=>False)
 | .cell a t::l,K=>(match kV r a with
  |some v=>Nx P t v (fun x _=>oG P r h l fun vs=>K (x::vs)) h
  |none=>False)
def qU:Nat→List Value→cJ
 |_,[]=> []
 |i,v::vs=>(i,v)::qU (i+1) vs
noncomputable def JR(P:Program)(fn:Func)(c:Code)(a:Ann)(args:List Value)(ks:List Kind)(K:uS ks→ad→Prop)(h:ad):Prop:=
 lC P fn.ntmps c a
  (fun r h'=>oG P r h' fn.results.toList fun vs=>F5 ks vs fun t=>K t h')
  (fun e r h'=>match e with
   | .ret=>oG P r h' fn.results.toList fun vs=>F5 ks vs fun t=>K t h'
   | .exit _=>False)
  (qU 0 args) h
def H4:List Oper→Option (Oper×Oper×Operand×Nat×FuncId×List Operand)
 | [m,o]=>match m.op,m.guard,m.dst,o.op,o.dst,o.guard with
  | .move x,none,some d,.defer c,none,none=>(match c.callee with
   | .value (.func f)=>some (m,o,x,d,f,c.args.toList)
   |_=>none)
  |_,_,_,_,_,_=>none
 |_=>none
inductive Mk where
 |it (n:Nat)
 |call (f:FuncId) (vs:List Value)
def HD(P:Program)(f:FuncId)(args:List Value)(K:ad→Prop)(h:ad):Prop:=
 ∀w:World,w.heap=h→(∀(args:Array Value) (w:World),(callFunc f args).run P w=.ok (.enter f args) w)∧∀n:Nat,CallsDIn {fn:=fun _=>True,depth:=none,alive:=false,round:=none} n P f args.toArray .returning w fun e u w'=>u=.returning∧Tame w w'∧(∃v,e=.returned v)∧K w'.heap
noncomputable def tG(c:Code):Bool:=
 Code.rec (motive:=fun _=>Bool) false (fun _ ops _=>(H4 ops.toList).isSome) (fun _ _ a b=>bif a then true else b) (fun _ _ _ a b=>bif a then true else b)
  (fun _ _ b=>b) (fun _ b=>b) (fun _ _ _ _ _ _=>true) (fun _=>false) (fun _ b=>b) (fun _=>false) (fun _=>false) false (fun _=>false) c
def L3:Option Ex→Option Code
 |none=>none
 |some (.exit i)=>some (.exit i)
 |some .ret=>some .ret
def abA(N:ad→Prop)(X:Nat→ad→Prop)(R:ad→Prop):Option Ex→ad→Prop
 |none=>N
 |some (.exit i)=>X i
 |some .ret=>R
structure RangeP(P:Program)(fv:Value)(ks:List Kind)(h:ad)(RT:Obj→Obj→uS ks→(Option Ex→ad→Prop)→ad→Prop)(N:ad→Prop)(X:Nat→ad→Prop)(R:ad→Prop):Prop where
 run:∀lo:LoopState→Option Ex→Obj,(∀s j,∃r,lo s j=.loop r)→
  (∀x h' K,h'[h.size+1]? =some (lo .ready none)→
   RT (lo .ready none) (lo .busy none) x (fun j h2=>h2[h.size+1]? =some (lo .busy none)∧K j.isNone (h2.setIfInBounds (h.size+1) (lo (if j.isNone then .ready else .done) j))) h'→
   HV P (.func (.yield (h.size+1)) #[] #[]) (mN ks x) [.c .bool] K h')→
  ∃f first cap,fv=.func (.func f) first cap∧HE P f (first.toList++ [.func (.yield (h.size+1)) #[] #[]]++cap.toList) []
   (fun _ h2=>∃s j,s≠ .busy∧h2[h.size+1]? =some (lo s j)∧abA N X R j (h2.setIfInBounds (h.size+1) (lo .exhausted j))) ((h.push (.deferred (some []))).push (lo .ready none))
def W5:List Nat→List Value→cJ→cJ
 |i::l,v::vs,r=>W5 l vs ((i,v)::r)
 |_,_,r=>r
noncomputable def PR(P:Program)(N:Nat)(ps:List Nat)(ks:List Kind)(assign body:Code)(c:Ann)(r:cJ)(l:Nat)(JX d:Obj)(x:uS ks)(k:Option Ex→ad→Prop)(h:ad):Prop:=
 lC P N assign c.l (fun f b=>b[l]? =some JX∧lC P N body c.r (fun _ a=>k none a) (fun e _ a=>k (some e) a) f (b.setIfInBounds l d)) (fun _ _ _=>False) (W5 ps (mN ks x) r) h
def BJ(N:Nat):List Nat→Bool
 | []=>true
 |n::l=>AC n N&&BJ N l
noncomputable def BB(P:Program)(N:Nat)(c:Code):Ann→(List Mk→cJ→ad→Prop)→(Ex→List Mk→cJ→ad→Prop)→List Mk→cJ→ad→Prop:=
 Code.rec (motive:=fun _=>Ann→(List Mk→cJ→ad→Prop)→(Ex→List Mk→cJ→ad→Prop)→List Mk→cJ→ad→Prop)
  (fun j Kn Kx ms r h=>lC P N .skip j (Kn ms) (fun e=>Kx e ms) r h)
  (fun id ops p j Kn Kx ms r h=>match H4 ops.toList with
   |none=>lC P N (.region id ops p) j (Kn ms) (fun e=>Kx e ms) r h
   |some (_,_,x,d,f,as)=>bif p then False else match dq r x with
    |some v=>bif AC d N then(match oN ((d,v)::r) as with|some vs=>Kn (.call f vs::ms) ((d,v)::r) h|none=>False)else False
    |none=>False)
  (fun a b n m j Kn Kx ms r h=>bif (bif tG a then true else tG b)then n j.l (fun ms o h'=>m j.r Kn Kx ms o h') Kx ms r h
   else lC P N (.seq a b) j (Kn ms) (fun e=>Kx e ms) r h)
  (fun c a b n m j Kn Kx ms r h=>bif (bif tG a then true else tG b)then
    (match dq r c with
     |some (.bool t)=>CondP t (n j.l Kn Kx ms r h) (m j.r Kn Kx ms r h)
     |_=>False)
   else lC P N (.cond c a b) j (Kn ms) (fun e=>Kx e ms) r h)
  (fun id b q j Kn Kx ms r h=>bif tG b then q j Kn (fun e ms o h'=>match e with
    | .exit i=>bif az i id then Kn ms o h' else Kx (.exit i) ms o h'
    | .ret=>Kx .ret ms o h') ms r h
   else lC P N (.block id b) j (Kn ms) (fun e=>Kx e ms) r h)
  (fun b _ j Kn Kx ms r h=>lC P N (.loop b) j (Kn ms) (fun e=>Kx e ms) r h)
  (fun g ps assign body _ _ j Kn Kx ms r h=>match j with
   | .rf ks aa ab=>bif BJ N ps.toList&&az ps.toList.length ks.length then
    (match dq r g with
     |some fv=>RangeP P fv ks h (fun JX s x k h'=>PR P N ps.toList ks assign body (.node aa ab) r (h.size+1) JX s x k h')
      (fun h'=>Kn (.it h.size::ms) r h') (fun i h'=>Kx (.exit i) (.it h.size::ms) r h') (fun h'=>Kx .ret (.it h.size::ms) r h')
     |none=>False)else False
   |_=>False)
  (fun id j Kn Kx ms r h=>lC P N (.exit id) j (Kn ms) (fun e=>Kx e ms) r h)
  (fun _ _ _ _ _ _ _ _=>False)
  (fun l j Kn Kx ms r h=>lC P N (.label l) j (Kn ms) (fun e=>Kx e ms) r h)
  (fun _ _ _ _ _ _ _=>False)
  (fun j Kn Kx ms r h=>lC P N .ret j (Kn ms) (fun e=>Kx e ms) r h)
  (fun _ _ _ _ _ _ _=>False)
  c
def Nj(P:Program):List Mk→(ad→Prop)→ad→Prop
 | [],K,h=>K h
 | .it D::ms,K,h=>h[D]? =some (.deferred (some []))∧Nj P ms K (h.setIfInBounds D (.deferred none))
 | .call f vs::ms,K,h=>HD P f vs (fun h'=>Nj P ms K h') h
noncomputable def PS(P:Program)(fn:Func)(c:Code)(a:Ann)(args:List Value)(ks:List Kind)(K:uS ks→ad→Prop)(h:ad):Prop:=
 BB P fn.ntmps c a
  (fun ms r h'=>Nj P ms (fun h'=>oG P r h' fn.results.toList fun vs=>F5 ks vs fun t=>K t h') h')
  (fun e ms r h'=>match e with
   | .ret=>Nj P ms (fun h'=>oG P r h' fn.results.toList fun vs=>F5 ks vs fun t=>K t h') h'
   | .exit _=>False)
  [] (qU 0 args) h
end Go.Lift
namespace Go.Lift
open Go
theorem Ik(a:Addr):adr a 0=a:=rfl
theorem De(a:Addr)(n:Nat):adr a (n+1)=⟨a.block,a.off+(n+1),none⟩:=rfl
theorem vT(a:Addr)(n:Nat):adr a n=a.add n:=by
 cases n with
 |zero=>simp[Ik,Addr.add]
 |succ n=>simp[De,Addr.add]
theorem Df(a:Addr)(m n:Nat):adr (adr a m) n=adr a (m+n):=by
 cases n with
 |zero=>rfl
 |succ n=>cases m with
  |zero=>simp[Ik]
  |succ m=>rw[De,De,show m+1+(n+1)=(m+1+n)+1 from rfl,De];simp;omega
theorem Tame.refl(w:World):Tame w w:=⟨rfl,rfl,rfl⟩
theorem Tame.trans{a b c:World}(h:Tame a b)(k:Tame b c):Tame a c:=⟨k.os.trans h.os,k.tape.trans h.tape,k.output.trans h.output⟩
theorem CT{a b:IntKind}(h:LS a b=true):a=b:=by cases a<;>cases b<;>first|rfl|cases h
theorem CK.dec_sound{c:CK}{v:Value}{f:c.den→Prop}(h:c.dec v f):∃x,v=c.enc x∧f x:=by
 cases c<;>cases v<;>try simp only[CK.dec]at h
 case int.int k k' n=>
  cases hk:LS k' k with
  |false=>rw[hk]at h;exact h.elim
  |true=>rw[hk]at h;have:=CT hk;subst this;exact⟨n,rfl,h⟩
 case adr.pointer p=>cases p with
  |none=>exact h.elim
  |some a=>exact⟨a,rfl,h⟩
 all_goals first|exact h.elim|exact⟨_,rfl,h⟩
theorem Fq:∀{cs:List CK} {vs:List Value} {f:WM cs→Prop},Sv cs vs f→∃t,vs=Wp cs t∧f t
 | [],[],f,h=>⟨(),rfl,h⟩
 | [],_::_,f,h=>h.elim
 | [c],[v],f,h=>by obtain⟨x,rfl,i⟩:=CK.dec_sound h;exact⟨x,rfl,i⟩
 | [c],[],f,h=>h.elim
 | [c],_::_::_,f,h=>h.elim
 |c::d::cs,[],f,h=>h.elim
 |c::d::cs,[_],f,h=>h.elim
 |c::d::cs,v::u::vs,f,h=>by
  have e:c.dec v fun x=>Sv (d::cs) (u::vs) fun t=>f (x,t):=h
  obtain⟨x,hx,b⟩:=CK.dec_sound e;obtain⟨t,g,a⟩:=Fq (cs:=d::cs) (vs:=u::vs) b;exact⟨(x,t),by rw[g,hx];rfl,a⟩
theorem Kind.dec_sound{k:Kind}{v:Value}{f:k.den→Prop}(h:k.dec v f):∃x,v=k.enc x∧f x:=by
 cases k with
 |c k=>exact CK.dec_sound h
 |agg cs=>
  cases v<;>simp only[Kind.dec]at h
  case agg vs=>
   obtain⟨t,b,a⟩:=Fq h;exact⟨t,by simp only[Kind.enc,←b],a⟩
theorem tV:∀{ks:List Kind} {vs:List Value} {f:uS ks→Prop},F5 ks vs f→∃t,vs=mN ks t∧f t
 | [],[],f,h=>⟨(),rfl,h⟩
 | [],_::_,f,h=>h.elim
 | [c],[v],f,h=>by obtain⟨x,rfl,i⟩:=Kind.dec_sound h;exact⟨x,rfl,i⟩
 | [c],[],f,h=>h.elim
 | [c],_::_::_,f,h=>h.elim
 |c::d::cs,[],f,h=>h.elim
 |c::d::cs,[_],f,h=>h.elim
 |c::d::cs,v::u::vs,f,h=>by
  have e:c.dec v fun x=>F5 (d::cs) (u::vs) fun t=>f (x,t):=h
  obtain⟨x,hx,b⟩:=Kind.dec_sound e;obtain⟨t,g,a⟩:=tV (ks:=d::cs) (vs:=u::vs) b;exact⟨(x,t),by rw[g,hx];rfl,a⟩
theorem uP:∀(ks:List Kind) (t:uS ks),(mN ks t).length=ks.length
 | [],_=>rfl
 | [_],_=>rfl
 |_::l::ks,(_,t)=>by simp only[mN,ay,uP (l::ks) t]
structure Agree(N:Nat)(r:cJ)(a:Act):Prop where
 size:a.tmps.size=N
 look:∀t v,kV r t=some v→a.tmps.getD t undef=v
theorem jc(k:Nat)(v:Value)(r:cJ):kV ((k,v)::r) k=some v:=by rw[G5,show az k k=true from Nat.beq_refl k];rfl
theorem ig{k t:Nat}(v:Value)(r:cJ)(h:k≠t):kV ((k,v)::r) t=kV r t:=by
 rw[G5];have:az k t=false:=Bool.eq_false_iff.2 fun e=>h (bd e)
 rw[this];rfl
theorem Agree.put{N:Nat}{r:cJ}{a:Act}(h:Agree N r a)(d:Nat)(v:Value)(hd:d<N):Agree N ((d,v)::r) (a.put (some d) v):=by
 refine⟨by simp[Act.put,h.size],fun t u b=>?_⟩
 by_cases e:d=t
 ·subst e
  rw[jc]at b;cases b;simp[Act.put,h.size,hd]
 ·rw[ig v r e]at b
  have:=h.look t u b;simpa[Act.put,Array.getElem?_setIfInBounds_ne e]using this
theorem Agree.known{N:Nat}{r:cJ}{a:Act}(h:Agree N r a){t:Nat}{v:Value}(c:kV r t=some v):Agree N ((t,v)::r) a:=by
 refine⟨h.size,fun s u b=>?_⟩
 by_cases e:t=s
 ·subst e;rw[jc]at b;cases b;exact h.look t v c
 ·rw[ig v r e]at b;exact h.look s u b
theorem kW{N:Nat}{r:cJ}{a:Act}(h:Agree N r a){o:Operand}{v:Value}(b:dq r o=some v):a.eval o=v:=by
 cases o with
 |tmp t=>exact h.look t v b
 |const c=>simp[dq]at b;subst b;rfl
 |global g=>simp[dq]at b;subst b;rfl
 |func f=>simp[dq]at b;subst b;rfl
theorem mZ{N:Nat}{r:cJ}{a:Act}(h:Agree N r a):∀{os:List Operand} {vs:List Value},oN r os=some vs→os.map a.eval=vs
 | [],vs,hv=>by simp[oN]at hv;subst hv;rfl
 |o::os,vs,hv=>by
  simp only[oN]at hv;cases ho:dq r o with
  |none=>simp[ho]at hv
  |some v=>cases hos:oN r os with
   |none=>simp[ho,hos]at hv
   |some us=>simp[ho,hos]at hv;subst hv;simp[kW h ho,mZ h hos]
theorem aB{P:Program}{t:TypeId}{d:TypeDesc}(h:P.underlying t=some d)(w:World):(underlying t).run P w=.ok d w:=by
 simp only[underlying,program,bind,Sem.bind,oK,h,pure]
theorem cV{P:Program}{t:TypeId}{i:TypeInfo}(h:P.info? t=some i)(w:World):(typeInfo t).run P w=.ok i w:=by
 simp only[typeInfo,program,bind,Sem.bind,oK,h,pure]
theorem jg{P:Program}{s:Sem Value}{v:Value}{w w':World}(h:s.run P w=.ok v w'):(do pure (Next.value (←s)):Sem Next).run P w=.ok (.value v) w':=by
 simp[h]
theorem Va{P:Program}{s:Sem Unit}{w w':World}(h:s.run P w=.ok () w'):(do s;pure Next.skip:Sem Next).run P w=.ok .skip w':=by
 simp[h]
theorem CA{P:Program}{w:World}{a:Addr}{v:Value}(h:aD w.heap a=some v):(load a).run P w=.ok v w:=by
 have h':w.cell? a=some v:=h;simp[h']
theorem Da{v:Value}{vs:List Value}{i:Nat}{a:Addr}{h:ad}:uR (v::vs) i a h↔aD h (adr a i)=some v∧uR vs (i+1) a h:=by
 cases vs with
 |nil=>simp[uR]
 |cons u us=>rfl
theorem uz{P:Program}{w:World}{a:Addr}:∀(vs:List Value) (i:Nat) (acc:Array Value),uR vs i a w.heap→
  (loadCellsFrom a i vs.length acc).run P w=.ok (acc++vs.toArray) w
 | [],i,acc,_=>by simp[loadCellsFrom]
 |v::vs,i,acc,h=>by
  obtain⟨b,c⟩:=Da.1 h;rw[vT]at b;have:=uz (P:=P) (w:=w) (a:=a) vs (i+1) (acc.push v) c;simp only[ay,loadCellsFrom,aW,CA b,aC,this];simp
theorem IT{P:Program}{w:World}{a:Addr}{vs:List Value}(h:uR vs 0 a w.heap):(loadCells a vs.length).run P w=.ok vs.toArray w:=by
 have:=uz (P:=P) (w:=w) (a:=a) vs 0 #[] h;simpa[loadCells]using this
theorem A6:∀(cs:List CK) (i:Nat) (a:Addr) (h:ad) (k:List Value→Prop),L4 cs i a h k→∃vs,vs.length=cs.length∧uR vs i a h∧k vs
 | [],i,a,h,k,b=>⟨[],rfl,trivial,b⟩
 |c::cs,i,a,h,k,b=>by
  obtain⟨x,hx,b⟩:=b;obtain⟨vs,d,hc,b⟩:=A6 cs (i+1) a h _ b;exact⟨c.enc x::vs,by simp[d],Da.2 ⟨hx,hc⟩,b⟩
theorem C9:∀{vs:List Value} {cs:List CK},H6 vs=some cs→cs.length=vs.length
 | [],cs,h=>by simp[H6]at h;subst h;rfl
 |v::vs,cs,h=>by
  simp only[H6]at h;cases h1:Zh v with
  |none=>simp[h1]at h
  |some c=>cases h2:H6 vs with
   |none=>simp[h1,h2]at h
   |some ds=>simp[h1,h2]at h;subst h;simp[C9 h2]
def WJ(P:Program)(t:TypeId)(i:TypeInfo):Kind→Prop
 | .c _=>xS P t=false
 | .agg cs=>xS P t=true∧i.size=cs.length
theorem Qs{P:Program}{t:TypeId}{k:Kind}(h:Sa P t=some k):∃i,P.info? t=some i∧WJ P t i k:=by
 unfold Sa AV at h;cases hi:P.info? t with
 |none=>simp[hi]at h
 |some i=>
  refine⟨i,rfl,?_⟩;cases hz:i.zero with
  |none=>simp[hi,hz]at h
  |some z=>
   rw[hi]at h;simp only[hz]at h;cases z;case agg vs=>
    simp only at h;cases hb:(xS P t&&az vs.toList.length (cg P t))with
    |false=>rw[hb]at h;simp at h
    |true=>
     rw[hb]at h;simp only[cond_true]at h;simp only[Bool.and_eq_true]at hb;have a:=bd hb.2;cases hd:H6 vs.toList with
     |none=>rw[hd]at h;simp at h
     |some ds=>
      rw[hd]at h;simp only[bq.injEq]at h;subst h;exact⟨hb.1,by rw[C9 hd,a];simp[cg,hi]⟩
   all_goals
    simp only at h;cases ha:xS P t
    ·rw[ha]at h
     simp only[cond_false]at h;split at h
     ·simp only[bq.injEq]at h;subst h;exact ha
     ·simp at h
    ·rw[ha]at h;simp at h
theorem Qt{P:Program}{t:TypeId}{k:Kind}(h:Hw P t=some k):(∀w,(isAgg t).run P w=.ok (xS P t) w)∧Sa P t=some k:=by
 unfold Hw at h;cases hu:P.underlying t with
 |none=>simp[hu]at h
 |some d=>
  simp only[hu]at h;refine⟨fun w=>?_,h⟩
  simp only[isAgg,aW,aB hu,aC];unfold xS;rw[hu];cases d<;>rfl
theorem E8{P:Program}{t:TypeId}{v:Value}{K:RK}{h:ad}(d:Nx P t v K h):
  ∃u S,K u (some S)∧S h∧∀w:World,S w.heap→(Instr.loadAt t v).run P w=.ok u w:=by
 unfold Nx at d;cases v with
 |pointer p=>
  cases p with
  |none=>exact d.elim
  |some a=>
   simp only at d;cases hk:Hw P t with
   |none=>simp[hk]at d
   |some k=>
    obtain⟨b,f⟩:=Qt hk;obtain⟨i,hi,hc⟩:=Qs f;rw[hk]at d;cases k with
    |c c=>
     obtain⟨x,hx,j⟩:=d;refine⟨_,_,j,hx,fun w g=>?_⟩
     have hc:xS P t=false:=hc;simp only[Instr.loadAt,mR,loadVar,aW,bQ,aC,b,hc];simp[CA g]
    |agg cs=>
     obtain⟨vs,e,m,j⟩:=A6 cs 0 a h _ d;obtain⟨o,n⟩:xS P t=true∧i.size=cs.length:=hc;refine⟨_,_,j,m,fun w g=>?_⟩
     have f:(sizeOf t).run P w=.ok vs.length w:=by simp[sizeOf,cV hi,n,e]
     simp only[Instr.loadAt,mR,loadVar,aW,bQ,aC,b,o];simp[f,IT g]
 |_=>exact d.elim
end Go.Lift
