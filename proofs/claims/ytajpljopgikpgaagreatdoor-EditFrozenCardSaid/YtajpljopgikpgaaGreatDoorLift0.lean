/- A part of the proof that the named laws of this program answer true, whatever the input. -/
import Derived.OrdersIn
import Derived.Below
import Derived.WalkKit
import Derived.RangeFuncRecord
import Derived.DefersIn
open BitVec renaming ofInt→aq
open Iff renaming rfl→vF
open List renaming rec→fF,replicate→dQ,length_cons→aV
open Nat renaming succ→fX,beq→bL,ble→xN,min→dV,blt→xM,land→jC,lor→cW,pred→xm,eq_of_beq_eq_true→bm
open Option renaming some→bF
namespace Go.Lift
abbrev ad:=Array Obj
def aR(h:ad)(a:Addr):Option Value:=
 match h[a.block]? with
 |some (.cells c _ _)=>if a.spot.isSome then none else c[a.off]?
 |_=>none
def DD(h:ad)(a:Addr):Bool:=
 match h[a.block]? with
 |some (.cells _ _ (lo,hi))=>lo≤a.off&&a.off<hi
 |_=>false
def hset(h:ad)(a:Addr)(v:Value):ad:=
 h.modify a.block fun
  | .cells c elem frozen=>.cells (if a.spot.isSome then c else c.setIfInBounds a.off v) elem frozen
  |o=>o
noncomputable def adr(a:Addr)(n:Nat):Addr:=Nat.rec (motive:=fun _=>Addr) a (fun n _=>⟨a.block,a.off+fX n,none⟩) n
def Wr(h:ad)(a:Addr):Prop:=(∃v,aR h a=some v)∧DD h a=false
structure Tame(w w':World):Prop where
 os:w'.os=w.os
 tape:w'.tape=w.tape
 output:w'.output=w.output
structure SliceV where
 a:Option Addr
 len:Nat
 cap:Nat
def Iu:IntKind→IntKind→Bool
 | .i8,.i8=>true| .i16,.i16=>true| .i32,.i32=>true| .i64,.i64=>true
 | .u8,.u8=>true| .u16,.u16=>true| .u32,.u32=>true| .u64,.u64=>true
 |_,_=>false
inductive CK where
 |int (k:IntKind)|bool|str|ptr|slice|map|chan|raw|adr
def CK.den:CK→Type
 | .int _=>Int| .bool=>Bool| .str=>ByteArray| .ptr=>Option Addr| .slice=>SliceV| .map=>Option Nat| .chan=>Option Nat| .raw=>Value| .adr=>Addr
def CK.enc:(c:CK)→c.den→Value
 | .int k,n=>.int k n
 | .bool,b=>.bool b
 | .str,s=>.string s
 | .ptr,p=>.pointer p
 | .slice,s=>.slice s.a s.len s.cap
 | .map,r=>.map r
 | .chan,r=>.chan r
 | .raw,v=>v
 | .adr,a=>.pointer (some a)
def CK.dec:(c:CK)→Value→(c.den→Prop)→Prop
 | .int k,.int k' n,f=>bif Iu k' k then f n else False
 | .bool,.bool b,f=>f b
 | .str,.string s,f=>f s
 | .ptr,.pointer p,f=>f p
 | .slice,.slice a l c,f=>f ⟨a,l,c⟩
 | .map,.map r,f=>f r
 | .chan,.chan r,f=>f r
 | .raw,v,f=>f v
 | .adr,.pointer (some a),f=>f a
 |_,_,_=>False
def Sg:List CK→Type
 | []=>Unit
 | [c]=>c.den
 |c::d::cs=>c.den×Sg (d::cs)
def RM:(cs:List CK)→Sg cs→List Value
 | [],_=> []
 | [c],x=> [c.enc x]
 |c::d::cs,(x,t)=>c.enc x::RM (d::cs) t
def Om:(cs:List CK)→List Value→(Sg cs→Prop)→Prop
 | [],[],f=>f ()
 | [c],[v],f=>c.dec v f
 |c::d::cs,v::u::vs,f=>c.dec v fun x=>Om (d::cs) (u::vs) fun t=>f (x,t)
 |_,_,_=>False
inductive Kind where
 |c (k:CK)
 |agg (cs:List CK)
def Kind.den:Kind→Type
 | .c k=>k.den
 | .agg cs=>Sg cs
def Kind.enc:(k:Kind)→k.den→Value
 | .c k,x=>k.enc x
 | .agg cs,t=>.agg (RM cs t).toArray
def Kind.dec:(k:Kind)→Value→(k.den→Prop)→Prop
 | .c k,v,f=>k.dec v f
 | .agg cs,.agg vs,f=>Om cs vs.toList f
 |_,_,_=>False
def um:List Kind→Type
 | []=>Unit
 | [k]=>k.den
 |k::l::ks=>k.den×um (l::ks)
def m9:(ks:List Kind)→um ks→List Value
 | [],_=> []
 | [k],x=> [k.enc x]
 |k::l::ks,(x,t)=>k.enc x::m9 (l::ks) t
def Dd:(ks:List Kind)→List Value→(um ks→Prop)→Prop
 | [],[],f=>f ()
 | [k],[v],f=>k.dec v f
 |k::l::ks,v::u::vs,f=>k.dec v fun x=>Dd (l::ks) (u::vs) fun t=>f (x,t)
 |_,_,_=>False
def C7(ks:List Kind)(vs:List Value):Value:=
 match ks,vs with
 | [_],[v]=>v
 |_,vs=>.tuple vs.toArray
def Ve:Value→Option CK
 | .int k _=>some (.int k)
 | .bool _=>some .bool
 | .string _=>some .str
 | .pointer _=>some .ptr
 | .slice .. =>some .slice
 | .map _=>some .map
 | .chan _=>some .chan
 | .nilFunc=>some .raw
 | .nilIface=>some .raw
 |_=>none
def EZ:List Value→Option (List CK)
 | []=>some []
 |v::vs=>match Ve v,EZ vs with
  |some c,some cs=>some (c::cs)
  |_,_=>none
def vu(P:Program)(t:TypeId):Bool:=
 match P.underlying t with
 |some (.struct _)|some (.array _ _)=>true
 |_=>false
def bZ(P:Program)(t:TypeId):Nat:=match P.info? t with|some i=>i.size|none=>0
def qA(P:Program)(t:TypeId):Nat:=match P.info? t with|some i=>i.bytes|none=>0
def xY(P:Program)(t:TypeId):Option Value:=match P.info? t with|some i=>i.zero|none=>none
def N3(P:Program)(t:TypeId):Option Kind:=
 match xY P t with
 |some (.agg vs)=>bif vu P t&&bL vs.toList.length (bZ P t)then(match EZ vs.toList with|some cs=>some (.agg cs)|none=>none)else none
 |some v=>bif vu P t then none else(match Ve v with|some c=>some (.c c)|none=>none)
 |none=>none
def EC(P:Program)(t:TypeId):Option Kind:=
 match P.underlying t with
 |none=>none
 |some _=>N3 P t
structure HC(P:Program)(f:FuncId)(args:List Value)(ks:List Kind)(K:um ks→ad→Prop)(h:ad):Prop where
 run:∀w:World,w.heap=h→
  ((callFunc f args.toArray).run P w=.ok (.enter f args.toArray) w∧
   Calls P f args.toArray w fun e w'=>Tame w w'∧∃t:um ks,e=.returned (C7 ks (m9 ks t))∧K t w'.heap)∨
  (∃v w',(callFunc f args.toArray).run P w=.ok (.value v) w'∧Tame w w'∧∃t:um ks,v=C7 ks (m9 ks t)∧K t w'.heap)
structure HE(P:Program)(f:FuncId)(args:List Value)(ks:List Kind)(K:um ks→ad→Prop)(h:ad):Prop where
 run:∀w:World,w.heap=h→(∀(args:Array Value) (w:World),(callFunc f args).run P w=.ok (.enter f args) w)∧
  Calls P f args.toArray w fun e w'=>Tame w w'∧∃t:um ks,e=.returned (C7 ks (m9 ks t))∧K t w'.heap
theorem HE.hc{P:Program}{f:FuncId}{args:List Value}{ks:List Kind}{K:um ks→ad→Prop}{h:ad}(e:HE P f args ks K h):HC P f args ks K h:=
 ⟨fun w a=>.inl ⟨(e.run w a).1 _ w,(e.run w a).2⟩⟩
structure HY(P:Program)(l:Nat)(args:List Value)(K:Bool→ad→Prop)(h:ad):Prop where
 run:∀w:World,w.heap=h→∃fn tmps assign body,(Instr.yield l args.toArray).run P w=.ok (.round l fn tmps assign body) w∧
  ∀(c:Frame) (cs:List Frame),∃b w',Tame w w'∧K b w'.heap∧Steps P (lone (Frame.round l fn tmps assign body .normal) (c::cs) w) (lone (c.finish (.bool b)) cs w')
structure HV(P:Program)(fv:Value)(args:List Value)(ks:List Kind)(K:um ks→ad→Prop)(h:ad):Prop where
 run:(∃f first cap,fv=.func (.func f) first cap∧HC P f (first.toList++args++cap.toList) ks K h)∨
  (∃l,fv=.func (.yield l) #[] #[]∧HY P l args (fun b h'=>Dd ks [.bool b] fun t=>K t h') h)
noncomputable def CondP(b:Bool)(t e:Prop):Prop:=Bool.rec (motive:=fun _=>Prop) e t b
theorem CondP.yes{b:Bool}{t e:Prop}(h:CondP b t e)(a:b=true):t:=by subst a;exact h
theorem CondP.no{b:Bool}{t e:Prop}(h:CondP b t e)(a:b=false):e:=by subst a;exact h
theorem CondP.intro{b:Bool}{t e:Prop}(a:b=true→t)(c:b=false→e):CondP b t e:=by cases b;exact c rfl;exact a rfl
theorem ay{t e:Prop}:CondP true t e↔t:=vF
theorem aj{t e:Prop}:CondP false t e↔e:=vF
attribute [irreducible] CondP
def At(h:ad)(k:ad→Prop):Prop:=k h
def Bd{T:Type}(x:T)(k:T→Prop):Prop:=k x
structure Join{T:Type}(rest:T→ad→Prop)(k:(T→ad→Prop)→Prop):Prop where
 run:k rest
structure LoopP{T:Type}(F:(T→ad→Prop)→T→ad→Prop)(t:T)(h:ad):Prop where
 run:∀I:T→ad→Prop,(∀t h,F I t h→I t h)→I t h
abbrev cJ:=List (Nat×Value)
noncomputable def kq(r:cJ)(t:Nat):Option Value:=
 fF (motive:=fun _=>Option Value) none (fun a _ b=>bif bL a.1 t then some a.2 else b) r
theorem Ei(k:Nat)(v:Value)(r:cJ)(t:Nat):kq ((k,v)::r) t=bif bL k t then some v else kq r t:=rfl
noncomputable def dA(r:cJ):Operand→Option Value
 | .tmp t=>kq r t
 | .const v=>some v
 | .global g=>some (.pointer (some ⟨g,0,none⟩))
 | .func f=>some (.func (.func f) #[] #[])
noncomputable def nR(r:cJ):List Operand→Option (List Value)
 | []=>some []
 |o::os=>match dA r o,nR r os with
  |some v,some vs=>some (v::vs)
  |_,_=>none
noncomputable def IA:List CK→Nat→Addr→ad→(List Value→Prop)→Prop
 | [],_,_,_,k=>k []
 |c::cs,i,a,h,k=>∃x:c.den,aR h (adr a i)=some (c.enc x)∧IA cs (i+1) a h fun vs=>k (c.enc x::vs)
noncomputable def sM:List Value→Nat→Addr→ad→Prop
 | [],_,_,_=>True
 | [v],i,a,h=>aR h (adr a i)=some v
 |v::u::vs,i,a,h=>aR h (adr a i)=some v∧sM (u::vs) (i+1) a h
abbrev RK:=Value→Option (ad→Prop)→Prop
noncomputable def JN(P:Program)(t:TypeId)(v:Value)(K:RK)(h:ad):Prop:=
 match v with
 | .pointer (some a)=>
  match EC P t with
  |some (.c c)=>∃x:c.den,aR h a=some (c.enc x)∧K (c.enc x) (some fun b=>aR b a=some (c.enc x))
  |some (.agg cs)=>IA cs 0 a h fun vs=>K (.agg vs.toArray) (some fun b=>sM vs 0 a b)
  |none=>False
 |_=>False
def wO(P:Program)(t:TypeId)(f:Nat):Option (TypeId×Nat):=
 match P.underlying t with
 |some (.struct fs)=>match fs.toList[f]? with
  |some g=>some (g.type,g.offset)
  |none=>none
 |_=>none
def vL(P:Program)(t:TypeId):Option TypeId:=
 match P.underlying t with
 |some (.slice e)=>some e
 |_=>none
def LA(c:BinOp)(k:IntKind)(a b:Int)(K:RK):Prop:=
 match c with
 | .shl=>0≤b∧K (.int k (k.wrap (a*2^(min b.toNat k.bits)))) none
 | .shr=>0≤b∧K (.int k (a.fdiv (2^(min b.toNat k.bits)))) none
 |_=>False
def UV(c:BinOp)(k:IntKind)(a b:Int)(K:RK):Prop:=
 match c with
 | .add=>K (.int k (k.wrap (a+b))) none
 | .sub=>K (.int k (k.wrap (a-b))) none
 | .mul=>K (.int k (k.wrap (a*b))) none
 | .quo=>b≠0∧K (.int k (k.wrap (a.tdiv b))) none
 | .rem=>b≠0∧K (.int k (a.tmod b)) none
 | .and=>K (.int k (k.wrap (aq k.bits a&&&aq k.bits b).toNat)) none
 | .or=>K (.int k (k.wrap (aq k.bits a|||aq k.bits b).toNat)) none
 | .xor=>K (.int k (k.wrap (aq k.bits a^^^aq k.bits b).toNat)) none
 | .andNot=>K (.int k (k.wrap (aq k.bits a&&& ~~~aq k.bits b).toNat)) none
 | .eql=>K (.bool (a==b)) none
 | .neq=>K (.bool (a !=b)) none
 | .lss=>K (.bool (decide (a<b))) none
 | .leq=>K (.bool (decide (a≤b))) none
 | .gtr=>K (.bool (decide (a>b))) none
 | .geq=>K (.bool (decide (a≥b))) none
 |_=>False
def UC(c:BinOp)(a b:ByteArray)(K:RK):Prop:=
 match c with
 | .add=>((a.size+b.size:Nat):Int)≤9223372036854775807∧K (.string (a++b)) none
 | .eql=>K (.bool (a.toList==b.toList)) none
 | .neq=>K (.bool (!(a.toList==b.toList))) none
 | .lss=>K (.bool (Op.bytesLess a.toList b.toList)) none
 | .leq=>K (.bool (Op.bytesLess a.toList b.toList||a.toList==b.toList)) none
 | .gtr=>K (.bool (!(Op.bytesLess a.toList b.toList||a.toList==b.toList))) none
 | .geq=>K (.bool (!(Op.bytesLess a.toList b.toList))) none
 |_=>False
def eL(h:ad)(a:Addr):Prop:=(∃c e,h[a.block]? =some (.cells c e (0,0))∧0<c.size)
def Tp(P:Program)(t:TypeId)(neg:Bool)(x y:Value)(K:RK):Prop:=
 match P.underlying t,x,y with
 |some (.pointer _),.pointer a,.pointer none=>K (.bool (bif neg then !a.isNone else a.isNone)) none
 |some (.map _ _),.map a,.map none=>K (.bool (bif neg then !a.isNone else a.isNone)) none
 |some (.slice _),.slice a _ _,.slice none _ _=>K (.bool (bif neg then !a.isNone else a.isNone)) none
 |_,_,_=>False
def UU:Operand→Bool
 | .const (.pointer none)=>true
 | .const (.map none)=>true
 | .const (.slice none 0 0)=>true
 |_=>false
def T9(P:Program)(t:TypeId)(neg:Bool)(x y:Value)(K:RK)(h:ad):Prop:=
 match P.underlying t,x,y with
 |some .bool,.bool a,.bool b=>K (.bool (bif neg then !(a==b)else a==b)) none
 |some (.pointer e),.pointer a,.pointer b=>
  (bif bL (bZ P e) 0 then False else True)∧
  (∀x y,a=some x→b=some y→eL h x∧eL h y)∧
  K (.bool (bif neg then !(a==b)else a==b)) (some fun c=>∀x y,a=some x→b=some y→eL c x∧eL c y)
 |_,_,_=>False
def UK(P:Program)(c:BinOp)(t:TypeId)(x y:Value)(K:RK)(h:ad):Prop:=
 match x,y with
 | .int k a,.int k' b=>
  match c with
  | .shl=>LA .shl k a b K
  | .shr=>LA .shr k a b K
  |c=>bif Iu k' k then UV c k a b K else False
 | .string a,.string b=>UC c a b K
 |x,y=>match c with
  | .eql=>T9 P t false x y K h
  | .neq=>T9 P t true x y K h
  |_=>False
def qx(h:ad):List (Option Addr×Option Addr)→Prop
 | []=>True
 |(a,b)::l=>(∀x y,a=some x→b=some y→eL h x∧eL h y)∧qx h l
def Re(P:Program)(t:TypeId)(x y:Value):Option (Bool×List (Option Addr×Option Addr)):=
 match P.underlying t,x,y with
 |some (.int _),.int k a,.int k' b=>bif Iu k' k then some (a==b,[])else none
 |some .bool,.bool a,.bool b=>some (a==b,[])
 |some .string,.string a,.string b=>some (a.toList==b.toList,[])
 |some (.pointer e),.pointer a,.pointer b=>bif bL (bZ P e) 0 then none else some (a==b,[(a,b)])
 |_,_,_=>none
def TI(P:Program)(rec:TypeId→List Value→List Value→Option (Bool×List (Option Addr×Option Addr)))(xs ys:List Value):List Field→Option (Bool×List (Option Addr×Option Addr))
 | []=>some (true,[])
 |f::fs=>
  if f.name= "_" then none else
  bif (P.underlying f.type).isSome&&(P.info? f.type).isSome then
   match(bif vu P f.type then rec f.type ((xs.drop f.offset).take (bZ P f.type)) ((ys.drop f.offset).take (bZ P f.type))
    else match xs[f.offset]?,ys[f.offset]? with|some x,some y=>Re P f.type x y|_,_=>none),TI P rec xs ys fs with
   |some (b,l),some (c,m)=>some (b&&c,l++m)
   |_,_=>none
  else none
def Rf(P:Program):Nat→TypeId→List Value→List Value→Option (Bool×List (Option Addr×Option Addr))
 |0,_,_,_=>none
 |d+1,t,xs,ys=>match P.underlying t with
  |some (.struct fs)=>bif P.stoodInHeld t then none else TI P (Rf P d) xs ys fs.toList
  |_=>none
def WW(neg b:Bool)(K:RK)(h:ad):List (Option Addr×Option Addr)→Prop
 | []=>K (.bool (bif neg then !b else b)) none
 |p::l=>qx h (p::l)∧K (.bool (bif neg then !b else b)) (some fun a=>qx a (p::l))
def UM(P:Program)(a:BinOp)(t:TypeId)(xs ys:List Value)(K:RK)(h:ad):Prop:=
 bif P.eqGuardType P.depth t then False else
 match a with
 | .eql=>(match Rf P 10 t xs ys with|some (b,l)=>WW false b K h l|none=>False)
 | .neq=>(match Rf P 10 t xs ys with|some (b,l)=>WW true b K h l|none=>False)
 |_=>False
def WF(a:UnOp)(x:Value)(K:RK):Prop:=
 match a,x with
 | .neg,.int k n=>K (.int k (k.wrap (0-n))) none
 | .xor,.int k n=>K (.int k (k.wrap (aq k.bits (if k.signed then-1 else k.max)^^^aq k.bits n).toNat)) none
 | .not,.bool b=>K (.bool (!b)) none
 |_,_=>False
def dN(s:ByteArray):List Value:=s.data.toList.map fun b=>.int .u8 b.toNat
noncomputable def Row(h:ad)(a:Addr)(vs:List Value):Prop:=∀i v,vs[i]? =some v→aR h (adr a i)=some v
noncomputable def SRow(h:ad)(a:Option Addr)(n:Nat)(vs:List Value):Prop:=vs.length=n∧(vs= []∨∃b,a=some b∧Row h b vs)
def Mj(P:Program)(e:TypeId):Bool:=match P.underlying e with|some (.int .u8)=>true|_=>false
def UT(P:Program)(s d:TypeId):Bool:=
 match P.underlying s,P.underlying d with
 |some .string,some (.slice e)=>Mj P e
 |_,_=>false
def ByP(e:TypeId)(s:ByteArray)(h:ad)(K:Nat→ad→Prop):Prop:=
 ∀c,s.size≤c→K c (h.push (.cells (dN s++dQ (c-s.size) (Value.int .u8 0)).toArray e (c,c+1)))
noncomputable def QK(P:Program)(c b:TypeId)(x:Value)(K:RK)(h:ad):Prop:=
 match P.underlying c,P.underlying b,x with
 |some (.int _),some (.int k),.int _ n=>K (.int k (k.wrap n)) none
 |some .string,some .string,.string s=>K (.string s) none
 |some (.slice e),some .string,.slice a n _=>bif Mj P e then∃s:ByteArray,SRow h a n (dN s)∧K (.string s) (some fun d=>SRow d a n (dN s))else False
 |_,_,_=>False
def RR(v:Option Value)(d y:Nat)(K:Nat→Prop):Prop:=
 match v with
 |none=>K d
 |some (.int _ i)=>(0≤i∧i≤y)∧K i.toNat
 |_=>False
noncomputable def bq(a:Option Addr)(l m size:Nat):Option Addr:=if m=l then a else a.map (adr · (l*size))
def QU(P:Program)(t:TypeId)(K:Prop):Prop:=match P.info? t with|some _=>K|none=>False
noncomputable def LN(P:Program)(t:TypeId)(x:Value)(lo hi b:Option Value)(K:RK):Prop:=
 match P.underlying t,x with
 |some .string,.string s=>match b with
  |some _=>False
  |none=>RR hi s.size s.size fun h=>RR lo 0 h fun l=>K (.string (s.extract l h)) none
 |some (.slice e),.slice a len cap=>QU P e (
  match b with
  |none=>RR hi len cap fun h=>RR lo 0 h fun l=>K (.slice (bq a l cap (bZ P e)) (h-l) (cap-l)) none
  |some m=>match hi with
   |none=>False
   |some hi=>RR (some m) 0 cap fun m=>RR (some hi) 0 m fun h=>RR lo 0 h fun l=>K (.slice (bq a l m (bZ P e)) (h-l) (m-l)) none)
 |some (.array n e),.pointer (some a)=>QU P e (
  match b with
  |none=>RR hi n n fun h=>RR lo 0 h fun l=>K (.slice (bq (some a) l n (bZ P e)) (h-l) (n-l)) none
  |some _=>False)
 |_,_=>False
noncomputable def G3(r:cJ):Option Operand→Option (Option Value)
 |none=>some none
 |some o=>match dA r o with
  |some v=>some (some v)
  |none=>none
noncomputable def yL(P:Program)(t:TypeId)(x i:Value)(K:RK):Prop:=
 match P.underlying t,x,i with
 |some (.array n e),.pointer (some a),.int _ i=>QU P e ((0≤i∧i<n)∧K (.pointer (some (adr a (i.toNat*bZ P e)))) none)
 |some (.slice e),.slice b len _,.int _ i=>QU P e ((0≤i∧i<len)∧∃a,b=some a∧K (.pointer (some (adr a (i.toNat*bZ P e)))) none)
 |_,_,_=>False
def LP(P:Program)(t:TypeId)(x i:Value)(K:RK):Prop:=
 match P.underlying t,x,i with
 |some .string,.string s,.int _ i=>∃b:UInt8,0≤i∧s[i.toNat]? =some b∧K (.int .u8 b.toNat) none
 |_,_,_=>False
noncomputable def LQ(P:Program)(t:TypeId)(x:Value)(f:Nat)(K:RK):Prop:=
 match wO P t f,x with
 |some (u,off),.agg cs=>bif (P.underlying u).isSome&&(P.info? u).isSome then(bif vu P u then K (.agg ((cs.toList.drop off).take (bZ P u)).toArray) none
  else(match cs.toList[off]? with|some v=>K v none|none=>False))else False
 |_,_=>False
def T1(c a b:Value)(K:RK):Prop:=
 match c with
 | .bool c=>(match a,b with
  | .bool x,.bool y=>K (.bool (bif c then x else y)) none
  |_,_=>(match c with|true=>K a none|false=>K b none))
 |_=>False
def hE:Value→Value→Bool
 | .int _ a,.int _ b=>a==b
 | .string a,.string b=>a==b
 | .bool a,.bool b=>a==b
 |_,_=>false
def Kv(k:Value):List MapEntry→Option Value
 | []=>none
 |e::es=>if hE k e.key then some e.val else Kv k es
def ED(c:CK)(es:List MapEntry):Prop:=∀e∈es,∃x:c.den,e.key=c.enc x
def MY(c:CK)(z:Value)(h:ad)(m:Option Nat)(k v:Value)(a:Bool):Prop:=
 match m with
 |none=>v=z∧a=false
 |some r=>∃es clock,h[r]? =some (.map es clock)∧ED c es.toList∧
  (match Kv k es.toList with|some u=>v=u∧a=true|none=>v=z∧a=false)
def Ki(P:Program)(t:TypeId):Option (CK×TypeId):=
 match P.underlying t with
 |some (.map k e)=>match P.underlying k with
  |some (.int i)=>some (.int i,e)
  |some .string=>some (.str,e)
  |some .bool=>some (.bool,e)
  |_=>none
 |_=>none
def H8(P:Program)(t:TypeId)(x k:Value)(a:Bool)(K:RK)(h:ad):Prop:=
 match Ki P t,x with
 |some (c,e),.map m=>c.dec k fun _=>
  (match EC P e,xY P e with
   |some ek,some z=>∃(y:ek.den) (b:Bool),MY c z h m k (ek.enc y) b∧
    K (bif a then .tuple #[ek.enc y,.bool b]else ek.enc y) (some fun d=>MY c z d m k (ek.enc y) b)
   |_,_=>False)
 |_,_=>False
def Sa(h:ad)(m:Option Nat)(n:Nat):Prop:=
 match m with
 |none=>n=0
 |some r=>∃es clock,h[r]? =some (.map es clock)∧n=es.size
def Ow(c:Bool)(h:ad)(m:Option Nat)(n:Nat):Prop:=
 match m with
 |none=>n=0
 |some r=>∃cap buf cl s q,h[r]? =some (.chan cap buf cl s q false)∧n=bif c then cap else buf.size
def UI(P:Program)(t:TypeId)(x:Value)(K:RK)(h:ad):Prop:=
 match P.underlying t,x with
 |some .string,.string s=>K (.int .i64 s.size) none
 |some (.array n _),_=>K (.int .i64 n) none
 |some (.slice _),.slice _ n _=>K (.int .i64 n) none
 |some (.map _ _),.map m=>∃n:Nat,Sa h m n∧K (.int .i64 n) (some fun a=>Sa a m n)
 |some (.chan _ _),.chan m=>∃n:Nat,Ow false h m n∧K (.int .i64 n) (some fun a=>Ow false a m n)
 |_,_=>False
def UJ(P:Program)(t:TypeId)(x:Value)(K:RK)(h:ad):Prop:=
 match P.underlying t,x with
 |some (.slice _),.slice _ _ n=>K (.int .i64 n) none
 |some (.chan _ _),.chan m=>∃n:Nat,Ow true h m n∧K (.int .i64 n) (some fun a=>Ow true a m n)
 |_,_=>False
def Ir(c:Bool)(k:IntKind):Int→List Value→(Value→Prop)→Prop
 |a,[],f=>f (.int k a)
 |a,.int k' b::vs,f=>bif Iu k' k then Ir c k (bif c then(if b>a then b else a)else(if b<a then b else a)) vs f else False
 |_,_,_=>False
def Dx(b:Bool)(vs:List Value)(f:Value→Prop):Prop:=
 match vs with
 | .int k a::vs=>Ir b k a vs f
 |_=>False
def MZ(h:ad)(i:Nat)(e:MapEntry):Prop:=
 ∃m since seen last stamp es,h[i]? =some (.mapIter (some m) since seen last)∧seen.back? =some stamp∧h[m]? =some (.map es last)∧es.find? (fun e=>e.born==stamp)=some e
def qg(P:Program)(t:TypeId):Bool:=match P.underlying t with|some (.interface _)=>false|some _=>true|none=>false
def NP(P:Program)(t:TypeId)(x:Value)(K:RK):Prop:=
 bif qg P t then(match EC P t with
  |some k=>∃y:k.den,x=.iface t (k.enc y)∧K (k.enc y) none
  |none=>False)else False
def JW(cs:List Value)(off:Nat)(vs:List Value):List Value:=cs.take off++vs++cs.drop (off+vs.length)
def CI(a:Nat→Option (Nat×Nat)):List Value→List (Nat×Value)→Option (List Value)
 |cs,[]=>some cs
 |cs,(i,v)::rest=>match a i with
  |none=>none
  |some (off,size)=>bif bL v.cells.toList.length size&&xN (off+v.cells.toList.length) cs.length then CI a (JW cs off v.cells.toList) rest else none
noncomputable def qe(r:cJ):List (Nat×Operand)→Option (List (Nat×Value))
 | []=>some []
 |(i,o)::ps=>match dA r o,qe r ps with
  |some v,some vs=>some ((i,v)::vs)
  |_,_=>none
def qv(P:Program)(t:TypeId):Option (List Value):=match xY P t with|some z=>some z.cells.toList|none=>none
def dE(n:Nat)(z:List Value):List Value:=(dQ n z).flatten
def xC(P:Program)(t:TypeId):Bool:=match P.info? t with|some _=>true|none=>false
def Ax(P:Program):List Field→Bool
 | []=>true
 |f::fs=>bif xC P f.type then Ax P fs else false
def L2(P:Program)(a:List Field)(i:Nat):Option (Nat×Nat):=match a[i]? with|some f=>some (f.offset,bZ P f.type)|none=>none
def IM(P:Program)(t:TypeId)(a:List (Nat×Value)):Option (List Value):=
 match P.underlying t,qv P t with
 |some (.struct fs),some z=>bif Ax P fs.toList then CI (L2 P fs.toList) z a else none
 |some (.array _ e),some z=>bif xC P e then CI (fun i=>some (i*bZ P e,bZ P e)) z a else none
 |_,_=>none
noncomputable def Bm(P:Program)(ek:Option (Kind×Kind))(o:Op)(r:cJ)(K:RK)(h:ad):Prop:=
 match o with
 | .entry it=>match dA r it,ek with
  |some (.pointer (some a)),some (kk,vk)=>a.off=0∧∃(e:MapEntry) (x:kk.den) (y:vk.den),MZ h a.block e∧e.key=kk.enc x∧e.val=vk.enc y∧
    K (.tuple #[kk.enc x,vk.enc y]) (some fun g=>MZ g a.block e)
  |_,_=>False
 | .move x| .assign x=>match dA r x with|some v=>K v none|none=>False
 | .load t a=>match dA r a with|some v=>JN P t v K h|none=>False
 | .nilCheck x=>match dA r x with|some (.pointer p)=>∃a,p=some a∧K (.pointer (some a)) none|_=>False
 | .binOp op t x y _=>match dA r x,dA r y with
  |some (.agg v),some (.agg u)=>UM P op t v.toList u.toList K h
  |some v,some u=>(match op,UU y with
   | .eql,true=>Tp P t false v u K
   | .neq,true=>Tp P t true v u K
   |op,_=>UK P op t v u K h)
  |_,_=>False
 | .unOp op _ x=>match dA r x with|some v=>WF op v K|none=>False
 | .convert s d x=>match dA r x with|some v=>QK P s d v K h|none=>False
 | .pick c a b=>match dA r c,dA r a,dA r b with|some c,some a,some b=>T1 c a b K|_,_,_=>False
 | .extract x i=>match dA r x with
  |some (.tuple vs)=>(match vs.toList[i]? with|some v=>K v none|none=>False)
  |_=>False
 | .fieldAddr t x f=>match dA r x,wO P t f with
  |some (.pointer (some a)),some (u,off)=>bif bL (bZ P u) 0 then False else K (.pointer (some (adr a off))) none
  |_,_=>False
 | .field t x f=>match dA r x with|some v=>LQ P t v f K|none=>False
 | .indexAddr t x i=>match dA r x,dA r i with|some v,some u=>yL P t v u K|_,_=>False
 | .index t x i=>match dA r x,dA r i with|some v,some u=>LP P t v u K|_,_=>False
 | .slice t x lo hi mx=>match dA r x,G3 r lo,G3 r hi,G3 r mx with
  |some v,some l,some g,some m=>LN P t v l g m K
  |_,_,_,_=>False
 | .lookup t x k ok=>match dA r x,dA r k with|some v,some u=>H8 P t v u ok K h|_,_=>False
 | .makeInterface t x=>match dA r x with|some v=>bif qg P t then K (.iface t v) none else False|none=>False
 | .typeAssert x _ t ok=>match dA r x with|some v=>bif ok then False else NP P t v K|none=>False
 | .build t ps=>match qe r ps.toList with
  |some vs=>(match IM P t vs with|some cs=>K (.agg cs.toArray) none|none=>False)
  |none=>False
 | .makeFunc fn first cap=>match nR r first.toList,nR r cap.toList with
  |some vs,some us=>K (.func fn vs.toArray us.toArray) none
  |_,_=>False
 | .call c=>match c.callee,nR r c.args.toList,c.argTypes.toList with
  | .builtin .len,some [v],[t]=>UI P t v K h
  | .builtin .cap,some [v],[t]=>UJ P t v K h
  | .builtin .min,some vs,_=>Dx false vs fun v=>K v none
  | .builtin .max,some vs,_=>Dx true vs fun v=>K v none
  |_,_,_=>False
 |_=>False
abbrev WK:=Value→ad→Prop
def aD(h:ad):Addr:=⟨h.size,0,none⟩
def hnew(h:ad)(cs:List Value)(t:TypeId):ad:=h.push (.cells cs.toArray t (0,0))
def co:List Value→Bool
 | []=>true
 |v::vs=>(match v with| .agg _=>false| .tuple _=>false|_=>true)&&co vs
noncomputable def gT(h:ad)(a:Addr):Nat→List Value→ad
 |_,[]=>h
 |i,v::vs=>gT (hset h (adr a i) v) a (i+1) vs
noncomputable def fT(h:ad)(a:Option Addr)(i:Nat)(vs:List Value):ad:=match a with|some a=>gT h a i vs|none=>h
noncomputable def tT(h:ad)(a:Option Addr)(i:Nat)(vs:List Value):Prop:=vs= []∨∃b,a=some b∧∀j,j<vs.length→Wr h (adr b (i+j))
noncomputable def Lq(P:Program)(t:TypeId)(a v:Value)(K:WK)(h:ad):Prop:=
 match a with
 | .pointer (some a)=>bif bL v.cells.toList.length (bZ P t)&&co v.cells.toList then QU P t
   (match v.cells.toList with
    | [v]=>Wr h a∧K undef (hset h a v)
    |vs=>tT h (some a) 0 vs∧K undef (gT h a 0 vs))
  else False
 |_=>False
noncomputable def RV(P:Program)(e:TypeId)(a:Option Addr)(sl c b:Nat)(xs:List Value)(K:WK)(h:ad):Prop:=
 (sl+b≤c→tT h a (sl*bZ P e) xs∧co xs=true∧K (.slice a (sl+b) c) (fT h a (sl*bZ P e) xs))∧
 (c<sl+b→∃old z,SRow h a (sl*bZ P e) old∧qv P e=some z∧0<qA P e∧Builtin.nextslicecap (sl+b) c*qA P e≤2^48∧
  ∀nc,sl+b≤nc→K (.slice (some (aD h)) (sl+b) nc) (hnew h (old++xs++dE (nc-(sl+b)) z) e))
noncomputable def Dp(P:Program)(t:TypeId)(s x:Value)(K:WK)(h:ad):Prop:=
 match vL P t,s,x with
 |some e,.slice b sl sc,.slice a xl _=>QU P e (∃xs,SRow h a (xl*bZ P e) xs∧RV P e b sl sc xl xs K h)
 |some e,.slice b sl sc,.string x=>bif bL (bZ P e) 1 then RV P e b sl sc x.size (dN x) K h else False
 |_,_,_=>False
noncomputable def DR(P:Program)(t:TypeId)(s x:Value)(K:WK)(h:ad):Prop:=
 match vL P t,s,x with
 |some e,.slice b sl sc,.int _ l=>(match qv P e with
  |some z=>bif bL z.length (bZ P e)then(0≤l∧l*qA P e≤2^48∧l≤9223372036854775807∧((sl+l.toNat:Nat):Int)≤9223372036854775807)∧RV P e b sl sc l.toNat (dE l.toNat z) K h else False
  |none=>False)
 |_,_,_=>False
noncomputable def Lr(P:Program)(t:TypeId)(x:Value)(K:WK)(h:ad):Prop:=
 match vL P t,x with
 |some e,.slice a n _=>(match qv P e with
  |some z=>bif co z then tT h a 0 (dE n z)∧K (.tuple #[]) (fT h a 0 (dE n z))else False
  |none=>False)
 |_,_=>False
noncomputable def Qf(P:Program)(t:TypeId)(d s:Value)(K:WK)(h:ad):Prop:=
 match vL P t,d,s with
 |some e,.slice b dl _,.slice a sl _=>QU P e (∃xs,SRow h a (dV sl dl*bZ P e) xs∧tT h b 0 xs∧co xs=true∧K (.int .i64 (dV sl dl)) (fT h b 0 xs))
 |some e,.slice b dl _,.string x=>bif bL (bZ P e) 1 then tT h b 0 ((dN x).take dl)∧K (.int .i64 (dV x.size dl)) (fT h b 0 ((dN x).take dl))else False
 |_,_,_=>False
def LY(k v:Value)(a:Nat):List MapEntry→List MapEntry×Nat
 | []=>([{key:=k,val:=v,born:=a}],a+1)
 |e::es=>if hE k e.key then({e with key:=k,val:=v}::es,a)else let r:=LY k v a es;(e::r.1,r.2)
def KB(k:Value):List MapEntry→List MapEntry
 | []=> []
 |e::es=>if hE k e.key then es else e::KB k es
def Ov(c:CK)(h:ad)(r:Nat):Prop:=∃es clock,h[r]? =some (.map es clock)∧ED c es.toList
def Tt(h:ad)(r:Nat)(k v:Value):ad:=
 match h[r]? with
 |some (.map es clock)=>h.setIfInBounds r (.map (LY k v clock es.toList).1.toArray (LY k v clock es.toList).2)
 |_=>h
def N0(h:ad)(r:Nat)(k:Value):ad:=
 match h[r]? with
 |some (.map es clock)=>h.setIfInBounds r (.map (KB k es.toList).toArray clock)
 |_=>h
def Dn(P:Program)(t:TypeId)(m k v:Value)(K:WK)(h:ad):Prop:=
 match Ki P t,m with
 |some (c,_),.map m=>c.dec k fun _=>∃r,m=some r∧Ov c h r∧K undef (Tt h r k v)
 |_,_=>False
def DP(P:Program)(t:TypeId)(m k:Value)(K:WK)(h:ad):Prop:=
 match Ki P t,m with
 |some (c,_),.map m=>c.dec k fun _=>(m=none∧K (.tuple #[]) h)∨(∃r,m=some r∧Ov c h r∧K (.tuple #[]) (N0 h r k))
 |_,_=>False
def QD(P:Program):List TypeId→Option (List Kind)
 | []=>some []
 |t::ts=>match EC P t,QD P ts with
  |some k,some ks=>some (k::ks)
  |_,_=>none
def QE(P:Program)(t:TypeId):Option (List Kind):=
 match P.underlying t with
 |some (.tuple ts)=>QD P ts.toList
 |_=>QD P [t]
noncomputable def TU(P:Program)(f:Operand)(r:cJ)(args:List Value)(t:TypeId)(K:WK)(h:ad):Prop:=
 match QE P t with
 |none=>False
 |some ks=>match f with
  | .func f=>HC P f args ks (fun x a=>K (C7 ks (m9 ks x)) a) h
  |f=>match dA r f with
   |some fv=>HV P fv args ks (fun x a=>K (C7 ks (m9 ks x)) a) h
   |none=>False
def Qe(it:Value)(K:WK)(h:ad):Prop:=
 match it with
 | .pointer (some a)=>a.off=0∧
  ∃m since seen last,h[a.block]? =some (.mapIter m since seen last)∧
   ((m=none∧K (.tuple #[.bool false]) h)∨
    (∃r es clock,m=some r∧h[r]? =some (.map es clock)∧(seen.isEmpty=true∨es.isEmpty=true∨es.all (fun e=>decide (e.born≥last))=false)∧
     ((∀e∈es.toList,e.born<since→seen.contains e.born=true)→K (.tuple #[.bool false]) h)∧
     (∀e∈es.toList,seen.contains e.born=false→K (.tuple #[.bool true,e.key,e.val]) (h.setIfInBounds a.block (.mapIter (some r) since (seen.push e.born) clock)))))
 |_=>False
noncomputable def FV(P:Program)(o:Oper)(r:cJ)(K:WK)(h:ad):Prop:=
 match o.op with
 | .alloc t=>(match qv P t with|some z=>K (.pointer (some (aD h))) (hnew h z t)|none=>False)
 | .box t x=>(match dA r x with|some v=>K (.pointer (some (aD h))) (hnew h v.cells.toList t)|none=>False)
 | .build t ps=>(match qe r ps.toList with
  |some vs=>(match IM P t vs with|some cs=>K (.agg cs.toArray) h|none=>False)
  |none=>False)
 | .buildSlice t n ps=>(match vL P t,qe r ps.toList with
  |some e,some vs=>(match qv P e with
   |some z=>bif xN (n*bZ P e) 16777216&&bL z.length (bZ P e)then
     (match CI (fun i=>some (i*bZ P e,bZ P e)) (dE n z) vs with|some cs=>K (.slice (some (aD h)) n n) (hnew h cs e)|none=>False)
    else False
   |none=>False)
  |_,_=>False)
 | .store t a x=>(match dA r a,dA r x with|some a,some v=>Lq P t a v K h|_,_=>False)
 | .mapUpdate t m k x=>(match dA r m,dA r k,dA r x with|some m,some k,some v=>Dn P t m k v K h|_,_,_=>False)
 | .insert t m k x=>(match dA r m,dA r k,dA r x with|some m,some k,some v=>Dn P t m k v K h|_,_,_=>False)
 | .makeMap t n=>(match n with
  |none=>K (.map (some h.size)) (h.push (.map #[] 0))
  |some n=>(match dA r n,P.underlying t with|some (.int _ _),some (.map _ _)=>K (.map (some h.size)) (h.push (.map #[] 0))|_,_=>False))
 | .makeSlice t l c=>(match vL P t,dA r l,dA r c with
  |some e,some (.int _ l),some (.int _ c)=>(match qv P e with
   |some z=>bif bL z.length (bZ P e)then(0≤l∧l≤c∧c≤9223372036854775807∧qA P e*c≤2^48)∧K (.slice (some (aD h)) l.toNat c.toNat) (hnew h (dE c.toNat z) e)else False
   |none=>False)
  |_,_,_=>False)
 | .convert s d x=>(match P.underlying s,P.underlying d,dA r x with
  |some .string,some (.slice e),some (.string v)=>bif Mj P e then ByP e v h (fun c b=>K (.slice (some (aD h)) v.size c) b)else False
  |_,_,_=>False)
 | .range t x=>(match P.underlying t,dA r x with
  |some (.map _ _),some (.map m)=>∃clock,(m=none∧clock=0∨∃r es,m=some r∧h[r]? =some (.map es clock))∧K (.pointer (some (aD h))) (h.push (.mapIter m clock #[] clock))
  |_,_=>False)
 | .next it false=>(match dA r it with|some it=>Qe it K h|none=>False)
 | .call c=>(match c.callee,nR r c.args.toList with
  | .builtin .append,some [s,x]=>(match c.argTypes.toList with| [t,u]=>(match P.underlying u with|some (.slice _)=>Dp P t s x K h|some .string=>Dp P t s x K h|some (.int _)=>DR P t s x K h|_=>False)|_=>False)
  | .builtin .clear,some [x]=>(match c.argTypes.toList with| [t]=>Lr P t x K h|_=>False)
  | .builtin .copy,some [d,s]=>(match c.argTypes.toList with| [t,_]=>Qf P t d s K h|_=>False)
  | .builtin .delete,some [m,k]=>(match c.argTypes.toList with| [t,_]=>DP P t m k K h|_=>False)
  | .value f,some args=>TU P f r args o.type K h
  |_,_=>False)
 |_=>False
def vN(P:Program):Op→Bool
 | .convert s d _=> !UT P s d
 | .alloc _| .box .. | .buildSlice .. | .store .. | .mapUpdate .. | .insert .. | .makeMap .. | .makeSlice .. | .range .. | .next .. =>false
 | .call c=>match c.callee with
  | .builtin .len| .builtin .cap| .builtin .min| .builtin .max=>true
  |_=>false
 |_=>true
def yZ(N:Nat)(o:Oper)(v:Value)(r:cJ)(K:cJ→Prop):Prop:=
 match o.dst with
 |none=>K r
 |some d=>bif xM d N then K ((d,v)::r)else False
noncomputable def Vu(P:Program)(N:Nat)(ek:Option (Kind×Kind))(o:Oper)(r:cJ)(K:cJ→ad→Prop)(h:ad):Prop:=
 bif vN P o.op then Bm P ek o.op r (fun v _=>yZ N o v r fun a=>K a h) h
 else FV P o r (fun v b=>yZ N o v r fun a=>K a b) h
inductive DV where
 |f|t|u|x
abbrev uK:=List (Nat×DV)
noncomputable def qN(d:uK)(t:Nat):DV:=
 fF (motive:=fun _=>DV) .x (fun a _ b=>bif bL a.1 t then a.2 else b) d
noncomputable def Aq(d:uK):Operand→DV
 | .tmp t=>qN d t
 | .const (.bool true)=>.t
 | .const (.bool false)=>.f
 |_=>.x
noncomputable def Jl(d:uK):Op→DV
 | .move x=>Aq d x
 | .assign x=>Aq d x
 | .pick c a b=>match Aq d c with
  | .t=>Aq d a
  | .f=>Aq d b
  |_=>.x
 | .unOp .not _ x=>match Aq d x with
  | .t=>.f
  | .f=>.t
  |_=>.x
 |_=>.x
def rd(d:uK)(o:Oper)(v:DV):uK:=match o.dst with|some t=>(t,v)::d|none=>d
noncomputable def jc(ops:List Oper)(d:uK)(o:Oper):Option Bool:=
 match o.guard with
 |none=>some true
 |some (j,want)=>match ops[j]? with
  |none=>none
  |some oj=>match oj.dst with
   |none=>none
   |some t=>match qN d t with
    | .t=>some want
    | .f=>some (!want)
    | .u=>some false
    | .x=>none
def EJ(ops:List Oper)(o:Oper):Option Nat:=
 match o.guard with
 |none=>none
 |some (j,_)=>match ops[j]? with
  |none=>none
  |some oj=>oj.dst
noncomputable def GP(P:Program)(N:Nat)(ek:Option (Kind×Kind))(ops:List Oper)(o:Oper)(d:uK)(r:cJ)(h:ad)(K:uK→cJ→ad→Prop):Prop:=
 match jc ops d o with
 |some true=>Vu P N ek o r (K (rd d o (Jl d o.op))) h
 |some false=>yZ N o undef r fun a=>K (rd d o .u) a h
 |none=>False
noncomputable def D9(P:Program)(N:Nat)(ek:Option (Kind×Kind))(ops:List Oper)(l:List Oper):uK→(cJ→ad→Prop)→cJ→ad→Prop:=
 fF (motive:=fun _=>uK→(cJ→ad→Prop)→cJ→ad→Prop) (fun _ K r h=>K r h)
  (fun o _ f d K r h=>
  match jc ops d o with
  |some true=>Vu P N ek o r (fun a c=>f (rd d o (Jl d o.op)) K a c) h
  |some false=>yZ N o undef r fun a=>f (rd d o .u) K a h
  |none=>match EJ ops o with
   |none=>False
   |some t=>match kq r t with
    |some (.bool b)=>CondP b
     (GP P N ek ops o ((t,.t)::d) ((t,.bool true)::r) h fun g a c=>f g K a c)
     (GP P N ek ops o ((t,.f)::d) ((t,.bool false)::r) h fun g a c=>f g K a c)
    |_=>False) l
inductive DA where
 |done
 |take (i:Nat) (rest:DA)
 |all (l:DA)
 |pick (i:Nat) (rest more:DA)
 |last (i:Nat) (rest:DA)
 |lastT (i:Nat) (rest:DA)
 |split (t:Nat) (yes no:DA)
abbrev qC:=List (Nat×(ad→Prop))
def tb(m i:Nat):Bool:=bL (jC (Nat.shiftRight m i) 1) 1
def gU(i:Nat):Nat:=Nat.pow 2 i
inductive DM where
 |mk (am fr lk ds:Nat)
def DM.am:DM→Nat| .mk a _ _ _=>a
def DM.fr:DM→Nat| .mk _ f _ _=>f
def DM.lk:DM→Nat| .mk _ _ l _=>l
def DM.ds:DM→Nat| .mk _ _ _ d=>d
def jd(o:Oper)(i:Nat):Bool:=o.after.toList.any fun e=>bL e.on i&&Region.binds .any e
noncomputable def mN(l:List Edge):Nat:=
 fF (motive:=fun _=>Nat) 0 (fun e _ a=>bif Region.binds .any e then cW (gU e.on) a else a) l
noncomputable def lS(l:List Operand):Nat:=
 fF (motive:=fun _=>Nat) 0 (fun o _ a=>match o with| .tmp t=>cW (gU t) a|_=>a) l
def nK(o:Oper):Nat:=match o.dst with|some d=>gU d|none=>0
noncomputable def ox(ops:List Oper)(o:Oper):Nat:=
 cW (lS o.op.operands.toList) (match o.guard with
  |some (g,_)=>(match ops[g]? with|some og=>nK og|none=>0)
  |none=>0)
noncomputable def wD(ops:List Oper)(l:List Oper):List DM→Bool:=
 fF (motive:=fun _=>List DM→Bool) (fun ms=>match ms with| []=>true|_=>false)
  (fun o _ a ms=>match ms with
   |m::ms=>bL (mN o.after.toList) m.am&&bL (ox ops o) m.lk&&bL (nK o) m.ds&&a ms
   | []=>false) l
def B4(x y:DM):Bool:=bL (jC x.ds (cW y.lk y.ds)) 0&&bL (jC y.ds x.lk) 0
noncomputable def Hk(i:Nat)(m:DM)(l:List DM):Nat→Bool:=
 fF (motive:=fun _=>Nat→Bool) (fun _=>true)
  (fun n _ a j=>(!(tb m.fr j)||bL j i||tb n.am i||B4 m n)&&a (fX j)) l
noncomputable def Aj(a:List DM)(l:List DM):Nat→Bool:=
 fF (motive:=fun _=>Nat→Bool) (fun _=>true) (fun m _ b i=>Hk i m a 0&&b (fX i)) l
def Ke:List Oper→Bool
 | []=>true
 |o::os=>(match o.op with| .select .. =>false| .defer _=>false|_=>true)&&Ke os
noncomputable def DB(ops:List Oper)(ms:List DM):Bool:=wD ops ops ms&&Aj ms ms 0&&Ke ops
def oH(o:Oper):qC→qC
 | []=> []
 |(k,S)::l=>bif jd o k then oH o l else(k,S)::oH o l
def rB:qC→ad→Prop→Prop
 | [],_,R=>R
 |(_,S)::l,h,R=>S h∧rB l h R
def GX(m:DM)(ls:Nat):Bool:=bL (jC m.am ls) m.am
noncomputable def lW(ls:Nat)(l:List DM):Nat→List Nat:=
 fF (motive:=fun _=>Nat→List Nat) (fun _=> []) (fun m _ a j=>bif !(tb ls j)&&GX m ls then j::a (fX j)else a (fX j)) l
def D0(m:DM)(i ls n:Nat):Bool:= !(tb ls i)&&GX m ls&&bL (jC (cW ls m.fr) (xm (gU n))) (xm (gU n))
def uU:List Nat→List Nat→Bool
 | [],[]=>true
 |a::as,b::bs=>bL a b&&uU as bs
 |_,_=>false
def BO:DA→List Nat
 | .pick i _ l=>i::BO l
 | .last i _=> [i]
 | .lastT i _=> [i]
 |_=> []
noncomputable def OQ(P:Program)(N:Nat)(ops:List Oper)(i:Nat)(L:qC)(d:uK)(r:cJ)(h:ad)(K:qC→uK→cJ→ad→Prop):Prop:=
 match ops[i]? with
 |none=>False
 |some o=>match jc ops d o with
  |some true=>bif vN P o.op then Bm P none o.op r (fun v _=>yZ N o v r fun a=>rB (oH o L) h (K (oH o L) (rd d o .x) a h)) h else FV P o r (fun v b=>yZ N o v r fun a=>rB (oH o L) b (K (oH o L) (rd d o .x) a b)) h
  |_=>False
noncomputable def upM(m:Nat)(l:List DM):Nat→Nat:=
 fF (motive:=fun _=>Nat→Nat) (fun _=>m) (fun n _ a j=>bif tb m j then cW n.am (a (fX j))else a (fX j)) l
noncomputable def Ar(ms:List DM)(m:Nat):Nat:=upM (upM (upM (upM m ms 0) ms 0) ms 0) ms 0
def IV(ms:List DM)(i:Nat):Nat:=match ms[i]? with|some m=>m.am|none=>0
def zP(m:Nat):qC→qC
 | []=> []
 |(k,S)::l=>bif tb m k then zP m l else(k,S)::zP m l
noncomputable def NN(P:Program)(N:Nat)(ops:List Oper)(ms:List DM)(i:Nat)(L:qC)(d:uK)(r:cJ)(h:ad)(K:qC→uK→cJ→ad→Prop):Prop:=
 match ops[i]? with
 |none=>False
 |some o=>match jc ops d o with
  |some true=>bif vN P o.op then False else FV P o r (fun v a=>yZ N o v r fun b=>rB (zP (Ar ms (IV ms i)) L) a (K (zP (Ar ms (IV ms i)) L) (rd d o .x) b a)) h
  |_=>False
noncomputable def np(P:Program)(N:Nat)(ops:List Oper)(ms:List DM)(n:DA):Bool→Nat→qC→uK→(cJ→ad→Prop)→cJ→ad→Prop:=
 DA.rec (motive:=fun _=>Bool→Nat→qC→uK→(cJ→ad→Prop)→cJ→ad→Prop)
  (fun m ls _ _ K r h=>bif !m&&uU (lW ls ms 0) []then K r h else False)
  (fun i _ c m ls L d K r h=>
   match ops[i]?,ms[i]? with
   |some o,some mi=>bif !m&&D0 mi i ls ops.length then
     (match jc ops d o with
      |none=>False
      |some false=>yZ N o undef r fun a=>c false (cW ls (gU i)) L (rd d o .u) K a h
      |some true=>bif vN P o.op then
       Bm P none o.op r (fun v S=>yZ N o v r fun a=>match S with
        |none=>c false (cW ls (gU i)) L (rd d o (Jl d o.op)) K a h
        |some S=>c false (cW ls (gU i)) ((i,S)::L) (rd d o (Jl d o.op)) K a h) h
       else False)
    else False
   |_,_=>False)
  (fun l c m ls L d K r h=>bif !m&&uU (lW ls ms 0) (BO l)then c true ls L d K r h else False)
  (fun i _ _ f g m ls L d K r h=>bif m then OQ P N ops i L d r h (fun L' j a k=>f false (cW ls (gU i)) L' j K a k)∧g true ls L d K r h else False)
  (fun i _ c m ls L d K r h=>bif m then OQ P N ops i L d r h (fun L' j a k=>c false (cW ls (gU i)) L' j K a k)else False)
  (fun i _ c m ls L d K r h=>bif m then NN P N ops ms i L d r h (fun L' j a k=>c false (cW ls (gU i)) L' j K a k)else False)
  (fun t _ _ f g m ls L d K r h=>
   bif m then False else match kq r t with
   |some (.bool b)=>CondP b (f false ls L ((t,.t)::d) K ((t,.bool true)::r) h) (g false ls L ((t,.f)::d) K ((t,.bool false)::r) h)
   |_=>False)
  n
noncomputable def WU(b:Oper)(i:Nat)(ds lk:Nat)(ops:List Oper)(l:List Oper):Nat→Nat:=
 fF (motive:=fun _=>Nat→Nat) (fun _=>0) (fun p _ a j=>bif (bL j i||jd p i||(bL (jC ds (cW (ox ops p) (nK p))) 0&&bL (jC (nK p) lk) 0))then cW (gU j) (a (fX j))else a (fX j)) l
noncomputable def WJ(ops:List Oper)(l:List Oper):Nat→List DM:=
 fF (motive:=fun _=>Nat→List DM) (fun _=> []) (fun o _ a i=>.mk (mN o.after.toList) (WU o i (nK o) (ox ops o) ops ops 0) (ox ops o) (nK o)::a (fX i)) l
def VC(P:Program)(w:Option Bool)(o:Oper):Bool:=match w with|some false=>true|some true=>vN P o.op|none=>false
noncomputable def UY(P:Program)(ops:List Oper)(d:uK)(ls n:Nat)(l:List Oper):List DM→Nat→Option (Nat×Oper):=
 fF (motive:=fun _=>List DM→Nat→Option (Nat×Oper)) (fun _ _=>none)
  (fun o _ a ms j=>match ms with
   | []=>none
   |m::ms=>bif D0 m j ls n&&VC P (jc ops d o) o then some (j,o)else a ms (fX j)) l
noncomputable def UZ(ops:List Oper)(d:uK)(ls:Nat)(l:List Oper):List DM→Nat→Option Nat:=
 fF (motive:=fun _=>List DM→Nat→Option Nat) (fun _ _=>none)
  (fun o _ a ms j=>match ms with
   | []=>none
   |m::ms=>match bif !(tb ls j)&&GX m ls then(match jc ops d o with|none=>EJ ops o|some _=>none)else none with
    |some t=>some t
    |none=>a ms (fX j)) l
noncomputable def VT(ops:List Oper)(k:Nat→uK→DA)(ls:Nat)(d:uK)(l:List Nat):DA:=
 fF (motive:=fun _=>DA) .done (fun i a b=>match ops[i]? with
  |none=>.done
  |some o=>match a with
   | []=>.last i (k (cW ls (gU i)) (rd d o .x))
   |_=>.pick i (k (cW ls (gU i)) (rd d o .x)) b) l
noncomputable def Vi(P:Program)(ops:List Oper)(ms:List DM)(fuel:Nat):Nat→uK→DA:=
 Nat.rec (motive:=fun _=>Nat→uK→DA) (fun _ _=>.done) (fun _ a ls d=>
  match UY P ops d ls ops.length ops ms 0 with
  |some (i,o)=>.take i (a (cW ls (gU i)) (match jc ops d o with|some false=>rd d o .u|_=>rd d o (Jl d o.op)))
  |none=>match UZ ops d ls ops ms 0 with
   |some t=>.split t (a ls ((t,.t)::d)) (a ls ((t,.f)::d))
   |none=>match lW ls ms 0 with
    | []=>.done
    |l=>.all (VT ops a ls d l)) fuel
noncomputable def NY(ops:List Oper):List DM:=WJ ops ops 0
inductive Ex where
 |exit (id:Nat)
 |ret
abbrev St:=List (Nat×Kind)
def yG:St→List Kind
 | []=> []
 |(_,k)::l=>k::yG l
noncomputable def D4(r:cJ):St→Option (List Value)
 | []=>some []
 |(i,_)::l=>match kq r i,D4 r l with
  |some v,some vs=>some (v::vs)
  |_,_=>none
noncomputable def Ct(a:St)(r:cJ)(f:um (yG a)→Prop):Prop:=
 match D4 r a with
 |some vs=>Dd (yG a) vs f
 |none=>False
def nH:St→List Value→cJ→cJ
 |(i,_)::l,v::vs,r=>(i,v)::nH l vs r
 |_,_,r=>r
noncomputable def N4(r:cJ)(l:List Nat):Option cJ:=
 fF (motive:=fun _=>Option cJ) (some []) (fun t _ a=>match kq r t,a with
  |some v,some l=>some ((t,v)::l)
  |_,_=>none) l
noncomputable def lP(t:Nat)(l:List Oper):Bool:=
 fF (motive:=fun _=>Bool) false (fun o _ a=>match o.dst with|some d=>bif bL d t then true else a|none=>a) l
noncomputable def gA(t:Nat)(c:Code):Bool:=
 Code.rec (motive:=fun _=>Bool) false (fun _ ops _=>lP t ops.toList) (fun _ _ a b=>bif a then true else b) (fun _ _ _ a b=>bif a then true else b)
  (fun _ _ b=>b) (fun _ b=>b) (fun _ _ _ _ _ _=>true) (fun _=>false) (fun _ b=>b) (fun _=>false) (fun _=>false) false (fun _=>false) c
inductive Ann where
 |nil
 |node (a b:Ann)
 |join (st:St) (a b:Ann)
 |loop (st:St) (b:Ann)
 |draw (d:DA)
 |kinds (k v:Kind)
 |reg (keep:List Nat) (inner:Ann)
 |rf (ks:List Kind) (a b:Ann)
def Ann.l:Ann→Ann
 | .node a _=>a
 | .rf _ a _=>a
 |_=>.nil
def Ann.r:Ann→Ann
 | .node _ b=>b
 | .rf _ _ b=>b
 |_=>.nil
noncomputable def Qd(l:List Oper):Nat:=fF (motive:=fun _=>Nat) 0 (fun o _ a=>cW (nK o) a) l
def VU:Option Nat→Option Nat→Option Nat
 |some a,some b=>some (cW a b)
 |_,_=>none
noncomputable def x8(c:Code):Option Nat:=
 Code.rec (motive:=fun _=>Option Nat) (some 0) (fun _ ops _=>some (Qd ops.toList)) (fun _ _ a b=>VU a b) (fun _ _ _ a b=>VU a b)
  (fun _ _ b=>b) (fun _ b=>b) (fun _ _ _ _ _ _=>none) (fun _=>some 0) (fun _ b=>b) (fun _=>some 0) (fun _=>some 0) (some 0) (fun _=>some 0) c
noncomputable def wH(m:Nat)(r:cJ):cJ:=fF (motive:=fun _=>cJ) [] (fun a _ b=>bif tb m a.1 then b else a::b) r
noncomputable def Bv(P:Program)(N:Nat)(ops:List Oper)(b:Bool)(a:Ann)(Kn:cJ→ad→Prop)(r:cJ)(h:ad):Prop:=
 match b with
 |false=>(match a with
  | .kinds kk vk=>D9 P N (some (kk,vk)) ops ops [] Kn r h
  |_=>D9 P N none ops ops [] Kn r h)
 |true=>bif DB ops (NY ops)then np P N ops (NY ops) (match a with| .draw da=>da|_=>Vi P ops (NY ops) (Nat.add (Nat.add ops.length ops.length) 2) 0 []) false 0 [] [] Kn r h else False
noncomputable def kV(P:Program)(N:Nat)(c:Code):Ann→(cJ→ad→Prop)→(Ex→cJ→ad→Prop)→cJ→ad→Prop:=
 Code.rec (motive:=fun _=>Ann→(cJ→ad→Prop)→(Ex→cJ→ad→Prop)→cJ→ad→Prop)
  (fun _ Kn _ r h=>Kn r h)
  (fun _ ops q d Kn _ r h=>match d with
   | .reg keep d=>Bv P N ops.toList q d (fun g f=>match N4 g keep with|some r0=>Kn r0 f|none=>False) r h
   |d=>Bv P N ops.toList q d Kn r h)
  (fun a _ j k d Kn Kx r h=>match d with
   | .join st aa ab=>(match x8 a with
     |none=>False
     |some m=>Join (T:=um (yG st)) (fun t f=>k ab Kn Kx (nH st (m9 (yG st) t) (wH m r)) f)
      fun J=>j aa (fun g f=>Ct st g fun t=>J t f) Kx r h)
   |d=>j d.l (fun g f=>k d.r Kn Kx g f) Kx r h)
  (fun c _ _ j k d Kn Kx r h=>match dA r c with
   |some (.bool t)=>CondP t (j d.l Kn Kx r h) (k d.r Kn Kx r h)
   |_=>False)
  (fun id _ p d Kn Kx r h=>p d Kn (fun e g f=>match e with
    | .exit i=>bif bL i id then Kn g f else Kx (.exit i) g f
    | .ret=>Kx .ret g f) r h)
  (fun b p d _ Kx r h=>match d with
   | .loop st ab=>(match x8 b with
     |none=>False
     |some m=>Ct st r fun u=>LoopP (T:=um (yG st)) (fun n t f=>p ab (fun g o=>Ct st g fun s=>n s o) Kx (nH st (m9 (yG st) t) (wH m r)) f) u h)
   |_=>False)
  (fun _ _ _ _ _ _ _ _ _ _ _=>False)
  (fun id _ _ Kx r h=>Kx (.exit id) r h)
  (fun _ _ _ _ _ _ _=>False)
  (fun _ _ Kn _ r h=>Kn r h)
  (fun _ _ _ _ _ _=>False)
  (fun _ _ Kx r h=>Kx .ret r h)
  (fun _ _ _ _ _ _=>False)
  c
noncomputable def nI(P:Program)(r:cJ)(h:ad):List ResultVar→(List Value→Prop)→Prop
 | [],K=>K []
 | .tmp t::l,K=>(match kq r t with|some v=>nI P r h l fun vs=>K (v::vs)|none=>False)
 | .cell a t::l,K=>(match kq r a with
  |some v=>JN P t v (fun x _=>nI P r h l fun vs=>K (x::vs)) h
  |none=>False)
def p6:Nat→List Value→cJ
 |_,[]=> []
 |i,v::vs=>(i,v)::p6 (i+1) vs
noncomputable def GQ(P:Program)(fn:Func)(c:Code)(b:Ann)(args:List Value)(ks:List Kind)(K:um ks→ad→Prop)(h:ad):Prop:=
 kV P fn.ntmps c b
  (fun r a=>nI P r a fn.results.toList fun vs=>Dd ks vs fun t=>K t a)
  (fun e r a=>match e with
   | .ret=>nI P r a fn.results.toList fun vs=>Dd ks vs fun t=>K t a
   | .exit _=>False)
  (p6 0 args) h
def EW:List Oper→Option (Oper×Oper×Operand×Nat×FuncId×List Operand)
 | [m,o]=>match m.op,m.guard,m.dst,o.op,o.dst,o.guard with
  | .move x,none,some d,.defer c,none,none=>(match c.callee with
   | .value (.func f)=>some (m,o,x,d,f,c.args.toList)
   |_=>none)
  |_,_,_,_,_,_=>none
 |_=>none
inductive Mk where
 |it (n:Nat)
 |call (f:FuncId) (vs:List Value)
def HD(P:Program)(f:FuncId)(args:List Value)(K:ad→Prop)(h:ad):Prop:=
 ∀w:World,w.heap=h→(∀(args:Array Value) (w:World),(callFunc f args).run P w=.ok (.enter f args) w)∧∀n:Nat,CallsDIn {fn:=fun _=>True,depth:=none,alive:=false,round:=none} n P f args.toArray .returning w fun e u w'=>u=.returning∧Tame w w'∧(∃v,e=.returned v)∧K w'.heap
noncomputable def rC(c:Code):Bool:=
 Code.rec (motive:=fun _=>Bool) false (fun _ ops _=>(EW ops.toList).isSome) (fun _ _ a b=>bif a then true else b) (fun _ _ _ a b=>bif a then true else b)
  (fun _ _ b=>b) (fun _ b=>b) (fun _ _ _ _ _ _=>true) (fun _=>false) (fun _ b=>b) (fun _=>false) (fun _=>false) false (fun _=>false) c
def Iz:Option Ex→Option Code
 |none=>none
 |some (.exit i)=>some (.exit i)
 |some .ret=>some .ret
def WV(N:ad→Prop)(X:Nat→ad→Prop)(R:ad→Prop):Option Ex→ad→Prop
 |none=>N
 |some (.exit i)=>X i
 |some .ret=>R
structure RangeP(P:Program)(fv:Value)(ks:List Kind)(h:ad)(RT:Obj→Obj→um ks→(Option Ex→ad→Prop)→ad→Prop)(N:ad→Prop)(X:Nat→ad→Prop)(R:ad→Prop):Prop where
 run:∀lo:LoopState→Option Ex→Obj,(∀s j,∃r,lo s j=.loop r)→
  (∀x h' K,h'[h.size+1]? =some (lo .ready none)→
   RT (lo .ready none) (lo .busy none) x (fun j h2=>h2[h.size+1]? =some (lo .busy none)∧K j.isNone (h2.setIfInBounds (h.size+1) (lo (if j.isNone then .ready else .done) j))) h'→
   HV P (.func (.yield (h.size+1)) #[] #[]) (m9 ks x) [.c .bool] K h')→
  ∃f first cap,fv=.func (.func f) first cap∧HE P f (first.toList++ [.func (.yield (h.size+1)) #[] #[]]++cap.toList) []
   (fun _ h2=>∃s j,s≠ .busy∧h2[h.size+1]? =some (lo s j)∧WV N X R j (h2.setIfInBounds (h.size+1) (lo .exhausted j))) ((h.push (.deferred (some []))).push (lo .ready none))
def SC:List Nat→List Value→cJ→cJ
 |i::l,v::vs,r=>SC l vs ((i,v)::r)
 |_,_,r=>r
noncomputable def LB(P:Program)(N:Nat)(ps:List Nat)(ks:List Kind)(assign body:Code)(b:Ann)(r:cJ)(l:Nat)(GX f:Obj)(x:um ks)(k:Option Ex→ad→Prop)(h:ad):Prop:=
 kV P N assign b.l (fun d c=>c[l]? =some GX∧kV P N body b.r (fun _ a=>k none a) (fun e _ a=>k (some e) a) d (c.setIfInBounds l f)) (fun _ _ _=>False) (SC ps (m9 ks x) r) h
def yP(N:Nat):List Nat→Bool
 | []=>true
 |n::l=>xM n N&&yP N l
noncomputable def yK(P:Program)(N:Nat)(c:Code):Ann→(List Mk→cJ→ad→Prop)→(Ex→List Mk→cJ→ad→Prop)→List Mk→cJ→ad→Prop:=
 Code.rec (motive:=fun _=>Ann→(List Mk→cJ→ad→Prop)→(Ex→List Mk→cJ→ad→Prop)→List Mk→cJ→ad→Prop)
  (fun j Kn Kx ms r h=>kV P N .skip j (Kn ms) (fun e=>Kx e ms) r h)
  (fun id ops q j Kn Kx ms r h=>match EW ops.toList with
   |none=>kV P N (.region id ops q) j (Kn ms) (fun e=>Kx e ms) r h
   |some (_,_,x,d,f,as)=>bif q then False else match dA r x with
    |some v=>bif xM d N then(match nR ((d,v)::r) as with|some vs=>Kn (.call f vs::ms) ((d,v)::r) h|none=>False)else False
    |none=>False)
  (fun a b n o j Kn Kx ms r h=>bif (bif rC a then true else rC b)then n j.l (fun ms p m=>o j.r Kn Kx ms p m) Kx ms r h
   else kV P N (.seq a b) j (Kn ms) (fun e=>Kx e ms) r h)
  (fun c a b n o j Kn Kx ms r h=>bif (bif rC a then true else rC b)then
    (match dA r c with
     |some (.bool t)=>CondP t (n j.l Kn Kx ms r h) (o j.r Kn Kx ms r h)
     |_=>False)
   else kV P N (.cond c a b) j (Kn ms) (fun e=>Kx e ms) r h)
  (fun id b u j Kn Kx ms r h=>bif rC b then u j Kn (fun e ms p m=>match e with
    | .exit i=>bif bL i id then Kn ms p m else Kx (.exit i) ms p m
    | .ret=>Kx .ret ms p m) ms r h
   else kV P N (.block id b) j (Kn ms) (fun e=>Kx e ms) r h)
  (fun b _ j Kn Kx ms r h=>kV P N (.loop b) j (Kn ms) (fun e=>Kx e ms) r h)
  (fun g ps assign body _ _ j Kn Kx ms r h=>match j with
   | .rf ks aa ab=>bif yP N ps.toList&&bL ps.toList.length ks.length then
    (match dA r g with
     |some fv=>RangeP P fv ks h (fun GX s x k m=>LB P N ps.toList ks assign body (.node aa ab) r (h.size+1) GX s x k m)
      (fun m=>Kn (.it h.size::ms) r m) (fun i m=>Kx (.exit i) (.it h.size::ms) r m) (fun m=>Kx .ret (.it h.size::ms) r m)
     |none=>False)else False
   |_=>False)
  (fun id j Kn Kx ms r h=>kV P N (.exit id) j (Kn ms) (fun e=>Kx e ms) r h)
  (fun _ _ _ _ _ _ _ _=>False)
  (fun l j Kn Kx ms r h=>kV P N (.label l) j (Kn ms) (fun e=>Kx e ms) r h)
  (fun _ _ _ _ _ _ _=>False)
  (fun j Kn Kx ms r h=>kV P N .ret j (Kn ms) (fun e=>Kx e ms) r h)
  (fun _ _ _ _ _ _ _=>False)
  c
def JB(P:Program):List Mk→(ad→Prop)→ad→Prop
 | [],K,h=>K h
 | .it D::ms,K,h=>h[D]? =some (.deferred (some []))∧JB P ms K (h.setIfInBounds D (.deferred none))
 | .call f vs::ms,K,h=>HD P f vs (fun a=>JB P ms K a) h
noncomputable def LC(P:Program)(fn:Func)(c:Code)(b:Ann)(args:List Value)(ks:List Kind)(K:um ks→ad→Prop)(h:ad):Prop:=
 yK P fn.ntmps c b
  (fun ms r a=>JB P ms (fun a=>nI P r a fn.results.toList fun vs=>Dd ks vs fun t=>K t a) a)
  (fun e ms r a=>match e with
   | .ret=>JB P ms (fun a=>nI P r a fn.results.toList fun vs=>Dd ks vs fun t=>K t a) a
   | .exit _=>False)
  [] (p6 0 args) h
end Go.Lift
namespace Go.Lift
open Go
theorem Fa(a:Addr):adr a 0=a:=rfl
theorem Az(a:Addr)(n:Nat):adr a (n+1)=⟨a.block,a.off+(n+1),none⟩:=rfl
theorem tN(a:Addr)(n:Nat):adr a n=a.add n:=by
 cases n with
 |zero=>simp[Fa,Addr.add]
 |succ n=>simp[Az,Addr.add]
theorem AA(a:Addr)(m n:Nat):adr (adr a m) n=adr a (m+n):=by
 cases n with
 |zero=>rfl
 |succ n=>cases m with
  |zero=>simp[Fa]
  |succ m=>rw[Az,Az,show m+1+(n+1)=(m+1+n)+1 from rfl,Az];simp;omega
theorem Tame.refl(w:World):Tame w w:=⟨rfl,rfl,rfl⟩
theorem Tame.trans{a b c:World}(h:Tame a b)(k:Tame b c):Tame a c:=⟨k.os.trans h.os,k.tape.trans h.tape,k.output.trans h.output⟩
theorem Ah{a b:IntKind}(h:Iu a b=true):a=b:=by cases a<;>cases b<;>first|rfl|cases h
theorem CK.dec_sound{c:CK}{v:Value}{f:c.den→Prop}(h:c.dec v f):∃x,v=c.enc x∧f x:=by
 cases c<;>cases v<;>try simp only[CK.dec]at h
 case int.int k k' n=>
  cases hk:Iu k' k with
  |false=>rw[hk]at h;exact h.elim
  |true=>rw[hk]at h;have:=Ah hk;subst this;exact⟨n,rfl,h⟩
 case adr.pointer p=>cases p with
  |none=>exact h.elim
  |some a=>exact⟨a,rfl,h⟩
 all_goals first|exact h.elim|exact⟨_,rfl,h⟩
theorem CN:∀{cs:List CK} {vs:List Value} {f:Sg cs→Prop},Om cs vs f→∃t,vs=RM cs t∧f t
 | [],[],f,h=>⟨(),rfl,h⟩
 | [],_::_,f,h=>h.elim
 | [c],[v],f,h=>by obtain⟨x,rfl,b⟩:=CK.dec_sound h;exact⟨x,rfl,b⟩
 | [c],[],f,h=>h.elim
 | [c],_::_::_,f,h=>h.elim
 |c::d::cs,[],f,h=>h.elim
 |c::d::cs,[_],f,h=>h.elim
 |c::d::cs,v::u::vs,f,h=>by
  have a:c.dec v fun x=>Om (d::cs) (u::vs) fun t=>f (x,t):=h
  obtain⟨x,hx,i⟩:=CK.dec_sound a;obtain⟨t,g,j⟩:=CN (cs:=d::cs) (vs:=u::vs) i;exact⟨(x,t),by rw[g,hx];rfl,j⟩
theorem Kind.dec_sound{k:Kind}{v:Value}{f:k.den→Prop}(h:k.dec v f):∃x,v=k.enc x∧f x:=by
 cases k with
 |c k=>exact CK.dec_sound h
 |agg cs=>
  cases v<;>simp only[Kind.dec]at h
  case agg vs=>
   obtain⟨t,a,b⟩:=CN h;exact⟨t,by simp only[Kind.enc,←a],b⟩
theorem rJ:∀{ks:List Kind} {vs:List Value} {f:um ks→Prop},Dd ks vs f→∃t,vs=m9 ks t∧f t
 | [],[],f,h=>⟨(),rfl,h⟩
 | [],_::_,f,h=>h.elim
 | [c],[v],f,h=>by obtain⟨x,rfl,b⟩:=Kind.dec_sound h;exact⟨x,rfl,b⟩
 | [c],[],f,h=>h.elim
 | [c],_::_::_,f,h=>h.elim
 |c::d::cs,[],f,h=>h.elim
 |c::d::cs,[_],f,h=>h.elim
 |c::d::cs,v::u::vs,f,h=>by
  have a:c.dec v fun x=>Dd (d::cs) (u::vs) fun t=>f (x,t):=h
  obtain⟨x,hx,i⟩:=Kind.dec_sound a;obtain⟨t,g,j⟩:=rJ (ks:=d::cs) (vs:=u::vs) i;exact⟨(x,t),by rw[g,hx];rfl,j⟩
theorem sK:∀(ks:List Kind) (t:um ks),(m9 ks t).length=ks.length
 | [],_=>rfl
 | [_],_=>rfl
 |_::l::ks,(_,t)=>by simp only[m9,aV,sK (l::ks) t]
structure Agree(N:Nat)(r:cJ)(a:Act):Prop where
 size:a.tmps.size=N
 look:∀t v,kq r t=some v→a.tmps.getD t undef=v
theorem iB(k:Nat)(v:Value)(r:cJ):kq ((k,v)::r) k=some v:=by rw[Ei,show bL k k=true from Nat.beq_refl k];rfl
theorem gX{k t:Nat}(v:Value)(r:cJ)(h:k≠t):kq ((k,v)::r) t=kq r t:=by
 rw[Ei];have:bL k t=false:=Bool.eq_false_iff.2 fun e=>h (bm e)
 rw[this];rfl
theorem Agree.put{N:Nat}{r:cJ}{a:Act}(h:Agree N r a)(d:Nat)(v:Value)(hd:d<N):Agree N ((d,v)::r) (a.put (some d) v):=by
 refine⟨by simp[Act.put,h.size],fun t u b=>?_⟩
 by_cases e:d=t
 ·subst e
  rw[iB]at b;cases b;simp[Act.put,h.size,hd]
 ·rw[gX v r e]at b
  have:=h.look t u b;simpa[Act.put,Array.getElem?_setIfInBounds_ne e]using this
theorem Agree.known{N:Nat}{r:cJ}{a:Act}(h:Agree N r a){t:Nat}{v:Value}(hv:kq r t=some v):Agree N ((t,v)::r) a:=by
 refine⟨h.size,fun s u b=>?_⟩
 by_cases e:t=s
 ·subst e;rw[iB]at b;cases b;exact h.look t v hv
 ·rw[gX v r e]at b;exact h.look s u b
theorem kz{N:Nat}{r:cJ}{a:Act}(h:Agree N r a){o:Operand}{v:Value}(hv:dA r o=some v):a.eval o=v:=by
 cases o with
 |tmp t=>exact h.look t v hv
 |const c=>simp[dA]at hv;subst hv;rfl
 |global g=>simp[dA]at hv;subst hv;rfl
 |func f=>simp[dA]at hv;subst hv;rfl
theorem mB{N:Nat}{r:cJ}{a:Act}(h:Agree N r a):∀{os:List Operand} {vs:List Value},nR r os=some vs→os.map a.eval=vs
 | [],vs,hv=>by simp[nR]at hv;subst hv;rfl
 |o::os,vs,hv=>by
  simp only[nR]at hv;cases ho:dA r o with
  |none=>simp[ho]at hv
  |some v=>cases hos:nR r os with
   |none=>simp[ho,hos]at hv
   |some us=>simp[ho,hos]at hv;subst hv;simp[kz h ho,mB h hos]
theorem aC{P:Program}{t:TypeId}{d:TypeDesc}(h:P.underlying t=some d)(w:World):(underlying t).run P w=.ok d w:=by
 simp only[underlying,program,bind,Sem.bind,Sem.run,h,pure]
theorem cU{P:Program}{t:TypeId}{i:TypeInfo}(h:P.info? t=some i)(w:World):(typeInfo t).run P w=.ok i w:=by
 simp only[typeInfo,program,bind,Sem.bind,Sem.run,h,pure]
theorem jj{P:Program}{s:Sem Value}{v:Value}{w w':World}(h:s.run P w=.ok v w'):(do pure (Next.value (←s)):Sem Next).run P w=.ok (.value v) w':=by
 simp[h]
theorem QB{P:Program}{s:Sem Unit}{w w':World}(h:s.run P w=.ok () w'):(do s;pure Next.skip:Sem Next).run P w=.ok .skip w':=by
 simp[h]
theorem zO{P:Program}{w:World}{a:Addr}{v:Value}(h:aR w.heap a=some v):(load a).run P w=.ok v w:=by
 have b:w.cell? a=some v:=h;simp[b]
theorem Au{v:Value}{vs:List Value}{i:Nat}{a:Addr}{h:ad}:sM (v::vs) i a h↔aR h (adr a i)=some v∧sM vs (i+1) a h:=by
 cases vs with
 |nil=>simp[sM]
 |cons u us=>rfl
theorem sq{P:Program}{w:World}{a:Addr}:∀(vs:List Value) (i:Nat) (acc:Array Value),sM vs i a w.heap→
  (loadCellsFrom a i vs.length acc).run P w=.ok (acc++vs.toArray) w
 | [],i,acc,_=>by simp[loadCellsFrom]
 |v::vs,i,acc,h=>by
  obtain⟨b,c⟩:=Au.1 h;rw[tN]at b;have:=sq (P:=P) (w:=w) (a:=a) vs (i+1) (acc.push v) c;simp only[aV,loadCellsFrom,Sem.run_bind,zO b,Result.andThen_ok,this];simp
theorem FZ{P:Program}{w:World}{a:Addr}{vs:List Value}(h:sM vs 0 a w.heap):(loadCells a vs.length).run P w=.ok vs.toArray w:=by
 have:=sq (P:=P) (w:=w) (a:=a) vs 0 #[] h;simpa[loadCells]using this
theorem yf:∀(cs:List CK) (i:Nat) (a:Addr) (h:ad) (k:List Value→Prop),IA cs i a h k→∃vs,vs.length=cs.length∧sM vs i a h∧k vs
 | [],i,a,h,k,b=>⟨[],rfl,trivial,b⟩
 |c::cs,i,a,h,k,b=>by
  obtain⟨x,hx,b⟩:=b;obtain⟨vs,d,hc,b⟩:=yf cs (i+1) a h _ b;exact⟨c.enc x::vs,by simp[d],Au.2 ⟨hx,hc⟩,b⟩
theorem As:∀{vs:List Value} {cs:List CK},EZ vs=some cs→cs.length=vs.length
 | [],cs,h=>by simp[EZ]at h;subst h;rfl
 |v::vs,cs,h=>by
  simp only[EZ]at h;cases h1:Ve v with
  |none=>simp[h1]at h
  |some c=>cases h2:EZ vs with
   |none=>simp[h1,h2]at h
   |some ds=>simp[h1,h2]at h;subst h;simp[As h2]
def Sb(P:Program)(t:TypeId)(i:TypeInfo):Kind→Prop
 | .c _=>vu P t=false
 | .agg cs=>vu P t=true∧i.size=cs.length
theorem Mc{P:Program}{t:TypeId}{k:Kind}(h:N3 P t=some k):∃i,P.info? t=some i∧Sb P t i k:=by
 unfold N3 xY at h;cases hi:P.info? t with
 |none=>simp[hi]at h
 |some i=>
  refine⟨i,rfl,?_⟩;cases hz:i.zero with
  |none=>simp[hi,hz]at h
  |some z=>
   rw[hi]at h;simp only[hz]at h;cases z;case agg vs=>
    simp only at h;cases hb:(vu P t&&bL vs.toList.length (bZ P t))with
    |false=>rw[hb]at h;simp at h
    |true=>
     rw[hb]at h;simp only[cond_true]at h;simp only[Bool.and_eq_true]at hb;have a:=bm hb.2;cases hd:EZ vs.toList with
     |none=>rw[hd]at h;simp at h
     |some ds=>
      rw[hd]at h;simp only[bF.injEq]at h;subst h;exact⟨hb.1,by rw[As hd,a];simp[bZ,hi]⟩
   all_goals
    simp only at h;cases ha:vu P t
    ·rw[ha]at h
     simp only[cond_false]at h;split at h
     ·simp only[bF.injEq]at h;subst h;exact ha
     ·simp at h
    ·rw[ha]at h;simp at h
theorem Md{P:Program}{t:TypeId}{k:Kind}(h:EC P t=some k):(∀w,(isAgg t).run P w=.ok (vu P t) w)∧N3 P t=some k:=by
 unfold EC at h;cases hu:P.underlying t with
 |none=>simp[hu]at h
 |some d=>
  simp only[hu]at h;refine⟨fun w=>?_,h⟩
  simp only[isAgg,Sem.run_bind,aC hu,Result.andThen_ok];unfold vu;rw[hu];cases d<;>rfl
theorem Cy{P:Program}{t:TypeId}{v:Value}{K:RK}{h:ad}(d:JN P t v K h):
  ∃u S,K u (some S)∧S h∧∀w:World,S w.heap→(Instr.loadAt t v).run P w=.ok u w:=by
 unfold JN at d;cases v with
 |pointer p=>
  cases p with
  |none=>exact d.elim
  |some a=>
   simp only at d;cases hk:EC P t with
   |none=>simp[hk]at d
   |some k=>
    obtain⟨b,hz⟩:=Md hk;obtain⟨i,hi,hc⟩:=Mc hz;rw[hk]at d;cases k with
    |c c=>
     obtain⟨x,hx,j⟩:=d;refine⟨_,_,j,hx,fun w g=>?_⟩
     have hc:vu P t=false:=hc;simp only[Instr.loadAt,Instr.sureAddr,loadVar,Sem.run_bind,Sem.run_pure,Result.andThen_ok,b,hc];simp[zO g]
    |agg cs=>
     obtain⟨vs,f,m,j⟩:=yf cs 0 a h _ d;obtain⟨n,o⟩:vu P t=true∧i.size=cs.length:=hc;refine⟨_,_,j,m,fun w g=>?_⟩
     have hz:(sizeOf t).run P w=.ok vs.length w:=by simp[sizeOf,cU hi,o,f]
     simp only[Instr.loadAt,Instr.sureAddr,loadVar,Sem.run_bind,Sem.run_pure,Result.andThen_ok,b,n];simp[hz,FZ g]
 |_=>exact d.elim
end Go.Lift
