/- A part of the proof that the named laws of this program answer true, whatever the input. -/
import Derived.OrdersIn
import Derived.Below
import Derived.WalkKit
import Derived.RangeFuncRecord
import Derived.DefersIn
open BitVec renaming ofInt→ad
open List renaming rec→cO,replicate→eu,length_cons→aQ
open Nat renaming succ→cV,beq→aI,min→bU,blt→nQ,land→eR,lor→bo,pred→nH,eq_of_beq_eq_true→au
open Option renaming some→aN
namespace Go.Lift
abbrev ac:=Array Obj
def aP(h:ac)(a:Addr):Option Value:=
 match h[a.block]? with
 |some (.cells c _ _)=>if a.spot.isSome then none else c[a.off]?
 |_=>none
def rZ(h:ac)(a:Addr):Bool:=
 match h[a.block]? with
 |some (.cells _ _ (lo,hi))=>lo≤a.off&&a.off<hi
 |_=>false
def hset(h:ac)(a:Addr)(v:Value):ac:=
 h.modify a.block fun
  | .cells c elem frozen=>.cells (if a.spot.isSome then c else c.setIfInBounds a.off v) elem frozen
  |o=>o
noncomputable def adr(a:Addr)(n:Nat):Addr:=Nat.rec (motive:=fun _=>Addr) a (fun n _=>⟨a.block,a.off+cV n,none⟩) n
def Wr(h:ac)(a:Addr):Prop:=(∃v,aP h a=some v)∧rZ h a=false
structure Tame(w w':World):Prop where
 os:w'.os=w.os
 tape:w'.tape=w.tape
 output:w'.output=w.output
structure SliceV where
 a:Option Addr
 len:Nat
 cap:Nat
def vu:IntKind→IntKind→Bool
 | .i8,.i8=>true| .i16,.i16=>true| .i32,.i32=>true| .i64,.i64=>true
 | .u8,.u8=>true| .u16,.u16=>true| .u32,.u32=>true| .u64,.u64=>true
 |_,_=>false
inductive CK where
 |int (k:IntKind)|bool|str|ptr|slice|map|chan|raw|adr
def CK.den:CK→Type
 | .int _=>Int| .bool=>Bool| .str=>ByteArray| .ptr=>Option Addr| .slice=>SliceV| .map=>Option Nat| .chan=>Option Nat| .raw=>Value| .adr=>Addr
def CK.enc:(c:CK)→c.den→Value
 | .int k,n=>.int k n
 | .bool,b=>.bool b
 | .str,s=>.string s
 | .ptr,p=>.pointer p
 | .slice,s=>.slice s.a s.len s.cap
 | .map,r=>.map r
 | .chan,r=>.chan r
 | .raw,v=>v
 | .adr,a=>.pointer (some a)
def CK.dec:(c:CK)→Value→(c.den→Prop)→Prop
 | .int k,.int k' n,f=>bif vu k' k then f n else False
 | .bool,.bool b,f=>f b
 | .str,.string s,f=>f s
 | .ptr,.pointer p,f=>f p
 | .slice,.slice a l c,f=>f ⟨a,l,c⟩
 | .map,.map r,f=>f r
 | .chan,.chan r,f=>f r
 | .raw,v,f=>f v
 | .adr,.pointer (some a),f=>f a
 |_,_,_=>False
def B4:List CK→Type
 | []=>Unit
 | [c]=>c.den
 |c::d::cs=>c.den×B4 (d::cs)
def BN:(cs:List CK)→B4 cs→List Value
 | [],_=> []
 | [c],x=> [c.enc x]
 |c::d::cs,(x,t)=>c.enc x::BN (d::cs) t
def zv:(cs:List CK)→List Value→(B4 cs→Prop)→Prop
 | [],[],f=>f ()
 | [c],[v],f=>c.dec v f
 |c::d::cs,v::u::vs,f=>c.dec v fun x=>zv (d::cs) (u::vs) fun t=>f (x,t)
 |_,_,_=>False
inductive Kind where
 |c (k:CK)
 |agg (cs:List CK)
def Kind.den:Kind→Type
 | .c k=>k.den
 | .agg cs=>B4 cs
def Kind.enc:(k:Kind)→k.den→Value
 | .c k,x=>k.enc x
 | .agg cs,t=>.agg (BN cs t).toArray
def Kind.dec:(k:Kind)→Value→(k.den→Prop)→Prop
 | .c k,v,f=>k.dec v f
 | .agg cs,.agg vs,f=>zv cs vs.toList f
 |_,_,_=>False
def mo:List Kind→Type
 | []=>Unit
 | [k]=>k.den
 |k::l::ks=>k.den×mo (l::ks)
def gK:(ks:List Kind)→mo ks→List Value
 | [],_=> []
 | [k],x=> [k.enc x]
 |k::l::ks,(x,t)=>k.enc x::gK (l::ks) t
def rL:(ks:List Kind)→List Value→(mo ks→Prop)→Prop
 | [],[],f=>f ()
 | [k],[v],f=>k.dec v f
 |k::l::ks,v::u::vs,f=>k.dec v fun x=>rL (l::ks) (u::vs) fun t=>f (x,t)
 |_,_,_=>False
def rD(ks:List Kind)(vs:List Value):Value:=
 match ks,vs with
 | [_],[v]=>v
 |_,vs=>.tuple vs.toArray
def DL:Value→Option CK
 | .int k _=>some (.int k)
 | .bool _=>some .bool
 | .string _=>some .str
 | .pointer _=>some .ptr
 | .slice .. =>some .slice
 | .map _=>some .map
 | .chan _=>some .chan
 | .nilFunc=>some .raw
 | .nilIface=>some .raw
 |_=>none
def tx:List Value→Option (List CK)
 | []=>some []
 |v::vs=>match DL v,tx vs with
  |some c,some cs=>some (c::cs)
  |_,_=>none
def mI(P:Program)(t:TypeId):Bool:=
 match P.underlying t with
 |some (.struct _)|some (.array _ _)=>true
 |_=>false
def aO(P:Program)(t:TypeId):Nat:=match P.info? t with|some i=>i.size|none=>0
def jQ(P:Program)(t:TypeId):Nat:=match P.info? t with|some i=>i.bytes|none=>0
def nY(P:Program)(t:TypeId):Option Value:=match P.info? t with|some i=>i.zero|none=>none
def zh(P:Program)(t:TypeId):Option Kind:=
 match nY P t with
 |some (.agg vs)=>bif mI P t&&aI vs.toList.length (aO P t)then(match tx vs.toList with|some cs=>some (.agg cs)|none=>none)else none
 |some v=>bif mI P t then none else(match DL v with|some c=>some (.c c)|none=>none)
 |none=>none
def sX(P:Program)(t:TypeId):Option Kind:=
 match P.underlying t with
 |none=>none
 |some _=>zh P t
structure HC(P:Program)(f:FuncId)(args:List Value)(ks:List Kind)(K:mo ks→ac→Prop)(h:ac):Prop where
 run:∀w:World,w.heap=h→
  ((callFunc f args.toArray).run P w=.ok (.enter f args.toArray) w∧
   Calls P f args.toArray w fun e w'=>Tame w w'∧∃t:mo ks,e=.returned (rD ks (gK ks t))∧K t w'.heap)∨
  (∃v w',(callFunc f args.toArray).run P w=.ok (.value v) w'∧Tame w w'∧∃t:mo ks,v=rD ks (gK ks t)∧K t w'.heap)
structure HE(P:Program)(f:FuncId)(args:List Value)(ks:List Kind)(K:mo ks→ac→Prop)(h:ac):Prop where
 run:∀w:World,w.heap=h→(∀(args:Array Value) (w:World),(callFunc f args).run P w=.ok (.enter f args) w)∧
  Calls P f args.toArray w fun e w'=>Tame w w'∧∃t:mo ks,e=.returned (rD ks (gK ks t))∧K t w'.heap
theorem HE.hc{P:Program}{f:FuncId}{args:List Value}{ks:List Kind}{K:mo ks→ac→Prop}{h:ac}(e:HE P f args ks K h):HC P f args ks K h:=
 ⟨fun w a=>.inl ⟨(e.run w a).1 _ w,(e.run w a).2⟩⟩
structure HY(P:Program)(l:Nat)(args:List Value)(K:Bool→ac→Prop)(h:ac):Prop where
 run:∀w:World,w.heap=h→∃fn tmps assign body,(Instr.yield l args.toArray).run P w=.ok (.round l fn tmps assign body) w∧
  ∀(c:Frame) (cs:List Frame),∃b w',Tame w w'∧K b w'.heap∧Steps P (lone (Frame.round l fn tmps assign body .normal) (c::cs) w) (lone (c.finish (.bool b)) cs w')
structure HV(P:Program)(fv:Value)(args:List Value)(ks:List Kind)(K:mo ks→ac→Prop)(h:ac):Prop where
 run:(∃f first cap,fv=.func (.func f) first cap∧HC P f (first.toList++args++cap.toList) ks K h)∨
  (∃l,fv=.func (.yield l) #[] #[]∧HY P l args (fun b h'=>rL ks [.bool b] fun t=>K t h') h)
noncomputable def CondP(b:Bool)(t e:Prop):Prop:=Bool.rec (motive:=fun _=>Prop) e t b
theorem CondP.yes{b:Bool}{t e:Prop}(h:CondP b t e)(a:b=true):t:=by subst a;exact h
theorem CondP.no{b:Bool}{t e:Prop}(h:CondP b t e)(a:b=false):e:=by subst a;exact h
theorem CondP.intro{b:Bool}{t e:Prop}(c:b=true→t)(a:b=false→e):CondP b t e:=by cases b;exact a rfl;exact c rfl
theorem ao{t e:Prop}:CondP true t e↔t:=Iff.rfl
theorem al{t e:Prop}:CondP false t e↔e:=Iff.rfl
attribute [irreducible] CondP
def At(h:ac)(k:ac→Prop):Prop:=k h
def Bd{T:Type}(x:T)(k:T→Prop):Prop:=k x
structure Join{T:Type}(rest:T→ac→Prop)(k:(T→ac→Prop)→Prop):Prop where
 run:k rest
structure LoopP{T:Type}(F:(T→ac→Prop)→T→ac→Prop)(t:T)(h:ac):Prop where
 run:∀I:T→ac→Prop,(∀t h,F I t h→I t h)→I t h
abbrev be:=List (Nat×Value)
noncomputable def fo(r:be)(t:Nat):Option Value:=
 cO (motive:=fun _=>Option Value) none (fun a _ b=>bif aI a.1 t then some a.2 else b) r
theorem sM(k:Nat)(v:Value)(r:be)(t:Nat):fo ((k,v)::r) t=bif aI k t then some v else fo r t:=rfl
noncomputable def bI(r:be):Operand→Option Value
 | .tmp t=>fo r t
 | .const v=>some v
 | .global g=>some (.pointer (some ⟨g,0,none⟩))
 | .func f=>some (.func (.func f) #[] #[])
noncomputable def hG(r:be):List Operand→Option (List Value)
 | []=>some []
 |o::os=>match bI r o,hG r os with
  |some v,some vs=>some (v::vs)
  |_,_=>none
noncomputable def vA:List CK→Nat→Addr→ac→(List Value→Prop)→Prop
 | [],_,_,_,k=>k []
 |c::cs,i,a,h,k=>∃x:c.den,aP h (adr a i)=some (c.enc x)∧vA cs (i+1) a h fun vs=>k (c.enc x::vs)
noncomputable def ll:List Value→Nat→Addr→ac→Prop
 | [],_,_,_=>True
 | [v],i,a,h=>aP h (adr a i)=some v
 |v::u::vs,i,a,h=>aP h (adr a i)=some v∧ll (u::vs) (i+1) a h
abbrev RK:=Value→Option (ac→Prop)→Prop
noncomputable def wn(P:Program)(t:TypeId)(v:Value)(K:RK)(h:ac):Prop:=
 match v with
 | .pointer (some a)=>
  match sX P t with
  |some (.c c)=>∃x:c.den,aP h a=some (c.enc x)∧K (c.enc x) (some fun b=>aP b a=some (c.enc x))
  |some (.agg cs)=>vA cs 0 a h fun vs=>K (.agg vs.toArray) (some fun b=>ll vs 0 a b)
  |none=>False
 |_=>False
def ns(P:Program)(t:TypeId)(f:Nat):Option (TypeId×Nat):=
 match P.underlying t with
 |some (.struct fs)=>match fs.toList[f]? with
  |some g=>some (g.type,g.offset)
  |none=>none
 |_=>none
def mN(P:Program)(t:TypeId):Option TypeId:=
 match P.underlying t with
 |some (.slice e)=>some e
 |_=>none
def xy(c:BinOp)(k:IntKind)(a b:Int)(K:RK):Prop:=
 match c with
 | .shl=>0≤b∧K (.int k (k.wrap (a*2^(min b.toNat k.bits)))) none
 | .shr=>0≤b∧K (.int k (a.fdiv (2^(min b.toNat k.bits)))) none
 |_=>False
def Dt(c:BinOp)(k:IntKind)(a b:Int)(K:RK):Prop:=
 match c with
 | .add=>K (.int k (k.wrap (a+b))) none
 | .sub=>K (.int k (k.wrap (a-b))) none
 | .mul=>K (.int k (k.wrap (a*b))) none
 | .quo=>b≠0∧K (.int k (k.wrap (a.tdiv b))) none
 | .rem=>b≠0∧K (.int k (a.tmod b)) none
 | .and=>K (.int k (k.wrap (ad k.bits a&&&ad k.bits b).toNat)) none
 | .or=>K (.int k (k.wrap (ad k.bits a|||ad k.bits b).toNat)) none
 | .xor=>K (.int k (k.wrap (ad k.bits a^^^ad k.bits b).toNat)) none
 | .andNot=>K (.int k (k.wrap (ad k.bits a&&& ~~~ad k.bits b).toNat)) none
 | .eql=>K (.bool (a==b)) none
 | .neq=>K (.bool (a !=b)) none
 | .lss=>K (.bool (decide (a<b))) none
 | .leq=>K (.bool (decide (a≤b))) none
 | .gtr=>K (.bool (decide (a>b))) none
 | .geq=>K (.bool (decide (a≥b))) none
 |_=>False
def Dc(c:BinOp)(a b:ByteArray)(K:RK):Prop:=
 match c with
 | .add=>((a.size+b.size:Nat):Int)≤9223372036854775807∧K (.string (a++b)) none
 | .eql=>K (.bool (a.toList==b.toList)) none
 | .neq=>K (.bool (!(a.toList==b.toList))) none
 | .lss=>K (.bool (Op.bytesLess a.toList b.toList)) none
 | .leq=>K (.bool (Op.bytesLess a.toList b.toList||a.toList==b.toList)) none
 | .gtr=>K (.bool (!(Op.bytesLess a.toList b.toList||a.toList==b.toList))) none
 | .geq=>K (.bool (!(Op.bytesLess a.toList b.toList))) none
 |_=>False
def cq(h:ac)(a:Addr):Prop:=(∃c e,h[a.block]? =some (.cells c e (0,0))∧0<c.size)
def Cu(P:Program)(t:TypeId)(neg:Bool)(x y:Value)(K:RK):Prop:=
 match P.underlying t,x,y with
 |some (.pointer _),.pointer a,.pointer none=>K (.bool (bif neg then !a.isNone else a.isNone)) none
 |some (.map _ _),.map a,.map none=>K (.bool (bif neg then !a.isNone else a.isNone)) none
 |some (.slice _),.slice a _ _,.slice none _ _=>K (.bool (bif neg then !a.isNone else a.isNone)) none
 |_,_,_=>False
def Ds:Operand→Bool
 | .const (.pointer none)=>true
 | .const (.map none)=>true
 | .const (.slice none 0 0)=>true
 |_=>false
def CZ(P:Program)(t:TypeId)(neg:Bool)(x y:Value)(K:RK)(h:ac):Prop:=
 match P.underlying t,x,y with
 |some .bool,.bool a,.bool b=>K (.bool (bif neg then !(a==b)else a==b)) none
 |some (.pointer e),.pointer a,.pointer b=>
  (bif aI (aO P e) 0 then False else True)∧
  (∀x y,a=some x→b=some y→cq h x∧cq h y)∧
  K (.bool (bif neg then !(a==b)else a==b)) (some fun c=>∀x y,a=some x→b=some y→cq c x∧cq c y)
 |_,_,_=>False
def Di(P:Program)(c:BinOp)(t:TypeId)(x y:Value)(K:RK)(h:ac):Prop:=
 match x,y with
 | .int k a,.int k' b=>
  match c with
  | .shl=>xy .shl k a b K
  | .shr=>xy .shr k a b K
  |c=>bif vu k' k then Dt c k a b K else False
 | .string a,.string b=>Dc c a b K
 |x,y=>match c with
  | .eql=>CZ P t false x y K h
  | .neq=>CZ P t true x y K h
  |_=>False
def ki(h:ac):List (Option Addr×Option Addr)→Prop
 | []=>True
 |(a,b)::l=>(∀x y,a=some x→b=some y→cq h x∧cq h y)∧ki h l
def Bm(P:Program)(t:TypeId)(x y:Value):Option (Bool×List (Option Addr×Option Addr)):=
 match P.underlying t,x,y with
 |some (.int _),.int k a,.int k' b=>bif vu k' k then some (a==b,[])else none
 |some .bool,.bool a,.bool b=>some (a==b,[])
 |some .string,.string a,.string b=>some (a.toList==b.toList,[])
 |some (.pointer e),.pointer a,.pointer b=>bif aI (aO P e) 0 then none else some (a==b,[(a,b)])
 |_,_,_=>none
def CE(P:Program)(rec:TypeId→List Value→List Value→Option (Bool×List (Option Addr×Option Addr)))(xs ys:List Value):List Field→Option (Bool×List (Option Addr×Option Addr))
 | []=>some (true,[])
 |f::fs=>
  if f.name= "_" then none else
  bif (P.underlying f.type).isSome&&(P.info? f.type).isSome then
   match(bif mI P f.type then rec f.type ((xs.drop f.offset).take (aO P f.type)) ((ys.drop f.offset).take (aO P f.type))
    else match xs[f.offset]?,ys[f.offset]? with|some x,some y=>Bm P f.type x y|_,_=>none),CE P rec xs ys fs with
   |some (b,l),some (c,m)=>some (b&&c,l++m)
   |_,_=>none
  else none
def Bo(P:Program):Nat→TypeId→List Value→List Value→Option (Bool×List (Option Addr×Option Addr))
 |0,_,_,_=>none
 |d+1,t,xs,ys=>match P.underlying t with
  |some (.struct fs)=>bif P.stoodInHeld t then none else CE P (Bo P d) xs ys fs.toList
  |_=>none
def EX(neg b:Bool)(K:RK)(h:ac):List (Option Addr×Option Addr)→Prop
 | []=>K (.bool (bif neg then !b else b)) none
 |p::l=>ki h (p::l)∧K (.bool (bif neg then !b else b)) (some fun a=>ki a (p::l))
def Dk(P:Program)(a:BinOp)(t:TypeId)(xs ys:List Value)(K:RK)(h:ac):Prop:=
 bif P.eqGuardType P.depth t then False else
 match a with
 | .eql=>(match Bo P 10 t xs ys with|some (b,l)=>EX false b K h l|none=>False)
 | .neq=>(match Bo P 10 t xs ys with|some (b,l)=>EX true b K h l|none=>False)
 |_=>False
def EJ(a:UnOp)(x:Value)(K:RK):Prop:=
 match a,x with
 | .neg,.int k n=>K (.int k (k.wrap (0-n))) none
 | .xor,.int k n=>K (.int k (k.wrap (ad k.bits (if k.signed then-1 else k.max)^^^ad k.bits n).toNat)) none
 | .not,.bool b=>K (.bool (!b)) none
 |_,_=>False
def cN(s:ByteArray):List Value:=s.data.toList.map fun b=>.int .u8 b.toNat
noncomputable def Row(h:ac)(a:Addr)(vs:List Value):Prop:=∀i v,vs[i]? =some v→aP h (adr a i)=some v
noncomputable def SRow(h:ac)(a:Option Addr)(n:Nat)(vs:List Value):Prop:=vs.length=n∧(vs= []∨∃b,a=some b∧Row h b vs)
def yd(P:Program)(e:TypeId):Bool:=match P.underlying e with|some (.int .u8)=>true|_=>false
def Dr(P:Program)(s d:TypeId):Bool:=
 match P.underlying s,P.underlying d with
 |some .string,some (.slice e)=>yd P e
 |_,_=>false
def ByP(e:TypeId)(s:ByteArray)(h:ac)(K:Nat→ac→Prop):Prop:=
 ∀c,s.size≤c→K c (h.push (.cells (cN s++eu (c-s.size) (Value.int .u8 0)).toArray e (c,c+1)))
noncomputable def AV(P:Program)(b c:TypeId)(x:Value)(K:RK)(h:ac):Prop:=
 match P.underlying b,P.underlying c,x with
 |some (.int _),some (.int k),.int _ n=>K (.int k (k.wrap n)) none
 |some .string,some .string,.string s=>K (.string s) none
 |some (.slice e),some .string,.slice a n _=>bif yd P e then∃s:ByteArray,SRow h a n (cN s)∧K (.string s) (some fun d=>SRow d a n (cN s))else False
 |_,_,_=>False
def BR(v:Option Value)(d y:Nat)(K:Nat→Prop):Prop:=
 match v with
 |none=>K d
 |some (.int _ i)=>(0≤i∧i≤y)∧K i.toNat
 |_=>False
noncomputable def aF(a:Option Addr)(l m size:Nat):Option Addr:=if m=l then a else a.map (adr · (l*size))
def A6(P:Program)(t:TypeId)(K:Prop):Prop:=match P.info? t with|some _=>K|none=>False
noncomputable def xI(P:Program)(t:TypeId)(x:Value)(lo b c:Option Value)(K:RK):Prop:=
 match P.underlying t,x with
 |some .string,.string s=>match c with
  |some _=>False
  |none=>BR b s.size s.size fun h=>BR lo 0 h fun l=>K (.string (s.extract l h)) none
 |some (.slice e),.slice a len cap=>A6 P e (
  match c with
  |none=>BR b len cap fun h=>BR lo 0 h fun l=>K (.slice (aF a l cap (aO P e)) (h-l) (cap-l)) none
  |some m=>match b with
   |none=>False
   |some b=>BR (some m) 0 cap fun m=>BR (some b) 0 m fun h=>BR lo 0 h fun l=>K (.slice (aF a l m (aO P e)) (h-l) (m-l)) none)
 |some (.array n e),.pointer (some a)=>A6 P e (
  match c with
  |none=>BR b n n fun h=>BR lo 0 h fun l=>K (.slice (aF (some a) l n (aO P e)) (h-l) (n-l)) none
  |some _=>False)
 |_,_=>False
noncomputable def uD(r:be):Option Operand→Option (Option Value)
 |none=>some none
 |some o=>match bI r o with
  |some v=>some (some v)
  |none=>none
noncomputable def oI(P:Program)(t:TypeId)(x i:Value)(K:RK):Prop:=
 match P.underlying t,x,i with
 |some (.array n e),.pointer (some a),.int _ i=>A6 P e ((0≤i∧i<n)∧K (.pointer (some (adr a (i.toNat*aO P e)))) none)
 |some (.slice e),.slice b len _,.int _ i=>A6 P e ((0≤i∧i<len)∧∃a,b=some a∧K (.pointer (some (adr a (i.toNat*aO P e)))) none)
 |_,_,_=>False
def xK(P:Program)(t:TypeId)(x i:Value)(K:RK):Prop:=
 match P.underlying t,x,i with
 |some .string,.string s,.int _ i=>∃b:UInt8,0≤i∧s[i.toNat]? =some b∧K (.int .u8 b.toNat) none
 |_,_,_=>False
noncomputable def xL(P:Program)(t:TypeId)(x:Value)(f:Nat)(K:RK):Prop:=
 match ns P t f,x with
 |some (u,off),.agg cs=>bif (P.underlying u).isSome&&(P.info? u).isSome then(bif mI P u then K (.agg ((cs.toList.drop off).take (aO P u)).toArray) none
  else(match cs.toList[off]? with|some v=>K v none|none=>False))else False
 |_,_=>False
def CV(c a b:Value)(K:RK):Prop:=
 match c with
 | .bool c=>(match a,b with
  | .bool x,.bool y=>K (.bool (bif c then x else y)) none
  |_,_=>(match c with|true=>K a none|false=>K b none))
 |_=>False
def dI:Value→Value→Bool
 | .int _ a,.int _ b=>a==b
 | .string a,.string b=>a==b
 | .bool a,.bool b=>a==b
 |_,_=>false
def wO(k:Value):List MapEntry→Option Value
 | []=>none
 |e::es=>if dI k e.key then some e.val else wO k es
def sY(c:CK)(es:List MapEntry):Prop:=∀e∈es,∃x:c.den,e.key=c.enc x
def yC(c:CK)(z:Value)(h:ac)(m:Option Nat)(k v:Value)(a:Bool):Prop:=
 match m with
 |none=>v=z∧a=false
 |some r=>∃es clock,h[r]? =some (.map es clock)∧sY c es.toList∧
  (match wO k es.toList with|some u=>v=u∧a=true|none=>v=z∧a=false)
def wG(P:Program)(t:TypeId):Option (CK×TypeId):=
 match P.underlying t with
 |some (.map k e)=>match P.underlying k with
  |some (.int i)=>some (.int i,e)
  |some .string=>some (.str,e)
  |some .bool=>some (.bool,e)
  |_=>none
 |_=>none
def vd(P:Program)(t:TypeId)(x k:Value)(a:Bool)(K:RK)(h:ac):Prop:=
 match wG P t,x with
 |some (c,e),.map m=>c.dec k fun _=>
  (match sX P e,nY P e with
   |some ek,some z=>∃(y:ek.den) (b:Bool),yC c z h m k (ek.enc y) b∧
    K (bif a then .tuple #[ek.enc y,.bool b]else ek.enc y) (some fun d=>yC c z d m k (ek.enc y) b)
   |_,_=>False)
 |_,_=>False
def B1(h:ac)(m:Option Nat)(n:Nat):Prop:=
 match m with
 |none=>n=0
 |some r=>∃es clock,h[r]? =some (.map es clock)∧n=es.size
def zA(c:Bool)(h:ac)(m:Option Nat)(n:Nat):Prop:=
 match m with
 |none=>n=0
 |some r=>∃cap buf cl s q,h[r]? =some (.chan cap buf cl s q false)∧n=bif c then cap else buf.size
def Dg(P:Program)(t:TypeId)(x:Value)(K:RK)(h:ac):Prop:=
 match P.underlying t,x with
 |some .string,.string s=>K (.int .i64 s.size) none
 |some (.array n _),_=>K (.int .i64 n) none
 |some (.slice _),.slice _ n _=>K (.int .i64 n) none
 |some (.map _ _),.map m=>∃n:Nat,B1 h m n∧K (.int .i64 n) (some fun a=>B1 a m n)
 |some (.chan _ _),.chan m=>∃n:Nat,zA false h m n∧K (.int .i64 n) (some fun a=>zA false a m n)
 |_,_=>False
def Dh(P:Program)(t:TypeId)(x:Value)(K:RK)(h:ac):Prop:=
 match P.underlying t,x with
 |some (.slice _),.slice _ _ n=>K (.int .i64 n) none
 |some (.chan _ _),.chan m=>∃n:Nat,zA true h m n∧K (.int .i64 n) (some fun a=>zA true a m n)
 |_,_=>False
def vq(c:Bool)(k:IntKind):Int→List Value→(Value→Prop)→Prop
 |a,[],f=>f (.int k a)
 |a,.int k' b::vs,f=>bif vu k' k then vq c k (bif c then(if b>a then b else a)else(if b<a then b else a)) vs f else False
 |_,_,_=>False
def rW(b:Bool)(vs:List Value)(f:Value→Prop):Prop:=
 match vs with
 | .int k a::vs=>vq b k a vs f
 |_=>False
def yD(h:ac)(i:Nat)(e:MapEntry):Prop:=
 ∃m since seen last stamp es,h[i]? =some (.mapIter (some m) since seen last)∧seen.back? =some stamp∧h[m]? =some (.map es last)∧es.find? (fun e=>e.born==stamp)=some e
def jC(P:Program)(t:TypeId):Bool:=match P.underlying t with|some (.interface _)=>false|some _=>true|none=>false
def y2(P:Program)(t:TypeId)(x:Value)(K:RK):Prop:=
 bif jC P t then(match sX P t with
  |some k=>∃y:k.den,x=.iface t (k.enc y)∧K (k.enc y) none
  |none=>False)else False
def wv(cs:List Value)(off:Nat)(vs:List Value):List Value:=cs.take off++vs++cs.drop (off+vs.length)
def rp(a:Nat→Option (Nat×Nat)):List Value→List (Nat×Value)→Option (List Value)
 |cs,[]=>some cs
 |cs,(i,v)::rest=>match a i with
  |none=>none
  |some (off,size)=>bif aI v.cells.toList.length size&&Nat.ble (off+v.cells.toList.length) cs.length then rp a (wv cs off v.cells.toList) rest else none
noncomputable def jB(r:be):List (Nat×Operand)→Option (List (Nat×Value))
 | []=>some []
 |(i,o)::ps=>match bI r o,jB r ps with
  |some v,some vs=>some ((i,v)::vs)
  |_,_=>none
def jL(P:Program)(t:TypeId):Option (List Value):=match nY P t with|some z=>some z.cells.toList|none=>none
def cd(n:Nat)(z:List Value):List Value:=(eu n z).flatten
def nN(P:Program)(t:TypeId):Bool:=match P.info? t with|some _=>true|none=>false
def pQ(P:Program):List Field→Bool
 | []=>true
 |f::fs=>bif nN P f.type then pQ P fs else false
def xU(P:Program)(a:List Field)(i:Nat):Option (Nat×Nat):=match a[i]? with|some f=>some (f.offset,aO P f.type)|none=>none
def vE(P:Program)(t:TypeId)(a:List (Nat×Value)):Option (List Value):=
 match P.underlying t,jL P t with
 |some (.struct fs),some z=>bif pQ P fs.toList then rp (xU P fs.toList) z a else none
 |some (.array _ e),some z=>bif nN P e then rp (fun i=>some (i*aO P e,aO P e)) z a else none
 |_,_=>none
noncomputable def qh(P:Program)(ek:Option (Kind×Kind))(o:Op)(r:be)(K:RK)(h:ac):Prop:=
 match o with
 | .entry it=>match bI r it,ek with
  |some (.pointer (some a)),some (kk,vk)=>a.off=0∧∃(e:MapEntry) (x:kk.den) (y:vk.den),yD h a.block e∧e.key=kk.enc x∧e.val=vk.enc y∧
    K (.tuple #[kk.enc x,vk.enc y]) (some fun g=>yD g a.block e)
  |_,_=>False
 | .move x| .assign x=>match bI r x with|some v=>K v none|none=>False
 | .load t a=>match bI r a with|some v=>wn P t v K h|none=>False
 | .nilCheck x=>match bI r x with|some (.pointer p)=>∃a,p=some a∧K (.pointer (some a)) none|_=>False
 | .binOp op t x y _=>match bI r x,bI r y with
  |some (.agg v),some (.agg u)=>Dk P op t v.toList u.toList K h
  |some v,some u=>(match op,Ds y with
   | .eql,true=>Cu P t false v u K
   | .neq,true=>Cu P t true v u K
   |op,_=>Di P op t v u K h)
  |_,_=>False
 | .unOp op _ x=>match bI r x with|some v=>EJ op v K|none=>False
 | .convert s d x=>match bI r x with|some v=>AV P s d v K h|none=>False
 | .pick c a b=>match bI r c,bI r a,bI r b with|some c,some a,some b=>CV c a b K|_,_,_=>False
 | .extract x i=>match bI r x with
  |some (.tuple vs)=>(match vs.toList[i]? with|some v=>K v none|none=>False)
  |_=>False
 | .fieldAddr t x f=>match bI r x,ns P t f with
  |some (.pointer (some a)),some (u,off)=>bif aI (aO P u) 0 then False else K (.pointer (some (adr a off))) none
  |_,_=>False
 | .field t x f=>match bI r x with|some v=>xL P t v f K|none=>False
 | .indexAddr t x i=>match bI r x,bI r i with|some v,some u=>oI P t v u K|_,_=>False
 | .index t x i=>match bI r x,bI r i with|some v,some u=>xK P t v u K|_,_=>False
 | .slice t x lo hi mx=>match bI r x,uD r lo,uD r hi,uD r mx with
  |some v,some l,some g,some m=>xI P t v l g m K
  |_,_,_,_=>False
 | .lookup t x k ok=>match bI r x,bI r k with|some v,some u=>vd P t v u ok K h|_,_=>False
 | .makeInterface t x=>match bI r x with|some v=>bif jC P t then K (.iface t v) none else False|none=>False
 | .typeAssert x _ t ok=>match bI r x with|some v=>bif ok then False else y2 P t v K|none=>False
 | .build t ps=>match jB r ps.toList with
  |some vs=>(match vE P t vs with|some cs=>K (.agg cs.toArray) none|none=>False)
  |none=>False
 | .makeFunc fn first cap=>match hG r first.toList,hG r cap.toList with
  |some vs,some us=>K (.func fn vs.toArray us.toArray) none
  |_,_=>False
 | .call c=>match c.callee,hG r c.args.toList,c.argTypes.toList with
  | .builtin .len,some [v],[t]=>Dg P t v K h
  | .builtin .cap,some [v],[t]=>Dh P t v K h
  | .builtin .min,some vs,_=>rW false vs fun v=>K v none
  | .builtin .max,some vs,_=>rW true vs fun v=>K v none
  |_,_,_=>False
 |_=>False
abbrev WK:=Value→ac→Prop
def bN(h:ac):Addr:=⟨h.size,0,none⟩
def hnew(h:ac)(cs:List Value)(t:TypeId):ac:=h.push (.cells cs.toArray t (0,0))
def aY:List Value→Bool
 | []=>true
 |v::vs=>(match v with| .agg _=>false| .tuple _=>false|_=>true)&&aY vs
noncomputable def fX(h:ac)(a:Addr):Nat→List Value→ac
 |_,[]=>h
 |i,v::vs=>fX (hset h (adr a i) v) a (i+1) vs
noncomputable def cY(h:ac)(a:Option Addr)(i:Nat)(vs:List Value):ac:=match a with|some a=>fX h a i vs|none=>h
noncomputable def nO(h:ac)(a:Option Addr)(i:Nat)(vs:List Value):Prop:=vs= []∨∃b,a=some b∧∀j,j<vs.length→Wr h (adr b (i+j))
noncomputable def xm(P:Program)(t:TypeId)(a v:Value)(K:WK)(h:ac):Prop:=
 match a with
 | .pointer (some a)=>bif aI v.cells.toList.length (aO P t)&&aY v.cells.toList then A6 P t
   (match v.cells.toList with
    | [v]=>Wr h a∧K undef (hset h a v)
    |vs=>nO h (some a) 0 vs∧K undef (fX h a 0 vs))
  else False
 |_=>False
noncomputable def BU(P:Program)(e:TypeId)(a:Option Addr)(sl c b:Nat)(xs:List Value)(K:WK)(h:ac):Prop:=
 (sl+b≤c→nO h a (sl*aO P e) xs∧aY xs=true∧K (.slice a (sl+b) c) (cY h a (sl*aO P e) xs))∧
 (c<sl+b→∃old z,SRow h a (sl*aO P e) old∧jL P e=some z∧0<jQ P e∧Builtin.nextslicecap (sl+b) c*jQ P e≤2^48∧
  ∀nc,sl+b≤nc→K (.slice (some (bN h)) (sl+b) nc) (hnew h (old++xs++cd (nc-(sl+b)) z) e))
noncomputable def rT(P:Program)(t:TypeId)(s x:Value)(K:WK)(h:ac):Prop:=
 match mN P t,s,x with
 |some e,.slice b sl sc,.slice a xl _=>A6 P e (∃xs,SRow h a (xl*aO P e) xs∧BU P e b sl sc xl xs K h)
 |some e,.slice b sl sc,.string x=>bif aI (aO P e) 1 then BU P e b sl sc x.size (cN x) K h else False
 |_,_,_=>False
noncomputable def ss(P:Program)(t:TypeId)(s x:Value)(K:WK)(h:ac):Prop:=
 match mN P t,s,x with
 |some e,.slice b sl sc,.int _ l=>(match jL P e with
  |some z=>bif aI z.length (aO P e)then(0≤l∧l*jQ P e≤2^48∧l≤9223372036854775807∧((sl+l.toNat:Nat):Int)≤9223372036854775807)∧BU P e b sl sc l.toNat (cd l.toNat z) K h else False
  |none=>False)
 |_,_,_=>False
noncomputable def xn(P:Program)(t:TypeId)(x:Value)(K:WK)(h:ac):Prop:=
 match mN P t,x with
 |some e,.slice a n _=>(match jL P e with
  |some z=>bif aY z then nO h a 0 (cd n z)∧K (.tuple #[]) (cY h a 0 (cd n z))else False
  |none=>False)
 |_,_=>False
noncomputable def AD(P:Program)(t:TypeId)(d s:Value)(K:WK)(h:ac):Prop:=
 match mN P t,d,s with
 |some e,.slice b dl _,.slice a sl _=>A6 P e (∃xs,SRow h a (bU sl dl*aO P e) xs∧nO h b 0 xs∧aY xs=true∧K (.int .i64 (bU sl dl)) (cY h b 0 xs))
 |some e,.slice b dl _,.string x=>bif aI (aO P e) 1 then nO h b 0 ((cN x).take dl)∧K (.int .i64 (bU x.size dl)) (cY h b 0 ((cN x).take dl))else False
 |_,_,_=>False
def xP(k v:Value)(a:Nat):List MapEntry→List MapEntry×Nat
 | []=>([{key:=k,val:=v,born:=a}],a+1)
 |e::es=>if dI k e.key then({e with key:=k,val:=v}::es,a)else let r:=xP k v a es;(e::r.1,r.2)
def wY(k:Value):List MapEntry→List MapEntry
 | []=> []
 |e::es=>if dI k e.key then es else e::wY k es
def zy(c:CK)(h:ac)(r:Nat):Prop:=∃es clock,h[r]? =some (.map es clock)∧sY c es.toList
def Cw(h:ac)(r:Nat)(k v:Value):ac:=
 match h[r]? with
 |some (.map es clock)=>h.setIfInBounds r (.map (xP k v clock es.toList).1.toArray (xP k v clock es.toList).2)
 |_=>h
def zd(h:ac)(r:Nat)(k:Value):ac:=
 match h[r]? with
 |some (.map es clock)=>h.setIfInBounds r (.map (wY k es.toList).toArray clock)
 |_=>h
def rS(P:Program)(t:TypeId)(m k v:Value)(K:WK)(h:ac):Prop:=
 match wG P t,m with
 |some (c,_),.map m=>c.dec k fun _=>∃r,m=some r∧zy c h r∧K undef (Cw h r k v)
 |_,_=>False
def sq(P:Program)(t:TypeId)(m k:Value)(K:WK)(h:ac):Prop:=
 match wG P t,m with
 |some (c,_),.map m=>c.dec k fun _=>(m=none∧K (.tuple #[]) h)∨(∃r,m=some r∧zy c h r∧K (.tuple #[]) (zd h r k))
 |_,_=>False
def AS(P:Program):List TypeId→Option (List Kind)
 | []=>some []
 |t::ts=>match sX P t,AS P ts with
  |some k,some ks=>some (k::ks)
  |_,_=>none
def AU(P:Program)(t:TypeId):Option (List Kind):=
 match P.underlying t with
 |some (.tuple ts)=>AS P ts.toList
 |_=>AS P [t]
noncomputable def CO(P:Program)(f:Operand)(r:be)(args:List Value)(t:TypeId)(K:WK)(h:ac):Prop:=
 match AU P t with
 |none=>False
 |some ks=>match f with
  | .func f=>HC P f args ks (fun x a=>K (rD ks (gK ks x)) a) h
  |f=>match bI r f with
   |some fv=>HV P fv args ks (fun x a=>K (rD ks (gK ks x)) a) h
   |none=>False
def AC(b:Value)(K:WK)(h:ac):Prop:=
 match b with
 | .pointer (some a)=>a.off=0∧
  ∃m since seen last,h[a.block]? =some (.mapIter m since seen last)∧
   ((m=none∧K (.tuple #[.bool false]) h)∨
    (∃r es clock,m=some r∧h[r]? =some (.map es clock)∧(seen.isEmpty=true∨es.isEmpty=true∨es.all (fun e=>decide (e.born≥last))=false)∧
     ((∀e∈es.toList,e.born<since→seen.contains e.born=true)→K (.tuple #[.bool false]) h)∧
     (∀e∈es.toList,seen.contains e.born=false→K (.tuple #[.bool true,e.key,e.val]) (h.setIfInBounds a.block (.mapIter (some r) since (seen.push e.born) clock)))))
 |_=>False
noncomputable def tW(P:Program)(o:Oper)(r:be)(K:WK)(h:ac):Prop:=
 match o.op with
 | .alloc t=>(match jL P t with|some z=>K (.pointer (some (bN h))) (hnew h z t)|none=>False)
 | .box t x=>(match bI r x with|some v=>K (.pointer (some (bN h))) (hnew h v.cells.toList t)|none=>False)
 | .build t ps=>(match jB r ps.toList with
  |some vs=>(match vE P t vs with|some cs=>K (.agg cs.toArray) h|none=>False)
  |none=>False)
 | .buildSlice t n ps=>(match mN P t,jB r ps.toList with
  |some e,some vs=>(match jL P e with
   |some z=>bif Nat.ble (n*aO P e) 16777216&&aI z.length (aO P e)then
     (match rp (fun i=>some (i*aO P e,aO P e)) (cd n z) vs with|some cs=>K (.slice (some (bN h)) n n) (hnew h cs e)|none=>False)
    else False
   |none=>False)
  |_,_=>False)
 | .store t a x=>(match bI r a,bI r x with|some a,some v=>xm P t a v K h|_,_=>False)
 | .mapUpdate t m k x=>(match bI r m,bI r k,bI r x with|some m,some k,some v=>rS P t m k v K h|_,_,_=>False)
 | .insert t m k x=>(match bI r m,bI r k,bI r x with|some m,some k,some v=>rS P t m k v K h|_,_,_=>False)
 | .makeMap t n=>(match n with
  |none=>K (.map (some h.size)) (h.push (.map #[] 0))
  |some n=>(match bI r n,P.underlying t with|some (.int _ _),some (.map _ _)=>K (.map (some h.size)) (h.push (.map #[] 0))|_,_=>False))
 | .makeSlice t l c=>(match mN P t,bI r l,bI r c with
  |some e,some (.int _ l),some (.int _ c)=>(match jL P e with
   |some z=>bif aI z.length (aO P e)then(0≤l∧l≤c∧c≤9223372036854775807∧jQ P e*c≤2^48)∧K (.slice (some (bN h)) l.toNat c.toNat) (hnew h (cd c.toNat z) e)else False
   |none=>False)
  |_,_,_=>False)
 | .convert s d x=>(match P.underlying s,P.underlying d,bI r x with
  |some .string,some (.slice e),some (.string v)=>bif yd P e then ByP e v h (fun c b=>K (.slice (some (bN h)) v.size c) b)else False
  |_,_,_=>False)
 | .range t x=>(match P.underlying t,bI r x with
  |some (.map _ _),some (.map m)=>∃clock,(m=none∧clock=0∨∃r es,m=some r∧h[r]? =some (.map es clock))∧K (.pointer (some (bN h))) (h.push (.mapIter m clock #[] clock))
  |_,_=>False)
 | .next it false=>(match bI r it with|some it=>AC it K h|none=>False)
 | .call c=>(match c.callee,hG r c.args.toList with
  | .builtin .append,some [s,x]=>(match c.argTypes.toList with| [t,u]=>(match P.underlying u with|some (.slice _)=>rT P t s x K h|some .string=>rT P t s x K h|some (.int _)=>ss P t s x K h|_=>False)|_=>False)
  | .builtin .clear,some [x]=>(match c.argTypes.toList with| [t]=>xn P t x K h|_=>False)
  | .builtin .copy,some [d,s]=>(match c.argTypes.toList with| [t,_]=>AD P t d s K h|_=>False)
  | .builtin .delete,some [m,k]=>(match c.argTypes.toList with| [t,_]=>sq P t m k K h|_=>False)
  | .value f,some args=>CO P f r args o.type K h
  |_,_=>False)
 |_=>False
def mO(P:Program):Op→Bool
 | .convert s d _=> !Dr P s d
 | .alloc _| .box .. | .buildSlice .. | .store .. | .mapUpdate .. | .insert .. | .makeMap .. | .makeSlice .. | .range .. | .next .. =>false
 | .call c=>match c.callee with
  | .builtin .len| .builtin .cap| .builtin .min| .builtin .max=>true
  |_=>false
 |_=>true
def oW(N:Nat)(o:Oper)(v:Value)(r:be)(K:be→Prop):Prop:=
 match o.dst with
 |none=>K r
 |some d=>bif nQ d N then K ((d,v)::r)else False
noncomputable def DU(P:Program)(N:Nat)(ek:Option (Kind×Kind))(o:Oper)(r:be)(K:be→ac→Prop)(h:ac):Prop:=
 bif mO P o.op then qh P ek o.op r (fun v _=>oW N o v r fun a=>K a h) h
 else tW P o r (fun v b=>oW N o v r fun a=>K a b) h
inductive DV where
 |f|t|u|x
abbrev mh:=List (Nat×DV)
noncomputable def jZ(d:mh)(t:Nat):DV:=
 cO (motive:=fun _=>DV) .x (fun a _ b=>bif aI a.1 t then a.2 else b) d
noncomputable def pK(d:mh):Operand→DV
 | .tmp t=>jZ d t
 | .const (.bool true)=>.t
 | .const (.bool false)=>.f
 |_=>.x
noncomputable def vQ(d:mh):Op→DV
 | .move x=>pK d x
 | .assign x=>pK d x
 | .pick c a b=>match pK d c with
  | .t=>pK d a
  | .f=>pK d b
  |_=>.x
 | .unOp .not _ x=>match pK d x with
  | .t=>.f
  | .f=>.t
  |_=>.x
 |_=>.x
def j8(d:mh)(o:Oper)(v:DV):mh:=match o.dst with|some t=>(t,v)::d|none=>d
noncomputable def ez(ops:List Oper)(d:mh)(o:Oper):Option Bool:=
 match o.guard with
 |none=>some true
 |some (j,want)=>match ops[j]? with
  |none=>none
  |some oj=>match oj.dst with
   |none=>none
   |some t=>match jZ d t with
    | .t=>some want
    | .f=>some (!want)
    | .u=>some false
    | .x=>none
def td(ops:List Oper)(o:Oper):Option Nat:=
 match o.guard with
 |none=>none
 |some (j,_)=>match ops[j]? with
  |none=>none
  |some oj=>oj.dst
noncomputable def uv(P:Program)(N:Nat)(ek:Option (Kind×Kind))(ops:List Oper)(o:Oper)(d:mh)(r:be)(h:ac)(K:mh→be→ac→Prop):Prop:=
 match ez ops d o with
 |some true=>DU P N ek o r (K (j8 d o (vQ d o.op))) h
 |some false=>oW N o undef r fun a=>K (j8 d o .u) a h
 |none=>False
noncomputable def sJ(P:Program)(N:Nat)(ek:Option (Kind×Kind))(ops:List Oper)(l:List Oper):mh→(be→ac→Prop)→be→ac→Prop:=
 cO (motive:=fun _=>mh→(be→ac→Prop)→be→ac→Prop) (fun _ K r h=>K r h)
  (fun o _ e d K r h=>
  match ez ops d o with
  |some true=>DU P N ek o r (fun a c=>e (j8 d o (vQ d o.op)) K a c) h
  |some false=>oW N o undef r fun a=>e (j8 d o .u) K a h
  |none=>match td ops o with
   |none=>False
   |some t=>match fo r t with
    |some (.bool b)=>CondP b
     (uv P N ek ops o ((t,.t)::d) ((t,.bool true)::r) h fun f a c=>e f K a c)
     (uv P N ek ops o ((t,.f)::d) ((t,.bool false)::r) h fun f a c=>e f K a c)
    |_=>False) l
inductive DA where
 |done
 |take (i:Nat) (rest:DA)
 |all (l:DA)
 |pick (i:Nat) (rest more:DA)
 |last (i:Nat) (rest:DA)
 |lastT (i:Nat) (rest:DA)
 |split (t:Nat) (yes no:DA)
abbrev jR:=List (Nat×(ac→Prop))
def tb(m i:Nat):Bool:=aI (eR (Nat.shiftRight m i) 1) 1
def dC(i:Nat):Nat:=Nat.pow 2 i
inductive DM where
 |mk (am fr lk ds:Nat)
def DM.am:DM→Nat| .mk a _ _ _=>a
def DM.fr:DM→Nat| .mk _ f _ _=>f
def DM.lk:DM→Nat| .mk _ _ l _=>l
def DM.ds:DM→Nat| .mk _ _ _ d=>d
def eA(o:Oper)(i:Nat):Bool:=o.after.toList.any fun e=>aI e.on i&&Region.binds .any e
noncomputable def gy(l:List Edge):Nat:=
 cO (motive:=fun _=>Nat) 0 (fun e _ a=>bif Region.binds .any e then bo (dC e.on) a else a) l
noncomputable def gb(l:List Operand):Nat:=
 cO (motive:=fun _=>Nat) 0 (fun o _ a=>match o with| .tmp t=>bo (dC t) a|_=>a) l
def g6(o:Oper):Nat:=match o.dst with|some d=>dC d|none=>0
noncomputable def ik(ops:List Oper)(o:Oper):Nat:=
 bo (gb o.op.operands.toList) (match o.guard with
  |some (g,_)=>(match ops[g]? with|some og=>g6 og|none=>0)
  |none=>0)
noncomputable def nf(ops:List Oper)(l:List Oper):List DM→Bool:=
 cO (motive:=fun _=>List DM→Bool) (fun ms=>match ms with| []=>true|_=>false)
  (fun o _ a ms=>match ms with
   |m::ms=>aI (gy o.after.toList) m.am&&aI (ik ops o) m.lk&&aI (g6 o) m.ds&&a ms
   | []=>false) l
def qK(x y:DM):Bool:=aI (eR x.ds (bo y.lk y.ds)) 0&&aI (eR y.ds x.lk) 0
noncomputable def uJ(i:Nat)(m:DM)(l:List DM):Nat→Bool:=
 cO (motive:=fun _=>Nat→Bool) (fun _=>true)
  (fun n _ a j=>(!(tb m.fr j)||aI j i||tb n.am i||qK m n)&&a (cV j)) l
noncomputable def pE(a:List DM)(l:List DM):Nat→Bool:=
 cO (motive:=fun _=>Nat→Bool) (fun _=>true) (fun m _ b i=>uJ i m a 0&&b (cV i)) l
def wD:List Oper→Bool
 | []=>true
 |o::os=>(match o.op with| .select .. =>false| .defer _=>false|_=>true)&&wD os
noncomputable def rX(ops:List Oper)(ms:List DM):Bool:=nf ops ops ms&&pE ms ms 0&&wD ops
def iy(o:Oper):jR→jR
 | []=> []
 |(k,S)::l=>bif eA o k then iy o l else(k,S)::iy o l
def ko:jR→ac→Prop→Prop
 | [],_,R=>R
 |(_,S)::l,h,R=>S h∧ko l h R
def vP(m:DM)(ls:Nat):Bool:=aI (eR m.am ls) m.am
noncomputable def gf(ls:Nat)(l:List DM):Nat→List Nat:=
 cO (motive:=fun _=>Nat→List Nat) (fun _=> []) (fun m _ a j=>bif !(tb ls j)&&vP m ls then j::a (cV j)else a (cV j)) l
def sC(m:DM)(i ls n:Nat):Bool:= !(tb ls i)&&vP m ls&&aI (eR (bo ls m.fr) (nH (dC n))) (nH (dC n))
def mz:List Nat→List Nat→Bool
 | [],[]=>true
 |a::as,b::bs=>aI a b&&mz as bs
 |_,_=>false
def qA:DA→List Nat
 | .pick i _ l=>i::qA l
 | .last i _=> [i]
 | .lastT i _=> [i]
 |_=> []
noncomputable def zI(P:Program)(N:Nat)(ops:List Oper)(i:Nat)(L:jR)(d:mh)(r:be)(h:ac)(K:jR→mh→be→ac→Prop):Prop:=
 match ops[i]? with
 |none=>False
 |some o=>match ez ops d o with
  |some true=>bif mO P o.op then qh P none o.op r (fun v _=>oW N o v r fun a=>ko (iy o L) h (K (iy o L) (j8 d o .x) a h)) h else tW P o r (fun v b=>oW N o v r fun a=>ko (iy o L) b (K (iy o L) (j8 d o .x) a b)) h
  |_=>False
noncomputable def upM(m:Nat)(l:List DM):Nat→Nat:=
 cO (motive:=fun _=>Nat→Nat) (fun _=>m) (fun n _ a j=>bif tb m j then bo n.am (a (cV j))else a (cV j)) l
noncomputable def pL(ms:List DM)(m:Nat):Nat:=upM (upM (upM (upM m ms 0) ms 0) ms 0) ms 0
def vJ(ms:List DM)(i:Nat):Nat:=match ms[i]? with|some m=>m.am|none=>0
def pt(m:Nat):jR→jR
 | []=> []
 |(k,S)::l=>bif tb m k then pt m l else(k,S)::pt m l
noncomputable def yZ(P:Program)(N:Nat)(ops:List Oper)(ms:List DM)(i:Nat)(L:jR)(d:mh)(r:be)(h:ac)(K:jR→mh→be→ac→Prop):Prop:=
 match ops[i]? with
 |none=>False
 |some o=>match ez ops d o with
  |some true=>bif mO P o.op then False else tW P o r (fun v a=>oW N o v r fun b=>ko (pt (pL ms (vJ ms i)) L) a (K (pt (pL ms (vJ ms i)) L) (j8 d o .x) b a)) h
  |_=>False
noncomputable def gR(P:Program)(N:Nat)(ops:List Oper)(ms:List DM)(n:DA):Bool→Nat→jR→mh→(be→ac→Prop)→be→ac→Prop:=
 DA.rec (motive:=fun _=>Bool→Nat→jR→mh→(be→ac→Prop)→be→ac→Prop)
  (fun m ls _ _ K r h=>bif !m&&mz (gf ls ms 0) []then K r h else False)
  (fun i _ c m ls L d K r h=>
   match ops[i]?,ms[i]? with
   |some o,some mi=>bif !m&&sC mi i ls ops.length then
     (match ez ops d o with
      |none=>False
      |some false=>oW N o undef r fun a=>c false (bo ls (dC i)) L (j8 d o .u) K a h
      |some true=>bif mO P o.op then
       qh P none o.op r (fun v S=>oW N o v r fun a=>match S with
        |none=>c false (bo ls (dC i)) L (j8 d o (vQ d o.op)) K a h
        |some S=>c false (bo ls (dC i)) ((i,S)::L) (j8 d o (vQ d o.op)) K a h) h
       else False)
    else False
   |_,_=>False)
  (fun l c m ls L d K r h=>bif !m&&mz (gf ls ms 0) (qA l)then c true ls L d K r h else False)
  (fun i _ _ f e m ls L d K r h=>bif m then zI P N ops i L d r h (fun g j a k=>f false (bo ls (dC i)) g j K a k)∧e true ls L d K r h else False)
  (fun i _ c m ls L d K r h=>bif m then zI P N ops i L d r h (fun g j a k=>c false (bo ls (dC i)) g j K a k)else False)
  (fun i _ c m ls L d K r h=>bif m then yZ P N ops ms i L d r h (fun g j a k=>c false (bo ls (dC i)) g j K a k)else False)
  (fun t _ _ f e m ls L d K r h=>
   bif m then False else match fo r t with
   |some (.bool b)=>CondP b (f false ls L ((t,.t)::d) K ((t,.bool true)::r) h) (e false ls L ((t,.f)::d) K ((t,.bool false)::r) h)
   |_=>False)
  n
noncomputable def EV(b:Oper)(i:Nat)(ds lk:Nat)(ops:List Oper)(l:List Oper):Nat→Nat:=
 cO (motive:=fun _=>Nat→Nat) (fun _=>0) (fun p _ a j=>bif (aI j i||eA p i||(aI (eR ds (bo (ik ops p) (g6 p))) 0&&aI (eR (g6 p) lk) 0))then bo (dC j) (a (cV j))else a (cV j)) l
noncomputable def EL(ops:List Oper)(l:List Oper):Nat→List DM:=
 cO (motive:=fun _=>Nat→List DM) (fun _=> []) (fun o _ a i=>.mk (gy o.after.toList) (EV o i (g6 o) (ik ops o) ops ops 0) (ik ops o) (g6 o)::a (cV i)) l
def D2(P:Program)(w:Option Bool)(o:Oper):Bool:=match w with|some false=>true|some true=>mO P o.op|none=>false
noncomputable def Dx(P:Program)(ops:List Oper)(d:mh)(ls n:Nat)(l:List Oper):List DM→Nat→Option (Nat×Oper):=
 cO (motive:=fun _=>List DM→Nat→Option (Nat×Oper)) (fun _ _=>none)
  (fun o _ a ms j=>match ms with
   | []=>none
   |m::ms=>bif sC m j ls n&&D2 P (ez ops d o) o then some (j,o)else a ms (cV j)) l
noncomputable def Dy(ops:List Oper)(d:mh)(ls:Nat)(l:List Oper):List DM→Nat→Option Nat:=
 cO (motive:=fun _=>List DM→Nat→Option Nat) (fun _ _=>none)
  (fun o _ a ms j=>match ms with
   | []=>none
   |m::ms=>match bif !(tb ls j)&&vP m ls then(match ez ops d o with|none=>td ops o|some _=>none)else none with
    |some t=>some t
    |none=>a ms (cV j)) l
noncomputable def Ee(ops:List Oper)(k:Nat→mh→DA)(ls:Nat)(d:mh)(l:List Nat):DA:=
 cO (motive:=fun _=>DA) .done (fun i a b=>match ops[i]? with
  |none=>.done
  |some o=>match a with
   | []=>.last i (k (bo ls (dC i)) (j8 d o .x))
   |_=>.pick i (k (bo ls (dC i)) (j8 d o .x)) b) l
noncomputable def DP(P:Program)(ops:List Oper)(ms:List DM)(fuel:Nat):Nat→mh→DA:=
 Nat.rec (motive:=fun _=>Nat→mh→DA) (fun _ _=>.done) (fun _ a ls d=>
  match Dx P ops d ls ops.length ops ms 0 with
  |some (i,o)=>.take i (a (bo ls (dC i)) (match ez ops d o with|some false=>j8 d o .u|_=>j8 d o (vQ d o.op)))
  |none=>match Dy ops d ls ops ms 0 with
   |some t=>.split t (a ls ((t,.t)::d)) (a ls ((t,.f)::d))
   |none=>match gf ls ms 0 with
    | []=>.done
    |l=>.all (Ee ops a ls d l)) fuel
noncomputable def y9(ops:List Oper):List DM:=EL ops ops 0
inductive Ex where
 |exit (id:Nat)
 |ret
abbrev St:=List (Nat×Kind)
def oD:St→List Kind
 | []=> []
 |(_,k)::l=>k::oD l
noncomputable def sH(r:be):St→Option (List Value)
 | []=>some []
 |(i,_)::l=>match fo r i,sH r l with
  |some v,some vs=>some (v::vs)
  |_,_=>none
noncomputable def rd(a:St)(r:be)(f:mo (oD a)→Prop):Prop:=
 match sH r a with
 |some vs=>rL (oD a) vs f
 |none=>False
def gZ:St→List Value→be→be
 |(i,_)::l,v::vs,r=>(i,v)::gZ l vs r
 |_,_,r=>r
noncomputable def zj(r:be)(l:List Nat):Option be:=
 cO (motive:=fun _=>Option be) (some []) (fun t _ a=>match fo r t,a with
  |some v,some l=>some ((t,v)::l)
  |_,_=>none) l
noncomputable def ga(t:Nat)(l:List Oper):Bool:=
 cO (motive:=fun _=>Bool) false (fun o _ a=>match o.dst with|some d=>bif aI d t then true else a|none=>a) l
noncomputable def dq(t:Nat)(c:Code):Bool:=
 Code.rec (motive:=fun _=>Bool) false (fun _ ops _=>ga t ops.toList) (fun _ _ a b=>bif a then true else b) (fun _ _ _ a b=>bif a then true else b)
  (fun _ _ b=>b) (fun _ b=>b) (fun _ _ _ _ _ _=>true) (fun _=>false) (fun _ b=>b) (fun _=>false) (fun _=>false) false (fun _=>false) c
inductive Ann where
 |nil
 |node (a b:Ann)
 |join (st:St) (a b:Ann)
 |loop (st:St) (b:Ann)
 |draw (d:DA)
 |kinds (k v:Kind)
 |reg (keep:List Nat) (inner:Ann)
 |rf (ks:List Kind) (a b:Ann)
def Ann.l:Ann→Ann
 | .node a _=>a
 | .rf _ a _=>a
 |_=>.nil
def Ann.r:Ann→Ann
 | .node _ b=>b
 | .rf _ _ b=>b
 |_=>.nil
noncomputable def AB(l:List Oper):Nat:=cO (motive:=fun _=>Nat) 0 (fun o _ a=>bo (g6 o) a) l
def Ef:Option Nat→Option Nat→Option Nat
 |some a,some b=>some (bo a b)
 |_,_=>none
noncomputable def nZ(c:Code):Option Nat:=
 Code.rec (motive:=fun _=>Option Nat) (some 0) (fun _ ops _=>some (AB ops.toList)) (fun _ _ a b=>Ef a b) (fun _ _ _ a b=>Ef a b)
  (fun _ _ b=>b) (fun _ b=>b) (fun _ _ _ _ _ _=>none) (fun _=>some 0) (fun _ b=>b) (fun _=>some 0) (fun _=>some 0) (some 0) (fun _=>some 0) c
noncomputable def ni(m:Nat)(r:be):be:=cO (motive:=fun _=>be) [] (fun a _ b=>bif tb m a.1 then b else a::b) r
noncomputable def qo(P:Program)(N:Nat)(ops:List Oper)(b:Bool)(a:Ann)(Kn:be→ac→Prop)(r:be)(h:ac):Prop:=
 match b with
 |false=>(match a with
  | .kinds kk vk=>sJ P N (some (kk,vk)) ops ops [] Kn r h
  |_=>sJ P N none ops ops [] Kn r h)
 |true=>bif rX ops (y9 ops)then gR P N ops (y9 ops) (match a with| .draw da=>da|_=>DP P ops (y9 ops) (Nat.add (Nat.add ops.length ops.length) 2) 0 []) false 0 [] [] Kn r h else False
noncomputable def fF(P:Program)(N:Nat)(c:Code):Ann→(be→ac→Prop)→(Ex→be→ac→Prop)→be→ac→Prop:=
 Code.rec (motive:=fun _=>Ann→(be→ac→Prop)→(Ex→be→ac→Prop)→be→ac→Prop)
  (fun _ Kn _ r h=>Kn r h)
  (fun _ ops q d Kn _ r h=>match d with
   | .reg keep d=>qo P N ops.toList q d (fun g f=>match zj g keep with|some r0=>Kn r0 f|none=>False) r h
   |d=>qo P N ops.toList q d Kn r h)
  (fun a _ k j d Kn Kx r h=>match d with
   | .join st aa ab=>(match nZ a with
     |none=>False
     |some m=>Join (T:=mo (oD st)) (fun t f=>j ab Kn Kx (gZ st (gK (oD st) t) (ni m r)) f)
      fun J=>k aa (fun g f=>rd st g fun t=>J t f) Kx r h)
   |d=>k d.l (fun g f=>j d.r Kn Kx g f) Kx r h)
  (fun c _ _ k j d Kn Kx r h=>match bI r c with
   |some (.bool t)=>CondP t (k d.l Kn Kx r h) (j d.r Kn Kx r h)
   |_=>False)
  (fun id _ p d Kn Kx r h=>p d Kn (fun e g f=>match e with
    | .exit i=>bif aI i id then Kn g f else Kx (.exit i) g f
    | .ret=>Kx .ret g f) r h)
  (fun b p d _ Kx r h=>match d with
   | .loop st ab=>(match nZ b with
     |none=>False
     |some m=>rd st r fun s=>LoopP (T:=mo (oD st)) (fun n t f=>p ab (fun g o=>rd st g fun u=>n u o) Kx (gZ st (gK (oD st) t) (ni m r)) f) s h)
   |_=>False)
  (fun _ _ _ _ _ _ _ _ _ _ _=>False)
  (fun id _ _ Kx r h=>Kx (.exit id) r h)
  (fun _ _ _ _ _ _ _=>False)
  (fun _ _ Kn _ r h=>Kn r h)
  (fun _ _ _ _ _ _=>False)
  (fun _ _ Kx r h=>Kx .ret r h)
  (fun _ _ _ _ _ _=>False)
  c
noncomputable def g3(P:Program)(r:be)(h:ac):List ResultVar→(List Value→Prop)→Prop
 | [],K=>K []
 | .tmp t::l,K=>(match fo r t with|some v=>g3 P r h l fun vs=>K (v::vs)|none=>False)
 | .cell a t::l,K=>(match fo r a with
  |some v=>wn P t v (fun x _=>g3 P r h l fun vs=>K (x::vs)) h
  |none=>False)
def jy:Nat→List Value→be
 |_,[]=> []
 |i,v::vs=>(i,v)::jy (i+1) vs
noncomputable def wa(P:Program)(fn:Func)(c:Code)(b:Ann)(args:List Value)(ks:List Kind)(K:mo ks→ac→Prop)(h:ac):Prop:=
 fF P fn.ntmps c b
  (fun r a=>g3 P r a fn.results.toList fun vs=>rL ks vs fun t=>K t a)
  (fun e r a=>match e with
   | .ret=>g3 P r a fn.results.toList fun vs=>rL ks vs fun t=>K t a
   | .exit _=>False)
  (jy 0 args) h
def tw:List Oper→Option (Oper×Oper×Operand×Nat×FuncId×List Operand)
 | [m,o]=>match m.op,m.guard,m.dst,o.op,o.dst,o.guard with
  | .move x,none,some d,.defer c,none,none=>(match c.callee with
   | .value (.func f)=>some (m,o,x,d,f,c.args.toList)
   |_=>none)
  |_,_,_,_,_,_=>none
 |_=>none
inductive Mk where
 |it (n:Nat)
 |call (f:FuncId) (vs:List Value)
def HD(P:Program)(f:FuncId)(args:List Value)(K:ac→Prop)(h:ac):Prop:=
 ∀w:World,w.heap=h→(∀(args:Array Value) (w:World),(callFunc f args).run P w=.ok (.enter f args) w)∧∀n:Nat,CallsDIn {fn:=fun _=>True,depth:=none,alive:=false,round:=none} n P f args.toArray .returning w fun e u w'=>u=.returning∧Tame w w'∧(∃v,e=.returned v)∧K w'.heap
noncomputable def kq(c:Code):Bool:=
 Code.rec (motive:=fun _=>Bool) false (fun _ ops _=>(tw ops.toList).isSome) (fun _ _ a b=>bif a then true else b) (fun _ _ _ a b=>bif a then true else b)
  (fun _ _ b=>b) (fun _ b=>b) (fun _ _ _ _ _ _=>true) (fun _=>false) (fun _ b=>b) (fun _=>false) (fun _=>false) false (fun _=>false) c
def vz:Option Ex→Option Code
 |none=>none
 |some (.exit i)=>some (.exit i)
 |some .ret=>some .ret
def EW(N:ac→Prop)(X:Nat→ac→Prop)(R:ac→Prop):Option Ex→ac→Prop
 |none=>N
 |some (.exit i)=>X i
 |some .ret=>R
structure RangeP(P:Program)(fv:Value)(ks:List Kind)(h:ac)(RT:Obj→Obj→mo ks→(Option Ex→ac→Prop)→ac→Prop)(N:ac→Prop)(X:Nat→ac→Prop)(R:ac→Prop):Prop where
 run:∀lo:LoopState→Option Ex→Obj,(∀s j,∃r,lo s j=.loop r)→
  (∀x h' K,h'[h.size+1]? =some (lo .ready none)→
   RT (lo .ready none) (lo .busy none) x (fun j h2=>h2[h.size+1]? =some (lo .busy none)∧K j.isNone (h2.setIfInBounds (h.size+1) (lo (if j.isNone then .ready else .done) j))) h'→
   HV P (.func (.yield (h.size+1)) #[] #[]) (gK ks x) [.c .bool] K h')→
  ∃f first cap,fv=.func (.func f) first cap∧HE P f (first.toList++ [.func (.yield (h.size+1)) #[] #[]]++cap.toList) []
   (fun _ h2=>∃s j,s≠ .busy∧h2[h.size+1]? =some (lo s j)∧EW N X R j (h2.setIfInBounds (h.size+1) (lo .exhausted j))) ((h.push (.deferred (some []))).push (lo .ready none))
def Ca:List Nat→List Value→be→be
 |i::l,v::vs,r=>Ca l vs ((i,v)::r)
 |_,_,r=>r
noncomputable def xz(P:Program)(N:Nat)(ps:List Nat)(ks:List Kind)(assign body:Code)(b:Ann)(r:be)(l:Nat)(vP d:Obj)(x:mo ks)(k:Option Ex→ac→Prop)(h:ac):Prop:=
 fF P N assign b.l (fun f c=>c[l]? =some vP∧fF P N body b.r (fun _ a=>k none a) (fun e _ a=>k (some e) a) f (c.setIfInBounds l d)) (fun _ _ _=>False) (Ca ps (gK ks x) r) h
def oL(N:Nat):List Nat→Bool
 | []=>true
 |n::l=>nQ n N&&oL N l
noncomputable def oG(P:Program)(N:Nat)(c:Code):Ann→(List Mk→be→ac→Prop)→(Ex→List Mk→be→ac→Prop)→List Mk→be→ac→Prop:=
 Code.rec (motive:=fun _=>Ann→(List Mk→be→ac→Prop)→(Ex→List Mk→be→ac→Prop)→List Mk→be→ac→Prop)
  (fun j Kn Kx ms r h=>fF P N .skip j (Kn ms) (fun e=>Kx e ms) r h)
  (fun id ops q j Kn Kx ms r h=>match tw ops.toList with
   |none=>fF P N (.region id ops q) j (Kn ms) (fun e=>Kx e ms) r h
   |some (_,_,x,d,f,as)=>bif q then False else match bI r x with
    |some v=>bif nQ d N then(match hG ((d,v)::r) as with|some vs=>Kn (.call f vs::ms) ((d,v)::r) h|none=>False)else False
    |none=>False)
  (fun a b o n j Kn Kx ms r h=>bif (bif kq a then true else kq b)then o j.l (fun ms p m=>n j.r Kn Kx ms p m) Kx ms r h
   else fF P N (.seq a b) j (Kn ms) (fun e=>Kx e ms) r h)
  (fun c a b o n j Kn Kx ms r h=>bif (bif kq a then true else kq b)then
    (match bI r c with
     |some (.bool t)=>CondP t (o j.l Kn Kx ms r h) (n j.r Kn Kx ms r h)
     |_=>False)
   else fF P N (.cond c a b) j (Kn ms) (fun e=>Kx e ms) r h)
  (fun id b u j Kn Kx ms r h=>bif kq b then u j Kn (fun e ms p m=>match e with
    | .exit i=>bif aI i id then Kn ms p m else Kx (.exit i) ms p m
    | .ret=>Kx .ret ms p m) ms r h
   else fF P N (.block id b) j (Kn ms) (fun e=>Kx e ms) r h)
  (fun b _ j Kn Kx ms r h=>fF P N (.loop b) j (Kn ms) (fun e=>Kx e ms) r h)
  (fun g ps assign body _ _ j Kn Kx ms r h=>match j with
   | .rf ks aa ab=>bif oL N ps.toList&&aI ps.toList.length ks.length then
    (match bI r g with
     |some fv=>RangeP P fv ks h (fun vP s x k m=>xz P N ps.toList ks assign body (.node aa ab) r (h.size+1) vP s x k m)
      (fun m=>Kn (.it h.size::ms) r m) (fun i m=>Kx (.exit i) (.it h.size::ms) r m) (fun m=>Kx .ret (.it h.size::ms) r m)
     |none=>False)else False
   |_=>False)
  (fun id j Kn Kx ms r h=>fF P N (.exit id) j (Kn ms) (fun e=>Kx e ms) r h)
  (fun _ _ _ _ _ _ _ _=>False)
  (fun l j Kn Kx ms r h=>fF P N (.label l) j (Kn ms) (fun e=>Kx e ms) r h)
  (fun _ _ _ _ _ _ _=>False)
  (fun j Kn Kx ms r h=>fF P N .ret j (Kn ms) (fun e=>Kx e ms) r h)
  (fun _ _ _ _ _ _ _=>False)
  c
def vY(P:Program):List Mk→(ac→Prop)→ac→Prop
 | [],K,h=>K h
 | .it D::ms,K,h=>h[D]? =some (.deferred (some []))∧vY P ms K (h.setIfInBounds D (.deferred none))
 | .call f vs::ms,K,h=>HD P f vs (fun a=>vY P ms K a) h
noncomputable def xA(P:Program)(fn:Func)(c:Code)(b:Ann)(args:List Value)(ks:List Kind)(K:mo ks→ac→Prop)(h:ac):Prop:=
 oG P fn.ntmps c b
  (fun ms r a=>vY P ms (fun a=>g3 P r a fn.results.toList fun vs=>rL ks vs fun t=>K t a) a)
  (fun e ms r a=>match e with
   | .ret=>vY P ms (fun a=>g3 P r a fn.results.toList fun vs=>rL ks vs fun t=>K t a) a
   | .exit _=>False)
  [] (jy 0 args) h
end Go.Lift
namespace Go.Lift
open Go
theorem tI(a:Addr):adr a 0=a:=rfl
theorem pS(a:Addr)(n:Nat):adr a (n+1)=⟨a.block,a.off+(n+1),none⟩:=rfl
theorem lP(a:Addr)(n:Nat):adr a n=a.add n:=by
 cases n with
 |zero=>simp[tI,Addr.add]
 |succ n=>simp[pS,Addr.add]
theorem r8(a:Addr)(m n:Nat):adr (adr a m) n=adr a (m+n):=by
 cases n with
 |zero=>rfl
 |succ n=>cases m with
  |zero=>simp[tI]
  |succ m=>rw[pS,pS,show m+1+(n+1)=(m+1+n)+1 from rfl,pS];simp;omega
theorem Tame.refl(w:World):Tame w w:=⟨rfl,rfl,rfl⟩
theorem Tame.trans{a b c:World}(h:Tame a b)(k:Tame b c):Tame a c:=⟨k.os.trans h.os,k.tape.trans h.tape,k.output.trans h.output⟩
theorem pC{a b:IntKind}(h:vu a b=true):a=b:=by cases a<;>cases b<;>first|rfl|cases h
theorem CK.dec_sound{c:CK}{v:Value}{f:c.den→Prop}(h:c.dec v f):∃x,v=c.enc x∧f x:=by
 cases c<;>cases v<;>try simp only[CK.dec]at h
 case int.int k k' n=>
  cases hk:vu k' k with
  |false=>rw[hk]at h;exact h.elim
  |true=>rw[hk]at h;have:=pC hk;subst this;exact⟨n,rfl,h⟩
 case adr.pointer p=>cases p with
  |none=>exact h.elim
  |some a=>exact⟨a,rfl,h⟩
 all_goals first|exact h.elim|exact⟨_,rfl,h⟩
theorem rq:∀{cs:List CK} {vs:List Value} {f:B4 cs→Prop},zv cs vs f→∃t,vs=BN cs t∧f t
 | [],[],f,h=>⟨(),rfl,h⟩
 | [],_::_,f,h=>h.elim
 | [c],[v],f,h=>by obtain⟨x,rfl,e⟩:=CK.dec_sound h;exact⟨x,rfl,e⟩
 | [c],[],f,h=>h.elim
 | [c],_::_::_,f,h=>h.elim
 |c::d::cs,[],f,h=>h.elim
 |c::d::cs,[_],f,h=>h.elim
 |c::d::cs,v::u::vs,f,h=>by
  have g:c.dec v fun x=>zv (d::cs) (u::vs) fun t=>f (x,t):=h
  obtain⟨x,hx,i⟩:=CK.dec_sound g;obtain⟨t,a,b⟩:=rq (cs:=d::cs) (vs:=u::vs) i;exact⟨(x,t),by rw[a,hx];rfl,b⟩
theorem Kind.dec_sound{k:Kind}{v:Value}{f:k.den→Prop}(h:k.dec v f):∃x,v=k.enc x∧f x:=by
 cases k with
 |c k=>exact CK.dec_sound h
 |agg cs=>
  cases v<;>simp only[Kind.dec]at h
  case agg vs=>
   obtain⟨t,b,a⟩:=rq h;exact⟨t,by simp only[Kind.enc,←b],a⟩
theorem kA:∀{ks:List Kind} {vs:List Value} {f:mo ks→Prop},rL ks vs f→∃t,vs=gK ks t∧f t
 | [],[],f,h=>⟨(),rfl,h⟩
 | [],_::_,f,h=>h.elim
 | [c],[v],f,h=>by obtain⟨x,rfl,e⟩:=Kind.dec_sound h;exact⟨x,rfl,e⟩
 | [c],[],f,h=>h.elim
 | [c],_::_::_,f,h=>h.elim
 |c::d::cs,[],f,h=>h.elim
 |c::d::cs,[_],f,h=>h.elim
 |c::d::cs,v::u::vs,f,h=>by
  have g:c.dec v fun x=>rL (d::cs) (u::vs) fun t=>f (x,t):=h
  obtain⟨x,hx,i⟩:=Kind.dec_sound g;obtain⟨t,a,b⟩:=kA (ks:=d::cs) (vs:=u::vs) i;exact⟨(x,t),by rw[a,hx];rfl,b⟩
theorem li:∀(ks:List Kind) (t:mo ks),(gK ks t).length=ks.length
 | [],_=>rfl
 | [_],_=>rfl
 |_::l::ks,(_,t)=>by simp only[gK,aQ,li (l::ks) t]
structure Agree(N:Nat)(r:be)(a:Act):Prop where
 size:a.tmps.size=N
 look:∀t v,fo r t=some v→a.tmps.getD t undef=v
theorem dY(k:Nat)(v:Value)(r:be):fo ((k,v)::r) k=some v:=by rw[sM,show aI k k=true from Nat.beq_refl k];rfl
theorem dD{k t:Nat}(v:Value)(r:be)(h:k≠t):fo ((k,v)::r) t=fo r t:=by
 rw[sM];have:aI k t=false:=Bool.eq_false_iff.2 fun e=>h (au e)
 rw[this];rfl
theorem Agree.put{N:Nat}{r:be}{a:Act}(h:Agree N r a)(d:Nat)(v:Value)(hd:d<N):Agree N ((d,v)::r) (a.put (some d) v):=by
 refine⟨by simp[Act.put,h.size],fun t u b=>?_⟩
 by_cases e:d=t
 ·subst e
  rw[dY]at b;cases b;simp[Act.put,h.size,hd]
 ·rw[dD v r e]at b
  have:=h.look t u b;simpa[Act.put,Array.getElem?_setIfInBounds_ne e]using this
theorem Agree.known{N:Nat}{r:be}{a:Act}(h:Agree N r a){t:Nat}{v:Value}(hv:fo r t=some v):Agree N ((t,v)::r) a:=by
 refine⟨h.size,fun s u b=>?_⟩
 by_cases e:t=s
 ·subst e;rw[dY]at b;cases b;exact h.look t v hv
 ·rw[dD v r e]at b;exact h.look s u b
theorem fp{N:Nat}{r:be}{a:Act}(h:Agree N r a){o:Operand}{v:Value}(hv:bI r o=some v):a.eval o=v:=by
 cases o with
 |tmp t=>exact h.look t v hv
 |const c=>simp[bI]at hv;subst hv;rfl
 |global g=>simp[bI]at hv;subst hv;rfl
 |func f=>simp[bI]at hv;subst hv;rfl
theorem gq{N:Nat}{r:be}{a:Act}(h:Agree N r a):∀{os:List Operand} {vs:List Value},hG r os=some vs→os.map a.eval=vs
 | [],vs,hv=>by simp[hG]at hv;subst hv;rfl
 |o::os,vs,hv=>by
  simp only[hG]at hv;cases ho:bI r o with
  |none=>simp[ho]at hv
  |some v=>cases hos:hG r os with
   |none=>simp[ho,hos]at hv
   |some us=>simp[ho,hos]at hv;subst hv;simp[fp h ho,gq h hos]
theorem af{P:Program}{t:TypeId}{d:TypeDesc}(h:P.underlying t=some d)(w:World):(underlying t).run P w=.ok d w:=by
 simp only[underlying,program,bind,Sem.bind,Sem.run,h,pure]
theorem bj{P:Program}{t:TypeId}{i:TypeInfo}(h:P.info? t=some i)(w:World):(typeInfo t).run P w=.ok i w:=by
 simp only[typeInfo,program,bind,Sem.bind,Sem.run,h,pure]
theorem eF{P:Program}{s:Sem Value}{v:Value}{w w':World}(h:s.run P w=.ok v w'):(do pure (Next.value (←s)):Sem Next).run P w=.ok (.value v) w':=by
 simp[h]
theorem AR{P:Program}{s:Sem Unit}{w w':World}(h:s.run P w=.ok () w'):(do s;pure Next.skip:Sem Next).run P w=.ok .skip w':=by
 simp[h]
theorem pr{P:Program}{w:World}{a:Addr}{v:Value}(h:aP w.heap a=some v):(load a).run P w=.ok v w:=by
 have b:w.cell? a=some v:=h;simp[b]
theorem pN{v:Value}{vs:List Value}{i:Nat}{a:Addr}{h:ac}:ll (v::vs) i a h↔aP h (adr a i)=some v∧ll vs (i+1) a h:=by
 cases vs with
 |nil=>simp[ll]
 |cons u us=>rfl
theorem kW{P:Program}{w:World}{a:Addr}:∀(vs:List Value) (i:Nat) (acc:Array Value),ll vs i a w.heap→
  (loadCellsFrom a i vs.length acc).run P w=.ok (acc++vs.toArray) w
 | [],i,acc,_=>by simp[loadCellsFrom]
 |v::vs,i,acc,h=>by
  obtain⟨b,c⟩:=pN.1 h;rw[lP]at b;have:=kW (P:=P) (w:=w) (a:=a) vs (i+1) (acc.push v) c;simp only[aQ,loadCellsFrom,Sem.run_bind,pr b,Result.andThen_ok,this];simp
theorem tY{P:Program}{w:World}{a:Addr}{vs:List Value}(h:ll vs 0 a w.heap):(loadCells a vs.length).run P w=.ok vs.toArray w:=by
 have:=kW (P:=P) (w:=w) (a:=a) vs 0 #[] h;simpa[loadCells]using this
theorem om:∀(cs:List CK) (i:Nat) (a:Addr) (h:ac) (k:List Value→Prop),vA cs i a h k→∃vs,vs.length=cs.length∧ll vs i a h∧k vs
 | [],i,a,h,k,b=>⟨[],rfl,trivial,b⟩
 |c::cs,i,a,h,k,b=>by
  obtain⟨x,hx,b⟩:=b;obtain⟨vs,d,hc,b⟩:=om cs (i+1) a h _ b;exact⟨c.enc x::vs,by simp[d],pN.2 ⟨hx,hc⟩,b⟩
theorem pM:∀{vs:List Value} {cs:List CK},tx vs=some cs→cs.length=vs.length
 | [],cs,h=>by simp[tx]at h;subst h;rfl
 |v::vs,cs,h=>by
  simp only[tx]at h;cases h1:DL v with
  |none=>simp[h1]at h
  |some c=>cases h2:tx vs with
   |none=>simp[h1,h2]at h
   |some ds=>simp[h1,h2]at h;subst h;simp[pM h2]
def B2(P:Program)(t:TypeId)(i:TypeInfo):Kind→Prop
 | .c _=>mI P t=false
 | .agg cs=>mI P t=true∧i.size=cs.length
theorem x9{P:Program}{t:TypeId}{k:Kind}(h:zh P t=some k):∃i,P.info? t=some i∧B2 P t i k:=by
 unfold zh nY at h;cases hi:P.info? t with
 |none=>simp[hi]at h
 |some i=>
  refine⟨i,rfl,?_⟩;cases hz:i.zero with
  |none=>simp[hi,hz]at h
  |some z=>
   rw[hi]at h;simp only[hz]at h;cases z;case agg vs=>
    simp only at h;cases hb:(mI P t&&aI vs.toList.length (aO P t))with
    |false=>rw[hb]at h;simp at h
    |true=>
     rw[hb]at h;simp only[cond_true]at h;simp only[Bool.and_eq_true]at hb;have a:=au hb.2;cases hd:tx vs.toList with
     |none=>rw[hd]at h;simp at h
     |some ds=>
      rw[hd]at h;simp only[aN.injEq]at h;subst h;exact⟨hb.1,by rw[pM hd,a];simp[aO,hi]⟩
   all_goals
    simp only at h;cases ha:mI P t
    ·rw[ha]at h
     simp only[cond_false]at h;split at h
     ·simp only[aN.injEq]at h;subst h;exact ha
     ·simp at h
    ·rw[ha]at h;simp at h
theorem ya{P:Program}{t:TypeId}{k:Kind}(h:sX P t=some k):(∀w,(isAgg t).run P w=.ok (mI P t) w)∧zh P t=some k:=by
 unfold sX at h;cases hu:P.underlying t with
 |none=>simp[hu]at h
 |some d=>
  simp only[hu]at h;refine⟨fun w=>?_,h⟩
  simp only[isAgg,Sem.run_bind,af hu,Result.andThen_ok];unfold mI;rw[hu];cases d<;>rfl
theorem ri{P:Program}{t:TypeId}{v:Value}{K:RK}{h:ac}(d:wn P t v K h):
  ∃u S,K u (some S)∧S h∧∀w:World,S w.heap→(Instr.loadAt t v).run P w=.ok u w:=by
 unfold wn at d;cases v with
 |pointer p=>
  cases p with
  |none=>exact d.elim
  |some a=>
   simp only at d;cases hk:sX P t with
   |none=>simp[hk]at d
   |some k=>
    obtain⟨b,hz⟩:=ya hk;obtain⟨i,n,hc⟩:=x9 hz;rw[hk]at d;cases k with
    |c c=>
     obtain⟨x,hx,f⟩:=d;refine⟨_,_,f,hx,fun w g=>?_⟩
     have hc:mI P t=false:=hc;simp only[Instr.loadAt,Instr.sureAddr,loadVar,Sem.run_bind,Sem.run_pure,Result.andThen_ok,b,hc];simp[pr g]
    |agg cs=>
     obtain⟨vs,e,j,f⟩:=om cs 0 a h _ d;obtain⟨o,m⟩:mI P t=true∧i.size=cs.length:=hc;refine⟨_,_,f,j,fun w g=>?_⟩
     have hz:(sizeOf t).run P w=.ok vs.length w:=by simp[sizeOf,bj n,m,e]
     simp only[Instr.loadAt,Instr.sureAddr,loadVar,Sem.run_bind,Sem.run_pure,Result.andThen_ok,b,o];simp[hz,tY g]
 |_=>exact d.elim
end Go.Lift
